/- The law's act, where the reference is another plate. -/
import Derived.Test.YtcobkideokljfaaPlateV
namespace Go.Proofs.Ytcobkideokljfaa
open Go.RowKit Go.Proofs.YtcobkideokljfaaW.PrintWords Go.Proofs.YtcobkideokljfaaW.PrintLast Go.Proofs.YtcobkideokljfaaW.PrintMore Go.Proofs.Ytcobkideokljfaa.PA
set_option linter.unusedVariables false
set_option linter.unusedSimpArgs false
set_option maxHeartbeats 8000000 in
theorem do2_flush4 {w : World} {c : Nat} {sv wv : Value} {p q : St} {P : Nat → Prop} {x : Value} {sp : Int} (H : IsPlate w c sv wv p) (HR : RefIs w P x q sp) (hap : ∀ k, P k → ¬ Own c sv wv k) (hl : -1 ≤ q.left) (hl2 : q.left ≤ 1000000) (hwn : p.wet.length < 1000) (hwq : q.wet.length < 1000) (hsp : q.spare = mx sp 0) (hfq : Fit q) (hsz : q.safe.length = p.safe.length) (k y n : Int) (hk : 0 ≤ k ∧ k < 256) (A : Option Addr) (cb : Nat) (bs : List Int) (hr : ∀ W', Fr w W' (Own c sv wv) → Kd.C (Kd.int .u8) W' A bs.length bs) (h4 : k.tmod 8 = 4) :
    Calls Try.prog 13 #[.pointer (some ⟨c, 0, none⟩), x, .agg #[.int .u8 k, .int .i64 y, .int .i64 n, .slice A bs.length cb]] w fun e w' => ∃ x' wv' R r, e = .returned (.tuple #[x', .bool r]) ∧ IsPlate w' c sv wv' (doSt p (k.tmod 8) y n bs) ∧ RefIs w' R x' (doSt q (k.tmod 8) y n bs) (sp) ∧ (∀ k, R k → (P k ∨ w.heap.size ≤ k) ∧ ¬ Own c sv wv' k) ∧ Fr w w' (Own c sv wv) ∧ (∀ k, Own c sv wv' k → Own c sv wv k ∨ w.heap.size ≤ k) := by
  have HF : Aside0 (doSt p (k.tmod 8) y n bs = p.flush.1) := ⟨by rw [h4]; simp [doSt]⟩
  have HFX : Aside0 (doSt q (k.tmod 8) y n bs = q.flush.1) := ⟨by rw [h4]; simp [doSt]⟩
  obtain ⟨A0, c0, A1, c1, rfl, _, _⟩ := id HR
  have HH := Aside0.mk H
  have HHR := Aside0.mk HR
  have HAP := Aside0.mk hap
  have HRR := Aside0.mk hr
  have HSP := Aside0.mk hsp
  have HFQ := Aside0.mk hfq
  have HSZ := Aside0.mk hsz
  clear H HR hap hr hsp hfq hsz
  go_enter Try.func13, Try.ntmps13
  go_upto_region 8 with fail
  obtain ⟨g6, hg6⟩ : ∃ g, g = w.heap.size + 1 + 1 := ⟨_, rfl⟩
  obtain ⟨g5, hg5⟩ : ∃ g, g = w.heap.size + 1 := ⟨_, rfl⟩
  obtain ⟨g4, hg4⟩ : ∃ g, g = w.heap.size := ⟨_, rfl⟩
  obtain ⟨W, hW⟩ : ∃ W, W = ((w.alloc (.cells #[.slice A0 q.safe.length c0, .slice A1 q.wet.length c1, .int .i64 q.left, .int .i64 sp, .bool q.off, .int .i64 q.acts] 33)).alloc (.cells #[.int .u8 k, .int .i64 y, .int .i64 n, .slice A bs.length cb] 36)).alloc (.cells #[.slice none 0 0, .slice none 0 0, .int .i64 0, .int .i64 0, .bool false, .int .i64 0] 33) := ⟨_, rfl⟩
  have H0 : Aside0 (DoA w W g4 g5 g6 c sv wv wv p P (fun k => P k ∧ k < w.heap.size) (.agg #[.slice A0 q.safe.length c0, .slice A1 q.wet.length c1, .int .i64 q.left, .int .i64 sp, .bool q.off, .int .i64 q.acts]) q sp #[.slice A0 q.safe.length c0, .slice A1 q.wet.length c1, .int .i64 q.left, .int .i64 sp, .bool q.off, .int .i64 q.acts] #[.int .u8 k, .int .i64 y, .int .i64 n, .slice A bs.length cb]) := ⟨by
    have hb : Below w.heap.size w W := by rw [hW]; exact below_alloc (below_alloc (below_alloc (Below.refl w.heap.size w) _) _) _
    have s1 : (w.alloc (.cells #[.slice A0 q.safe.length c0, .slice A1 q.wet.length c1, .int .i64 q.left, .int .i64 sp, .bool q.off, .int .i64 q.acts] 33)).heap.size = w.heap.size + 1 := by simp
    have s2 : ((w.alloc (.cells #[.slice A0 q.safe.length c0, .slice A1 q.wet.length c1, .int .i64 q.left, .int .i64 sp, .bool q.off, .int .i64 q.acts] 33)).alloc (.cells #[.int .u8 k, .int .i64 y, .int .i64 n, .slice A bs.length cb] 36)).heap.size = w.heap.size + 1 + 1 := by simp
    have no : ∀ g, w.heap.size ≤ g → ¬ Own c sv wv g := fun g hg h => by have := HH.out.lt h; omega
    refine ⟨HH.out.below hb, Fr.of_below hb _, fun k hk => .inl hk, ⟨no _ (by omega), no _ (by omega), no _ (by omega)⟩, ?_, ?_, ?_, HHR.out.bound.below hb, fun k hk => ⟨HAP.out k hk.1, by have := hk.2; omega, by have := hk.2; omega, by have := hk.2; omega⟩, fun k hk => .inl hk.1, by omega, by omega, by omega⟩
    · rw [hW, hg4]; exact blk_alloc (blk_alloc (blk_new w _) _) _
    · rw [hW, hg5, ← s1]; exact blk_alloc (blk_new _ _) _
    · rw [hW, hg6, ← s2]; exact blk_new _ _⟩
  rw [← hW, ← hg6, ← hg5, ← hg4]
  clear hW hg6 hg5 hg4
  go_wp2_with fail
  go_at_call 11
  refine (flush_c H0.out.pl).mono ?_
  rintro e w1 ⟨rfl, ⟨wv1, h1, o1⟩, f1⟩
  have H1 := Aside0.mk (H0.out.plate h1 f1 (fun k hk => .inl (o1 k hk)))
  clear h1 o1 f1 H0
  obtain ⟨e0, e1, e2, e3, e4, e5, ef⟩ := cells6 H1.out.q4
  go_wp2_with fail
  go_at_call 26
  clear e0 e1 e2 e3 e4 e5 ef
  refine (rflush_c H1.out.r HFQ.out hl hl2).mono ?_
  rintro e w2 ⟨x', rfl, h2, hb⟩
  have H2 := Aside0.mk (H1.out.ref hb h2 (fun k hk => hk))
  obtain ⟨B0, d0, B1, d1, rfl, _, _⟩ := h2
  obtain ⟨p1, hp1⟩ : ∃ z, z = p.flush.1 := ⟨_, rfl⟩
  obtain ⟨q1, hq1⟩ : ∃ z, z = q.flush.1 := ⟨_, rfl⟩
  obtain ⟨r1, hr1⟩ : ∃ z, z = p.flush.2 := ⟨_, rfl⟩
  obtain ⟨r2, hr2⟩ : ∃ z, z = q.flush.2 := ⟨_, rfl⟩
  rw [← hp1] at H2 HF
  rw [← hq1] at H2 HFX ⊢
  rw [← hr1, ← hr2]
  clear hb H1 hp1 hr1 hq1 hr2
  go_upto_region 19 with (
    refine wp_store_at rfl 33 (.tmp 4) (.tmp 36) rfl g4 _ rfl rfl 33 _ H2.out.q4 (by kernel_rfl) rfl (by first | kernel_rfl | (simp [Value.oneCell']; done)) ?_
    intro V4 hv hV
    have H4 := Aside0.mk (H2.out.set4 (V' := V4) (by rw [hV]; exact Fr.row _ _ _) hv)
    clear hV hv
    obtain ⟨e0, e1, e2, e3, e4, e5, ef⟩ := cells6 H4.out.q4)
  clear e0 e1 e2 e3 e4 e5 ef
  obtain ⟨e0, e1, e2, e3, e4, e5, ef⟩ := cells6 H4.out.q4
  go_wp2_with (refine wp_store_at rfl 33 (.tmp 6) (.tmp 70) rfl g6 _ rfl rfl 33 _ H4.out.q6 (by kernel_rfl) rfl (by first | kernel_rfl | (simp [Value.oneCell']; done)) ?_
               intro V9 hv hV
               have HV9 := Aside0.mk hv
               have HE := Aside0.mk hV
               clear hV hv)
  refine bodyPost_ret (results_ct rfl _ _ g6 33 _ (0, 0) _ rfl HV9.out Try.underlying33 rfl (by kernel_rfl)) rfl ?_
  have hf9 : Fr V4 V9 (fun i => i = g6) := by rw [HE.out]; exact Fr.row _ _ _
  obtain ⟨z1, z2, z3, z4, z5⟩ := DoA.done H4.out hf9
  refine ⟨_, _, _, _, rfl, ?_, ?_, z3, z4, z5⟩
  · rw [HF.out]; exact z1
  · rw [HFX.out]; exact z2
set_option maxHeartbeats 8000000 in
theorem do2_flush5 {w : World} {c : Nat} {sv wv : Value} {p q : St} {P : Nat → Prop} {x : Value} {sp : Int} (H : IsPlate w c sv wv p) (HR : RefIs w P x q sp) (hap : ∀ k, P k → ¬ Own c sv wv k) (hl : -1 ≤ q.left) (hl2 : q.left ≤ 1000000) (hwn : p.wet.length < 1000) (hwq : q.wet.length < 1000) (hsp : q.spare = mx sp 0) (hfq : Fit q) (hsz : q.safe.length = p.safe.length) (k y n : Int) (hk : 0 ≤ k ∧ k < 256) (A : Option Addr) (cb : Nat) (bs : List Int) (hr : ∀ W', Fr w W' (Own c sv wv) → Kd.C (Kd.int .u8) W' A bs.length bs) (h4 : k.tmod 8 = 5) :
    Calls Try.prog 13 #[.pointer (some ⟨c, 0, none⟩), x, .agg #[.int .u8 k, .int .i64 y, .int .i64 n, .slice A bs.length cb]] w fun e w' => ∃ x' wv' R r, e = .returned (.tuple #[x', .bool r]) ∧ IsPlate w' c sv wv' (doSt p (k.tmod 8) y n bs) ∧ RefIs w' R x' (doSt q (k.tmod 8) y n bs) (sp) ∧ (∀ k, R k → (P k ∨ w.heap.size ≤ k) ∧ ¬ Own c sv wv' k) ∧ Fr w w' (Own c sv wv) ∧ (∀ k, Own c sv wv' k → Own c sv wv k ∨ w.heap.size ≤ k) := by
  have HF : Aside0 (doSt p (k.tmod 8) y n bs = p.flush.1) := ⟨by rw [h4]; simp [doSt]⟩
  have HFX : Aside0 (doSt q (k.tmod 8) y n bs = q.flush.1) := ⟨by rw [h4]; simp [doSt]⟩
  obtain ⟨A0, c0, A1, c1, rfl, _, _⟩ := id HR
  have HH := Aside0.mk H
  have HHR := Aside0.mk HR
  have HAP := Aside0.mk hap
  have HRR := Aside0.mk hr
  have HSP := Aside0.mk hsp
  have HFQ := Aside0.mk hfq
  have HSZ := Aside0.mk hsz
  clear H HR hap hr hsp hfq hsz
  go_enter Try.func13, Try.ntmps13
  go_upto_region 8 with fail
  obtain ⟨g6, hg6⟩ : ∃ g, g = w.heap.size + 1 + 1 := ⟨_, rfl⟩
  obtain ⟨g5, hg5⟩ : ∃ g, g = w.heap.size + 1 := ⟨_, rfl⟩
  obtain ⟨g4, hg4⟩ : ∃ g, g = w.heap.size := ⟨_, rfl⟩
  obtain ⟨W, hW⟩ : ∃ W, W = ((w.alloc (.cells #[.slice A0 q.safe.length c0, .slice A1 q.wet.length c1, .int .i64 q.left, .int .i64 sp, .bool q.off, .int .i64 q.acts] 33)).alloc (.cells #[.int .u8 k, .int .i64 y, .int .i64 n, .slice A bs.length cb] 36)).alloc (.cells #[.slice none 0 0, .slice none 0 0, .int .i64 0, .int .i64 0, .bool false, .int .i64 0] 33) := ⟨_, rfl⟩
  have H0 : Aside0 (DoA w W g4 g5 g6 c sv wv wv p P (fun k => P k ∧ k < w.heap.size) (.agg #[.slice A0 q.safe.length c0, .slice A1 q.wet.length c1, .int .i64 q.left, .int .i64 sp, .bool q.off, .int .i64 q.acts]) q sp #[.slice A0 q.safe.length c0, .slice A1 q.wet.length c1, .int .i64 q.left, .int .i64 sp, .bool q.off, .int .i64 q.acts] #[.int .u8 k, .int .i64 y, .int .i64 n, .slice A bs.length cb]) := ⟨by
    have hb : Below w.heap.size w W := by rw [hW]; exact below_alloc (below_alloc (below_alloc (Below.refl w.heap.size w) _) _) _
    have s1 : (w.alloc (.cells #[.slice A0 q.safe.length c0, .slice A1 q.wet.length c1, .int .i64 q.left, .int .i64 sp, .bool q.off, .int .i64 q.acts] 33)).heap.size = w.heap.size + 1 := by simp
    have s2 : ((w.alloc (.cells #[.slice A0 q.safe.length c0, .slice A1 q.wet.length c1, .int .i64 q.left, .int .i64 sp, .bool q.off, .int .i64 q.acts] 33)).alloc (.cells #[.int .u8 k, .int .i64 y, .int .i64 n, .slice A bs.length cb] 36)).heap.size = w.heap.size + 1 + 1 := by simp
    have no : ∀ g, w.heap.size ≤ g → ¬ Own c sv wv g := fun g hg h => by have := HH.out.lt h; omega
    refine ⟨HH.out.below hb, Fr.of_below hb _, fun k hk => .inl hk, ⟨no _ (by omega), no _ (by omega), no _ (by omega)⟩, ?_, ?_, ?_, HHR.out.bound.below hb, fun k hk => ⟨HAP.out k hk.1, by have := hk.2; omega, by have := hk.2; omega, by have := hk.2; omega⟩, fun k hk => .inl hk.1, by omega, by omega, by omega⟩
    · rw [hW, hg4]; exact blk_alloc (blk_alloc (blk_new w _) _) _
    · rw [hW, hg5, ← s1]; exact blk_alloc (blk_new _ _) _
    · rw [hW, hg6, ← s2]; exact blk_new _ _⟩
  rw [← hW, ← hg6, ← hg5, ← hg4]
  clear hW hg6 hg5 hg4
  go_wp2_with fail
  go_at_call 11
  refine (flush_c H0.out.pl).mono ?_
  rintro e w1 ⟨rfl, ⟨wv1, h1, o1⟩, f1⟩
  have H1 := Aside0.mk (H0.out.plate h1 f1 (fun k hk => .inl (o1 k hk)))
  clear h1 o1 f1 H0
  obtain ⟨e0, e1, e2, e3, e4, e5, ef⟩ := cells6 H1.out.q4
  go_wp2_with fail
  go_at_call 26
  clear e0 e1 e2 e3 e4 e5 ef
  refine (rflush_c H1.out.r HFQ.out hl hl2).mono ?_
  rintro e w2 ⟨x', rfl, h2, hb⟩
  have H2 := Aside0.mk (H1.out.ref hb h2 (fun k hk => hk))
  obtain ⟨B0, d0, B1, d1, rfl, _, _⟩ := h2
  obtain ⟨p1, hp1⟩ : ∃ z, z = p.flush.1 := ⟨_, rfl⟩
  obtain ⟨q1, hq1⟩ : ∃ z, z = q.flush.1 := ⟨_, rfl⟩
  obtain ⟨r1, hr1⟩ : ∃ z, z = p.flush.2 := ⟨_, rfl⟩
  obtain ⟨r2, hr2⟩ : ∃ z, z = q.flush.2 := ⟨_, rfl⟩
  rw [← hp1] at H2 HF
  rw [← hq1] at H2 HFX ⊢
  rw [← hr1, ← hr2]
  clear hb H1 hp1 hr1 hq1 hr2
  go_upto_region 19 with (
    refine wp_store_at rfl 33 (.tmp 4) (.tmp 36) rfl g4 _ rfl rfl 33 _ H2.out.q4 (by kernel_rfl) rfl (by first | kernel_rfl | (simp [Value.oneCell']; done)) ?_
    intro V4 hv hV
    have H4 := Aside0.mk (H2.out.set4 (V' := V4) (by rw [hV]; exact Fr.row _ _ _) hv)
    clear hV hv
    obtain ⟨e0, e1, e2, e3, e4, e5, ef⟩ := cells6 H4.out.q4)
  clear e0 e1 e2 e3 e4 e5 ef
  obtain ⟨e0, e1, e2, e3, e4, e5, ef⟩ := cells6 H4.out.q4
  go_wp2_with (refine wp_store_at rfl 33 (.tmp 6) (.tmp 70) rfl g6 _ rfl rfl 33 _ H4.out.q6 (by kernel_rfl) rfl (by first | kernel_rfl | (simp [Value.oneCell']; done)) ?_
               intro V9 hv hV
               have HV9 := Aside0.mk hv
               have HE := Aside0.mk hV
               clear hV hv)
  refine bodyPost_ret (results_ct rfl _ _ g6 33 _ (0, 0) _ rfl HV9.out Try.underlying33 rfl (by kernel_rfl)) rfl ?_
  have hf9 : Fr V4 V9 (fun i => i = g6) := by rw [HE.out]; exact Fr.row _ _ _
  obtain ⟨z1, z2, z3, z4, z5⟩ := DoA.done H4.out hf9
  refine ⟨_, _, _, _, rfl, ?_, ?_, z3, z4, z5⟩
  · rw [HF.out]; exact z1
  · rw [HFX.out]; exact z2
set_option maxHeartbeats 8000000 in
theorem do2_arm {w : World} {c : Nat} {sv wv : Value} {p q : St} {P : Nat → Prop} {x : Value} {sp : Int} (H : IsPlate w c sv wv p) (HR : RefIs w P x q sp) (hap : ∀ k, P k → ¬ Own c sv wv k) (hl : -1 ≤ q.left) (hl2 : q.left ≤ 1000000) (hwn : p.wet.length < 1000) (hwq : q.wet.length < 1000) (hsp : q.spare = mx sp 0) (hfq : Fit q) (hsz : q.safe.length = p.safe.length) (k y n : Int) (hk : 0 ≤ k ∧ k < 256) (A : Option Addr) (cb : Nat) (bs : List Int) (hr : ∀ W', Fr w W' (Own c sv wv) → Kd.C (Kd.int .u8) W' A bs.length bs) (h4 : k.tmod 8 = 6) :
    Calls Try.prog 13 #[.pointer (some ⟨c, 0, none⟩), x, .agg #[.int .u8 k, .int .i64 y, .int .i64 n, .slice A bs.length cb]] w fun e w' => ∃ x' wv' R r, e = .returned (.tuple #[x', .bool r]) ∧ IsPlate w' c sv wv' (doSt p (k.tmod 8) y n bs) ∧ RefIs w' R x' (doSt q (k.tmod 8) y n bs) (n.tmod 80) ∧ (∀ k, R k → (P k ∨ w.heap.size ≤ k) ∧ ¬ Own c sv wv' k) ∧ Fr w w' (Own c sv wv) ∧ (∀ k, Own c sv wv' k → Own c sv wv k ∨ w.heap.size ≤ k) := by
  have HF : Aside0 (doSt p (k.tmod 8) y n bs = p.arm (y.tmod 9) (n.tmod 80)) := ⟨by rw [h4]; simp [doSt]⟩
  have HFX : Aside0 (doSt q (k.tmod 8) y n bs = q.arm (y.tmod 9) (n.tmod 80)) := ⟨by rw [h4]; simp [doSt]⟩
  have hyy := Int.lt_tmod_of_pos y (show (0 : Int) < 9 by omega)
  have HY9 := Aside0.mk hyy
  clear hyy
  by_cases hneg : y.tmod 9 < 0
  · obtain ⟨A0, c0, A1, c1, rfl, _, _⟩ := id HR
    have HH := Aside0.mk H
    have HHR := Aside0.mk HR
    have HAP := Aside0.mk hap
    have HRR := Aside0.mk hr
    have HSP := Aside0.mk hsp
    have HFQ := Aside0.mk hfq
    have HSZ := Aside0.mk hsz
    clear H HR hap hr hsp hfq hsz
    go_enter Try.func13, Try.ntmps13
    go_upto_region 11 with fail
    obtain ⟨g6, hg6⟩ : ∃ g, g = w.heap.size + 1 + 1 := ⟨_, rfl⟩
    obtain ⟨g5, hg5⟩ : ∃ g, g = w.heap.size + 1 := ⟨_, rfl⟩
    obtain ⟨g4, hg4⟩ : ∃ g, g = w.heap.size := ⟨_, rfl⟩
    obtain ⟨W, hW⟩ : ∃ W, W = ((w.alloc (.cells #[.slice A0 q.safe.length c0, .slice A1 q.wet.length c1, .int .i64 q.left, .int .i64 sp, .bool q.off, .int .i64 q.acts] 33)).alloc (.cells #[.int .u8 k, .int .i64 y, .int .i64 n, .slice A bs.length cb] 36)).alloc (.cells #[.slice none 0 0, .slice none 0 0, .int .i64 0, .int .i64 0, .bool false, .int .i64 0] 33) := ⟨_, rfl⟩
    have H0 : Aside0 (DoA w W g4 g5 g6 c sv wv wv p P (fun k => P k ∧ k < w.heap.size) (.agg #[.slice A0 q.safe.length c0, .slice A1 q.wet.length c1, .int .i64 q.left, .int .i64 sp, .bool q.off, .int .i64 q.acts]) q sp #[.slice A0 q.safe.length c0, .slice A1 q.wet.length c1, .int .i64 q.left, .int .i64 sp, .bool q.off, .int .i64 q.acts] #[.int .u8 k, .int .i64 y, .int .i64 n, .slice A bs.length cb]) := ⟨by
      have hb : Below w.heap.size w W := by rw [hW]; exact below_alloc (below_alloc (below_alloc (Below.refl w.heap.size w) _) _) _
      have s1 : (w.alloc (.cells #[.slice A0 q.safe.length c0, .slice A1 q.wet.length c1, .int .i64 q.left, .int .i64 sp, .bool q.off, .int .i64 q.acts] 33)).heap.size = w.heap.size + 1 := by simp
      have s2 : ((w.alloc (.cells #[.slice A0 q.safe.length c0, .slice A1 q.wet.length c1, .int .i64 q.left, .int .i64 sp, .bool q.off, .int .i64 q.acts] 33)).alloc (.cells #[.int .u8 k, .int .i64 y, .int .i64 n, .slice A bs.length cb] 36)).heap.size = w.heap.size + 1 + 1 := by simp
      have no : ∀ g, w.heap.size ≤ g → ¬ Own c sv wv g := fun g hg h => by have := HH.out.lt h; omega
      refine ⟨HH.out.below hb, Fr.of_below hb _, fun k hk => .inl hk, ⟨no _ (by omega), no _ (by omega), no _ (by omega)⟩, ?_, ?_, ?_, HHR.out.bound.below hb, fun k hk => ⟨HAP.out k hk.1, by have := hk.2; omega, by have := hk.2; omega, by have := hk.2; omega⟩, fun k hk => .inl hk.1, by omega, by omega, by omega⟩
      · rw [hW, hg4]; exact blk_alloc (blk_alloc (blk_new w _) _) _
      · rw [hW, hg5, ← s1]; exact blk_alloc (blk_new _ _) _
      · rw [hW, hg6, ← s2]; exact blk_new _ _⟩
    rw [← hW, ← hg6, ← hg5, ← hg4]
    clear hW hg6 hg5 hg4
    have q5 := cells4 H0.out.q5
    obtain ⟨a0, a1, a2, a3, af⟩ := q5
    go_wp2_with fail
    go_at_call 16
    refine (arm_c H0.out.pl (y.tmod 9) (n.tmod 80)).mono ?_
    rintro e w1 ⟨rfl, h1, f1⟩
    have H1 := Aside0.mk (H0.out.plate h1 (f1.mono (fun i h => .inl h)) (fun k hk => .inl hk))
    clear h1 f1 H0 a0 a1 a2 a3 af
    obtain ⟨e0, e1, e2, e3, e4, e5, ef⟩ := cells6 H1.out.q4
    have q5 := cells4 H1.out.q5
    obtain ⟨a0, a1, a2, a3, af⟩ := q5
    have n1 : g4 ≠ g5 := by have := H1.out.e; omega
    have n2 : g5 ≠ g4 := by have := H1.out.e; omega
    go_upto_region 19 with fail
    obtain ⟨V4, hV4⟩ : ∃ V, V = (((w1.setCell ⟨g4, 2, none⟩ (.int .i64 (y.tmod 9))).setCell ⟨g4, 2, none⟩ (.int .i64 (-1))).setCell ⟨g4, 3, none⟩ (.int .i64 (n.tmod 80))) := ⟨_, rfl⟩
    have H4 : Aside0 (DoA w V4 g4 g5 g6 c sv wv wv (p.arm (y.tmod 9) (n.tmod 80)) P _ (.agg #[.slice A0 q.safe.length c0, .slice A1 q.wet.length c1, (.int .i64 (-1)), .int .i64 (n.tmod 80), .bool q.off, .int .i64 q.acts]) (q.arm (y.tmod 9) (n.tmod 80)) (n.tmod 80) #[.slice A0 q.safe.length c0, .slice A1 q.wet.length c1, (.int .i64 (-1)), .int .i64 (n.tmod 80), .bool q.off, .int .i64 q.acts] #[.int .u8 k, .int .i64 y, .int .i64 n, .slice A bs.length cb]) := ⟨by
      have h := H1.out.set4 (V' := V4) (cs := #[.slice A0 q.safe.length c0, .slice A1 q.wet.length c1, (.int .i64 (-1)), .int .i64 (n.tmod 80), .bool q.off, .int .i64 q.acts]) (by rw [hV4]; exact ((((Fr.refl w1 (fun i => i = g4)).set (p := ⟨g4, 2, none⟩) (.inl rfl) _).set (p := ⟨g4, 2, none⟩) (.inl rfl) _).set (p := ⟨g4, 3, none⟩) (.inl rfl) _)) (by rw [hV4]; exact (blk_put (blk_put (blk_put H1.out.q4 2 (.int .i64 (y.tmod 9)) rfl) 2 (.int .i64 (-1)) rfl) 3 (.int .i64 (n.tmod 80)) rfl))
      have e : (q.arm (y.tmod 9) (n.tmod 80)).left = -1 := by have := HY9.out; simp only [St.arm]; unfold mx; split <;> omega
      obtain ⟨r0, r1⟩ := RefIs.get h.r
      exact ⟨h.pl, h.fr, h.ow, h.on, h.q4, h.q5, h.q6, by have h2 := RefIs.mk (p := q.arm (y.tmod 9) (n.tmod 80)) (sp := n.tmod 80) r0 r1; rw [e] at h2; exact h2, h.rn, h.rp, h.e⟩⟩
    rw [← hV4]
    clear hV4 e0 e1 e2 e3 e4 e5 ef
    obtain ⟨e0, e1, e2, e3, e4, e5, ef⟩ := cells6 H4.out.q4
    go_wp2_with (refine wp_store_at rfl 33 (.tmp 6) (.tmp 70) rfl g6 _ rfl rfl 33 _ H4.out.q6 (by kernel_rfl) rfl (by first | kernel_rfl | (simp [Value.oneCell']; done)) ?_
                 intro V9 hv hV
                 have HV9 := Aside0.mk hv
                 have HE := Aside0.mk hV
                 clear hV hv)
    refine bodyPost_ret (results_ct rfl _ _ g6 33 _ (0, 0) _ rfl HV9.out Try.underlying33 rfl (by kernel_rfl)) rfl ?_
    have hf9 : Fr V4 V9 (fun i => i = g6) := by rw [HE.out]; exact Fr.row _ _ _
    obtain ⟨z1, z2, z3, z4, z5⟩ := DoA.done H4.out hf9
    refine ⟨_, _, _, _, rfl, ?_, ?_, z3, z4, z5⟩
    · rw [HF.out]; exact z1
    · rw [HFX.out]; exact z2
  · obtain ⟨A0, c0, A1, c1, rfl, _, _⟩ := id HR
    have HH := Aside0.mk H
    have HHR := Aside0.mk HR
    have HAP := Aside0.mk hap
    have HRR := Aside0.mk hr
    have HSP := Aside0.mk hsp
    have HFQ := Aside0.mk hfq
    have HSZ := Aside0.mk hsz
    clear H HR hap hr hsp hfq hsz
    go_enter Try.func13, Try.ntmps13
    go_upto_region 11 with fail
    obtain ⟨g6, hg6⟩ : ∃ g, g = w.heap.size + 1 + 1 := ⟨_, rfl⟩
    obtain ⟨g5, hg5⟩ : ∃ g, g = w.heap.size + 1 := ⟨_, rfl⟩
    obtain ⟨g4, hg4⟩ : ∃ g, g = w.heap.size := ⟨_, rfl⟩
    obtain ⟨W, hW⟩ : ∃ W, W = ((w.alloc (.cells #[.slice A0 q.safe.length c0, .slice A1 q.wet.length c1, .int .i64 q.left, .int .i64 sp, .bool q.off, .int .i64 q.acts] 33)).alloc (.cells #[.int .u8 k, .int .i64 y, .int .i64 n, .slice A bs.length cb] 36)).alloc (.cells #[.slice none 0 0, .slice none 0 0, .int .i64 0, .int .i64 0, .bool false, .int .i64 0] 33) := ⟨_, rfl⟩
    have H0 : Aside0 (DoA w W g4 g5 g6 c sv wv wv p P (fun k => P k ∧ k < w.heap.size) (.agg #[.slice A0 q.safe.length c0, .slice A1 q.wet.length c1, .int .i64 q.left, .int .i64 sp, .bool q.off, .int .i64 q.acts]) q sp #[.slice A0 q.safe.length c0, .slice A1 q.wet.length c1, .int .i64 q.left, .int .i64 sp, .bool q.off, .int .i64 q.acts] #[.int .u8 k, .int .i64 y, .int .i64 n, .slice A bs.length cb]) := ⟨by
      have hb : Below w.heap.size w W := by rw [hW]; exact below_alloc (below_alloc (below_alloc (Below.refl w.heap.size w) _) _) _
      have s1 : (w.alloc (.cells #[.slice A0 q.safe.length c0, .slice A1 q.wet.length c1, .int .i64 q.left, .int .i64 sp, .bool q.off, .int .i64 q.acts] 33)).heap.size = w.heap.size + 1 := by simp
      have s2 : ((w.alloc (.cells #[.slice A0 q.safe.length c0, .slice A1 q.wet.length c1, .int .i64 q.left, .int .i64 sp, .bool q.off, .int .i64 q.acts] 33)).alloc (.cells #[.int .u8 k, .int .i64 y, .int .i64 n, .slice A bs.length cb] 36)).heap.size = w.heap.size + 1 + 1 := by simp
      have no : ∀ g, w.heap.size ≤ g → ¬ Own c sv wv g := fun g hg h => by have := HH.out.lt h; omega
      refine ⟨HH.out.below hb, Fr.of_below hb _, fun k hk => .inl hk, ⟨no _ (by omega), no _ (by omega), no _ (by omega)⟩, ?_, ?_, ?_, HHR.out.bound.below hb, fun k hk => ⟨HAP.out k hk.1, by have := hk.2; omega, by have := hk.2; omega, by have := hk.2; omega⟩, fun k hk => .inl hk.1, by omega, by omega, by omega⟩
      · rw [hW, hg4]; exact blk_alloc (blk_alloc (blk_new w _) _) _
      · rw [hW, hg5, ← s1]; exact blk_alloc (blk_new _ _) _
      · rw [hW, hg6, ← s2]; exact blk_new _ _⟩
    rw [← hW, ← hg6, ← hg5, ← hg4]
    clear hW hg6 hg5 hg4
    have q5 := cells4 H0.out.q5
    obtain ⟨a0, a1, a2, a3, af⟩ := q5
    go_wp2_with fail
    go_at_call 16
    refine (arm_c H0.out.pl (y.tmod 9) (n.tmod 80)).mono ?_
    rintro e w1 ⟨rfl, h1, f1⟩
    have H1 := Aside0.mk (H0.out.plate h1 (f1.mono (fun i h => .inl h)) (fun k hk => .inl hk))
    clear h1 f1 H0 a0 a1 a2 a3 af
    obtain ⟨e0, e1, e2, e3, e4, e5, ef⟩ := cells6 H1.out.q4
    have q5 := cells4 H1.out.q5
    obtain ⟨a0, a1, a2, a3, af⟩ := q5
    have n1 : g4 ≠ g5 := by have := H1.out.e; omega
    have n2 : g5 ≠ g4 := by have := H1.out.e; omega
    go_upto_region 19 with fail
    obtain ⟨V4, hV4⟩ : ∃ V, V = ((w1.setCell ⟨g4, 2, none⟩ (.int .i64 (y.tmod 9))).setCell ⟨g4, 3, none⟩ (.int .i64 (n.tmod 80))) := ⟨_, rfl⟩
    have H4 : Aside0 (DoA w V4 g4 g5 g6 c sv wv wv (p.arm (y.tmod 9) (n.tmod 80)) P _ (.agg #[.slice A0 q.safe.length c0, .slice A1 q.wet.length c1, (.int .i64 (y.tmod 9)), .int .i64 (n.tmod 80), .bool q.off, .int .i64 q.acts]) (q.arm (y.tmod 9) (n.tmod 80)) (n.tmod 80) #[.slice A0 q.safe.length c0, .slice A1 q.wet.length c1, (.int .i64 (y.tmod 9)), .int .i64 (n.tmod 80), .bool q.off, .int .i64 q.acts] #[.int .u8 k, .int .i64 y, .int .i64 n, .slice A bs.length cb]) := ⟨by
      have h := H1.out.set4 (V' := V4) (cs := #[.slice A0 q.safe.length c0, .slice A1 q.wet.length c1, (.int .i64 (y.tmod 9)), .int .i64 (n.tmod 80), .bool q.off, .int .i64 q.acts]) (by rw [hV4]; exact (((Fr.refl w1 (fun i => i = g4)).set (p := ⟨g4, 2, none⟩) (.inl rfl) _).set (p := ⟨g4, 3, none⟩) (.inl rfl) _)) (by rw [hV4]; exact (blk_put (blk_put H1.out.q4 2 (.int .i64 (y.tmod 9)) rfl) 3 (.int .i64 (n.tmod 80)) rfl))
      have e : (q.arm (y.tmod 9) (n.tmod 80)).left = y.tmod 9 := by have := HY9.out; simp only [St.arm]; unfold mx; split <;> omega
      obtain ⟨r0, r1⟩ := RefIs.get h.r
      exact ⟨h.pl, h.fr, h.ow, h.on, h.q4, h.q5, h.q6, by have h2 := RefIs.mk (p := q.arm (y.tmod 9) (n.tmod 80)) (sp := n.tmod 80) r0 r1; rw [e] at h2; exact h2, h.rn, h.rp, h.e⟩⟩
    rw [← hV4]
    clear hV4 e0 e1 e2 e3 e4 e5 ef
    obtain ⟨e0, e1, e2, e3, e4, e5, ef⟩ := cells6 H4.out.q4
    go_wp2_with (refine wp_store_at rfl 33 (.tmp 6) (.tmp 70) rfl g6 _ rfl rfl 33 _ H4.out.q6 (by kernel_rfl) rfl (by first | kernel_rfl | (simp [Value.oneCell']; done)) ?_
                 intro V9 hv hV
                 have HV9 := Aside0.mk hv
                 have HE := Aside0.mk hV
                 clear hV hv)
    refine bodyPost_ret (results_ct rfl _ _ g6 33 _ (0, 0) _ rfl HV9.out Try.underlying33 rfl (by kernel_rfl)) rfl ?_
    have hf9 : Fr V4 V9 (fun i => i = g6) := by rw [HE.out]; exact Fr.row _ _ _
    obtain ⟨z1, z2, z3, z4, z5⟩ := DoA.done H4.out hf9
    refine ⟨_, _, _, _, rfl, ?_, ?_, z3, z4, z5⟩
    · rw [HF.out]; exact z1
    · rw [HFX.out]; exact z2
set_option maxHeartbeats 8000000 in
theorem do2_fall {w : World} {c : Nat} {sv wv : Value} {p q : St} {P : Nat → Prop} {x : Value} {sp : Int} (H : IsPlate w c sv wv p) (HR : RefIs w P x q sp) (hap : ∀ k, P k → ¬ Own c sv wv k) (hl : -1 ≤ q.left) (hl2 : q.left ≤ 1000000) (hwn : p.wet.length < 1000) (hwq : q.wet.length < 1000) (hsp : q.spare = mx sp 0) (hfq : Fit q) (hsz : q.safe.length = p.safe.length) (k y n : Int) (hk : 0 ≤ k ∧ k < 256) (A : Option Addr) (cb : Nat) (bs : List Int) (hr : ∀ W', Fr w W' (Own c sv wv) → Kd.C (Kd.int .u8) W' A bs.length bs) (h4 : k.tmod 8 = 7) :
    Calls Try.prog 13 #[.pointer (some ⟨c, 0, none⟩), x, .agg #[.int .u8 k, .int .i64 y, .int .i64 n, .slice A bs.length cb]] w fun e w' => ∃ x' wv' R r, e = .returned (.tuple #[x', .bool r]) ∧ IsPlate w' c sv wv' (doSt p (k.tmod 8) y n bs) ∧ RefIs w' R x' (doSt q (k.tmod 8) y n bs) (0) ∧ (∀ k, R k → (P k ∨ w.heap.size ≤ k) ∧ ¬ Own c sv wv' k) ∧ Fr w w' (Own c sv wv) ∧ (∀ k, Own c sv wv' k → Own c sv wv k ∨ w.heap.size ≤ k) := by
  have HF : Aside0 (doSt p (k.tmod 8) y n bs = p.fall n.toNat) := ⟨by rw [h4]; simp [doSt]⟩
  have HFX : Aside0 (doSt q (k.tmod 8) y n bs = q.fall n.toNat) := ⟨by rw [h4]; simp [doSt]⟩
  obtain ⟨A0, c0, A1, c1, rfl, _, _⟩ := id HR
  have HH := Aside0.mk H
  have HHR := Aside0.mk HR
  have HAP := Aside0.mk hap
  have HRR := Aside0.mk hr
  have HSP := Aside0.mk hsp
  have HFQ := Aside0.mk hfq
  have HSZ := Aside0.mk hsz
  clear H HR hap hr hsp hfq hsz
  go_enter Try.func13, Try.ntmps13
  go_upto_region 17 with fail
  obtain ⟨g6, hg6⟩ : ∃ g, g = w.heap.size + 1 + 1 := ⟨_, rfl⟩
  obtain ⟨g5, hg5⟩ : ∃ g, g = w.heap.size + 1 := ⟨_, rfl⟩
  obtain ⟨g4, hg4⟩ : ∃ g, g = w.heap.size := ⟨_, rfl⟩
  obtain ⟨W, hW⟩ : ∃ W, W = ((w.alloc (.cells #[.slice A0 q.safe.length c0, .slice A1 q.wet.length c1, .int .i64 q.left, .int .i64 sp, .bool q.off, .int .i64 q.acts] 33)).alloc (.cells #[.int .u8 k, .int .i64 y, .int .i64 n, .slice A bs.length cb] 36)).alloc (.cells #[.slice none 0 0, .slice none 0 0, .int .i64 0, .int .i64 0, .bool false, .int .i64 0] 33) := ⟨_, rfl⟩
  have H0 : Aside0 (DoA w W g4 g5 g6 c sv wv wv p P (fun k => P k ∧ k < w.heap.size) (.agg #[.slice A0 q.safe.length c0, .slice A1 q.wet.length c1, .int .i64 q.left, .int .i64 sp, .bool q.off, .int .i64 q.acts]) q sp #[.slice A0 q.safe.length c0, .slice A1 q.wet.length c1, .int .i64 q.left, .int .i64 sp, .bool q.off, .int .i64 q.acts] #[.int .u8 k, .int .i64 y, .int .i64 n, .slice A bs.length cb]) := ⟨by
    have hb : Below w.heap.size w W := by rw [hW]; exact below_alloc (below_alloc (below_alloc (Below.refl w.heap.size w) _) _) _
    have s1 : (w.alloc (.cells #[.slice A0 q.safe.length c0, .slice A1 q.wet.length c1, .int .i64 q.left, .int .i64 sp, .bool q.off, .int .i64 q.acts] 33)).heap.size = w.heap.size + 1 := by simp
    have s2 : ((w.alloc (.cells #[.slice A0 q.safe.length c0, .slice A1 q.wet.length c1, .int .i64 q.left, .int .i64 sp, .bool q.off, .int .i64 q.acts] 33)).alloc (.cells #[.int .u8 k, .int .i64 y, .int .i64 n, .slice A bs.length cb] 36)).heap.size = w.heap.size + 1 + 1 := by simp
    have no : ∀ g, w.heap.size ≤ g → ¬ Own c sv wv g := fun g hg h => by have := HH.out.lt h; omega
    refine ⟨HH.out.below hb, Fr.of_below hb _, fun k hk => .inl hk, ⟨no _ (by omega), no _ (by omega), no _ (by omega)⟩, ?_, ?_, ?_, HHR.out.bound.below hb, fun k hk => ⟨HAP.out k hk.1, by have := hk.2; omega, by have := hk.2; omega, by have := hk.2; omega⟩, fun k hk => .inl hk.1, by omega, by omega, by omega⟩
    · rw [hW, hg4]; exact blk_alloc (blk_alloc (blk_new w _) _) _
    · rw [hW, hg5, ← s1]; exact blk_alloc (blk_new _ _) _
    · rw [hW, hg6, ← s2]; exact blk_new _ _⟩
  rw [← hW, ← hg6, ← hg5, ← hg4]
  clear hW hg6 hg5 hg4
  have q5 := cells4 H0.out.q5
  obtain ⟨a0, a1, a2, a3, af⟩ := q5
  go_wp2_with fail
  go_at_call 14
  refine (fall_c H0.out.pl n).mono ?_
  rintro e w1 ⟨rfl, h1, f1⟩
  have H1 := Aside0.mk (H0.out.plate h1 f1 own_nilw)
  clear h1 f1 H0 a0 a1 a2 a3 af
  obtain ⟨e0, e1, e2, e3, e4, e5, ef⟩ := cells6 H1.out.q4
  have q5 := cells4 H1.out.q5
  obtain ⟨a0, a1, a2, a3, af⟩ := q5
  go_wp2_with fail
  go_at_call 27
  clear e0 e1 e2 e3 e4 e5 ef a0 a1 a2 a3 af
  refine (rfall_c H1.out.r HFQ.out n).mono ?_
  rintro e w2 ⟨x', rfl, h2, hb⟩
  have H2 := Aside0.mk (H1.out.ref hb h2 (fun k hk => hk))
  obtain ⟨B0, d0, B1, d1, rfl, _, _⟩ := h2
  obtain ⟨p1, hp1⟩ : ∃ z, z = p.fall n.toNat := ⟨_, rfl⟩
  obtain ⟨q1, hq1⟩ : ∃ z, z = q.fall n.toNat := ⟨_, rfl⟩
  rw [← hp1] at H2 HF
  rw [← hq1] at H2 HFX ⊢
  clear hb H1 hp1 hq1
  go_upto_region 19 with (
    refine wp_store_at rfl 33 (.tmp 4) (.tmp 69) rfl g4 _ rfl rfl 33 _ H2.out.q4 (by kernel_rfl) rfl (by first | kernel_rfl | (simp [Value.oneCell']; done)) ?_
    intro V4 hv hV
    have H4 := Aside0.mk (H2.out.set4 (V' := V4) (by rw [hV]; exact Fr.row _ _ _) hv)
    clear hV hv
    obtain ⟨e0, e1, e2, e3, e4, e5, ef⟩ := cells6 H4.out.q4)
  clear e0 e1 e2 e3 e4 e5 ef
  obtain ⟨e0, e1, e2, e3, e4, e5, ef⟩ := cells6 H4.out.q4
  go_wp2_with (refine wp_store_at rfl 33 (.tmp 6) (.tmp 70) rfl g6 _ rfl rfl 33 _ H4.out.q6 (by kernel_rfl) rfl (by first | kernel_rfl | (simp [Value.oneCell']; done)) ?_
               intro V9 hv hV
               have HV9 := Aside0.mk hv
               have HE := Aside0.mk hV
               clear hV hv)
  refine bodyPost_ret (results_ct rfl _ _ g6 33 _ (0, 0) _ rfl HV9.out Try.underlying33 rfl (by kernel_rfl)) rfl ?_
  have hf9 : Fr V4 V9 (fun i => i = g6) := by rw [HE.out]; exact Fr.row _ _ _
  obtain ⟨z1, z2, z3, z4, z5⟩ := DoA.done H4.out hf9
  refine ⟨_, _, _, _, rfl, ?_, ?_, z3, z4, z5⟩
  · rw [HF.out]; exact z1
  · rw [HFX.out]; exact z2
set_option maxHeartbeats 8000000 in
theorem do2_write0 {w : World} {c : Nat} {sv wv : Value} {p q : St} {P : Nat → Prop} {x : Value} {sp : Int} (H : IsPlate w c sv wv p) (HR : RefIs w P x q sp) (hap : ∀ k, P k → ¬ Own c sv wv k) (hl : -1 ≤ q.left) (hl2 : q.left ≤ 1000000) (hwn : p.wet.length < 1000) (hwq : q.wet.length < 1000) (hsp : q.spare = mx sp 0) (hfq : Fit q) (hsz : q.safe.length = p.safe.length) (k y n : Int) (hk : 0 ≤ k ∧ k < 256) (A : Option Addr) (cb : Nat) (bs : List Int) (hr : ∀ W', Fr w W' (Own c sv wv) → Kd.C (Kd.int .u8) W' A bs.length bs) (h4 : k.tmod 8 = 0) (hin : 0 ≤ y ∧ y < p.safe.length ∧ bs.length ≤ 64) :
    Calls Try.prog 13 #[.pointer (some ⟨c, 0, none⟩), x, .agg #[.int .u8 k, .int .i64 y, .int .i64 n, .slice A bs.length cb]] w fun e w' => ∃ x' wv' R r, e = .returned (.tuple #[x', .bool r]) ∧ IsPlate w' c sv wv' (doSt p (k.tmod 8) y n bs) ∧ RefIs w' R x' (doSt q (k.tmod 8) y n bs) (sp) ∧ (∀ k, R k → (P k ∨ w.heap.size ≤ k) ∧ ¬ Own c sv wv' k) ∧ Fr w w' (Own c sv wv) ∧ (∀ k, Own c sv wv' k → Own c sv wv k ∨ w.heap.size ≤ k) := by
  have HF : Aside0 (doSt p (k.tmod 8) y n bs = (p.write y.toNat bs).1) := ⟨by rw [h4]; simp [doSt, hin]⟩
  have HFX : Aside0 (doSt q (k.tmod 8) y n bs = (q.write y.toNat bs).1) := ⟨by rw [h4]; simp [doSt, hsz, hin]⟩
  obtain ⟨i, rfl⟩ : ∃ i : Nat, y = (i : Int) := ⟨y.toNat, by omega⟩
  have HIN : Aside0 (i < p.safe.length ∧ bs.length ≤ 64) := ⟨by omega, hin.2.2⟩
  rw [Int.toNat_natCast] at HF HFX
  clear hin
  obtain ⟨A0, c0, A1, c1, rfl, _, _⟩ := id HR
  have HH := Aside0.mk H
  have HHR := Aside0.mk HR
  have HAP := Aside0.mk hap
  have HRR := Aside0.mk hr
  have HSP := Aside0.mk hsp
  have HFQ := Aside0.mk hfq
  have HSZ := Aside0.mk hsz
  clear H HR hap hr hsp hfq hsz
  go_enter Try.func13, Try.ntmps13
  go_upto_region 4 with fail
  obtain ⟨g6, hg6⟩ : ∃ g, g = w.heap.size + 1 + 1 := ⟨_, rfl⟩
  obtain ⟨g5, hg5⟩ : ∃ g, g = w.heap.size + 1 := ⟨_, rfl⟩
  obtain ⟨g4, hg4⟩ : ∃ g, g = w.heap.size := ⟨_, rfl⟩
  obtain ⟨W, hW⟩ : ∃ W, W = ((w.alloc (.cells #[.slice A0 q.safe.length c0, .slice A1 q.wet.length c1, .int .i64 q.left, .int .i64 sp, .bool q.off, .int .i64 q.acts] 33)).alloc (.cells #[.int .u8 k, .int .i64 i, .int .i64 n, .slice A bs.length cb] 36)).alloc (.cells #[.slice none 0 0, .slice none 0 0, .int .i64 0, .int .i64 0, .bool false, .int .i64 0] 33) := ⟨_, rfl⟩
  have H0 : Aside0 (DoA w W g4 g5 g6 c sv wv wv p P (fun k => P k ∧ k < w.heap.size) (.agg #[.slice A0 q.safe.length c0, .slice A1 q.wet.length c1, .int .i64 q.left, .int .i64 sp, .bool q.off, .int .i64 q.acts]) q sp #[.slice A0 q.safe.length c0, .slice A1 q.wet.length c1, .int .i64 q.left, .int .i64 sp, .bool q.off, .int .i64 q.acts] #[.int .u8 k, .int .i64 i, .int .i64 n, .slice A bs.length cb]) := ⟨by
    have hb : Below w.heap.size w W := by rw [hW]; exact below_alloc (below_alloc (below_alloc (Below.refl w.heap.size w) _) _) _
    have s1 : (w.alloc (.cells #[.slice A0 q.safe.length c0, .slice A1 q.wet.length c1, .int .i64 q.left, .int .i64 sp, .bool q.off, .int .i64 q.acts] 33)).heap.size = w.heap.size + 1 := by simp
    have s2 : ((w.alloc (.cells #[.slice A0 q.safe.length c0, .slice A1 q.wet.length c1, .int .i64 q.left, .int .i64 sp, .bool q.off, .int .i64 q.acts] 33)).alloc (.cells #[.int .u8 k, .int .i64 i, .int .i64 n, .slice A bs.length cb] 36)).heap.size = w.heap.size + 1 + 1 := by simp
    have no : ∀ g, w.heap.size ≤ g → ¬ Own c sv wv g := fun g hg h => by have := HH.out.lt h; omega
    refine ⟨HH.out.below hb, Fr.of_below hb _, fun k hk => .inl hk, ⟨no _ (by omega), no _ (by omega), no _ (by omega)⟩, ?_, ?_, ?_, HHR.out.bound.below hb, fun k hk => ⟨HAP.out k hk.1, by have := hk.2; omega, by have := hk.2; omega, by have := hk.2; omega⟩, fun k hk => .inl hk.1, by omega, by omega, by omega⟩
    · rw [hW, hg4]; exact blk_alloc (blk_alloc (blk_new w _) _) _
    · rw [hW, hg5, ← s1]; exact blk_alloc (blk_new _ _) _
    · rw [hW, hg6, ← s2]; exact blk_new _ _⟩
  rw [← hW, ← hg6, ← hg5, ← hg4]
  clear hW hg6 hg5 hg4
  have q5 := cells4 H0.out.q5
  obtain ⟨a0, a1, a2, a3, af⟩ := q5
  go_wp2_with fail
  go_at_call 10
  refine (write_c H0.out.pl i HIN.out.1 bs HIN.out.2 hwn A cb (HRR.out _ H0.out.fr)).mono ?_
  rintro e w1 ⟨rfl, wv1, h1, f1, o1⟩
  have H1 := Aside0.mk (H0.out.plate h1 f1 o1)
  clear h1 f1 o1 H0 a0 a1 a2 a3 af
  obtain ⟨e0, e1, e2, e3, e4, e5, ef⟩ := cells6 H1.out.q4
  have q5 := cells4 H1.out.q5
  obtain ⟨a0, a1, a2, a3, af⟩ := q5
  go_wp2_with fail
  go_at_call 28
  clear e0 e1 e2 e3 e4 e5 ef a0 a1 a2 a3 af
  refine (rput_c H1.out.r HFQ.out hl hl2 hwq HSP.out i (by rw [HSZ.out]; exact HIN.out.1) A cb bs HIN.out.2 (HRR.out _ H1.out.fr)).mono ?_
  rintro e w2 ⟨x', rfl, h2, hb⟩
  have H2 := Aside0.mk (H1.out.ref hb h2 (fun k hk => hk))
  obtain ⟨B0, d0, B1, d1, rfl, _, _⟩ := h2
  obtain ⟨p1, hp1⟩ : ∃ z, z = (p.write i bs).1 := ⟨_, rfl⟩
  obtain ⟨q1, hq1⟩ : ∃ z, z = (q.write i bs).1 := ⟨_, rfl⟩
  obtain ⟨r1, hr1⟩ : ∃ z, z = (p.write i bs).2 := ⟨_, rfl⟩
  obtain ⟨r2, hr2⟩ : ∃ z, z = (q.write i bs).2 := ⟨_, rfl⟩
  rw [← hp1] at H2 HF
  rw [← hq1] at H2 HFX ⊢
  rw [← hr1, ← hr2]
  clear hb H1 hp1 hr1 hq1 hr2
  go_upto_region 19 with (
    refine wp_store_at rfl 33 (.tmp 4) (.tmp 26) rfl g4 _ rfl rfl 33 _ H2.out.q4 (by kernel_rfl) rfl (by first | kernel_rfl | (simp [Value.oneCell']; done)) ?_
    intro V4 hv hV
    have H4 := Aside0.mk (H2.out.set4 (V' := V4) (by rw [hV]; exact Fr.row _ _ _) hv)
    clear hV hv
    obtain ⟨e0, e1, e2, e3, e4, e5, ef⟩ := cells6 H4.out.q4)
  clear e0 e1 e2 e3 e4 e5 ef
  obtain ⟨e0, e1, e2, e3, e4, e5, ef⟩ := cells6 H4.out.q4
  go_wp2_with (refine wp_store_at rfl 33 (.tmp 6) (.tmp 70) rfl g6 _ rfl rfl 33 _ H4.out.q6 (by kernel_rfl) rfl (by first | kernel_rfl | (simp [Value.oneCell']; done)) ?_
               intro V9 hv hV
               have HV9 := Aside0.mk hv
               have HE := Aside0.mk hV
               clear hV hv)
  refine bodyPost_ret (results_ct rfl _ _ g6 33 _ (0, 0) _ rfl HV9.out Try.underlying33 rfl (by kernel_rfl)) rfl ?_
  have hf9 : Fr V4 V9 (fun i => i = g6) := by rw [HE.out]; exact Fr.row _ _ _
  obtain ⟨z1, z2, z3, z4, z5⟩ := DoA.done H4.out hf9
  refine ⟨_, _, _, _, rfl, ?_, ?_, z3, z4, z5⟩
  · rw [HF.out]; exact z1
  · rw [HFX.out]; exact z2
set_option maxHeartbeats 8000000 in
theorem do2_write1 {w : World} {c : Nat} {sv wv : Value} {p q : St} {P : Nat → Prop} {x : Value} {sp : Int} (H : IsPlate w c sv wv p) (HR : RefIs w P x q sp) (hap : ∀ k, P k → ¬ Own c sv wv k) (hl : -1 ≤ q.left) (hl2 : q.left ≤ 1000000) (hwn : p.wet.length < 1000) (hwq : q.wet.length < 1000) (hsp : q.spare = mx sp 0) (hfq : Fit q) (hsz : q.safe.length = p.safe.length) (k y n : Int) (hk : 0 ≤ k ∧ k < 256) (A : Option Addr) (cb : Nat) (bs : List Int) (hr : ∀ W', Fr w W' (Own c sv wv) → Kd.C (Kd.int .u8) W' A bs.length bs) (h4 : k.tmod 8 = 1) (hin : 0 ≤ y ∧ y < p.safe.length ∧ bs.length ≤ 64) :
    Calls Try.prog 13 #[.pointer (some ⟨c, 0, none⟩), x, .agg #[.int .u8 k, .int .i64 y, .int .i64 n, .slice A bs.length cb]] w fun e w' => ∃ x' wv' R r, e = .returned (.tuple #[x', .bool r]) ∧ IsPlate w' c sv wv' (doSt p (k.tmod 8) y n bs) ∧ RefIs w' R x' (doSt q (k.tmod 8) y n bs) (sp) ∧ (∀ k, R k → (P k ∨ w.heap.size ≤ k) ∧ ¬ Own c sv wv' k) ∧ Fr w w' (Own c sv wv) ∧ (∀ k, Own c sv wv' k → Own c sv wv k ∨ w.heap.size ≤ k) := by
  have HF : Aside0 (doSt p (k.tmod 8) y n bs = (p.write y.toNat bs).1) := ⟨by rw [h4]; simp [doSt, hin]⟩
  have HFX : Aside0 (doSt q (k.tmod 8) y n bs = (q.write y.toNat bs).1) := ⟨by rw [h4]; simp [doSt, hsz, hin]⟩
  obtain ⟨i, rfl⟩ : ∃ i : Nat, y = (i : Int) := ⟨y.toNat, by omega⟩
  have HIN : Aside0 (i < p.safe.length ∧ bs.length ≤ 64) := ⟨by omega, hin.2.2⟩
  rw [Int.toNat_natCast] at HF HFX
  clear hin
  obtain ⟨A0, c0, A1, c1, rfl, _, _⟩ := id HR
  have HH := Aside0.mk H
  have HHR := Aside0.mk HR
  have HAP := Aside0.mk hap
  have HRR := Aside0.mk hr
  have HSP := Aside0.mk hsp
  have HFQ := Aside0.mk hfq
  have HSZ := Aside0.mk hsz
  clear H HR hap hr hsp hfq hsz
  go_enter Try.func13, Try.ntmps13
  go_upto_region 4 with fail
  obtain ⟨g6, hg6⟩ : ∃ g, g = w.heap.size + 1 + 1 := ⟨_, rfl⟩
  obtain ⟨g5, hg5⟩ : ∃ g, g = w.heap.size + 1 := ⟨_, rfl⟩
  obtain ⟨g4, hg4⟩ : ∃ g, g = w.heap.size := ⟨_, rfl⟩
  obtain ⟨W, hW⟩ : ∃ W, W = ((w.alloc (.cells #[.slice A0 q.safe.length c0, .slice A1 q.wet.length c1, .int .i64 q.left, .int .i64 sp, .bool q.off, .int .i64 q.acts] 33)).alloc (.cells #[.int .u8 k, .int .i64 i, .int .i64 n, .slice A bs.length cb] 36)).alloc (.cells #[.slice none 0 0, .slice none 0 0, .int .i64 0, .int .i64 0, .bool false, .int .i64 0] 33) := ⟨_, rfl⟩
  have H0 : Aside0 (DoA w W g4 g5 g6 c sv wv wv p P (fun k => P k ∧ k < w.heap.size) (.agg #[.slice A0 q.safe.length c0, .slice A1 q.wet.length c1, .int .i64 q.left, .int .i64 sp, .bool q.off, .int .i64 q.acts]) q sp #[.slice A0 q.safe.length c0, .slice A1 q.wet.length c1, .int .i64 q.left, .int .i64 sp, .bool q.off, .int .i64 q.acts] #[.int .u8 k, .int .i64 i, .int .i64 n, .slice A bs.length cb]) := ⟨by
    have hb : Below w.heap.size w W := by rw [hW]; exact below_alloc (below_alloc (below_alloc (Below.refl w.heap.size w) _) _) _
    have s1 : (w.alloc (.cells #[.slice A0 q.safe.length c0, .slice A1 q.wet.length c1, .int .i64 q.left, .int .i64 sp, .bool q.off, .int .i64 q.acts] 33)).heap.size = w.heap.size + 1 := by simp
    have s2 : ((w.alloc (.cells #[.slice A0 q.safe.length c0, .slice A1 q.wet.length c1, .int .i64 q.left, .int .i64 sp, .bool q.off, .int .i64 q.acts] 33)).alloc (.cells #[.int .u8 k, .int .i64 i, .int .i64 n, .slice A bs.length cb] 36)).heap.size = w.heap.size + 1 + 1 := by simp
    have no : ∀ g, w.heap.size ≤ g → ¬ Own c sv wv g := fun g hg h => by have := HH.out.lt h; omega
    refine ⟨HH.out.below hb, Fr.of_below hb _, fun k hk => .inl hk, ⟨no _ (by omega), no _ (by omega), no _ (by omega)⟩, ?_, ?_, ?_, HHR.out.bound.below hb, fun k hk => ⟨HAP.out k hk.1, by have := hk.2; omega, by have := hk.2; omega, by have := hk.2; omega⟩, fun k hk => .inl hk.1, by omega, by omega, by omega⟩
    · rw [hW, hg4]; exact blk_alloc (blk_alloc (blk_new w _) _) _
    · rw [hW, hg5, ← s1]; exact blk_alloc (blk_new _ _) _
    · rw [hW, hg6, ← s2]; exact blk_new _ _⟩
  rw [← hW, ← hg6, ← hg5, ← hg4]
  clear hW hg6 hg5 hg4
  have q5 := cells4 H0.out.q5
  obtain ⟨a0, a1, a2, a3, af⟩ := q5
  go_wp2_with fail
  go_at_call 10
  refine (write_c H0.out.pl i HIN.out.1 bs HIN.out.2 hwn A cb (HRR.out _ H0.out.fr)).mono ?_
  rintro e w1 ⟨rfl, wv1, h1, f1, o1⟩
  have H1 := Aside0.mk (H0.out.plate h1 f1 o1)
  clear h1 f1 o1 H0 a0 a1 a2 a3 af
  obtain ⟨e0, e1, e2, e3, e4, e5, ef⟩ := cells6 H1.out.q4
  have q5 := cells4 H1.out.q5
  obtain ⟨a0, a1, a2, a3, af⟩ := q5
  go_wp2_with fail
  go_at_call 28
  clear e0 e1 e2 e3 e4 e5 ef a0 a1 a2 a3 af
  refine (rput_c H1.out.r HFQ.out hl hl2 hwq HSP.out i (by rw [HSZ.out]; exact HIN.out.1) A cb bs HIN.out.2 (HRR.out _ H1.out.fr)).mono ?_
  rintro e w2 ⟨x', rfl, h2, hb⟩
  have H2 := Aside0.mk (H1.out.ref hb h2 (fun k hk => hk))
  obtain ⟨B0, d0, B1, d1, rfl, _, _⟩ := h2
  obtain ⟨p1, hp1⟩ : ∃ z, z = (p.write i bs).1 := ⟨_, rfl⟩
  obtain ⟨q1, hq1⟩ : ∃ z, z = (q.write i bs).1 := ⟨_, rfl⟩
  obtain ⟨r1, hr1⟩ : ∃ z, z = (p.write i bs).2 := ⟨_, rfl⟩
  obtain ⟨r2, hr2⟩ : ∃ z, z = (q.write i bs).2 := ⟨_, rfl⟩
  rw [← hp1] at H2 HF
  rw [← hq1] at H2 HFX ⊢
  rw [← hr1, ← hr2]
  clear hb H1 hp1 hr1 hq1 hr2
  go_upto_region 19 with (
    refine wp_store_at rfl 33 (.tmp 4) (.tmp 26) rfl g4 _ rfl rfl 33 _ H2.out.q4 (by kernel_rfl) rfl (by first | kernel_rfl | (simp [Value.oneCell']; done)) ?_
    intro V4 hv hV
    have H4 := Aside0.mk (H2.out.set4 (V' := V4) (by rw [hV]; exact Fr.row _ _ _) hv)
    clear hV hv
    obtain ⟨e0, e1, e2, e3, e4, e5, ef⟩ := cells6 H4.out.q4)
  clear e0 e1 e2 e3 e4 e5 ef
  obtain ⟨e0, e1, e2, e3, e4, e5, ef⟩ := cells6 H4.out.q4
  go_wp2_with (refine wp_store_at rfl 33 (.tmp 6) (.tmp 70) rfl g6 _ rfl rfl 33 _ H4.out.q6 (by kernel_rfl) rfl (by first | kernel_rfl | (simp [Value.oneCell']; done)) ?_
               intro V9 hv hV
               have HV9 := Aside0.mk hv
               have HE := Aside0.mk hV
               clear hV hv)
  refine bodyPost_ret (results_ct rfl _ _ g6 33 _ (0, 0) _ rfl HV9.out Try.underlying33 rfl (by kernel_rfl)) rfl ?_
  have hf9 : Fr V4 V9 (fun i => i = g6) := by rw [HE.out]; exact Fr.row _ _ _
  obtain ⟨z1, z2, z3, z4, z5⟩ := DoA.done H4.out hf9
  refine ⟨_, _, _, _, rfl, ?_, ?_, z3, z4, z5⟩
  · rw [HF.out]; exact z1
  · rw [HFX.out]; exact z2
set_option maxHeartbeats 8000000 in
theorem do2_write2 {w : World} {c : Nat} {sv wv : Value} {p q : St} {P : Nat → Prop} {x : Value} {sp : Int} (H : IsPlate w c sv wv p) (HR : RefIs w P x q sp) (hap : ∀ k, P k → ¬ Own c sv wv k) (hl : -1 ≤ q.left) (hl2 : q.left ≤ 1000000) (hwn : p.wet.length < 1000) (hwq : q.wet.length < 1000) (hsp : q.spare = mx sp 0) (hfq : Fit q) (hsz : q.safe.length = p.safe.length) (k y n : Int) (hk : 0 ≤ k ∧ k < 256) (A : Option Addr) (cb : Nat) (bs : List Int) (hr : ∀ W', Fr w W' (Own c sv wv) → Kd.C (Kd.int .u8) W' A bs.length bs) (h4 : k.tmod 8 = 2) (hin : 0 ≤ y ∧ y < p.safe.length ∧ bs.length ≤ 64) :
    Calls Try.prog 13 #[.pointer (some ⟨c, 0, none⟩), x, .agg #[.int .u8 k, .int .i64 y, .int .i64 n, .slice A bs.length cb]] w fun e w' => ∃ x' wv' R r, e = .returned (.tuple #[x', .bool r]) ∧ IsPlate w' c sv wv' (doSt p (k.tmod 8) y n bs) ∧ RefIs w' R x' (doSt q (k.tmod 8) y n bs) (sp) ∧ (∀ k, R k → (P k ∨ w.heap.size ≤ k) ∧ ¬ Own c sv wv' k) ∧ Fr w w' (Own c sv wv) ∧ (∀ k, Own c sv wv' k → Own c sv wv k ∨ w.heap.size ≤ k) := by
  have HF : Aside0 (doSt p (k.tmod 8) y n bs = (p.write y.toNat bs).1) := ⟨by rw [h4]; simp [doSt, hin]⟩
  have HFX : Aside0 (doSt q (k.tmod 8) y n bs = (q.write y.toNat bs).1) := ⟨by rw [h4]; simp [doSt, hsz, hin]⟩
  obtain ⟨i, rfl⟩ : ∃ i : Nat, y = (i : Int) := ⟨y.toNat, by omega⟩
  have HIN : Aside0 (i < p.safe.length ∧ bs.length ≤ 64) := ⟨by omega, hin.2.2⟩
  rw [Int.toNat_natCast] at HF HFX
  clear hin
  obtain ⟨A0, c0, A1, c1, rfl, _, _⟩ := id HR
  have HH := Aside0.mk H
  have HHR := Aside0.mk HR
  have HAP := Aside0.mk hap
  have HRR := Aside0.mk hr
  have HSP := Aside0.mk hsp
  have HFQ := Aside0.mk hfq
  have HSZ := Aside0.mk hsz
  clear H HR hap hr hsp hfq hsz
  go_enter Try.func13, Try.ntmps13
  go_upto_region 4 with fail
  obtain ⟨g6, hg6⟩ : ∃ g, g = w.heap.size + 1 + 1 := ⟨_, rfl⟩
  obtain ⟨g5, hg5⟩ : ∃ g, g = w.heap.size + 1 := ⟨_, rfl⟩
  obtain ⟨g4, hg4⟩ : ∃ g, g = w.heap.size := ⟨_, rfl⟩
  obtain ⟨W, hW⟩ : ∃ W, W = ((w.alloc (.cells #[.slice A0 q.safe.length c0, .slice A1 q.wet.length c1, .int .i64 q.left, .int .i64 sp, .bool q.off, .int .i64 q.acts] 33)).alloc (.cells #[.int .u8 k, .int .i64 i, .int .i64 n, .slice A bs.length cb] 36)).alloc (.cells #[.slice none 0 0, .slice none 0 0, .int .i64 0, .int .i64 0, .bool false, .int .i64 0] 33) := ⟨_, rfl⟩
  have H0 : Aside0 (DoA w W g4 g5 g6 c sv wv wv p P (fun k => P k ∧ k < w.heap.size) (.agg #[.slice A0 q.safe.length c0, .slice A1 q.wet.length c1, .int .i64 q.left, .int .i64 sp, .bool q.off, .int .i64 q.acts]) q sp #[.slice A0 q.safe.length c0, .slice A1 q.wet.length c1, .int .i64 q.left, .int .i64 sp, .bool q.off, .int .i64 q.acts] #[.int .u8 k, .int .i64 i, .int .i64 n, .slice A bs.length cb]) := ⟨by
    have hb : Below w.heap.size w W := by rw [hW]; exact below_alloc (below_alloc (below_alloc (Below.refl w.heap.size w) _) _) _
    have s1 : (w.alloc (.cells #[.slice A0 q.safe.length c0, .slice A1 q.wet.length c1, .int .i64 q.left, .int .i64 sp, .bool q.off, .int .i64 q.acts] 33)).heap.size = w.heap.size + 1 := by simp
    have s2 : ((w.alloc (.cells #[.slice A0 q.safe.length c0, .slice A1 q.wet.length c1, .int .i64 q.left, .int .i64 sp, .bool q.off, .int .i64 q.acts] 33)).alloc (.cells #[.int .u8 k, .int .i64 i, .int .i64 n, .slice A bs.length cb] 36)).heap.size = w.heap.size + 1 + 1 := by simp
    have no : ∀ g, w.heap.size ≤ g → ¬ Own c sv wv g := fun g hg h => by have := HH.out.lt h; omega
    refine ⟨HH.out.below hb, Fr.of_below hb _, fun k hk => .inl hk, ⟨no _ (by omega), no _ (by omega), no _ (by omega)⟩, ?_, ?_, ?_, HHR.out.bound.below hb, fun k hk => ⟨HAP.out k hk.1, by have := hk.2; omega, by have := hk.2; omega, by have := hk.2; omega⟩, fun k hk => .inl hk.1, by omega, by omega, by omega⟩
    · rw [hW, hg4]; exact blk_alloc (blk_alloc (blk_new w _) _) _
    · rw [hW, hg5, ← s1]; exact blk_alloc (blk_new _ _) _
    · rw [hW, hg6, ← s2]; exact blk_new _ _⟩
  rw [← hW, ← hg6, ← hg5, ← hg4]
  clear hW hg6 hg5 hg4
  have q5 := cells4 H0.out.q5
  obtain ⟨a0, a1, a2, a3, af⟩ := q5
  go_wp2_with fail
  go_at_call 10
  refine (write_c H0.out.pl i HIN.out.1 bs HIN.out.2 hwn A cb (HRR.out _ H0.out.fr)).mono ?_
  rintro e w1 ⟨rfl, wv1, h1, f1, o1⟩
  have H1 := Aside0.mk (H0.out.plate h1 f1 o1)
  clear h1 f1 o1 H0 a0 a1 a2 a3 af
  obtain ⟨e0, e1, e2, e3, e4, e5, ef⟩ := cells6 H1.out.q4
  have q5 := cells4 H1.out.q5
  obtain ⟨a0, a1, a2, a3, af⟩ := q5
  go_wp2_with fail
  go_at_call 28
  clear e0 e1 e2 e3 e4 e5 ef a0 a1 a2 a3 af
  refine (rput_c H1.out.r HFQ.out hl hl2 hwq HSP.out i (by rw [HSZ.out]; exact HIN.out.1) A cb bs HIN.out.2 (HRR.out _ H1.out.fr)).mono ?_
  rintro e w2 ⟨x', rfl, h2, hb⟩
  have H2 := Aside0.mk (H1.out.ref hb h2 (fun k hk => hk))
  obtain ⟨B0, d0, B1, d1, rfl, _, _⟩ := h2
  obtain ⟨p1, hp1⟩ : ∃ z, z = (p.write i bs).1 := ⟨_, rfl⟩
  obtain ⟨q1, hq1⟩ : ∃ z, z = (q.write i bs).1 := ⟨_, rfl⟩
  obtain ⟨r1, hr1⟩ : ∃ z, z = (p.write i bs).2 := ⟨_, rfl⟩
  obtain ⟨r2, hr2⟩ : ∃ z, z = (q.write i bs).2 := ⟨_, rfl⟩
  rw [← hp1] at H2 HF
  rw [← hq1] at H2 HFX ⊢
  rw [← hr1, ← hr2]
  clear hb H1 hp1 hr1 hq1 hr2
  go_upto_region 19 with (
    refine wp_store_at rfl 33 (.tmp 4) (.tmp 26) rfl g4 _ rfl rfl 33 _ H2.out.q4 (by kernel_rfl) rfl (by first | kernel_rfl | (simp [Value.oneCell']; done)) ?_
    intro V4 hv hV
    have H4 := Aside0.mk (H2.out.set4 (V' := V4) (by rw [hV]; exact Fr.row _ _ _) hv)
    clear hV hv
    obtain ⟨e0, e1, e2, e3, e4, e5, ef⟩ := cells6 H4.out.q4)
  clear e0 e1 e2 e3 e4 e5 ef
  obtain ⟨e0, e1, e2, e3, e4, e5, ef⟩ := cells6 H4.out.q4
  go_wp2_with (refine wp_store_at rfl 33 (.tmp 6) (.tmp 70) rfl g6 _ rfl rfl 33 _ H4.out.q6 (by kernel_rfl) rfl (by first | kernel_rfl | (simp [Value.oneCell']; done)) ?_
               intro V9 hv hV
               have HV9 := Aside0.mk hv
               have HE := Aside0.mk hV
               clear hV hv)
  refine bodyPost_ret (results_ct rfl _ _ g6 33 _ (0, 0) _ rfl HV9.out Try.underlying33 rfl (by kernel_rfl)) rfl ?_
  have hf9 : Fr V4 V9 (fun i => i = g6) := by rw [HE.out]; exact Fr.row _ _ _
  obtain ⟨z1, z2, z3, z4, z5⟩ := DoA.done H4.out hf9
  refine ⟨_, _, _, _, rfl, ?_, ?_, z3, z4, z5⟩
  · rw [HF.out]; exact z1
  · rw [HFX.out]; exact z2
set_option maxHeartbeats 8000000 in
theorem do2_write3 {w : World} {c : Nat} {sv wv : Value} {p q : St} {P : Nat → Prop} {x : Value} {sp : Int} (H : IsPlate w c sv wv p) (HR : RefIs w P x q sp) (hap : ∀ k, P k → ¬ Own c sv wv k) (hl : -1 ≤ q.left) (hl2 : q.left ≤ 1000000) (hwn : p.wet.length < 1000) (hwq : q.wet.length < 1000) (hsp : q.spare = mx sp 0) (hfq : Fit q) (hsz : q.safe.length = p.safe.length) (k y n : Int) (hk : 0 ≤ k ∧ k < 256) (A : Option Addr) (cb : Nat) (bs : List Int) (hr : ∀ W', Fr w W' (Own c sv wv) → Kd.C (Kd.int .u8) W' A bs.length bs) (h4 : k.tmod 8 = 3) (hin : 0 ≤ y ∧ y < p.safe.length ∧ bs.length ≤ 64) :
    Calls Try.prog 13 #[.pointer (some ⟨c, 0, none⟩), x, .agg #[.int .u8 k, .int .i64 y, .int .i64 n, .slice A bs.length cb]] w fun e w' => ∃ x' wv' R r, e = .returned (.tuple #[x', .bool r]) ∧ IsPlate w' c sv wv' (doSt p (k.tmod 8) y n bs) ∧ RefIs w' R x' (doSt q (k.tmod 8) y n bs) (sp) ∧ (∀ k, R k → (P k ∨ w.heap.size ≤ k) ∧ ¬ Own c sv wv' k) ∧ Fr w w' (Own c sv wv) ∧ (∀ k, Own c sv wv' k → Own c sv wv k ∨ w.heap.size ≤ k) := by
  have HF : Aside0 (doSt p (k.tmod 8) y n bs = (p.write y.toNat bs).1) := ⟨by rw [h4]; simp [doSt, hin]⟩
  have HFX : Aside0 (doSt q (k.tmod 8) y n bs = (q.write y.toNat bs).1) := ⟨by rw [h4]; simp [doSt, hsz, hin]⟩
  obtain ⟨i, rfl⟩ : ∃ i : Nat, y = (i : Int) := ⟨y.toNat, by omega⟩
  have HIN : Aside0 (i < p.safe.length ∧ bs.length ≤ 64) := ⟨by omega, hin.2.2⟩
  rw [Int.toNat_natCast] at HF HFX
  clear hin
  obtain ⟨A0, c0, A1, c1, rfl, _, _⟩ := id HR
  have HH := Aside0.mk H
  have HHR := Aside0.mk HR
  have HAP := Aside0.mk hap
  have HRR := Aside0.mk hr
  have HSP := Aside0.mk hsp
  have HFQ := Aside0.mk hfq
  have HSZ := Aside0.mk hsz
  clear H HR hap hr hsp hfq hsz
  go_enter Try.func13, Try.ntmps13
  go_upto_region 4 with fail
  obtain ⟨g6, hg6⟩ : ∃ g, g = w.heap.size + 1 + 1 := ⟨_, rfl⟩
  obtain ⟨g5, hg5⟩ : ∃ g, g = w.heap.size + 1 := ⟨_, rfl⟩
  obtain ⟨g4, hg4⟩ : ∃ g, g = w.heap.size := ⟨_, rfl⟩
  obtain ⟨W, hW⟩ : ∃ W, W = ((w.alloc (.cells #[.slice A0 q.safe.length c0, .slice A1 q.wet.length c1, .int .i64 q.left, .int .i64 sp, .bool q.off, .int .i64 q.acts] 33)).alloc (.cells #[.int .u8 k, .int .i64 i, .int .i64 n, .slice A bs.length cb] 36)).alloc (.cells #[.slice none 0 0, .slice none 0 0, .int .i64 0, .int .i64 0, .bool false, .int .i64 0] 33) := ⟨_, rfl⟩
  have H0 : Aside0 (DoA w W g4 g5 g6 c sv wv wv p P (fun k => P k ∧ k < w.heap.size) (.agg #[.slice A0 q.safe.length c0, .slice A1 q.wet.length c1, .int .i64 q.left, .int .i64 sp, .bool q.off, .int .i64 q.acts]) q sp #[.slice A0 q.safe.length c0, .slice A1 q.wet.length c1, .int .i64 q.left, .int .i64 sp, .bool q.off, .int .i64 q.acts] #[.int .u8 k, .int .i64 i, .int .i64 n, .slice A bs.length cb]) := ⟨by
    have hb : Below w.heap.size w W := by rw [hW]; exact below_alloc (below_alloc (below_alloc (Below.refl w.heap.size w) _) _) _
    have s1 : (w.alloc (.cells #[.slice A0 q.safe.length c0, .slice A1 q.wet.length c1, .int .i64 q.left, .int .i64 sp, .bool q.off, .int .i64 q.acts] 33)).heap.size = w.heap.size + 1 := by simp
    have s2 : ((w.alloc (.cells #[.slice A0 q.safe.length c0, .slice A1 q.wet.length c1, .int .i64 q.left, .int .i64 sp, .bool q.off, .int .i64 q.acts] 33)).alloc (.cells #[.int .u8 k, .int .i64 i, .int .i64 n, .slice A bs.length cb] 36)).heap.size = w.heap.size + 1 + 1 := by simp
    have no : ∀ g, w.heap.size ≤ g → ¬ Own c sv wv g := fun g hg h => by have := HH.out.lt h; omega
    refine ⟨HH.out.below hb, Fr.of_below hb _, fun k hk => .inl hk, ⟨no _ (by omega), no _ (by omega), no _ (by omega)⟩, ?_, ?_, ?_, HHR.out.bound.below hb, fun k hk => ⟨HAP.out k hk.1, by have := hk.2; omega, by have := hk.2; omega, by have := hk.2; omega⟩, fun k hk => .inl hk.1, by omega, by omega, by omega⟩
    · rw [hW, hg4]; exact blk_alloc (blk_alloc (blk_new w _) _) _
    · rw [hW, hg5, ← s1]; exact blk_alloc (blk_new _ _) _
    · rw [hW, hg6, ← s2]; exact blk_new _ _⟩
  rw [← hW, ← hg6, ← hg5, ← hg4]
  clear hW hg6 hg5 hg4
  have q5 := cells4 H0.out.q5
  obtain ⟨a0, a1, a2, a3, af⟩ := q5
  go_wp2_with fail
  go_at_call 10
  refine (write_c H0.out.pl i HIN.out.1 bs HIN.out.2 hwn A cb (HRR.out _ H0.out.fr)).mono ?_
  rintro e w1 ⟨rfl, wv1, h1, f1, o1⟩
  have H1 := Aside0.mk (H0.out.plate h1 f1 o1)
  clear h1 f1 o1 H0 a0 a1 a2 a3 af
  obtain ⟨e0, e1, e2, e3, e4, e5, ef⟩ := cells6 H1.out.q4
  have q5 := cells4 H1.out.q5
  obtain ⟨a0, a1, a2, a3, af⟩ := q5
  go_wp2_with fail
  go_at_call 28
  clear e0 e1 e2 e3 e4 e5 ef a0 a1 a2 a3 af
  refine (rput_c H1.out.r HFQ.out hl hl2 hwq HSP.out i (by rw [HSZ.out]; exact HIN.out.1) A cb bs HIN.out.2 (HRR.out _ H1.out.fr)).mono ?_
  rintro e w2 ⟨x', rfl, h2, hb⟩
  have H2 := Aside0.mk (H1.out.ref hb h2 (fun k hk => hk))
  obtain ⟨B0, d0, B1, d1, rfl, _, _⟩ := h2
  obtain ⟨p1, hp1⟩ : ∃ z, z = (p.write i bs).1 := ⟨_, rfl⟩
  obtain ⟨q1, hq1⟩ : ∃ z, z = (q.write i bs).1 := ⟨_, rfl⟩
  obtain ⟨r1, hr1⟩ : ∃ z, z = (p.write i bs).2 := ⟨_, rfl⟩
  obtain ⟨r2, hr2⟩ : ∃ z, z = (q.write i bs).2 := ⟨_, rfl⟩
  rw [← hp1] at H2 HF
  rw [← hq1] at H2 HFX ⊢
  rw [← hr1, ← hr2]
  clear hb H1 hp1 hr1 hq1 hr2
  go_upto_region 19 with (
    refine wp_store_at rfl 33 (.tmp 4) (.tmp 26) rfl g4 _ rfl rfl 33 _ H2.out.q4 (by kernel_rfl) rfl (by first | kernel_rfl | (simp [Value.oneCell']; done)) ?_
    intro V4 hv hV
    have H4 := Aside0.mk (H2.out.set4 (V' := V4) (by rw [hV]; exact Fr.row _ _ _) hv)
    clear hV hv
    obtain ⟨e0, e1, e2, e3, e4, e5, ef⟩ := cells6 H4.out.q4)
  clear e0 e1 e2 e3 e4 e5 ef
  obtain ⟨e0, e1, e2, e3, e4, e5, ef⟩ := cells6 H4.out.q4
  go_wp2_with (refine wp_store_at rfl 33 (.tmp 6) (.tmp 70) rfl g6 _ rfl rfl 33 _ H4.out.q6 (by kernel_rfl) rfl (by first | kernel_rfl | (simp [Value.oneCell']; done)) ?_
               intro V9 hv hV
               have HV9 := Aside0.mk hv
               have HE := Aside0.mk hV
               clear hV hv)
  refine bodyPost_ret (results_ct rfl _ _ g6 33 _ (0, 0) _ rfl HV9.out Try.underlying33 rfl (by kernel_rfl)) rfl ?_
  have hf9 : Fr V4 V9 (fun i => i = g6) := by rw [HE.out]; exact Fr.row _ _ _
  obtain ⟨z1, z2, z3, z4, z5⟩ := DoA.done H4.out hf9
  refine ⟨_, _, _, _, rfl, ?_, ?_, z3, z4, z5⟩
  · rw [HF.out]; exact z1
  · rw [HFX.out]; exact z2
set_option maxHeartbeats 8000000 in
theorem do2_bad0 {w : World} {c : Nat} {sv wv : Value} {p q : St} {P : Nat → Prop} {x : Value} {sp : Int} (H : IsPlate w c sv wv p) (HR : RefIs w P x q sp) (hap : ∀ k, P k → ¬ Own c sv wv k) (hl : -1 ≤ q.left) (hl2 : q.left ≤ 1000000) (hwn : p.wet.length < 1000) (hwq : q.wet.length < 1000) (hsp : q.spare = mx sp 0) (hfq : Fit q) (hsz : q.safe.length = p.safe.length) (k y n : Int) (hk : 0 ≤ k ∧ k < 256) (A : Option Addr) (cb : Nat) (bs : List Int) (hr : ∀ W', Fr w W' (Own c sv wv) → Kd.C (Kd.int .u8) W' A bs.length bs) (h4 : k.tmod 8 = 0) (hin : ¬ (0 ≤ y ∧ y < p.safe.length ∧ bs.length ≤ 64)) :
    Calls Try.prog 13 #[.pointer (some ⟨c, 0, none⟩), x, .agg #[.int .u8 k, .int .i64 y, .int .i64 n, .slice A bs.length cb]] w fun e w' => ∃ x' wv' R r, e = .returned (.tuple #[x', .bool r]) ∧ IsPlate w' c sv wv' (doSt p (k.tmod 8) y n bs) ∧ RefIs w' R x' (doSt q (k.tmod 8) y n bs) (sp) ∧ (∀ k, R k → (P k ∨ w.heap.size ≤ k) ∧ ¬ Own c sv wv' k) ∧ Fr w w' (Own c sv wv) ∧ (∀ k, Own c sv wv' k → Own c sv wv k ∨ w.heap.size ≤ k) := by
  have HF : Aside0 (doSt p (k.tmod 8) y n bs = p) := ⟨by rw [h4]; simp only [doSt]; rw [if_neg (by decide), if_neg (by decide), if_neg (by decide), if_neg hin]⟩
  have HFX : Aside0 (doSt q (k.tmod 8) y n bs = q) := ⟨by rw [h4]; simp only [doSt]; rw [if_neg (by decide), if_neg (by decide), if_neg (by decide), if_neg (by rw [hsz]; exact hin)]⟩
  have HIN : Aside0 (y < 0 ∨ (p.safe.length : Int) ≤ y ∨ 64 < bs.length) := ⟨by omega⟩
  clear hin
  obtain ⟨A0, c0, A1, c1, rfl, _, _⟩ := id HR
  have HH := Aside0.mk H
  have HHR := Aside0.mk HR
  have HAP := Aside0.mk hap
  have HRR := Aside0.mk hr
  have HSP := Aside0.mk hsp
  have HFQ := Aside0.mk hfq
  have HSZ := Aside0.mk hsz
  clear H HR hap hr hsp hfq hsz
  go_enter Try.func13, Try.ntmps13
  go_upto_region 4 with fail
  obtain ⟨g6, hg6⟩ : ∃ g, g = w.heap.size + 1 + 1 := ⟨_, rfl⟩
  obtain ⟨g5, hg5⟩ : ∃ g, g = w.heap.size + 1 := ⟨_, rfl⟩
  obtain ⟨g4, hg4⟩ : ∃ g, g = w.heap.size := ⟨_, rfl⟩
  obtain ⟨W, hW⟩ : ∃ W, W = ((w.alloc (.cells #[.slice A0 q.safe.length c0, .slice A1 q.wet.length c1, .int .i64 q.left, .int .i64 sp, .bool q.off, .int .i64 q.acts] 33)).alloc (.cells #[.int .u8 k, .int .i64 y, .int .i64 n, .slice A bs.length cb] 36)).alloc (.cells #[.slice none 0 0, .slice none 0 0, .int .i64 0, .int .i64 0, .bool false, .int .i64 0] 33) := ⟨_, rfl⟩
  have H0 : Aside0 (DoA w W g4 g5 g6 c sv wv wv p P (fun k => P k ∧ k < w.heap.size) (.agg #[.slice A0 q.safe.length c0, .slice A1 q.wet.length c1, .int .i64 q.left, .int .i64 sp, .bool q.off, .int .i64 q.acts]) q sp #[.slice A0 q.safe.length c0, .slice A1 q.wet.length c1, .int .i64 q.left, .int .i64 sp, .bool q.off, .int .i64 q.acts] #[.int .u8 k, .int .i64 y, .int .i64 n, .slice A bs.length cb]) := ⟨by
    have hb : Below w.heap.size w W := by rw [hW]; exact below_alloc (below_alloc (below_alloc (Below.refl w.heap.size w) _) _) _
    have s1 : (w.alloc (.cells #[.slice A0 q.safe.length c0, .slice A1 q.wet.length c1, .int .i64 q.left, .int .i64 sp, .bool q.off, .int .i64 q.acts] 33)).heap.size = w.heap.size + 1 := by simp
    have s2 : ((w.alloc (.cells #[.slice A0 q.safe.length c0, .slice A1 q.wet.length c1, .int .i64 q.left, .int .i64 sp, .bool q.off, .int .i64 q.acts] 33)).alloc (.cells #[.int .u8 k, .int .i64 y, .int .i64 n, .slice A bs.length cb] 36)).heap.size = w.heap.size + 1 + 1 := by simp
    have no : ∀ g, w.heap.size ≤ g → ¬ Own c sv wv g := fun g hg h => by have := HH.out.lt h; omega
    refine ⟨HH.out.below hb, Fr.of_below hb _, fun k hk => .inl hk, ⟨no _ (by omega), no _ (by omega), no _ (by omega)⟩, ?_, ?_, ?_, HHR.out.bound.below hb, fun k hk => ⟨HAP.out k hk.1, by have := hk.2; omega, by have := hk.2; omega, by have := hk.2; omega⟩, fun k hk => .inl hk.1, by omega, by omega, by omega⟩
    · rw [hW, hg4]; exact blk_alloc (blk_alloc (blk_new w _) _) _
    · rw [hW, hg5, ← s1]; exact blk_alloc (blk_new _ _) _
    · rw [hW, hg6, ← s2]; exact blk_new _ _⟩
  rw [← hW, ← hg6, ← hg5, ← hg4]
  clear hW hg6 hg5 hg4
  have q5 := cells4 H0.out.q5
  obtain ⟨a0, a1, a2, a3, af⟩ := q5
  go_wp2_with fail
  go_at_call 10
  refine (write_bad H0.out.pl y A bs.length cb HIN.out).mono ?_
  rintro e w1 ⟨rfl, rfl⟩
  clear a0 a1 a2 a3 af
  obtain ⟨e0, e1, e2, e3, e4, e5, ef⟩ := cells6 H0.out.q4
  have q5 := cells4 H0.out.q5
  obtain ⟨a0, a1, a2, a3, af⟩ := q5
  go_wp2_with fail
  go_at_call 28
  clear e0 e1 e2 e3 e4 e5 ef a0 a1 a2 a3 af
  refine (rput_bad H0.out.r y A bs.length cb (by rw [HSZ.out]; exact HIN.out)).mono ?_
  rintro e w2 ⟨x', rfl, h2, hb⟩
  have H2 := Aside0.mk (H0.out.ref hb h2 (fun k hk => hk))
  obtain ⟨B0, d0, B1, d1, rfl, _, _⟩ := h2
  clear hb H0
  go_upto_region 19 with (
    refine wp_store_at rfl 33 (.tmp 4) (.tmp 26) rfl g4 _ rfl rfl 33 _ H2.out.q4 (by kernel_rfl) rfl (by first | kernel_rfl | (simp [Value.oneCell']; done)) ?_
    intro V4 hv hV
    have H4 := Aside0.mk (H2.out.set4 (V' := V4) (by rw [hV]; exact Fr.row _ _ _) hv)
    clear hV hv
    obtain ⟨e0, e1, e2, e3, e4, e5, ef⟩ := cells6 H4.out.q4)
  clear e0 e1 e2 e3 e4 e5 ef
  obtain ⟨e0, e1, e2, e3, e4, e5, ef⟩ := cells6 H4.out.q4
  go_wp2_with (refine wp_store_at rfl 33 (.tmp 6) (.tmp 70) rfl g6 _ rfl rfl 33 _ H4.out.q6 (by kernel_rfl) rfl (by first | kernel_rfl | (simp [Value.oneCell']; done)) ?_
               intro V9 hv hV
               have HV9 := Aside0.mk hv
               have HE := Aside0.mk hV
               clear hV hv)
  refine bodyPost_ret (results_ct rfl _ _ g6 33 _ (0, 0) _ rfl HV9.out Try.underlying33 rfl (by kernel_rfl)) rfl ?_
  have hf9 : Fr V4 V9 (fun i => i = g6) := by rw [HE.out]; exact Fr.row _ _ _
  obtain ⟨z1, z2, z3, z4, z5⟩ := DoA.done H4.out hf9
  refine ⟨_, _, _, _, rfl, ?_, ?_, z3, z4, z5⟩
  · rw [HF.out]; exact z1
  · rw [HFX.out]; exact z2
set_option maxHeartbeats 8000000 in
theorem do2_bad1 {w : World} {c : Nat} {sv wv : Value} {p q : St} {P : Nat → Prop} {x : Value} {sp : Int} (H : IsPlate w c sv wv p) (HR : RefIs w P x q sp) (hap : ∀ k, P k → ¬ Own c sv wv k) (hl : -1 ≤ q.left) (hl2 : q.left ≤ 1000000) (hwn : p.wet.length < 1000) (hwq : q.wet.length < 1000) (hsp : q.spare = mx sp 0) (hfq : Fit q) (hsz : q.safe.length = p.safe.length) (k y n : Int) (hk : 0 ≤ k ∧ k < 256) (A : Option Addr) (cb : Nat) (bs : List Int) (hr : ∀ W', Fr w W' (Own c sv wv) → Kd.C (Kd.int .u8) W' A bs.length bs) (h4 : k.tmod 8 = 1) (hin : ¬ (0 ≤ y ∧ y < p.safe.length ∧ bs.length ≤ 64)) :
    Calls Try.prog 13 #[.pointer (some ⟨c, 0, none⟩), x, .agg #[.int .u8 k, .int .i64 y, .int .i64 n, .slice A bs.length cb]] w fun e w' => ∃ x' wv' R r, e = .returned (.tuple #[x', .bool r]) ∧ IsPlate w' c sv wv' (doSt p (k.tmod 8) y n bs) ∧ RefIs w' R x' (doSt q (k.tmod 8) y n bs) (sp) ∧ (∀ k, R k → (P k ∨ w.heap.size ≤ k) ∧ ¬ Own c sv wv' k) ∧ Fr w w' (Own c sv wv) ∧ (∀ k, Own c sv wv' k → Own c sv wv k ∨ w.heap.size ≤ k) := by
  have HF : Aside0 (doSt p (k.tmod 8) y n bs = p) := ⟨by rw [h4]; simp only [doSt]; rw [if_neg (by decide), if_neg (by decide), if_neg (by decide), if_neg hin]⟩
  have HFX : Aside0 (doSt q (k.tmod 8) y n bs = q) := ⟨by rw [h4]; simp only [doSt]; rw [if_neg (by decide), if_neg (by decide), if_neg (by decide), if_neg (by rw [hsz]; exact hin)]⟩
  have HIN : Aside0 (y < 0 ∨ (p.safe.length : Int) ≤ y ∨ 64 < bs.length) := ⟨by omega⟩
  clear hin
  obtain ⟨A0, c0, A1, c1, rfl, _, _⟩ := id HR
  have HH := Aside0.mk H
  have HHR := Aside0.mk HR
  have HAP := Aside0.mk hap
  have HRR := Aside0.mk hr
  have HSP := Aside0.mk hsp
  have HFQ := Aside0.mk hfq
  have HSZ := Aside0.mk hsz
  clear H HR hap hr hsp hfq hsz
  go_enter Try.func13, Try.ntmps13
  go_upto_region 4 with fail
  obtain ⟨g6, hg6⟩ : ∃ g, g = w.heap.size + 1 + 1 := ⟨_, rfl⟩
  obtain ⟨g5, hg5⟩ : ∃ g, g = w.heap.size + 1 := ⟨_, rfl⟩
  obtain ⟨g4, hg4⟩ : ∃ g, g = w.heap.size := ⟨_, rfl⟩
  obtain ⟨W, hW⟩ : ∃ W, W = ((w.alloc (.cells #[.slice A0 q.safe.length c0, .slice A1 q.wet.length c1, .int .i64 q.left, .int .i64 sp, .bool q.off, .int .i64 q.acts] 33)).alloc (.cells #[.int .u8 k, .int .i64 y, .int .i64 n, .slice A bs.length cb] 36)).alloc (.cells #[.slice none 0 0, .slice none 0 0, .int .i64 0, .int .i64 0, .bool false, .int .i64 0] 33) := ⟨_, rfl⟩
  have H0 : Aside0 (DoA w W g4 g5 g6 c sv wv wv p P (fun k => P k ∧ k < w.heap.size) (.agg #[.slice A0 q.safe.length c0, .slice A1 q.wet.length c1, .int .i64 q.left, .int .i64 sp, .bool q.off, .int .i64 q.acts]) q sp #[.slice A0 q.safe.length c0, .slice A1 q.wet.length c1, .int .i64 q.left, .int .i64 sp, .bool q.off, .int .i64 q.acts] #[.int .u8 k, .int .i64 y, .int .i64 n, .slice A bs.length cb]) := ⟨by
    have hb : Below w.heap.size w W := by rw [hW]; exact below_alloc (below_alloc (below_alloc (Below.refl w.heap.size w) _) _) _
    have s1 : (w.alloc (.cells #[.slice A0 q.safe.length c0, .slice A1 q.wet.length c1, .int .i64 q.left, .int .i64 sp, .bool q.off, .int .i64 q.acts] 33)).heap.size = w.heap.size + 1 := by simp
    have s2 : ((w.alloc (.cells #[.slice A0 q.safe.length c0, .slice A1 q.wet.length c1, .int .i64 q.left, .int .i64 sp, .bool q.off, .int .i64 q.acts] 33)).alloc (.cells #[.int .u8 k, .int .i64 y, .int .i64 n, .slice A bs.length cb] 36)).heap.size = w.heap.size + 1 + 1 := by simp
    have no : ∀ g, w.heap.size ≤ g → ¬ Own c sv wv g := fun g hg h => by have := HH.out.lt h; omega
    refine ⟨HH.out.below hb, Fr.of_below hb _, fun k hk => .inl hk, ⟨no _ (by omega), no _ (by omega), no _ (by omega)⟩, ?_, ?_, ?_, HHR.out.bound.below hb, fun k hk => ⟨HAP.out k hk.1, by have := hk.2; omega, by have := hk.2; omega, by have := hk.2; omega⟩, fun k hk => .inl hk.1, by omega, by omega, by omega⟩
    · rw [hW, hg4]; exact blk_alloc (blk_alloc (blk_new w _) _) _
    · rw [hW, hg5, ← s1]; exact blk_alloc (blk_new _ _) _
    · rw [hW, hg6, ← s2]; exact blk_new _ _⟩
  rw [← hW, ← hg6, ← hg5, ← hg4]
  clear hW hg6 hg5 hg4
  have q5 := cells4 H0.out.q5
  obtain ⟨a0, a1, a2, a3, af⟩ := q5
  go_wp2_with fail
  go_at_call 10
  refine (write_bad H0.out.pl y A bs.length cb HIN.out).mono ?_
  rintro e w1 ⟨rfl, rfl⟩
  clear a0 a1 a2 a3 af
  obtain ⟨e0, e1, e2, e3, e4, e5, ef⟩ := cells6 H0.out.q4
  have q5 := cells4 H0.out.q5
  obtain ⟨a0, a1, a2, a3, af⟩ := q5
  go_wp2_with fail
  go_at_call 28
  clear e0 e1 e2 e3 e4 e5 ef a0 a1 a2 a3 af
  refine (rput_bad H0.out.r y A bs.length cb (by rw [HSZ.out]; exact HIN.out)).mono ?_
  rintro e w2 ⟨x', rfl, h2, hb⟩
  have H2 := Aside0.mk (H0.out.ref hb h2 (fun k hk => hk))
  obtain ⟨B0, d0, B1, d1, rfl, _, _⟩ := h2
  clear hb H0
  go_upto_region 19 with (
    refine wp_store_at rfl 33 (.tmp 4) (.tmp 26) rfl g4 _ rfl rfl 33 _ H2.out.q4 (by kernel_rfl) rfl (by first | kernel_rfl | (simp [Value.oneCell']; done)) ?_
    intro V4 hv hV
    have H4 := Aside0.mk (H2.out.set4 (V' := V4) (by rw [hV]; exact Fr.row _ _ _) hv)
    clear hV hv
    obtain ⟨e0, e1, e2, e3, e4, e5, ef⟩ := cells6 H4.out.q4)
  clear e0 e1 e2 e3 e4 e5 ef
  obtain ⟨e0, e1, e2, e3, e4, e5, ef⟩ := cells6 H4.out.q4
  go_wp2_with (refine wp_store_at rfl 33 (.tmp 6) (.tmp 70) rfl g6 _ rfl rfl 33 _ H4.out.q6 (by kernel_rfl) rfl (by first | kernel_rfl | (simp [Value.oneCell']; done)) ?_
               intro V9 hv hV
               have HV9 := Aside0.mk hv
               have HE := Aside0.mk hV
               clear hV hv)
  refine bodyPost_ret (results_ct rfl _ _ g6 33 _ (0, 0) _ rfl HV9.out Try.underlying33 rfl (by kernel_rfl)) rfl ?_
  have hf9 : Fr V4 V9 (fun i => i = g6) := by rw [HE.out]; exact Fr.row _ _ _
  obtain ⟨z1, z2, z3, z4, z5⟩ := DoA.done H4.out hf9
  refine ⟨_, _, _, _, rfl, ?_, ?_, z3, z4, z5⟩
  · rw [HF.out]; exact z1
  · rw [HFX.out]; exact z2
set_option maxHeartbeats 8000000 in
theorem do2_bad2 {w : World} {c : Nat} {sv wv : Value} {p q : St} {P : Nat → Prop} {x : Value} {sp : Int} (H : IsPlate w c sv wv p) (HR : RefIs w P x q sp) (hap : ∀ k, P k → ¬ Own c sv wv k) (hl : -1 ≤ q.left) (hl2 : q.left ≤ 1000000) (hwn : p.wet.length < 1000) (hwq : q.wet.length < 1000) (hsp : q.spare = mx sp 0) (hfq : Fit q) (hsz : q.safe.length = p.safe.length) (k y n : Int) (hk : 0 ≤ k ∧ k < 256) (A : Option Addr) (cb : Nat) (bs : List Int) (hr : ∀ W', Fr w W' (Own c sv wv) → Kd.C (Kd.int .u8) W' A bs.length bs) (h4 : k.tmod 8 = 2) (hin : ¬ (0 ≤ y ∧ y < p.safe.length ∧ bs.length ≤ 64)) :
    Calls Try.prog 13 #[.pointer (some ⟨c, 0, none⟩), x, .agg #[.int .u8 k, .int .i64 y, .int .i64 n, .slice A bs.length cb]] w fun e w' => ∃ x' wv' R r, e = .returned (.tuple #[x', .bool r]) ∧ IsPlate w' c sv wv' (doSt p (k.tmod 8) y n bs) ∧ RefIs w' R x' (doSt q (k.tmod 8) y n bs) (sp) ∧ (∀ k, R k → (P k ∨ w.heap.size ≤ k) ∧ ¬ Own c sv wv' k) ∧ Fr w w' (Own c sv wv) ∧ (∀ k, Own c sv wv' k → Own c sv wv k ∨ w.heap.size ≤ k) := by
  have HF : Aside0 (doSt p (k.tmod 8) y n bs = p) := ⟨by rw [h4]; simp only [doSt]; rw [if_neg (by decide), if_neg (by decide), if_neg (by decide), if_neg hin]⟩
  have HFX : Aside0 (doSt q (k.tmod 8) y n bs = q) := ⟨by rw [h4]; simp only [doSt]; rw [if_neg (by decide), if_neg (by decide), if_neg (by decide), if_neg (by rw [hsz]; exact hin)]⟩
  have HIN : Aside0 (y < 0 ∨ (p.safe.length : Int) ≤ y ∨ 64 < bs.length) := ⟨by omega⟩
  clear hin
  obtain ⟨A0, c0, A1, c1, rfl, _, _⟩ := id HR
  have HH := Aside0.mk H
  have HHR := Aside0.mk HR
  have HAP := Aside0.mk hap
  have HRR := Aside0.mk hr
  have HSP := Aside0.mk hsp
  have HFQ := Aside0.mk hfq
  have HSZ := Aside0.mk hsz
  clear H HR hap hr hsp hfq hsz
  go_enter Try.func13, Try.ntmps13
  go_upto_region 4 with fail
  obtain ⟨g6, hg6⟩ : ∃ g, g = w.heap.size + 1 + 1 := ⟨_, rfl⟩
  obtain ⟨g5, hg5⟩ : ∃ g, g = w.heap.size + 1 := ⟨_, rfl⟩
  obtain ⟨g4, hg4⟩ : ∃ g, g = w.heap.size := ⟨_, rfl⟩
  obtain ⟨W, hW⟩ : ∃ W, W = ((w.alloc (.cells #[.slice A0 q.safe.length c0, .slice A1 q.wet.length c1, .int .i64 q.left, .int .i64 sp, .bool q.off, .int .i64 q.acts] 33)).alloc (.cells #[.int .u8 k, .int .i64 y, .int .i64 n, .slice A bs.length cb] 36)).alloc (.cells #[.slice none 0 0, .slice none 0 0, .int .i64 0, .int .i64 0, .bool false, .int .i64 0] 33) := ⟨_, rfl⟩
  have H0 : Aside0 (DoA w W g4 g5 g6 c sv wv wv p P (fun k => P k ∧ k < w.heap.size) (.agg #[.slice A0 q.safe.length c0, .slice A1 q.wet.length c1, .int .i64 q.left, .int .i64 sp, .bool q.off, .int .i64 q.acts]) q sp #[.slice A0 q.safe.length c0, .slice A1 q.wet.length c1, .int .i64 q.left, .int .i64 sp, .bool q.off, .int .i64 q.acts] #[.int .u8 k, .int .i64 y, .int .i64 n, .slice A bs.length cb]) := ⟨by
    have hb : Below w.heap.size w W := by rw [hW]; exact below_alloc (below_alloc (below_alloc (Below.refl w.heap.size w) _) _) _
    have s1 : (w.alloc (.cells #[.slice A0 q.safe.length c0, .slice A1 q.wet.length c1, .int .i64 q.left, .int .i64 sp, .bool q.off, .int .i64 q.acts] 33)).heap.size = w.heap.size + 1 := by simp
    have s2 : ((w.alloc (.cells #[.slice A0 q.safe.length c0, .slice A1 q.wet.length c1, .int .i64 q.left, .int .i64 sp, .bool q.off, .int .i64 q.acts] 33)).alloc (.cells #[.int .u8 k, .int .i64 y, .int .i64 n, .slice A bs.length cb] 36)).heap.size = w.heap.size + 1 + 1 := by simp
    have no : ∀ g, w.heap.size ≤ g → ¬ Own c sv wv g := fun g hg h => by have := HH.out.lt h; omega
    refine ⟨HH.out.below hb, Fr.of_below hb _, fun k hk => .inl hk, ⟨no _ (by omega), no _ (by omega), no _ (by omega)⟩, ?_, ?_, ?_, HHR.out.bound.below hb, fun k hk => ⟨HAP.out k hk.1, by have := hk.2; omega, by have := hk.2; omega, by have := hk.2; omega⟩, fun k hk => .inl hk.1, by omega, by omega, by omega⟩
    · rw [hW, hg4]; exact blk_alloc (blk_alloc (blk_new w _) _) _
    · rw [hW, hg5, ← s1]; exact blk_alloc (blk_new _ _) _
    · rw [hW, hg6, ← s2]; exact blk_new _ _⟩
  rw [← hW, ← hg6, ← hg5, ← hg4]
  clear hW hg6 hg5 hg4
  have q5 := cells4 H0.out.q5
  obtain ⟨a0, a1, a2, a3, af⟩ := q5
  go_wp2_with fail
  go_at_call 10
  refine (write_bad H0.out.pl y A bs.length cb HIN.out).mono ?_
  rintro e w1 ⟨rfl, rfl⟩
  clear a0 a1 a2 a3 af
  obtain ⟨e0, e1, e2, e3, e4, e5, ef⟩ := cells6 H0.out.q4
  have q5 := cells4 H0.out.q5
  obtain ⟨a0, a1, a2, a3, af⟩ := q5
  go_wp2_with fail
  go_at_call 28
  clear e0 e1 e2 e3 e4 e5 ef a0 a1 a2 a3 af
  refine (rput_bad H0.out.r y A bs.length cb (by rw [HSZ.out]; exact HIN.out)).mono ?_
  rintro e w2 ⟨x', rfl, h2, hb⟩
  have H2 := Aside0.mk (H0.out.ref hb h2 (fun k hk => hk))
  obtain ⟨B0, d0, B1, d1, rfl, _, _⟩ := h2
  clear hb H0
  go_upto_region 19 with (
    refine wp_store_at rfl 33 (.tmp 4) (.tmp 26) rfl g4 _ rfl rfl 33 _ H2.out.q4 (by kernel_rfl) rfl (by first | kernel_rfl | (simp [Value.oneCell']; done)) ?_
    intro V4 hv hV
    have H4 := Aside0.mk (H2.out.set4 (V' := V4) (by rw [hV]; exact Fr.row _ _ _) hv)
    clear hV hv
    obtain ⟨e0, e1, e2, e3, e4, e5, ef⟩ := cells6 H4.out.q4)
  clear e0 e1 e2 e3 e4 e5 ef
  obtain ⟨e0, e1, e2, e3, e4, e5, ef⟩ := cells6 H4.out.q4
  go_wp2_with (refine wp_store_at rfl 33 (.tmp 6) (.tmp 70) rfl g6 _ rfl rfl 33 _ H4.out.q6 (by kernel_rfl) rfl (by first | kernel_rfl | (simp [Value.oneCell']; done)) ?_
               intro V9 hv hV
               have HV9 := Aside0.mk hv
               have HE := Aside0.mk hV
               clear hV hv)
  refine bodyPost_ret (results_ct rfl _ _ g6 33 _ (0, 0) _ rfl HV9.out Try.underlying33 rfl (by kernel_rfl)) rfl ?_
  have hf9 : Fr V4 V9 (fun i => i = g6) := by rw [HE.out]; exact Fr.row _ _ _
  obtain ⟨z1, z2, z3, z4, z5⟩ := DoA.done H4.out hf9
  refine ⟨_, _, _, _, rfl, ?_, ?_, z3, z4, z5⟩
  · rw [HF.out]; exact z1
  · rw [HFX.out]; exact z2
set_option maxHeartbeats 8000000 in
theorem do2_bad3 {w : World} {c : Nat} {sv wv : Value} {p q : St} {P : Nat → Prop} {x : Value} {sp : Int} (H : IsPlate w c sv wv p) (HR : RefIs w P x q sp) (hap : ∀ k, P k → ¬ Own c sv wv k) (hl : -1 ≤ q.left) (hl2 : q.left ≤ 1000000) (hwn : p.wet.length < 1000) (hwq : q.wet.length < 1000) (hsp : q.spare = mx sp 0) (hfq : Fit q) (hsz : q.safe.length = p.safe.length) (k y n : Int) (hk : 0 ≤ k ∧ k < 256) (A : Option Addr) (cb : Nat) (bs : List Int) (hr : ∀ W', Fr w W' (Own c sv wv) → Kd.C (Kd.int .u8) W' A bs.length bs) (h4 : k.tmod 8 = 3) (hin : ¬ (0 ≤ y ∧ y < p.safe.length ∧ bs.length ≤ 64)) :
    Calls Try.prog 13 #[.pointer (some ⟨c, 0, none⟩), x, .agg #[.int .u8 k, .int .i64 y, .int .i64 n, .slice A bs.length cb]] w fun e w' => ∃ x' wv' R r, e = .returned (.tuple #[x', .bool r]) ∧ IsPlate w' c sv wv' (doSt p (k.tmod 8) y n bs) ∧ RefIs w' R x' (doSt q (k.tmod 8) y n bs) (sp) ∧ (∀ k, R k → (P k ∨ w.heap.size ≤ k) ∧ ¬ Own c sv wv' k) ∧ Fr w w' (Own c sv wv) ∧ (∀ k, Own c sv wv' k → Own c sv wv k ∨ w.heap.size ≤ k) := by
  have HF : Aside0 (doSt p (k.tmod 8) y n bs = p) := ⟨by rw [h4]; simp only [doSt]; rw [if_neg (by decide), if_neg (by decide), if_neg (by decide), if_neg hin]⟩
  have HFX : Aside0 (doSt q (k.tmod 8) y n bs = q) := ⟨by rw [h4]; simp only [doSt]; rw [if_neg (by decide), if_neg (by decide), if_neg (by decide), if_neg (by rw [hsz]; exact hin)]⟩
  have HIN : Aside0 (y < 0 ∨ (p.safe.length : Int) ≤ y ∨ 64 < bs.length) := ⟨by omega⟩
  clear hin
  obtain ⟨A0, c0, A1, c1, rfl, _, _⟩ := id HR
  have HH := Aside0.mk H
  have HHR := Aside0.mk HR
  have HAP := Aside0.mk hap
  have HRR := Aside0.mk hr
  have HSP := Aside0.mk hsp
  have HFQ := Aside0.mk hfq
  have HSZ := Aside0.mk hsz
  clear H HR hap hr hsp hfq hsz
  go_enter Try.func13, Try.ntmps13
  go_upto_region 4 with fail
  obtain ⟨g6, hg6⟩ : ∃ g, g = w.heap.size + 1 + 1 := ⟨_, rfl⟩
  obtain ⟨g5, hg5⟩ : ∃ g, g = w.heap.size + 1 := ⟨_, rfl⟩
  obtain ⟨g4, hg4⟩ : ∃ g, g = w.heap.size := ⟨_, rfl⟩
  obtain ⟨W, hW⟩ : ∃ W, W = ((w.alloc (.cells #[.slice A0 q.safe.length c0, .slice A1 q.wet.length c1, .int .i64 q.left, .int .i64 sp, .bool q.off, .int .i64 q.acts] 33)).alloc (.cells #[.int .u8 k, .int .i64 y, .int .i64 n, .slice A bs.length cb] 36)).alloc (.cells #[.slice none 0 0, .slice none 0 0, .int .i64 0, .int .i64 0, .bool false, .int .i64 0] 33) := ⟨_, rfl⟩
  have H0 : Aside0 (DoA w W g4 g5 g6 c sv wv wv p P (fun k => P k ∧ k < w.heap.size) (.agg #[.slice A0 q.safe.length c0, .slice A1 q.wet.length c1, .int .i64 q.left, .int .i64 sp, .bool q.off, .int .i64 q.acts]) q sp #[.slice A0 q.safe.length c0, .slice A1 q.wet.length c1, .int .i64 q.left, .int .i64 sp, .bool q.off, .int .i64 q.acts] #[.int .u8 k, .int .i64 y, .int .i64 n, .slice A bs.length cb]) := ⟨by
    have hb : Below w.heap.size w W := by rw [hW]; exact below_alloc (below_alloc (below_alloc (Below.refl w.heap.size w) _) _) _
    have s1 : (w.alloc (.cells #[.slice A0 q.safe.length c0, .slice A1 q.wet.length c1, .int .i64 q.left, .int .i64 sp, .bool q.off, .int .i64 q.acts] 33)).heap.size = w.heap.size + 1 := by simp
    have s2 : ((w.alloc (.cells #[.slice A0 q.safe.length c0, .slice A1 q.wet.length c1, .int .i64 q.left, .int .i64 sp, .bool q.off, .int .i64 q.acts] 33)).alloc (.cells #[.int .u8 k, .int .i64 y, .int .i64 n, .slice A bs.length cb] 36)).heap.size = w.heap.size + 1 + 1 := by simp
    have no : ∀ g, w.heap.size ≤ g → ¬ Own c sv wv g := fun g hg h => by have := HH.out.lt h; omega
    refine ⟨HH.out.below hb, Fr.of_below hb _, fun k hk => .inl hk, ⟨no _ (by omega), no _ (by omega), no _ (by omega)⟩, ?_, ?_, ?_, HHR.out.bound.below hb, fun k hk => ⟨HAP.out k hk.1, by have := hk.2; omega, by have := hk.2; omega, by have := hk.2; omega⟩, fun k hk => .inl hk.1, by omega, by omega, by omega⟩
    · rw [hW, hg4]; exact blk_alloc (blk_alloc (blk_new w _) _) _
    · rw [hW, hg5, ← s1]; exact blk_alloc (blk_new _ _) _
    · rw [hW, hg6, ← s2]; exact blk_new _ _⟩
  rw [← hW, ← hg6, ← hg5, ← hg4]
  clear hW hg6 hg5 hg4
  have q5 := cells4 H0.out.q5
  obtain ⟨a0, a1, a2, a3, af⟩ := q5
  go_wp2_with fail
  go_at_call 10
  refine (write_bad H0.out.pl y A bs.length cb HIN.out).mono ?_
  rintro e w1 ⟨rfl, rfl⟩
  clear a0 a1 a2 a3 af
  obtain ⟨e0, e1, e2, e3, e4, e5, ef⟩ := cells6 H0.out.q4
  have q5 := cells4 H0.out.q5
  obtain ⟨a0, a1, a2, a3, af⟩ := q5
  go_wp2_with fail
  go_at_call 28
  clear e0 e1 e2 e3 e4 e5 ef a0 a1 a2 a3 af
  refine (rput_bad H0.out.r y A bs.length cb (by rw [HSZ.out]; exact HIN.out)).mono ?_
  rintro e w2 ⟨x', rfl, h2, hb⟩
  have H2 := Aside0.mk (H0.out.ref hb h2 (fun k hk => hk))
  obtain ⟨B0, d0, B1, d1, rfl, _, _⟩ := h2
  clear hb H0
  go_upto_region 19 with (
    refine wp_store_at rfl 33 (.tmp 4) (.tmp 26) rfl g4 _ rfl rfl 33 _ H2.out.q4 (by kernel_rfl) rfl (by first | kernel_rfl | (simp [Value.oneCell']; done)) ?_
    intro V4 hv hV
    have H4 := Aside0.mk (H2.out.set4 (V' := V4) (by rw [hV]; exact Fr.row _ _ _) hv)
    clear hV hv
    obtain ⟨e0, e1, e2, e3, e4, e5, ef⟩ := cells6 H4.out.q4)
  clear e0 e1 e2 e3 e4 e5 ef
  obtain ⟨e0, e1, e2, e3, e4, e5, ef⟩ := cells6 H4.out.q4
  go_wp2_with (refine wp_store_at rfl 33 (.tmp 6) (.tmp 70) rfl g6 _ rfl rfl 33 _ H4.out.q6 (by kernel_rfl) rfl (by first | kernel_rfl | (simp [Value.oneCell']; done)) ?_
               intro V9 hv hV
               have HV9 := Aside0.mk hv
               have HE := Aside0.mk hV
               clear hV hv)
  refine bodyPost_ret (results_ct rfl _ _ g6 33 _ (0, 0) _ rfl HV9.out Try.underlying33 rfl (by kernel_rfl)) rfl ?_
  have hf9 : Fr V4 V9 (fun i => i = g6) := by rw [HE.out]; exact Fr.row _ _ _
  obtain ⟨z1, z2, z3, z4, z5⟩ := DoA.done H4.out hf9
  refine ⟨_, _, _, _, rfl, ?_, ?_, z3, z4, z5⟩
  · rw [HF.out]; exact z1
  · rw [HFX.out]; exact z2
set_option maxHeartbeats 1000000 in
theorem do2_c {w : World} {c : Nat} {sv wv : Value} {p q : St} {P : Nat → Prop} {x : Value} {sp : Int} (H : IsPlate w c sv wv p) (HR : RefIs w P x q sp) (hap : ∀ k, P k → ¬ Own c sv wv k) (hl : -1 ≤ q.left) (hl2 : q.left ≤ 1000000) (hwn : p.wet.length < 1000) (hwq : q.wet.length < 1000) (hsp : q.spare = mx sp 0) (hfq : Fit q) (hsz : q.safe.length = p.safe.length) (k y n : Int) (hk : 0 ≤ k ∧ k < 256) (A : Option Addr) (cb : Nat) (bs : List Int) (hr : ∀ W', Fr w W' (Own c sv wv) → Kd.C (Kd.int .u8) W' A bs.length bs)  :
    Calls Try.prog 13 #[.pointer (some ⟨c, 0, none⟩), x, .agg #[.int .u8 k, .int .i64 y, .int .i64 n, .slice A bs.length cb]] w fun e w' => ∃ x' wv' R r, e = .returned (.tuple #[x', .bool r]) ∧ IsPlate w' c sv wv' (doSt p (k.tmod 8) y n bs) ∧ RefIs w' R x' (doSt q (k.tmod 8) y n bs) (if k.tmod 8 = 6 then n.tmod 80 else if k.tmod 8 = 7 then 0 else sp) ∧ (∀ k, R k → (P k ∨ w.heap.size ≤ k) ∧ ¬ Own c sv wv' k) ∧ Fr w w' (Own c sv wv) ∧ (∀ k, Own c sv wv' k → Own c sv wv k ∨ w.heap.size ≤ k) := by
  have h0 := Int.tmod_nonneg 8 hk.1
  have h8 := Int.tmod_lt_of_pos k (show (0 : Int) < 8 by omega)
  have hc : k.tmod 8 = 0 ∨ k.tmod 8 = 1 ∨ k.tmod 8 = 2 ∨ k.tmod 8 = 3 ∨ k.tmod 8 = 4 ∨ k.tmod 8 = 5 ∨ k.tmod 8 = 6 ∨ k.tmod 8 = 7 := by omega
  by_cases hin : 0 ≤ y ∧ y < p.safe.length ∧ bs.length ≤ 64
  all_goals
   rcases hc with h | h | h | h | h | h | h | h
   all_goals first
    | rw [if_pos (show k.tmod 8 = 6 from h)]
    | rw [if_neg (by omega), if_pos (show k.tmod 8 = 7 from h)]
    | rw [if_neg (by omega), if_neg (by omega)]
   all_goals first
    | exact do2_write0 H HR hap hl hl2 hwn hwq hsp hfq hsz k y n hk A cb bs hr h hin
    | exact do2_write1 H HR hap hl hl2 hwn hwq hsp hfq hsz k y n hk A cb bs hr h hin
    | exact do2_write2 H HR hap hl hl2 hwn hwq hsp hfq hsz k y n hk A cb bs hr h hin
    | exact do2_write3 H HR hap hl hl2 hwn hwq hsp hfq hsz k y n hk A cb bs hr h hin
    | exact do2_bad0 H HR hap hl hl2 hwn hwq hsp hfq hsz k y n hk A cb bs hr h hin
    | exact do2_bad1 H HR hap hl hl2 hwn hwq hsp hfq hsz k y n hk A cb bs hr h hin
    | exact do2_bad2 H HR hap hl hl2 hwn hwq hsp hfq hsz k y n hk A cb bs hr h hin
    | exact do2_bad3 H HR hap hl hl2 hwn hwq hsp hfq hsz k y n hk A cb bs hr h hin
    | exact do2_flush4 H HR hap hl hl2 hwn hwq hsp hfq hsz k y n hk A cb bs hr h
    | exact do2_flush5 H HR hap hl hl2 hwn hwq hsp hfq hsz k y n hk A cb bs hr h
    | exact do2_arm H HR hap hl hl2 hwn hwq hsp hfq hsz k y n hk A cb bs hr h
    | exact do2_fall H HR hap hl hl2 hwn hwq hsp hfq hsz k y n hk A cb bs hr h
end Go.Proofs.Ytcobkideokljfaa
