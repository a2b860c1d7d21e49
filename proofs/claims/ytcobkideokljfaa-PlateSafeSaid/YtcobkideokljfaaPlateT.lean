/- The law's act, of both plates. -/
import Derived.Test.YtcobkideokljfaaPlateS
namespace Go.Proofs.Ytcobkideokljfaa
open Go.RowKit Go.Proofs.YtcobkideokljfaaW.PrintWords Go.Proofs.YtcobkideokljfaaW.PrintLast Go.Proofs.YtcobkideokljfaaW.PrintMore Go.Proofs.Ytcobkideokljfaa.PA
set_option linter.unusedVariables false
set_option linter.unusedSimpArgs false
theorem rput_c {w : World} {P : Nat → Prop} {x : Value} {p : St} {sp : Int} (H : RefIs w P x p sp) (hf : Fit p) (hl : -1 ≤ p.left) (hl2 : p.left ≤ 1000000) (hwn : p.wet.length < 1000) (hsp : p.spare = mx sp 0) (y : Nat) (hy : y < p.safe.length) (A : Option Addr) (cb : Nat) (bs : List Int) (hbn : bs.length ≤ 64) (hr : Kd.C (Kd.int .u8) w A bs.length bs) :
    Calls Try.prog 28 #[x, .int .i64 y, .slice A bs.length cb] w fun e w' => ∃ x', e = .returned (.tuple #[x', .int .i64 (p.write y bs).2]) ∧ RefIs w' (fun k => P k ∨ w.heap.size ≤ k) x' (p.write y bs).1 sp ∧ Below w.heap.size w w' := by
  have hs : ∀ t : Int, mx t 0 = if t < 0 then 0 else t := fun t => rfl
  rcases (act_wet p).2.2.2 with ha | ha
  · rw [show p.write y bs = ({ p.act.1 with wet := p.wet ++ [((y : Int), pad bs)] }, 0) from by simp [St.write, ha]]
    exact rput_ok H hf hl hl2 hwn y hy A cb bs hbn hr ha
  · by_cases ht : p.off = false ∧ 0 < sp
    · have e : p.spare = sp := by rw [hsp, hs]; split <;> omega
      rw [show p.write y bs = ({ p.act.1 with wet := p.wet ++ [((y : Int), torn (min sp.toNat 64) (pad bs) (p.sector y))] }, 7) from by
        unfold St.write; rw [if_neg (by rw [ha]; decide), if_pos ⟨ht.1, by rw [e]; exact ht.2⟩, e]]
      exact rput_torn H hf hl hl2 hwn y hy A cb bs hbn hr ha ht.1 ht.2
    · rw [show p.write y bs = (p.act.1, 7) from by
        unfold St.write; rw [if_neg (by rw [ha]; decide), if_neg]; rintro ⟨h1, h2⟩; refine ht ⟨h1, ?_⟩; rw [hsp, hs] at h2; split at h2 <;> omega]
      exact rput_off H hf hl hl2 hwn y hy A cb bs hbn hr ha (by
        cases ho : p.off
        · right; intro h; exact ht ⟨ho, h⟩
        · left; rfl)
theorem Fr.row (V : World) (g : Nat) (cs : Array Value) : Fr V (V.setRow g cs) (fun i => i = g) := by
  have hb := below_setRow (Below.refl 0 V) (Nat.zero_le g) cs
  exact ⟨hb.os, hb.tape, hb.output, hb.size, fun i _ hn => setRow_other _ _ _ _ hn⟩
/-- What is known while an act is done to both. -/
structure DoA (w V : World) (g4 g5 g6 c : Nat) (sv wv0 wv : Value) (p : St) (P R : Nat → Prop) (x : Value) (q : St) (sp : Int) (cs4 cs5 : Array Value) : Prop where
  pl : IsPlate V c sv wv p
  fr : Fr w V (Own c sv wv0)
  ow : ∀ k, Own c sv wv k → Own c sv wv0 k ∨ w.heap.size ≤ k
  on : ¬ Own c sv wv g4 ∧ ¬ Own c sv wv g5 ∧ ¬ Own c sv wv g6
  q4 : V.heap[g4]? = some (.cells cs4 33 (0, 0))
  q5 : V.heap[g5]? = some (.cells cs5 36 (0, 0))
  q6 : V.heap[g6]? = some (.cells #[.slice none 0 0, .slice none 0 0, .int .i64 0, .int .i64 0, .bool false, .int .i64 0] 33 (0, 0))
  r : RefIs V R x q sp
  rn : ∀ k, R k → ¬ Own c sv wv k ∧ k ≠ g4 ∧ k ≠ g5 ∧ k ≠ g6
  rp : ∀ k, R k → P k ∨ w.heap.size ≤ k
  e : w.heap.size ≤ g4 ∧ g4 < g5 ∧ g5 < g6
section
variable {w V V' : World} {g4 g5 g6 c : Nat} {sv wv0 wv wv' : Value} {p p' : St} {P R R' : Nat → Prop} {x x' : Value} {q q' : St} {sp sp' : Int} {cs4 cs5 cs : Array Value}
theorem DoA.plate (h : DoA w V g4 g5 g6 c sv wv0 wv p P R x q sp cs4 cs5) (h1 : IsPlate V' c sv wv' p') (f : Fr V V' (Own c sv wv)) (ho : ∀ k, Own c sv wv' k → Own c sv wv k ∨ V.heap.size ≤ k) : DoA w V' g4 g5 g6 c sv wv0 wv' p' P (fun k => R k ∧ k < V.heap.size) x q sp cs4 cs5 := by
  have l4 := blk_lt h.q4
  have l5 := blk_lt h.q5
  have l6 := blk_lt h.q6
  refine ⟨h1, h.fr.trans' f (fun i hi hk => (h.ow i hk).resolve_right (by omega)), fun k hk => (ho k hk).elim (h.ow k) (fun h2 => .inr (Nat.le_trans h.fr.size h2)), ⟨fun hk => (ho _ hk).elim h.on.1 (by omega), fun hk => (ho _ hk).elim h.on.2.1 (by omega), fun hk => (ho _ hk).elim h.on.2.2 (by omega)⟩, f.at h.q4 h.on.1, f.at h.q5 h.on.2.1, f.at h.q6 h.on.2.2, h.r.bound.step (fun k hk hlt => f.block k hlt (h.rn k hk.1).1), fun k hk => ⟨fun h2 => (ho k h2).elim (h.rn k hk.1).1 (by have := hk.2; omega), (h.rn k hk.1).2⟩, fun k hk => h.rp k hk.1, h.e⟩
theorem DoA.ref (h : DoA w V g4 g5 g6 c sv wv0 wv p P R x q sp cs4 cs5) (hb : Below V.heap.size V V') (r' : RefIs V' R' x' q' sp') (hr : ∀ k, R' k → R k ∨ V.heap.size ≤ k) : DoA w V' g4 g5 g6 c sv wv0 wv p P R' x' q' sp' cs4 cs5 := by
  have l4 := blk_lt h.q4
  have l5 := blk_lt h.q5
  have l6 := blk_lt h.q6
  refine ⟨h.pl.below hb, h.fr.trans (Fr.of_below hb _), h.ow, h.on, blk_below h.q4 hb, blk_below h.q5 hb, blk_below h.q6 hb, r', fun k hk => ?_, fun k hk => (hr k hk).elim (h.rp k) (fun h2 => .inr (Nat.le_trans h.fr.size h2)), h.e⟩
  rcases hr k hk with h2 | h2
  · exact h.rn k h2
  · exact ⟨fun h3 => by have := h.pl.lt h3; omega, by omega, by omega, by omega⟩
theorem DoA.set4 (h : DoA w V g4 g5 g6 c sv wv0 wv p P R x q sp cs4 cs5) (f : Fr V V' (fun i => i = g4)) (hq : V'.heap[g4]? = some (.cells cs 33 (0, 0))) : DoA w V' g4 g5 g6 c sv wv0 wv p P R x q sp cs cs5 := by
  obtain ⟨e1, e2, e3⟩ := h.e
  refine ⟨h.pl.keep f (fun k hk e => h.on.1 (by have e : k = g4 := e; rw [← e]; exact hk)), h.fr.trans' f (fun i hi e => by have e : i = g4 := e; omega), h.ow, h.on, hq, f.at h.q5 (by show ¬ g5 = g4; omega), f.at h.q6 (by show ¬ g6 = g4; omega), h.r.step (fun k hk hlt => f.block k hlt (h.rn k hk).2.1), h.rn, h.rp, h.e⟩
theorem DoA.done (h : DoA w V g4 g5 g6 c sv wv0 wv p P R x q sp cs4 cs5) (hf : Fr V V' (fun i => i = g6)) : IsPlate V' c sv wv p ∧ RefIs V' R x q sp ∧ (∀ k, R k → (P k ∨ w.heap.size ≤ k) ∧ ¬ Own c sv wv k) ∧ Fr w V' (Own c sv wv0) ∧ (∀ k, Own c sv wv k → Own c sv wv0 k ∨ w.heap.size ≤ k) := by
  obtain ⟨e1, e2, e3⟩ := h.e
  exact ⟨h.pl.keep hf (fun k hk e => h.on.2.2 (by have e : k = g6 := e; rw [← e]; exact hk)), h.r.step (fun k hk hlt => hf.block k hlt (h.rn k hk).2.2.2), fun k hk => ⟨h.rp k hk, (h.rn k hk).1⟩, h.fr.trans' hf (fun i hi e => by have e : i = g6 := e; omega), h.ow⟩
end
theorem cells4 {w : World} {g : Nat} {t : TypeId} {a b c d : Value} (h : w.heap[g]? = some (.cells #[a, b, c, d] t (0, 0))) : w.cell? ⟨g, 0, none⟩ = some a ∧ w.cell? ⟨g, 1, none⟩ = some b ∧ w.cell? ⟨g, 2, none⟩ = some c ∧ w.cell? ⟨g, 3, none⟩ = some d ∧ ∀ j, w.frozen? ⟨g, j, none⟩ = false :=
  ⟨(blk_cell h 0).trans rfl, (blk_cell h 1).trans rfl, (blk_cell h 2).trans rfl, (blk_cell h 3).trans rfl, fun j => blk_frozen h j⟩
def doSt (p : St) (k y n : Int) (bs : List Int) : St :=
  if k = 4 ∨ k = 5 then p.flush.1 else if k = 6 then p.arm (y.tmod 9) (n.tmod 80) else if k = 7 then p.fall n.toNat
  else if 0 ≤ y ∧ y < p.safe.length ∧ bs.length ≤ 64 then (p.write y.toNat bs).1 else p
set_option maxHeartbeats 8000000 in
theorem do_flush4 {w : World} {c : Nat} {sv wv : Value} {p : St} {P : Nat → Prop} {x : Value} {sp : Int} (H : IsPlate w c sv wv p) (HR : RefIs w P x p sp) (hap : ∀ k, P k → ¬ Own c sv wv k) (hl : -1 ≤ p.left) (hl2 : p.left ≤ 1000000) (hwn : p.wet.length < 1000) (hsp : p.spare = mx sp 0) (k y n : Int) (hk : 0 ≤ k ∧ k < 256) (A : Option Addr) (cb : Nat) (bs : List Int) (hr : ∀ W', Fr w W' (Own c sv wv) → Kd.C (Kd.int .u8) W' A bs.length bs) (h4 : k.tmod 8 = 4) :
    Calls Try.prog 13 #[.pointer (some ⟨c, 0, none⟩), x, .agg #[.int .u8 k, .int .i64 y, .int .i64 n, .slice A bs.length cb]] w fun e w' => ∃ x' wv' R, e = .returned (.tuple #[x', .bool true]) ∧ IsPlate w' c sv wv' (doSt p (k.tmod 8) y n bs) ∧ RefIs w' R x' (doSt p (k.tmod 8) y n bs) (sp) ∧ (∀ k, R k → (P k ∨ w.heap.size ≤ k) ∧ ¬ Own c sv wv' k) ∧ Fr w w' (Own c sv wv) ∧ (∀ k, Own c sv wv' k → Own c sv wv k ∨ w.heap.size ≤ k) := by
  have HF : Aside0 (doSt p (k.tmod 8) y n bs = p.flush.1) := ⟨by rw [h4]; simp [doSt]⟩
  obtain ⟨A0, c0, A1, c1, rfl, _, _⟩ := id HR
  have HH := Aside0.mk H
  have HHR := Aside0.mk HR
  have HAP := Aside0.mk hap
  have HRR := Aside0.mk hr
  have HSP := Aside0.mk hsp
  clear H HR hap hr hsp
  go_enter Try.func13, Try.ntmps13
  go_upto_region 8 with fail
  obtain ⟨g6, hg6⟩ : ∃ g, g = w.heap.size + 1 + 1 := ⟨_, rfl⟩
  obtain ⟨g5, hg5⟩ : ∃ g, g = w.heap.size + 1 := ⟨_, rfl⟩
  obtain ⟨g4, hg4⟩ : ∃ g, g = w.heap.size := ⟨_, rfl⟩
  obtain ⟨W, hW⟩ : ∃ W, W = ((w.alloc (.cells #[.slice A0 p.safe.length c0, .slice A1 p.wet.length c1, .int .i64 p.left, .int .i64 sp, .bool p.off, .int .i64 p.acts] 33)).alloc (.cells #[.int .u8 k, .int .i64 y, .int .i64 n, .slice A bs.length cb] 36)).alloc (.cells #[.slice none 0 0, .slice none 0 0, .int .i64 0, .int .i64 0, .bool false, .int .i64 0] 33) := ⟨_, rfl⟩
  have H0 : Aside0 (DoA w W g4 g5 g6 c sv wv wv p P (fun k => P k ∧ k < w.heap.size) (.agg #[.slice A0 p.safe.length c0, .slice A1 p.wet.length c1, .int .i64 p.left, .int .i64 sp, .bool p.off, .int .i64 p.acts]) p sp #[.slice A0 p.safe.length c0, .slice A1 p.wet.length c1, .int .i64 p.left, .int .i64 sp, .bool p.off, .int .i64 p.acts] #[.int .u8 k, .int .i64 y, .int .i64 n, .slice A bs.length cb]) := ⟨by
    have hb : Below w.heap.size w W := by rw [hW]; exact below_alloc (below_alloc (below_alloc (Below.refl w.heap.size w) _) _) _
    have s1 : (w.alloc (.cells #[.slice A0 p.safe.length c0, .slice A1 p.wet.length c1, .int .i64 p.left, .int .i64 sp, .bool p.off, .int .i64 p.acts] 33)).heap.size = w.heap.size + 1 := by simp
    have s2 : ((w.alloc (.cells #[.slice A0 p.safe.length c0, .slice A1 p.wet.length c1, .int .i64 p.left, .int .i64 sp, .bool p.off, .int .i64 p.acts] 33)).alloc (.cells #[.int .u8 k, .int .i64 y, .int .i64 n, .slice A bs.length cb] 36)).heap.size = w.heap.size + 1 + 1 := by simp
    have no : ∀ g, w.heap.size ≤ g → ¬ Own c sv wv g := fun g hg h => by have := HH.out.lt h; omega
    refine ⟨HH.out.below hb, Fr.of_below hb _, fun k hk => .inl hk, ⟨no _ (by omega), no _ (by omega), no _ (by omega)⟩, ?_, ?_, ?_, HHR.out.bound.below hb, fun k hk => ⟨HAP.out k hk.1, by have := hk.2; omega, by have := hk.2; omega, by have := hk.2; omega⟩, fun k hk => .inl hk.1, by omega, by omega, by omega⟩
    · rw [hW, hg4]; exact blk_alloc (blk_alloc (blk_new w _) _) _
    · rw [hW, hg5, ← s1]; exact blk_alloc (blk_new _ _) _
    · rw [hW, hg6, ← s2]; exact blk_new _ _⟩
  rw [← hW, ← hg6, ← hg5, ← hg4]
  clear hW hg6 hg5 hg4
  go_wp2_with fail
  go_at_call 11
  refine (flush_c H0.out.pl).mono ?_
  rintro e w1 ⟨rfl, ⟨wv1, h1, o1⟩, f1⟩
  have H1 := Aside0.mk (H0.out.plate h1 f1 (fun k hk => .inl (o1 k hk)))
  clear h1 o1 f1 H0
  obtain ⟨e0, e1, e2, e3, e4, e5, ef⟩ := cells6 H1.out.q4
  go_wp2_with fail
  go_at_call 26
  clear e0 e1 e2 e3 e4 e5 ef
  refine (rflush_c H1.out.r HH.out.fit hl hl2).mono ?_
  rintro e w2 ⟨x', rfl, h2, hb⟩
  have H2 := Aside0.mk (H1.out.ref hb h2 (fun k hk => hk))
  obtain ⟨B0, d0, B1, d1, rfl, _, _⟩ := h2
  obtain ⟨p1, hp1⟩ : ∃ q, q = p.flush.1 := ⟨_, rfl⟩
  obtain ⟨r1, hr1⟩ : ∃ q, q = p.flush.2 := ⟨_, rfl⟩
  rw [← hp1] at H2 HF ⊢
  rw [← hr1]
  clear hb H1 hp1 hr1
  go_upto_region 19 with (
    refine wp_store_at rfl 33 (.tmp 4) (.tmp 36) rfl g4 _ rfl rfl 33 _ H2.out.q4 (by kernel_rfl) rfl (by first | kernel_rfl | (simp [Value.oneCell']; done)) ?_
    intro V4 hv hV
    have H4 := Aside0.mk (H2.out.set4 (V' := V4) (by rw [hV]; exact Fr.row _ _ _) hv)
    clear hV hv
    obtain ⟨e0, e1, e2, e3, e4, e5, ef⟩ := cells6 H4.out.q4)
  clear e0 e1 e2 e3 e4 e5 ef
  obtain ⟨e0, e1, e2, e3, e4, e5, ef⟩ := cells6 H4.out.q4
  go_wp2_with (refine wp_store_at rfl 33 (.tmp 6) (.tmp 70) rfl g6 _ rfl rfl 33 _ H4.out.q6 (by kernel_rfl) rfl (by first | kernel_rfl | (simp [Value.oneCell']; done)) ?_
               intro V9 hv hV
               have HV9 := Aside0.mk hv
               have HE := Aside0.mk hV
               clear hV hv)
  refine bodyPost_ret (results_ct rfl _ _ g6 33 _ (0, 0) _ rfl HV9.out Try.underlying33 rfl (by kernel_rfl)) rfl ?_
  have hf9 : Fr V4 V9 (fun i => i = g6) := by rw [HE.out]; exact Fr.row _ _ _
  obtain ⟨z1, z2, z3, z4, z5⟩ := DoA.done H4.out hf9
  refine ⟨_, _, _, rfl, ?_, ?_, z3, z4, z5⟩
  · rw [HF.out]; exact z1
  · rw [HF.out]; exact z2
set_option maxHeartbeats 8000000 in
theorem do_flush5 {w : World} {c : Nat} {sv wv : Value} {p : St} {P : Nat → Prop} {x : Value} {sp : Int} (H : IsPlate w c sv wv p) (HR : RefIs w P x p sp) (hap : ∀ k, P k → ¬ Own c sv wv k) (hl : -1 ≤ p.left) (hl2 : p.left ≤ 1000000) (hwn : p.wet.length < 1000) (hsp : p.spare = mx sp 0) (k y n : Int) (hk : 0 ≤ k ∧ k < 256) (A : Option Addr) (cb : Nat) (bs : List Int) (hr : ∀ W', Fr w W' (Own c sv wv) → Kd.C (Kd.int .u8) W' A bs.length bs) (h4 : k.tmod 8 = 5) :
    Calls Try.prog 13 #[.pointer (some ⟨c, 0, none⟩), x, .agg #[.int .u8 k, .int .i64 y, .int .i64 n, .slice A bs.length cb]] w fun e w' => ∃ x' wv' R, e = .returned (.tuple #[x', .bool true]) ∧ IsPlate w' c sv wv' (doSt p (k.tmod 8) y n bs) ∧ RefIs w' R x' (doSt p (k.tmod 8) y n bs) (sp) ∧ (∀ k, R k → (P k ∨ w.heap.size ≤ k) ∧ ¬ Own c sv wv' k) ∧ Fr w w' (Own c sv wv) ∧ (∀ k, Own c sv wv' k → Own c sv wv k ∨ w.heap.size ≤ k) := by
  have HF : Aside0 (doSt p (k.tmod 8) y n bs = p.flush.1) := ⟨by rw [h4]; simp [doSt]⟩
  obtain ⟨A0, c0, A1, c1, rfl, _, _⟩ := id HR
  have HH := Aside0.mk H
  have HHR := Aside0.mk HR
  have HAP := Aside0.mk hap
  have HRR := Aside0.mk hr
  have HSP := Aside0.mk hsp
  clear H HR hap hr hsp
  go_enter Try.func13, Try.ntmps13
  go_upto_region 8 with fail
  obtain ⟨g6, hg6⟩ : ∃ g, g = w.heap.size + 1 + 1 := ⟨_, rfl⟩
  obtain ⟨g5, hg5⟩ : ∃ g, g = w.heap.size + 1 := ⟨_, rfl⟩
  obtain ⟨g4, hg4⟩ : ∃ g, g = w.heap.size := ⟨_, rfl⟩
  obtain ⟨W, hW⟩ : ∃ W, W = ((w.alloc (.cells #[.slice A0 p.safe.length c0, .slice A1 p.wet.length c1, .int .i64 p.left, .int .i64 sp, .bool p.off, .int .i64 p.acts] 33)).alloc (.cells #[.int .u8 k, .int .i64 y, .int .i64 n, .slice A bs.length cb] 36)).alloc (.cells #[.slice none 0 0, .slice none 0 0, .int .i64 0, .int .i64 0, .bool false, .int .i64 0] 33) := ⟨_, rfl⟩
  have H0 : Aside0 (DoA w W g4 g5 g6 c sv wv wv p P (fun k => P k ∧ k < w.heap.size) (.agg #[.slice A0 p.safe.length c0, .slice A1 p.wet.length c1, .int .i64 p.left, .int .i64 sp, .bool p.off, .int .i64 p.acts]) p sp #[.slice A0 p.safe.length c0, .slice A1 p.wet.length c1, .int .i64 p.left, .int .i64 sp, .bool p.off, .int .i64 p.acts] #[.int .u8 k, .int .i64 y, .int .i64 n, .slice A bs.length cb]) := ⟨by
    have hb : Below w.heap.size w W := by rw [hW]; exact below_alloc (below_alloc (below_alloc (Below.refl w.heap.size w) _) _) _
    have s1 : (w.alloc (.cells #[.slice A0 p.safe.length c0, .slice A1 p.wet.length c1, .int .i64 p.left, .int .i64 sp, .bool p.off, .int .i64 p.acts] 33)).heap.size = w.heap.size + 1 := by simp
    have s2 : ((w.alloc (.cells #[.slice A0 p.safe.length c0, .slice A1 p.wet.length c1, .int .i64 p.left, .int .i64 sp, .bool p.off, .int .i64 p.acts] 33)).alloc (.cells #[.int .u8 k, .int .i64 y, .int .i64 n, .slice A bs.length cb] 36)).heap.size = w.heap.size + 1 + 1 := by simp
    have no : ∀ g, w.heap.size ≤ g → ¬ Own c sv wv g := fun g hg h => by have := HH.out.lt h; omega
    refine ⟨HH.out.below hb, Fr.of_below hb _, fun k hk => .inl hk, ⟨no _ (by omega), no _ (by omega), no _ (by omega)⟩, ?_, ?_, ?_, HHR.out.bound.below hb, fun k hk => ⟨HAP.out k hk.1, by have := hk.2; omega, by have := hk.2; omega, by have := hk.2; omega⟩, fun k hk => .inl hk.1, by omega, by omega, by omega⟩
    · rw [hW, hg4]; exact blk_alloc (blk_alloc (blk_new w _) _) _
    · rw [hW, hg5, ← s1]; exact blk_alloc (blk_new _ _) _
    · rw [hW, hg6, ← s2]; exact blk_new _ _⟩
  rw [← hW, ← hg6, ← hg5, ← hg4]
  clear hW hg6 hg5 hg4
  go_wp2_with fail
  go_at_call 11
  refine (flush_c H0.out.pl).mono ?_
  rintro e w1 ⟨rfl, ⟨wv1, h1, o1⟩, f1⟩
  have H1 := Aside0.mk (H0.out.plate h1 f1 (fun k hk => .inl (o1 k hk)))
  clear h1 o1 f1 H0
  obtain ⟨e0, e1, e2, e3, e4, e5, ef⟩ := cells6 H1.out.q4
  go_wp2_with fail
  go_at_call 26
  clear e0 e1 e2 e3 e4 e5 ef
  refine (rflush_c H1.out.r HH.out.fit hl hl2).mono ?_
  rintro e w2 ⟨x', rfl, h2, hb⟩
  have H2 := Aside0.mk (H1.out.ref hb h2 (fun k hk => hk))
  obtain ⟨B0, d0, B1, d1, rfl, _, _⟩ := h2
  obtain ⟨p1, hp1⟩ : ∃ q, q = p.flush.1 := ⟨_, rfl⟩
  obtain ⟨r1, hr1⟩ : ∃ q, q = p.flush.2 := ⟨_, rfl⟩
  rw [← hp1] at H2 HF ⊢
  rw [← hr1]
  clear hb H1 hp1 hr1
  go_upto_region 19 with (
    refine wp_store_at rfl 33 (.tmp 4) (.tmp 36) rfl g4 _ rfl rfl 33 _ H2.out.q4 (by kernel_rfl) rfl (by first | kernel_rfl | (simp [Value.oneCell']; done)) ?_
    intro V4 hv hV
    have H4 := Aside0.mk (H2.out.set4 (V' := V4) (by rw [hV]; exact Fr.row _ _ _) hv)
    clear hV hv
    obtain ⟨e0, e1, e2, e3, e4, e5, ef⟩ := cells6 H4.out.q4)
  clear e0 e1 e2 e3 e4 e5 ef
  obtain ⟨e0, e1, e2, e3, e4, e5, ef⟩ := cells6 H4.out.q4
  go_wp2_with (refine wp_store_at rfl 33 (.tmp 6) (.tmp 70) rfl g6 _ rfl rfl 33 _ H4.out.q6 (by kernel_rfl) rfl (by first | kernel_rfl | (simp [Value.oneCell']; done)) ?_
               intro V9 hv hV
               have HV9 := Aside0.mk hv
               have HE := Aside0.mk hV
               clear hV hv)
  refine bodyPost_ret (results_ct rfl _ _ g6 33 _ (0, 0) _ rfl HV9.out Try.underlying33 rfl (by kernel_rfl)) rfl ?_
  have hf9 : Fr V4 V9 (fun i => i = g6) := by rw [HE.out]; exact Fr.row _ _ _
  obtain ⟨z1, z2, z3, z4, z5⟩ := DoA.done H4.out hf9
  refine ⟨_, _, _, rfl, ?_, ?_, z3, z4, z5⟩
  · rw [HF.out]; exact z1
  · rw [HF.out]; exact z2
set_option maxHeartbeats 8000000 in
theorem do_arm {w : World} {c : Nat} {sv wv : Value} {p : St} {P : Nat → Prop} {x : Value} {sp : Int} (H : IsPlate w c sv wv p) (HR : RefIs w P x p sp) (hap : ∀ k, P k → ¬ Own c sv wv k) (hl : -1 ≤ p.left) (hl2 : p.left ≤ 1000000) (hwn : p.wet.length < 1000) (hsp : p.spare = mx sp 0) (k y n : Int) (hk : 0 ≤ k ∧ k < 256) (A : Option Addr) (cb : Nat) (bs : List Int) (hr : ∀ W', Fr w W' (Own c sv wv) → Kd.C (Kd.int .u8) W' A bs.length bs) (h4 : k.tmod 8 = 6) :
    Calls Try.prog 13 #[.pointer (some ⟨c, 0, none⟩), x, .agg #[.int .u8 k, .int .i64 y, .int .i64 n, .slice A bs.length cb]] w fun e w' => ∃ x' wv' R, e = .returned (.tuple #[x', .bool true]) ∧ IsPlate w' c sv wv' (doSt p (k.tmod 8) y n bs) ∧ RefIs w' R x' (doSt p (k.tmod 8) y n bs) (n.tmod 80) ∧ (∀ k, R k → (P k ∨ w.heap.size ≤ k) ∧ ¬ Own c sv wv' k) ∧ Fr w w' (Own c sv wv) ∧ (∀ k, Own c sv wv' k → Own c sv wv k ∨ w.heap.size ≤ k) := by
  have HF : Aside0 (doSt p (k.tmod 8) y n bs = p.arm (y.tmod 9) (n.tmod 80)) := ⟨by rw [h4]; simp [doSt]⟩
  have hyy := Int.lt_tmod_of_pos y (show (0 : Int) < 9 by omega)
  have HY9 := Aside0.mk hyy
  clear hyy
  by_cases hneg : y.tmod 9 < 0
  · obtain ⟨A0, c0, A1, c1, rfl, _, _⟩ := id HR
    have HH := Aside0.mk H
    have HHR := Aside0.mk HR
    have HAP := Aside0.mk hap
    have HRR := Aside0.mk hr
    have HSP := Aside0.mk hsp
    clear H HR hap hr hsp
    go_enter Try.func13, Try.ntmps13
    go_upto_region 11 with fail
    obtain ⟨g6, hg6⟩ : ∃ g, g = w.heap.size + 1 + 1 := ⟨_, rfl⟩
    obtain ⟨g5, hg5⟩ : ∃ g, g = w.heap.size + 1 := ⟨_, rfl⟩
    obtain ⟨g4, hg4⟩ : ∃ g, g = w.heap.size := ⟨_, rfl⟩
    obtain ⟨W, hW⟩ : ∃ W, W = ((w.alloc (.cells #[.slice A0 p.safe.length c0, .slice A1 p.wet.length c1, .int .i64 p.left, .int .i64 sp, .bool p.off, .int .i64 p.acts] 33)).alloc (.cells #[.int .u8 k, .int .i64 y, .int .i64 n, .slice A bs.length cb] 36)).alloc (.cells #[.slice none 0 0, .slice none 0 0, .int .i64 0, .int .i64 0, .bool false, .int .i64 0] 33) := ⟨_, rfl⟩
    have H0 : Aside0 (DoA w W g4 g5 g6 c sv wv wv p P (fun k => P k ∧ k < w.heap.size) (.agg #[.slice A0 p.safe.length c0, .slice A1 p.wet.length c1, .int .i64 p.left, .int .i64 sp, .bool p.off, .int .i64 p.acts]) p sp #[.slice A0 p.safe.length c0, .slice A1 p.wet.length c1, .int .i64 p.left, .int .i64 sp, .bool p.off, .int .i64 p.acts] #[.int .u8 k, .int .i64 y, .int .i64 n, .slice A bs.length cb]) := ⟨by
      have hb : Below w.heap.size w W := by rw [hW]; exact below_alloc (below_alloc (below_alloc (Below.refl w.heap.size w) _) _) _
      have s1 : (w.alloc (.cells #[.slice A0 p.safe.length c0, .slice A1 p.wet.length c1, .int .i64 p.left, .int .i64 sp, .bool p.off, .int .i64 p.acts] 33)).heap.size = w.heap.size + 1 := by simp
      have s2 : ((w.alloc (.cells #[.slice A0 p.safe.length c0, .slice A1 p.wet.length c1, .int .i64 p.left, .int .i64 sp, .bool p.off, .int .i64 p.acts] 33)).alloc (.cells #[.int .u8 k, .int .i64 y, .int .i64 n, .slice A bs.length cb] 36)).heap.size = w.heap.size + 1 + 1 := by simp
      have no : ∀ g, w.heap.size ≤ g → ¬ Own c sv wv g := fun g hg h => by have := HH.out.lt h; omega
      refine ⟨HH.out.below hb, Fr.of_below hb _, fun k hk => .inl hk, ⟨no _ (by omega), no _ (by omega), no _ (by omega)⟩, ?_, ?_, ?_, HHR.out.bound.below hb, fun k hk => ⟨HAP.out k hk.1, by have := hk.2; omega, by have := hk.2; omega, by have := hk.2; omega⟩, fun k hk => .inl hk.1, by omega, by omega, by omega⟩
      · rw [hW, hg4]; exact blk_alloc (blk_alloc (blk_new w _) _) _
      · rw [hW, hg5, ← s1]; exact blk_alloc (blk_new _ _) _
      · rw [hW, hg6, ← s2]; exact blk_new _ _⟩
    rw [← hW, ← hg6, ← hg5, ← hg4]
    clear hW hg6 hg5 hg4
    have q5 := cells4 H0.out.q5
    obtain ⟨a0, a1, a2, a3, af⟩ := q5
    go_wp2_with fail
    go_at_call 16
    refine (arm_c H0.out.pl (y.tmod 9) (n.tmod 80)).mono ?_
    rintro e w1 ⟨rfl, h1, f1⟩
    have H1 := Aside0.mk (H0.out.plate h1 (f1.mono (fun i h => .inl h)) (fun k hk => .inl hk))
    clear h1 f1 H0 a0 a1 a2 a3 af
    obtain ⟨e0, e1, e2, e3, e4, e5, ef⟩ := cells6 H1.out.q4
    have q5 := cells4 H1.out.q5
    obtain ⟨a0, a1, a2, a3, af⟩ := q5
    have n1 : g4 ≠ g5 := by have := H1.out.e; omega
    have n2 : g5 ≠ g4 := by have := H1.out.e; omega
    go_upto_region 19 with fail
    obtain ⟨V4, hV4⟩ : ∃ V, V = (((w1.setCell ⟨g4, 2, none⟩ (.int .i64 (y.tmod 9))).setCell ⟨g4, 2, none⟩ (.int .i64 (-1))).setCell ⟨g4, 3, none⟩ (.int .i64 (n.tmod 80))) := ⟨_, rfl⟩
    have H4 : Aside0 (DoA w V4 g4 g5 g6 c sv wv wv (p.arm (y.tmod 9) (n.tmod 80)) P _ (.agg #[.slice A0 p.safe.length c0, .slice A1 p.wet.length c1, (.int .i64 (-1)), .int .i64 (n.tmod 80), .bool p.off, .int .i64 p.acts]) (p.arm (y.tmod 9) (n.tmod 80)) (n.tmod 80) #[.slice A0 p.safe.length c0, .slice A1 p.wet.length c1, (.int .i64 (-1)), .int .i64 (n.tmod 80), .bool p.off, .int .i64 p.acts] #[.int .u8 k, .int .i64 y, .int .i64 n, .slice A bs.length cb]) := ⟨by
      have h := H1.out.set4 (V' := V4) (cs := #[.slice A0 p.safe.length c0, .slice A1 p.wet.length c1, (.int .i64 (-1)), .int .i64 (n.tmod 80), .bool p.off, .int .i64 p.acts]) (by rw [hV4]; exact ((((Fr.refl w1 (fun i => i = g4)).set (p := ⟨g4, 2, none⟩) (.inl rfl) _).set (p := ⟨g4, 2, none⟩) (.inl rfl) _).set (p := ⟨g4, 3, none⟩) (.inl rfl) _)) (by rw [hV4]; exact (blk_put (blk_put (blk_put H1.out.q4 2 (.int .i64 (y.tmod 9)) rfl) 2 (.int .i64 (-1)) rfl) 3 (.int .i64 (n.tmod 80)) rfl))
      have e : (p.arm (y.tmod 9) (n.tmod 80)).left = -1 := by have := HY9.out; simp only [St.arm]; unfold mx; split <;> omega
      obtain ⟨r0, r1⟩ := RefIs.get h.r
      exact ⟨h.pl, h.fr, h.ow, h.on, h.q4, h.q5, h.q6, by have h2 := RefIs.mk (p := p.arm (y.tmod 9) (n.tmod 80)) (sp := n.tmod 80) r0 r1; rw [e] at h2; exact h2, h.rn, h.rp, h.e⟩⟩
    rw [← hV4]
    clear hV4 e0 e1 e2 e3 e4 e5 ef
    obtain ⟨e0, e1, e2, e3, e4, e5, ef⟩ := cells6 H4.out.q4
    go_wp2_with (refine wp_store_at rfl 33 (.tmp 6) (.tmp 70) rfl g6 _ rfl rfl 33 _ H4.out.q6 (by kernel_rfl) rfl (by first | kernel_rfl | (simp [Value.oneCell']; done)) ?_
                 intro V9 hv hV
                 have HV9 := Aside0.mk hv
                 have HE := Aside0.mk hV
                 clear hV hv)
    refine bodyPost_ret (results_ct rfl _ _ g6 33 _ (0, 0) _ rfl HV9.out Try.underlying33 rfl (by kernel_rfl)) rfl ?_
    have hf9 : Fr V4 V9 (fun i => i = g6) := by rw [HE.out]; exact Fr.row _ _ _
    obtain ⟨z1, z2, z3, z4, z5⟩ := DoA.done H4.out hf9
    refine ⟨_, _, _, rfl, ?_, ?_, z3, z4, z5⟩
    · rw [HF.out]; exact z1
    · rw [HF.out]; exact z2
  · obtain ⟨A0, c0, A1, c1, rfl, _, _⟩ := id HR
    have HH := Aside0.mk H
    have HHR := Aside0.mk HR
    have HAP := Aside0.mk hap
    have HRR := Aside0.mk hr
    have HSP := Aside0.mk hsp
    clear H HR hap hr hsp
    go_enter Try.func13, Try.ntmps13
    go_upto_region 11 with fail
    obtain ⟨g6, hg6⟩ : ∃ g, g = w.heap.size + 1 + 1 := ⟨_, rfl⟩
    obtain ⟨g5, hg5⟩ : ∃ g, g = w.heap.size + 1 := ⟨_, rfl⟩
    obtain ⟨g4, hg4⟩ : ∃ g, g = w.heap.size := ⟨_, rfl⟩
    obtain ⟨W, hW⟩ : ∃ W, W = ((w.alloc (.cells #[.slice A0 p.safe.length c0, .slice A1 p.wet.length c1, .int .i64 p.left, .int .i64 sp, .bool p.off, .int .i64 p.acts] 33)).alloc (.cells #[.int .u8 k, .int .i64 y, .int .i64 n, .slice A bs.length cb] 36)).alloc (.cells #[.slice none 0 0, .slice none 0 0, .int .i64 0, .int .i64 0, .bool false, .int .i64 0] 33) := ⟨_, rfl⟩
    have H0 : Aside0 (DoA w W g4 g5 g6 c sv wv wv p P (fun k => P k ∧ k < w.heap.size) (.agg #[.slice A0 p.safe.length c0, .slice A1 p.wet.length c1, .int .i64 p.left, .int .i64 sp, .bool p.off, .int .i64 p.acts]) p sp #[.slice A0 p.safe.length c0, .slice A1 p.wet.length c1, .int .i64 p.left, .int .i64 sp, .bool p.off, .int .i64 p.acts] #[.int .u8 k, .int .i64 y, .int .i64 n, .slice A bs.length cb]) := ⟨by
      have hb : Below w.heap.size w W := by rw [hW]; exact below_alloc (below_alloc (below_alloc (Below.refl w.heap.size w) _) _) _
      have s1 : (w.alloc (.cells #[.slice A0 p.safe.length c0, .slice A1 p.wet.length c1, .int .i64 p.left, .int .i64 sp, .bool p.off, .int .i64 p.acts] 33)).heap.size = w.heap.size + 1 := by simp
      have s2 : ((w.alloc (.cells #[.slice A0 p.safe.length c0, .slice A1 p.wet.length c1, .int .i64 p.left, .int .i64 sp, .bool p.off, .int .i64 p.acts] 33)).alloc (.cells #[.int .u8 k, .int .i64 y, .int .i64 n, .slice A bs.length cb] 36)).heap.size = w.heap.size + 1 + 1 := by simp
      have no : ∀ g, w.heap.size ≤ g → ¬ Own c sv wv g := fun g hg h => by have := HH.out.lt h; omega
      refine ⟨HH.out.below hb, Fr.of_below hb _, fun k hk => .inl hk, ⟨no _ (by omega), no _ (by omega), no _ (by omega)⟩, ?_, ?_, ?_, HHR.out.bound.below hb, fun k hk => ⟨HAP.out k hk.1, by have := hk.2; omega, by have := hk.2; omega, by have := hk.2; omega⟩, fun k hk => .inl hk.1, by omega, by omega, by omega⟩
      · rw [hW, hg4]; exact blk_alloc (blk_alloc (blk_new w _) _) _
      · rw [hW, hg5, ← s1]; exact blk_alloc (blk_new _ _) _
      · rw [hW, hg6, ← s2]; exact blk_new _ _⟩
    rw [← hW, ← hg6, ← hg5, ← hg4]
    clear hW hg6 hg5 hg4
    have q5 := cells4 H0.out.q5
    obtain ⟨a0, a1, a2, a3, af⟩ := q5
    go_wp2_with fail
    go_at_call 16
    refine (arm_c H0.out.pl (y.tmod 9) (n.tmod 80)).mono ?_
    rintro e w1 ⟨rfl, h1, f1⟩
    have H1 := Aside0.mk (H0.out.plate h1 (f1.mono (fun i h => .inl h)) (fun k hk => .inl hk))
    clear h1 f1 H0 a0 a1 a2 a3 af
    obtain ⟨e0, e1, e2, e3, e4, e5, ef⟩ := cells6 H1.out.q4
    have q5 := cells4 H1.out.q5
    obtain ⟨a0, a1, a2, a3, af⟩ := q5
    have n1 : g4 ≠ g5 := by have := H1.out.e; omega
    have n2 : g5 ≠ g4 := by have := H1.out.e; omega
    go_upto_region 19 with fail
    obtain ⟨V4, hV4⟩ : ∃ V, V = ((w1.setCell ⟨g4, 2, none⟩ (.int .i64 (y.tmod 9))).setCell ⟨g4, 3, none⟩ (.int .i64 (n.tmod 80))) := ⟨_, rfl⟩
    have H4 : Aside0 (DoA w V4 g4 g5 g6 c sv wv wv (p.arm (y.tmod 9) (n.tmod 80)) P _ (.agg #[.slice A0 p.safe.length c0, .slice A1 p.wet.length c1, (.int .i64 (y.tmod 9)), .int .i64 (n.tmod 80), .bool p.off, .int .i64 p.acts]) (p.arm (y.tmod 9) (n.tmod 80)) (n.tmod 80) #[.slice A0 p.safe.length c0, .slice A1 p.wet.length c1, (.int .i64 (y.tmod 9)), .int .i64 (n.tmod 80), .bool p.off, .int .i64 p.acts] #[.int .u8 k, .int .i64 y, .int .i64 n, .slice A bs.length cb]) := ⟨by
      have h := H1.out.set4 (V' := V4) (cs := #[.slice A0 p.safe.length c0, .slice A1 p.wet.length c1, (.int .i64 (y.tmod 9)), .int .i64 (n.tmod 80), .bool p.off, .int .i64 p.acts]) (by rw [hV4]; exact (((Fr.refl w1 (fun i => i = g4)).set (p := ⟨g4, 2, none⟩) (.inl rfl) _).set (p := ⟨g4, 3, none⟩) (.inl rfl) _)) (by rw [hV4]; exact (blk_put (blk_put H1.out.q4 2 (.int .i64 (y.tmod 9)) rfl) 3 (.int .i64 (n.tmod 80)) rfl))
      have e : (p.arm (y.tmod 9) (n.tmod 80)).left = y.tmod 9 := by have := HY9.out; simp only [St.arm]; unfold mx; split <;> omega
      obtain ⟨r0, r1⟩ := RefIs.get h.r
      exact ⟨h.pl, h.fr, h.ow, h.on, h.q4, h.q5, h.q6, by have h2 := RefIs.mk (p := p.arm (y.tmod 9) (n.tmod 80)) (sp := n.tmod 80) r0 r1; rw [e] at h2; exact h2, h.rn, h.rp, h.e⟩⟩
    rw [← hV4]
    clear hV4 e0 e1 e2 e3 e4 e5 ef
    obtain ⟨e0, e1, e2, e3, e4, e5, ef⟩ := cells6 H4.out.q4
    go_wp2_with (refine wp_store_at rfl 33 (.tmp 6) (.tmp 70) rfl g6 _ rfl rfl 33 _ H4.out.q6 (by kernel_rfl) rfl (by first | kernel_rfl | (simp [Value.oneCell']; done)) ?_
                 intro V9 hv hV
                 have HV9 := Aside0.mk hv
                 have HE := Aside0.mk hV
                 clear hV hv)
    refine bodyPost_ret (results_ct rfl _ _ g6 33 _ (0, 0) _ rfl HV9.out Try.underlying33 rfl (by kernel_rfl)) rfl ?_
    have hf9 : Fr V4 V9 (fun i => i = g6) := by rw [HE.out]; exact Fr.row _ _ _
    obtain ⟨z1, z2, z3, z4, z5⟩ := DoA.done H4.out hf9
    refine ⟨_, _, _, rfl, ?_, ?_, z3, z4, z5⟩
    · rw [HF.out]; exact z1
    · rw [HF.out]; exact z2
set_option maxHeartbeats 8000000 in
theorem do_fall {w : World} {c : Nat} {sv wv : Value} {p : St} {P : Nat → Prop} {x : Value} {sp : Int} (H : IsPlate w c sv wv p) (HR : RefIs w P x p sp) (hap : ∀ k, P k → ¬ Own c sv wv k) (hl : -1 ≤ p.left) (hl2 : p.left ≤ 1000000) (hwn : p.wet.length < 1000) (hsp : p.spare = mx sp 0) (k y n : Int) (hk : 0 ≤ k ∧ k < 256) (A : Option Addr) (cb : Nat) (bs : List Int) (hr : ∀ W', Fr w W' (Own c sv wv) → Kd.C (Kd.int .u8) W' A bs.length bs) (h4 : k.tmod 8 = 7) :
    Calls Try.prog 13 #[.pointer (some ⟨c, 0, none⟩), x, .agg #[.int .u8 k, .int .i64 y, .int .i64 n, .slice A bs.length cb]] w fun e w' => ∃ x' wv' R, e = .returned (.tuple #[x', .bool true]) ∧ IsPlate w' c sv wv' (doSt p (k.tmod 8) y n bs) ∧ RefIs w' R x' (doSt p (k.tmod 8) y n bs) (0) ∧ (∀ k, R k → (P k ∨ w.heap.size ≤ k) ∧ ¬ Own c sv wv' k) ∧ Fr w w' (Own c sv wv) ∧ (∀ k, Own c sv wv' k → Own c sv wv k ∨ w.heap.size ≤ k) := by
  have HF : Aside0 (doSt p (k.tmod 8) y n bs = p.fall n.toNat) := ⟨by rw [h4]; simp [doSt]⟩
  obtain ⟨A0, c0, A1, c1, rfl, _, _⟩ := id HR
  have HH := Aside0.mk H
  have HHR := Aside0.mk HR
  have HAP := Aside0.mk hap
  have HRR := Aside0.mk hr
  have HSP := Aside0.mk hsp
  clear H HR hap hr hsp
  go_enter Try.func13, Try.ntmps13
  go_upto_region 17 with fail
  obtain ⟨g6, hg6⟩ : ∃ g, g = w.heap.size + 1 + 1 := ⟨_, rfl⟩
  obtain ⟨g5, hg5⟩ : ∃ g, g = w.heap.size + 1 := ⟨_, rfl⟩
  obtain ⟨g4, hg4⟩ : ∃ g, g = w.heap.size := ⟨_, rfl⟩
  obtain ⟨W, hW⟩ : ∃ W, W = ((w.alloc (.cells #[.slice A0 p.safe.length c0, .slice A1 p.wet.length c1, .int .i64 p.left, .int .i64 sp, .bool p.off, .int .i64 p.acts] 33)).alloc (.cells #[.int .u8 k, .int .i64 y, .int .i64 n, .slice A bs.length cb] 36)).alloc (.cells #[.slice none 0 0, .slice none 0 0, .int .i64 0, .int .i64 0, .bool false, .int .i64 0] 33) := ⟨_, rfl⟩
  have H0 : Aside0 (DoA w W g4 g5 g6 c sv wv wv p P (fun k => P k ∧ k < w.heap.size) (.agg #[.slice A0 p.safe.length c0, .slice A1 p.wet.length c1, .int .i64 p.left, .int .i64 sp, .bool p.off, .int .i64 p.acts]) p sp #[.slice A0 p.safe.length c0, .slice A1 p.wet.length c1, .int .i64 p.left, .int .i64 sp, .bool p.off, .int .i64 p.acts] #[.int .u8 k, .int .i64 y, .int .i64 n, .slice A bs.length cb]) := ⟨by
    have hb : Below w.heap.size w W := by rw [hW]; exact below_alloc (below_alloc (below_alloc (Below.refl w.heap.size w) _) _) _
    have s1 : (w.alloc (.cells #[.slice A0 p.safe.length c0, .slice A1 p.wet.length c1, .int .i64 p.left, .int .i64 sp, .bool p.off, .int .i64 p.acts] 33)).heap.size = w.heap.size + 1 := by simp
    have s2 : ((w.alloc (.cells #[.slice A0 p.safe.length c0, .slice A1 p.wet.length c1, .int .i64 p.left, .int .i64 sp, .bool p.off, .int .i64 p.acts] 33)).alloc (.cells #[.int .u8 k, .int .i64 y, .int .i64 n, .slice A bs.length cb] 36)).heap.size = w.heap.size + 1 + 1 := by simp
    have no : ∀ g, w.heap.size ≤ g → ¬ Own c sv wv g := fun g hg h => by have := HH.out.lt h; omega
    refine ⟨HH.out.below hb, Fr.of_below hb _, fun k hk => .inl hk, ⟨no _ (by omega), no _ (by omega), no _ (by omega)⟩, ?_, ?_, ?_, HHR.out.bound.below hb, fun k hk => ⟨HAP.out k hk.1, by have := hk.2; omega, by have := hk.2; omega, by have := hk.2; omega⟩, fun k hk => .inl hk.1, by omega, by omega, by omega⟩
    · rw [hW, hg4]; exact blk_alloc (blk_alloc (blk_new w _) _) _
    · rw [hW, hg5, ← s1]; exact blk_alloc (blk_new _ _) _
    · rw [hW, hg6, ← s2]; exact blk_new _ _⟩
  rw [← hW, ← hg6, ← hg5, ← hg4]
  clear hW hg6 hg5 hg4
  have q5 := cells4 H0.out.q5
  obtain ⟨a0, a1, a2, a3, af⟩ := q5
  go_wp2_with fail
  go_at_call 14
  refine (fall_c H0.out.pl n).mono ?_
  rintro e w1 ⟨rfl, h1, f1⟩
  have H1 := Aside0.mk (H0.out.plate h1 f1 own_nilw)
  clear h1 f1 H0 a0 a1 a2 a3 af
  obtain ⟨e0, e1, e2, e3, e4, e5, ef⟩ := cells6 H1.out.q4
  have q5 := cells4 H1.out.q5
  obtain ⟨a0, a1, a2, a3, af⟩ := q5
  go_wp2_with fail
  go_at_call 27
  clear e0 e1 e2 e3 e4 e5 ef a0 a1 a2 a3 af
  refine (rfall_c H1.out.r HH.out.fit n).mono ?_
  rintro e w2 ⟨x', rfl, h2, hb⟩
  have H2 := Aside0.mk (H1.out.ref hb h2 (fun k hk => hk))
  obtain ⟨B0, d0, B1, d1, rfl, _, _⟩ := h2
  obtain ⟨p1, hp1⟩ : ∃ q, q = p.fall n.toNat := ⟨_, rfl⟩
  rw [← hp1] at H2 HF ⊢
  clear hb H1 hp1
  go_upto_region 19 with (
    refine wp_store_at rfl 33 (.tmp 4) (.tmp 69) rfl g4 _ rfl rfl 33 _ H2.out.q4 (by kernel_rfl) rfl (by first | kernel_rfl | (simp [Value.oneCell']; done)) ?_
    intro V4 hv hV
    have H4 := Aside0.mk (H2.out.set4 (V' := V4) (by rw [hV]; exact Fr.row _ _ _) hv)
    clear hV hv
    obtain ⟨e0, e1, e2, e3, e4, e5, ef⟩ := cells6 H4.out.q4)
  clear e0 e1 e2 e3 e4 e5 ef
  obtain ⟨e0, e1, e2, e3, e4, e5, ef⟩ := cells6 H4.out.q4
  go_wp2_with (refine wp_store_at rfl 33 (.tmp 6) (.tmp 70) rfl g6 _ rfl rfl 33 _ H4.out.q6 (by kernel_rfl) rfl (by first | kernel_rfl | (simp [Value.oneCell']; done)) ?_
               intro V9 hv hV
               have HV9 := Aside0.mk hv
               have HE := Aside0.mk hV
               clear hV hv)
  refine bodyPost_ret (results_ct rfl _ _ g6 33 _ (0, 0) _ rfl HV9.out Try.underlying33 rfl (by kernel_rfl)) rfl ?_
  have hf9 : Fr V4 V9 (fun i => i = g6) := by rw [HE.out]; exact Fr.row _ _ _
  obtain ⟨z1, z2, z3, z4, z5⟩ := DoA.done H4.out hf9
  refine ⟨_, _, _, rfl, ?_, ?_, z3, z4, z5⟩
  · rw [HF.out]; exact z1
  · rw [HF.out]; exact z2
set_option maxHeartbeats 8000000 in
theorem do_write0 {w : World} {c : Nat} {sv wv : Value} {p : St} {P : Nat → Prop} {x : Value} {sp : Int} (H : IsPlate w c sv wv p) (HR : RefIs w P x p sp) (hap : ∀ k, P k → ¬ Own c sv wv k) (hl : -1 ≤ p.left) (hl2 : p.left ≤ 1000000) (hwn : p.wet.length < 1000) (hsp : p.spare = mx sp 0) (k y n : Int) (hk : 0 ≤ k ∧ k < 256) (A : Option Addr) (cb : Nat) (bs : List Int) (hr : ∀ W', Fr w W' (Own c sv wv) → Kd.C (Kd.int .u8) W' A bs.length bs) (h4 : k.tmod 8 = 0) (hin : 0 ≤ y ∧ y < p.safe.length ∧ bs.length ≤ 64) :
    Calls Try.prog 13 #[.pointer (some ⟨c, 0, none⟩), x, .agg #[.int .u8 k, .int .i64 y, .int .i64 n, .slice A bs.length cb]] w fun e w' => ∃ x' wv' R, e = .returned (.tuple #[x', .bool true]) ∧ IsPlate w' c sv wv' (doSt p (k.tmod 8) y n bs) ∧ RefIs w' R x' (doSt p (k.tmod 8) y n bs) (sp) ∧ (∀ k, R k → (P k ∨ w.heap.size ≤ k) ∧ ¬ Own c sv wv' k) ∧ Fr w w' (Own c sv wv) ∧ (∀ k, Own c sv wv' k → Own c sv wv k ∨ w.heap.size ≤ k) := by
  have HF : Aside0 (doSt p (k.tmod 8) y n bs = (p.write y.toNat bs).1) := ⟨by rw [h4]; simp [doSt, hin]⟩
  obtain ⟨i, rfl⟩ : ∃ i : Nat, y = (i : Int) := ⟨y.toNat, by omega⟩
  have HIN : Aside0 (i < p.safe.length ∧ bs.length ≤ 64) := ⟨by omega, hin.2.2⟩
  rw [Int.toNat_natCast] at HF
  clear hin
  obtain ⟨A0, c0, A1, c1, rfl, _, _⟩ := id HR
  have HH := Aside0.mk H
  have HHR := Aside0.mk HR
  have HAP := Aside0.mk hap
  have HRR := Aside0.mk hr
  have HSP := Aside0.mk hsp
  clear H HR hap hr hsp
  go_enter Try.func13, Try.ntmps13
  go_upto_region 4 with fail
  obtain ⟨g6, hg6⟩ : ∃ g, g = w.heap.size + 1 + 1 := ⟨_, rfl⟩
  obtain ⟨g5, hg5⟩ : ∃ g, g = w.heap.size + 1 := ⟨_, rfl⟩
  obtain ⟨g4, hg4⟩ : ∃ g, g = w.heap.size := ⟨_, rfl⟩
  obtain ⟨W, hW⟩ : ∃ W, W = ((w.alloc (.cells #[.slice A0 p.safe.length c0, .slice A1 p.wet.length c1, .int .i64 p.left, .int .i64 sp, .bool p.off, .int .i64 p.acts] 33)).alloc (.cells #[.int .u8 k, .int .i64 i, .int .i64 n, .slice A bs.length cb] 36)).alloc (.cells #[.slice none 0 0, .slice none 0 0, .int .i64 0, .int .i64 0, .bool false, .int .i64 0] 33) := ⟨_, rfl⟩
  have H0 : Aside0 (DoA w W g4 g5 g6 c sv wv wv p P (fun k => P k ∧ k < w.heap.size) (.agg #[.slice A0 p.safe.length c0, .slice A1 p.wet.length c1, .int .i64 p.left, .int .i64 sp, .bool p.off, .int .i64 p.acts]) p sp #[.slice A0 p.safe.length c0, .slice A1 p.wet.length c1, .int .i64 p.left, .int .i64 sp, .bool p.off, .int .i64 p.acts] #[.int .u8 k, .int .i64 i, .int .i64 n, .slice A bs.length cb]) := ⟨by
    have hb : Below w.heap.size w W := by rw [hW]; exact below_alloc (below_alloc (below_alloc (Below.refl w.heap.size w) _) _) _
    have s1 : (w.alloc (.cells #[.slice A0 p.safe.length c0, .slice A1 p.wet.length c1, .int .i64 p.left, .int .i64 sp, .bool p.off, .int .i64 p.acts] 33)).heap.size = w.heap.size + 1 := by simp
    have s2 : ((w.alloc (.cells #[.slice A0 p.safe.length c0, .slice A1 p.wet.length c1, .int .i64 p.left, .int .i64 sp, .bool p.off, .int .i64 p.acts] 33)).alloc (.cells #[.int .u8 k, .int .i64 i, .int .i64 n, .slice A bs.length cb] 36)).heap.size = w.heap.size + 1 + 1 := by simp
    have no : ∀ g, w.heap.size ≤ g → ¬ Own c sv wv g := fun g hg h => by have := HH.out.lt h; omega
    refine ⟨HH.out.below hb, Fr.of_below hb _, fun k hk => .inl hk, ⟨no _ (by omega), no _ (by omega), no _ (by omega)⟩, ?_, ?_, ?_, HHR.out.bound.below hb, fun k hk => ⟨HAP.out k hk.1, by have := hk.2; omega, by have := hk.2; omega, by have := hk.2; omega⟩, fun k hk => .inl hk.1, by omega, by omega, by omega⟩
    · rw [hW, hg4]; exact blk_alloc (blk_alloc (blk_new w _) _) _
    · rw [hW, hg5, ← s1]; exact blk_alloc (blk_new _ _) _
    · rw [hW, hg6, ← s2]; exact blk_new _ _⟩
  rw [← hW, ← hg6, ← hg5, ← hg4]
  clear hW hg6 hg5 hg4
  have q5 := cells4 H0.out.q5
  obtain ⟨a0, a1, a2, a3, af⟩ := q5
  go_wp2_with fail
  go_at_call 10
  refine (write_c H0.out.pl i HIN.out.1 bs HIN.out.2 hwn A cb (HRR.out _ H0.out.fr)).mono ?_
  rintro e w1 ⟨rfl, wv1, h1, f1, o1⟩
  have H1 := Aside0.mk (H0.out.plate h1 f1 o1)
  clear h1 f1 o1 H0 a0 a1 a2 a3 af
  obtain ⟨e0, e1, e2, e3, e4, e5, ef⟩ := cells6 H1.out.q4
  have q5 := cells4 H1.out.q5
  obtain ⟨a0, a1, a2, a3, af⟩ := q5
  go_wp2_with fail
  go_at_call 28
  clear e0 e1 e2 e3 e4 e5 ef a0 a1 a2 a3 af
  refine (rput_c H1.out.r HH.out.fit hl hl2 hwn HSP.out i HIN.out.1 A cb bs HIN.out.2 (HRR.out _ H1.out.fr)).mono ?_
  rintro e w2 ⟨x', rfl, h2, hb⟩
  have H2 := Aside0.mk (H1.out.ref hb h2 (fun k hk => hk))
  obtain ⟨B0, d0, B1, d1, rfl, _, _⟩ := h2
  obtain ⟨p1, hp1⟩ : ∃ q, q = (p.write i bs).1 := ⟨_, rfl⟩
  obtain ⟨r1, hr1⟩ : ∃ q, q = (p.write i bs).2 := ⟨_, rfl⟩
  rw [← hp1] at H2 HF ⊢
  rw [← hr1]
  clear hb H1 hp1 hr1
  go_upto_region 19 with (
    refine wp_store_at rfl 33 (.tmp 4) (.tmp 26) rfl g4 _ rfl rfl 33 _ H2.out.q4 (by kernel_rfl) rfl (by first | kernel_rfl | (simp [Value.oneCell']; done)) ?_
    intro V4 hv hV
    have H4 := Aside0.mk (H2.out.set4 (V' := V4) (by rw [hV]; exact Fr.row _ _ _) hv)
    clear hV hv
    obtain ⟨e0, e1, e2, e3, e4, e5, ef⟩ := cells6 H4.out.q4)
  clear e0 e1 e2 e3 e4 e5 ef
  obtain ⟨e0, e1, e2, e3, e4, e5, ef⟩ := cells6 H4.out.q4
  go_wp2_with (refine wp_store_at rfl 33 (.tmp 6) (.tmp 70) rfl g6 _ rfl rfl 33 _ H4.out.q6 (by kernel_rfl) rfl (by first | kernel_rfl | (simp [Value.oneCell']; done)) ?_
               intro V9 hv hV
               have HV9 := Aside0.mk hv
               have HE := Aside0.mk hV
               clear hV hv)
  refine bodyPost_ret (results_ct rfl _ _ g6 33 _ (0, 0) _ rfl HV9.out Try.underlying33 rfl (by kernel_rfl)) rfl ?_
  have hf9 : Fr V4 V9 (fun i => i = g6) := by rw [HE.out]; exact Fr.row _ _ _
  obtain ⟨z1, z2, z3, z4, z5⟩ := DoA.done H4.out hf9
  refine ⟨_, _, _, rfl, ?_, ?_, z3, z4, z5⟩
  · rw [HF.out]; exact z1
  · rw [HF.out]; exact z2
set_option maxHeartbeats 8000000 in
theorem do_write1 {w : World} {c : Nat} {sv wv : Value} {p : St} {P : Nat → Prop} {x : Value} {sp : Int} (H : IsPlate w c sv wv p) (HR : RefIs w P x p sp) (hap : ∀ k, P k → ¬ Own c sv wv k) (hl : -1 ≤ p.left) (hl2 : p.left ≤ 1000000) (hwn : p.wet.length < 1000) (hsp : p.spare = mx sp 0) (k y n : Int) (hk : 0 ≤ k ∧ k < 256) (A : Option Addr) (cb : Nat) (bs : List Int) (hr : ∀ W', Fr w W' (Own c sv wv) → Kd.C (Kd.int .u8) W' A bs.length bs) (h4 : k.tmod 8 = 1) (hin : 0 ≤ y ∧ y < p.safe.length ∧ bs.length ≤ 64) :
    Calls Try.prog 13 #[.pointer (some ⟨c, 0, none⟩), x, .agg #[.int .u8 k, .int .i64 y, .int .i64 n, .slice A bs.length cb]] w fun e w' => ∃ x' wv' R, e = .returned (.tuple #[x', .bool true]) ∧ IsPlate w' c sv wv' (doSt p (k.tmod 8) y n bs) ∧ RefIs w' R x' (doSt p (k.tmod 8) y n bs) (sp) ∧ (∀ k, R k → (P k ∨ w.heap.size ≤ k) ∧ ¬ Own c sv wv' k) ∧ Fr w w' (Own c sv wv) ∧ (∀ k, Own c sv wv' k → Own c sv wv k ∨ w.heap.size ≤ k) := by
  have HF : Aside0 (doSt p (k.tmod 8) y n bs = (p.write y.toNat bs).1) := ⟨by rw [h4]; simp [doSt, hin]⟩
  obtain ⟨i, rfl⟩ : ∃ i : Nat, y = (i : Int) := ⟨y.toNat, by omega⟩
  have HIN : Aside0 (i < p.safe.length ∧ bs.length ≤ 64) := ⟨by omega, hin.2.2⟩
  rw [Int.toNat_natCast] at HF
  clear hin
  obtain ⟨A0, c0, A1, c1, rfl, _, _⟩ := id HR
  have HH := Aside0.mk H
  have HHR := Aside0.mk HR
  have HAP := Aside0.mk hap
  have HRR := Aside0.mk hr
  have HSP := Aside0.mk hsp
  clear H HR hap hr hsp
  go_enter Try.func13, Try.ntmps13
  go_upto_region 4 with fail
  obtain ⟨g6, hg6⟩ : ∃ g, g = w.heap.size + 1 + 1 := ⟨_, rfl⟩
  obtain ⟨g5, hg5⟩ : ∃ g, g = w.heap.size + 1 := ⟨_, rfl⟩
  obtain ⟨g4, hg4⟩ : ∃ g, g = w.heap.size := ⟨_, rfl⟩
  obtain ⟨W, hW⟩ : ∃ W, W = ((w.alloc (.cells #[.slice A0 p.safe.length c0, .slice A1 p.wet.length c1, .int .i64 p.left, .int .i64 sp, .bool p.off, .int .i64 p.acts] 33)).alloc (.cells #[.int .u8 k, .int .i64 i, .int .i64 n, .slice A bs.length cb] 36)).alloc (.cells #[.slice none 0 0, .slice none 0 0, .int .i64 0, .int .i64 0, .bool false, .int .i64 0] 33) := ⟨_, rfl⟩
  have H0 : Aside0 (DoA w W g4 g5 g6 c sv wv wv p P (fun k => P k ∧ k < w.heap.size) (.agg #[.slice A0 p.safe.length c0, .slice A1 p.wet.length c1, .int .i64 p.left, .int .i64 sp, .bool p.off, .int .i64 p.acts]) p sp #[.slice A0 p.safe.length c0, .slice A1 p.wet.length c1, .int .i64 p.left, .int .i64 sp, .bool p.off, .int .i64 p.acts] #[.int .u8 k, .int .i64 i, .int .i64 n, .slice A bs.length cb]) := ⟨by
    have hb : Below w.heap.size w W := by rw [hW]; exact below_alloc (below_alloc (below_alloc (Below.refl w.heap.size w) _) _) _
    have s1 : (w.alloc (.cells #[.slice A0 p.safe.length c0, .slice A1 p.wet.length c1, .int .i64 p.left, .int .i64 sp, .bool p.off, .int .i64 p.acts] 33)).heap.size = w.heap.size + 1 := by simp
    have s2 : ((w.alloc (.cells #[.slice A0 p.safe.length c0, .slice A1 p.wet.length c1, .int .i64 p.left, .int .i64 sp, .bool p.off, .int .i64 p.acts] 33)).alloc (.cells #[.int .u8 k, .int .i64 i, .int .i64 n, .slice A bs.length cb] 36)).heap.size = w.heap.size + 1 + 1 := by simp
    have no : ∀ g, w.heap.size ≤ g → ¬ Own c sv wv g := fun g hg h => by have := HH.out.lt h; omega
    refine ⟨HH.out.below hb, Fr.of_below hb _, fun k hk => .inl hk, ⟨no _ (by omega), no _ (by omega), no _ (by omega)⟩, ?_, ?_, ?_, HHR.out.bound.below hb, fun k hk => ⟨HAP.out k hk.1, by have := hk.2; omega, by have := hk.2; omega, by have := hk.2; omega⟩, fun k hk => .inl hk.1, by omega, by omega, by omega⟩
    · rw [hW, hg4]; exact blk_alloc (blk_alloc (blk_new w _) _) _
    · rw [hW, hg5, ← s1]; exact blk_alloc (blk_new _ _) _
    · rw [hW, hg6, ← s2]; exact blk_new _ _⟩
  rw [← hW, ← hg6, ← hg5, ← hg4]
  clear hW hg6 hg5 hg4
  have q5 := cells4 H0.out.q5
  obtain ⟨a0, a1, a2, a3, af⟩ := q5
  go_wp2_with fail
  go_at_call 10
  refine (write_c H0.out.pl i HIN.out.1 bs HIN.out.2 hwn A cb (HRR.out _ H0.out.fr)).mono ?_
  rintro e w1 ⟨rfl, wv1, h1, f1, o1⟩
  have H1 := Aside0.mk (H0.out.plate h1 f1 o1)
  clear h1 f1 o1 H0 a0 a1 a2 a3 af
  obtain ⟨e0, e1, e2, e3, e4, e5, ef⟩ := cells6 H1.out.q4
  have q5 := cells4 H1.out.q5
  obtain ⟨a0, a1, a2, a3, af⟩ := q5
  go_wp2_with fail
  go_at_call 28
  clear e0 e1 e2 e3 e4 e5 ef a0 a1 a2 a3 af
  refine (rput_c H1.out.r HH.out.fit hl hl2 hwn HSP.out i HIN.out.1 A cb bs HIN.out.2 (HRR.out _ H1.out.fr)).mono ?_
  rintro e w2 ⟨x', rfl, h2, hb⟩
  have H2 := Aside0.mk (H1.out.ref hb h2 (fun k hk => hk))
  obtain ⟨B0, d0, B1, d1, rfl, _, _⟩ := h2
  obtain ⟨p1, hp1⟩ : ∃ q, q = (p.write i bs).1 := ⟨_, rfl⟩
  obtain ⟨r1, hr1⟩ : ∃ q, q = (p.write i bs).2 := ⟨_, rfl⟩
  rw [← hp1] at H2 HF ⊢
  rw [← hr1]
  clear hb H1 hp1 hr1
  go_upto_region 19 with (
    refine wp_store_at rfl 33 (.tmp 4) (.tmp 26) rfl g4 _ rfl rfl 33 _ H2.out.q4 (by kernel_rfl) rfl (by first | kernel_rfl | (simp [Value.oneCell']; done)) ?_
    intro V4 hv hV
    have H4 := Aside0.mk (H2.out.set4 (V' := V4) (by rw [hV]; exact Fr.row _ _ _) hv)
    clear hV hv
    obtain ⟨e0, e1, e2, e3, e4, e5, ef⟩ := cells6 H4.out.q4)
  clear e0 e1 e2 e3 e4 e5 ef
  obtain ⟨e0, e1, e2, e3, e4, e5, ef⟩ := cells6 H4.out.q4
  go_wp2_with (refine wp_store_at rfl 33 (.tmp 6) (.tmp 70) rfl g6 _ rfl rfl 33 _ H4.out.q6 (by kernel_rfl) rfl (by first | kernel_rfl | (simp [Value.oneCell']; done)) ?_
               intro V9 hv hV
               have HV9 := Aside0.mk hv
               have HE := Aside0.mk hV
               clear hV hv)
  refine bodyPost_ret (results_ct rfl _ _ g6 33 _ (0, 0) _ rfl HV9.out Try.underlying33 rfl (by kernel_rfl)) rfl ?_
  have hf9 : Fr V4 V9 (fun i => i = g6) := by rw [HE.out]; exact Fr.row _ _ _
  obtain ⟨z1, z2, z3, z4, z5⟩ := DoA.done H4.out hf9
  refine ⟨_, _, _, rfl, ?_, ?_, z3, z4, z5⟩
  · rw [HF.out]; exact z1
  · rw [HF.out]; exact z2
set_option maxHeartbeats 8000000 in
theorem do_write2 {w : World} {c : Nat} {sv wv : Value} {p : St} {P : Nat → Prop} {x : Value} {sp : Int} (H : IsPlate w c sv wv p) (HR : RefIs w P x p sp) (hap : ∀ k, P k → ¬ Own c sv wv k) (hl : -1 ≤ p.left) (hl2 : p.left ≤ 1000000) (hwn : p.wet.length < 1000) (hsp : p.spare = mx sp 0) (k y n : Int) (hk : 0 ≤ k ∧ k < 256) (A : Option Addr) (cb : Nat) (bs : List Int) (hr : ∀ W', Fr w W' (Own c sv wv) → Kd.C (Kd.int .u8) W' A bs.length bs) (h4 : k.tmod 8 = 2) (hin : 0 ≤ y ∧ y < p.safe.length ∧ bs.length ≤ 64) :
    Calls Try.prog 13 #[.pointer (some ⟨c, 0, none⟩), x, .agg #[.int .u8 k, .int .i64 y, .int .i64 n, .slice A bs.length cb]] w fun e w' => ∃ x' wv' R, e = .returned (.tuple #[x', .bool true]) ∧ IsPlate w' c sv wv' (doSt p (k.tmod 8) y n bs) ∧ RefIs w' R x' (doSt p (k.tmod 8) y n bs) (sp) ∧ (∀ k, R k → (P k ∨ w.heap.size ≤ k) ∧ ¬ Own c sv wv' k) ∧ Fr w w' (Own c sv wv) ∧ (∀ k, Own c sv wv' k → Own c sv wv k ∨ w.heap.size ≤ k) := by
  have HF : Aside0 (doSt p (k.tmod 8) y n bs = (p.write y.toNat bs).1) := ⟨by rw [h4]; simp [doSt, hin]⟩
  obtain ⟨i, rfl⟩ : ∃ i : Nat, y = (i : Int) := ⟨y.toNat, by omega⟩
  have HIN : Aside0 (i < p.safe.length ∧ bs.length ≤ 64) := ⟨by omega, hin.2.2⟩
  rw [Int.toNat_natCast] at HF
  clear hin
  obtain ⟨A0, c0, A1, c1, rfl, _, _⟩ := id HR
  have HH := Aside0.mk H
  have HHR := Aside0.mk HR
  have HAP := Aside0.mk hap
  have HRR := Aside0.mk hr
  have HSP := Aside0.mk hsp
  clear H HR hap hr hsp
  go_enter Try.func13, Try.ntmps13
  go_upto_region 4 with fail
  obtain ⟨g6, hg6⟩ : ∃ g, g = w.heap.size + 1 + 1 := ⟨_, rfl⟩
  obtain ⟨g5, hg5⟩ : ∃ g, g = w.heap.size + 1 := ⟨_, rfl⟩
  obtain ⟨g4, hg4⟩ : ∃ g, g = w.heap.size := ⟨_, rfl⟩
  obtain ⟨W, hW⟩ : ∃ W, W = ((w.alloc (.cells #[.slice A0 p.safe.length c0, .slice A1 p.wet.length c1, .int .i64 p.left, .int .i64 sp, .bool p.off, .int .i64 p.acts] 33)).alloc (.cells #[.int .u8 k, .int .i64 i, .int .i64 n, .slice A bs.length cb] 36)).alloc (.cells #[.slice none 0 0, .slice none 0 0, .int .i64 0, .int .i64 0, .bool false, .int .i64 0] 33) := ⟨_, rfl⟩
  have H0 : Aside0 (DoA w W g4 g5 g6 c sv wv wv p P (fun k => P k ∧ k < w.heap.size) (.agg #[.slice A0 p.safe.length c0, .slice A1 p.wet.length c1, .int .i64 p.left, .int .i64 sp, .bool p.off, .int .i64 p.acts]) p sp #[.slice A0 p.safe.length c0, .slice A1 p.wet.length c1, .int .i64 p.left, .int .i64 sp, .bool p.off, .int .i64 p.acts] #[.int .u8 k, .int .i64 i, .int .i64 n, .slice A bs.length cb]) := ⟨by
    have hb : Below w.heap.size w W := by rw [hW]; exact below_alloc (below_alloc (below_alloc (Below.refl w.heap.size w) _) _) _
    have s1 : (w.alloc (.cells #[.slice A0 p.safe.length c0, .slice A1 p.wet.length c1, .int .i64 p.left, .int .i64 sp, .bool p.off, .int .i64 p.acts] 33)).heap.size = w.heap.size + 1 := by simp
    have s2 : ((w.alloc (.cells #[.slice A0 p.safe.length c0, .slice A1 p.wet.length c1, .int .i64 p.left, .int .i64 sp, .bool p.off, .int .i64 p.acts] 33)).alloc (.cells #[.int .u8 k, .int .i64 i, .int .i64 n, .slice A bs.length cb] 36)).heap.size = w.heap.size + 1 + 1 := by simp
    have no : ∀ g, w.heap.size ≤ g → ¬ Own c sv wv g := fun g hg h => by have := HH.out.lt h; omega
    refine ⟨HH.out.below hb, Fr.of_below hb _, fun k hk => .inl hk, ⟨no _ (by omega), no _ (by omega), no _ (by omega)⟩, ?_, ?_, ?_, HHR.out.bound.below hb, fun k hk => ⟨HAP.out k hk.1, by have := hk.2; omega, by have := hk.2; omega, by have := hk.2; omega⟩, fun k hk => .inl hk.1, by omega, by omega, by omega⟩
    · rw [hW, hg4]; exact blk_alloc (blk_alloc (blk_new w _) _) _
    · rw [hW, hg5, ← s1]; exact blk_alloc (blk_new _ _) _
    · rw [hW, hg6, ← s2]; exact blk_new _ _⟩
  rw [← hW, ← hg6, ← hg5, ← hg4]
  clear hW hg6 hg5 hg4
  have q5 := cells4 H0.out.q5
  obtain ⟨a0, a1, a2, a3, af⟩ := q5
  go_wp2_with fail
  go_at_call 10
  refine (write_c H0.out.pl i HIN.out.1 bs HIN.out.2 hwn A cb (HRR.out _ H0.out.fr)).mono ?_
  rintro e w1 ⟨rfl, wv1, h1, f1, o1⟩
  have H1 := Aside0.mk (H0.out.plate h1 f1 o1)
  clear h1 f1 o1 H0 a0 a1 a2 a3 af
  obtain ⟨e0, e1, e2, e3, e4, e5, ef⟩ := cells6 H1.out.q4
  have q5 := cells4 H1.out.q5
  obtain ⟨a0, a1, a2, a3, af⟩ := q5
  go_wp2_with fail
  go_at_call 28
  clear e0 e1 e2 e3 e4 e5 ef a0 a1 a2 a3 af
  refine (rput_c H1.out.r HH.out.fit hl hl2 hwn HSP.out i HIN.out.1 A cb bs HIN.out.2 (HRR.out _ H1.out.fr)).mono ?_
  rintro e w2 ⟨x', rfl, h2, hb⟩
  have H2 := Aside0.mk (H1.out.ref hb h2 (fun k hk => hk))
  obtain ⟨B0, d0, B1, d1, rfl, _, _⟩ := h2
  obtain ⟨p1, hp1⟩ : ∃ q, q = (p.write i bs).1 := ⟨_, rfl⟩
  obtain ⟨r1, hr1⟩ : ∃ q, q = (p.write i bs).2 := ⟨_, rfl⟩
  rw [← hp1] at H2 HF ⊢
  rw [← hr1]
  clear hb H1 hp1 hr1
  go_upto_region 19 with (
    refine wp_store_at rfl 33 (.tmp 4) (.tmp 26) rfl g4 _ rfl rfl 33 _ H2.out.q4 (by kernel_rfl) rfl (by first | kernel_rfl | (simp [Value.oneCell']; done)) ?_
    intro V4 hv hV
    have H4 := Aside0.mk (H2.out.set4 (V' := V4) (by rw [hV]; exact Fr.row _ _ _) hv)
    clear hV hv
    obtain ⟨e0, e1, e2, e3, e4, e5, ef⟩ := cells6 H4.out.q4)
  clear e0 e1 e2 e3 e4 e5 ef
  obtain ⟨e0, e1, e2, e3, e4, e5, ef⟩ := cells6 H4.out.q4
  go_wp2_with (refine wp_store_at rfl 33 (.tmp 6) (.tmp 70) rfl g6 _ rfl rfl 33 _ H4.out.q6 (by kernel_rfl) rfl (by first | kernel_rfl | (simp [Value.oneCell']; done)) ?_
               intro V9 hv hV
               have HV9 := Aside0.mk hv
               have HE := Aside0.mk hV
               clear hV hv)
  refine bodyPost_ret (results_ct rfl _ _ g6 33 _ (0, 0) _ rfl HV9.out Try.underlying33 rfl (by kernel_rfl)) rfl ?_
  have hf9 : Fr V4 V9 (fun i => i = g6) := by rw [HE.out]; exact Fr.row _ _ _
  obtain ⟨z1, z2, z3, z4, z5⟩ := DoA.done H4.out hf9
  refine ⟨_, _, _, rfl, ?_, ?_, z3, z4, z5⟩
  · rw [HF.out]; exact z1
  · rw [HF.out]; exact z2
set_option maxHeartbeats 8000000 in
theorem do_write3 {w : World} {c : Nat} {sv wv : Value} {p : St} {P : Nat → Prop} {x : Value} {sp : Int} (H : IsPlate w c sv wv p) (HR : RefIs w P x p sp) (hap : ∀ k, P k → ¬ Own c sv wv k) (hl : -1 ≤ p.left) (hl2 : p.left ≤ 1000000) (hwn : p.wet.length < 1000) (hsp : p.spare = mx sp 0) (k y n : Int) (hk : 0 ≤ k ∧ k < 256) (A : Option Addr) (cb : Nat) (bs : List Int) (hr : ∀ W', Fr w W' (Own c sv wv) → Kd.C (Kd.int .u8) W' A bs.length bs) (h4 : k.tmod 8 = 3) (hin : 0 ≤ y ∧ y < p.safe.length ∧ bs.length ≤ 64) :
    Calls Try.prog 13 #[.pointer (some ⟨c, 0, none⟩), x, .agg #[.int .u8 k, .int .i64 y, .int .i64 n, .slice A bs.length cb]] w fun e w' => ∃ x' wv' R, e = .returned (.tuple #[x', .bool true]) ∧ IsPlate w' c sv wv' (doSt p (k.tmod 8) y n bs) ∧ RefIs w' R x' (doSt p (k.tmod 8) y n bs) (sp) ∧ (∀ k, R k → (P k ∨ w.heap.size ≤ k) ∧ ¬ Own c sv wv' k) ∧ Fr w w' (Own c sv wv) ∧ (∀ k, Own c sv wv' k → Own c sv wv k ∨ w.heap.size ≤ k) := by
  have HF : Aside0 (doSt p (k.tmod 8) y n bs = (p.write y.toNat bs).1) := ⟨by rw [h4]; simp [doSt, hin]⟩
  obtain ⟨i, rfl⟩ : ∃ i : Nat, y = (i : Int) := ⟨y.toNat, by omega⟩
  have HIN : Aside0 (i < p.safe.length ∧ bs.length ≤ 64) := ⟨by omega, hin.2.2⟩
  rw [Int.toNat_natCast] at HF
  clear hin
  obtain ⟨A0, c0, A1, c1, rfl, _, _⟩ := id HR
  have HH := Aside0.mk H
  have HHR := Aside0.mk HR
  have HAP := Aside0.mk hap
  have HRR := Aside0.mk hr
  have HSP := Aside0.mk hsp
  clear H HR hap hr hsp
  go_enter Try.func13, Try.ntmps13
  go_upto_region 4 with fail
  obtain ⟨g6, hg6⟩ : ∃ g, g = w.heap.size + 1 + 1 := ⟨_, rfl⟩
  obtain ⟨g5, hg5⟩ : ∃ g, g = w.heap.size + 1 := ⟨_, rfl⟩
  obtain ⟨g4, hg4⟩ : ∃ g, g = w.heap.size := ⟨_, rfl⟩
  obtain ⟨W, hW⟩ : ∃ W, W = ((w.alloc (.cells #[.slice A0 p.safe.length c0, .slice A1 p.wet.length c1, .int .i64 p.left, .int .i64 sp, .bool p.off, .int .i64 p.acts] 33)).alloc (.cells #[.int .u8 k, .int .i64 i, .int .i64 n, .slice A bs.length cb] 36)).alloc (.cells #[.slice none 0 0, .slice none 0 0, .int .i64 0, .int .i64 0, .bool false, .int .i64 0] 33) := ⟨_, rfl⟩
  have H0 : Aside0 (DoA w W g4 g5 g6 c sv wv wv p P (fun k => P k ∧ k < w.heap.size) (.agg #[.slice A0 p.safe.length c0, .slice A1 p.wet.length c1, .int .i64 p.left, .int .i64 sp, .bool p.off, .int .i64 p.acts]) p sp #[.slice A0 p.safe.length c0, .slice A1 p.wet.length c1, .int .i64 p.left, .int .i64 sp, .bool p.off, .int .i64 p.acts] #[.int .u8 k, .int .i64 i, .int .i64 n, .slice A bs.length cb]) := ⟨by
    have hb : Below w.heap.size w W := by rw [hW]; exact below_alloc (below_alloc (below_alloc (Below.refl w.heap.size w) _) _) _
    have s1 : (w.alloc (.cells #[.slice A0 p.safe.length c0, .slice A1 p.wet.length c1, .int .i64 p.left, .int .i64 sp, .bool p.off, .int .i64 p.acts] 33)).heap.size = w.heap.size + 1 := by simp
    have s2 : ((w.alloc (.cells #[.slice A0 p.safe.length c0, .slice A1 p.wet.length c1, .int .i64 p.left, .int .i64 sp, .bool p.off, .int .i64 p.acts] 33)).alloc (.cells #[.int .u8 k, .int .i64 i, .int .i64 n, .slice A bs.length cb] 36)).heap.size = w.heap.size + 1 + 1 := by simp
    have no : ∀ g, w.heap.size ≤ g → ¬ Own c sv wv g := fun g hg h => by have := HH.out.lt h; omega
    refine ⟨HH.out.below hb, Fr.of_below hb _, fun k hk => .inl hk, ⟨no _ (by omega), no _ (by omega), no _ (by omega)⟩, ?_, ?_, ?_, HHR.out.bound.below hb, fun k hk => ⟨HAP.out k hk.1, by have := hk.2; omega, by have := hk.2; omega, by have := hk.2; omega⟩, fun k hk => .inl hk.1, by omega, by omega, by omega⟩
    · rw [hW, hg4]; exact blk_alloc (blk_alloc (blk_new w _) _) _
    · rw [hW, hg5, ← s1]; exact blk_alloc (blk_new _ _) _
    · rw [hW, hg6, ← s2]; exact blk_new _ _⟩
  rw [← hW, ← hg6, ← hg5, ← hg4]
  clear hW hg6 hg5 hg4
  have q5 := cells4 H0.out.q5
  obtain ⟨a0, a1, a2, a3, af⟩ := q5
  go_wp2_with fail
  go_at_call 10
  refine (write_c H0.out.pl i HIN.out.1 bs HIN.out.2 hwn A cb (HRR.out _ H0.out.fr)).mono ?_
  rintro e w1 ⟨rfl, wv1, h1, f1, o1⟩
  have H1 := Aside0.mk (H0.out.plate h1 f1 o1)
  clear h1 f1 o1 H0 a0 a1 a2 a3 af
  obtain ⟨e0, e1, e2, e3, e4, e5, ef⟩ := cells6 H1.out.q4
  have q5 := cells4 H1.out.q5
  obtain ⟨a0, a1, a2, a3, af⟩ := q5
  go_wp2_with fail
  go_at_call 28
  clear e0 e1 e2 e3 e4 e5 ef a0 a1 a2 a3 af
  refine (rput_c H1.out.r HH.out.fit hl hl2 hwn HSP.out i HIN.out.1 A cb bs HIN.out.2 (HRR.out _ H1.out.fr)).mono ?_
  rintro e w2 ⟨x', rfl, h2, hb⟩
  have H2 := Aside0.mk (H1.out.ref hb h2 (fun k hk => hk))
  obtain ⟨B0, d0, B1, d1, rfl, _, _⟩ := h2
  obtain ⟨p1, hp1⟩ : ∃ q, q = (p.write i bs).1 := ⟨_, rfl⟩
  obtain ⟨r1, hr1⟩ : ∃ q, q = (p.write i bs).2 := ⟨_, rfl⟩
  rw [← hp1] at H2 HF ⊢
  rw [← hr1]
  clear hb H1 hp1 hr1
  go_upto_region 19 with (
    refine wp_store_at rfl 33 (.tmp 4) (.tmp 26) rfl g4 _ rfl rfl 33 _ H2.out.q4 (by kernel_rfl) rfl (by first | kernel_rfl | (simp [Value.oneCell']; done)) ?_
    intro V4 hv hV
    have H4 := Aside0.mk (H2.out.set4 (V' := V4) (by rw [hV]; exact Fr.row _ _ _) hv)
    clear hV hv
    obtain ⟨e0, e1, e2, e3, e4, e5, ef⟩ := cells6 H4.out.q4)
  clear e0 e1 e2 e3 e4 e5 ef
  obtain ⟨e0, e1, e2, e3, e4, e5, ef⟩ := cells6 H4.out.q4
  go_wp2_with (refine wp_store_at rfl 33 (.tmp 6) (.tmp 70) rfl g6 _ rfl rfl 33 _ H4.out.q6 (by kernel_rfl) rfl (by first | kernel_rfl | (simp [Value.oneCell']; done)) ?_
               intro V9 hv hV
               have HV9 := Aside0.mk hv
               have HE := Aside0.mk hV
               clear hV hv)
  refine bodyPost_ret (results_ct rfl _ _ g6 33 _ (0, 0) _ rfl HV9.out Try.underlying33 rfl (by kernel_rfl)) rfl ?_
  have hf9 : Fr V4 V9 (fun i => i = g6) := by rw [HE.out]; exact Fr.row _ _ _
  obtain ⟨z1, z2, z3, z4, z5⟩ := DoA.done H4.out hf9
  refine ⟨_, _, _, rfl, ?_, ?_, z3, z4, z5⟩
  · rw [HF.out]; exact z1
  · rw [HF.out]; exact z2
set_option maxHeartbeats 8000000 in
theorem do_bad0 {w : World} {c : Nat} {sv wv : Value} {p : St} {P : Nat → Prop} {x : Value} {sp : Int} (H : IsPlate w c sv wv p) (HR : RefIs w P x p sp) (hap : ∀ k, P k → ¬ Own c sv wv k) (hl : -1 ≤ p.left) (hl2 : p.left ≤ 1000000) (hwn : p.wet.length < 1000) (hsp : p.spare = mx sp 0) (k y n : Int) (hk : 0 ≤ k ∧ k < 256) (A : Option Addr) (cb : Nat) (bs : List Int) (hr : ∀ W', Fr w W' (Own c sv wv) → Kd.C (Kd.int .u8) W' A bs.length bs) (h4 : k.tmod 8 = 0) (hin : ¬ (0 ≤ y ∧ y < p.safe.length ∧ bs.length ≤ 64)) :
    Calls Try.prog 13 #[.pointer (some ⟨c, 0, none⟩), x, .agg #[.int .u8 k, .int .i64 y, .int .i64 n, .slice A bs.length cb]] w fun e w' => ∃ x' wv' R, e = .returned (.tuple #[x', .bool true]) ∧ IsPlate w' c sv wv' (doSt p (k.tmod 8) y n bs) ∧ RefIs w' R x' (doSt p (k.tmod 8) y n bs) (sp) ∧ (∀ k, R k → (P k ∨ w.heap.size ≤ k) ∧ ¬ Own c sv wv' k) ∧ Fr w w' (Own c sv wv) ∧ (∀ k, Own c sv wv' k → Own c sv wv k ∨ w.heap.size ≤ k) := by
  have HF : Aside0 (doSt p (k.tmod 8) y n bs = p) := ⟨by rw [h4]; simp only [doSt]; rw [if_neg (by decide), if_neg (by decide), if_neg (by decide), if_neg hin]⟩
  have HIN : Aside0 (y < 0 ∨ (p.safe.length : Int) ≤ y ∨ 64 < bs.length) := ⟨by omega⟩
  clear hin
  obtain ⟨A0, c0, A1, c1, rfl, _, _⟩ := id HR
  have HH := Aside0.mk H
  have HHR := Aside0.mk HR
  have HAP := Aside0.mk hap
  have HRR := Aside0.mk hr
  have HSP := Aside0.mk hsp
  clear H HR hap hr hsp
  go_enter Try.func13, Try.ntmps13
  go_upto_region 4 with fail
  obtain ⟨g6, hg6⟩ : ∃ g, g = w.heap.size + 1 + 1 := ⟨_, rfl⟩
  obtain ⟨g5, hg5⟩ : ∃ g, g = w.heap.size + 1 := ⟨_, rfl⟩
  obtain ⟨g4, hg4⟩ : ∃ g, g = w.heap.size := ⟨_, rfl⟩
  obtain ⟨W, hW⟩ : ∃ W, W = ((w.alloc (.cells #[.slice A0 p.safe.length c0, .slice A1 p.wet.length c1, .int .i64 p.left, .int .i64 sp, .bool p.off, .int .i64 p.acts] 33)).alloc (.cells #[.int .u8 k, .int .i64 y, .int .i64 n, .slice A bs.length cb] 36)).alloc (.cells #[.slice none 0 0, .slice none 0 0, .int .i64 0, .int .i64 0, .bool false, .int .i64 0] 33) := ⟨_, rfl⟩
  have H0 : Aside0 (DoA w W g4 g5 g6 c sv wv wv p P (fun k => P k ∧ k < w.heap.size) (.agg #[.slice A0 p.safe.length c0, .slice A1 p.wet.length c1, .int .i64 p.left, .int .i64 sp, .bool p.off, .int .i64 p.acts]) p sp #[.slice A0 p.safe.length c0, .slice A1 p.wet.length c1, .int .i64 p.left, .int .i64 sp, .bool p.off, .int .i64 p.acts] #[.int .u8 k, .int .i64 y, .int .i64 n, .slice A bs.length cb]) := ⟨by
    have hb : Below w.heap.size w W := by rw [hW]; exact below_alloc (below_alloc (below_alloc (Below.refl w.heap.size w) _) _) _
    have s1 : (w.alloc (.cells #[.slice A0 p.safe.length c0, .slice A1 p.wet.length c1, .int .i64 p.left, .int .i64 sp, .bool p.off, .int .i64 p.acts] 33)).heap.size = w.heap.size + 1 := by simp
    have s2 : ((w.alloc (.cells #[.slice A0 p.safe.length c0, .slice A1 p.wet.length c1, .int .i64 p.left, .int .i64 sp, .bool p.off, .int .i64 p.acts] 33)).alloc (.cells #[.int .u8 k, .int .i64 y, .int .i64 n, .slice A bs.length cb] 36)).heap.size = w.heap.size + 1 + 1 := by simp
    have no : ∀ g, w.heap.size ≤ g → ¬ Own c sv wv g := fun g hg h => by have := HH.out.lt h; omega
    refine ⟨HH.out.below hb, Fr.of_below hb _, fun k hk => .inl hk, ⟨no _ (by omega), no _ (by omega), no _ (by omega)⟩, ?_, ?_, ?_, HHR.out.bound.below hb, fun k hk => ⟨HAP.out k hk.1, by have := hk.2; omega, by have := hk.2; omega, by have := hk.2; omega⟩, fun k hk => .inl hk.1, by omega, by omega, by omega⟩
    · rw [hW, hg4]; exact blk_alloc (blk_alloc (blk_new w _) _) _
    · rw [hW, hg5, ← s1]; exact blk_alloc (blk_new _ _) _
    · rw [hW, hg6, ← s2]; exact blk_new _ _⟩
  rw [← hW, ← hg6, ← hg5, ← hg4]
  clear hW hg6 hg5 hg4
  have q5 := cells4 H0.out.q5
  obtain ⟨a0, a1, a2, a3, af⟩ := q5
  go_wp2_with fail
  go_at_call 10
  refine (write_bad H0.out.pl y A bs.length cb HIN.out).mono ?_
  rintro e w1 ⟨rfl, rfl⟩
  clear a0 a1 a2 a3 af
  obtain ⟨e0, e1, e2, e3, e4, e5, ef⟩ := cells6 H0.out.q4
  have q5 := cells4 H0.out.q5
  obtain ⟨a0, a1, a2, a3, af⟩ := q5
  go_wp2_with fail
  go_at_call 28
  clear e0 e1 e2 e3 e4 e5 ef a0 a1 a2 a3 af
  refine (rput_bad H0.out.r y A bs.length cb HIN.out).mono ?_
  rintro e w2 ⟨x', rfl, h2, hb⟩
  have H2 := Aside0.mk (H0.out.ref hb h2 (fun k hk => hk))
  obtain ⟨B0, d0, B1, d1, rfl, _, _⟩ := h2
  clear hb H0
  go_upto_region 19 with (
    refine wp_store_at rfl 33 (.tmp 4) (.tmp 26) rfl g4 _ rfl rfl 33 _ H2.out.q4 (by kernel_rfl) rfl (by first | kernel_rfl | (simp [Value.oneCell']; done)) ?_
    intro V4 hv hV
    have H4 := Aside0.mk (H2.out.set4 (V' := V4) (by rw [hV]; exact Fr.row _ _ _) hv)
    clear hV hv
    obtain ⟨e0, e1, e2, e3, e4, e5, ef⟩ := cells6 H4.out.q4)
  clear e0 e1 e2 e3 e4 e5 ef
  obtain ⟨e0, e1, e2, e3, e4, e5, ef⟩ := cells6 H4.out.q4
  go_wp2_with (refine wp_store_at rfl 33 (.tmp 6) (.tmp 70) rfl g6 _ rfl rfl 33 _ H4.out.q6 (by kernel_rfl) rfl (by first | kernel_rfl | (simp [Value.oneCell']; done)) ?_
               intro V9 hv hV
               have HV9 := Aside0.mk hv
               have HE := Aside0.mk hV
               clear hV hv)
  refine bodyPost_ret (results_ct rfl _ _ g6 33 _ (0, 0) _ rfl HV9.out Try.underlying33 rfl (by kernel_rfl)) rfl ?_
  have hf9 : Fr V4 V9 (fun i => i = g6) := by rw [HE.out]; exact Fr.row _ _ _
  obtain ⟨z1, z2, z3, z4, z5⟩ := DoA.done H4.out hf9
  refine ⟨_, _, _, rfl, ?_, ?_, z3, z4, z5⟩
  · rw [HF.out]; exact z1
  · rw [HF.out]; exact z2
set_option maxHeartbeats 8000000 in
theorem do_bad1 {w : World} {c : Nat} {sv wv : Value} {p : St} {P : Nat → Prop} {x : Value} {sp : Int} (H : IsPlate w c sv wv p) (HR : RefIs w P x p sp) (hap : ∀ k, P k → ¬ Own c sv wv k) (hl : -1 ≤ p.left) (hl2 : p.left ≤ 1000000) (hwn : p.wet.length < 1000) (hsp : p.spare = mx sp 0) (k y n : Int) (hk : 0 ≤ k ∧ k < 256) (A : Option Addr) (cb : Nat) (bs : List Int) (hr : ∀ W', Fr w W' (Own c sv wv) → Kd.C (Kd.int .u8) W' A bs.length bs) (h4 : k.tmod 8 = 1) (hin : ¬ (0 ≤ y ∧ y < p.safe.length ∧ bs.length ≤ 64)) :
    Calls Try.prog 13 #[.pointer (some ⟨c, 0, none⟩), x, .agg #[.int .u8 k, .int .i64 y, .int .i64 n, .slice A bs.length cb]] w fun e w' => ∃ x' wv' R, e = .returned (.tuple #[x', .bool true]) ∧ IsPlate w' c sv wv' (doSt p (k.tmod 8) y n bs) ∧ RefIs w' R x' (doSt p (k.tmod 8) y n bs) (sp) ∧ (∀ k, R k → (P k ∨ w.heap.size ≤ k) ∧ ¬ Own c sv wv' k) ∧ Fr w w' (Own c sv wv) ∧ (∀ k, Own c sv wv' k → Own c sv wv k ∨ w.heap.size ≤ k) := by
  have HF : Aside0 (doSt p (k.tmod 8) y n bs = p) := ⟨by rw [h4]; simp only [doSt]; rw [if_neg (by decide), if_neg (by decide), if_neg (by decide), if_neg hin]⟩
  have HIN : Aside0 (y < 0 ∨ (p.safe.length : Int) ≤ y ∨ 64 < bs.length) := ⟨by omega⟩
  clear hin
  obtain ⟨A0, c0, A1, c1, rfl, _, _⟩ := id HR
  have HH := Aside0.mk H
  have HHR := Aside0.mk HR
  have HAP := Aside0.mk hap
  have HRR := Aside0.mk hr
  have HSP := Aside0.mk hsp
  clear H HR hap hr hsp
  go_enter Try.func13, Try.ntmps13
  go_upto_region 4 with fail
  obtain ⟨g6, hg6⟩ : ∃ g, g = w.heap.size + 1 + 1 := ⟨_, rfl⟩
  obtain ⟨g5, hg5⟩ : ∃ g, g = w.heap.size + 1 := ⟨_, rfl⟩
  obtain ⟨g4, hg4⟩ : ∃ g, g = w.heap.size := ⟨_, rfl⟩
  obtain ⟨W, hW⟩ : ∃ W, W = ((w.alloc (.cells #[.slice A0 p.safe.length c0, .slice A1 p.wet.length c1, .int .i64 p.left, .int .i64 sp, .bool p.off, .int .i64 p.acts] 33)).alloc (.cells #[.int .u8 k, .int .i64 y, .int .i64 n, .slice A bs.length cb] 36)).alloc (.cells #[.slice none 0 0, .slice none 0 0, .int .i64 0, .int .i64 0, .bool false, .int .i64 0] 33) := ⟨_, rfl⟩
  have H0 : Aside0 (DoA w W g4 g5 g6 c sv wv wv p P (fun k => P k ∧ k < w.heap.size) (.agg #[.slice A0 p.safe.length c0, .slice A1 p.wet.length c1, .int .i64 p.left, .int .i64 sp, .bool p.off, .int .i64 p.acts]) p sp #[.slice A0 p.safe.length c0, .slice A1 p.wet.length c1, .int .i64 p.left, .int .i64 sp, .bool p.off, .int .i64 p.acts] #[.int .u8 k, .int .i64 y, .int .i64 n, .slice A bs.length cb]) := ⟨by
    have hb : Below w.heap.size w W := by rw [hW]; exact below_alloc (below_alloc (below_alloc (Below.refl w.heap.size w) _) _) _
    have s1 : (w.alloc (.cells #[.slice A0 p.safe.length c0, .slice A1 p.wet.length c1, .int .i64 p.left, .int .i64 sp, .bool p.off, .int .i64 p.acts] 33)).heap.size = w.heap.size + 1 := by simp
    have s2 : ((w.alloc (.cells #[.slice A0 p.safe.length c0, .slice A1 p.wet.length c1, .int .i64 p.left, .int .i64 sp, .bool p.off, .int .i64 p.acts] 33)).alloc (.cells #[.int .u8 k, .int .i64 y, .int .i64 n, .slice A bs.length cb] 36)).heap.size = w.heap.size + 1 + 1 := by simp
    have no : ∀ g, w.heap.size ≤ g → ¬ Own c sv wv g := fun g hg h => by have := HH.out.lt h; omega
    refine ⟨HH.out.below hb, Fr.of_below hb _, fun k hk => .inl hk, ⟨no _ (by omega), no _ (by omega), no _ (by omega)⟩, ?_, ?_, ?_, HHR.out.bound.below hb, fun k hk => ⟨HAP.out k hk.1, by have := hk.2; omega, by have := hk.2; omega, by have := hk.2; omega⟩, fun k hk => .inl hk.1, by omega, by omega, by omega⟩
    · rw [hW, hg4]; exact blk_alloc (blk_alloc (blk_new w _) _) _
    · rw [hW, hg5, ← s1]; exact blk_alloc (blk_new _ _) _
    · rw [hW, hg6, ← s2]; exact blk_new _ _⟩
  rw [← hW, ← hg6, ← hg5, ← hg4]
  clear hW hg6 hg5 hg4
  have q5 := cells4 H0.out.q5
  obtain ⟨a0, a1, a2, a3, af⟩ := q5
  go_wp2_with fail
  go_at_call 10
  refine (write_bad H0.out.pl y A bs.length cb HIN.out).mono ?_
  rintro e w1 ⟨rfl, rfl⟩
  clear a0 a1 a2 a3 af
  obtain ⟨e0, e1, e2, e3, e4, e5, ef⟩ := cells6 H0.out.q4
  have q5 := cells4 H0.out.q5
  obtain ⟨a0, a1, a2, a3, af⟩ := q5
  go_wp2_with fail
  go_at_call 28
  clear e0 e1 e2 e3 e4 e5 ef a0 a1 a2 a3 af
  refine (rput_bad H0.out.r y A bs.length cb HIN.out).mono ?_
  rintro e w2 ⟨x', rfl, h2, hb⟩
  have H2 := Aside0.mk (H0.out.ref hb h2 (fun k hk => hk))
  obtain ⟨B0, d0, B1, d1, rfl, _, _⟩ := h2
  clear hb H0
  go_upto_region 19 with (
    refine wp_store_at rfl 33 (.tmp 4) (.tmp 26) rfl g4 _ rfl rfl 33 _ H2.out.q4 (by kernel_rfl) rfl (by first | kernel_rfl | (simp [Value.oneCell']; done)) ?_
    intro V4 hv hV
    have H4 := Aside0.mk (H2.out.set4 (V' := V4) (by rw [hV]; exact Fr.row _ _ _) hv)
    clear hV hv
    obtain ⟨e0, e1, e2, e3, e4, e5, ef⟩ := cells6 H4.out.q4)
  clear e0 e1 e2 e3 e4 e5 ef
  obtain ⟨e0, e1, e2, e3, e4, e5, ef⟩ := cells6 H4.out.q4
  go_wp2_with (refine wp_store_at rfl 33 (.tmp 6) (.tmp 70) rfl g6 _ rfl rfl 33 _ H4.out.q6 (by kernel_rfl) rfl (by first | kernel_rfl | (simp [Value.oneCell']; done)) ?_
               intro V9 hv hV
               have HV9 := Aside0.mk hv
               have HE := Aside0.mk hV
               clear hV hv)
  refine bodyPost_ret (results_ct rfl _ _ g6 33 _ (0, 0) _ rfl HV9.out Try.underlying33 rfl (by kernel_rfl)) rfl ?_
  have hf9 : Fr V4 V9 (fun i => i = g6) := by rw [HE.out]; exact Fr.row _ _ _
  obtain ⟨z1, z2, z3, z4, z5⟩ := DoA.done H4.out hf9
  refine ⟨_, _, _, rfl, ?_, ?_, z3, z4, z5⟩
  · rw [HF.out]; exact z1
  · rw [HF.out]; exact z2
set_option maxHeartbeats 8000000 in
theorem do_bad2 {w : World} {c : Nat} {sv wv : Value} {p : St} {P : Nat → Prop} {x : Value} {sp : Int} (H : IsPlate w c sv wv p) (HR : RefIs w P x p sp) (hap : ∀ k, P k → ¬ Own c sv wv k) (hl : -1 ≤ p.left) (hl2 : p.left ≤ 1000000) (hwn : p.wet.length < 1000) (hsp : p.spare = mx sp 0) (k y n : Int) (hk : 0 ≤ k ∧ k < 256) (A : Option Addr) (cb : Nat) (bs : List Int) (hr : ∀ W', Fr w W' (Own c sv wv) → Kd.C (Kd.int .u8) W' A bs.length bs) (h4 : k.tmod 8 = 2) (hin : ¬ (0 ≤ y ∧ y < p.safe.length ∧ bs.length ≤ 64)) :
    Calls Try.prog 13 #[.pointer (some ⟨c, 0, none⟩), x, .agg #[.int .u8 k, .int .i64 y, .int .i64 n, .slice A bs.length cb]] w fun e w' => ∃ x' wv' R, e = .returned (.tuple #[x', .bool true]) ∧ IsPlate w' c sv wv' (doSt p (k.tmod 8) y n bs) ∧ RefIs w' R x' (doSt p (k.tmod 8) y n bs) (sp) ∧ (∀ k, R k → (P k ∨ w.heap.size ≤ k) ∧ ¬ Own c sv wv' k) ∧ Fr w w' (Own c sv wv) ∧ (∀ k, Own c sv wv' k → Own c sv wv k ∨ w.heap.size ≤ k) := by
  have HF : Aside0 (doSt p (k.tmod 8) y n bs = p) := ⟨by rw [h4]; simp only [doSt]; rw [if_neg (by decide), if_neg (by decide), if_neg (by decide), if_neg hin]⟩
  have HIN : Aside0 (y < 0 ∨ (p.safe.length : Int) ≤ y ∨ 64 < bs.length) := ⟨by omega⟩
  clear hin
  obtain ⟨A0, c0, A1, c1, rfl, _, _⟩ := id HR
  have HH := Aside0.mk H
  have HHR := Aside0.mk HR
  have HAP := Aside0.mk hap
  have HRR := Aside0.mk hr
  have HSP := Aside0.mk hsp
  clear H HR hap hr hsp
  go_enter Try.func13, Try.ntmps13
  go_upto_region 4 with fail
  obtain ⟨g6, hg6⟩ : ∃ g, g = w.heap.size + 1 + 1 := ⟨_, rfl⟩
  obtain ⟨g5, hg5⟩ : ∃ g, g = w.heap.size + 1 := ⟨_, rfl⟩
  obtain ⟨g4, hg4⟩ : ∃ g, g = w.heap.size := ⟨_, rfl⟩
  obtain ⟨W, hW⟩ : ∃ W, W = ((w.alloc (.cells #[.slice A0 p.safe.length c0, .slice A1 p.wet.length c1, .int .i64 p.left, .int .i64 sp, .bool p.off, .int .i64 p.acts] 33)).alloc (.cells #[.int .u8 k, .int .i64 y, .int .i64 n, .slice A bs.length cb] 36)).alloc (.cells #[.slice none 0 0, .slice none 0 0, .int .i64 0, .int .i64 0, .bool false, .int .i64 0] 33) := ⟨_, rfl⟩
  have H0 : Aside0 (DoA w W g4 g5 g6 c sv wv wv p P (fun k => P k ∧ k < w.heap.size) (.agg #[.slice A0 p.safe.length c0, .slice A1 p.wet.length c1, .int .i64 p.left, .int .i64 sp, .bool p.off, .int .i64 p.acts]) p sp #[.slice A0 p.safe.length c0, .slice A1 p.wet.length c1, .int .i64 p.left, .int .i64 sp, .bool p.off, .int .i64 p.acts] #[.int .u8 k, .int .i64 y, .int .i64 n, .slice A bs.length cb]) := ⟨by
    have hb : Below w.heap.size w W := by rw [hW]; exact below_alloc (below_alloc (below_alloc (Below.refl w.heap.size w) _) _) _
    have s1 : (w.alloc (.cells #[.slice A0 p.safe.length c0, .slice A1 p.wet.length c1, .int .i64 p.left, .int .i64 sp, .bool p.off, .int .i64 p.acts] 33)).heap.size = w.heap.size + 1 := by simp
    have s2 : ((w.alloc (.cells #[.slice A0 p.safe.length c0, .slice A1 p.wet.length c1, .int .i64 p.left, .int .i64 sp, .bool p.off, .int .i64 p.acts] 33)).alloc (.cells #[.int .u8 k, .int .i64 y, .int .i64 n, .slice A bs.length cb] 36)).heap.size = w.heap.size + 1 + 1 := by simp
    have no : ∀ g, w.heap.size ≤ g → ¬ Own c sv wv g := fun g hg h => by have := HH.out.lt h; omega
    refine ⟨HH.out.below hb, Fr.of_below hb _, fun k hk => .inl hk, ⟨no _ (by omega), no _ (by omega), no _ (by omega)⟩, ?_, ?_, ?_, HHR.out.bound.below hb, fun k hk => ⟨HAP.out k hk.1, by have := hk.2; omega, by have := hk.2; omega, by have := hk.2; omega⟩, fun k hk => .inl hk.1, by omega, by omega, by omega⟩
    · rw [hW, hg4]; exact blk_alloc (blk_alloc (blk_new w _) _) _
    · rw [hW, hg5, ← s1]; exact blk_alloc (blk_new _ _) _
    · rw [hW, hg6, ← s2]; exact blk_new _ _⟩
  rw [← hW, ← hg6, ← hg5, ← hg4]
  clear hW hg6 hg5 hg4
  have q5 := cells4 H0.out.q5
  obtain ⟨a0, a1, a2, a3, af⟩ := q5
  go_wp2_with fail
  go_at_call 10
  refine (write_bad H0.out.pl y A bs.length cb HIN.out).mono ?_
  rintro e w1 ⟨rfl, rfl⟩
  clear a0 a1 a2 a3 af
  obtain ⟨e0, e1, e2, e3, e4, e5, ef⟩ := cells6 H0.out.q4
  have q5 := cells4 H0.out.q5
  obtain ⟨a0, a1, a2, a3, af⟩ := q5
  go_wp2_with fail
  go_at_call 28
  clear e0 e1 e2 e3 e4 e5 ef a0 a1 a2 a3 af
  refine (rput_bad H0.out.r y A bs.length cb HIN.out).mono ?_
  rintro e w2 ⟨x', rfl, h2, hb⟩
  have H2 := Aside0.mk (H0.out.ref hb h2 (fun k hk => hk))
  obtain ⟨B0, d0, B1, d1, rfl, _, _⟩ := h2
  clear hb H0
  go_upto_region 19 with (
    refine wp_store_at rfl 33 (.tmp 4) (.tmp 26) rfl g4 _ rfl rfl 33 _ H2.out.q4 (by kernel_rfl) rfl (by first | kernel_rfl | (simp [Value.oneCell']; done)) ?_
    intro V4 hv hV
    have H4 := Aside0.mk (H2.out.set4 (V' := V4) (by rw [hV]; exact Fr.row _ _ _) hv)
    clear hV hv
    obtain ⟨e0, e1, e2, e3, e4, e5, ef⟩ := cells6 H4.out.q4)
  clear e0 e1 e2 e3 e4 e5 ef
  obtain ⟨e0, e1, e2, e3, e4, e5, ef⟩ := cells6 H4.out.q4
  go_wp2_with (refine wp_store_at rfl 33 (.tmp 6) (.tmp 70) rfl g6 _ rfl rfl 33 _ H4.out.q6 (by kernel_rfl) rfl (by first | kernel_rfl | (simp [Value.oneCell']; done)) ?_
               intro V9 hv hV
               have HV9 := Aside0.mk hv
               have HE := Aside0.mk hV
               clear hV hv)
  refine bodyPost_ret (results_ct rfl _ _ g6 33 _ (0, 0) _ rfl HV9.out Try.underlying33 rfl (by kernel_rfl)) rfl ?_
  have hf9 : Fr V4 V9 (fun i => i = g6) := by rw [HE.out]; exact Fr.row _ _ _
  obtain ⟨z1, z2, z3, z4, z5⟩ := DoA.done H4.out hf9
  refine ⟨_, _, _, rfl, ?_, ?_, z3, z4, z5⟩
  · rw [HF.out]; exact z1
  · rw [HF.out]; exact z2
set_option maxHeartbeats 8000000 in
theorem do_bad3 {w : World} {c : Nat} {sv wv : Value} {p : St} {P : Nat → Prop} {x : Value} {sp : Int} (H : IsPlate w c sv wv p) (HR : RefIs w P x p sp) (hap : ∀ k, P k → ¬ Own c sv wv k) (hl : -1 ≤ p.left) (hl2 : p.left ≤ 1000000) (hwn : p.wet.length < 1000) (hsp : p.spare = mx sp 0) (k y n : Int) (hk : 0 ≤ k ∧ k < 256) (A : Option Addr) (cb : Nat) (bs : List Int) (hr : ∀ W', Fr w W' (Own c sv wv) → Kd.C (Kd.int .u8) W' A bs.length bs) (h4 : k.tmod 8 = 3) (hin : ¬ (0 ≤ y ∧ y < p.safe.length ∧ bs.length ≤ 64)) :
    Calls Try.prog 13 #[.pointer (some ⟨c, 0, none⟩), x, .agg #[.int .u8 k, .int .i64 y, .int .i64 n, .slice A bs.length cb]] w fun e w' => ∃ x' wv' R, e = .returned (.tuple #[x', .bool true]) ∧ IsPlate w' c sv wv' (doSt p (k.tmod 8) y n bs) ∧ RefIs w' R x' (doSt p (k.tmod 8) y n bs) (sp) ∧ (∀ k, R k → (P k ∨ w.heap.size ≤ k) ∧ ¬ Own c sv wv' k) ∧ Fr w w' (Own c sv wv) ∧ (∀ k, Own c sv wv' k → Own c sv wv k ∨ w.heap.size ≤ k) := by
  have HF : Aside0 (doSt p (k.tmod 8) y n bs = p) := ⟨by rw [h4]; simp only [doSt]; rw [if_neg (by decide), if_neg (by decide), if_neg (by decide), if_neg hin]⟩
  have HIN : Aside0 (y < 0 ∨ (p.safe.length : Int) ≤ y ∨ 64 < bs.length) := ⟨by omega⟩
  clear hin
  obtain ⟨A0, c0, A1, c1, rfl, _, _⟩ := id HR
  have HH := Aside0.mk H
  have HHR := Aside0.mk HR
  have HAP := Aside0.mk hap
  have HRR := Aside0.mk hr
  have HSP := Aside0.mk hsp
  clear H HR hap hr hsp
  go_enter Try.func13, Try.ntmps13
  go_upto_region 4 with fail
  obtain ⟨g6, hg6⟩ : ∃ g, g = w.heap.size + 1 + 1 := ⟨_, rfl⟩
  obtain ⟨g5, hg5⟩ : ∃ g, g = w.heap.size + 1 := ⟨_, rfl⟩
  obtain ⟨g4, hg4⟩ : ∃ g, g = w.heap.size := ⟨_, rfl⟩
  obtain ⟨W, hW⟩ : ∃ W, W = ((w.alloc (.cells #[.slice A0 p.safe.length c0, .slice A1 p.wet.length c1, .int .i64 p.left, .int .i64 sp, .bool p.off, .int .i64 p.acts] 33)).alloc (.cells #[.int .u8 k, .int .i64 y, .int .i64 n, .slice A bs.length cb] 36)).alloc (.cells #[.slice none 0 0, .slice none 0 0, .int .i64 0, .int .i64 0, .bool false, .int .i64 0] 33) := ⟨_, rfl⟩
  have H0 : Aside0 (DoA w W g4 g5 g6 c sv wv wv p P (fun k => P k ∧ k < w.heap.size) (.agg #[.slice A0 p.safe.length c0, .slice A1 p.wet.length c1, .int .i64 p.left, .int .i64 sp, .bool p.off, .int .i64 p.acts]) p sp #[.slice A0 p.safe.length c0, .slice A1 p.wet.length c1, .int .i64 p.left, .int .i64 sp, .bool p.off, .int .i64 p.acts] #[.int .u8 k, .int .i64 y, .int .i64 n, .slice A bs.length cb]) := ⟨by
    have hb : Below w.heap.size w W := by rw [hW]; exact below_alloc (below_alloc (below_alloc (Below.refl w.heap.size w) _) _) _
    have s1 : (w.alloc (.cells #[.slice A0 p.safe.length c0, .slice A1 p.wet.length c1, .int .i64 p.left, .int .i64 sp, .bool p.off, .int .i64 p.acts] 33)).heap.size = w.heap.size + 1 := by simp
    have s2 : ((w.alloc (.cells #[.slice A0 p.safe.length c0, .slice A1 p.wet.length c1, .int .i64 p.left, .int .i64 sp, .bool p.off, .int .i64 p.acts] 33)).alloc (.cells #[.int .u8 k, .int .i64 y, .int .i64 n, .slice A bs.length cb] 36)).heap.size = w.heap.size + 1 + 1 := by simp
    have no : ∀ g, w.heap.size ≤ g → ¬ Own c sv wv g := fun g hg h => by have := HH.out.lt h; omega
    refine ⟨HH.out.below hb, Fr.of_below hb _, fun k hk => .inl hk, ⟨no _ (by omega), no _ (by omega), no _ (by omega)⟩, ?_, ?_, ?_, HHR.out.bound.below hb, fun k hk => ⟨HAP.out k hk.1, by have := hk.2; omega, by have := hk.2; omega, by have := hk.2; omega⟩, fun k hk => .inl hk.1, by omega, by omega, by omega⟩
    · rw [hW, hg4]; exact blk_alloc (blk_alloc (blk_new w _) _) _
    · rw [hW, hg5, ← s1]; exact blk_alloc (blk_new _ _) _
    · rw [hW, hg6, ← s2]; exact blk_new _ _⟩
  rw [← hW, ← hg6, ← hg5, ← hg4]
  clear hW hg6 hg5 hg4
  have q5 := cells4 H0.out.q5
  obtain ⟨a0, a1, a2, a3, af⟩ := q5
  go_wp2_with fail
  go_at_call 10
  refine (write_bad H0.out.pl y A bs.length cb HIN.out).mono ?_
  rintro e w1 ⟨rfl, rfl⟩
  clear a0 a1 a2 a3 af
  obtain ⟨e0, e1, e2, e3, e4, e5, ef⟩ := cells6 H0.out.q4
  have q5 := cells4 H0.out.q5
  obtain ⟨a0, a1, a2, a3, af⟩ := q5
  go_wp2_with fail
  go_at_call 28
  clear e0 e1 e2 e3 e4 e5 ef a0 a1 a2 a3 af
  refine (rput_bad H0.out.r y A bs.length cb HIN.out).mono ?_
  rintro e w2 ⟨x', rfl, h2, hb⟩
  have H2 := Aside0.mk (H0.out.ref hb h2 (fun k hk => hk))
  obtain ⟨B0, d0, B1, d1, rfl, _, _⟩ := h2
  clear hb H0
  go_upto_region 19 with (
    refine wp_store_at rfl 33 (.tmp 4) (.tmp 26) rfl g4 _ rfl rfl 33 _ H2.out.q4 (by kernel_rfl) rfl (by first | kernel_rfl | (simp [Value.oneCell']; done)) ?_
    intro V4 hv hV
    have H4 := Aside0.mk (H2.out.set4 (V' := V4) (by rw [hV]; exact Fr.row _ _ _) hv)
    clear hV hv
    obtain ⟨e0, e1, e2, e3, e4, e5, ef⟩ := cells6 H4.out.q4)
  clear e0 e1 e2 e3 e4 e5 ef
  obtain ⟨e0, e1, e2, e3, e4, e5, ef⟩ := cells6 H4.out.q4
  go_wp2_with (refine wp_store_at rfl 33 (.tmp 6) (.tmp 70) rfl g6 _ rfl rfl 33 _ H4.out.q6 (by kernel_rfl) rfl (by first | kernel_rfl | (simp [Value.oneCell']; done)) ?_
               intro V9 hv hV
               have HV9 := Aside0.mk hv
               have HE := Aside0.mk hV
               clear hV hv)
  refine bodyPost_ret (results_ct rfl _ _ g6 33 _ (0, 0) _ rfl HV9.out Try.underlying33 rfl (by kernel_rfl)) rfl ?_
  have hf9 : Fr V4 V9 (fun i => i = g6) := by rw [HE.out]; exact Fr.row _ _ _
  obtain ⟨z1, z2, z3, z4, z5⟩ := DoA.done H4.out hf9
  refine ⟨_, _, _, rfl, ?_, ?_, z3, z4, z5⟩
  · rw [HF.out]; exact z1
  · rw [HF.out]; exact z2
theorem doSt_inv {p : St} {k y n sp : Int} {bs : List Int} (hl : -1 ≤ p.left) (hl2 : p.left ≤ 1000000) (hsp : p.spare = mx sp 0) : ∃ sp', sp' = (if k = 6 then n.tmod 80 else if k = 7 then 0 else sp) ∧ (doSt p k y n bs).spare = mx sp' 0 ∧ -1 ≤ (doSt p k y n bs).left ∧ (doSt p k y n bs).left ≤ 1000000 ∧ (doSt p k y n bs).wet.length ≤ p.wet.length + 1 ∧ (doSt p k y n bs).safe.length = p.safe.length := by
  have hy9 := Int.lt_tmod_of_pos y (show (0 : Int) < 9 by omega)
  have hy8 := Int.tmod_lt_of_pos y (show (0 : Int) < 9 by omega)
  have ha := act_left hl hl2
  obtain ⟨hw, hs, hr, _⟩ := act_wet p
  have hd : ∀ (S : List (List Int)) (W : List Wr), (drySafe S W).length = S.length := fun S W => by
    induction W generalizing S with
    | nil => rfl
    | cons q W ih => exact (ih _).trans (by simp)
  refine ⟨_, rfl, ?_⟩
  unfold doSt
  by_cases h1 : k = 4 ∨ k = 5
  · rw [if_pos h1, if_neg (by omega), if_neg (by omega)]
    unfold St.flush
    split
    · exact ⟨by simp only [St.dry]; rw [hr]; exact hsp, ha.1, ha.2, by simp [St.dry], by simp only [St.dry]; rw [hd, hs]⟩
    · exact ⟨by rw [hr]; exact hsp, ha.1, ha.2, by rw [hw]; omega, by rw [hs]⟩
  · rw [if_neg h1]
    by_cases h2 : k = 6
    · rw [if_pos h2, if_pos h2]
      refine ⟨rfl, ?_, ?_, by simp [St.arm], rfl⟩
      · simp only [St.arm]; unfold mx; split <;> omega
      · simp only [St.arm]; unfold mx; split <;> omega
    · rw [if_neg h2, if_neg h2]
      by_cases h3 : k = 7
      · rw [if_pos h3, if_pos h3, fall_eq]
        exact ⟨rfl, Int.le_refl _, by show (-1 : Int) ≤ 1000000; omega, by simp, by simp only []; rw [hd]⟩
      · rw [if_neg h3, if_neg h3]
        split
        · unfold St.write
          split
          · exact ⟨by simp only []; rw [hr]; exact hsp, ha.1, ha.2, by simp, by simp only []; rw [hs]⟩
          · split
            · exact ⟨by simp only []; rw [hr]; exact hsp, ha.1, ha.2, by simp, by simp only []; rw [hs]⟩
            · exact ⟨by rw [hr]; exact hsp, ha.1, ha.2, by rw [hw]; omega, by rw [hs]⟩
        · exact ⟨hsp, hl, hl2, by omega, rfl⟩
set_option maxHeartbeats 1000000 in
theorem do_c {w : World} {c : Nat} {sv wv : Value} {p : St} {P : Nat → Prop} {x : Value} {sp : Int} (H : IsPlate w c sv wv p) (HR : RefIs w P x p sp) (hap : ∀ k, P k → ¬ Own c sv wv k) (hl : -1 ≤ p.left) (hl2 : p.left ≤ 1000000) (hwn : p.wet.length < 1000) (hsp : p.spare = mx sp 0) (k y n : Int) (hk : 0 ≤ k ∧ k < 256) (A : Option Addr) (cb : Nat) (bs : List Int) (hr : ∀ W', Fr w W' (Own c sv wv) → Kd.C (Kd.int .u8) W' A bs.length bs)  :
    Calls Try.prog 13 #[.pointer (some ⟨c, 0, none⟩), x, .agg #[.int .u8 k, .int .i64 y, .int .i64 n, .slice A bs.length cb]] w fun e w' => ∃ x' wv' R, e = .returned (.tuple #[x', .bool true]) ∧ IsPlate w' c sv wv' (doSt p (k.tmod 8) y n bs) ∧ RefIs w' R x' (doSt p (k.tmod 8) y n bs) (if k.tmod 8 = 6 then n.tmod 80 else if k.tmod 8 = 7 then 0 else sp) ∧ (∀ k, R k → (P k ∨ w.heap.size ≤ k) ∧ ¬ Own c sv wv' k) ∧ Fr w w' (Own c sv wv) ∧ (∀ k, Own c sv wv' k → Own c sv wv k ∨ w.heap.size ≤ k) := by
  have h0 := Int.tmod_nonneg 8 hk.1
  have h8 := Int.tmod_lt_of_pos k (show (0 : Int) < 8 by omega)
  have hc : k.tmod 8 = 0 ∨ k.tmod 8 = 1 ∨ k.tmod 8 = 2 ∨ k.tmod 8 = 3 ∨ k.tmod 8 = 4 ∨ k.tmod 8 = 5 ∨ k.tmod 8 = 6 ∨ k.tmod 8 = 7 := by omega
  by_cases hin : 0 ≤ y ∧ y < p.safe.length ∧ bs.length ≤ 64
  all_goals
   rcases hc with h | h | h | h | h | h | h | h
   all_goals first
    | rw [if_pos (show k.tmod 8 = 6 from h)]
    | rw [if_neg (by omega), if_pos (show k.tmod 8 = 7 from h)]
    | rw [if_neg (by omega), if_neg (by omega)]
   all_goals first
    | exact do_write0 H HR hap hl hl2 hwn hsp k y n hk A cb bs hr h hin
    | exact do_write1 H HR hap hl hl2 hwn hsp k y n hk A cb bs hr h hin
    | exact do_write2 H HR hap hl hl2 hwn hsp k y n hk A cb bs hr h hin
    | exact do_write3 H HR hap hl hl2 hwn hsp k y n hk A cb bs hr h hin
    | exact do_bad0 H HR hap hl hl2 hwn hsp k y n hk A cb bs hr h hin
    | exact do_bad1 H HR hap hl hl2 hwn hsp k y n hk A cb bs hr h hin
    | exact do_bad2 H HR hap hl hl2 hwn hsp k y n hk A cb bs hr h hin
    | exact do_bad3 H HR hap hl hl2 hwn hsp k y n hk A cb bs hr h hin
    | exact do_flush4 H HR hap hl hl2 hwn hsp k y n hk A cb bs hr h
    | exact do_flush5 H HR hap hl hl2 hwn hsp k y n hk A cb bs hr h
    | exact do_arm H HR hap hl hl2 hwn hsp k y n hk A cb bs hr h
    | exact do_fall H HR hap hl hl2 hwn hsp k y n hk A cb bs hr h
end Go.Proofs.Ytcobkideokljfaa
