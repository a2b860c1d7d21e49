/- The reference's plate: Put within range. -/
import Derived.Test.YtcobkideokljfaaPlateP
namespace Go.Proofs.Ytcobkideokljfaa
open Go.RowKit Go.Proofs.YtcobkideokljfaaW.PrintWords Go.Proofs.YtcobkideokljfaaW.PrintLast Go.Proofs.YtcobkideokljfaaW.PrintMore Go.Proofs.Ytcobkideokljfaa.PA
set_option linter.unusedVariables false
set_option linter.unusedSimpArgs false
theorem info68 : (Try.prog.info? 68).map (fun i => (i.zero, i.size, i.bytes)) = some (some (.agg #[.int .i64 0, .slice none 0 0]), 2, 32) := by kernel_rfl
/-- The two records of a call of the reference, its world V, and its plate. -/
structure Put0 (w V : World) (g3 g6 g8 : Nat) (P : Nat → Prop) (x : Value) (p : St) (sp : Int) (cs : Array Value) (bs : List Int) : Prop where
  b : Below w.heap.size w V
  q3 : V.heap[g3]? = some (.cells cs 33 (0, 0))
  q6 : V.heap[g6]? = some (.cells #[.slice none 0 0, .slice none 0 0, .int .i64 0, .int .i64 0, .bool false, .int .i64 0] 33 (0, 0))
  q8 : V.heap[g8]? = some (.cells (U bs).toArray 5 (0, 0))
  r : RefIs V P x p sp
  e3 : w.heap.size ≤ g3
  e6 : g3 < g6
  e8 : g6 < g8
  n3 : ∀ k, P k → k ≠ g3 ∧ k ≠ g6 ∧ k ≠ g8
theorem Put0.step {w V V' : World} {g3 g6 g8 : Nat} {P : Nat → Prop} {x : Value} {p : St} {sp : Int} {cs : Array Value} {bs : List Int} (h : Put0 w V g3 g6 g8 P x p sp cs bs) (hb : Below V.heap.size V V') : Put0 w V' g3 g6 g8 P x p sp cs bs :=
  ⟨h.b.trans (hb.mono h.b.size), blk_below h.q3 hb, blk_below h.q6 hb, blk_below h.q8 hb, h.r.below hb, h.e3, h.e6, h.e8, h.n3⟩
theorem RefIs.get {w : World} {P : Nat → Prop} {A B : Option Addr} {n m c d : Nat} {a0 a1 a2 a3 : Value} {p : St} {sp : Int} (h : RefIs w P (.agg #[.slice A n c, .slice B m d, a0, a1, a2, a3]) p sp) : Kd.V kRow 22 w 0 P (.slice A n c) p.safe ∧ Kd.V k68 68 w 0 P (.slice B m d) (p.wet.map toS) := by
  obtain ⟨A0, c0, A1, c1, e, h0, h1⟩ := h
  simp only [Value.agg.injEq, Array.mk.injEq, List.cons.injEq, Value.slice.injEq, and_true] at e
  obtain ⟨⟨rfl, rfl, rfl⟩, ⟨rfl, rfl, rfl⟩, _⟩ := e
  exact ⟨h0, h1⟩
theorem below_of_grown {V V' : World} (h : V.grownBy V' none) : Below V.heap.size V V' := ⟨h.os, h.tape, h.output, h.size, fun k hk => h.block k hk (by simp)⟩
set_option maxHeartbeats 8000000 in
theorem rput_ok {w : World} {P : Nat → Prop} {x : Value} {p : St} {sp : Int} (H : RefIs w P x p sp) (hf : Fit p) (hl : -1 ≤ p.left) (hl2 : p.left ≤ 1000000) (hwn : p.wet.length < 1000) (y : Nat) (hy : y < p.safe.length) (A : Option Addr) (cb : Nat) (bs : List Int) (hbn : bs.length ≤ 64) (hr : Kd.C (Kd.int .u8) w A bs.length bs) (ha : p.act.2 = 0) :
    Calls Try.prog 28 #[x, .int .i64 y, .slice A bs.length cb] w fun e w' => ∃ x', e = .returned (.tuple #[x', .int .i64 0]) ∧ RefIs w' (fun k => P k ∨ w.heap.size ≤ k) x' { p.act.1 with wet := p.wet ++ [((y : Int), pad bs)] } sp ∧ Below w.heap.size w w' := by
  have HH := Aside0.mk H
  have HR := Aside0.mk hr
  have HBN := Aside0.mk hbn
  obtain ⟨A0, c0, A1, c1, rfl, _, _⟩ := H
  obtain ⟨iB, hiB, hzB, hsB, hbB⟩ := info_parts infoB
  have i1 : (y : Int) < p.safe.length := by omega
  have i2 : ¬ (y : Int) < 0 := by omega
  have i3 : ¬ (64 : Int) < (bs.length : Int) := by omega
  clear hr hbn
  have hwet := (act_wet p).1
  have hsaf := (act_wet p).2.1
  obtain ⟨p1, hp1⟩ : ∃ q, q = p.act.1 := ⟨_, rfl⟩
  rw [← hp1] at hwet hsaf ⊢
  have HP1 := Aside0.mk hp1
  have HWET := Aside0.mk hwet
  have HSAF := Aside0.mk hsaf
  clear hp1 hwet hsaf
  go_enter Try.func28, Try.ntmps28
  go_upto_region 3 with fail
  obtain ⟨g6, hg6⟩ : ∃ g, g = w.heap.size + 1 := ⟨_, rfl⟩
  obtain ⟨g6, hg6⟩ : ∃ g, g = w.heap.size + 1 := ⟨_, rfl⟩
  obtain ⟨g6, hg6⟩ : ∃ g, g = w.heap.size + 1 := ⟨_, rfl⟩
  obtain ⟨g3, hg3⟩ : ∃ g, g = w.heap.size := ⟨_, rfl⟩
  obtain ⟨W, hW⟩ : ∃ W, W = (w.alloc (.cells #[.slice A0 p.safe.length c0, .slice A1 p.wet.length c1, .int .i64 p.left, .int .i64 sp, .bool p.off, .int .i64 p.acts] 33)).alloc (.cells #[.slice none 0 0, .slice none 0 0, .int .i64 0, .int .i64 0, .bool false, .int .i64 0] 33) := ⟨_, rfl⟩
  have HB1 : Aside0 (Below w.heap.size w W) := ⟨by rw [hW]; exact below_alloc (below_alloc (Below.refl w.heap.size w) _) _⟩
  have Q3 : Aside0 (W.heap[g3]? = some (.cells #[.slice A0 p.safe.length c0, .slice A1 p.wet.length c1, .int .i64 p.left, .int .i64 sp, .bool p.off, .int .i64 p.acts] 33 (0, 0))) := ⟨by rw [hW, hg3]; exact blk_alloc (blk_new w _) _⟩
  have Q6 : Aside0 (W.heap[g6]? = some (.cells #[.slice none 0 0, .slice none 0 0, .int .i64 0, .int .i64 0, .bool false, .int .i64 0] 33 (0, 0))) := ⟨by
    have h := blk_new (w.alloc (.cells #[.slice A0 p.safe.length c0, .slice A1 p.wet.length c1, .int .i64 p.left, .int .i64 sp, .bool p.off, .int .i64 p.acts] 33)) (.cells #[.slice none 0 0, .slice none 0 0, .int .i64 0, .int .i64 0, .bool false, .int .i64 0] 33)
    rw [hW, hg6]; simpa using h⟩
  have HS : Aside0 (g3 = w.heap.size ∧ g6 = w.heap.size + 1 ∧ W.heap.size = w.heap.size + 2) := ⟨hg3, hg6, by rw [hW]; simp⟩
  rw [← hW, ← hg6, ← hg3]
  clear hW hg3 hg6
  go_upto_region 5 with (first
    | ((with_reducible refine gate_dst (N := 29) rfl ?_)
       refine wpList_make_row _ rfl (.const (.int .i64 64)) (.const (.int .i64 64)) 22 rfl 5 iB (.int .u8 0) Try.underlying22 hiB hzB hsB rfl .i64 .i64 64 rfl rfl (by rw [hbB]; omega) (by omega) ?_
       rw [made64]
       obtain ⟨V1, hV1⟩ : ∃ V, V = W.alloc (.cells (U z64).toArray 5) := ⟨_, rfl⟩
       obtain ⟨g8, hg8⟩ : ∃ g, g = W.heap.size := ⟨_, rfl⟩
       have Q8 : Aside0 (V1.heap[g8]? = some (.cells (U z64).toArray 5 (0, 0))) := ⟨by rw [hV1, hg8]; exact blk_new _ _⟩
       have HG8 : Aside0 (g8 = W.heap.size ∧ Below W.heap.size W V1) := ⟨hg8, by rw [hV1]; exact below_alloc (Below.refl _ _) _⟩
       rw [← hV1, ← hg8]
       clear hV1 hg8)
    | ((with_reducible refine gate_dst (N := 32) rfl ?_)
       refine wp_copy_pad rfl (.tmp 30) (.tmp 31) rfl g8 A cb bs rfl rfl 5 Q8.out HBN.out (Kd.C_below HR.out (HB1.out.trans (HG8.out.2.mono HB1.out.size))) ?_
       obtain ⟨V2, hV2⟩ : ∃ V, V = V1.setRow g8 (U (pad bs)).toArray := ⟨_, rfl⟩
       have H2 : Aside0 (Put0 w V2 g3 g6 g8 (fun k => P k ∧ k < w.heap.size) (.agg #[.slice A0 p.safe.length c0, .slice A1 p.wet.length c1, .int .i64 p.left, .int .i64 sp, .bool p.off, .int .i64 p.acts]) p sp #[.slice A0 p.safe.length c0, .slice A1 p.wet.length c1, .int .i64 p.left, .int .i64 sp, .bool p.off, .int .i64 p.acts] (pad bs)) := ⟨by
         obtain ⟨s1, s2, s3⟩ := HS.out
         have hg8 := HG8.out.1
         have hb : Below w.heap.size w V2 := by rw [hV2]; exact below_setRow (HB1.out.trans (HG8.out.2.mono HB1.out.size)) (by omega) _
         refine ⟨hb, ?_, ?_, by rw [hV2]; exact blk_row Q8.out, HH.out.bound.below hb, by omega, by omega, by omega, fun k hk => by have := hk.2; omega⟩
         · rw [hV2, setRow_other _ _ _ _ (by omega)]; exact blk_below Q3.out HG8.out.2
         · rw [hV2, setRow_other _ _ _ _ (by omega)]; exact blk_below Q6.out HG8.out.2⟩
       rw [← hV2]
       clear hV2))
  clear Q8 HG8 HS Q3 Q6 HB1 V1 W
  obtain ⟨e0, e1, e2, e3, e4, e5, ef⟩ := cells6 H2.out.q3
  go_wp2_with fail
  go_at_call 31
  clear e0 e1 e2 e3 e4 e5 ef
  refine (ract_c H2.out.r hl hl2).mono ?_
  rintro e w3 ⟨x', rfl, h3, hb⟩
  rw [ha]
  rw [← HP1.out] at h3
  clear ha HP1
  have H3 : Aside0 (Put0 w w3 g3 g6 g8 (fun k => (P k ∧ k < w.heap.size) ∨ V2.heap.size ≤ k) x' p1 sp #[.slice A0 p.safe.length c0, .slice A1 p.wet.length c1, .int .i64 p.left, .int .i64 sp, .bool p.off, .int .i64 p.acts] (pad bs)) := ⟨by
    have h := H2.out.step hb
    have l8 := blk_lt H2.out.q8
    have l6 := H2.out.e8
    have l3 := H2.out.e6
    exact ⟨h.b, h.q3, h.q6, h.q8, h3, h.e3, h.e6, h.e8, fun k hk => hk.elim (H2.out.n3 k) (fun hk => ⟨by omega, by omega, by omega⟩)⟩⟩
  have HZ : Aside0 (w.heap.size ≤ V2.heap.size) := ⟨H2.out.b.size⟩
  obtain ⟨B0, d0, B1, d1, rfl, _, _⟩ := h3
  clear hb H2
  go_upto_region 10 with (first
    | ((with_reducible refine gate_dst (N := 43) rfl ?_)
       at_builtin
       refine Kd.N_append_rows k68 (w0 := w) w.heap.size rfl (.tmp 40) (.tmp 42) 31 68 _ 32 rfl Try.underlying31 info68 rfl (by decide) (by decide) (.slice none 0 0) ([] : List S68) (p1.wet.map toS) B1 _ d1 (fun k => (P k ∨ w.heap.size ≤ k) ∧ k ≠ g3 ∧ k ≠ g6) (fun k => ((P k ∨ w.heap.size ≤ k) ∧ k ≠ g3 ∧ k ≠ g6) ∧ some k ≠ (Value.slice none 0 0).ownBlock) rfl rfl (Kd.N_nil _ _ _ _ _) ?HR (fun _ h => h) ?hfresh H4.out.b H4.out.b.size ?hl ?_
       (case HR => exact Kd.F_mono (Kd.V_F (RefIs.get H4.out.r).2) (fun k hk => ⟨⟨hk.elim (fun h => .inl h.1) (fun h => .inr (Nat.le_trans HZ.out h)), (H4.out.n3 k hk).1, (H4.out.n3 k hk).2.1⟩, by simp [Value.ownBlock]⟩))
       (case hfresh => exact (fun k hk => ⟨.inr (Nat.le_trans H4.out.b.size hk), by have := blk_lt H4.out.q3; omega, by have := blk_lt H4.out.q6; omega⟩))
       (case hl => have := HWET.out; rw [this]; simp only [List.length_nil]; omega)
       intro v5 w5 hN hb5 hg5 hat5
       have H5 := Aside0.mk (H4.out.step (below_of_grown hg5))
       have HN5 : Aside0 (Kd.N k68 68 w5 w.heap.size (fun k => (P k ∨ w.heap.size ≤ k) ∧ k ≠ g3 ∧ k ≠ g6) v5 (p.wet.map toS)) := ⟨by have h := hN; rw [List.nil_append, HWET.out] at h; exact h⟩
       have H8N : Aside0 (some g8 ≠ v5.ownBlock) := ⟨fun e => by
         rcases hat5 with h | ⟨b, h, hb⟩
         · rw [h] at e; simp [Value.ownBlock] at e
         · rw [h] at e; injection e with e; have := blk_lt H4.out.q8; omega⟩
       have HSV5 := Aside0.mk (Kd.V_elder' (u := v5) (RefIs.get H4.out.r).1 (fun k hk => by
         rcases hat5 with h | ⟨b, h, hb⟩
         · rw [h] at hk; simp [Value.ownBlock] at hk
         · rw [h] at hk; injection hk with hk; omega) (below_of_grown hg5))
       clear hN hb5 hg5 hat5 e0 e1 e2 e3 e4 e5 ef
       obtain ⟨e0, e1, e2, e3, e4, e5, ef⟩ := cells6 H5.out.q3)
    | (refine wp_store_at rfl 33 (.tmp 3) (.tmp 38) rfl g3 _ rfl rfl 33 _ H3.out.q3 (by kernel_rfl) rfl (by first | kernel_rfl | (simp [Value.oneCell']; done)) ?_
       intro V4 hv hV
       have H4 : Aside0 (Put0 w V4 g3 g6 g8 (fun k => (P k ∧ k < w.heap.size) ∨ V2.heap.size ≤ k) (.agg #[.slice B0 p1.safe.length d0, .slice B1 p1.wet.length d1, .int .i64 p1.left, .int .i64 sp, .bool p1.off, .int .i64 p1.acts]) p1 sp #[.slice B0 p1.safe.length d0, .slice B1 p1.wet.length d1, .int .i64 p1.left, .int .i64 sp, .bool p1.off, .int .i64 p1.acts] (pad bs)) := ⟨by
         have h := H3.out
         have l6 := h.e6
         have l8 := h.e8
         refine ⟨by rw [hV]; exact below_setRow h.b h.e3 _, hv, ?_, ?_, h.r.step (fun k hk _ => by rw [hV]; exact setRow_other _ _ _ _ (h.n3 k hk).1), h.e3, h.e6, h.e8, h.n3⟩
         · rw [hV, setRow_other _ _ _ _ (by omega)]; exact h.q6
         · rw [hV, setRow_other _ _ _ _ (by omega)]; exact h.q8⟩
       obtain ⟨e0, e1, e2, e3, e4, e5, ef⟩ := cells6 hv
       clear hV hv))
  have HPL : Aside0 ((pad bs).length = 64) := ⟨pad_len HBN.out⟩
  go_upto_region 11 with (
    (with_reducible refine gate_dst (N := 50) rfl ?_)
    (at_builtin)
    (refine Kd.N_append k68 (w0 := w) (W := w5) w.heap.size ?a1 (.tmp 45) (.tmp 49) 31 68 _ 32 ?a2 ?a3 info68 ?a4 ?a5 ?a6 v5 (p.wet.map toS) (⟨(y : Int), pad bs⟩ : S68) [.int .i64 y, .slice (some ⟨g8, 0, none⟩) 64 64] (fun k => (P k ∨ w.heap.size ≤ k) ∧ k ≠ g3 ∧ k ≠ g6) (fun k => k = g8) ?a7 ?a8 ?hp ?hokp ?hfresh2 HN5.out ?a9 ?a10 ?hl2 ?_)
    (case a1 => rfl)
    (case a2 => rfl)
    (case a3 => exact Try.underlying31)
    (case a4 => rfl)
    (case a5 => decide)
    (case a6 => decide)
    (case a7 => rfl)
    (case a8 => rfl)
    (case a9 => exact H5.out.b)
    (case a10 => exact H5.out.b.size)
    (case hp => have h := k68_mkF w5 (fun k => k = g8) (⟨(y : Int), pad bs⟩ : S68) (A1 := some ⟨g8, 0, none⟩) (c1 := 64) (by dsimp only; rw [HPL.out]; omega) (fun W' hW => sec_C ((hW g8 rfl (blk_lt H5.out.q8)).trans H5.out.q8) HPL.out); dsimp only at h; rw [HPL.out] at h; exact h)
    (case hokp => exact (fun k hk => by subst hk; exact ⟨⟨.inr (by have := H5.out.e3; have := H5.out.e6; have := H5.out.e8; omega), by have := H5.out.e6; have := H5.out.e8; omega, by have := H5.out.e8; omega⟩, H8N.out⟩))
    (case hfresh2 => exact (fun k hk => ⟨.inr (Nat.le_trans H5.out.b.size hk), by have := blk_lt H5.out.q3; omega, by have := blk_lt H5.out.q6; omega⟩))
    (case hl2 => rw [List.length_map]; omega)
    (intro v6 w6 hN hb6 hg6 hat6)
    (have HN6 := Aside0.mk hN)
    (have HB6 := Aside0.mk hb6)
    (have q3 := (hg6.block g3 (blk_lt H5.out.q3) (Kd.N_ne HN5.out H5.out.q3 (by decide))).trans H5.out.q3)
    (have Q6 := Aside0.mk ((hg6.block g6 (blk_lt H5.out.q6) (Kd.N_ne HN5.out H5.out.q6 (by decide))).trans H5.out.q6))
    (have HSV6 := Aside0.mk (Kd.V_grown HSV5.out hg6 (fun k hk => hk.2)))
    (obtain ⟨A6, c6, rfl⟩ := Kd.N_slice hN)
    (have Q3 := Aside0.mk q3)
    (clear hN hb6 hg6 hat6 e0 e1 e2 e3 e4 e5 ef)
    (obtain ⟨e0, e1, e2, e3, e4, e5, ef⟩ := cells6 q3)
    (clear q3))
  clear e0 e1 e2 e3 e4 e5 ef
  obtain ⟨V7, hV7⟩ : ∃ V7, V7 = w6.setCell ⟨g3, 1, none⟩ (.slice A6 (p.wet.length + 1) c6) := ⟨_, rfl⟩
  rw [← hV7]
  have q3 : V7.heap[g3]? = some (.cells #[.slice B0 p1.safe.length d0, .slice A6 (p.wet.length + 1) c6, .int .i64 p1.left, .int .i64 sp, .bool p1.off, .int .i64 p1.acts] 33 (0, 0)) := by rw [hV7]; exact blk_put Q3.out 1 _ rfl
  have Q67 : Aside0 (V7.heap[g6]? = some (.cells #[.slice none 0 0, .slice none 0 0, .int .i64 0, .int .i64 0, .bool false, .int .i64 0] 33 (0, 0))) := ⟨by rw [hV7]; exact (Below.heap_setCell w6 ⟨g3, 1, none⟩ _ g6 (by have := H5.out.e6; show g6 ≠ g3; omega)).trans Q6.out⟩
  have HB7 : Aside0 (Below w.heap.size w V7) := ⟨by rw [hV7]; exact HB6.out.setCell H5.out.e3 _⟩
  have HN7 : Aside0 (Kd.V k68 68 V7 0 (fun k => (P k ∨ w.heap.size ≤ k) ∧ k ≠ g3 ∧ k ≠ g6) (.slice A6 (p.wet.length + 1) c6) (p.wet.map toS ++ [(⟨(y : Int), pad bs⟩ : S68)])) := ⟨by
    have h := Kd.N_V (base' := 0) (Kd.N_far (p := ⟨g3, 1, none⟩) HN6.out (fun k hk => hk.2.1) (.slice A6 (p.wet.length + 1) c6))
    rw [← hV7] at h
    rw [show (p.wet.map toS ++ [(⟨(y : Int), pad bs⟩ : S68)]).length = p.wet.length + 1 by simp] at h
    exact h⟩
  have HS7 : Aside0 (Kd.V kRow 22 V7 0 (fun k => ((P k ∧ k < w.heap.size) ∨ V2.heap.size ≤ k) ∧ some k ≠ v5.ownBlock) (.slice B0 p1.safe.length d0) p1.safe) := ⟨by
    rw [hV7]
    exact Kd.V_far HSV6.out (p := ⟨g3, 1, none⟩) (fun k hk => (H5.out.n3 k hk.1).1) _⟩
  clear hV7 Q3 Q6 HB6 HN6 HSV6
  obtain ⟨e0, e1, e2, e3, e4, e5, ef⟩ := cells6 q3
  clear q3
  go_wp2_with (refine wp_store_at rfl 33 (.tmp 6) (.tmp 52) rfl g6 _ rfl rfl 33 _ Q67.out (by kernel_rfl) rfl (by first | kernel_rfl | (simp [Value.oneCell']; done)) ?_
               intro V8 hv hV
               have HV8 := Aside0.mk hv
               have HE := Aside0.mk hV
               clear hV hv)
  refine bodyPost_ret (results_ct rfl _ _ g6 33 _ (0, 0) _ rfl HV8.out Try.underlying33 rfl (by kernel_rfl)) rfl ?_
  refine ⟨_, rfl, ?_, ?_⟩
  · have h1 := Kd.V_step (w1 := V8) HN7.out (fun k hk _ => by rw [HE.out]; exact setRow_other _ _ _ _ hk.2.2)
    have h0 := Kd.V_step (w1 := V8) HS7.out (fun k hk _ => by rw [HE.out]; exact setRow_other _ _ _ _ (H5.out.n3 k hk.1).2.1)
    refine RefIs.mk (p := { p1 with wet := p.wet ++ [((y : Int), pad bs)] }) (Kd.V_mono h0 (fun k hk => hk.1.elim (fun h => .inl h.1) (fun h => .inr (Nat.le_trans HZ.out h)))) ?_
    rw [List.map_append]
    exact Kd.V_mono h1 (fun k hk => hk.1)
  · rw [HE.out]; exact below_setRow HB7.out (by have := H5.out.e3; have := H5.out.e6; omega) _
end Go.Proofs.Ytcobkideokljfaa
