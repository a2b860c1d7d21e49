/- The reference's plate: Put that is torn. -/
import Derived.Test.YtcobkideokljfaaPlateR
namespace Go.Proofs.Ytcobkideokljfaa
open Go.RowKit Go.Proofs.YtcobkideokljfaaW.PrintWords Go.Proofs.YtcobkideokljfaaW.PrintLast Go.Proofs.YtcobkideokljfaaW.PrintMore Go.Proofs.Ytcobkideokljfaa.PA
set_option linter.unusedVariables false
set_option linter.unusedSimpArgs false
/-- What is known of a call of Put that is torn. -/
structure Put1 (w V : World) (g3 g6 g8 g12 : Nat) (P R : Nat → Prop) (sv wv : Value) (p1 : St) (sp : Int) (bs : List Int) (v5 : Value) (wet : List Wr) (ts : List Int) : Prop where
  z : Put0 w V g3 g6 g8 R (.agg #[sv, wv, .int .i64 p1.left, .int .i64 sp, .bool p1.off, .int .i64 p1.acts]) p1 sp #[sv, wv, .int .i64 p1.left, .int .i64 sp, .bool p1.off, .int .i64 p1.acts] bs
  n : Kd.N k68 68 V w.heap.size (fun k => ((P k ∨ w.heap.size ≤ k) ∧ k ≠ g3 ∧ k ≠ g6) ∧ k ≠ g12) v5 (wet.map toS)
  s : Kd.V kRow 22 V 0 (fun k => R k ∧ some k ≠ v5.ownBlock) sv p1.safe
  t : V.heap[g12]? = some (.cells (U ts).toArray 5 (0, 0))
  e12 : g8 < g12
  rn : ∀ k, R k → k ≠ g12
  rp : ∀ k, R k → P k ∨ w.heap.size ≤ k
theorem Put1.step {w V V' : World} {g3 g6 g8 g12 : Nat} {P R : Nat → Prop} {sv wv : Value} {p1 : St} {sp : Int} {bs : List Int} {v5 : Value} {wet : List Wr} {ts : List Int} (h : Put1 w V g3 g6 g8 g12 P R sv wv p1 sp bs v5 wet ts) (hb : Below V.heap.size V V') : Put1 w V' g3 g6 g8 g12 P R sv wv p1 sp bs v5 wet ts :=
  ⟨h.z.step hb, Kd.N_below h.n hb, Kd.V_below h.s hb, blk_below h.t hb, h.e12, h.rn, h.rp⟩
theorem Put1.write {w V V' : World} {g3 g6 g8 g12 : Nat} {P R : Nat → Prop} {sv wv : Value} {p1 : St} {sp : Int} {bs : List Int} {v5 : Value} {wet : List Wr} {ts ts' : List Int} (h : Put1 w V g3 g6 g8 g12 P R sv wv p1 sp bs v5 wet ts) (hb : Below w.heap.size w V') (ht : V'.heap[g12]? = some (.cells (U ts').toArray 5 (0, 0))) (hk : ∀ k, k ≠ g12 → V'.heap[k]? = V.heap[k]?) : Put1 w V' g3 g6 g8 g12 P R sv wv p1 sp bs v5 wet ts' := by
  have l6 := h.z.e6
  have l8 := h.z.e8
  have l12 := h.e12
  exact ⟨⟨hb, (hk g3 (by omega)).trans h.z.q3, (hk g6 (by omega)).trans h.z.q6, (hk g8 (by omega)).trans h.z.q8, h.z.r.step (fun k hr _ => hk k (h.rn k hr)), h.z.e3, h.z.e6, h.z.e8, h.z.n3⟩, Kd.N_step h.n (fun k hr _ => hk k hr.2), Kd.V_step h.s (fun k hr _ => hk k (h.rn k hr.1)), ht, h.e12, h.rn, h.rp⟩
theorem pad_id {s : List Int} (h : s.length = 64) : pad s = s := by simp [pad, h]
set_option maxHeartbeats 8000000 in
theorem rput_torn {w : World} {P : Nat → Prop} {x : Value} {p : St} {sp : Int} (H : RefIs w P x p sp) (hf : Fit p) (hl : -1 ≤ p.left) (hl2 : p.left ≤ 1000000) (hwn : p.wet.length < 1000) (y : Nat) (hy : y < p.safe.length) (A : Option Addr) (cb : Nat) (bs : List Int) (hbn : bs.length ≤ 64) (hr : Kd.C (Kd.int .u8) w A bs.length bs) (ha : p.act.2 = 7) (ho : p.off = false) (hs : 0 < sp) :
    Calls Try.prog 28 #[x, .int .i64 y, .slice A bs.length cb] w fun e w' => ∃ x', e = .returned (.tuple #[x', .int .i64 7]) ∧ RefIs w' (fun k => P k ∨ w.heap.size ≤ k) x' ({ p.act.1 with wet := p.wet ++ [((y : Int), torn (min sp.toNat 64) (pad bs) (p.sector y))] }) sp ∧ Below w.heap.size w w' := by
  have HH := Aside0.mk H
  have HR := Aside0.mk hr
  have HBN := Aside0.mk hbn
  obtain ⟨A0, c0, A1, c1, rfl, _, _⟩ := H
  obtain ⟨iB, hiB, hzB, hsB, hbB⟩ := info_parts infoB
  have i1 : (y : Int) < p.safe.length := by omega
  have i2 : ¬ (y : Int) < 0 := by omega
  have i3 : ¬ (64 : Int) < (bs.length : Int) := by omega
  have HOO := Aside0.mk ho
  clear hr hbn ho
  have hwet := (act_wet p).1
  have hsaf := (act_wet p).2.1
  obtain ⟨p1, hp1⟩ : ∃ q, q = p.act.1 := ⟨_, rfl⟩
  rw [← hp1] at hwet hsaf ⊢
  have HP1 := Aside0.mk hp1
  have HF1 : Aside0 (Fit p1) := ⟨by rw [hp1]; exact hf.act⟩
  have HSEC : Aside0 (p1.sector y = p.sector y) := ⟨by unfold St.sector; rw [hwet, hsaf]⟩
  have HWET := Aside0.mk hwet
  have HSAF := Aside0.mk hsaf
  clear hp1 hwet hsaf
  go_enter Try.func28, Try.ntmps28
  go_upto_region 3 with fail
  obtain ⟨g6, hg6⟩ : ∃ g, g = w.heap.size + 1 := ⟨_, rfl⟩
  obtain ⟨g6, hg6⟩ : ∃ g, g = w.heap.size + 1 := ⟨_, rfl⟩
  obtain ⟨g6, hg6⟩ : ∃ g, g = w.heap.size + 1 := ⟨_, rfl⟩
  obtain ⟨g3, hg3⟩ : ∃ g, g = w.heap.size := ⟨_, rfl⟩
  obtain ⟨W, hW⟩ : ∃ W, W = (w.alloc (.cells #[.slice A0 p.safe.length c0, .slice A1 p.wet.length c1, .int .i64 p.left, .int .i64 sp, .bool p.off, .int .i64 p.acts] 33)).alloc (.cells #[.slice none 0 0, .slice none 0 0, .int .i64 0, .int .i64 0, .bool false, .int .i64 0] 33) := ⟨_, rfl⟩
  have HB1 : Aside0 (Below w.heap.size w W) := ⟨by rw [hW]; exact below_alloc (below_alloc (Below.refl w.heap.size w) _) _⟩
  have Q3 : Aside0 (W.heap[g3]? = some (.cells #[.slice A0 p.safe.length c0, .slice A1 p.wet.length c1, .int .i64 p.left, .int .i64 sp, .bool p.off, .int .i64 p.acts] 33 (0, 0))) := ⟨by rw [hW, hg3]; exact blk_alloc (blk_new w _) _⟩
  have Q6 : Aside0 (W.heap[g6]? = some (.cells #[.slice none 0 0, .slice none 0 0, .int .i64 0, .int .i64 0, .bool false, .int .i64 0] 33 (0, 0))) := ⟨by
    have h := blk_new (w.alloc (.cells #[.slice A0 p.safe.length c0, .slice A1 p.wet.length c1, .int .i64 p.left, .int .i64 sp, .bool p.off, .int .i64 p.acts] 33)) (.cells #[.slice none 0 0, .slice none 0 0, .int .i64 0, .int .i64 0, .bool false, .int .i64 0] 33)
    rw [hW, hg6]; simpa using h⟩
  have HS : Aside0 (g3 = w.heap.size ∧ g6 = w.heap.size + 1 ∧ W.heap.size = w.heap.size + 2) := ⟨hg3, hg6, by rw [hW]; simp⟩
  rw [← hW, ← hg6, ← hg3]
  clear hW hg3 hg6
  go_upto_region 5 with (first
    | ((with_reducible refine gate_dst (N := 29) rfl ?_)
       refine wpList_make_row _ rfl (.const (.int .i64 64)) (.const (.int .i64 64)) 22 rfl 5 iB (.int .u8 0) Try.underlying22 hiB hzB hsB rfl .i64 .i64 64 rfl rfl (by rw [hbB]; omega) (by omega) ?_
       rw [made64]
       obtain ⟨V1, hV1⟩ : ∃ V, V = W.alloc (.cells (U z64).toArray 5) := ⟨_, rfl⟩
       obtain ⟨g8, hg8⟩ : ∃ g, g = W.heap.size := ⟨_, rfl⟩
       have Q8 : Aside0 (V1.heap[g8]? = some (.cells (U z64).toArray 5 (0, 0))) := ⟨by rw [hV1, hg8]; exact blk_new _ _⟩
       have HG8 : Aside0 (g8 = W.heap.size ∧ Below W.heap.size W V1) := ⟨hg8, by rw [hV1]; exact below_alloc (Below.refl _ _) _⟩
       rw [← hV1, ← hg8]
       clear hV1 hg8)
    | ((with_reducible refine gate_dst (N := 32) rfl ?_)
       refine wp_copy_pad rfl (.tmp 30) (.tmp 31) rfl g8 A cb bs rfl rfl 5 Q8.out HBN.out (Kd.C_below HR.out (HB1.out.trans (HG8.out.2.mono HB1.out.size))) ?_
       obtain ⟨V2, hV2⟩ : ∃ V, V = V1.setRow g8 (U (pad bs)).toArray := ⟨_, rfl⟩
       have H2 : Aside0 (Put0 w V2 g3 g6 g8 (fun k => P k ∧ k < w.heap.size) (.agg #[.slice A0 p.safe.length c0, .slice A1 p.wet.length c1, .int .i64 p.left, .int .i64 sp, .bool p.off, .int .i64 p.acts]) p sp #[.slice A0 p.safe.length c0, .slice A1 p.wet.length c1, .int .i64 p.left, .int .i64 sp, .bool p.off, .int .i64 p.acts] (pad bs)) := ⟨by
         obtain ⟨s1, s2, s3⟩ := HS.out
         have hg8 := HG8.out.1
         have hb : Below w.heap.size w V2 := by rw [hV2]; exact below_setRow (HB1.out.trans (HG8.out.2.mono HB1.out.size)) (by omega) _
         refine ⟨hb, ?_, ?_, by rw [hV2]; exact blk_row Q8.out, HH.out.bound.below hb, by omega, by omega, by omega, fun k hk => by have := hk.2; omega⟩
         · rw [hV2, setRow_other _ _ _ _ (by omega)]; exact blk_below Q3.out HG8.out.2
         · rw [hV2, setRow_other _ _ _ _ (by omega)]; exact blk_below Q6.out HG8.out.2⟩
       rw [← hV2]
       clear hV2))
  clear Q8 HG8 HS Q3 Q6 HB1 V1 W
  obtain ⟨e0, e1, e2, e3, e4, e5, ef⟩ := cells6 H2.out.q3
  go_wp2_with fail
  go_at_call 31
  clear e0 e1 e2 e3 e4 e5 ef
  refine (ract_c H2.out.r hl hl2).mono ?_
  rintro e w3 ⟨x', rfl, h3, hb⟩
  rw [ha]
  rw [← HP1.out] at h3
  clear ha HP1
  have H3 : Aside0 (Put0 w w3 g3 g6 g8 (fun k => (P k ∧ k < w.heap.size) ∨ V2.heap.size ≤ k) x' p1 sp #[.slice A0 p.safe.length c0, .slice A1 p.wet.length c1, .int .i64 p.left, .int .i64 sp, .bool p.off, .int .i64 p.acts] (pad bs)) := ⟨by
    have h := H2.out.step hb
    have l8 := blk_lt H2.out.q8
    have l6 := H2.out.e8
    have l3 := H2.out.e6
    exact ⟨h.b, h.q3, h.q6, h.q8, h3, h.e3, h.e6, h.e8, fun k hk => hk.elim (H2.out.n3 k) (fun hk => ⟨by omega, by omega, by omega⟩)⟩⟩
  have HZ : Aside0 (w.heap.size ≤ V2.heap.size) := ⟨H2.out.b.size⟩
  obtain ⟨B0, d0, B1, d1, rfl, _, _⟩ := h3
  clear hb H2
  go_upto_region 12 with (first
    | ((with_reducible refine gate_dst (N := 43) rfl ?_)
       at_builtin
       refine Kd.N_append_rows k68 (w0 := w) w.heap.size rfl (.tmp 40) (.tmp 42) 31 68 _ 32 rfl Try.underlying31 info68 rfl (by decide) (by decide) (.slice none 0 0) ([] : List S68) (p1.wet.map toS) B1 _ d1 (fun k => (P k ∨ w.heap.size ≤ k) ∧ k ≠ g3 ∧ k ≠ g6) (fun k => ((P k ∨ w.heap.size ≤ k) ∧ k ≠ g3 ∧ k ≠ g6) ∧ some k ≠ (Value.slice none 0 0).ownBlock) rfl rfl (Kd.N_nil _ _ _ _ _) ?HR (fun _ h => h) ?hfresh H4.out.b H4.out.b.size ?hl ?_
       (case HR => exact Kd.F_mono (Kd.V_F (RefIs.get H4.out.r).2) (fun k hk => ⟨⟨hk.elim (fun h => .inl h.1) (fun h => .inr (Nat.le_trans HZ.out h)), (H4.out.n3 k hk).1, (H4.out.n3 k hk).2.1⟩, by simp [Value.ownBlock]⟩))
       (case hfresh => exact (fun k hk => ⟨.inr (Nat.le_trans H4.out.b.size hk), by have := blk_lt H4.out.q3; omega, by have := blk_lt H4.out.q6; omega⟩))
       (case hl => have := HWET.out; rw [this]; simp only [List.length_nil]; omega)
       intro v5 w5 hN hb5 hg5 hat5
       have H5 := Aside0.mk (H4.out.step (below_of_grown hg5))
       have HN5 : Aside0 (Kd.N k68 68 w5 w.heap.size (fun k => (P k ∨ w.heap.size ≤ k) ∧ k ≠ g3 ∧ k ≠ g6) v5 (p.wet.map toS)) := ⟨by have h := hN; rw [List.nil_append, HWET.out] at h; exact h⟩
       have H8N : Aside0 (some g8 ≠ v5.ownBlock) := ⟨fun e => by
         rcases hat5 with h | ⟨b, h, hb⟩
         · rw [h] at e; simp [Value.ownBlock] at e
         · rw [h] at e; injection e with e; have := blk_lt H4.out.q8; omega⟩
       have HSV5 := Aside0.mk (Kd.V_elder' (u := v5) (RefIs.get H4.out.r).1 (fun k hk => by
         rcases hat5 with h | ⟨b, h, hb⟩
         · rw [h] at hk; simp [Value.ownBlock] at hk
         · rw [h] at hk; injection hk with hk; omega) (below_of_grown hg5))
       clear hN hb5 hg5 hat5 e0 e1 e2 e3 e4 e5 ef
       obtain ⟨e0, e1, e2, e3, e4, e5, ef⟩ := cells6 H5.out.q3)
    | (refine wp_store_at rfl 33 (.tmp 3) (.tmp 38) rfl g3 _ rfl rfl 33 _ H3.out.q3 (by kernel_rfl) rfl (by first | kernel_rfl | (simp [Value.oneCell']; done)) ?_
       intro V4 hv hV
       have H4 : Aside0 (Put0 w V4 g3 g6 g8 (fun k => (P k ∧ k < w.heap.size) ∨ V2.heap.size ≤ k) (.agg #[.slice B0 p1.safe.length d0, .slice B1 p1.wet.length d1, .int .i64 p1.left, .int .i64 sp, .bool p1.off, .int .i64 p1.acts]) p1 sp #[.slice B0 p1.safe.length d0, .slice B1 p1.wet.length d1, .int .i64 p1.left, .int .i64 sp, .bool p1.off, .int .i64 p1.acts] (pad bs)) := ⟨by
         have h := H3.out
         have l6 := h.e6
         have l8 := h.e8
         refine ⟨by rw [hV]; exact below_setRow h.b h.e3 _, hv, ?_, ?_, h.r.step (fun k hk _ => by rw [hV]; exact setRow_other _ _ _ _ (h.n3 k hk).1), h.e3, h.e6, h.e8, h.n3⟩
         · rw [hV, setRow_other _ _ _ _ (by omega)]; exact h.q6
         · rw [hV, setRow_other _ _ _ _ (by omega)]; exact h.q8⟩
       obtain ⟨e0, e1, e2, e3, e4, e5, ef⟩ := cells6 hv
       clear hV hv))
  rw [HOO.out]
  go_upto_region 14 with (
    (with_reducible refine gate_dst (N := 60) rfl ?_)
    refine wpList_make_row _ rfl (.const (.int .i64 64)) (.const (.int .i64 64)) 22 rfl 5 iB (.int .u8 0) Try.underlying22 hiB hzB hsB rfl .i64 .i64 64 rfl rfl (by rw [hbB]; omega) (by omega) ?_
    rw [made64]
    obtain ⟨V6, hV6⟩ : ∃ V, V = w5.alloc (.cells (U z64).toArray 5) := ⟨_, rfl⟩
    obtain ⟨g12, hg12⟩ : ∃ g, g = w5.heap.size := ⟨_, rfl⟩
    obtain ⟨R, hR⟩ : ∃ R : Nat → Prop, R = fun k => ((P k ∧ k < w.heap.size) ∨ V2.heap.size ≤ k) ∧ k < w5.heap.size := ⟨_, rfl⟩
    have H6 : Aside0 (Put1 w V6 g3 g6 g8 g12 P R (.slice B0 p1.safe.length d0) (.slice B1 p1.wet.length d1) p1 sp (pad bs) v5 p.wet z64) := ⟨by
      have hb : Below w5.heap.size w5 V6 := by rw [hV6]; exact below_alloc (Below.refl _ _) _
      have h := H5.out.step hb
      have h8 := blk_lt H5.out.q8
      refine ⟨⟨h.b, h.q3, h.q6, h.q8, by rw [hR]; exact H5.out.r.bound.below hb, h.e3, h.e6, h.e8, fun k hk => h.n3 k (by rw [hR] at hk; exact hk.1)⟩, ?_, ?_, by rw [hV6, hg12]; exact blk_new _ _, by omega, fun k hk => by rw [hR] at hk; have := hk.2; omega, fun k hk => by rw [hR] at hk; exact hk.1.elim (fun h => .inl h.1) (fun h => .inr (Nat.le_trans HZ.out h))⟩
      · exact Kd.N_mono (Kd.N_below (Kd.N_bound HN5.out) hb) (fun k hk => ⟨hk.1, by have := hk.2; omega⟩)
      · rw [hR]; exact Kd.V_mono (Kd.V_below (Kd.V_bound HSV5.out) hb) (fun k hk => ⟨⟨hk.1.1, hk.2⟩, hk.1.2⟩)⟩
    rw [← hV6, ← hg12]
    clear hV6 hg12 hR)
  clear H5 HN5 HSV5 e0 e1 e2 e3 e4 e5 ef
  obtain ⟨e0, e1, e2, e3, e4, e5, ef⟩ := cells6 H6.out.z.q3
  go_wp2_with fail
  go_at_call 30
  refine (rread_c H6.out.z.r HF1.out y (by rw [HSAF.out]; exact hy)).mono ?_
  rintro e w7 ⟨v, rfl, hv, hb⟩
  rw [HSEC.out] at hv
  have HSL : Aside0 ((p.sector y).length = 64) := ⟨look_len (by rw [List.getD_eq_getElem?_getD, List.getElem?_eq_getElem hy]; exact hf.sl _ (List.getElem_mem _)) hf.wl⟩
  have H7 := Aside0.mk (H6.out.step hb)
  have HV7 := Aside0.mk hv
  obtain ⟨A7, c7, rfl⟩ := Kd.V_slice hv
  clear hv hb H6 e0 e1 e2 e3 e4 e5 ef
  go_wp2_with (
    (with_reducible refine gate_dst (N := 65) rfl ?_)
    refine wp_copy_pad rfl (.tmp 61) (.tmp 64) rfl g12 A7 c7 (p.sector y) rfl rfl 5 H7.out.t (by rw [HSL.out]; exact Nat.le_refl _) (Kd.V_reads' HV7.out).2.2 ?_
    rw [pad_id HSL.out]
    obtain ⟨V8, hV8⟩ : ∃ V, V = w7.setRow g12 (U (p.sector y)).toArray := ⟨_, rfl⟩
    have H8 : Aside0 (Put1 w V8 g3 g6 g8 g12 P R (.slice B0 p1.safe.length d0) (.slice B1 p1.wet.length d1) p1 sp (pad bs) v5 p.wet (p.sector y)) := ⟨H7.out.write (by rw [hV8]; exact below_setRow H7.out.z.b (by have := H7.out.z.e3; have := H7.out.z.e6; have := H7.out.z.e8; have := H7.out.e12; omega) _) (by rw [hV8]; exact blk_row H7.out.t) (fun k hk => by rw [hV8]; exact setRow_other _ _ _ _ hk)⟩
    rw [← hV8]
    clear hV8)
  have HP0 := Aside0.mk (pad_len HBN.out)
  have HSP := Aside0.mk hs
  clear hs
  go_loopg [13] 65 (fun kq v13 wr => ∃ i : Nat, v13 = .int .i64 i ∧ i ≤ 64 ∧ Aside0 (kq = 65 - i) ∧ Aside0 (i ≤ sp.toNat) ∧ Aside0 (Put1 w wr g3 g6 g8 g12 P R (.slice B0 p1.safe.length d0) (.slice B1 p1.wet.length d1) p1 sp (pad bs) v5 p.wet (torn i (pad bs) (p.sector y))))
  case atStart => exact ⟨0, rfl, by omega, ⟨rfl⟩, ⟨by omega⟩, ⟨by simpa [torn] using H8.out⟩⟩
  case round =>
    obtain ⟨i, rfl, hi, hkq, HIS, HT⟩ := hrel
    obtain ⟨e0, e1, e2, e3, e4, e5, ef⟩ := cells6 HT.out.z.q3
    have hsp0 := HSP.out
    by_cases hlt : i < 64 ∧ (i : Int) < sp
    · have i1 : (i : Int) < 64 := by omega
      have i2 : (i : Int) < sp := hlt.2
      have i3 : ¬ (i : Int) < 0 := by omega
      have HLT := Aside0.mk hlt
      have hTl := torn_len hi HP0.out HSL.out
      obtain ⟨f, hf⟩ : ∃ f, (pad bs)[i]? = some f := ⟨_, List.getElem?_eq_getElem (by rw [HP0.out]; exact hlt.1)⟩
      obtain ⟨g, hg⟩ : ∃ g, (torn i (pad bs) (p.sector y))[i]? = some g := ⟨_, List.getElem?_eq_getElem (by rw [hTl]; exact hlt.1)⟩
      have hcf : wr.cell? ⟨g8, i, none⟩ = some (.int .u8 f) := (blk_cell HT.out.z.q8 i).trans (by simp [hf])
      have hcg : wr.cell? ⟨g12, i, none⟩ = some (.int .u8 g) := (blk_cell HT.out.t i).trans (by simp [hg])
      have hfg := blk_frozen HT.out.t i
      have hset := torn_set hlt.1 HP0.out HSL.out hf
      have HSET := Aside0.mk hset
      have HWX := Aside0.mk (blk_put HT.out.t i (.int .u8 f) rfl)
      clear hlt hf hg hTl hset hsp0
      go_wp2_with fail
      go_roundg (65 - (i + 1))
      case measure => have := hkq.out; have := HLT.out; omega
      case rel =>
        refine ⟨i + 1, by go_num, by have := HLT.out; omega, ⟨rfl⟩, ⟨by have := HLT.out; omega⟩, ⟨?_⟩⟩
        refine HT.out.write (HT.out.z.b.setCell (by have := HT.out.z.e3; have := HT.out.z.e6; have := HT.out.z.e8; have := HT.out.e12; show w.heap.size ≤ g12; omega) _) ?_ (fun k hk => Below.heap_setCell wr _ _ k hk)
        rw [← HSET.out]
        have := HWX.out
        simpa [U] using this
    · have HI : Aside0 (i = min sp.toNat 64) := ⟨by have := HIS.out; omega⟩
      obtain ⟨TT, hTT⟩ : ∃ TT, TT = torn (min sp.toNat 64) (pad bs) (p.sector y) := ⟨_, rfl⟩
      have HTT := Aside0.mk hTT
      rw [HI.out, ← hTT] at HT
      have HTL : Aside0 (TT.length = 64) := ⟨by rw [hTT]; exact torn_len (Nat.min_le_right _ _) HP0.out HSL.out⟩
      have H5 := Aside0.mk HT.out.z
      have HN5 : Aside0 (Kd.N k68 68 wr w.heap.size (fun k => (P k ∨ w.heap.size ≤ k) ∧ k ≠ g3 ∧ k ≠ g6) v5 (p.wet.map toS)) := ⟨Kd.N_mono HT.out.n (fun k hk => hk.1)⟩
      have HSV5 := Aside0.mk HT.out.s
      clear hTT hsp0
      have i3 : ¬ ((i : Int) < 64 ∧ (i : Int) < sp) := fun h => hlt ⟨by omega, h.2⟩
      clear hlt
      by_cases i1 : (i : Int) < 64
      all_goals
       (first | (have i2 : ¬ (i : Int) < sp := fun h => i3 ⟨i1, h⟩) | skip)
       clear i3
       go_upto_region 20 with (
         (with_reducible refine gate_dst (N := 88) rfl ?_)
         (at_builtin)
         (refine Kd.N_append k68 (w0 := w) (W := wr) w.heap.size ?a1 (.tmp 83) (.tmp 87) 31 68 _ 32 ?a2 ?a3 info68 ?a4 ?a5 ?a6 v5 (p.wet.map toS) (⟨(y : Int), TT⟩ : S68) [.int .i64 y, .slice (some ⟨g12, 0, none⟩) 64 64] (fun k => (P k ∨ w.heap.size ≤ k) ∧ k ≠ g3 ∧ k ≠ g6) (fun k => k = g12) ?a7 ?a8 ?hp ?hokp ?hfresh2 HN5.out ?a9 ?a10 ?hl2 ?_)
         (case a1 => rfl)
         (case a2 => rfl)
         (case a3 => exact Try.underlying31)
         (case a4 => rfl)
         (case a5 => decide)
         (case a6 => decide)
         (case a7 => rfl)
         (case a8 => rfl)
         (case a9 => exact H5.out.b)
         (case a10 => exact H5.out.b.size)
         (case hp => have h := k68_mkF wr (fun k => k = g12) (⟨(y : Int), TT⟩ : S68) (A1 := some ⟨g12, 0, none⟩) (c1 := 64) (by dsimp only; rw [HTL.out]; omega) (fun W' hW => sec_C ((hW g12 rfl (blk_lt HT.out.t)).trans HT.out.t) HTL.out); dsimp only at h; rw [HTL.out] at h; exact h)
         (case hokp => exact (fun k hk => by subst hk; exact ⟨⟨.inr (by have := H5.out.e3; have := H5.out.e6; have := H5.out.e8; have := HT.out.e12; omega), by have := H5.out.e6; have := H5.out.e8; have := HT.out.e12; omega, by have := H5.out.e8; have := HT.out.e12; omega⟩, Kd.N_ne HN5.out HT.out.t (by decide)⟩))
         (case hfresh2 => exact (fun k hk => ⟨.inr (Nat.le_trans H5.out.b.size hk), by have := blk_lt H5.out.q3; omega, by have := blk_lt H5.out.q6; omega⟩))
         (case hl2 => rw [List.length_map]; omega)
         (intro v6 w6 hN hb6 hg6 hat6)
         (have HN6 := Aside0.mk hN)
         (have HB6 := Aside0.mk hb6)
         (have q3 := (hg6.block g3 (blk_lt H5.out.q3) (Kd.N_ne HN5.out H5.out.q3 (by decide))).trans H5.out.q3)
         (have Q6 := Aside0.mk ((hg6.block g6 (blk_lt H5.out.q6) (Kd.N_ne HN5.out H5.out.q6 (by decide))).trans H5.out.q6))
         (have HSV6 := Aside0.mk (Kd.V_grown HSV5.out hg6 (fun k hk => hk.2)))
         (obtain ⟨A6, c6, rfl⟩ := Kd.N_slice hN)
         (have Q3 := Aside0.mk q3)
         (clear hN hb6 hg6 hat6 e0 e1 e2 e3 e4 e5 ef)
         (obtain ⟨e0, e1, e2, e3, e4, e5, ef⟩ := cells6 q3)
         (clear q3))
       clear e0 e1 e2 e3 e4 e5 ef
       obtain ⟨V7, hV7⟩ : ∃ V7, V7 = w6.setCell ⟨g3, 1, none⟩ (.slice A6 (p.wet.length + 1) c6) := ⟨_, rfl⟩
       rw [← hV7]
       have q3 : V7.heap[g3]? = some (.cells #[.slice B0 p1.safe.length d0, .slice A6 (p.wet.length + 1) c6, .int .i64 p1.left, .int .i64 sp, .bool p1.off, .int .i64 p1.acts] 33 (0, 0)) := by rw [hV7]; exact blk_put Q3.out 1 _ rfl
       have Q67 : Aside0 (V7.heap[g6]? = some (.cells #[.slice none 0 0, .slice none 0 0, .int .i64 0, .int .i64 0, .bool false, .int .i64 0] 33 (0, 0))) := ⟨by rw [hV7]; exact (Below.heap_setCell w6 ⟨g3, 1, none⟩ _ g6 (by have := H5.out.e6; show g6 ≠ g3; omega)).trans Q6.out⟩
       have HB7 : Aside0 (Below w.heap.size w V7) := ⟨by rw [hV7]; exact HB6.out.setCell H5.out.e3 _⟩
       have HN7 : Aside0 (Kd.V k68 68 V7 0 (fun k => (P k ∨ w.heap.size ≤ k) ∧ k ≠ g3 ∧ k ≠ g6) (.slice A6 (p.wet.length + 1) c6) (p.wet.map toS ++ [(⟨(y : Int), TT⟩ : S68)])) := ⟨by
         have h := Kd.N_V (base' := 0) (Kd.N_far (p := ⟨g3, 1, none⟩) HN6.out (fun k hk => hk.2.1) (.slice A6 (p.wet.length + 1) c6))
         rw [← hV7] at h
         rw [show (p.wet.map toS ++ [(⟨(y : Int), TT⟩ : S68)]).length = p.wet.length + 1 by simp] at h
         exact h⟩
       have HS7 : Aside0 (Kd.V kRow 22 V7 0 (fun k => R k ∧ some k ≠ v5.ownBlock) (.slice B0 p1.safe.length d0) p1.safe) := ⟨by
         rw [hV7]
         exact Kd.V_far HSV6.out (p := ⟨g3, 1, none⟩) (fun k hk => (H5.out.n3 k hk.1).1) _⟩
       clear hV7 Q3 Q6 HB6 HN6 HSV6
       obtain ⟨e0, e1, e2, e3, e4, e5, ef⟩ := cells6 q3
       clear q3
       go_wp2_with (refine wp_store_at rfl 33 (.tmp 6) (.tmp 90) rfl g6 _ rfl rfl 33 _ Q67.out (by kernel_rfl) rfl (by first | kernel_rfl | (simp [Value.oneCell']; done)) ?_
                    intro V8 hv hV
                    have HV8 := Aside0.mk hv
                    have HE := Aside0.mk hV
                    clear hV hv)
       refine bodyPost_ret (results_ct rfl _ _ g6 33 _ (0, 0) _ rfl HV8.out Try.underlying33 rfl (by kernel_rfl)) rfl ?_
       refine ⟨_, rfl, ?_, ?_⟩
       · have h1 := Kd.V_step (w1 := V8) HN7.out (fun k hk _ => by rw [HE.out]; exact setRow_other _ _ _ _ hk.2.2)
         have h0 := Kd.V_step (w1 := V8) HS7.out (fun k hk _ => by rw [HE.out]; exact setRow_other _ _ _ _ (H5.out.n3 k hk.1).2.1)
         refine RefIs.mk (p := { p1 with wet := p.wet ++ [((y : Int), torn (min sp.toNat 64) (pad bs) (p.sector y))] }) (Kd.V_mono h0 (fun k hk => HT.out.rp k hk.1)) ?_
         rw [List.map_append, ← HTT.out]
         exact Kd.V_mono h1 (fun k hk => hk.1)
       · rw [HE.out]; exact below_setRow HB7.out (by have := H5.out.e3; have := H5.out.e6; omega) _
end Go.Proofs.Ytcobkideokljfaa
