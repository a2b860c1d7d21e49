/- The reference's plate: Put where it stops. -/
import Derived.Test.YtcobkideokljfaaPlateQ
namespace Go.Proofs.Ytcobkideokljfaa
open Go.RowKit Go.Proofs.YtcobkideokljfaaW.PrintWords Go.Proofs.YtcobkideokljfaaW.PrintLast Go.Proofs.YtcobkideokljfaaW.PrintMore Go.Proofs.Ytcobkideokljfaa.PA
set_option linter.unusedVariables false
set_option linter.unusedSimpArgs false
set_option maxHeartbeats 8000000 in
theorem rput_off {w : World} {P : Nat → Prop} {x : Value} {p : St} {sp : Int} (H : RefIs w P x p sp) (hf : Fit p) (hl : -1 ≤ p.left) (hl2 : p.left ≤ 1000000) (hwn : p.wet.length < 1000) (y : Nat) (hy : y < p.safe.length) (A : Option Addr) (cb : Nat) (bs : List Int) (hbn : bs.length ≤ 64) (hr : Kd.C (Kd.int .u8) w A bs.length bs) (ha : p.act.2 = 7) (hno : p.off = true ∨ ¬ 0 < sp) :
    Calls Try.prog 28 #[x, .int .i64 y, .slice A bs.length cb] w fun e w' => ∃ x', e = .returned (.tuple #[x', .int .i64 7]) ∧ RefIs w' (fun k => P k ∨ w.heap.size ≤ k) x' (p.act.1) sp ∧ Below w.heap.size w w' := by
  have HH := Aside0.mk H
  have HR := Aside0.mk hr
  have HBN := Aside0.mk hbn
  obtain ⟨A0, c0, A1, c1, rfl, _, _⟩ := H
  obtain ⟨iB, hiB, hzB, hsB, hbB⟩ := info_parts infoB
  have i1 : (y : Int) < p.safe.length := by omega
  have i2 : ¬ (y : Int) < 0 := by omega
  have i3 : ¬ (64 : Int) < (bs.length : Int) := by omega
  have HNO := Aside0.mk hno
  clear hr hbn hno
  have hwet := (act_wet p).1
  have hsaf := (act_wet p).2.1
  obtain ⟨p1, hp1⟩ : ∃ q, q = p.act.1 := ⟨_, rfl⟩
  rw [← hp1] at hwet hsaf ⊢
  have HP1 := Aside0.mk hp1
  have HWET := Aside0.mk hwet
  have HSAF := Aside0.mk hsaf
  clear hp1 hwet hsaf
  go_enter Try.func28, Try.ntmps28
  go_upto_region 3 with fail
  obtain ⟨g6, hg6⟩ : ∃ g, g = w.heap.size + 1 := ⟨_, rfl⟩
  obtain ⟨g6, hg6⟩ : ∃ g, g = w.heap.size + 1 := ⟨_, rfl⟩
  obtain ⟨g6, hg6⟩ : ∃ g, g = w.heap.size + 1 := ⟨_, rfl⟩
  obtain ⟨g3, hg3⟩ : ∃ g, g = w.heap.size := ⟨_, rfl⟩
  obtain ⟨W, hW⟩ : ∃ W, W = (w.alloc (.cells #[.slice A0 p.safe.length c0, .slice A1 p.wet.length c1, .int .i64 p.left, .int .i64 sp, .bool p.off, .int .i64 p.acts] 33)).alloc (.cells #[.slice none 0 0, .slice none 0 0, .int .i64 0, .int .i64 0, .bool false, .int .i64 0] 33) := ⟨_, rfl⟩
  have HB1 : Aside0 (Below w.heap.size w W) := ⟨by rw [hW]; exact below_alloc (below_alloc (Below.refl w.heap.size w) _) _⟩
  have Q3 : Aside0 (W.heap[g3]? = some (.cells #[.slice A0 p.safe.length c0, .slice A1 p.wet.length c1, .int .i64 p.left, .int .i64 sp, .bool p.off, .int .i64 p.acts] 33 (0, 0))) := ⟨by rw [hW, hg3]; exact blk_alloc (blk_new w _) _⟩
  have Q6 : Aside0 (W.heap[g6]? = some (.cells #[.slice none 0 0, .slice none 0 0, .int .i64 0, .int .i64 0, .bool false, .int .i64 0] 33 (0, 0))) := ⟨by
    have h := blk_new (w.alloc (.cells #[.slice A0 p.safe.length c0, .slice A1 p.wet.length c1, .int .i64 p.left, .int .i64 sp, .bool p.off, .int .i64 p.acts] 33)) (.cells #[.slice none 0 0, .slice none 0 0, .int .i64 0, .int .i64 0, .bool false, .int .i64 0] 33)
    rw [hW, hg6]; simpa using h⟩
  have HS : Aside0 (g3 = w.heap.size ∧ g6 = w.heap.size + 1 ∧ W.heap.size = w.heap.size + 2) := ⟨hg3, hg6, by rw [hW]; simp⟩
  rw [← hW, ← hg6, ← hg3]
  clear hW hg3 hg6
  go_upto_region 5 with (first
    | ((with_reducible refine gate_dst (N := 29) rfl ?_)
       refine wpList_make_row _ rfl (.const (.int .i64 64)) (.const (.int .i64 64)) 22 rfl 5 iB (.int .u8 0) Try.underlying22 hiB hzB hsB rfl .i64 .i64 64 rfl rfl (by rw [hbB]; omega) (by omega) ?_
       rw [made64]
       obtain ⟨V1, hV1⟩ : ∃ V, V = W.alloc (.cells (U z64).toArray 5) := ⟨_, rfl⟩
       obtain ⟨g8, hg8⟩ : ∃ g, g = W.heap.size := ⟨_, rfl⟩
       have Q8 : Aside0 (V1.heap[g8]? = some (.cells (U z64).toArray 5 (0, 0))) := ⟨by rw [hV1, hg8]; exact blk_new _ _⟩
       have HG8 : Aside0 (g8 = W.heap.size ∧ Below W.heap.size W V1) := ⟨hg8, by rw [hV1]; exact below_alloc (Below.refl _ _) _⟩
       rw [← hV1, ← hg8]
       clear hV1 hg8)
    | ((with_reducible refine gate_dst (N := 32) rfl ?_)
       refine wp_copy_pad rfl (.tmp 30) (.tmp 31) rfl g8 A cb bs rfl rfl 5 Q8.out HBN.out (Kd.C_below HR.out (HB1.out.trans (HG8.out.2.mono HB1.out.size))) ?_
       obtain ⟨V2, hV2⟩ : ∃ V, V = V1.setRow g8 (U (pad bs)).toArray := ⟨_, rfl⟩
       have H2 : Aside0 (Put0 w V2 g3 g6 g8 (fun k => P k ∧ k < w.heap.size) (.agg #[.slice A0 p.safe.length c0, .slice A1 p.wet.length c1, .int .i64 p.left, .int .i64 sp, .bool p.off, .int .i64 p.acts]) p sp #[.slice A0 p.safe.length c0, .slice A1 p.wet.length c1, .int .i64 p.left, .int .i64 sp, .bool p.off, .int .i64 p.acts] (pad bs)) := ⟨by
         obtain ⟨s1, s2, s3⟩ := HS.out
         have hg8 := HG8.out.1
         have hb : Below w.heap.size w V2 := by rw [hV2]; exact below_setRow (HB1.out.trans (HG8.out.2.mono HB1.out.size)) (by omega) _
         refine ⟨hb, ?_, ?_, by rw [hV2]; exact blk_row Q8.out, HH.out.bound.below hb, by omega, by omega, by omega, fun k hk => by have := hk.2; omega⟩
         · rw [hV2, setRow_other _ _ _ _ (by omega)]; exact blk_below Q3.out HG8.out.2
         · rw [hV2, setRow_other _ _ _ _ (by omega)]; exact blk_below Q6.out HG8.out.2⟩
       rw [← hV2]
       clear hV2))
  clear Q8 HG8 HS Q3 Q6 HB1 V1 W
  obtain ⟨e0, e1, e2, e3, e4, e5, ef⟩ := cells6 H2.out.q3
  go_wp2_with fail
  go_at_call 31
  clear e0 e1 e2 e3 e4 e5 ef
  refine (ract_c H2.out.r hl hl2).mono ?_
  rintro e w3 ⟨x', rfl, h3, hb⟩
  rw [ha]
  rw [← HP1.out] at h3
  clear ha HP1
  have H3 : Aside0 (Put0 w w3 g3 g6 g8 (fun k => (P k ∧ k < w.heap.size) ∨ V2.heap.size ≤ k) x' p1 sp #[.slice A0 p.safe.length c0, .slice A1 p.wet.length c1, .int .i64 p.left, .int .i64 sp, .bool p.off, .int .i64 p.acts] (pad bs)) := ⟨by
    have h := H2.out.step hb
    have l8 := blk_lt H2.out.q8
    have l6 := H2.out.e8
    have l3 := H2.out.e6
    exact ⟨h.b, h.q3, h.q6, h.q8, h3, h.e3, h.e6, h.e8, fun k hk => hk.elim (H2.out.n3 k) (fun hk => ⟨by omega, by omega, by omega⟩)⟩⟩
  have HZ : Aside0 (w.heap.size ≤ V2.heap.size) := ⟨H2.out.b.size⟩
  obtain ⟨B0, d0, B1, d1, rfl, _, _⟩ := h3
  clear hb H2
  go_upto_region 12 with (first
    | ((with_reducible refine gate_dst (N := 43) rfl ?_)
       at_builtin
       refine Kd.N_append_rows k68 (w0 := w) w.heap.size rfl (.tmp 40) (.tmp 42) 31 68 _ 32 rfl Try.underlying31 info68 rfl (by decide) (by decide) (.slice none 0 0) ([] : List S68) (p1.wet.map toS) B1 _ d1 (fun k => (P k ∨ w.heap.size ≤ k) ∧ k ≠ g3 ∧ k ≠ g6) (fun k => ((P k ∨ w.heap.size ≤ k) ∧ k ≠ g3 ∧ k ≠ g6) ∧ some k ≠ (Value.slice none 0 0).ownBlock) rfl rfl (Kd.N_nil _ _ _ _ _) ?HR (fun _ h => h) ?hfresh H4.out.b H4.out.b.size ?hl ?_
       (case HR => exact Kd.F_mono (Kd.V_F (RefIs.get H4.out.r).2) (fun k hk => ⟨⟨hk.elim (fun h => .inl h.1) (fun h => .inr (Nat.le_trans HZ.out h)), (H4.out.n3 k hk).1, (H4.out.n3 k hk).2.1⟩, by simp [Value.ownBlock]⟩))
       (case hfresh => exact (fun k hk => ⟨.inr (Nat.le_trans H4.out.b.size hk), by have := blk_lt H4.out.q3; omega, by have := blk_lt H4.out.q6; omega⟩))
       (case hl => have := HWET.out; rw [this]; simp only [List.length_nil]; omega)
       intro v5 w5 hN hb5 hg5 hat5
       have H5 := Aside0.mk (H4.out.step (below_of_grown hg5))
       have HN5 : Aside0 (Kd.N k68 68 w5 w.heap.size (fun k => (P k ∨ w.heap.size ≤ k) ∧ k ≠ g3 ∧ k ≠ g6) v5 (p.wet.map toS)) := ⟨by have h := hN; rw [List.nil_append, HWET.out] at h; exact h⟩
       have H8N : Aside0 (some g8 ≠ v5.ownBlock) := ⟨fun e => by
         rcases hat5 with h | ⟨b, h, hb⟩
         · rw [h] at e; simp [Value.ownBlock] at e
         · rw [h] at e; injection e with e; have := blk_lt H4.out.q8; omega⟩
       have HSV5 := Aside0.mk (Kd.V_elder' (u := v5) (RefIs.get H4.out.r).1 (fun k hk => by
         rcases hat5 with h | ⟨b, h, hb⟩
         · rw [h] at hk; simp [Value.ownBlock] at hk
         · rw [h] at hk; injection hk with hk; omega) (below_of_grown hg5))
       clear hN hb5 hg5 hat5 e0 e1 e2 e3 e4 e5 ef
       obtain ⟨e0, e1, e2, e3, e4, e5, ef⟩ := cells6 H5.out.q3)
    | (refine wp_store_at rfl 33 (.tmp 3) (.tmp 38) rfl g3 _ rfl rfl 33 _ H3.out.q3 (by kernel_rfl) rfl (by first | kernel_rfl | (simp [Value.oneCell']; done)) ?_
       intro V4 hv hV
       have H4 : Aside0 (Put0 w V4 g3 g6 g8 (fun k => (P k ∧ k < w.heap.size) ∨ V2.heap.size ≤ k) (.agg #[.slice B0 p1.safe.length d0, .slice B1 p1.wet.length d1, .int .i64 p1.left, .int .i64 sp, .bool p1.off, .int .i64 p1.acts]) p1 sp #[.slice B0 p1.safe.length d0, .slice B1 p1.wet.length d1, .int .i64 p1.left, .int .i64 sp, .bool p1.off, .int .i64 p1.acts] (pad bs)) := ⟨by
         have h := H3.out
         have l6 := h.e6
         have l8 := h.e8
         refine ⟨by rw [hV]; exact below_setRow h.b h.e3 _, hv, ?_, ?_, h.r.step (fun k hk _ => by rw [hV]; exact setRow_other _ _ _ _ (h.n3 k hk).1), h.e3, h.e6, h.e8, h.n3⟩
         · rw [hV, setRow_other _ _ _ _ (by omega)]; exact h.q6
         · rw [hV, setRow_other _ _ _ _ (by omega)]; exact h.q8⟩
       obtain ⟨e0, e1, e2, e3, e4, e5, ef⟩ := cells6 hv
       clear hV hv))
  have Q67 := Aside0.mk H5.out.q6
  obtain ⟨po, hpo⟩ : ∃ b, b = p.off := ⟨_, rfl⟩
  have HNP : Aside0 (po = true ∨ ¬ 0 < sp) := ⟨by rw [hpo]; exact HNO.out.imp id (fun h => by omega)⟩
  rw [← hpo]
  clear hpo
  cases po
  all_goals
   (first | (have hs : ¬ 0 < sp := HNP.out.resolve_left (by decide)) | skip)
   go_wp2_with (refine wp_store_at rfl 33 (.tmp 6) (.tmp 90) rfl g6 _ rfl rfl 33 _ Q67.out (by kernel_rfl) rfl (by first | kernel_rfl | (simp [Value.oneCell']; done)) ?_
                intro V8 hv hV
                have HV8 := Aside0.mk hv
                have HE := Aside0.mk hV
                clear hV hv)
   refine bodyPost_ret (results_ct rfl _ _ g6 33 _ (0, 0) _ rfl HV8.out Try.underlying33 rfl (by kernel_rfl)) rfl ?_
   refine ⟨_, rfl, ?_, ?_⟩
   · exact (H5.out.r.step (w' := V8) (fun k hk _ => by rw [HE.out]; exact setRow_other _ _ _ _ (H5.out.n3 k hk).2.1)).mono (fun k hk => hk.elim (fun h => .inl h.1) (fun h => .inr (Nat.le_trans HZ.out h)))
   · rw [HE.out]; exact below_setRow H5.out.b (by have := H5.out.e3; have := H5.out.e6; omega) _
end Go.Proofs.Ytcobkideokljfaa
