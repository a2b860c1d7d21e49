/- The reference's plate: Flush and Fall. -/
import Derived.Test.YtcobkideokljfaaPlateN
namespace Go.Proofs.Ytcobkideokljfaa
open Go.RowKit Go.Proofs.YtcobkideokljfaaW.PrintWords Go.Proofs.YtcobkideokljfaaW.PrintLast Go.Proofs.YtcobkideokljfaaW.PrintMore
set_option linter.unusedVariables false
set_option linter.unusedSimpArgs false
theorem RefIs.below {w w' : World} {P : Nat → Prop} {x : Value} {p : St} {sp : Int} (h : RefIs w P x p sp) (hb : Below w.heap.size w w') : RefIs w' P x p sp := h.step (fun k _ hk => hb.block k hk)
theorem act_left {p : St} (h : -1 ≤ p.left) (h2 : p.left ≤ 1000000) : -1 ≤ p.act.1.left ∧ p.act.1.left ≤ 1000000 := by
  have hw : wrap64 (p.left - 1) = p.left - 1 := by unfold wrap64; omega
  unfold St.act
  split
  · exact ⟨h, h2⟩
  · split
    · exact ⟨h, h2⟩
    · dsimp only; rw [hw]; unfold mx; split <;> omega
theorem Fit.act {p : St} (h : Fit p) : Fit p.act.1 := by
  obtain ⟨h1, h2, _⟩ := act_wet p
  exact ⟨by rw [h2]; exact h.sl, by rw [h1]; exact h.wl, by rw [h1, h2]; exact h.at_, by rw [h2]; exact h.sn, by rw [h1]; exact h.wn⟩
set_option maxHeartbeats 4000000 in
theorem rflush_c {w : World} {P : Nat → Prop} {x : Value} {p : St} {sp : Int} (H : RefIs w P x p sp) (hf : Fit p) (hl : -1 ≤ p.left) (hl2 : p.left ≤ 1000000) : Calls Try.prog 26 #[x] w fun e w' => ∃ x', e = .returned (.tuple #[x', .int .i64 p.flush.2]) ∧ RefIs w' (fun k => P k ∨ w.heap.size ≤ k) x' p.flush.1 sp ∧ Below w.heap.size w w' := by
  have HH := Aside0.mk H
  obtain ⟨A0, c0, A1, c1, rfl, _, _⟩ := H
  rcases (act_wet p).2.2.2 with ha | ha
  · rw [show p.flush = (p.act.1.dry p.act.1.wet.length, 0) from by simp [St.flush, ha]]
    go_enter Try.func26, Try.ntmps26
    go_wp2_with fail
    go_at_call 31
    have hb1 := below_alloc (below_alloc (Below.refl w.heap.size w) (.cells #[.slice A0 p.safe.length c0, .slice A1 p.wet.length c1, .int .i64 p.left, .int .i64 sp, .bool p.off, .int .i64 p.acts] 33)) (.cells #[.slice none 0 0, .slice none 0 0, .int .i64 0, .int .i64 0, .bool false, .int .i64 0] 33)
    refine (ract_c (HH.out.bound.below hb1) hl hl2).mono ?_
    rintro e w3 ⟨x', rfl, h3, hb⟩
    have H3 := Aside0.mk h3
    obtain ⟨B0, d0, B1, d1, rfl, _, _⟩ := h3
    have q1 : w3.heap[w.heap.size]? = some (.cells #[.slice A0 p.safe.length c0, .slice A1 p.wet.length c1, .int .i64 p.left, .int .i64 sp, .bool p.off, .int .i64 p.acts] 33 (0, 0)) := blk_below (blk_alloc (blk_new w _) _) hb
    have q2 : w3.heap[w.heap.size + 1]? = some (.cells #[.slice none 0 0, .slice none 0 0, .int .i64 0, .int .i64 0, .bool false, .int .i64 0] 33 (0, 0)) := by
      have h := blk_below (blk_new (w.alloc (.cells #[.slice A0 p.safe.length c0, .slice A1 p.wet.length c1, .int .i64 p.left, .int .i64 sp, .bool p.off, .int .i64 p.acts] 33)) (.cells #[.slice none 0 0, .slice none 0 0, .int .i64 0, .int .i64 0, .bool false, .int .i64 0] 33)) hb
      simpa using h
    have HB3 : Aside0 (Below w.heap.size w w3) := ⟨hb1.trans (hb.mono hb1.size)⟩
    obtain ⟨g2, hg2⟩ : ∃ g, g = w.heap.size + 1 := ⟨_, rfl⟩
    obtain ⟨g1, hg1⟩ : ∃ g, g = w.heap.size := ⟨_, rfl⟩
    rw [← hg2] at q2 ⊢
    rw [← hg1] at q1 ⊢
    have HG := Aside0.mk (And.intro hg1 hg2)
    have Q1 := Aside0.mk q1
    have Q2 := Aside0.mk q2
    rw [ha]
    clear q1 q2 hb hb1 hg1 hg2
    go_wp2_with (refine wp_store_at rfl 33 (.tmp 1) (.tmp 8) rfl g1 _ rfl rfl 33 _ Q1.out (by kernel_rfl) rfl (by first | kernel_rfl | (simp [Value.oneCell']; done)) ?_
                 intro V hv hV
                 have HV := Aside0.mk hv
                 have Q2V : Aside0 (V.heap[g2]? = some (.cells #[.slice none 0 0, .slice none 0 0, .int .i64 0, .int .i64 0, .bool false, .int .i64 0] 33 (0, 0))) := ⟨by rw [hV, setRow_other _ _ _ _ (by have := HG.out; omega)]; exact Q2.out⟩
                 have HBV : Aside0 (Below w.heap.size w V) := ⟨by rw [hV]; exact below_setRow HB3.out (by have := HG.out; omega) _⟩
                 have H4 := Aside0.mk (H3.out.step (w' := V) (fun k hk _ => by rw [hV]; exact setRow_other _ _ _ _ (by have h2 := HG.out; rcases hk with hk | hk <;> ((try simp at hk); omega))))
                 obtain ⟨e0, e1, e2, e3, e4, e5, ef⟩ := cells6 hv
                 clear hV hv)
    go_at_call 32
    refine (rkeep_c H4.out hf.act p.act.1.wet.length).mono ?_
    rintro e w5 ⟨x'', rfl, h5, hb5⟩
    rw [show min ((p.act.1.wet.length : Int)).toNat p.act.1.wet.length = p.act.1.wet.length by simp] at h5
    have H5 := Aside0.mk h5
    obtain ⟨C0, f0, C1, f1, rfl, _, _⟩ := h5
    have Q5 := Aside0.mk (blk_below Q2V.out hb5)
    have HB5 := Aside0.mk (HBV.out.trans (hb5.mono HBV.out.size))
    have HVS : Aside0 (w.heap.size ≤ V.heap.size) := ⟨HBV.out.size⟩
    have HV2 : Aside0 (g2 < V.heap.size) := ⟨blk_lt Q2V.out⟩
    clear hb5 e0 e1 e2 e3 e4 e5 ef
    go_wp2_with (refine wp_store_at rfl 33 (.tmp 2) (.tmp 17) rfl g2 _ rfl rfl 33 _ Q5.out (by kernel_rfl) rfl (by first | kernel_rfl | (simp [Value.oneCell']; done)) ?_
                 intro V6 hv hV
                 have HV6 := Aside0.mk hv
                 have HE := Aside0.mk hV
                 clear hV hv)
    refine bodyPost_ret (results_ct rfl _ _ g2 33 _ (0, 0) _ rfl HV6.out Try.underlying33 rfl (by kernel_rfl)) rfl ?_
    refine ⟨_, rfl, ?_, ?_⟩
    · refine ((H5.out.bound.step (w' := V6) (fun k hk _ => ?_)).mono (fun k hk => ?_))
      · rw [HE.out]
        refine setRow_other _ _ _ _ (fun e => ?_)
        have h2 := HG.out
        have h3 := HVS.out
        have h4 := HV2.out
        rcases hk.1 with (hk1 | hk1) | hk1 <;> ((try simp at hk1); omega)
      · have h3 := HVS.out
        rcases hk.1 with (hk1 | hk1) | hk1
        · exact .inl hk1.1
        · exact .inr (by simp at hk1; omega)
        · exact .inr (by omega)
    · rw [HE.out]; exact below_setRow HB5.out (by have := HG.out; omega) _
  · rw [show p.flush = (p.act.1, 7) from by simp only [St.flush, ha]; exact Prod.ext rfl ha]
    go_enter Try.func26, Try.ntmps26
    go_wp2_with fail
    go_at_call 31
    have hb1 := below_alloc (below_alloc (Below.refl w.heap.size w) (.cells #[.slice A0 p.safe.length c0, .slice A1 p.wet.length c1, .int .i64 p.left, .int .i64 sp, .bool p.off, .int .i64 p.acts] 33)) (.cells #[.slice none 0 0, .slice none 0 0, .int .i64 0, .int .i64 0, .bool false, .int .i64 0] 33)
    refine (ract_c (HH.out.bound.below hb1) hl hl2).mono ?_
    rintro e w3 ⟨x', rfl, h3, hb⟩
    have H3 := Aside0.mk h3
    obtain ⟨B0, d0, B1, d1, rfl, _, _⟩ := h3
    have q1 : w3.heap[w.heap.size]? = some (.cells #[.slice A0 p.safe.length c0, .slice A1 p.wet.length c1, .int .i64 p.left, .int .i64 sp, .bool p.off, .int .i64 p.acts] 33 (0, 0)) := blk_below (blk_alloc (blk_new w _) _) hb
    have q2 : w3.heap[w.heap.size + 1]? = some (.cells #[.slice none 0 0, .slice none 0 0, .int .i64 0, .int .i64 0, .bool false, .int .i64 0] 33 (0, 0)) := by
      have h := blk_below (blk_new (w.alloc (.cells #[.slice A0 p.safe.length c0, .slice A1 p.wet.length c1, .int .i64 p.left, .int .i64 sp, .bool p.off, .int .i64 p.acts] 33)) (.cells #[.slice none 0 0, .slice none 0 0, .int .i64 0, .int .i64 0, .bool false, .int .i64 0] 33)) hb
      simpa using h
    have HB3 : Aside0 (Below w.heap.size w w3) := ⟨hb1.trans (hb.mono hb1.size)⟩
    obtain ⟨g2, hg2⟩ : ∃ g, g = w.heap.size + 1 := ⟨_, rfl⟩
    obtain ⟨g1, hg1⟩ : ∃ g, g = w.heap.size := ⟨_, rfl⟩
    rw [← hg2] at q2 ⊢
    rw [← hg1] at q1 ⊢
    have HG := Aside0.mk (And.intro hg1 hg2)
    have Q1 := Aside0.mk q1
    have Q2 := Aside0.mk q2
    rw [ha]
    clear q1 q2 hb hb1 hg1 hg2
    go_wp2_with (first
      | (refine wp_store_at rfl 33 (.tmp 1) (.tmp 8) rfl g1 _ rfl rfl 33 _ Q1.out (by kernel_rfl) rfl (by first | kernel_rfl | (simp [Value.oneCell']; done)) ?_
         intro V hv hV
         have HV := Aside0.mk hv
         have Q2V : Aside0 (V.heap[g2]? = some (.cells #[.slice none 0 0, .slice none 0 0, .int .i64 0, .int .i64 0, .bool false, .int .i64 0] 33 (0, 0))) := ⟨by rw [hV, setRow_other _ _ _ _ (by have := HG.out; omega)]; exact Q2.out⟩
         have HBV : Aside0 (Below w.heap.size w V) := ⟨by rw [hV]; exact below_setRow HB3.out (by have := HG.out; omega) _⟩
         have H4 := Aside0.mk (H3.out.step (w' := V) (fun k hk _ => by rw [hV]; exact setRow_other _ _ _ _ (by have h2 := HG.out; rcases hk with hk | hk <;> ((try simp at hk); omega))))
         obtain ⟨e0, e1, e2, e3, e4, e5, ef⟩ := cells6 hv
         clear hV hv
         have HVS : Aside0 (w.heap.size ≤ V.heap.size) := ⟨HBV.out.size⟩)
      | (refine wp_store_at rfl 33 (.tmp 2) (.tmp 12) rfl g2 _ rfl rfl 33 _ Q2V.out (by kernel_rfl) rfl (by first | kernel_rfl | (simp [Value.oneCell']; done)) ?_
         intro V6 hv6 hV6
         have HV6 := Aside0.mk hv6
         have HE := Aside0.mk hV6
         clear hV6 hv6))
    refine bodyPost_ret (results_ct rfl _ _ g2 33 _ (0, 0) _ rfl HV6.out Try.underlying33 rfl (by kernel_rfl)) rfl ?_
    refine ⟨_, rfl, ?_, ?_⟩
    · refine ((H4.out.bound.step (w' := V6) (fun k hk _ => ?_)).mono (fun k hk => ?_))
      · rw [HE.out]
        refine setRow_other _ _ _ _ (fun e => ?_)
        have h2 := HG.out
        rcases hk.1 with hk1 | hk1 <;> ((try simp at hk1); omega)
      · have h3 := HVS.out
        rcases hk.1 with hk1 | hk1
        · exact .inl hk1.1
        · exact .inr (by simp at hk1; omega)
    · rw [HE.out]; exact below_setRow HBV.out (by have := HG.out; omega) _
set_option maxHeartbeats 4000000 in
theorem rfall_c {w : World} {P : Nat → Prop} {x : Value} {p : St} {sp : Int} (H : RefIs w P x p sp) (hf : Fit p) (n : Int) : Calls Try.prog 27 #[x, .int .i64 n] w fun e w' => ∃ x', e = .returned x' ∧ RefIs w' (fun k => P k ∨ w.heap.size ≤ k) x' (p.fall n.toNat) 0 ∧ Below w.heap.size w w' := by
  have HH := Aside0.mk H
  obtain ⟨A0, c0, A1, c1, rfl, _, _⟩ := H
  go_enter Try.func27, Try.ntmps27
  go_wp2_with fail
  go_at_call 32
  have hb1 := below_alloc (below_alloc (Below.refl w.heap.size w) (.cells #[.slice A0 p.safe.length c0, .slice A1 p.wet.length c1, .int .i64 p.left, .int .i64 sp, .bool p.off, .int .i64 p.acts] 33)) (.cells #[.slice none 0 0, .slice none 0 0, .int .i64 0, .int .i64 0, .bool false, .int .i64 0] 33)
  refine (rkeep_c (HH.out.bound.below hb1) hf n).mono ?_
  rintro e w3 ⟨x', rfl, h3, hb⟩
  have H3 := Aside0.mk h3
  obtain ⟨B0, d0, B1, d1, rfl, _, _⟩ := h3
  have q1 : w3.heap[w.heap.size]? = some (.cells #[.slice A0 p.safe.length c0, .slice A1 p.wet.length c1, .int .i64 p.left, .int .i64 sp, .bool p.off, .int .i64 p.acts] 33 (0, 0)) := blk_below (blk_alloc (blk_new w _) _) hb
  have q2 : w3.heap[w.heap.size + 1]? = some (.cells #[.slice none 0 0, .slice none 0 0, .int .i64 0, .int .i64 0, .bool false, .int .i64 0] 33 (0, 0)) := by
    have h := blk_below (blk_new (w.alloc (.cells #[.slice A0 p.safe.length c0, .slice A1 p.wet.length c1, .int .i64 p.left, .int .i64 sp, .bool p.off, .int .i64 p.acts] 33)) (.cells #[.slice none 0 0, .slice none 0 0, .int .i64 0, .int .i64 0, .bool false, .int .i64 0] 33)) hb
    simpa using h
  have HB3 : Aside0 (Below w.heap.size w w3) := ⟨hb1.trans (hb.mono hb1.size)⟩
  obtain ⟨g2, hg2⟩ : ∃ g, g = w.heap.size + 1 := ⟨_, rfl⟩
  obtain ⟨g1, hg1⟩ : ∃ g, g = w.heap.size := ⟨_, rfl⟩
  rw [← hg2] at q2 ⊢
  rw [← hg1] at q1 ⊢
  have HG := Aside0.mk (And.intro hg1 hg2)
  have Q1 := Aside0.mk q1
  have Q2 := Aside0.mk q2
  clear q1 q2 hb hb1 hg1 hg2
  obtain ⟨p1, hp1⟩ : ∃ p1, p1 = p.dry (min n.toNat p.wet.length) := ⟨_, rfl⟩
  rw [← hp1] at H3 ⊢
  have HP1 := Aside0.mk hp1
  clear hp1
  go_upto_region 2 with (refine wp_store_at rfl 33 (.tmp 2) (.tmp 7) rfl g1 _ rfl rfl 33 _ Q1.out (by kernel_rfl) rfl (by first | kernel_rfl | (simp [Value.oneCell']; done)) ?_
                         intro V hv hV
                         have HV := Aside0.mk hv
                         have Q2V : Aside0 (V.heap[g2]? = some (.cells #[.slice none 0 0, .slice none 0 0, .int .i64 0, .int .i64 0, .bool false, .int .i64 0] 33 (0, 0))) := ⟨by rw [hV, setRow_other _ _ _ _ (by have := HG.out; omega)]; exact Q2.out⟩
                         have HBV : Aside0 (Below w.heap.size w V) := ⟨by rw [hV]; exact below_setRow HB3.out (by have := HG.out; omega) _⟩
                         have H4 := Aside0.mk (H3.out.step (w' := V) (fun k hk _ => by rw [hV]; exact setRow_other _ _ _ _ (by have h2 := HG.out; rcases hk with hk | hk <;> ((try simp at hk); omega))))
                         clear hV hv)
  obtain ⟨e0, e1, e2, e3, e4, e5, ef⟩ := cells6 HV.out
  have z1 := blk_put HV.out 4 (.bool false) rfl
  have z2 := blk_put z1 2 (.int .i64 (-1)) rfl
  have z3 := blk_put z2 3 (.int .i64 0) rfl
  have HZ := Aside0.mk z3
  clear z1 z2 z3
  go_upto_region 5 with fail
  obtain ⟨U5, hU⟩ : ∃ U5, U5 = ((V.setCell ⟨g1, 4, none⟩ (.bool false)).setCell ⟨g1, 2, none⟩ (.int .i64 (-1))).setCell ⟨g1, 3, none⟩ (.int .i64 0) := ⟨_, rfl⟩
  have F5 : Aside0 (Fr V U5 (fun i => i = g1)) := ⟨by rw [hU]; exact (((Fr.refl V (fun i => i = g1)).set (p := ⟨g1, 4, none⟩) (.inl rfl) _).set (p := ⟨g1, 2, none⟩) (.inl rfl) _).set (p := ⟨g1, 3, none⟩) (.inl rfl) _⟩
  have Z5 : Aside0 (U5.heap[g1]? = some (.cells #[.slice B0 p1.safe.length d0, .slice B1 p1.wet.length d1, .int .i64 (-1), .int .i64 0, .bool false, .int .i64 p1.acts] 33 (0, 0))) := ⟨by rw [hU]; exact HZ.out⟩
  rw [← hU]
  have Q5 : Aside0 (U5.heap[g2]? = some (.cells #[.slice none 0 0, .slice none 0 0, .int .i64 0, .int .i64 0, .bool false, .int .i64 0] 33 (0, 0))) := ⟨F5.out.at Q2V.out (by have := HG.out; omega)⟩
  clear hU e0 e1 e2 e3 e4 e5 ef
  obtain ⟨e0, e1, e2, e3, e4, e5, ef⟩ := cells6 Z5.out
  go_wp2_with (refine wp_store_at rfl 33 (.tmp 4) (.tmp 11) rfl g2 _ rfl rfl 33 _ Q5.out (by kernel_rfl) rfl (by first | kernel_rfl | (simp [Value.oneCell']; done)) ?_
               intro V6 hv hV
               have HV6 := Aside0.mk hv
               have HE := Aside0.mk hV
               clear hV hv)
  refine bodyPost_ret (results_cell_row rfl _ _ g2 33 _ (0, 0) _ rfl HV6.out Try.underlying33 rfl (by kernel_rfl)) rfl ?_
  have hB5 : Below w.heap.size w U5 := HBV.out.trans (F5.out.below HBV.out.size (fun i e => by have h2 := HG.out; have e : i = g1 := e; omega))
  refine ⟨_, rfl, ?_, ?_⟩
  · have hR : RefIs U5 _ _ p1 sp := H4.out.bound.step (fun k hk hlt => F5.out.block k hlt (fun e => by have h2 := HG.out; have e : k = g1 := e; rcases hk.1 with hk1 | hk1 <;> ((try simp at hk1); omega)))
    have hR6 : RefIs V6 _ _ p1 sp := hR.step (fun k hk hlt => by
      rw [HE.out]
      exact setRow_other _ _ _ _ (by have h2 := HG.out; rcases hk.1 with hk1 | hk1 <;> ((try simp at hk1); omega)))
    have hm : ∀ k, (((P k ∧ k < w.heap.size) ∨ ((w.alloc (.cells #[.slice A0 p.safe.length c0, .slice A1 p.wet.length c1, .int .i64 p.left, .int .i64 sp, .bool p.off, .int .i64 p.acts] 33)).alloc (.cells #[.slice none 0 0, .slice none 0 0, .int .i64 0, .int .i64 0, .bool false, .int .i64 0] 33)).heap.size ≤ k) ∧ k < V.heap.size) → (P k ∨ w.heap.size ≤ k) := fun k hk => by
      rcases hk.1 with hk1 | hk1
      · exact .inl hk1.1
      · exact .inr (by simp at hk1; omega)
    obtain ⟨X0, y0, X1, y1, e, k0, k1⟩ := hR6.mono hm
    have hp := HP1.out
    subst hp
    simp only [Value.agg.injEq, Array.mk.injEq, List.cons.injEq, Value.slice.injEq, and_true, true_and] at e
    obtain ⟨⟨rfl, rfl⟩, rfl, rfl⟩ := e
    exact ⟨_, _, _, _, rfl, k0, k1⟩
  · rw [HE.out]; exact below_setRow hB5 (by have := HG.out; omega) _
end Go.Proofs.Ytcobkideokljfaa
