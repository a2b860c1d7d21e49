-- printed by this workplace: wip/patchprint.py over the kit's print
import Derived.Test.YtlihgjonmliodaaPAx0
import Derived.Test.YtlihgjonmliodaaPAx23
namespace Go.Proofs.Ytlihgjonmliodaa.PA
open Go.RowKit Go.Proofs.YtlihgjonmliodaaW.PrintWords Go.Proofs.YtlihgjonmliodaaW.PrintLast Go.Proofs.YtlihgjonmliodaaW.PrintMore
attribute [local go_sem] max2_int min2_int max_two min_two max_three min_three max_four min_four   -- for this text's walks alone
set_option linter.unusedVariables false
set_option linter.unusedSimpArgs false

/-! ### pack_Box_End: function 23 -/
def pack_Box_End.f (l0_0 : List Int) (a0_1 : Int) : Option (Int × List Int × Int) := if a0_1 = 0 then (if (l0_0.length : Int) > 0 then (some (4, l0_0, a0_1)) else ((pack_Box_Fault.f l0_0 a0_1).bind fun bt418 => (some (bt418.1, bt418.2.1, bt418.2.2)))) else ((pack_Box_Fault.f l0_0 a0_1).bind fun bt423 => (some (bt423.1, bt423.2.1, bt423.2.2)))
set_option maxHeartbeats 40000000 in
set_option maxRecDepth 100000 in
theorem pack_Box_End.calls (gx0 : Nat) (P0_0_ : Nat → Prop) (u9000_ : Value) (l0_0 : List Int) (a0_1 : Int) (r1 : Int) (r2 : List Int) (r3 : Int) (w0 w : World) (hB : Below w0.heap.size w0 w) (hbx0 : w.heap[gx0]? = some (.cells #[u9000_, .int .i64 a0_1] 60 (0, 0))) (hge0 : w0.heap.size ≤ gx0) (ho0_0 : Kd.Q (Kd.int .u8) 5 w w0.heap.size P0_0_ u9000_ l0_0) (h : pack_Box_End.f l0_0 a0_1 = some (r1, r2, r3)) :
  Calls Try.prog 23 #[.pointer (some ⟨gx0, 0, none⟩)] w fun e w' => ∃ v1_ : Value, e = .returned (.int .i64 r1) ∧ Kd.Q (Kd.int .u8) 5 w' w0.heap.size (fun k_ => (P0_0_ k_ ∨ w.heap.size ≤ k_)) v1_ r2 ∧ w'.heap[gx0]? = some (.cells #[v1_, .int .i64 r3] 60 (0, 0)) ∧ Below w0.heap.size w0 w' ∧ Kept w w' (fun k_ => (P0_0_ k_) ∨ k_ = gx0) := by
 have BK0 := Aside0.mk hbx0
 have GE0 := Aside0.mk hge0
 clear hbx0 hge0
 have HO0_0 := Aside0.mk (show Kd.Q (Kd.int .u8) 5 w w0.heap.size (fun k_ => (P0_0_ k_ ∨ w.heap.size ≤ k_)) u9000_ l0_0 from Kd.Q_mono ho0_0 (fun k_ hk => (.inl hk)))
 have HK := Aside0.mk (Kept.refl w (fun k_ => (P0_0_ k_) ∨ k_ = gx0))
 have HW0 := Aside0.mk hB.size
 have HB := Aside0.mk hB
 clear hB
 have H : (if a0_1 = 0 then (if (l0_0.length : Int) > 0 then (some (4, l0_0, a0_1)) else ((pack_Box_Fault.f l0_0 a0_1).bind fun bt418 => (some (bt418.1, bt418.2.1, bt418.2.2)))) else ((pack_Box_Fault.f l0_0 a0_1).bind fun bt423 => (some (bt423.1, bt423.2.1, bt423.2.2)))) = some (r1, r2, r3) := h
 clear h
 by_cases c2 : a0_1 = 0
 ·rw [if_pos c2] at H
  have c2b0 : (a0_1 == 0) = true := beq_iff_eq.mpr c2
  have c2b1 : (a0_1 != 0) = false := bne_eq_false_iff_eq.mpr c2
  clear c2
  by_cases c3 : (l0_0.length : Int) > 0
  ·rw [if_pos c3] at H
   have c3b0 : decide (0 < (l0_0.length : Int)) = true := decide_eq_true c3
   have c3b1 : decide (0 < l0_0.length) = true := decide_eq_true (by omega)
   clear c3
   simp only [Option.some.injEq, Prod.mk.injEq] at H
   obtain ⟨rfl, rfl, rfl⟩ := H
   have hcz4_0 : w.cell? ⟨gx0, 0, none⟩ = some (u9000_) := (kC BK0.out 0).trans rfl
   have hcz4_1 : w.cell? ⟨gx0, 1, none⟩ = some (.int .i64 a0_1) := (kC BK0.out 1).trans rfl
   have hfz4_0 := kF BK0.out 0
   have hfz4_1 := kF BK0.out 1
   obtain ⟨Ao5, co5, eo5, _⟩ := Kd.Q_slice HO0_0.out
   subst eo5
   go_enter Try.func23, Try.ntmps23
   go_wp2
   go_ret
   exact ⟨(.slice Ao5 l0_0.length co5), by first | rfl | (simp [errW_none, errW_some] <;> rfl) | (simp [*, errW_none, errW_some] <;> rfl), by (with_reducible repeat (first | apply Kd.Q_alloc | apply Kd.Q_drewN | apply Kd.Q_drew)); exact HO0_0.out, by (with_reducible repeat (first | refine kN ?_ _ | refine kD ?_ | refine kA ?_ _)); exact BK0.out, by repeat (first | (with_reducible first | exact HB.out | apply kL | apply kM | apply kE | refine kS ?_ GE0.out) | exact HB.out), by repeat (first | (with_reducible first | exact HK.out | apply Kept.alloc | apply Kept.drewN | apply Kept.drew | refine Kept.setCell ?_ (.inl (.inr rfl)) _ | refine Kept.setCell ?_ (.inr GW0.out) _) | exact HK.out)⟩
  ·rw [if_neg c3] at H
   have c3b0 : decide (0 < (l0_0.length : Int)) = false := decide_eq_false c3
   have c3b1 : decide (0 < l0_0.length) = false := decide_eq_false (by omega)
   clear c3
   replace H := Option.bind_eq_some_iff.mp H
   obtain ⟨⟨t418, t419, t422⟩, A60, H⟩ := H
   replace H : (some (t418, t419, t422)) = some (r1, r2, r3) := H
   have A6 := Aside0.mk A60
   clear A60
   simp only [Option.some.injEq, Prod.mk.injEq] at H
   obtain ⟨rfl, rfl, rfl⟩ := H
   have hcz7_0 : w.cell? ⟨gx0, 0, none⟩ = some (u9000_) := (kC BK0.out 0).trans rfl
   have hcz7_1 : w.cell? ⟨gx0, 1, none⟩ = some (.int .i64 a0_1) := (kC BK0.out 1).trans rfl
   have hfz7_0 := kF BK0.out 0
   have hfz7_1 := kF BK0.out 1
   obtain ⟨Ao8, co8, eo8, _⟩ := Kd.Q_slice HO0_0.out
   subst eo8
   go_enter Try.func23, Try.ntmps23
   go_wp2_with (first | ((with_reducible refine gate_callee (f := 22) rfl ?_); refine goesL_ (some 21) rfl rfl Try.func22 (by kernel_rfl) rfl #[.pointer (some ⟨gx0, 0, none⟩)] rfl (by (try simp only [List.map_toArray, List.map_cons, List.map_nil]); first | done | rfl | (simp only [List.length_drop, List.length_take]; rfl)) ?_; (with_reducible refine (pack_Box_Fault.calls gx0 (fun k_ => some k_ = (.slice Ao8 l0_0.length co8 : Value).ownBlock) (.slice Ao8 l0_0.length co8) l0_0 a0_1 t418 t419 t422 w0 _ ?side1 ?side2 ?side3 ?side4 A6.out).mono ?_); (case side1 => repeat (first | (with_reducible first | exact HB.out | apply kL | apply kM | apply kE | refine kS ?_ GE0.out) | exact HB.out)); (case side2 => exact (by (with_reducible repeat (first | refine kN ?_ _ | refine kD ?_ | refine kA ?_ _)); exact BK0.out)); (case side3 => exact GE0.out); (case side4 => exact Kd.Q_tight rfl HO0_0.out); rintro e w9 ⟨v420, rfl, ho0, hi, hb, hkp⟩; refine ⟨_, rfl, ?_⟩; have n0_ := Aside0.mk (hi); have n1_ := Aside0.mk (Kd.Q_mono (ok' := fun k_ => (P0_0_ k_ ∨ w.heap.size ≤ k_)) ho0 (fun k_ hk_ => Or.elim hk_ (fun hs_ => (HO0_0.out.1 k_ (hs_).symm)) (fun hn_ => (.inr (Nat.le_trans (by first | exact HK.out.1 | exact (show Kept w _ (fun k_ => (P0_0_ k_) ∨ k_ = gx0) from by repeat (first | (with_reducible first | exact HK.out | apply Kept.alloc | apply Kept.drewN | apply Kept.drew | refine Kept.setCell ?_ (.inl (.inr rfl)) _ | refine Kept.setCell ?_ (.inr GW0.out) _) | exact HK.out)).1) hn_))))); have n2_ := Aside0.mk (Kept.then_ (S := (fun k_ => (P0_0_ k_) ∨ k_ = gx0)) (by repeat (first | (with_reducible first | exact HK.out | apply Kept.alloc | apply Kept.drewN | apply Kept.drew | refine Kept.setCell ?_ (.inl (.inr rfl)) _ | refine Kept.setCell ?_ (.inr GW0.out) _) | exact HK.out)) hkp (fun k_ hs_ => Or.elim hs_ (fun hs_ => (fun e_ => Or.imp_left Or.inl ((HO0_0.out.1 k_ e_.symm))) hs_) (fun e_ => .inl (.inr e_)))); have n3_ := Aside0.mk (hb); clear BK0; clear HK; clear HB; clear HO0_0; have BK0 := n0_; have HO421 := n1_; have HK := n2_; have HB := n3_; clear n0_ n1_ n2_ n3_; (try clear hb); (try clear hkp); (try clear hi); (try clear ho0)))
   go_ret
   exact ⟨(v420), by first | rfl | (simp [errW_none, errW_some] <;> rfl) | (simp [*, errW_none, errW_some] <;> rfl), by (with_reducible repeat (first | apply Kd.Q_alloc | apply Kd.Q_drewN | apply Kd.Q_drew)); exact HO421.out, by (with_reducible repeat (first | refine kN ?_ _ | refine kD ?_ | refine kA ?_ _)); exact BK0.out, by repeat (first | (with_reducible first | exact HB.out | apply kL | apply kM | apply kE | refine kS ?_ GE0.out) | exact HB.out), by repeat (first | (with_reducible first | exact HK.out | apply Kept.alloc | apply Kept.drewN | apply Kept.drew | refine Kept.setCell ?_ (.inl (.inr rfl)) _ | refine Kept.setCell ?_ (.inr GW0.out) _) | exact HK.out)⟩
 ·rw [if_neg c2] at H
  have c2b0 : (a0_1 == 0) = false := beq_eq_false_iff_ne.mpr c2
  have c2b1 : (a0_1 != 0) = true := bne_iff_ne.mpr c2
  replace H := Option.bind_eq_some_iff.mp H
  obtain ⟨⟨t423, t424, t427⟩, A100, H⟩ := H
  replace H : (some (t423, t424, t427)) = some (r1, r2, r3) := H
  have A10 := Aside0.mk A100
  clear A100
  simp only [Option.some.injEq, Prod.mk.injEq] at H
  obtain ⟨rfl, rfl, rfl⟩ := H
  have hcz11_0 : w.cell? ⟨gx0, 0, none⟩ = some (u9000_) := (kC BK0.out 0).trans rfl
  have hcz11_1 : w.cell? ⟨gx0, 1, none⟩ = some (.int .i64 a0_1) := (kC BK0.out 1).trans rfl
  have hfz11_0 := kF BK0.out 0
  have hfz11_1 := kF BK0.out 1
  go_enter Try.func23, Try.ntmps23
  go_wp2_with (first | ((with_reducible refine gate_callee (f := 22) rfl ?_); refine goesL_ (some 21) rfl rfl Try.func22 (by kernel_rfl) rfl #[.pointer (some ⟨gx0, 0, none⟩)] rfl (by (try simp only [List.map_toArray, List.map_cons, List.map_nil]); first | done | rfl | (simp only [List.length_drop, List.length_take]; rfl)) ?_; (with_reducible refine (pack_Box_Fault.calls gx0 (fun k_ => some k_ = (u9000_ : Value).ownBlock) u9000_ l0_0 a0_1 t423 t424 t427 w0 _ ?side1 ?side2 ?side3 ?side4 A10.out).mono ?_); (case side1 => repeat (first | (with_reducible first | exact HB.out | apply kL | apply kM | apply kE | refine kS ?_ GE0.out) | exact HB.out)); (case side2 => exact (by (with_reducible repeat (first | refine kN ?_ _ | refine kD ?_ | refine kA ?_ _)); exact BK0.out)); (case side3 => exact GE0.out); (case side4 => exact Kd.Q_tight rfl HO0_0.out); rintro e w12 ⟨v425, rfl, ho0, hi, hb, hkp⟩; refine ⟨_, rfl, ?_⟩; have n0_ := Aside0.mk (hi); have n1_ := Aside0.mk (Kd.Q_mono (ok' := fun k_ => (P0_0_ k_ ∨ w.heap.size ≤ k_)) ho0 (fun k_ hk_ => Or.elim hk_ (fun hs_ => (HO0_0.out.1 k_ (hs_).symm)) (fun hn_ => (.inr (Nat.le_trans (by first | exact HK.out.1 | exact (show Kept w _ (fun k_ => (P0_0_ k_) ∨ k_ = gx0) from by repeat (first | (with_reducible first | exact HK.out | apply Kept.alloc | apply Kept.drewN | apply Kept.drew | refine Kept.setCell ?_ (.inl (.inr rfl)) _ | refine Kept.setCell ?_ (.inr GW0.out) _) | exact HK.out)).1) hn_))))); have n2_ := Aside0.mk (Kept.then_ (S := (fun k_ => (P0_0_ k_) ∨ k_ = gx0)) (by repeat (first | (with_reducible first | exact HK.out | apply Kept.alloc | apply Kept.drewN | apply Kept.drew | refine Kept.setCell ?_ (.inl (.inr rfl)) _ | refine Kept.setCell ?_ (.inr GW0.out) _) | exact HK.out)) hkp (fun k_ hs_ => Or.elim hs_ (fun hs_ => (fun e_ => Or.imp_left Or.inl ((HO0_0.out.1 k_ e_.symm))) hs_) (fun e_ => .inl (.inr e_)))); have n3_ := Aside0.mk (hb); clear BK0; clear HK; clear HB; clear HO0_0; have BK0 := n0_; have HO426 := n1_; have HK := n2_; have HB := n3_; clear n0_ n1_ n2_ n3_; (try clear hb); (try clear hkp); (try clear hi); (try clear ho0)))
  go_ret
  exact ⟨(v425), by first | rfl | (simp [errW_none, errW_some] <;> rfl) | (simp [*, errW_none, errW_some] <;> rfl), by (with_reducible repeat (first | apply Kd.Q_alloc | apply Kd.Q_drewN | apply Kd.Q_drew)); exact HO426.out, by (with_reducible repeat (first | refine kN ?_ _ | refine kD ?_ | refine kA ?_ _)); exact BK0.out, by repeat (first | (with_reducible first | exact HB.out | apply kL | apply kM | apply kE | refine kS ?_ GE0.out) | exact HB.out), by repeat (first | (with_reducible first | exact HK.out | apply Kept.alloc | apply Kept.drewN | apply Kept.drew | refine Kept.setCell ?_ (.inl (.inr rfl)) _ | refine Kept.setCell ?_ (.inr GW0.out) _) | exact HK.out)⟩

end Go.Proofs.Ytlihgjonmliodaa.PA
