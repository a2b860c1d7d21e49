-- printed by this workplace: wip/patchprint.py over the kit's print
import Derived.Test.YtbjelaocihjhgaaPAx0
import Derived.Test.YtbjelaocihjhgaaPAx9
namespace Go.Proofs.Ytbjelaocihjhgaa.PA
open Go.RowKit Go.Proofs.YtbjelaocihjhgaaW.PrintWords Go.Proofs.YtbjelaocihjhgaaW.PrintLast Go.Proofs.YtbjelaocihjhgaaW.PrintMore
attribute [local go_sem] max2_int min2_int max_two min_two max_three min_three max_four min_four   -- for this text's walks alone
set_option linter.unusedVariables false
set_option linter.unusedSimpArgs false

/-! ### paybooklaw09_awake: function 11 -/
def paybooklaw09_awake.f (k : Nat)  : Option (Bool) := (plan_Change.f k 300 0 0 0 false false 900 0 0 0 false false 10 30).bind fun bt116 => (if bt116.1 = 100 then (if bt116.2.1 = 300 then (some (bt116.2.2 == 0)) else (some false)) else (some false))
theorem paybooklaw09_awake.mono : ∀ k, LeO (paybooklaw09_awake.f k ) (paybooklaw09_awake.f (k + 1) ) := by
 intro  k
 unfold paybooklaw09_awake.f
 repeat' first
   | (with_reducible exact plan_Change.mono _ _ _ _ _ _ _ _ _ _ _ _ _ _ _)
   | (with_reducible exact LeO.refl _)
   | (with_reducible exact LeO.none _)
   | (with_reducible refine LeO.ite ?_ ?_)
   | (with_reducible refine LeO.bind ?_ (fun _ => ?_))
   | exact plan_Change.mono _ _ _ _ _ _ _ _ _ _ _ _ _ _ _
   | exact LeO.none _
   | refine LeO.ite ?_ ?_
   | refine LeO.bind ?_ (fun _ => ?_)
set_option maxHeartbeats 40000000 in
set_option maxRecDepth 100000 in
theorem paybooklaw09_awake.calls (k : Nat)  (r : Bool) (w : World) (h : paybooklaw09_awake.f k  = some r) :
  Calls Try.prog 11 #[] w fun e w' => e = .returned (.bool r) ∧ Below w.heap.size w w' := by
 have hu23 := Try.underlying23
 have HB := Aside0.mk (Below.refl w.heap.size w)
 have H : ((plan_Change.f k 300 0 0 0 false false 900 0 0 0 false false 10 30).bind fun bt116 => (if bt116.1 = 100 then (if bt116.2.1 = 300 then (some (bt116.2.2 == 0)) else (some false)) else (some false))) = some r := h
 clear h
 replace H := Option.bind_eq_some_iff.mp H
 obtain ⟨⟨t116, t117, t118⟩, A10, H⟩ := H
 replace H : (if t116 = 100 then (if t117 = 300 then (some (t118 == 0)) else (some false)) else (some false)) = some r := H
 have A1 := Aside0.mk A10
 clear A10
 by_cases c2 : t116 = 100
 ·rw [if_pos c2] at H
  have c2b0 : (t116 == 100) = true := beq_iff_eq.mpr c2
  have c2b1 : (t116 != 100) = false := bne_eq_false_iff_eq.mpr c2
  clear c2
  by_cases c3 : t117 = 300
  ·rw [if_pos c3] at H
   have c3b0 : (t117 == 300) = true := beq_iff_eq.mpr c3
   have c3b1 : (t117 != 300) = false := bne_eq_false_iff_eq.mpr c3
   clear c3
   obtain rfl := Option.some.inj H
   go_enter Try.func11, Try.ntmps11
   go_wp2_with (first | ((with_reducible refine gate_callee (f := 9) rfl ?_); refine goesL_ (some 7) rfl rfl Try.func9 (by kernel_rfl) rfl #[.agg #[.int .i64 300, .int .u8 0, .int .i64 0, .int .i64 0, .bool false, .bool false], .agg #[.int .i64 900, .int .u8 0, .int .i64 0, .int .i64 0, .bool false, .bool false], .int .i64 10, .int .i64 30] rfl (by (try simp only [List.map_toArray, List.map_cons, List.map_nil]); first | done | rfl | (simp only [List.length_drop, List.length_take]; rfl)) ?_; (with_reducible refine (plan_Change.calls k 300 0 0 0 false false 900 0 0 0 false false 10 30 t116 t117 t118 _ A1.out).mono ?_); rintro e w4 ⟨rfl, hb⟩; refine ⟨_, rfl, ?_⟩; have n0_ := Aside0.mk (below_step (by repeat (first | (with_reducible first | exact HB.out | apply kL | apply kM | apply kE) | exact HB.out)) hb); clear HB; have HB := n0_; clear n0_; (try clear hb); (try clear hb2); (try clear hk); (try clear hi)))
   go_ret
   exact ⟨by first | rfl | (simp [errW_none, errW_some] <;> rfl) | (simp [*, errW_none, errW_some] <;> rfl), by repeat (first | (with_reducible first | exact HB.out | apply kL | apply kM | apply kE) | exact HB.out)⟩
  ·rw [if_neg c3] at H
   have c3b0 : (t117 == 300) = false := beq_eq_false_iff_ne.mpr c3
   have c3b1 : (t117 != 300) = true := bne_iff_ne.mpr c3
   obtain rfl := Option.some.inj H
   go_enter Try.func11, Try.ntmps11
   go_wp2_with (first | ((with_reducible refine gate_callee (f := 9) rfl ?_); refine goesL_ (some 7) rfl rfl Try.func9 (by kernel_rfl) rfl #[.agg #[.int .i64 300, .int .u8 0, .int .i64 0, .int .i64 0, .bool false, .bool false], .agg #[.int .i64 900, .int .u8 0, .int .i64 0, .int .i64 0, .bool false, .bool false], .int .i64 10, .int .i64 30] rfl (by (try simp only [List.map_toArray, List.map_cons, List.map_nil]); first | done | rfl | (simp only [List.length_drop, List.length_take]; rfl)) ?_; (with_reducible refine (plan_Change.calls k 300 0 0 0 false false 900 0 0 0 false false 10 30 t116 t117 t118 _ A1.out).mono ?_); rintro e w5 ⟨rfl, hb⟩; refine ⟨_, rfl, ?_⟩; have n0_ := Aside0.mk (below_step (by repeat (first | (with_reducible first | exact HB.out | apply kL | apply kM | apply kE) | exact HB.out)) hb); clear HB; have HB := n0_; clear n0_; (try clear hb); (try clear hb2); (try clear hk); (try clear hi)))
   go_ret
   exact ⟨by first | rfl | (simp [errW_none, errW_some] <;> rfl) | (simp [*, errW_none, errW_some] <;> rfl), by repeat (first | (with_reducible first | exact HB.out | apply kL | apply kM | apply kE) | exact HB.out)⟩
 ·rw [if_neg c2] at H
  have c2b0 : (t116 == 100) = false := beq_eq_false_iff_ne.mpr c2
  have c2b1 : (t116 != 100) = true := bne_iff_ne.mpr c2
  obtain rfl := Option.some.inj H
  go_enter Try.func11, Try.ntmps11
  go_wp2_with (first | ((with_reducible refine gate_callee (f := 9) rfl ?_); refine goesL_ (some 7) rfl rfl Try.func9 (by kernel_rfl) rfl #[.agg #[.int .i64 300, .int .u8 0, .int .i64 0, .int .i64 0, .bool false, .bool false], .agg #[.int .i64 900, .int .u8 0, .int .i64 0, .int .i64 0, .bool false, .bool false], .int .i64 10, .int .i64 30] rfl (by (try simp only [List.map_toArray, List.map_cons, List.map_nil]); first | done | rfl | (simp only [List.length_drop, List.length_take]; rfl)) ?_; (with_reducible refine (plan_Change.calls k 300 0 0 0 false false 900 0 0 0 false false 10 30 t116 t117 t118 _ A1.out).mono ?_); rintro e w6 ⟨rfl, hb⟩; refine ⟨_, rfl, ?_⟩; have n0_ := Aside0.mk (below_step (by repeat (first | (with_reducible first | exact HB.out | apply kL | apply kM | apply kE) | exact HB.out)) hb); clear HB; have HB := n0_; clear n0_; (try clear hb); (try clear hb2); (try clear hk); (try clear hi)))
  go_ret
  exact ⟨by first | rfl | (simp [errW_none, errW_some] <;> rfl) | (simp [*, errW_none, errW_some] <;> rfl), by repeat (first | (with_reducible first | exact HB.out | apply kL | apply kM | apply kE) | exact HB.out)⟩

end Go.Proofs.Ytbjelaocihjhgaa.PA
