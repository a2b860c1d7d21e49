-- printed by this workplace: wip/patchprint.py over the kit's print
import Derived.Test.YtbjelaocihjhgaaPAx0
import Derived.Test.YtbjelaocihjhgaaPAx2
import Derived.Test.YtbjelaocihjhgaaPAx10
import Derived.Test.YtbjelaocihjhgaaPAx12
import Derived.Test.YtbjelaocihjhgaaPAx13
namespace Go.Proofs.Ytbjelaocihjhgaa.PA
open Go.RowKit Go.Proofs.YtbjelaocihjhgaaW.PrintWords Go.Proofs.YtbjelaocihjhgaaW.PrintLast Go.Proofs.YtbjelaocihjhgaaW.PrintMore
attribute [local go_sem] max2_int min2_int max_two min_two max_three min_three max_four min_four   -- for this text's walks alone
set_option linter.unusedVariables false
set_option linter.unusedSimpArgs false

/-! ### paybooklaw09_PlanRights: function 5 -/
def paybooklaw09_PlanRights.f (k : Nat) (a0_0 : Int) (a0_1 : Int) (a0_2 : Int) (a0_3 : Int) (a0_4 : Bool) (a0_5 : Bool) : Option (Bool) := (paybooklaw09_awake.f k).bind fun t123 => (if t123 = true then ((plan_Right.f k a0_0 a0_1 a0_2 a0_3 a0_4 a0_5).bind fun t124 => ((paybooklaw09_right.f k a0_0 a0_1 a0_2 a0_3 a0_4 a0_5).bind fun t125 => (if t124 = t125 then ((paybooklaw09_near.f a0_0 a0_1 a0_2 a0_3 a0_4 a0_5).bind fun bt126 => ((plan_Right.f k bt126.1 bt126.2.1 bt126.2.2.1 bt126.2.2.2.1 bt126.2.2.2.2.1 bt126.2.2.2.2.2).bind fun t132 => (some (t132 == 0)))) else (some false)))) else (some false))
theorem paybooklaw09_PlanRights.mono : ∀ a0 a1 a2 a3 a4 a5 k, LeO (paybooklaw09_PlanRights.f k a0 a1 a2 a3 a4 a5) (paybooklaw09_PlanRights.f (k + 1) a0 a1 a2 a3 a4 a5) := by
 intro a0 a1 a2 a3 a4 a5 k
 unfold paybooklaw09_PlanRights.f
 repeat' first
   | (with_reducible exact paybooklaw09_awake.mono _)
   | (with_reducible exact paybooklaw09_right.mono _ _ _ _ _ _ _)
   | (with_reducible exact plan_Right.mono _ _ _ _ _ _ _)
   | (with_reducible exact LeO.refl _)
   | (with_reducible exact LeO.none _)
   | (with_reducible refine LeO.ite ?_ ?_)
   | (with_reducible refine LeO.bind ?_ (fun _ => ?_))
   | exact paybooklaw09_awake.mono _
   | exact paybooklaw09_right.mono _ _ _ _ _ _ _
   | exact plan_Right.mono _ _ _ _ _ _ _
   | exact LeO.none _
   | refine LeO.ite ?_ ?_
   | refine LeO.bind ?_ (fun _ => ?_)
def paybooklaw09_PlanRights.T1 : Bool × List (List Nat × List Nat) := (true, [([], []), ([0, 0], [0]), ([1], [1]), ([2, 1, 1], [1, 2]), ([1], [1]), ([4, 3, 1], [1, 4]), ([3, 5, 1], [1, 3, 5]), ([1, 6], [1, 6]), ([7, 5], [7]), ([8], [8]), ([9, 8, 8], [8, 9]), ([10, 10, 8], [8, 10]), ([11, 8], [8, 11]), ([8, 12], [8, 12]), ([13, 11, 0, 1, 2, 3, 4, 5, 6, 7, 8, 9, 10, 11, 12, 13], [13])])
def paybooklaw09_PlanRights.B1 : List Nat := [0, 1, 3, 7, 3, 31, 63, 127, 255, 511, 1023, 2047, 4095, 8191, 16383]
theorem paybooklaw09_PlanRights.tab1 : rtab .any (opsOf Try.f5 1) = paybooklaw09_PlanRights.T1 := by kernel_rfl
theorem paybooklaw09_PlanRights.bits1 : waitsOk paybooklaw09_PlanRights.T1.2 paybooklaw09_PlanRights.B1 = true := by kernel_rfl
set_option maxHeartbeats 40000000 in
set_option maxRecDepth 100000 in
theorem paybooklaw09_PlanRights.calls (k : Nat) (a0_0 : Int) (a0_1 : Int) (a0_2 : Int) (a0_3 : Int) (a0_4 : Bool) (a0_5 : Bool) (w : World) (h : paybooklaw09_PlanRights.f k a0_0 a0_1 a0_2 a0_3 a0_4 a0_5 = some true) :
  Calls Try.prog 5 #[.agg #[.int .i64 a0_0, .int .u8 a0_1, .int .i64 a0_2, .int .i64 a0_3, .bool a0_4, .bool a0_5]] w fun e w' => e = .returned (.bool true) ∧ Below w.heap.size w w' := by
 have hu23 := Try.underlying23
 have HB := Aside0.mk (Below.refl w.heap.size w)
 have H : ((paybooklaw09_awake.f k).bind fun t123 => (if t123 = true then ((plan_Right.f k a0_0 a0_1 a0_2 a0_3 a0_4 a0_5).bind fun t124 => ((paybooklaw09_right.f k a0_0 a0_1 a0_2 a0_3 a0_4 a0_5).bind fun t125 => (if t124 = t125 then ((paybooklaw09_near.f a0_0 a0_1 a0_2 a0_3 a0_4 a0_5).bind fun bt126 => ((plan_Right.f k bt126.1 bt126.2.1 bt126.2.2.1 bt126.2.2.2.1 bt126.2.2.2.2.1 bt126.2.2.2.2.2).bind fun t132 => (some (t132 == 0)))) else (some false)))) else (some false))) = some true := h
 clear h
 replace H := Option.bind_eq_some_iff.mp H
 obtain ⟨t123, A20, H⟩ := H
 replace H : (if t123 = true then ((plan_Right.f k a0_0 a0_1 a0_2 a0_3 a0_4 a0_5).bind fun t124 => ((paybooklaw09_right.f k a0_0 a0_1 a0_2 a0_3 a0_4 a0_5).bind fun t125 => (if t124 = t125 then ((paybooklaw09_near.f a0_0 a0_1 a0_2 a0_3 a0_4 a0_5).bind fun bt126 => ((plan_Right.f k bt126.1 bt126.2.1 bt126.2.2.1 bt126.2.2.2.1 bt126.2.2.2.2.1 bt126.2.2.2.2.2).bind fun t132 => (some (t132 == 0)))) else (some false)))) else (some false)) = some true := H
 have A2 := Aside0.mk A20
 clear A20
 by_cases c3 : t123 = true
 ·subst c3
  have H1 : ((plan_Right.f k a0_0 a0_1 a0_2 a0_3 a0_4 a0_5).bind fun t124 => ((paybooklaw09_right.f k a0_0 a0_1 a0_2 a0_3 a0_4 a0_5).bind fun t125 => (if t124 = t125 then ((paybooklaw09_near.f a0_0 a0_1 a0_2 a0_3 a0_4 a0_5).bind fun bt126 => ((plan_Right.f k bt126.1 bt126.2.1 bt126.2.2.1 bt126.2.2.2.1 bt126.2.2.2.2.1 bt126.2.2.2.2.2).bind fun t132 => (some (t132 == 0)))) else (some false)))) = some true := by rw [if_pos rfl] at H; try exact H
  clear H
  have H := H1
  clear H1
  replace H := Option.bind_eq_some_iff.mp H
  obtain ⟨t124, A40, H⟩ := H
  replace H : ((paybooklaw09_right.f k a0_0 a0_1 a0_2 a0_3 a0_4 a0_5).bind fun t125 => (if t124 = t125 then ((paybooklaw09_near.f a0_0 a0_1 a0_2 a0_3 a0_4 a0_5).bind fun bt126 => ((plan_Right.f k bt126.1 bt126.2.1 bt126.2.2.1 bt126.2.2.2.1 bt126.2.2.2.2.1 bt126.2.2.2.2.2).bind fun t132 => (some (t132 == 0)))) else (some false))) = some true := H
  have A4 := Aside0.mk A40
  clear A40
  replace H := Option.bind_eq_some_iff.mp H
  obtain ⟨t125, A50, H⟩ := H
  replace H : (if t124 = t125 then ((paybooklaw09_near.f a0_0 a0_1 a0_2 a0_3 a0_4 a0_5).bind fun bt126 => ((plan_Right.f k bt126.1 bt126.2.1 bt126.2.2.1 bt126.2.2.2.1 bt126.2.2.2.2.1 bt126.2.2.2.2.2).bind fun t132 => (some (t132 == 0)))) else (some false)) = some true := H
  have A5 := Aside0.mk A50
  clear A50
  by_cases c6 : t124 = t125
  ·rw [if_pos c6] at H
   have c6b0 : (t124 == t125) = true := beq_iff_eq.mpr c6
   have c6b1 : (t124 != t125) = false := bne_eq_false_iff_eq.mpr c6
   clear c6
   replace H := Option.bind_eq_some_iff.mp H
   obtain ⟨⟨t126, t127, t128, t129, t130, t131⟩, A70, H⟩ := H
   replace H : ((plan_Right.f k t126 t127 t128 t129 t130 t131).bind fun t132 => (some (t132 == 0))) = some true := H
   have A7 := Aside0.mk A70
   clear A70
   replace H := Option.bind_eq_some_iff.mp H
   obtain ⟨t132, A80, H⟩ := H
   replace H : (some (t132 == 0)) = some true := H
   have A8 := Aside0.mk A80
   clear A80
   have HT_ := Option.some.inj H
   clear H
   (try (have HT_z_ := HT_; simp only [beq_true, beq_false, true_beq, false_beq, Bool.not_eq_true', Bool.not_eq_false', Bool.not_true, Bool.not_false] at HT_z_))
   go_enter Try.func5, Try.ntmps5
   try go_wp2_with (first | ((with_reducible refine gate_dst (N := 1) rfl ?_); refine box_event ?hg (N := 1) ?hd (cs := #[.int .i64 a0_0, .int .u8 a0_1, .int .i64 a0_2, .int .i64 a0_3, .bool a0_4, .bool a0_5]) (t := 23) ?hr ?_; (case hd => rfl); (case hg => rfl); (case hr => first | (go_simp; done) | (go_simp; rfl)); intro gb122 hg w9 hbox hb; have n0_ := Aside0.mk (below_step (by repeat (first | (with_reducible first | exact HB.out | apply kL | apply kM | apply kE) | exact HB.out)) hb); have n1_ := Aside0.mk (hbox); have n2_ := Aside0.mk ((by rw [hg]; exact (below_size (by repeat (first | (with_reducible first | exact HB.out | apply kL | apply kM | apply kE) | exact HB.out))) : w.heap.size ≤ gb122)); have n3_ := Aside0.mk ((by rw [hg]; exact (below_size (by repeat (first | (with_reducible first | exact HB.out | apply kL | apply kM | apply kE) | exact HB.out))) : w.heap.size ≤ gb122)); clear HB; have HB := n0_; have BK122 := n1_; have GW122 := n2_; have GE122 := n3_; clear n0_ n1_ n2_ n3_; clear hb hbox hg))
   have n0_ := Aside0.mk (kD BK122.out)
   have n1_ := Aside0.mk (kE HB.out)
   clear BK122
   clear HB
   have BK122 := n0_
   have HB := n1_
   clear n0_ n1_
   refine start_ (n := 15) (S := fun w' => w'.cell? ⟨gb122, 0, none⟩ = some (.int .i64 a0_0) ∧ w'.cell? ⟨gb122, 1, none⟩ = some (.int .u8 a0_1) ∧ w'.cell? ⟨gb122, 2, none⟩ = some (.int .i64 a0_2) ∧ w'.cell? ⟨gb122, 3, none⟩ = some (.int .i64 a0_3) ∧ w'.cell? ⟨gb122, 4, none⟩ = some (.bool a0_4) ∧ w'.cell? ⟨gb122, 5, none⟩ = some (.bool a0_5)) (ds := []) #[F,F,F,F,F,F,F,F,F,F,F,F,F,F,F] (by kernel_rfl) rfl rfl ⟨(kC BK122.out 0).trans rfl, (kC BK122.out 1).trans rfl, (kC BK122.out 2).trans rfl, (kC BK122.out 3).trans rfl, (kC BK122.out 4).trans rfl, (kC BK122.out 5).trans rfl⟩ (fun hHeld => ?_); refine with_tabW paybooklaw09_PlanRights.tab1 paybooklaw09_PlanRights.bits1 (fun HT_ HW_ => ?_)
   generalize w9.drew = w10 at BK122 HB hHeld ⊢
   refine one_ (i := 0) (N := some 3) #[T,F,F,F,F,F,F,F,F,F,F,F,F,F,F] rfl rfl (one_of HT_.out (by kernel_rfl)) (by decide) (fun K hK => ?_)
   refine goes_ Try.func11 (by kernel_rfl) rfl #[] (by rfl) rfl rfl (by (try simp only [List.map_toArray, List.map_cons, List.map_nil]); first | done | rfl | (simp only [List.length_drop, List.length_take]; rfl)) ?_
   with_reducible refine (paybooklaw09_awake.calls k  true _ A2.out).mono ?_
   rintro e w11 ⟨rfl, hb⟩
   refine ⟨_, rfl, ?_⟩
   have n0_ := Aside0.mk (blk_below (g := gb122) (o := .cells #[.int .i64 a0_0, .int .u8 a0_1, .int .i64 a0_2, .int .i64 a0_3, .bool a0_4, .bool a0_5] 23 (0, 0)) (by (with_reducible repeat (first | refine kN ?_ _ | refine kD ?_ | refine kA ?_ _)); exact BK122.out) hb)
   have n1_ := Aside0.mk (below_step (by repeat (first | (with_reducible first | exact HB.out | apply kL | apply kM | apply kE | refine kS ?_ GE122.out) | exact HB.out)) hb)
   clear BK122
   clear HB
   have BK122 := n0_
   have HB := n1_
   clear n0_ n1_
   (try clear hb)
   (try clear hb2)
   (try clear hk)
   (try clear hi)
   refine hK.out _ _ ⟨(kC BK122.out 0).trans rfl, (kC BK122.out 1).trans rfl, (kC BK122.out 2).trans rfl, (kC BK122.out 3).trans rfl, (kC BK122.out 4).trans rfl, (kC BK122.out 5).trans rfl⟩ (fun hHeld => ?_)
   clear hK K
   refine norm_ (a' := ?_) ?_ ?_
   rotate_left
   ·show Act.put _ (some 3) _ = _
    simp only [Act.put, List.setIfInBounds_toArray, List.set_cons_zero, List.set_cons_succ, i64_w, i32_w]
    rfl
   refine pure_ (i := 1) (N := some 4) (v := ?_) (a' := ?_) #[T,T,F,F,F,F,F,F,F,F,F,F,F,F,F] rfl rfl (any_of HT_.out (by kernel_rfl)) (fun _ _ _ h => h) (Or.inl ⟨by rfl, ?_⟩) ?_ ?_
   rotate_left
   ·intro w'
    go_simp
    with_reducible rfl
   rotate_left
   ·simp only [Act.put, List.setIfInBounds_toArray, List.set_cons_zero, List.set_cons_succ, i64_w, i32_w]
    rfl
   refine take_ (i := 2) (N := some 5) (v := ?_) (a' := ?_) #[T,T,T,F,F,F,F,F,F,F,F,F,F,F,F] rfl rfl (take_ofW HT_.out HW_.out (by kernel_rfl)) (fun _ _ _ h => h) (Or.inl ⟨by rfl, ?_⟩) hHeld ?_ ?_
   rotate_left
   ·rintro w' ⟨s0, s1, s2, s3, s4, s5⟩
    go_simp
    with_reducible rfl
   rotate_left
   ·simp only [Act.put, List.setIfInBounds_toArray, List.set_cons_zero, List.set_cons_succ, i64_w, i32_w]
    rfl
   refine take_ (i := 4) (N := some 7) (v := ?_) (a' := ?_) #[T,T,T,F,T,F,F,F,F,F,F,F,F,F,F] rfl rfl (take_ofW HT_.out HW_.out (by kernel_rfl)) (fun _ _ _ h => h) (Or.inl ⟨by rfl, ?_⟩) hHeld ?_ ?_
   rotate_left
   ·rintro w' ⟨s0, s1, s2, s3, s4, s5⟩
    go_simp
    with_reducible rfl
   rotate_left
   ·simp only [Act.put, List.setIfInBounds_toArray, List.set_cons_zero, List.set_cons_succ, i64_w, i32_w]
    rfl
   refine one_ (i := 3) (N := some 6) #[T,T,T,T,T,F,F,F,F,F,F,F,F,F,F] rfl rfl (one_of HT_.out (by kernel_rfl)) (by decide) (fun K hK => ?_)
   refine goes_ Try.func12 (by kernel_rfl) rfl #[.agg #[.int .i64 a0_0, .int .u8 a0_1, .int .i64 a0_2, .int .i64 a0_3, .bool a0_4, .bool a0_5]] (by rfl) rfl rfl (by (try simp only [List.map_toArray, List.map_cons, List.map_nil]); first | done | rfl | (simp only [List.length_drop, List.length_take]; rfl)) ?_
   with_reducible refine (plan_Right.calls k a0_0 a0_1 a0_2 a0_3 a0_4 a0_5 t124 _ A4.out).mono ?_
   rintro e w12 ⟨rfl, hb⟩
   refine ⟨_, rfl, ?_⟩
   have n0_ := Aside0.mk (blk_below (g := gb122) (o := .cells #[.int .i64 a0_0, .int .u8 a0_1, .int .i64 a0_2, .int .i64 a0_3, .bool a0_4, .bool a0_5] 23 (0, 0)) (by (with_reducible repeat (first | refine kN ?_ _ | refine kD ?_ | refine kA ?_ _)); exact BK122.out) hb)
   have n1_ := Aside0.mk (below_step (by repeat (first | (with_reducible first | exact HB.out | apply kL | apply kM | apply kE | refine kS ?_ GE122.out) | exact HB.out)) hb)
   clear BK122
   clear HB
   have BK122 := n0_
   have HB := n1_
   clear n0_ n1_
   (try clear hb)
   (try clear hb2)
   (try clear hk)
   (try clear hi)
   refine hK.out _ _ ⟨(kC BK122.out 0).trans rfl, (kC BK122.out 1).trans rfl, (kC BK122.out 2).trans rfl, (kC BK122.out 3).trans rfl, (kC BK122.out 4).trans rfl, (kC BK122.out 5).trans rfl⟩ (fun hHeld => ?_)
   clear hK K
   refine norm_ (a' := ?_) ?_ ?_
   rotate_left
   ·show Act.put _ (some 6) _ = _
    simp only [Act.put, List.setIfInBounds_toArray, List.set_cons_zero, List.set_cons_succ, i64_w, i32_w]
    rfl
   refine one_ (i := 5) (N := some 8) #[T,T,T,T,T,T,F,F,F,F,F,F,F,F,F] rfl rfl (one_of HT_.out (by kernel_rfl)) (by decide) (fun K hK => ?_)
   refine goes_ Try.func13 (by kernel_rfl) rfl #[.agg #[.int .i64 a0_0, .int .u8 a0_1, .int .i64 a0_2, .int .i64 a0_3, .bool a0_4, .bool a0_5]] (by rfl) rfl rfl (by (try simp only [List.map_toArray, List.map_cons, List.map_nil]); first | done | rfl | (simp only [List.length_drop, List.length_take]; rfl)) ?_
   with_reducible refine (paybooklaw09_right.calls k a0_0 a0_1 a0_2 a0_3 a0_4 a0_5 t125 _ A5.out).mono ?_
   rintro e w13 ⟨rfl, hb⟩
   refine ⟨_, rfl, ?_⟩
   have n0_ := Aside0.mk (blk_below (g := gb122) (o := .cells #[.int .i64 a0_0, .int .u8 a0_1, .int .i64 a0_2, .int .i64 a0_3, .bool a0_4, .bool a0_5] 23 (0, 0)) (by (with_reducible repeat (first | refine kN ?_ _ | refine kD ?_ | refine kA ?_ _)); exact BK122.out) hb)
   have n1_ := Aside0.mk (below_step (by repeat (first | (with_reducible first | exact HB.out | apply kL | apply kM | apply kE | refine kS ?_ GE122.out) | exact HB.out)) hb)
   clear BK122
   clear HB
   have BK122 := n0_
   have HB := n1_
   clear n0_ n1_
   (try clear hb)
   (try clear hb2)
   (try clear hk)
   (try clear hi)
   refine hK.out _ _ ⟨(kC BK122.out 0).trans rfl, (kC BK122.out 1).trans rfl, (kC BK122.out 2).trans rfl, (kC BK122.out 3).trans rfl, (kC BK122.out 4).trans rfl, (kC BK122.out 5).trans rfl⟩ (fun hHeld => ?_)
   clear hK K
   refine norm_ (a' := ?_) ?_ ?_
   rotate_left
   ·show Act.put _ (some 8) _ = _
    simp only [Act.put, List.setIfInBounds_toArray, List.set_cons_zero, List.set_cons_succ, i64_w, i32_w]
    rfl
   refine pure_ (i := 6) (N := some 9) (v := ?_) (a' := ?_) #[T,T,T,T,T,T,T,F,F,F,F,F,F,F,F] rfl rfl (any_of HT_.out (by kernel_rfl)) (fun _ _ _ h => h) (Or.inl ⟨by rfl, ?_⟩) ?_ ?_
   rotate_left
   ·intro w'
    go_simp
    with_reducible rfl
   rotate_left
   ·simp only [Act.put, List.setIfInBounds_toArray, List.set_cons_zero, List.set_cons_succ, i64_w, i32_w]
    rfl
   refine pure_ (i := 7) (N := some 10) (v := ?_) (a' := ?_) #[T,T,T,T,T,T,T,T,F,F,F,F,F,F,F] rfl rfl (any_of HT_.out (by kernel_rfl)) (fun _ _ _ h => h) (Or.inl ⟨by rfl, ?_⟩) ?_ ?_
   rotate_left
   ·intro w'
    go_simp
    with_reducible rfl
   rotate_left
   ·simp only [Act.put, List.setIfInBounds_toArray, List.set_cons_zero, List.set_cons_succ, i64_w, i32_w]
    rfl
   refine pure_ (i := 8) (N := some 11) (v := ?_) (a' := ?_) #[T,T,T,T,T,T,T,T,T,F,F,F,F,F,F] rfl rfl (any_of HT_.out (by kernel_rfl)) (fun _ _ _ h => h) (Or.inl ⟨by rfl, ?_⟩) ?_ ?_
   rotate_left
   ·intro w'
    go_simp
    with_reducible rfl
   rotate_left
   ·simp only [Act.put, List.setIfInBounds_toArray, List.set_cons_zero, List.set_cons_succ, i64_w, i32_w]
    rfl
   refine take_ (i := 9) (N := some 12) (v := ?_) (a' := ?_) #[T,T,T,T,T,T,T,T,T,T,F,F,F,F,F] rfl rfl (take_ofW HT_.out HW_.out (by kernel_rfl)) (fun _ _ _ h => h) (Or.inl ⟨by rfl, ?_⟩) hHeld ?_ ?_
   rotate_left
   ·rintro w' ⟨s0, s1, s2, s3, s4, s5⟩
    go_simp
    with_reducible rfl
   rotate_left
   ·simp only [Act.put, List.setIfInBounds_toArray, List.set_cons_zero, List.set_cons_succ, i64_w, i32_w]
    rfl
   refine one_ (i := 10) (N := some 13) #[T,T,T,T,T,T,T,T,T,T,T,F,F,F,F] rfl rfl (one_of HT_.out (by kernel_rfl)) (by decide) (fun K hK => ?_)
   refine goes_ Try.func8 (by kernel_rfl) rfl #[.agg #[.int .i64 a0_0, .int .u8 a0_1, .int .i64 a0_2, .int .i64 a0_3, .bool a0_4, .bool a0_5]] (by rfl) rfl rfl (by (try simp only [List.map_toArray, List.map_cons, List.map_nil]); first | done | rfl | (simp only [List.length_drop, List.length_take]; rfl)) ?_
   with_reducible refine (paybooklaw09_near.calls a0_0 a0_1 a0_2 a0_3 a0_4 a0_5 t126 t127 t128 t129 t130 t131 _ A7.out).mono ?_
   rintro e w14 ⟨rfl, hb⟩
   refine ⟨_, rfl, ?_⟩
   have n0_ := Aside0.mk (blk_below (g := gb122) (o := .cells #[.int .i64 a0_0, .int .u8 a0_1, .int .i64 a0_2, .int .i64 a0_3, .bool a0_4, .bool a0_5] 23 (0, 0)) (by (with_reducible repeat (first | refine kN ?_ _ | refine kD ?_ | refine kA ?_ _)); exact BK122.out) hb)
   have n1_ := Aside0.mk (below_step (by repeat (first | (with_reducible first | exact HB.out | apply kL | apply kM | apply kE | refine kS ?_ GE122.out) | exact HB.out)) hb)
   clear BK122
   clear HB
   have BK122 := n0_
   have HB := n1_
   clear n0_ n1_
   (try clear hb)
   (try clear hb2)
   (try clear hk)
   (try clear hi)
   refine hK.out _ _ ⟨(kC BK122.out 0).trans rfl, (kC BK122.out 1).trans rfl, (kC BK122.out 2).trans rfl, (kC BK122.out 3).trans rfl, (kC BK122.out 4).trans rfl, (kC BK122.out 5).trans rfl⟩ (fun hHeld => ?_)
   clear hK K
   refine norm_ (a' := ?_) ?_ ?_
   rotate_left
   ·show Act.put _ (some 13) _ = _
    simp only [Act.put, List.setIfInBounds_toArray, List.set_cons_zero, List.set_cons_succ, i64_w, i32_w]
    rfl
   refine one_ (i := 11) (N := some 14) #[T,T,T,T,T,T,T,T,T,T,T,T,F,F,F] rfl rfl (one_of HT_.out (by kernel_rfl)) (by decide) (fun K hK => ?_)
   refine goes_ Try.func12 (by kernel_rfl) rfl #[.agg #[.int .i64 t126, .int .u8 t127, .int .i64 t128, .int .i64 t129, .bool t130, .bool t131]] (by rfl) rfl rfl (by (try simp only [List.map_toArray, List.map_cons, List.map_nil]); first | done | rfl | (simp only [List.length_drop, List.length_take]; rfl)) ?_
   with_reducible refine (plan_Right.calls k t126 t127 t128 t129 t130 t131 t132 _ A8.out).mono ?_
   rintro e w15 ⟨rfl, hb⟩
   refine ⟨_, rfl, ?_⟩
   have n0_ := Aside0.mk (blk_below (g := gb122) (o := .cells #[.int .i64 a0_0, .int .u8 a0_1, .int .i64 a0_2, .int .i64 a0_3, .bool a0_4, .bool a0_5] 23 (0, 0)) (by (with_reducible repeat (first | refine kN ?_ _ | refine kD ?_ | refine kA ?_ _)); exact BK122.out) hb)
   have n1_ := Aside0.mk (below_step (by repeat (first | (with_reducible first | exact HB.out | apply kL | apply kM | apply kE | refine kS ?_ GE122.out) | exact HB.out)) hb)
   clear BK122
   clear HB
   have BK122 := n0_
   have HB := n1_
   clear n0_ n1_
   (try clear hb)
   (try clear hb2)
   (try clear hk)
   (try clear hi)
   refine hK.out _ _ ⟨(kC BK122.out 0).trans rfl, (kC BK122.out 1).trans rfl, (kC BK122.out 2).trans rfl, (kC BK122.out 3).trans rfl, (kC BK122.out 4).trans rfl, (kC BK122.out 5).trans rfl⟩ (fun hHeld => ?_)
   clear hK K
   refine norm_ (a' := ?_) ?_ ?_
   rotate_left
   ·show Act.put _ (some 14) _ = _
    simp only [Act.put, List.setIfInBounds_toArray, List.set_cons_zero, List.set_cons_succ, i64_w, i32_w]
    rfl
   refine pure_ (i := 12) (N := some 15) (v := ?_) (a' := ?_) #[T,T,T,T,T,T,T,T,T,T,T,T,T,F,F] rfl rfl (any_of HT_.out (by kernel_rfl)) (fun _ _ _ h => h) (Or.inl ⟨by rfl, ?_⟩) ?_ ?_
   rotate_left
   ·intro w'
    go_simp
    with_reducible rfl
   rotate_left
   ·simp only [Act.put, List.setIfInBounds_toArray, List.set_cons_zero, List.set_cons_succ, i64_w, i32_w]
    rfl
   refine pure_ (i := 13) (N := some 16) (v := ?_) (a' := ?_) #[T,T,T,T,T,T,T,T,T,T,T,T,T,T,F] rfl rfl (any_of HT_.out (by kernel_rfl)) (fun _ _ _ h => h) (Or.inl ⟨by rfl, ?_⟩) ?_ ?_
   rotate_left
   ·intro w'
    go_simp
    with_reducible rfl
   rotate_left
   ·simp only [Act.put, List.setIfInBounds_toArray, List.set_cons_zero, List.set_cons_succ, i64_w, i32_w]
    rfl
   refine pure_ (i := 14) (N := some 2) (v := ?_) (a' := ?_) #[T,T,T,T,T,T,T,T,T,T,T,T,T,T,T] rfl rfl (any_of HT_.out (by kernel_rfl)) (fun _ _ _ h => h) (Or.inl ⟨by rfl, ?_⟩) ?_ ?_
   rotate_left
   ·intro w'
    go_simp
    with_reducible rfl
   rotate_left
   ·simp only [Act.put, List.setIfInBounds_toArray, List.set_cons_zero, List.set_cons_succ, i64_w, i32_w]
    rfl
   refine done_ (done_of HT_.out (by kernel_rfl)) ?_
   try go_wp2
   go_ret
   exact ⟨by first | rfl | (simp [errW_none, errW_some] <;> rfl) | (simp [*, errW_none, errW_some] <;> rfl), by repeat (first | (with_reducible first | exact HB.out | apply kL | apply kM | apply kE | refine kS ?_ GE122.out) | exact HB.out)⟩
  ·rw [if_neg c6] at H
   have c6b0 : (t124 == t125) = false := beq_eq_false_iff_ne.mpr c6
   have c6b1 : (t124 != t125) = true := bne_iff_ne.mpr c6
   exact absurd H (by simp)
 ·replace c3 := Bool.eq_false_iff.mpr c3
  subst c3
  have H1 : (some false) = some true := by rw [if_neg (show ¬ (false = true) by decide)] at H; try exact H
  clear H
  have H := H1
  clear H1
  exact absurd H (by simp)

/-- THE ONE PURE STATEMENT of paybooklaw09_PlanRights: yours. -/
def paybooklaw09_PlanRights.Pure : Prop := ∀ (a0_0 : Int) (a0_1 : Int) (a0_2 : Int) (a0_3 : Int) (a0_4 : Bool) (a0_5 : Bool), (Lit.int .i64 a0_0).wf = true → (Lit.int .u8 a0_1).wf = true → (Lit.int .i64 a0_2).wf = true → (Lit.int .i64 a0_3).wf = true → ∃ k, paybooklaw09_PlanRights.f k a0_0 a0_1 a0_2 a0_3 a0_4 a0_5 = some true
theorem paybooklaw09_PlanRights.walk (P : paybooklaw09_PlanRights.Pure) (a0_0 : Int) (a0_1 : Int) (a0_2 : Int) (a0_3 : Int) (a0_4 : Bool) (a0_5 : Bool) (w : World) (w0_0 : (Lit.int .i64 a0_0).wf = true) (w0_1 : (Lit.int .u8 a0_1).wf = true) (w0_2 : (Lit.int .i64 a0_2).wf = true) (w0_3 : (Lit.int .i64 a0_3).wf = true) :
  Calls Try.prog 5 #[.agg #[.int .i64 a0_0, .int .u8 a0_1, .int .i64 a0_2, .int .i64 a0_3, .bool a0_4, .bool a0_5]] w fun e w' => e = .returned (.bool true) ∧ Below w.heap.size w w' := by
 obtain ⟨k, h⟩ := P a0_0 a0_1 a0_2 a0_3 a0_4 a0_5 w0_0 w0_1 w0_2 w0_3
 refine (paybooklaw09_PlanRights.calls k a0_0 a0_1 a0_2 a0_3 a0_4 a0_5 w h).mono ?_
 rintro e w' ⟨rfl, hd⟩
 exact ⟨rfl, hd⟩

end Go.Proofs.Ytbjelaocihjhgaa.PA
