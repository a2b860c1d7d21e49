-- printed by this workplace: wip/patchprint.py over the kit's print
import Derived.Test.YtbjelaocihjhgaaPAx0
import Derived.Test.YtbjelaocihjhgaaPAx2
import Derived.Test.YtbjelaocihjhgaaPAx6
import Derived.Test.YtbjelaocihjhgaaPAx7
namespace Go.Proofs.Ytbjelaocihjhgaa.PA
open Go.RowKit Go.Proofs.YtbjelaocihjhgaaW.PrintWords Go.Proofs.YtbjelaocihjhgaaW.PrintLast Go.Proofs.YtbjelaocihjhgaaW.PrintMore
attribute [local go_sem] max2_int min2_int max_two min_two max_three min_three max_four min_four   -- for this text's walks alone
set_option linter.unusedVariables false
set_option linter.unusedSimpArgs false

/-! ### paybooklaw09_PlanChanges: function 3 -/
def paybooklaw09_PlanChanges.j0 : Nat → Int → Int → Int → Int → Int → Int → Int → Bool → Int → Int → Int → Int → Bool → Bool → Int → Int → Int → Int → Bool → Bool → Option (Bool)
 | 0, _, _, _, _, _, _, _, _, _, _, _, _, _, _, _, _, _, _, _, _ => none
 | k + 1, x9, x10, x11, x12, x13, x14, x15, x50, x120000, x120001, x120002, x120003, x120004, x120005, x121000, x121001, x121002, x121003, x121004, x121005 => if x50 = true then ((paybooklaw09_awake.f k).bind fun t140 => (if t140 = true then (if x11 = x13 then (if x13 = x15 then (if x9 = 0 then (some (x10 == 0)) else (some false)) else (some false)) else (some false)) else (some false))) else ((paybooklaw09_awake.f k).bind fun t141 => (if t141 = true then (if x11 = 0 then (if x9 = x12 then (if x10 = x14 then (if x9 ≤ x120000 then (some (decide (x10 ≤ x121000))) else (some false)) else (some false)) else (some false)) else (some false)) else (some false)))
def paybooklaw09_PlanChanges.f (k : Nat) (a0_0 : Int) (a0_1 : Int) (a0_2 : Int) (a0_3 : Int) (a0_4 : Bool) (a0_5 : Bool) (a1_0 : Int) (a1_1 : Int) (a1_2 : Int) (a1_3 : Int) (a1_4 : Bool) (a1_5 : Bool) (a2 : Int) (a3 : Int) : Option (Bool) := (paybooklaw09_near.f a0_0 a0_1 a0_2 a0_3 a0_4 a0_5).bind fun bt121 => ((paybooklaw09_near.f a1_0 a1_1 a1_2 a1_3 a1_4 a1_5).bind fun bt127 => ((plan_Change.f k bt121.1 bt121.2.1 bt121.2.2.1 bt121.2.2.2.1 bt121.2.2.2.2.1 bt121.2.2.2.2.2 bt127.1 bt127.2.1 bt127.2.2.1 bt127.2.2.2.1 bt127.2.2.2.2.1 bt127.2.2.2.2.2 a2 a3).bind fun bt133 => ((purse_Part.f k bt121.1 a2 a3).bind fun bt136 => ((purse_Part.f k bt127.1 a2 a3).bind fun bt138 => (if bt136.2 = 0 then (paybooklaw09_PlanChanges.j0 k bt133.1 bt133.2.1 bt133.2.2 bt136.1 bt136.2 bt138.1 bt138.2 (bt138.2 != 0) bt121.1 bt121.2.1 bt121.2.2.1 bt121.2.2.2.1 bt121.2.2.2.2.1 bt121.2.2.2.2.2 bt127.1 bt127.2.1 bt127.2.2.1 bt127.2.2.2.1 bt127.2.2.2.2.1 bt127.2.2.2.2.2) else (paybooklaw09_PlanChanges.j0 k bt133.1 bt133.2.1 bt133.2.2 bt136.1 bt136.2 bt138.1 bt138.2 true bt121.1 bt121.2.1 bt121.2.2.1 bt121.2.2.2.1 bt121.2.2.2.2.1 bt121.2.2.2.2.2 bt127.1 bt127.2.1 bt127.2.2.1 bt127.2.2.2.1 bt127.2.2.2.2.1 bt127.2.2.2.2.2))))))
theorem paybooklaw09_PlanChanges.mono_l : ∀ k, (∀ y0 y1 y2 y3 y4 y5 y6 y7 y8 y9 y10 y11 y12 y13 y14 y15 y16 y17 y18 y19, LeO (paybooklaw09_PlanChanges.j0 k y0 y1 y2 y3 y4 y5 y6 y7 y8 y9 y10 y11 y12 y13 y14 y15 y16 y17 y18 y19) (paybooklaw09_PlanChanges.j0 (k + 1) y0 y1 y2 y3 y4 y5 y6 y7 y8 y9 y10 y11 y12 y13 y14 y15 y16 y17 y18 y19))
 | 0 => fun _ _ _ _ _ _ _ _ _ _ _ _ _ _ _ _ _ _ _ _ r h => by simp [paybooklaw09_PlanChanges.j0] at h
 | k + 1 => by
  have ih0 := paybooklaw09_PlanChanges.mono_l k
  ·intro y0 y1 y2 y3 y4 y5 y6 y7 y8 y9 y10 y11 y12 y13 y14 y15 y16 y17 y18 y19
   unfold paybooklaw09_PlanChanges.j0
   repeat' first
   | (with_reducible exact ih0 _ _ _ _ _ _ _ _ _ _ _ _ _ _ _ _ _ _ _ _)
   | (with_reducible exact paybooklaw09_awake.mono _)
   | (with_reducible exact plan_Change.mono _ _ _ _ _ _ _ _ _ _ _ _ _ _ _)
   | (with_reducible exact purse_Part.mono _ _ _ _)
   | (with_reducible exact LeO.refl _)
   | (with_reducible exact LeO.none _)
   | (with_reducible refine LeO.ite ?_ ?_)
   | (with_reducible refine LeO.bind ?_ (fun _ => ?_))
   | exact ih0 _ _ _ _ _ _ _ _ _ _ _ _ _ _ _ _ _ _ _ _
   | exact paybooklaw09_awake.mono _
   | exact plan_Change.mono _ _ _ _ _ _ _ _ _ _ _ _ _ _ _
   | exact purse_Part.mono _ _ _ _
   | exact LeO.none _
   | refine LeO.ite ?_ ?_
   | refine LeO.bind ?_ (fun _ => ?_)
theorem paybooklaw09_PlanChanges.mono : ∀ a0 a1 a2 a3 a4 a5 a6 a7 a8 a9 a10 a11 a12 a13 k, LeO (paybooklaw09_PlanChanges.f k a0 a1 a2 a3 a4 a5 a6 a7 a8 a9 a10 a11 a12 a13) (paybooklaw09_PlanChanges.f (k + 1) a0 a1 a2 a3 a4 a5 a6 a7 a8 a9 a10 a11 a12 a13) := by
 intro a0 a1 a2 a3 a4 a5 a6 a7 a8 a9 a10 a11 a12 a13 k
 have ih0 := paybooklaw09_PlanChanges.mono_l k
 unfold paybooklaw09_PlanChanges.f
 repeat' first
   | (with_reducible exact ih0 _ _ _ _ _ _ _ _ _ _ _ _ _ _ _ _ _ _ _ _)
   | (with_reducible exact paybooklaw09_awake.mono _)
   | (with_reducible exact plan_Change.mono _ _ _ _ _ _ _ _ _ _ _ _ _ _ _)
   | (with_reducible exact purse_Part.mono _ _ _ _)
   | (with_reducible exact LeO.refl _)
   | (with_reducible exact LeO.none _)
   | (with_reducible refine LeO.ite ?_ ?_)
   | (with_reducible refine LeO.bind ?_ (fun _ => ?_))
   | exact ih0 _ _ _ _ _ _ _ _ _ _ _ _ _ _ _ _ _ _ _ _
   | exact paybooklaw09_awake.mono _
   | exact plan_Change.mono _ _ _ _ _ _ _ _ _ _ _ _ _ _ _
   | exact purse_Part.mono _ _ _ _
   | exact LeO.none _
   | refine LeO.ite ?_ ?_
   | refine LeO.bind ?_ (fun _ => ?_)
set_option maxHeartbeats 40000000 in
set_option maxRecDepth 100000 in
theorem paybooklaw09_PlanChanges.calls (k : Nat) (a0_0 : Int) (a0_1 : Int) (a0_2 : Int) (a0_3 : Int) (a0_4 : Bool) (a0_5 : Bool) (a1_0 : Int) (a1_1 : Int) (a1_2 : Int) (a1_3 : Int) (a1_4 : Bool) (a1_5 : Bool) (a2 : Int) (a3 : Int) (w : World) (h : paybooklaw09_PlanChanges.f k a0_0 a0_1 a0_2 a0_3 a0_4 a0_5 a1_0 a1_1 a1_2 a1_3 a1_4 a1_5 a2 a3 = some true) :
  Calls Try.prog 3 #[.agg #[.int .i64 a0_0, .int .u8 a0_1, .int .i64 a0_2, .int .i64 a0_3, .bool a0_4, .bool a0_5], .agg #[.int .i64 a1_0, .int .u8 a1_1, .int .i64 a1_2, .int .i64 a1_3, .bool a1_4, .bool a1_5], .int .i64 a2, .int .i64 a3] w fun e w' => e = .returned (.bool true) ∧ Below w.heap.size w w' := by
 have hu23 := Try.underlying23
 have HB := Aside0.mk (Below.refl w.heap.size w)
 have H : ((paybooklaw09_near.f a0_0 a0_1 a0_2 a0_3 a0_4 a0_5).bind fun bt121 => ((paybooklaw09_near.f a1_0 a1_1 a1_2 a1_3 a1_4 a1_5).bind fun bt127 => ((plan_Change.f k bt121.1 bt121.2.1 bt121.2.2.1 bt121.2.2.2.1 bt121.2.2.2.2.1 bt121.2.2.2.2.2 bt127.1 bt127.2.1 bt127.2.2.1 bt127.2.2.2.1 bt127.2.2.2.2.1 bt127.2.2.2.2.2 a2 a3).bind fun bt133 => ((purse_Part.f k bt121.1 a2 a3).bind fun bt136 => ((purse_Part.f k bt127.1 a2 a3).bind fun bt138 => (if bt136.2 = 0 then (paybooklaw09_PlanChanges.j0 k bt133.1 bt133.2.1 bt133.2.2 bt136.1 bt136.2 bt138.1 bt138.2 (bt138.2 != 0) bt121.1 bt121.2.1 bt121.2.2.1 bt121.2.2.2.1 bt121.2.2.2.2.1 bt121.2.2.2.2.2 bt127.1 bt127.2.1 bt127.2.2.1 bt127.2.2.2.1 bt127.2.2.2.2.1 bt127.2.2.2.2.2) else (paybooklaw09_PlanChanges.j0 k bt133.1 bt133.2.1 bt133.2.2 bt136.1 bt136.2 bt138.1 bt138.2 true bt121.1 bt121.2.1 bt121.2.2.1 bt121.2.2.2.1 bt121.2.2.2.2.1 bt121.2.2.2.2.2 bt127.1 bt127.2.1 bt127.2.2.1 bt127.2.2.2.1 bt127.2.2.2.2.1 bt127.2.2.2.2.2))))))) = some true := h
 clear h
 replace H := Option.bind_eq_some_iff.mp H
 obtain ⟨⟨t121, t122, t123, t124, t125, t126⟩, A50, H⟩ := H
 replace H : ((paybooklaw09_near.f a1_0 a1_1 a1_2 a1_3 a1_4 a1_5).bind fun bt127 => ((plan_Change.f k t121 t122 t123 t124 t125 t126 bt127.1 bt127.2.1 bt127.2.2.1 bt127.2.2.2.1 bt127.2.2.2.2.1 bt127.2.2.2.2.2 a2 a3).bind fun bt133 => ((purse_Part.f k t121 a2 a3).bind fun bt136 => ((purse_Part.f k bt127.1 a2 a3).bind fun bt138 => (if bt136.2 = 0 then (paybooklaw09_PlanChanges.j0 k bt133.1 bt133.2.1 bt133.2.2 bt136.1 bt136.2 bt138.1 bt138.2 (bt138.2 != 0) t121 t122 t123 t124 t125 t126 bt127.1 bt127.2.1 bt127.2.2.1 bt127.2.2.2.1 bt127.2.2.2.2.1 bt127.2.2.2.2.2) else (paybooklaw09_PlanChanges.j0 k bt133.1 bt133.2.1 bt133.2.2 bt136.1 bt136.2 bt138.1 bt138.2 true t121 t122 t123 t124 t125 t126 bt127.1 bt127.2.1 bt127.2.2.1 bt127.2.2.2.1 bt127.2.2.2.2.1 bt127.2.2.2.2.2)))))) = some true := H
 have A5 := Aside0.mk A50
 clear A50
 replace H := Option.bind_eq_some_iff.mp H
 obtain ⟨⟨t127, t128, t129, t130, t131, t132⟩, A60, H⟩ := H
 replace H : ((plan_Change.f k t121 t122 t123 t124 t125 t126 t127 t128 t129 t130 t131 t132 a2 a3).bind fun bt133 => ((purse_Part.f k t121 a2 a3).bind fun bt136 => ((purse_Part.f k t127 a2 a3).bind fun bt138 => (if bt136.2 = 0 then (paybooklaw09_PlanChanges.j0 k bt133.1 bt133.2.1 bt133.2.2 bt136.1 bt136.2 bt138.1 bt138.2 (bt138.2 != 0) t121 t122 t123 t124 t125 t126 t127 t128 t129 t130 t131 t132) else (paybooklaw09_PlanChanges.j0 k bt133.1 bt133.2.1 bt133.2.2 bt136.1 bt136.2 bt138.1 bt138.2 true t121 t122 t123 t124 t125 t126 t127 t128 t129 t130 t131 t132))))) = some true := H
 have A6 := Aside0.mk A60
 clear A60
 replace H := Option.bind_eq_some_iff.mp H
 obtain ⟨⟨t133, t134, t135⟩, A70, H⟩ := H
 replace H : ((purse_Part.f k t121 a2 a3).bind fun bt136 => ((purse_Part.f k t127 a2 a3).bind fun bt138 => (if bt136.2 = 0 then (paybooklaw09_PlanChanges.j0 k t133 t134 t135 bt136.1 bt136.2 bt138.1 bt138.2 (bt138.2 != 0) t121 t122 t123 t124 t125 t126 t127 t128 t129 t130 t131 t132) else (paybooklaw09_PlanChanges.j0 k t133 t134 t135 bt136.1 bt136.2 bt138.1 bt138.2 true t121 t122 t123 t124 t125 t126 t127 t128 t129 t130 t131 t132)))) = some true := H
 have A7 := Aside0.mk A70
 clear A70
 replace H := Option.bind_eq_some_iff.mp H
 obtain ⟨⟨t136, t137⟩, A80, H⟩ := H
 replace H : ((purse_Part.f k t127 a2 a3).bind fun bt138 => (if t137 = 0 then (paybooklaw09_PlanChanges.j0 k t133 t134 t135 t136 t137 bt138.1 bt138.2 (bt138.2 != 0) t121 t122 t123 t124 t125 t126 t127 t128 t129 t130 t131 t132) else (paybooklaw09_PlanChanges.j0 k t133 t134 t135 t136 t137 bt138.1 bt138.2 true t121 t122 t123 t124 t125 t126 t127 t128 t129 t130 t131 t132))) = some true := H
 have A8 := Aside0.mk A80
 clear A80
 replace H := Option.bind_eq_some_iff.mp H
 obtain ⟨⟨t138, t139⟩, A90, H⟩ := H
 replace H : (if t137 = 0 then (paybooklaw09_PlanChanges.j0 k t133 t134 t135 t136 t137 t138 t139 (t139 != 0) t121 t122 t123 t124 t125 t126 t127 t128 t129 t130 t131 t132) else (paybooklaw09_PlanChanges.j0 k t133 t134 t135 t136 t137 t138 t139 true t121 t122 t123 t124 t125 t126 t127 t128 t129 t130 t131 t132)) = some true := H
 have A9 := Aside0.mk A90
 clear A90
 have HC10 := Aside0.mk H
 clear H
 go_enter Try.func3, Try.ntmps3
 go_upto_region 6 with (first | ((with_reducible refine gate_dst (N := 4) rfl ?_); refine box_event ?hg (N := 4) ?hd (cs := #[.int .i64 a0_0, .int .u8 a0_1, .int .i64 a0_2, .int .i64 a0_3, .bool a0_4, .bool a0_5]) (t := 23) ?hr ?_; (case hd => rfl); (case hg => rfl); (case hr => first | (go_simp; done) | (go_simp; rfl)); intro gb119 hg w11 hbox hb; have n0_ := Aside0.mk (below_step (by repeat (first | (with_reducible first | exact HB.out | apply kL | apply kM | apply kE) | exact HB.out)) hb); have n1_ := Aside0.mk (hbox); have n2_ := Aside0.mk ((by rw [hg]; exact (below_size (by repeat (first | (with_reducible first | exact HB.out | apply kL | apply kM | apply kE) | exact HB.out))) : w.heap.size ≤ gb119)); have n3_ := Aside0.mk ((by rw [hg]; exact (below_size (by repeat (first | (with_reducible first | exact HB.out | apply kL | apply kM | apply kE) | exact HB.out))) : w.heap.size ≤ gb119)); clear HB; have HB := n0_; have BK119 := n1_; have GW119 := n2_; have GE119 := n3_; clear n0_ n1_ n2_ n3_; clear hb hbox hg) | ((with_reducible refine gate_dst (N := 5) rfl ?_); refine box_event ?hg (N := 5) ?hd (cs := #[.int .i64 a1_0, .int .u8 a1_1, .int .i64 a1_2, .int .i64 a1_3, .bool a1_4, .bool a1_5]) (t := 23) ?hr ?_; (case hd => rfl); (case hg => rfl); (case hr => first | (go_simp; done) | (go_simp; rfl)); intro gb120 hg w12 hbox hb; have n0_ := Aside0.mk (blk_below (g := gb119) (o := .cells #[.int .i64 a0_0, .int .u8 a0_1, .int .i64 a0_2, .int .i64 a0_3, .bool a0_4, .bool a0_5] 23 (0, 0)) (by (with_reducible repeat (first | refine kN ?_ _ | refine kD ?_ | refine kA ?_ _)); exact BK119.out) hb); have n1_ := Aside0.mk (below_step (by repeat (first | (with_reducible first | exact HB.out | apply kL | apply kM | apply kE | refine kS ?_ GE119.out) | exact HB.out)) hb); have n2_ := Aside0.mk (hbox); have n3_ := Aside0.mk ((by rw [hg]; exact (below_size (by repeat (first | (with_reducible first | exact HB.out | apply kL | apply kM | apply kE | refine kS ?_ GE119.out) | exact HB.out))) : w.heap.size ≤ gb120)); have n4_ := Aside0.mk ((by rw [hg]; exact (below_size (by repeat (first | (with_reducible first | exact HB.out | apply kL | apply kM | apply kE | refine kS ?_ GE119.out) | exact HB.out))) : w.heap.size ≤ gb120)); have n5_ := Aside0.mk ((by rw [hg]; exact Nat.ne_of_lt (blk_lt (g := gb119) (o := .cells #[.int .i64 a0_0, .int .u8 a0_1, .int .i64 a0_2, .int .i64 a0_3, .bool a0_4, .bool a0_5] 23 (0, 0)) (by (with_reducible repeat (first | refine kN ?_ _ | refine kD ?_ | refine kA ?_ _)); exact BK119.out)) : gb119 ≠ gb120)); have n6_ := Aside0.mk ((by rw [hg]; exact Nat.ne_of_gt (blk_lt (g := gb119) (o := .cells #[.int .i64 a0_0, .int .u8 a0_1, .int .i64 a0_2, .int .i64 a0_3, .bool a0_4, .bool a0_5] 23 (0, 0)) (by (with_reducible repeat (first | refine kN ?_ _ | refine kD ?_ | refine kA ?_ _)); exact BK119.out)) : gb120 ≠ gb119)); clear BK119; clear HB; have BK119 := n0_; have HB := n1_; have BK120 := n2_; have GW120 := n3_; have GE120 := n4_; have NB119_120 := n5_; have NB120_119 := n6_; clear n0_ n1_ n2_ n3_ n4_ n5_ n6_; clear hb hbox hg; have hnb13 := NB119_120.out; have hnc13 := NB120_119.out; have hcz14_0 : w12.cell? ⟨gb119, 0, none⟩ = some (.int .i64 a0_0) := (kC BK119.out 0).trans rfl; have hcz14_1 : w12.cell? ⟨gb119, 1, none⟩ = some (.int .u8 a0_1) := (kC BK119.out 1).trans rfl; have hcz14_2 : w12.cell? ⟨gb119, 2, none⟩ = some (.int .i64 a0_2) := (kC BK119.out 2).trans rfl; have hcz14_3 : w12.cell? ⟨gb119, 3, none⟩ = some (.int .i64 a0_3) := (kC BK119.out 3).trans rfl; have hcz14_4 : w12.cell? ⟨gb119, 4, none⟩ = some (.bool a0_4) := (kC BK119.out 4).trans rfl; have hcz14_5 : w12.cell? ⟨gb119, 5, none⟩ = some (.bool a0_5) := (kC BK119.out 5).trans rfl; have hfz14_0 := kF BK119.out 0; have hfz14_1 := kF BK119.out 1; have hfz14_2 := kF BK119.out 2; have hfz14_3 := kF BK119.out 3; have hfz14_4 := kF BK119.out 4; have hfz14_5 := kF BK119.out 5) | ((with_reducible refine gate_callee (f := 8) rfl ?_); refine goesL_ (some 17) rfl rfl Try.func8 (by kernel_rfl) rfl #[.agg #[.int .i64 a0_0, .int .u8 a0_1, .int .i64 a0_2, .int .i64 a0_3, .bool a0_4, .bool a0_5]] rfl (by (try simp only [List.map_toArray, List.map_cons, List.map_nil]); first | done | rfl | (simp only [List.length_drop, List.length_take]; rfl)) ?_; (with_reducible refine (paybooklaw09_near.calls a0_0 a0_1 a0_2 a0_3 a0_4 a0_5 t121 t122 t123 t124 t125 t126 _ A5.out).mono ?_); rintro e w15 ⟨rfl, hb⟩; refine ⟨_, rfl, ?_⟩; have n0_ := Aside0.mk (blk_below (g := gb119) (o := .cells #[.int .i64 a0_0, .int .u8 a0_1, .int .i64 a0_2, .int .i64 a0_3, .bool a0_4, .bool a0_5] 23 (0, 0)) (by (with_reducible repeat (first | refine kN ?_ _ | refine kD ?_ | refine kA ?_ _)); exact BK119.out) hb); have n1_ := Aside0.mk (blk_below (g := gb120) (o := .cells #[.int .i64 a1_0, .int .u8 a1_1, .int .i64 a1_2, .int .i64 a1_3, .bool a1_4, .bool a1_5] 23 (0, 0)) (by (with_reducible repeat (first | refine kN ?_ _ | refine kD ?_ | refine kA ?_ _)); exact BK120.out) hb); have n2_ := Aside0.mk (below_step (by repeat (first | (with_reducible first | exact HB.out | apply kL | apply kM | apply kE | refine kS ?_ GE119.out | refine kS ?_ GE120.out) | exact HB.out)) hb); clear BK119; clear BK120; clear HB; have BK119 := n0_; have BK120 := n1_; have HB := n2_; clear n0_ n1_ n2_; (try clear hb); (try clear hb2); (try clear hk); (try clear hi); have hcz16_0 : w15.cell? ⟨gb119, 0, none⟩ = some (.int .i64 a0_0) := (kC BK119.out 0).trans rfl; have hcz16_1 : w15.cell? ⟨gb119, 1, none⟩ = some (.int .u8 a0_1) := (kC BK119.out 1).trans rfl; have hcz16_2 : w15.cell? ⟨gb119, 2, none⟩ = some (.int .i64 a0_2) := (kC BK119.out 2).trans rfl; have hcz16_3 : w15.cell? ⟨gb119, 3, none⟩ = some (.int .i64 a0_3) := (kC BK119.out 3).trans rfl; have hcz16_4 : w15.cell? ⟨gb119, 4, none⟩ = some (.bool a0_4) := (kC BK119.out 4).trans rfl; have hcz16_5 : w15.cell? ⟨gb119, 5, none⟩ = some (.bool a0_5) := (kC BK119.out 5).trans rfl; have hfz16_0 := kF BK119.out 0; have hfz16_1 := kF BK119.out 1; have hfz16_2 := kF BK119.out 2; have hfz16_3 := kF BK119.out 3; have hfz16_4 := kF BK119.out 4; have hfz16_5 := kF BK119.out 5; have hcz17_0 : w15.cell? ⟨gb120, 0, none⟩ = some (.int .i64 a1_0) := (kC BK120.out 0).trans rfl; have hcz17_1 : w15.cell? ⟨gb120, 1, none⟩ = some (.int .u8 a1_1) := (kC BK120.out 1).trans rfl; have hcz17_2 : w15.cell? ⟨gb120, 2, none⟩ = some (.int .i64 a1_2) := (kC BK120.out 2).trans rfl; have hcz17_3 : w15.cell? ⟨gb120, 3, none⟩ = some (.int .i64 a1_3) := (kC BK120.out 3).trans rfl; have hcz17_4 : w15.cell? ⟨gb120, 4, none⟩ = some (.bool a1_4) := (kC BK120.out 4).trans rfl; have hcz17_5 : w15.cell? ⟨gb120, 5, none⟩ = some (.bool a1_5) := (kC BK120.out 5).trans rfl; have hfz17_0 := kF BK120.out 0; have hfz17_1 := kF BK120.out 1; have hfz17_2 := kF BK120.out 2; have hfz17_3 := kF BK120.out 3; have hfz17_4 := kF BK120.out 4; have hfz17_5 := kF BK120.out 5) | ((with_reducible refine gate_callee (f := 8) rfl ?_); refine goesL_ (some 19) rfl rfl Try.func8 (by kernel_rfl) rfl #[.agg #[.int .i64 a1_0, .int .u8 a1_1, .int .i64 a1_2, .int .i64 a1_3, .bool a1_4, .bool a1_5]] rfl (by (try simp only [List.map_toArray, List.map_cons, List.map_nil]); first | done | rfl | (simp only [List.length_drop, List.length_take]; rfl)) ?_; (with_reducible refine (paybooklaw09_near.calls a1_0 a1_1 a1_2 a1_3 a1_4 a1_5 t127 t128 t129 t130 t131 t132 _ A6.out).mono ?_); rintro e w18 ⟨rfl, hb⟩; refine ⟨_, rfl, ?_⟩; have n0_ := Aside0.mk (blk_below (g := gb119) (o := .cells #[.int .i64 t121, .int .u8 t122, .int .i64 t123, .int .i64 t124, .bool t125, .bool t126] 23 (0, 0)) (by (with_reducible repeat (first | refine kN ?_ _ | refine kD ?_ | refine kA ?_ _)); refine kP (cs := #[.int .i64 t121, .int .u8 t122, .int .i64 t123, .int .i64 t124, .bool t125, .bool a0_5]) ?_ 5 _ rfl; (with_reducible repeat (first | refine kN ?_ _ | refine kD ?_ | refine kA ?_ _)); refine kP (cs := #[.int .i64 t121, .int .u8 t122, .int .i64 t123, .int .i64 t124, .bool a0_4, .bool a0_5]) ?_ 4 _ rfl; (with_reducible repeat (first | refine kN ?_ _ | refine kD ?_ | refine kA ?_ _)); refine kP (cs := #[.int .i64 t121, .int .u8 t122, .int .i64 t123, .int .i64 a0_3, .bool a0_4, .bool a0_5]) ?_ 3 _ rfl; (with_reducible repeat (first | refine kN ?_ _ | refine kD ?_ | refine kA ?_ _)); refine kP (cs := #[.int .i64 t121, .int .u8 t122, .int .i64 a0_2, .int .i64 a0_3, .bool a0_4, .bool a0_5]) ?_ 2 _ rfl; (with_reducible repeat (first | refine kN ?_ _ | refine kD ?_ | refine kA ?_ _)); refine kP (cs := #[.int .i64 t121, .int .u8 a0_1, .int .i64 a0_2, .int .i64 a0_3, .bool a0_4, .bool a0_5]) ?_ 1 _ rfl; (with_reducible repeat (first | refine kN ?_ _ | refine kD ?_ | refine kA ?_ _)); refine kP (cs := #[.int .i64 a0_0, .int .u8 a0_1, .int .i64 a0_2, .int .i64 a0_3, .bool a0_4, .bool a0_5]) ?_ 0 _ rfl; (with_reducible repeat (first | refine kN ?_ _ | refine kD ?_ | refine kA ?_ _)); exact BK119.out) hb); have n1_ := Aside0.mk (blk_below (g := gb120) (o := .cells #[.int .i64 a1_0, .int .u8 a1_1, .int .i64 a1_2, .int .i64 a1_3, .bool a1_4, .bool a1_5] 23 (0, 0)) (by (with_reducible repeat (first | refine kN ?_ _ | refine kD ?_ | refine kA ?_ _)); refine kR ?_ NB120_119.out _; (with_reducible repeat (first | refine kN ?_ _ | refine kD ?_ | refine kA ?_ _)); refine kR ?_ NB120_119.out _; (with_reducible repeat (first | refine kN ?_ _ | refine kD ?_ | refine kA ?_ _)); refine kR ?_ NB120_119.out _; (with_reducible repeat (first | refine kN ?_ _ | refine kD ?_ | refine kA ?_ _)); refine kR ?_ NB120_119.out _; (with_reducible repeat (first | refine kN ?_ _ | refine kD ?_ | refine kA ?_ _)); refine kR ?_ NB120_119.out _; (with_reducible repeat (first | refine kN ?_ _ | refine kD ?_ | refine kA ?_ _)); refine kR ?_ NB120_119.out _; (with_reducible repeat (first | refine kN ?_ _ | refine kD ?_ | refine kA ?_ _)); exact BK120.out) hb); have n2_ := Aside0.mk (below_step (by repeat (first | (with_reducible first | exact HB.out | apply kL | apply kM | apply kE | refine kS ?_ GE119.out | refine kS ?_ GE120.out) | exact HB.out)) hb); clear BK119; clear BK120; clear HB; have BK119 := n0_; have BK120 := n1_; have HB := n2_; clear n0_ n1_ n2_; (try clear hb); (try clear hb2); (try clear hk); (try clear hi); have hcz19_0 : w18.cell? ⟨gb120, 0, none⟩ = some (.int .i64 a1_0) := (kC BK120.out 0).trans rfl; have hcz19_1 : w18.cell? ⟨gb120, 1, none⟩ = some (.int .u8 a1_1) := (kC BK120.out 1).trans rfl; have hcz19_2 : w18.cell? ⟨gb120, 2, none⟩ = some (.int .i64 a1_2) := (kC BK120.out 2).trans rfl; have hcz19_3 : w18.cell? ⟨gb120, 3, none⟩ = some (.int .i64 a1_3) := (kC BK120.out 3).trans rfl; have hcz19_4 : w18.cell? ⟨gb120, 4, none⟩ = some (.bool a1_4) := (kC BK120.out 4).trans rfl; have hcz19_5 : w18.cell? ⟨gb120, 5, none⟩ = some (.bool a1_5) := (kC BK120.out 5).trans rfl; have hfz19_0 := kF BK120.out 0; have hfz19_1 := kF BK120.out 1; have hfz19_2 := kF BK120.out 2; have hfz19_3 := kF BK120.out 3; have hfz19_4 := kF BK120.out 4; have hfz19_5 := kF BK120.out 5; have hcz20_0 : w18.cell? ⟨gb119, 0, none⟩ = some (.int .i64 t121) := (kC BK119.out 0).trans rfl; have hcz20_1 : w18.cell? ⟨gb119, 1, none⟩ = some (.int .u8 t122) := (kC BK119.out 1).trans rfl; have hcz20_2 : w18.cell? ⟨gb119, 2, none⟩ = some (.int .i64 t123) := (kC BK119.out 2).trans rfl; have hcz20_3 : w18.cell? ⟨gb119, 3, none⟩ = some (.int .i64 t124) := (kC BK119.out 3).trans rfl; have hcz20_4 : w18.cell? ⟨gb119, 4, none⟩ = some (.bool t125) := (kC BK119.out 4).trans rfl; have hcz20_5 : w18.cell? ⟨gb119, 5, none⟩ = some (.bool t126) := (kC BK119.out 5).trans rfl; have hfz20_0 := kF BK119.out 0; have hfz20_1 := kF BK119.out 1; have hfz20_2 := kF BK119.out 2; have hfz20_3 := kF BK119.out 3; have hfz20_4 := kF BK119.out 4; have hfz20_5 := kF BK119.out 5) | ((with_reducible refine gate_callee (f := 9) rfl ?_); refine goesL_ (some 25) rfl rfl Try.func9 (by kernel_rfl) rfl #[.agg #[.int .i64 t121, .int .u8 t122, .int .i64 t123, .int .i64 t124, .bool t125, .bool t126], .agg #[.int .i64 t127, .int .u8 t128, .int .i64 t129, .int .i64 t130, .bool t131, .bool t132], .int .i64 a2, .int .i64 a3] rfl (by (try simp only [List.map_toArray, List.map_cons, List.map_nil]); first | done | rfl | (simp only [List.length_drop, List.length_take]; rfl)) ?_; (with_reducible refine (plan_Change.calls k t121 t122 t123 t124 t125 t126 t127 t128 t129 t130 t131 t132 a2 a3 t133 t134 t135 _ A7.out).mono ?_); rintro e w21 ⟨rfl, hb⟩; refine ⟨_, rfl, ?_⟩; have n0_ := Aside0.mk (blk_below (g := gb119) (o := .cells #[.int .i64 t121, .int .u8 t122, .int .i64 t123, .int .i64 t124, .bool t125, .bool t126] 23 (0, 0)) (by (with_reducible repeat (first | refine kN ?_ _ | refine kD ?_ | refine kA ?_ _)); refine kR ?_ NB119_120.out _; (with_reducible repeat (first | refine kN ?_ _ | refine kD ?_ | refine kA ?_ _)); refine kR ?_ NB119_120.out _; (with_reducible repeat (first | refine kN ?_ _ | refine kD ?_ | refine kA ?_ _)); refine kR ?_ NB119_120.out _; (with_reducible repeat (first | refine kN ?_ _ | refine kD ?_ | refine kA ?_ _)); refine kR ?_ NB119_120.out _; (with_reducible repeat (first | refine kN ?_ _ | refine kD ?_ | refine kA ?_ _)); refine kR ?_ NB119_120.out _; (with_reducible repeat (first | refine kN ?_ _ | refine kD ?_ | refine kA ?_ _)); refine kR ?_ NB119_120.out _; (with_reducible repeat (first | refine kN ?_ _ | refine kD ?_ | refine kA ?_ _)); exact BK119.out) hb); have n1_ := Aside0.mk (blk_below (g := gb120) (o := .cells #[.int .i64 t127, .int .u8 t128, .int .i64 t129, .int .i64 t130, .bool t131, .bool t132] 23 (0, 0)) (by (with_reducible repeat (first | refine kN ?_ _ | refine kD ?_ | refine kA ?_ _)); refine kP (cs := #[.int .i64 t127, .int .u8 t128, .int .i64 t129, .int .i64 t130, .bool t131, .bool a1_5]) ?_ 5 _ rfl; (with_reducible repeat (first | refine kN ?_ _ | refine kD ?_ | refine kA ?_ _)); refine kP (cs := #[.int .i64 t127, .int .u8 t128, .int .i64 t129, .int .i64 t130, .bool a1_4, .bool a1_5]) ?_ 4 _ rfl; (with_reducible repeat (first | refine kN ?_ _ | refine kD ?_ | refine kA ?_ _)); refine kP (cs := #[.int .i64 t127, .int .u8 t128, .int .i64 t129, .int .i64 a1_3, .bool a1_4, .bool a1_5]) ?_ 3 _ rfl; (with_reducible repeat (first | refine kN ?_ _ | refine kD ?_ | refine kA ?_ _)); refine kP (cs := #[.int .i64 t127, .int .u8 t128, .int .i64 a1_2, .int .i64 a1_3, .bool a1_4, .bool a1_5]) ?_ 2 _ rfl; (with_reducible repeat (first | refine kN ?_ _ | refine kD ?_ | refine kA ?_ _)); refine kP (cs := #[.int .i64 t127, .int .u8 a1_1, .int .i64 a1_2, .int .i64 a1_3, .bool a1_4, .bool a1_5]) ?_ 1 _ rfl; (with_reducible repeat (first | refine kN ?_ _ | refine kD ?_ | refine kA ?_ _)); refine kP (cs := #[.int .i64 a1_0, .int .u8 a1_1, .int .i64 a1_2, .int .i64 a1_3, .bool a1_4, .bool a1_5]) ?_ 0 _ rfl; (with_reducible repeat (first | refine kN ?_ _ | refine kD ?_ | refine kA ?_ _)); exact BK120.out) hb); have n2_ := Aside0.mk (below_step (by repeat (first | (with_reducible first | exact HB.out | apply kL | apply kM | apply kE | refine kS ?_ GE119.out | refine kS ?_ GE120.out) | exact HB.out)) hb); clear BK119; clear BK120; clear HB; have BK119 := n0_; have BK120 := n1_; have HB := n2_; clear n0_ n1_ n2_; (try clear hb); (try clear hb2); (try clear hk); (try clear hi); have hcz22_0 : w21.cell? ⟨gb119, 0, none⟩ = some (.int .i64 t121) := (kC BK119.out 0).trans rfl; have hcz22_1 : w21.cell? ⟨gb119, 1, none⟩ = some (.int .u8 t122) := (kC BK119.out 1).trans rfl; have hcz22_2 : w21.cell? ⟨gb119, 2, none⟩ = some (.int .i64 t123) := (kC BK119.out 2).trans rfl; have hcz22_3 : w21.cell? ⟨gb119, 3, none⟩ = some (.int .i64 t124) := (kC BK119.out 3).trans rfl; have hcz22_4 : w21.cell? ⟨gb119, 4, none⟩ = some (.bool t125) := (kC BK119.out 4).trans rfl; have hcz22_5 : w21.cell? ⟨gb119, 5, none⟩ = some (.bool t126) := (kC BK119.out 5).trans rfl; have hfz22_0 := kF BK119.out 0; have hfz22_1 := kF BK119.out 1; have hfz22_2 := kF BK119.out 2; have hfz22_3 := kF BK119.out 3; have hfz22_4 := kF BK119.out 4; have hfz22_5 := kF BK119.out 5) | ((with_reducible refine gate_callee (f := 10) rfl ?_); refine goesL_ (some 34) rfl rfl Try.func10 (by kernel_rfl) rfl #[.int .i64 t121, .int .i64 a2, .int .i64 a3] rfl (by (try simp only [List.map_toArray, List.map_cons, List.map_nil]); first | done | rfl | (simp only [List.length_drop, List.length_take]; rfl)) ?_; (with_reducible refine (purse_Part.calls k t121 a2 a3 t136 t137 _ A8.out).mono ?_); rintro e w' ⟨rfl, ⟨nd, rfl⟩⟩; refine ⟨_, rfl, ?_⟩; have hcz23_0 : w21.cell? ⟨gb120, 0, none⟩ = some (.int .i64 t127) := (kC BK120.out 0).trans rfl; have hcz23_1 : w21.cell? ⟨gb120, 1, none⟩ = some (.int .u8 t128) := (kC BK120.out 1).trans rfl; have hcz23_2 : w21.cell? ⟨gb120, 2, none⟩ = some (.int .i64 t129) := (kC BK120.out 2).trans rfl; have hcz23_3 : w21.cell? ⟨gb120, 3, none⟩ = some (.int .i64 t130) := (kC BK120.out 3).trans rfl; have hcz23_4 : w21.cell? ⟨gb120, 4, none⟩ = some (.bool t131) := (kC BK120.out 4).trans rfl; have hcz23_5 : w21.cell? ⟨gb120, 5, none⟩ = some (.bool t132) := (kC BK120.out 5).trans rfl; have hfz23_0 := kF BK120.out 0; have hfz23_1 := kF BK120.out 1; have hfz23_2 := kF BK120.out 2; have hfz23_3 := kF BK120.out 3; have hfz23_4 := kF BK120.out 4; have hfz23_5 := kF BK120.out 5) | ((with_reducible refine gate_callee (f := 10) rfl ?_); refine goesL_ (some 42) rfl rfl Try.func10 (by kernel_rfl) rfl #[.int .i64 t127, .int .i64 a2, .int .i64 a3] rfl (by (try simp only [List.map_toArray, List.map_cons, List.map_nil]); first | done | rfl | (simp only [List.length_drop, List.length_take]; rfl)) ?_; (with_reducible refine (purse_Part.calls k t127 a2 a3 t138 t139 _ A9.out).mono ?_); rintro e w' ⟨rfl, ⟨nd, rfl⟩⟩; refine ⟨_, rfl, ?_⟩))
 (try simp only [Act.put, List.setIfInBounds_toArray, List.set_cons_zero, List.set_cons_succ])
 go_cut [50] (fun v50 wc => ∃ (kq : Nat) (x50_9 : Bool), v50 = .bool x50_9 ∧ Aside0 (paybooklaw09_PlanChanges.j0 kq t133 t134 t135 t136 t137 t138 t139 x50_9 t121 t122 t123 t124 t125 t126 t127 t128 t129 t130 t131 t132 = some true) ∧ Aside0 (kq ≤ k) ∧ Aside0 (wc.heap[gb119]? = some (.cells #[.int .i64 t121, .int .u8 t122, .int .i64 t123, .int .i64 t124, .bool t125, .bool t126] 23 (0, 0))) ∧ Aside0 (wc.heap[gb120]? = some (.cells #[.int .i64 t127, .int .u8 t128, .int .i64 t129, .int .i64 t130, .bool t131, .bool t132] 23 (0, 0))) ∧ Aside0 (Below w.heap.size w wc))
 case first =>
  have H := HC10.out
  clear HC10
  by_cases c24 : t137 = 0
  ·rw [if_pos c24] at H
   have c24b0 : (t137 == 0) = true := beq_iff_eq.mpr c24
   have c24b1 : (t137 != 0) = false := bne_eq_false_iff_eq.mpr c24
   clear c24
   (first | (generalize hg_ : (t137 == 0) = bg_ at *; subst c24b0; have c24b0 := hg_; clear hg_) | rw [c24b0] | (simp only [i64_w, i32_w]; rw [c24b0]) | skip)
   have H' := Aside0.mk H
   clear H
   go_wp2
   go_meet
   case rel => exact ⟨_, ((t139 != 0)), (by first | rfl | (simp; done) | (simp [*]; done)), H', ⟨by first | omega | exact Nat.le_refl _⟩, ⟨by (with_reducible repeat (first | refine kN ?_ _ | refine kD ?_ | refine kA ?_ _)); exact BK119.out⟩, ⟨by (with_reducible repeat (first | refine kN ?_ _ | refine kD ?_ | refine kA ?_ _)); exact BK120.out⟩, ⟨by repeat (first | (with_reducible first | exact HB.out | apply kL | apply kM | apply kE | refine kS ?_ GE119.out | refine kS ?_ GE120.out) | exact HB.out)⟩⟩
  ·rw [if_neg c24] at H
   have c24b0 : (t137 == 0) = false := beq_eq_false_iff_ne.mpr c24
   have c24b1 : (t137 != 0) = true := bne_iff_ne.mpr c24
   (first | (generalize hg_ : (t137 == 0) = bg_ at *; subst c24b0; have c24b0 := hg_; clear hg_) | rw [c24b0] | (simp only [i64_w, i32_w]; rw [c24b0]) | skip)
   have H' := Aside0.mk H
   clear H
   go_wp2
   go_meet
   case rel => exact ⟨_, (true), (by first | rfl | (simp; done) | (simp [*]; done)), H', ⟨by first | omega | exact Nat.le_refl _⟩, ⟨by (with_reducible repeat (first | refine kN ?_ _ | refine kD ?_ | refine kA ?_ _)); exact BK119.out⟩, ⟨by (with_reducible repeat (first | refine kN ?_ _ | refine kD ?_ | refine kA ?_ _)); exact BK120.out⟩, ⟨by repeat (first | (with_reducible first | exact HB.out | apply kL | apply kM | apply kE | refine kS ?_ GE119.out | refine kS ?_ GE120.out) | exact HB.out)⟩⟩
 case rest =>
  clear HC10
  try clear c1
  try clear c2
  try clear p2
  try clear c3
  try clear c8
  try clear c9
  try clear c10
  try clear c13
  try clear c24
  try clear c24b0
  try clear c24b1
  try clear hcz14_0
  try clear hcz14_1
  try clear hcz14_2
  try clear hcz14_3
  try clear hcz14_4
  try clear hcz14_5
  try clear hcz16_0
  try clear hcz16_1
  try clear hcz16_2
  try clear hcz16_3
  try clear hcz16_4
  try clear hcz16_5
  try clear hcz17_0
  try clear hcz17_1
  try clear hcz17_2
  try clear hcz17_3
  try clear hcz17_4
  try clear hcz17_5
  try clear hcz19_0
  try clear hcz19_1
  try clear hcz19_2
  try clear hcz19_3
  try clear hcz19_4
  try clear hcz19_5
  try clear hcz20_0
  try clear hcz20_1
  try clear hcz20_2
  try clear hcz20_3
  try clear hcz20_4
  try clear hcz20_5
  try clear hcz22_0
  try clear hcz22_1
  try clear hcz22_2
  try clear hcz22_3
  try clear hcz22_4
  try clear hcz22_5
  try clear hcz23_0
  try clear hcz23_1
  try clear hcz23_2
  try clear hcz23_3
  try clear hcz23_4
  try clear hcz23_5
  try clear hfz14_0
  try clear hfz14_1
  try clear hfz14_2
  try clear hfz14_3
  try clear hfz14_4
  try clear hfz14_5
  try clear hfz16_0
  try clear hfz16_1
  try clear hfz16_2
  try clear hfz16_3
  try clear hfz16_4
  try clear hfz16_5
  try clear hfz17_0
  try clear hfz17_1
  try clear hfz17_2
  try clear hfz17_3
  try clear hfz17_4
  try clear hfz17_5
  try clear hfz19_0
  try clear hfz19_1
  try clear hfz19_2
  try clear hfz19_3
  try clear hfz19_4
  try clear hfz19_5
  try clear hfz20_0
  try clear hfz20_1
  try clear hfz20_2
  try clear hfz20_3
  try clear hfz20_4
  try clear hfz20_5
  try clear hfz22_0
  try clear hfz22_1
  try clear hfz22_2
  try clear hfz22_3
  try clear hfz22_4
  try clear hfz22_5
  try clear hfz23_0
  try clear hfz23_1
  try clear hfz23_2
  try clear hfz23_3
  try clear hfz23_4
  try clear hfz23_5
  obtain ⟨kq, x50_9, rfl, HA, HJ9, BK119, BK120, HB⟩ := hcut
  cases kq with
  | zero => exact absurd HA.out (by simp [paybooklaw09_PlanChanges.j0])
  | succ kj9 =>
   have H := HA.out
   clear HA
   simp only [paybooklaw09_PlanChanges.j0] at H
   by_cases c25 : x50_9 = true
   ·subst c25
    have H1 : ((paybooklaw09_awake.f kj9).bind fun t140 => (if t140 = true then (if t135 = t137 then (if t137 = t139 then (if t133 = 0 then (some (t134 == 0)) else (some false)) else (some false)) else (some false)) else (some false))) = some true := by rw [if_pos rfl] at H; try exact H
    clear H
    have H := H1
    clear H1
    replace H := Option.bind_eq_some_iff.mp H
    obtain ⟨t140, A260, H⟩ := H
    replace H : (if t140 = true then (if t135 = t137 then (if t137 = t139 then (if t133 = 0 then (some (t134 == 0)) else (some false)) else (some false)) else (some false)) else (some false)) = some true := H
    have A26 := Aside0.mk A260
    clear A260
    by_cases c27 : t140 = true
    ·subst c27
     have H1 : (if t135 = t137 then (if t137 = t139 then (if t133 = 0 then (some (t134 == 0)) else (some false)) else (some false)) else (some false)) = some true := by rw [if_pos rfl] at H; try exact H
     clear H
     have H := H1
     clear H1
     by_cases c28 : t135 = t137
     ·rw [if_pos c28] at H
      have c28b0 : (t135 == t137) = true := beq_iff_eq.mpr c28
      have c28b1 : (t135 != t137) = false := bne_eq_false_iff_eq.mpr c28
      clear c28
      by_cases c29 : t137 = t139
      ·rw [if_pos c29] at H
       have c29b0 : (t137 == t139) = true := beq_iff_eq.mpr c29
       have c29b1 : (t137 != t139) = false := bne_eq_false_iff_eq.mpr c29
       clear c29
       by_cases c30 : t133 = 0
       ·rw [if_pos c30] at H
        have c30b0 : (t133 == 0) = true := beq_iff_eq.mpr c30
        have c30b1 : (t133 != 0) = false := bne_eq_false_iff_eq.mpr c30
        clear c30
        have HT_ := Option.some.inj H
        clear H
        (try (have HT_z_ := HT_; simp only [beq_true, beq_false, true_beq, false_beq, Bool.not_eq_true', Bool.not_eq_false', Bool.not_true, Bool.not_false] at HT_z_))
        go_wp2_with (first | (go_at_call 11; (with_reducible refine (paybooklaw09_awake.calls kj9  true _ A26.out).mono ?_); rintro e w31 ⟨rfl, hb⟩; have n0_ := Aside0.mk (blk_below (g := gb119) (o := .cells #[.int .i64 t121, .int .u8 t122, .int .i64 t123, .int .i64 t124, .bool t125, .bool t126] 23 (0, 0)) (by (with_reducible repeat (first | refine kN ?_ _ | refine kD ?_ | refine kA ?_ _)); exact BK119.out) hb); have n1_ := Aside0.mk (blk_below (g := gb120) (o := .cells #[.int .i64 t127, .int .u8 t128, .int .i64 t129, .int .i64 t130, .bool t131, .bool t132] 23 (0, 0)) (by (with_reducible repeat (first | refine kN ?_ _ | refine kD ?_ | refine kA ?_ _)); exact BK120.out) hb); have n2_ := Aside0.mk (below_step (by repeat (first | (with_reducible first | exact HB.out | apply kL | apply kM | apply kE | refine kS ?_ GE119.out | refine kS ?_ GE120.out) | exact HB.out)) hb); clear BK119; clear BK120; clear HB; have BK119 := n0_; have BK120 := n1_; have HB := n2_; clear n0_ n1_ n2_; (try clear hb); (try clear hb2); (try clear hk); (try clear hi)) | ((with_reducible refine gate_callee (f := 11) rfl ?_); refine goesL_ (some 51) rfl rfl Try.func11 (by kernel_rfl) rfl #[] rfl (by (try simp only [List.map_toArray, List.map_cons, List.map_nil]); first | done | rfl | (simp only [List.length_drop, List.length_take]; rfl)) ?_; (with_reducible refine (paybooklaw09_awake.calls kj9  true _ A26.out).mono ?_); rintro e w31 ⟨rfl, hb⟩; refine ⟨_, rfl, ?_⟩; have n0_ := Aside0.mk (blk_below (g := gb119) (o := .cells #[.int .i64 t121, .int .u8 t122, .int .i64 t123, .int .i64 t124, .bool t125, .bool t126] 23 (0, 0)) (by (with_reducible repeat (first | refine kN ?_ _ | refine kD ?_ | refine kA ?_ _)); exact BK119.out) hb); have n1_ := Aside0.mk (blk_below (g := gb120) (o := .cells #[.int .i64 t127, .int .u8 t128, .int .i64 t129, .int .i64 t130, .bool t131, .bool t132] 23 (0, 0)) (by (with_reducible repeat (first | refine kN ?_ _ | refine kD ?_ | refine kA ?_ _)); exact BK120.out) hb); have n2_ := Aside0.mk (below_step (by repeat (first | (with_reducible first | exact HB.out | apply kL | apply kM | apply kE | refine kS ?_ GE119.out | refine kS ?_ GE120.out) | exact HB.out)) hb); clear BK119; clear BK120; clear HB; have BK119 := n0_; have BK120 := n1_; have HB := n2_; clear n0_ n1_ n2_; (try clear hb); (try clear hb2); (try clear hk); (try clear hi)))
        go_ret
        exact ⟨by first | rfl | (simp [errW_none, errW_some] <;> rfl) | (simp [*, errW_none, errW_some] <;> rfl), by repeat (first | (with_reducible first | exact HB.out | apply kL | apply kM | apply kE | refine kS ?_ GE119.out | refine kS ?_ GE120.out) | exact HB.out)⟩
       ·rw [if_neg c30] at H
        have c30b0 : (t133 == 0) = false := beq_eq_false_iff_ne.mpr c30
        have c30b1 : (t133 != 0) = true := bne_iff_ne.mpr c30
        exact absurd H (by simp)
      ·rw [if_neg c29] at H
       have c29b0 : (t137 == t139) = false := beq_eq_false_iff_ne.mpr c29
       have c29b1 : (t137 != t139) = true := bne_iff_ne.mpr c29
       exact absurd H (by simp)
     ·rw [if_neg c28] at H
      have c28b0 : (t135 == t137) = false := beq_eq_false_iff_ne.mpr c28
      have c28b1 : (t135 != t137) = true := bne_iff_ne.mpr c28
      exact absurd H (by simp)
    ·replace c27 := Bool.eq_false_iff.mpr c27
     subst c27
     have H1 : (some false) = some true := by rw [if_neg (show ¬ (false = true) by decide)] at H; try exact H
     clear H
     have H := H1
     clear H1
     exact absurd H (by simp)
   ·replace c25 := Bool.eq_false_iff.mpr c25
    subst c25
    have H1 : ((paybooklaw09_awake.f kj9).bind fun t141 => (if t141 = true then (if t135 = 0 then (if t133 = t136 then (if t134 = t138 then (if t133 ≤ t121 then (some (decide (t134 ≤ t127))) else (some false)) else (some false)) else (some false)) else (some false)) else (some false))) = some true := by rw [if_neg (show ¬ (false = true) by decide)] at H; try exact H
    clear H
    have H := H1
    clear H1
    replace H := Option.bind_eq_some_iff.mp H
    obtain ⟨t141, A320, H⟩ := H
    replace H : (if t141 = true then (if t135 = 0 then (if t133 = t136 then (if t134 = t138 then (if t133 ≤ t121 then (some (decide (t134 ≤ t127))) else (some false)) else (some false)) else (some false)) else (some false)) else (some false)) = some true := H
    have A32 := Aside0.mk A320
    clear A320
    by_cases c33 : t141 = true
    ·subst c33
     have H1 : (if t135 = 0 then (if t133 = t136 then (if t134 = t138 then (if t133 ≤ t121 then (some (decide (t134 ≤ t127))) else (some false)) else (some false)) else (some false)) else (some false)) = some true := by rw [if_pos rfl] at H; try exact H
     clear H
     have H := H1
     clear H1
     by_cases c34 : t135 = 0
     ·rw [if_pos c34] at H
      have c34b0 : (t135 == 0) = true := beq_iff_eq.mpr c34
      have c34b1 : (t135 != 0) = false := bne_eq_false_iff_eq.mpr c34
      clear c34
      by_cases c35 : t133 = t136
      ·rw [if_pos c35] at H
       have c35b0 : (t133 == t136) = true := beq_iff_eq.mpr c35
       have c35b1 : (t133 != t136) = false := bne_eq_false_iff_eq.mpr c35
       clear c35
       by_cases c36 : t134 = t138
       ·rw [if_pos c36] at H
        have c36b0 : (t134 == t138) = true := beq_iff_eq.mpr c36
        have c36b1 : (t134 != t138) = false := bne_eq_false_iff_eq.mpr c36
        clear c36
        by_cases c37 : t133 ≤ t121
        ·rw [if_pos c37] at H
         have c37b0 : decide (t133 ≤ t121) = true := decide_eq_true c37
         clear c37
         have HT_ := Option.some.inj H
         clear H
         (try (have HT_z_ := HT_; simp only [beq_true, beq_false, true_beq, false_beq, Bool.not_eq_true', Bool.not_eq_false', Bool.not_true, Bool.not_false] at HT_z_))
         go_wp2_with (first | (go_at_call 11; (with_reducible refine (paybooklaw09_awake.calls kj9  true _ A32.out).mono ?_); rintro e w38 ⟨rfl, hb⟩; have n0_ := Aside0.mk (blk_below (g := gb119) (o := .cells #[.int .i64 t121, .int .u8 t122, .int .i64 t123, .int .i64 t124, .bool t125, .bool t126] 23 (0, 0)) (by (with_reducible repeat (first | refine kN ?_ _ | refine kD ?_ | refine kA ?_ _)); exact BK119.out) hb); have n1_ := Aside0.mk (blk_below (g := gb120) (o := .cells #[.int .i64 t127, .int .u8 t128, .int .i64 t129, .int .i64 t130, .bool t131, .bool t132] 23 (0, 0)) (by (with_reducible repeat (first | refine kN ?_ _ | refine kD ?_ | refine kA ?_ _)); exact BK120.out) hb); have n2_ := Aside0.mk (below_step (by repeat (first | (with_reducible first | exact HB.out | apply kL | apply kM | apply kE | refine kS ?_ GE119.out | refine kS ?_ GE120.out) | exact HB.out)) hb); clear BK119; clear BK120; clear HB; have BK119 := n0_; have BK120 := n1_; have HB := n2_; clear n0_ n1_ n2_; (try clear hb); (try clear hb2); (try clear hk); (try clear hi)) | ((with_reducible refine gate_callee (f := 11) rfl ?_); refine goesL_ (some 70) rfl rfl Try.func11 (by kernel_rfl) rfl #[] rfl (by (try simp only [List.map_toArray, List.map_cons, List.map_nil]); first | done | rfl | (simp only [List.length_drop, List.length_take]; rfl)) ?_; (with_reducible refine (paybooklaw09_awake.calls kj9  true _ A32.out).mono ?_); rintro e w38 ⟨rfl, hb⟩; refine ⟨_, rfl, ?_⟩; have n0_ := Aside0.mk (blk_below (g := gb119) (o := .cells #[.int .i64 t121, .int .u8 t122, .int .i64 t123, .int .i64 t124, .bool t125, .bool t126] 23 (0, 0)) (by (with_reducible repeat (first | refine kN ?_ _ | refine kD ?_ | refine kA ?_ _)); exact BK119.out) hb); have n1_ := Aside0.mk (blk_below (g := gb120) (o := .cells #[.int .i64 t127, .int .u8 t128, .int .i64 t129, .int .i64 t130, .bool t131, .bool t132] 23 (0, 0)) (by (with_reducible repeat (first | refine kN ?_ _ | refine kD ?_ | refine kA ?_ _)); exact BK120.out) hb); have n2_ := Aside0.mk (below_step (by repeat (first | (with_reducible first | exact HB.out | apply kL | apply kM | apply kE | refine kS ?_ GE119.out | refine kS ?_ GE120.out) | exact HB.out)) hb); clear BK119; clear BK120; clear HB; have BK119 := n0_; have BK120 := n1_; have HB := n2_; clear n0_ n1_ n2_; (try clear hb); (try clear hb2); (try clear hk); (try clear hi); have hnb39 := NB119_120.out; have hnc39 := NB120_119.out; have hcz40_0 : w38.cell? ⟨gb119, 0, none⟩ = some (.int .i64 t121) := (kC BK119.out 0).trans rfl; have hcz40_1 : w38.cell? ⟨gb119, 1, none⟩ = some (.int .u8 t122) := (kC BK119.out 1).trans rfl; have hcz40_2 : w38.cell? ⟨gb119, 2, none⟩ = some (.int .i64 t123) := (kC BK119.out 2).trans rfl; have hcz40_3 : w38.cell? ⟨gb119, 3, none⟩ = some (.int .i64 t124) := (kC BK119.out 3).trans rfl; have hcz40_4 : w38.cell? ⟨gb119, 4, none⟩ = some (.bool t125) := (kC BK119.out 4).trans rfl; have hcz40_5 : w38.cell? ⟨gb119, 5, none⟩ = some (.bool t126) := (kC BK119.out 5).trans rfl; have hfz40_0 := kF BK119.out 0; have hfz40_1 := kF BK119.out 1; have hfz40_2 := kF BK119.out 2; have hfz40_3 := kF BK119.out 3; have hfz40_4 := kF BK119.out 4; have hfz40_5 := kF BK119.out 5; have hcz41_0 : w38.cell? ⟨gb120, 0, none⟩ = some (.int .i64 t127) := (kC BK120.out 0).trans rfl; have hcz41_1 : w38.cell? ⟨gb120, 1, none⟩ = some (.int .u8 t128) := (kC BK120.out 1).trans rfl; have hcz41_2 : w38.cell? ⟨gb120, 2, none⟩ = some (.int .i64 t129) := (kC BK120.out 2).trans rfl; have hcz41_3 : w38.cell? ⟨gb120, 3, none⟩ = some (.int .i64 t130) := (kC BK120.out 3).trans rfl; have hcz41_4 : w38.cell? ⟨gb120, 4, none⟩ = some (.bool t131) := (kC BK120.out 4).trans rfl; have hcz41_5 : w38.cell? ⟨gb120, 5, none⟩ = some (.bool t132) := (kC BK120.out 5).trans rfl; have hfz41_0 := kF BK120.out 0; have hfz41_1 := kF BK120.out 1; have hfz41_2 := kF BK120.out 2; have hfz41_3 := kF BK120.out 3; have hfz41_4 := kF BK120.out 4; have hfz41_5 := kF BK120.out 5))
         go_ret
         exact ⟨by first | rfl | (simp [errW_none, errW_some] <;> rfl) | (simp [*, errW_none, errW_some] <;> rfl), by repeat (first | (with_reducible first | exact HB.out | apply kL | apply kM | apply kE | refine kS ?_ GE119.out | refine kS ?_ GE120.out) | exact HB.out)⟩
        ·rw [if_neg c37] at H
         have c37b0 : decide (t133 ≤ t121) = false := decide_eq_false c37
         clear c37
         exact absurd H (by simp)
       ·rw [if_neg c36] at H
        have c36b0 : (t134 == t138) = false := beq_eq_false_iff_ne.mpr c36
        have c36b1 : (t134 != t138) = true := bne_iff_ne.mpr c36
        exact absurd H (by simp)
      ·rw [if_neg c35] at H
       have c35b0 : (t133 == t136) = false := beq_eq_false_iff_ne.mpr c35
       have c35b1 : (t133 != t136) = true := bne_iff_ne.mpr c35
       exact absurd H (by simp)
     ·rw [if_neg c34] at H
      have c34b0 : (t135 == 0) = false := beq_eq_false_iff_ne.mpr c34
      have c34b1 : (t135 != 0) = true := bne_iff_ne.mpr c34
      exact absurd H (by simp)
    ·replace c33 := Bool.eq_false_iff.mpr c33
     subst c33
     have H1 : (some false) = some true := by rw [if_neg (show ¬ (false = true) by decide)] at H; try exact H
     clear H
     have H := H1
     clear H1
     exact absurd H (by simp)

/-- THE ONE PURE STATEMENT of paybooklaw09_PlanChanges: yours. -/
def paybooklaw09_PlanChanges.Pure : Prop := ∀ (a0_0 : Int) (a0_1 : Int) (a0_2 : Int) (a0_3 : Int) (a0_4 : Bool) (a0_5 : Bool) (a1_0 : Int) (a1_1 : Int) (a1_2 : Int) (a1_3 : Int) (a1_4 : Bool) (a1_5 : Bool) (a2 : Int) (a3 : Int), (Lit.int .i64 a0_0).wf = true → (Lit.int .u8 a0_1).wf = true → (Lit.int .i64 a0_2).wf = true → (Lit.int .i64 a0_3).wf = true → (Lit.int .i64 a1_0).wf = true → (Lit.int .u8 a1_1).wf = true → (Lit.int .i64 a1_2).wf = true → (Lit.int .i64 a1_3).wf = true → (Lit.int .i64 a2).wf = true → (Lit.int .i64 a3).wf = true → ∃ k, paybooklaw09_PlanChanges.f k a0_0 a0_1 a0_2 a0_3 a0_4 a0_5 a1_0 a1_1 a1_2 a1_3 a1_4 a1_5 a2 a3 = some true
theorem paybooklaw09_PlanChanges.walk (P : paybooklaw09_PlanChanges.Pure) (a0_0 : Int) (a0_1 : Int) (a0_2 : Int) (a0_3 : Int) (a0_4 : Bool) (a0_5 : Bool) (a1_0 : Int) (a1_1 : Int) (a1_2 : Int) (a1_3 : Int) (a1_4 : Bool) (a1_5 : Bool) (a2 : Int) (a3 : Int) (w : World) (w0_0 : (Lit.int .i64 a0_0).wf = true) (w0_1 : (Lit.int .u8 a0_1).wf = true) (w0_2 : (Lit.int .i64 a0_2).wf = true) (w0_3 : (Lit.int .i64 a0_3).wf = true) (w1_0 : (Lit.int .i64 a1_0).wf = true) (w1_1 : (Lit.int .u8 a1_1).wf = true) (w1_2 : (Lit.int .i64 a1_2).wf = true) (w1_3 : (Lit.int .i64 a1_3).wf = true) (w2 : (Lit.int .i64 a2).wf = true) (w3 : (Lit.int .i64 a3).wf = true) :
  Calls Try.prog 3 #[.agg #[.int .i64 a0_0, .int .u8 a0_1, .int .i64 a0_2, .int .i64 a0_3, .bool a0_4, .bool a0_5], .agg #[.int .i64 a1_0, .int .u8 a1_1, .int .i64 a1_2, .int .i64 a1_3, .bool a1_4, .bool a1_5], .int .i64 a2, .int .i64 a3] w fun e w' => e = .returned (.bool true) ∧ Below w.heap.size w w' := by
 obtain ⟨k, h⟩ := P a0_0 a0_1 a0_2 a0_3 a0_4 a0_5 a1_0 a1_1 a1_2 a1_3 a1_4 a1_5 a2 a3 w0_0 w0_1 w0_2 w0_3 w1_0 w1_1 w1_2 w1_3 w2 w3
 refine (paybooklaw09_PlanChanges.calls k a0_0 a0_1 a0_2 a0_3 a0_4 a0_5 a1_0 a1_1 a1_2 a1_3 a1_4 a1_5 a2 a3 w h).mono ?_
 rintro e w' ⟨rfl, hd⟩
 exact ⟨rfl, hd⟩

end Go.Proofs.Ytbjelaocihjhgaa.PA
