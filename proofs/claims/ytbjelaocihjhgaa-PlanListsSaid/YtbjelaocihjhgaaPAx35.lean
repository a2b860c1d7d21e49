-- printed by this workplace: wip/patchprint.py over the kit's print
import Derived.Test.YtbjelaocihjhgaaPAx0
import Derived.Test.YtbjelaocihjhgaaPAx1
import Derived.Test.YtbjelaocihjhgaaPAx2
import Derived.Test.YtbjelaocihjhgaaPAx10
import Derived.Test.YtbjelaocihjhgaaPAx13
import Derived.Test.YtbjelaocihjhgaaPAx33
import Derived.Test.YtbjelaocihjhgaaPAx34
namespace Go.Proofs.Ytbjelaocihjhgaa.PA
open Go.RowKit Go.Proofs.YtbjelaocihjhgaaW.PrintWords Go.Proofs.YtbjelaocihjhgaaW.PrintLast Go.Proofs.YtbjelaocihjhgaaW.PrintMore
attribute [local go_sem] max2_int min2_int max_two min_two max_three min_three max_four min_four   -- for this text's walks alone
set_option linter.unusedVariables false
set_option linter.unusedSimpArgs false

attribute [local go_sem high] eqA23
/-! ### paybooklaw09_PlanLists: function 6 -/
mutual
def paybooklaw09_PlanLists.j0 : Nat → List (S23) → Int → Bool → Option (Bool)
 | 0, _, _, _ => none
 | k + 1, x0, x1, x24 => if x24 = true then ((paybooklaw09_awake.f k).bind fun t405 => (some t405)) else (paybooklaw09_PlanLists.l0 k x0 x1 ([] : List (S23)) ([] : List (S23)) 0)
def paybooklaw09_PlanLists.l0 : Nat → List (S23) → Int → List (S23) → List (S23) → Int → Option (Bool)
 | 0, _, _, _, _, _ => none
 | k + 1, x0, x1, x5, x6, x7 => if x7 < (x0.length : Int) then (if 0 ≤ x7 then (if (Int.tmod x7 3) > 0 then ((paybooklaw09_near.f ((rd_T23 x0 x7).f0) ((rd_T23 x0 x7).f1) ((rd_T23 x0 x7).f2) ((rd_T23 x0 x7).f3) ((rd_T23 x0 x7).f4) ((rd_T23 x0 x7).f5)).bind fun bt408 => (paybooklaw09_PlanLists.j2 k x0 x1 x5 x6 x7 bt408.1 bt408.2.1 bt408.2.2.1 bt408.2.2.2.1 bt408.2.2.2.2.1 bt408.2.2.2.2.2)) else (paybooklaw09_PlanLists.j2 k x0 x1 x5 x6 x7 ((rd_T23 x0 x7).f0) ((rd_T23 x0 x7).f1) ((rd_T23 x0 x7).f2) ((rd_T23 x0 x7).f3) ((rd_T23 x0 x7).f4) ((rd_T23 x0 x7).f5))) else (none)) else (paybooklaw09_PlanLists.l1 k x1 x5 x6 0)
def paybooklaw09_PlanLists.j2 : Nat → List (S23) → Int → List (S23) → List (S23) → Int → Int → Int → Int → Int → Bool → Bool → Option (Bool)
 | 0, _, _, _, _, _, _, _, _, _, _, _ => none
 | k + 1, x0, x1, x5, x6, x7, x408000, x408001, x408002, x408003, x408004, x408005 => (plan_List_Add.f k x5 x408000 x408001 x408002 x408003 x408004 x408005).bind fun bt414 => ((paybooklaw09_right.f k x408000 x408001 x408002 x408003 x408004 x408005).bind fun t419 => (if t419 = 0 then (paybooklaw09_PlanLists.j3 k x0 x1 x5 x6 x7 bt414.1 bt414.2.1 bt414.2.2 t419 (decide ((x6.length : Int) ≥ 8)) x408000 x408001 x408002 x408003 x408004 x408005) else (paybooklaw09_PlanLists.j3 k x0 x1 x5 x6 x7 bt414.1 bt414.2.1 bt414.2.2 t419 false x408000 x408001 x408002 x408003 x408004 x408005)))
def paybooklaw09_PlanLists.j3 : Nat → List (S23) → Int → List (S23) → List (S23) → Int → List (S23) → Int → Int → Int → Bool → Int → Int → Int → Int → Bool → Bool → Option (Bool)
 | 0, _, _, _, _, _, _, _, _, _, _, _, _, _, _, _, _ => none
 | k + 1, x0, x1, x5, x6, x7, x9, x10, x11, x12, x56, x408000, x408001, x408002, x408003, x408004, x408005 => if x56 = true then (paybooklaw09_PlanLists.j4 k x0 x1 x5 x6 x7 x9 x10 x11 3 x408000 x408001 x408002 x408003 x408004 x408005) else (paybooklaw09_PlanLists.j4 k x0 x1 x5 x6 x7 x9 x10 x11 x12 x408000 x408001 x408002 x408003 x408004 x408005)
def paybooklaw09_PlanLists.j4 : Nat → List (S23) → Int → List (S23) → List (S23) → Int → List (S23) → Int → Int → Int → Int → Int → Int → Int → Bool → Bool → Option (Bool)
 | 0, _, _, _, _, _, _, _, _, _, _, _, _, _, _, _ => none
 | k + 1, x0, x1, x5, x6, x7, x9, x10, x11, x12, x408000, x408001, x408002, x408003, x408004, x408005 => if x11 = x12 then (if x11 = 0 then (if x10 = (x6.length : Int) then (paybooklaw09_PlanLists.j5 k x0 x1 x5 x6 x7 x9 x11 ((x5.length : Int) != (x6.length : Int)) x408000 x408001 x408002 x408003 x408004 x408005) else (paybooklaw09_PlanLists.j5 k x0 x1 x5 x6 x7 x9 x11 true x408000 x408001 x408002 x408003 x408004 x408005)) else (if (x9.length : Int) = 0 then (if x10 = 0 then (paybooklaw09_PlanLists.j5 k x0 x1 x5 x6 x7 x9 x11 false x408000 x408001 x408002 x408003 x408004 x408005) else (paybooklaw09_PlanLists.j5 k x0 x1 x5 x6 x7 x9 x11 true x408000 x408001 x408002 x408003 x408004 x408005)) else (paybooklaw09_PlanLists.j5 k x0 x1 x5 x6 x7 x9 x11 true x408000 x408001 x408002 x408003 x408004 x408005))) else (paybooklaw09_PlanLists.j5 k x0 x1 x5 x6 x7 x9 x11 true x408000 x408001 x408002 x408003 x408004 x408005)
def paybooklaw09_PlanLists.j5 : Nat → List (S23) → Int → List (S23) → List (S23) → Int → List (S23) → Int → Bool → Int → Int → Int → Int → Bool → Bool → Option (Bool)
 | 0, _, _, _, _, _, _, _, _, _, _, _, _, _, _ => none
 | k + 1, x0, x1, x5, x6, x7, x9, x11, x89, x408000, x408001, x408002, x408003, x408004, x408005 => if x89 = true then (some false) else (if x11 = 0 then (if x6.length < 3518437208883 then (paybooklaw09_PlanLists.l0 k x0 x1 x9 (x6 ++ [(⟨x408000, x408001, x408002, x408003, x408004, x408005⟩ : S23)]) (wrap64 (x7 + 1))) else (none)) else (paybooklaw09_PlanLists.l0 k x0 x1 x5 x6 (wrap64 (x7 + 1))))
def paybooklaw09_PlanLists.l1 : Nat → Int → List (S23) → List (S23) → Int → Option (Bool)
 | 0, _, _, _, _ => none
 | k + 1, x1, x5, x6, x13 => if x13 < (x6.length : Int) then ((plan_List_Get.f x5 x13).bind fun bt423 => (if bt423.2.2.2.2.2.2 = 0 then (if 0 ≤ x13 then (if (!(bt423.1 == ((rd_T23 x6 x13).f0)) || (!(bt423.2.1 == ((rd_T23 x6 x13).f1)) || (!(bt423.2.2.1 == ((rd_T23 x6 x13).f2)) || (!(bt423.2.2.2.1 == ((rd_T23 x6 x13).f3)) || (!(bt423.2.2.2.2.1 == ((rd_T23 x6 x13).f4)) || (!(bt423.2.2.2.2.2.1 == ((rd_T23 x6 x13).f5)))))))) = true then (some false) else (paybooklaw09_PlanLists.l1 k x1 x5 x6 (wrap64 (x13 + 1)))) else (none)) else (some false))) else ((plan_List_Get.f x5 x1).bind fun bt432 => (if x1 ≥ 0 then (if ((bt432.2.2.2.2.2.2 == 0) == (decide (x1 < (x6.length : Int)))) = true then (if bt432.2.2.2.2.2.2 = 0 then (some true) else (some (bt432.2.2.2.2.2.2 == 2))) else (some false)) else (if ((bt432.2.2.2.2.2.2 == 0) == false) = true then (if bt432.2.2.2.2.2.2 = 0 then (some true) else (some (bt432.2.2.2.2.2.2 == 2))) else (some false))))
end
def paybooklaw09_PlanLists.f (k : Nat) (l0 : List (S23)) (a1 : Int) : Option (Bool) := (paybooklaw09_awake.f k).bind fun t404 => (if t404 = true then (paybooklaw09_PlanLists.j0 k l0 a1 (decide ((l0.length : Int) > 20))) else (paybooklaw09_PlanLists.j0 k l0 a1 true))
theorem paybooklaw09_PlanLists.mono_l : ∀ k, (∀ y0 y1 y2, LeO (paybooklaw09_PlanLists.j0 k y0 y1 y2) (paybooklaw09_PlanLists.j0 (k + 1) y0 y1 y2)) ∧ (∀ y0 y1 y2 y3 y4, LeO (paybooklaw09_PlanLists.l0 k y0 y1 y2 y3 y4) (paybooklaw09_PlanLists.l0 (k + 1) y0 y1 y2 y3 y4)) ∧ (∀ y0 y1 y2 y3 y4 y5 y6 y7 y8 y9 y10, LeO (paybooklaw09_PlanLists.j2 k y0 y1 y2 y3 y4 y5 y6 y7 y8 y9 y10) (paybooklaw09_PlanLists.j2 (k + 1) y0 y1 y2 y3 y4 y5 y6 y7 y8 y9 y10)) ∧ (∀ y0 y1 y2 y3 y4 y5 y6 y7 y8 y9 y10 y11 y12 y13 y14 y15, LeO (paybooklaw09_PlanLists.j3 k y0 y1 y2 y3 y4 y5 y6 y7 y8 y9 y10 y11 y12 y13 y14 y15) (paybooklaw09_PlanLists.j3 (k + 1) y0 y1 y2 y3 y4 y5 y6 y7 y8 y9 y10 y11 y12 y13 y14 y15)) ∧ (∀ y0 y1 y2 y3 y4 y5 y6 y7 y8 y9 y10 y11 y12 y13 y14, LeO (paybooklaw09_PlanLists.j4 k y0 y1 y2 y3 y4 y5 y6 y7 y8 y9 y10 y11 y12 y13 y14) (paybooklaw09_PlanLists.j4 (k + 1) y0 y1 y2 y3 y4 y5 y6 y7 y8 y9 y10 y11 y12 y13 y14)) ∧ (∀ y0 y1 y2 y3 y4 y5 y6 y7 y8 y9 y10 y11 y12 y13, LeO (paybooklaw09_PlanLists.j5 k y0 y1 y2 y3 y4 y5 y6 y7 y8 y9 y10 y11 y12 y13) (paybooklaw09_PlanLists.j5 (k + 1) y0 y1 y2 y3 y4 y5 y6 y7 y8 y9 y10 y11 y12 y13)) ∧ (∀ y0 y1 y2 y3, LeO (paybooklaw09_PlanLists.l1 k y0 y1 y2 y3) (paybooklaw09_PlanLists.l1 (k + 1) y0 y1 y2 y3))
 | 0 => ⟨fun _ _ _ r h => by simp [paybooklaw09_PlanLists.j0] at h, fun _ _ _ _ _ r h => by simp [paybooklaw09_PlanLists.l0] at h, fun _ _ _ _ _ _ _ _ _ _ _ r h => by simp [paybooklaw09_PlanLists.j2] at h, fun _ _ _ _ _ _ _ _ _ _ _ _ _ _ _ _ r h => by simp [paybooklaw09_PlanLists.j3] at h, fun _ _ _ _ _ _ _ _ _ _ _ _ _ _ _ r h => by simp [paybooklaw09_PlanLists.j4] at h, fun _ _ _ _ _ _ _ _ _ _ _ _ _ _ r h => by simp [paybooklaw09_PlanLists.j5] at h, fun _ _ _ _ r h => by simp [paybooklaw09_PlanLists.l1] at h⟩
 | k + 1 => by
  obtain ⟨ih0, ih1, ih2, ih3, ih4, ih5, ih6⟩ := paybooklaw09_PlanLists.mono_l k
  refine ⟨?_, ?_, ?_, ?_, ?_, ?_, ?_⟩
  ·intro y0 y1 y2
   unfold paybooklaw09_PlanLists.j0
   repeat' first
   | (with_reducible exact ih0 _ _ _)
   | (with_reducible exact ih1 _ _ _ _ _)
   | (with_reducible exact ih2 _ _ _ _ _ _ _ _ _ _ _)
   | (with_reducible exact ih3 _ _ _ _ _ _ _ _ _ _ _ _ _ _ _ _)
   | (with_reducible exact ih4 _ _ _ _ _ _ _ _ _ _ _ _ _ _ _)
   | (with_reducible exact ih5 _ _ _ _ _ _ _ _ _ _ _ _ _ _)
   | (with_reducible exact ih6 _ _ _ _)
   | (with_reducible exact paybooklaw09_awake.mono _)
   | (with_reducible exact paybooklaw09_right.mono _ _ _ _ _ _ _)
   | (with_reducible exact plan_List_Add.mono _ _ _ _ _ _ _ _)
   | (with_reducible exact LeO.refl _)
   | (with_reducible exact LeO.none _)
   | (with_reducible refine LeO.ite ?_ ?_)
   | (with_reducible refine LeO.bind ?_ (fun _ => ?_))
   | exact ih0 _ _ _
   | exact ih1 _ _ _ _ _
   | exact ih2 _ _ _ _ _ _ _ _ _ _ _
   | exact ih3 _ _ _ _ _ _ _ _ _ _ _ _ _ _ _ _
   | exact ih4 _ _ _ _ _ _ _ _ _ _ _ _ _ _ _
   | exact ih5 _ _ _ _ _ _ _ _ _ _ _ _ _ _
   | exact ih6 _ _ _ _
   | exact paybooklaw09_awake.mono _
   | exact paybooklaw09_right.mono _ _ _ _ _ _ _
   | exact plan_List_Add.mono _ _ _ _ _ _ _ _
   | exact LeO.none _
   | refine LeO.ite ?_ ?_
   | refine LeO.bind ?_ (fun _ => ?_)
  ·intro y0 y1 y2 y3 y4
   unfold paybooklaw09_PlanLists.l0
   repeat' first
   | (with_reducible exact ih0 _ _ _)
   | (with_reducible exact ih1 _ _ _ _ _)
   | (with_reducible exact ih2 _ _ _ _ _ _ _ _ _ _ _)
   | (with_reducible exact ih3 _ _ _ _ _ _ _ _ _ _ _ _ _ _ _ _)
   | (with_reducible exact ih4 _ _ _ _ _ _ _ _ _ _ _ _ _ _ _)
   | (with_reducible exact ih5 _ _ _ _ _ _ _ _ _ _ _ _ _ _)
   | (with_reducible exact ih6 _ _ _ _)
   | (with_reducible exact paybooklaw09_awake.mono _)
   | (with_reducible exact paybooklaw09_right.mono _ _ _ _ _ _ _)
   | (with_reducible exact plan_List_Add.mono _ _ _ _ _ _ _ _)
   | (with_reducible exact LeO.refl _)
   | (with_reducible exact LeO.none _)
   | (with_reducible refine LeO.ite ?_ ?_)
   | (with_reducible refine LeO.bind ?_ (fun _ => ?_))
   | exact ih0 _ _ _
   | exact ih1 _ _ _ _ _
   | exact ih2 _ _ _ _ _ _ _ _ _ _ _
   | exact ih3 _ _ _ _ _ _ _ _ _ _ _ _ _ _ _ _
   | exact ih4 _ _ _ _ _ _ _ _ _ _ _ _ _ _ _
   | exact ih5 _ _ _ _ _ _ _ _ _ _ _ _ _ _
   | exact ih6 _ _ _ _
   | exact paybooklaw09_awake.mono _
   | exact paybooklaw09_right.mono _ _ _ _ _ _ _
   | exact plan_List_Add.mono _ _ _ _ _ _ _ _
   | exact LeO.none _
   | refine LeO.ite ?_ ?_
   | refine LeO.bind ?_ (fun _ => ?_)
  ·intro y0 y1 y2 y3 y4 y5 y6 y7 y8 y9 y10
   unfold paybooklaw09_PlanLists.j2
   repeat' first
   | (with_reducible exact ih0 _ _ _)
   | (with_reducible exact ih1 _ _ _ _ _)
   | (with_reducible exact ih2 _ _ _ _ _ _ _ _ _ _ _)
   | (with_reducible exact ih3 _ _ _ _ _ _ _ _ _ _ _ _ _ _ _ _)
   | (with_reducible exact ih4 _ _ _ _ _ _ _ _ _ _ _ _ _ _ _)
   | (with_reducible exact ih5 _ _ _ _ _ _ _ _ _ _ _ _ _ _)
   | (with_reducible exact ih6 _ _ _ _)
   | (with_reducible exact paybooklaw09_awake.mono _)
   | (with_reducible exact paybooklaw09_right.mono _ _ _ _ _ _ _)
   | (with_reducible exact plan_List_Add.mono _ _ _ _ _ _ _ _)
   | (with_reducible exact LeO.refl _)
   | (with_reducible exact LeO.none _)
   | (with_reducible refine LeO.ite ?_ ?_)
   | (with_reducible refine LeO.bind ?_ (fun _ => ?_))
   | exact ih0 _ _ _
   | exact ih1 _ _ _ _ _
   | exact ih2 _ _ _ _ _ _ _ _ _ _ _
   | exact ih3 _ _ _ _ _ _ _ _ _ _ _ _ _ _ _ _
   | exact ih4 _ _ _ _ _ _ _ _ _ _ _ _ _ _ _
   | exact ih5 _ _ _ _ _ _ _ _ _ _ _ _ _ _
   | exact ih6 _ _ _ _
   | exact paybooklaw09_awake.mono _
   | exact paybooklaw09_right.mono _ _ _ _ _ _ _
   | exact plan_List_Add.mono _ _ _ _ _ _ _ _
   | exact LeO.none _
   | refine LeO.ite ?_ ?_
   | refine LeO.bind ?_ (fun _ => ?_)
  ·intro y0 y1 y2 y3 y4 y5 y6 y7 y8 y9 y10 y11 y12 y13 y14 y15
   unfold paybooklaw09_PlanLists.j3
   repeat' first
   | (with_reducible exact ih0 _ _ _)
   | (with_reducible exact ih1 _ _ _ _ _)
   | (with_reducible exact ih2 _ _ _ _ _ _ _ _ _ _ _)
   | (with_reducible exact ih3 _ _ _ _ _ _ _ _ _ _ _ _ _ _ _ _)
   | (with_reducible exact ih4 _ _ _ _ _ _ _ _ _ _ _ _ _ _ _)
   | (with_reducible exact ih5 _ _ _ _ _ _ _ _ _ _ _ _ _ _)
   | (with_reducible exact ih6 _ _ _ _)
   | (with_reducible exact paybooklaw09_awake.mono _)
   | (with_reducible exact paybooklaw09_right.mono _ _ _ _ _ _ _)
   | (with_reducible exact plan_List_Add.mono _ _ _ _ _ _ _ _)
   | (with_reducible exact LeO.refl _)
   | (with_reducible exact LeO.none _)
   | (with_reducible refine LeO.ite ?_ ?_)
   | (with_reducible refine LeO.bind ?_ (fun _ => ?_))
   | exact ih0 _ _ _
   | exact ih1 _ _ _ _ _
   | exact ih2 _ _ _ _ _ _ _ _ _ _ _
   | exact ih3 _ _ _ _ _ _ _ _ _ _ _ _ _ _ _ _
   | exact ih4 _ _ _ _ _ _ _ _ _ _ _ _ _ _ _
   | exact ih5 _ _ _ _ _ _ _ _ _ _ _ _ _ _
   | exact ih6 _ _ _ _
   | exact paybooklaw09_awake.mono _
   | exact paybooklaw09_right.mono _ _ _ _ _ _ _
   | exact plan_List_Add.mono _ _ _ _ _ _ _ _
   | exact LeO.none _
   | refine LeO.ite ?_ ?_
   | refine LeO.bind ?_ (fun _ => ?_)
  ·intro y0 y1 y2 y3 y4 y5 y6 y7 y8 y9 y10 y11 y12 y13 y14
   unfold paybooklaw09_PlanLists.j4
   repeat' first
   | (with_reducible exact ih0 _ _ _)
   | (with_reducible exact ih1 _ _ _ _ _)
   | (with_reducible exact ih2 _ _ _ _ _ _ _ _ _ _ _)
   | (with_reducible exact ih3 _ _ _ _ _ _ _ _ _ _ _ _ _ _ _ _)
   | (with_reducible exact ih4 _ _ _ _ _ _ _ _ _ _ _ _ _ _ _)
   | (with_reducible exact ih5 _ _ _ _ _ _ _ _ _ _ _ _ _ _)
   | (with_reducible exact ih6 _ _ _ _)
   | (with_reducible exact paybooklaw09_awake.mono _)
   | (with_reducible exact paybooklaw09_right.mono _ _ _ _ _ _ _)
   | (with_reducible exact plan_List_Add.mono _ _ _ _ _ _ _ _)
   | (with_reducible exact LeO.refl _)
   | (with_reducible exact LeO.none _)
   | (with_reducible refine LeO.ite ?_ ?_)
   | (with_reducible refine LeO.bind ?_ (fun _ => ?_))
   | exact ih0 _ _ _
   | exact ih1 _ _ _ _ _
   | exact ih2 _ _ _ _ _ _ _ _ _ _ _
   | exact ih3 _ _ _ _ _ _ _ _ _ _ _ _ _ _ _ _
   | exact ih4 _ _ _ _ _ _ _ _ _ _ _ _ _ _ _
   | exact ih5 _ _ _ _ _ _ _ _ _ _ _ _ _ _
   | exact ih6 _ _ _ _
   | exact paybooklaw09_awake.mono _
   | exact paybooklaw09_right.mono _ _ _ _ _ _ _
   | exact plan_List_Add.mono _ _ _ _ _ _ _ _
   | exact LeO.none _
   | refine LeO.ite ?_ ?_
   | refine LeO.bind ?_ (fun _ => ?_)
  ·intro y0 y1 y2 y3 y4 y5 y6 y7 y8 y9 y10 y11 y12 y13
   unfold paybooklaw09_PlanLists.j5
   repeat' first
   | (with_reducible exact ih0 _ _ _)
   | (with_reducible exact ih1 _ _ _ _ _)
   | (with_reducible exact ih2 _ _ _ _ _ _ _ _ _ _ _)
   | (with_reducible exact ih3 _ _ _ _ _ _ _ _ _ _ _ _ _ _ _ _)
   | (with_reducible exact ih4 _ _ _ _ _ _ _ _ _ _ _ _ _ _ _)
   | (with_reducible exact ih5 _ _ _ _ _ _ _ _ _ _ _ _ _ _)
   | (with_reducible exact ih6 _ _ _ _)
   | (with_reducible exact paybooklaw09_awake.mono _)
   | (with_reducible exact paybooklaw09_right.mono _ _ _ _ _ _ _)
   | (with_reducible exact plan_List_Add.mono _ _ _ _ _ _ _ _)
   | (with_reducible exact LeO.refl _)
   | (with_reducible exact LeO.none _)
   | (with_reducible refine LeO.ite ?_ ?_)
   | (with_reducible refine LeO.bind ?_ (fun _ => ?_))
   | exact ih0 _ _ _
   | exact ih1 _ _ _ _ _
   | exact ih2 _ _ _ _ _ _ _ _ _ _ _
   | exact ih3 _ _ _ _ _ _ _ _ _ _ _ _ _ _ _ _
   | exact ih4 _ _ _ _ _ _ _ _ _ _ _ _ _ _ _
   | exact ih5 _ _ _ _ _ _ _ _ _ _ _ _ _ _
   | exact ih6 _ _ _ _
   | exact paybooklaw09_awake.mono _
   | exact paybooklaw09_right.mono _ _ _ _ _ _ _
   | exact plan_List_Add.mono _ _ _ _ _ _ _ _
   | exact LeO.none _
   | refine LeO.ite ?_ ?_
   | refine LeO.bind ?_ (fun _ => ?_)
  ·intro y0 y1 y2 y3
   unfold paybooklaw09_PlanLists.l1
   repeat' first
   | (with_reducible exact ih0 _ _ _)
   | (with_reducible exact ih1 _ _ _ _ _)
   | (with_reducible exact ih2 _ _ _ _ _ _ _ _ _ _ _)
   | (with_reducible exact ih3 _ _ _ _ _ _ _ _ _ _ _ _ _ _ _ _)
   | (with_reducible exact ih4 _ _ _ _ _ _ _ _ _ _ _ _ _ _ _)
   | (with_reducible exact ih5 _ _ _ _ _ _ _ _ _ _ _ _ _ _)
   | (with_reducible exact ih6 _ _ _ _)
   | (with_reducible exact paybooklaw09_awake.mono _)
   | (with_reducible exact paybooklaw09_right.mono _ _ _ _ _ _ _)
   | (with_reducible exact plan_List_Add.mono _ _ _ _ _ _ _ _)
   | (with_reducible exact LeO.refl _)
   | (with_reducible exact LeO.none _)
   | (with_reducible refine LeO.ite ?_ ?_)
   | (with_reducible refine LeO.bind ?_ (fun _ => ?_))
   | exact ih0 _ _ _
   | exact ih1 _ _ _ _ _
   | exact ih2 _ _ _ _ _ _ _ _ _ _ _
   | exact ih3 _ _ _ _ _ _ _ _ _ _ _ _ _ _ _ _
   | exact ih4 _ _ _ _ _ _ _ _ _ _ _ _ _ _ _
   | exact ih5 _ _ _ _ _ _ _ _ _ _ _ _ _ _
   | exact ih6 _ _ _ _
   | exact paybooklaw09_awake.mono _
   | exact paybooklaw09_right.mono _ _ _ _ _ _ _
   | exact plan_List_Add.mono _ _ _ _ _ _ _ _
   | exact LeO.none _
   | refine LeO.ite ?_ ?_
   | refine LeO.bind ?_ (fun _ => ?_)
theorem paybooklaw09_PlanLists.mono : ∀ a0 a1 k, LeO (paybooklaw09_PlanLists.f k a0 a1) (paybooklaw09_PlanLists.f (k + 1) a0 a1) := by
 intro a0 a1 k
 obtain ⟨ih0, ih1, ih2, ih3, ih4, ih5, ih6⟩ := paybooklaw09_PlanLists.mono_l k
 unfold paybooklaw09_PlanLists.f
 repeat' first
   | (with_reducible exact ih0 _ _ _)
   | (with_reducible exact ih1 _ _ _ _ _)
   | (with_reducible exact ih2 _ _ _ _ _ _ _ _ _ _ _)
   | (with_reducible exact ih3 _ _ _ _ _ _ _ _ _ _ _ _ _ _ _ _)
   | (with_reducible exact ih4 _ _ _ _ _ _ _ _ _ _ _ _ _ _ _)
   | (with_reducible exact ih5 _ _ _ _ _ _ _ _ _ _ _ _ _ _)
   | (with_reducible exact ih6 _ _ _ _)
   | (with_reducible exact paybooklaw09_awake.mono _)
   | (with_reducible exact paybooklaw09_right.mono _ _ _ _ _ _ _)
   | (with_reducible exact plan_List_Add.mono _ _ _ _ _ _ _ _)
   | (with_reducible exact LeO.refl _)
   | (with_reducible exact LeO.none _)
   | (with_reducible refine LeO.ite ?_ ?_)
   | (with_reducible refine LeO.bind ?_ (fun _ => ?_))
   | exact ih0 _ _ _
   | exact ih1 _ _ _ _ _
   | exact ih2 _ _ _ _ _ _ _ _ _ _ _
   | exact ih3 _ _ _ _ _ _ _ _ _ _ _ _ _ _ _ _
   | exact ih4 _ _ _ _ _ _ _ _ _ _ _ _ _ _ _
   | exact ih5 _ _ _ _ _ _ _ _ _ _ _ _ _ _
   | exact ih6 _ _ _ _
   | exact paybooklaw09_awake.mono _
   | exact paybooklaw09_right.mono _ _ _ _ _ _ _
   | exact plan_List_Add.mono _ _ _ _ _ _ _ _
   | exact LeO.none _
   | refine LeO.ite ?_ ?_
   | refine LeO.bind ?_ (fun _ => ?_)
set_option maxHeartbeats 40000000 in
set_option maxRecDepth 100000 in
theorem paybooklaw09_PlanLists.calls (k : Nat) (A0 : Option Addr) (c0 : Nat) (l0 : List (S23)) (a1 : Int) (w : World) (hr0 : Kd.C k23 w A0 l0.length l0) (hc0 : l0.length ≤ c0) (h : paybooklaw09_PlanLists.f k l0 a1 = some true) :
  Calls Try.prog 6 #[.slice A0 l0.length c0, .int .i64 a1] w fun e w' => e = .returned (.bool true) ∧ Below w.heap.size w w' := by
 have hu23 := Try.underlying23
 have HR0 := Aside0.mk hr0
 have HC0 := Aside0.mk hc0
 clear hr0 hc0
 have HB := Aside0.mk (Below.refl w.heap.size w)
 have H : ((paybooklaw09_awake.f k).bind fun t404 => (if t404 = true then (paybooklaw09_PlanLists.j0 k l0 a1 (decide ((l0.length : Int) > 20))) else (paybooklaw09_PlanLists.j0 k l0 a1 true))) = some true := h
 clear h
 have HC3 := Aside0.mk H
 clear H
 go_enter Try.func6, Try.ntmps6
 go_upto_region 1 with (fail)
 repeat (go_quiet (fail); go_upto_region 1 with (fail))
 go_cut [24] (fun v24 wc => ∃ (kq : Nat) (x24_2 : Bool), v24 = .bool x24_2 ∧ Aside0 (paybooklaw09_PlanLists.j0 kq l0 a1 x24_2 = some true) ∧ Aside0 (kq ≤ k) ∧ Aside0 (Below w.heap.size w wc))
 case first =>
  have H := HC3.out
  clear HC3
  replace H := Option.bind_eq_some_iff.mp H
  obtain ⟨t404, A40, H⟩ := H
  replace H : (if t404 = true then (paybooklaw09_PlanLists.j0 k l0 a1 (decide ((l0.length : Int) > 20))) else (paybooklaw09_PlanLists.j0 k l0 a1 true)) = some true := H
  have A4 := Aside0.mk A40
  clear A40
  by_cases c5 : t404 = true
  ·subst c5
   have H1 : (paybooklaw09_PlanLists.j0 k l0 a1 (decide ((l0.length : Int) > 20))) = some true := by rw [if_pos rfl] at H; try exact H
   clear H
   have H := H1
   clear H1
   have H' := Aside0.mk H
   clear H
   go_wp2_with (first | (go_at_call 11; (with_reducible refine (paybooklaw09_awake.calls k  true _ A4.out).mono ?_); rintro e w6 ⟨rfl, hb⟩; have n0_ := Aside0.mk (below_step (by repeat (first | (with_reducible first | exact HB.out | apply kL | apply kM | apply kE) | exact HB.out)) hb); clear HB; have HB := n0_; clear n0_; (try clear hb); (try clear hb2); (try clear hk); (try clear hi)))
   repeat (go_quiet (first | (go_at_call 11; (with_reducible refine (paybooklaw09_awake.calls k  true _ A4.out).mono ?_); rintro e w6 ⟨rfl, hb⟩; have n0_ := Aside0.mk (below_step (by repeat (first | (with_reducible first | exact HB.out | apply kL | apply kM | apply kE) | exact HB.out)) hb); clear HB; have HB := n0_; clear n0_; (try clear hb); (try clear hb2); (try clear hk); (try clear hi))); try go_wp2_with (first | (go_at_call 11; (with_reducible refine (paybooklaw09_awake.calls k  true _ A4.out).mono ?_); rintro e w6 ⟨rfl, hb⟩; have n0_ := Aside0.mk (below_step (by repeat (first | (with_reducible first | exact HB.out | apply kL | apply kM | apply kE) | exact HB.out)) hb); clear HB; have HB := n0_; clear n0_; (try clear hb); (try clear hb2); (try clear hk); (try clear hi))))
   go_meet
   case rel => exact ⟨_, (decide ((l0.length : Int) > 20)), (by first | rfl | (simp; done) | (simp [*]; done)), (by first | (with_reducible exact H') | (simp only [*]; with_reducible exact H') | exact H'), ⟨by first | omega | exact Nat.le_refl _⟩, ⟨by repeat (first | (with_reducible first | exact HB.out | apply kL | apply kM | apply kE) | exact HB.out)⟩⟩
  ·replace c5 := Bool.eq_false_iff.mpr c5
   subst c5
   have H1 : (paybooklaw09_PlanLists.j0 k l0 a1 true) = some true := by rw [if_neg (show ¬ (false = true) by decide)] at H; try exact H
   clear H
   have H := H1
   clear H1
   have H' := Aside0.mk H
   clear H
   go_wp2_with (first | (go_at_call 11; (with_reducible refine (paybooklaw09_awake.calls k  false _ A4.out).mono ?_); rintro e w7 ⟨rfl, hb⟩; have n0_ := Aside0.mk (below_step (by repeat (first | (with_reducible first | exact HB.out | apply kL | apply kM | apply kE) | exact HB.out)) hb); clear HB; have HB := n0_; clear n0_; (try clear hb); (try clear hb2); (try clear hk); (try clear hi)))
   repeat (go_quiet (first | (go_at_call 11; (with_reducible refine (paybooklaw09_awake.calls k  false _ A4.out).mono ?_); rintro e w7 ⟨rfl, hb⟩; have n0_ := Aside0.mk (below_step (by repeat (first | (with_reducible first | exact HB.out | apply kL | apply kM | apply kE) | exact HB.out)) hb); clear HB; have HB := n0_; clear n0_; (try clear hb); (try clear hb2); (try clear hk); (try clear hi))); try go_wp2_with (first | (go_at_call 11; (with_reducible refine (paybooklaw09_awake.calls k  false _ A4.out).mono ?_); rintro e w7 ⟨rfl, hb⟩; have n0_ := Aside0.mk (below_step (by repeat (first | (with_reducible first | exact HB.out | apply kL | apply kM | apply kE) | exact HB.out)) hb); clear HB; have HB := n0_; clear n0_; (try clear hb); (try clear hb2); (try clear hk); (try clear hi))))
   go_meet
   case rel => exact ⟨_, (true), (by first | rfl | (simp; done) | (simp [*]; done)), (by first | (with_reducible exact H') | (simp only [*]; with_reducible exact H') | exact H'), ⟨by first | omega | exact Nat.le_refl _⟩, ⟨by repeat (first | (with_reducible first | exact HB.out | apply kL | apply kM | apply kE) | exact HB.out)⟩⟩
 case rest =>
  clear HC3
  try clear p2
  try clear c5
  try clear c6
  obtain ⟨kq, x24_2, rfl, HA, HJ2, HB⟩ := hcut
  cases kq with
  | zero => exact absurd HA.out (by simp [paybooklaw09_PlanLists.j0])
  | succ kj2 =>
   have H := HA.out
   clear HA
   simp only [paybooklaw09_PlanLists.j0] at H
   by_cases c8 : x24_2 = true
   ·subst c8
    have H1 : ((paybooklaw09_awake.f kj2).bind fun t405 => (some t405)) = some true := by rw [if_pos rfl] at H; try exact H
    clear H
    have H := H1
    clear H1
    replace H := Option.bind_eq_some_iff.mp H
    obtain ⟨t405, A90, H⟩ := H
    replace H : (some t405) = some true := H
    have A9 := Aside0.mk A90
    clear A90
    have HT_ := Option.some.inj H
    clear H
    (try (have HT_z_ := HT_; simp only [beq_true, beq_false, true_beq, false_beq, Bool.not_eq_true', Bool.not_eq_false', Bool.not_true, Bool.not_false] at HT_z_))
    go_wp2_with (first | (go_at_call 11; (with_reducible refine (paybooklaw09_awake.calls kj2  t405 _ A9.out).mono ?_); rintro e w10 ⟨rfl, hb⟩; have n0_ := Aside0.mk (below_step (by repeat (first | (with_reducible first | exact HB.out | apply kL | apply kM | apply kE) | exact HB.out)) hb); clear HB; have HB := n0_; clear n0_; (try clear hb); (try clear hb2); (try clear hk); (try clear hi)))
    repeat (go_quiet (first | (go_at_call 11; (with_reducible refine (paybooklaw09_awake.calls kj2  t405 _ A9.out).mono ?_); rintro e w10 ⟨rfl, hb⟩; have n0_ := Aside0.mk (below_step (by repeat (first | (with_reducible first | exact HB.out | apply kL | apply kM | apply kE) | exact HB.out)) hb); clear HB; have HB := n0_; clear n0_; (try clear hb); (try clear hb2); (try clear hk); (try clear hi))); try go_wp2_with (first | (go_at_call 11; (with_reducible refine (paybooklaw09_awake.calls kj2  t405 _ A9.out).mono ?_); rintro e w10 ⟨rfl, hb⟩; have n0_ := Aside0.mk (below_step (by repeat (first | (with_reducible first | exact HB.out | apply kL | apply kM | apply kE) | exact HB.out)) hb); clear HB; have HB := n0_; clear n0_; (try clear hb); (try clear hb2); (try clear hk); (try clear hi))))
    go_ret
    exact ⟨by first | rfl | (simp [errW_none, errW_some] <;> rfl) | (simp [*, errW_none, errW_some] <;> rfl), by repeat (first | (with_reducible first | exact HB.out | apply kL | apply kM | apply kE) | exact HB.out)⟩
   ·replace c8 := Bool.eq_false_iff.mpr c8
    subst c8
    have H1 : (paybooklaw09_PlanLists.l0 kj2 l0 a1 ([] : List (S23)) ([] : List (S23)) 0) = some true := by rw [if_neg (show ¬ (false = true) by decide)] at H; try exact H
    clear H
    have H := H1
    clear H1
    have H' := Aside0.mk H
    clear H
    go_wp2
    repeat (go_quiet (fail); try go_wp2)
    go_loopg [5, 6, 7] kj2 (fun kq v5 v6 v7 w' => ∃ (x5_2 : List (S23)) (x6_2 : List (S23)) (x7_2 : Int), v7 = .int .i64 x7_2 ∧ Aside0 (paybooklaw09_PlanLists.l0 kq l0 a1 x5_2 x6_2 x7_2 = some true) ∧ Aside0 (kq ≤ kj2) ∧ Aside0 (Kd.R k23 23 w' w.heap.size (fun k_ => some k_ ≠ (v6 : Value).ownBlock) v5 x5_2) ∧ Aside0 (Kd.R k23 23 w' w.heap.size (fun k_ => some k_ ≠ (v5 : Value).ownBlock) v6 x6_2) ∧ Aside0 (Below w.heap.size w w'))
    case atStart => exact ⟨(([] : List (S23))), (([] : List (S23))), (0), (by first | rfl | (simp; done) | (simp [*]; done)), H', ⟨Nat.le_refl _⟩, ⟨by first | exact Kd.R_nil _ _ _ _ _ | exact Kd.N_nil _ _ _ _ _ | exact Kd.V_nil _ _ _ _ _ | exact Kd.Q_nil _ _ _ _ _ | exact Kd.S_nil _ _ _ _ _⟩, ⟨by first | exact Kd.R_nil _ _ _ _ _ | exact Kd.N_nil _ _ _ _ _ | exact Kd.V_nil _ _ _ _ _ | exact Kd.Q_nil _ _ _ _ _ | exact Kd.S_nil _ _ _ _ _⟩, ⟨by repeat (first | (with_reducible first | exact HB.out | apply kL | apply kM | apply kE) | exact HB.out)⟩⟩
    case round =>
     clear H'
     try clear p2
     try clear c5
     try clear c6
     try clear c8
     try clear p2
     obtain ⟨x5_2, x6_2, x7_2, rfl, HA, HK2, HO_5, HO_6, HB⟩ := hrel
     cases gk with
     | zero => exact absurd HA.out (by simp [paybooklaw09_PlanLists.l0])
     | succ k2 =>
      have H := HA.out
      clear HA
      simp only [paybooklaw09_PlanLists.l0] at H
      by_cases c11 : x7_2 < (l0.length : Int)
      ·rw [if_pos c11] at H
       have c11b0 : decide (x7_2 < (l0.length : Int)) = true := decide_eq_true c11
       clear c11
       by_cases c12 : 0 ≤ x7_2
       ·rw [if_pos c12] at H
        have c12b0 : decide (0 ≤ x7_2) = true := decide_eq_true c12
        clear c12
        have HC13 := Aside0.mk H
        clear H
        have p406 : 0 ≤ (x7_2 : Int) := of_decide_eq_true (by first | (with_reducible assumption) | assumption)
        have q406 : x7_2 < (l0.length : Int) := of_decide_eq_true (by first | (with_reducible assumption) | assumption)
        obtain ⟨ad406, e406, hx406_0, hx406_1, hx406_2, hx406_3, hx406_4, hx406_5⟩ := at_T23 HR0.out x7_2 p406 q406
        cases e406
        replace hx406_0 := (HB.out.cell (World.block_lt_of_cell? w _ hx406_0)).trans hx406_0
        replace hx406_1 := (HB.out.cell (World.block_lt_of_cell? w _ hx406_1)).trans hx406_1
        replace hx406_2 := (HB.out.cell (World.block_lt_of_cell? w _ hx406_2)).trans hx406_2
        replace hx406_3 := (HB.out.cell (World.block_lt_of_cell? w _ hx406_3)).trans hx406_3
        replace hx406_4 := (HB.out.cell (World.block_lt_of_cell? w _ hx406_4)).trans hx406_4
        replace hx406_5 := (HB.out.cell (World.block_lt_of_cell? w _ hx406_5)).trans hx406_5
        replace p406 := eq_true p406
        replace q406 := eq_true q406
        go_upto_if 38 with (first | ((with_reducible refine gate_dst (N := 8) rfl ?_); (try (refine gate_guard (by rfl) ?_; dsimp only)); refine box_event ?hg (N := 8) ?hd (cs := #[.int .i64 0, .int .u8 0, .int .i64 0, .int .i64 0, .bool false, .bool false]) (t := 23) ?hr ?_; (case hd => rfl); (case hg => rfl); (case hr => first | (go_simp; done) | (go_simp; rfl)); intro gb407 hg w14 hbox hb; have n0_ := Aside0.mk (Kd.R_below (Kd.R_elderB (by (with_reducible repeat (first | apply Kd.R_alloc | apply Kd.R_drewN | apply Kd.R_drew)); exact HO_5.out) gb407 (Nat.le_of_eq hg.symm)) hb); have n1_ := Aside0.mk (Kd.R_below (Kd.R_elderB (by (with_reducible repeat (first | apply Kd.R_alloc | apply Kd.R_drewN | apply Kd.R_drew)); exact HO_6.out) gb407 (Nat.le_of_eq hg.symm)) hb); have n2_ := Aside0.mk (below_step (by repeat (first | (with_reducible first | exact HB.out | apply kL | apply kM | apply kE) | exact HB.out)) hb); have n3_ := Aside0.mk (hbox); have n4_ := Aside0.mk ((by rw [hg]; exact (below_size (by repeat (first | (with_reducible first | exact HB.out | apply kL | apply kM | apply kE) | exact HB.out))) : w.heap.size ≤ gb407)); have n5_ := Aside0.mk ((by rw [hg]; exact (below_size (by repeat (first | (with_reducible first | exact HB.out | apply kL | apply kM | apply kE) | exact HB.out))) : w.heap.size ≤ gb407)); clear HO_5; clear HO_6; clear HB; have HO_5 := n0_; have HO_6 := n1_; have HB := n2_; have BK407 := n3_; have GW407 := n4_; have GE407 := n5_; clear n0_ n1_ n2_ n3_ n4_ n5_; clear hb hbox hg; obtain ⟨hcz15_0, hcz15_1, hcz15_2, hcz15_3, hcz15_4, hcz15_5, hfz15_0, hfz15_1, hfz15_2, hfz15_3, hfz15_4, hfz15_5⟩ := bxc6 BK407.out))
        repeat (go_quiet (first | ((with_reducible refine gate_dst (N := 8) rfl ?_); (try (refine gate_guard (by rfl) ?_; dsimp only)); refine box_event ?hg (N := 8) ?hd (cs := #[.int .i64 0, .int .u8 0, .int .i64 0, .int .i64 0, .bool false, .bool false]) (t := 23) ?hr ?_; (case hd => rfl); (case hg => rfl); (case hr => first | (go_simp; done) | (go_simp; rfl)); intro gb407 hg w14 hbox hb; have n0_ := Aside0.mk (Kd.R_below (Kd.R_elderB (by (with_reducible repeat (first | apply Kd.R_alloc | apply Kd.R_drewN | apply Kd.R_drew)); exact HO_5.out) gb407 (Nat.le_of_eq hg.symm)) hb); have n1_ := Aside0.mk (Kd.R_below (Kd.R_elderB (by (with_reducible repeat (first | apply Kd.R_alloc | apply Kd.R_drewN | apply Kd.R_drew)); exact HO_6.out) gb407 (Nat.le_of_eq hg.symm)) hb); have n2_ := Aside0.mk (below_step (by repeat (first | (with_reducible first | exact HB.out | apply kL | apply kM | apply kE) | exact HB.out)) hb); have n3_ := Aside0.mk (hbox); have n4_ := Aside0.mk ((by rw [hg]; exact (below_size (by repeat (first | (with_reducible first | exact HB.out | apply kL | apply kM | apply kE) | exact HB.out))) : w.heap.size ≤ gb407)); have n5_ := Aside0.mk ((by rw [hg]; exact (below_size (by repeat (first | (with_reducible first | exact HB.out | apply kL | apply kM | apply kE) | exact HB.out))) : w.heap.size ≤ gb407)); clear HO_5; clear HO_6; clear HB; have HO_5 := n0_; have HO_6 := n1_; have HB := n2_; have BK407 := n3_; have GW407 := n4_; have GE407 := n5_; clear n0_ n1_ n2_ n3_ n4_ n5_; clear hb hbox hg; obtain ⟨hcz15_0, hcz15_1, hcz15_2, hcz15_3, hcz15_4, hcz15_5, hfz15_0, hfz15_1, hfz15_2, hfz15_3, hfz15_4, hfz15_5⟩ := bxc6 BK407.out)); go_upto_if 38 with (first | ((with_reducible refine gate_dst (N := 8) rfl ?_); (try (refine gate_guard (by rfl) ?_; dsimp only)); refine box_event ?hg (N := 8) ?hd (cs := #[.int .i64 0, .int .u8 0, .int .i64 0, .int .i64 0, .bool false, .bool false]) (t := 23) ?hr ?_; (case hd => rfl); (case hg => rfl); (case hr => first | (go_simp; done) | (go_simp; rfl)); intro gb407 hg w14 hbox hb; have n0_ := Aside0.mk (Kd.R_below (Kd.R_elderB (by (with_reducible repeat (first | apply Kd.R_alloc | apply Kd.R_drewN | apply Kd.R_drew)); exact HO_5.out) gb407 (Nat.le_of_eq hg.symm)) hb); have n1_ := Aside0.mk (Kd.R_below (Kd.R_elderB (by (with_reducible repeat (first | apply Kd.R_alloc | apply Kd.R_drewN | apply Kd.R_drew)); exact HO_6.out) gb407 (Nat.le_of_eq hg.symm)) hb); have n2_ := Aside0.mk (below_step (by repeat (first | (with_reducible first | exact HB.out | apply kL | apply kM | apply kE) | exact HB.out)) hb); have n3_ := Aside0.mk (hbox); have n4_ := Aside0.mk ((by rw [hg]; exact (below_size (by repeat (first | (with_reducible first | exact HB.out | apply kL | apply kM | apply kE) | exact HB.out))) : w.heap.size ≤ gb407)); have n5_ := Aside0.mk ((by rw [hg]; exact (below_size (by repeat (first | (with_reducible first | exact HB.out | apply kL | apply kM | apply kE) | exact HB.out))) : w.heap.size ≤ gb407)); clear HO_5; clear HO_6; clear HB; have HO_5 := n0_; have HO_6 := n1_; have HB := n2_; have BK407 := n3_; have GW407 := n4_; have GE407 := n5_; clear n0_ n1_ n2_ n3_ n4_ n5_; clear hb hbox hg; obtain ⟨hcz15_0, hcz15_1, hcz15_2, hcz15_3, hcz15_4, hcz15_5, hfz15_0, hfz15_1, hfz15_2, hfz15_3, hfz15_4, hfz15_5⟩ := bxc6 BK407.out)))
        (try simp only [Act.put, List.setIfInBounds_toArray, List.set_cons_zero, List.set_cons_succ])
        go_cut [] (fun wc => ∃ (kq : Nat) (x408000_12 : Int) (x408001_12 : Int) (x408002_12 : Int) (x408003_12 : Int) (x408004_12 : Bool) (x408005_12 : Bool), Aside0 (paybooklaw09_PlanLists.j2 kq l0 a1 x5_2 x6_2 x7_2 x408000_12 x408001_12 x408002_12 x408003_12 x408004_12 x408005_12 = some true) ∧ Aside0 (kq ≤ k2) ∧ Aside0 (Kd.R k23 23 wc w.heap.size (fun k_ => some k_ ≠ (u6 : Value).ownBlock ∧ k_ ≠ gb407) u5 x5_2) ∧ Aside0 (Kd.R k23 23 wc w.heap.size (fun k_ => some k_ ≠ (u5 : Value).ownBlock ∧ k_ ≠ gb407) u6 x6_2) ∧ Aside0 (wc.heap[gb407]? = some (.cells #[.int .i64 x408000_12, .int .u8 x408001_12, .int .i64 x408002_12, .int .i64 x408003_12, .bool x408004_12, .bool x408005_12] 23 (0, 0))) ∧ Aside0 (Below w.heap.size w wc))
        case first =>
         have H := HC13.out
         clear HC13
         by_cases c16 : (Int.tmod x7_2 3) > 0
         ·rw [if_pos c16] at H
          have c16b0 : decide (0 < (Int.tmod x7_2 3)) = true := decide_eq_true c16
          clear c16
          (first | (generalize hg_ : decide (0 < (Int.tmod x7_2 3)) = bg_ at *; subst c16b0; have c16b0 := hg_; clear hg_) | rw [c16b0] | (simp only [i64_w, i32_w]; rw [c16b0]) | skip)
          replace H := Option.bind_eq_some_iff.mp H
          obtain ⟨⟨t408, t409, t410, t411, t412, t413⟩, A170, H⟩ := H
          replace H : (paybooklaw09_PlanLists.j2 k2 l0 a1 x5_2 x6_2 x7_2 t408 t409 t410 t411 t412 t413) = some true := H
          have A17 := Aside0.mk A170
          clear A170
          have H' := Aside0.mk H
          clear H
          obtain ⟨hcz18_0, hcz18_1, hcz18_2, hcz18_3, hcz18_4, hcz18_5, hfz18_0, hfz18_1, hfz18_2, hfz18_3, hfz18_4, hfz18_5⟩ := bxc6 BK407.out
          go_wp2_with (first | (go_at_call 8; (with_reducible refine (paybooklaw09_near.calls ((rd_T23 l0 x7_2).f0) ((rd_T23 l0 x7_2).f1) ((rd_T23 l0 x7_2).f2) ((rd_T23 l0 x7_2).f3) ((rd_T23 l0 x7_2).f4) ((rd_T23 l0 x7_2).f5) t408 t409 t410 t411 t412 t413 _ A17.out).mono ?_); rintro e w19 ⟨rfl, hb⟩; have n0_ := Aside0.mk (Kd.R_below (by (with_reducible repeat (first | apply Kd.R_alloc | apply Kd.R_drewN | apply Kd.R_drew)); exact (Kd.R_mono (Kd.R_far (p := ⟨gb407, 5, none⟩) (Kd.R_far (p := ⟨gb407, 4, none⟩) (Kd.R_far (p := ⟨gb407, 3, none⟩) (Kd.R_far (p := ⟨gb407, 2, none⟩) (Kd.R_far (p := ⟨gb407, 1, none⟩) (Kd.R_far (p := ⟨gb407, 0, none⟩) (Kd.R_mono HO_5.out (fun k_ hk => (⟨hk, hk.2⟩ : _ ∧ k_ ≠ gb407))) (fun _ hk => hk.2) (.int .i64 ((rd_T23 l0 x7_2).f0))) (fun _ hk => hk.2) (.int .u8 ((rd_T23 l0 x7_2).f1))) (fun _ hk => hk.2) (.int .i64 ((rd_T23 l0 x7_2).f2))) (fun _ hk => hk.2) (.int .i64 ((rd_T23 l0 x7_2).f3))) (fun _ hk => hk.2) (.bool ((rd_T23 l0 x7_2).f4))) (fun _ hk => hk.2) (.bool ((rd_T23 l0 x7_2).f5))) (fun _ h_ => h_.1))) hb); have n1_ := Aside0.mk (Kd.R_below (by (with_reducible repeat (first | apply Kd.R_alloc | apply Kd.R_drewN | apply Kd.R_drew)); exact (Kd.R_mono (Kd.R_far (p := ⟨gb407, 5, none⟩) (Kd.R_far (p := ⟨gb407, 4, none⟩) (Kd.R_far (p := ⟨gb407, 3, none⟩) (Kd.R_far (p := ⟨gb407, 2, none⟩) (Kd.R_far (p := ⟨gb407, 1, none⟩) (Kd.R_far (p := ⟨gb407, 0, none⟩) (Kd.R_mono HO_6.out (fun k_ hk => (⟨hk, hk.2⟩ : _ ∧ k_ ≠ gb407))) (fun _ hk => hk.2) (.int .i64 ((rd_T23 l0 x7_2).f0))) (fun _ hk => hk.2) (.int .u8 ((rd_T23 l0 x7_2).f1))) (fun _ hk => hk.2) (.int .i64 ((rd_T23 l0 x7_2).f2))) (fun _ hk => hk.2) (.int .i64 ((rd_T23 l0 x7_2).f3))) (fun _ hk => hk.2) (.bool ((rd_T23 l0 x7_2).f4))) (fun _ hk => hk.2) (.bool ((rd_T23 l0 x7_2).f5))) (fun _ h_ => h_.1))) hb); have n2_ := Aside0.mk (blk_below (g := gb407) (o := .cells #[.int .i64 ((rd_T23 l0 x7_2).f0), .int .u8 ((rd_T23 l0 x7_2).f1), .int .i64 ((rd_T23 l0 x7_2).f2), .int .i64 ((rd_T23 l0 x7_2).f3), .bool ((rd_T23 l0 x7_2).f4), .bool ((rd_T23 l0 x7_2).f5)] 23 (0, 0)) (by (with_reducible repeat (first | refine kN ?_ _ | refine kD ?_ | refine kA ?_ _)); refine bxw6 (.int .i64 0) (.int .u8 0) (.int .i64 0) (.int .i64 0) (.bool false) (.bool false) ?_; (with_reducible repeat (first | refine kN ?_ _ | refine kD ?_ | refine kA ?_ _)); exact BK407.out) hb); have n3_ := Aside0.mk (below_step (by repeat (first | (with_reducible first | exact HB.out | apply kL | apply kM | apply kE | refine kS ?_ GE407.out) | exact HB.out)) hb); clear HO_5; clear HO_6; clear BK407; clear HB; have HO_5 := n0_; have HO_6 := n1_; have BK407 := n2_; have HB := n3_; clear n0_ n1_ n2_ n3_; (try clear hb); (try clear hb2); (try clear hk); (try clear hi); obtain ⟨hcz20_0, hcz20_1, hcz20_2, hcz20_3, hcz20_4, hcz20_5, hfz20_0, hfz20_1, hfz20_2, hfz20_3, hfz20_4, hfz20_5⟩ := bxc6 BK407.out))
          repeat (go_quiet (first | (go_at_call 8; (with_reducible refine (paybooklaw09_near.calls ((rd_T23 l0 x7_2).f0) ((rd_T23 l0 x7_2).f1) ((rd_T23 l0 x7_2).f2) ((rd_T23 l0 x7_2).f3) ((rd_T23 l0 x7_2).f4) ((rd_T23 l0 x7_2).f5) t408 t409 t410 t411 t412 t413 _ A17.out).mono ?_); rintro e w19 ⟨rfl, hb⟩; have n0_ := Aside0.mk (Kd.R_below (by (with_reducible repeat (first | apply Kd.R_alloc | apply Kd.R_drewN | apply Kd.R_drew)); exact (Kd.R_mono (Kd.R_far (p := ⟨gb407, 5, none⟩) (Kd.R_far (p := ⟨gb407, 4, none⟩) (Kd.R_far (p := ⟨gb407, 3, none⟩) (Kd.R_far (p := ⟨gb407, 2, none⟩) (Kd.R_far (p := ⟨gb407, 1, none⟩) (Kd.R_far (p := ⟨gb407, 0, none⟩) (Kd.R_mono HO_5.out (fun k_ hk => (⟨hk, hk.2⟩ : _ ∧ k_ ≠ gb407))) (fun _ hk => hk.2) (.int .i64 ((rd_T23 l0 x7_2).f0))) (fun _ hk => hk.2) (.int .u8 ((rd_T23 l0 x7_2).f1))) (fun _ hk => hk.2) (.int .i64 ((rd_T23 l0 x7_2).f2))) (fun _ hk => hk.2) (.int .i64 ((rd_T23 l0 x7_2).f3))) (fun _ hk => hk.2) (.bool ((rd_T23 l0 x7_2).f4))) (fun _ hk => hk.2) (.bool ((rd_T23 l0 x7_2).f5))) (fun _ h_ => h_.1))) hb); have n1_ := Aside0.mk (Kd.R_below (by (with_reducible repeat (first | apply Kd.R_alloc | apply Kd.R_drewN | apply Kd.R_drew)); exact (Kd.R_mono (Kd.R_far (p := ⟨gb407, 5, none⟩) (Kd.R_far (p := ⟨gb407, 4, none⟩) (Kd.R_far (p := ⟨gb407, 3, none⟩) (Kd.R_far (p := ⟨gb407, 2, none⟩) (Kd.R_far (p := ⟨gb407, 1, none⟩) (Kd.R_far (p := ⟨gb407, 0, none⟩) (Kd.R_mono HO_6.out (fun k_ hk => (⟨hk, hk.2⟩ : _ ∧ k_ ≠ gb407))) (fun _ hk => hk.2) (.int .i64 ((rd_T23 l0 x7_2).f0))) (fun _ hk => hk.2) (.int .u8 ((rd_T23 l0 x7_2).f1))) (fun _ hk => hk.2) (.int .i64 ((rd_T23 l0 x7_2).f2))) (fun _ hk => hk.2) (.int .i64 ((rd_T23 l0 x7_2).f3))) (fun _ hk => hk.2) (.bool ((rd_T23 l0 x7_2).f4))) (fun _ hk => hk.2) (.bool ((rd_T23 l0 x7_2).f5))) (fun _ h_ => h_.1))) hb); have n2_ := Aside0.mk (blk_below (g := gb407) (o := .cells #[.int .i64 ((rd_T23 l0 x7_2).f0), .int .u8 ((rd_T23 l0 x7_2).f1), .int .i64 ((rd_T23 l0 x7_2).f2), .int .i64 ((rd_T23 l0 x7_2).f3), .bool ((rd_T23 l0 x7_2).f4), .bool ((rd_T23 l0 x7_2).f5)] 23 (0, 0)) (by (with_reducible repeat (first | refine kN ?_ _ | refine kD ?_ | refine kA ?_ _)); refine bxw6 (.int .i64 0) (.int .u8 0) (.int .i64 0) (.int .i64 0) (.bool false) (.bool false) ?_; (with_reducible repeat (first | refine kN ?_ _ | refine kD ?_ | refine kA ?_ _)); exact BK407.out) hb); have n3_ := Aside0.mk (below_step (by repeat (first | (with_reducible first | exact HB.out | apply kL | apply kM | apply kE | refine kS ?_ GE407.out) | exact HB.out)) hb); clear HO_5; clear HO_6; clear BK407; clear HB; have HO_5 := n0_; have HO_6 := n1_; have BK407 := n2_; have HB := n3_; clear n0_ n1_ n2_ n3_; (try clear hb); (try clear hb2); (try clear hk); (try clear hi); obtain ⟨hcz20_0, hcz20_1, hcz20_2, hcz20_3, hcz20_4, hcz20_5, hfz20_0, hfz20_1, hfz20_2, hfz20_3, hfz20_4, hfz20_5⟩ := bxc6 BK407.out)); try go_wp2_with (first | (go_at_call 8; (with_reducible refine (paybooklaw09_near.calls ((rd_T23 l0 x7_2).f0) ((rd_T23 l0 x7_2).f1) ((rd_T23 l0 x7_2).f2) ((rd_T23 l0 x7_2).f3) ((rd_T23 l0 x7_2).f4) ((rd_T23 l0 x7_2).f5) t408 t409 t410 t411 t412 t413 _ A17.out).mono ?_); rintro e w19 ⟨rfl, hb⟩; have n0_ := Aside0.mk (Kd.R_below (by (with_reducible repeat (first | apply Kd.R_alloc | apply Kd.R_drewN | apply Kd.R_drew)); exact (Kd.R_mono (Kd.R_far (p := ⟨gb407, 5, none⟩) (Kd.R_far (p := ⟨gb407, 4, none⟩) (Kd.R_far (p := ⟨gb407, 3, none⟩) (Kd.R_far (p := ⟨gb407, 2, none⟩) (Kd.R_far (p := ⟨gb407, 1, none⟩) (Kd.R_far (p := ⟨gb407, 0, none⟩) (Kd.R_mono HO_5.out (fun k_ hk => (⟨hk, hk.2⟩ : _ ∧ k_ ≠ gb407))) (fun _ hk => hk.2) (.int .i64 ((rd_T23 l0 x7_2).f0))) (fun _ hk => hk.2) (.int .u8 ((rd_T23 l0 x7_2).f1))) (fun _ hk => hk.2) (.int .i64 ((rd_T23 l0 x7_2).f2))) (fun _ hk => hk.2) (.int .i64 ((rd_T23 l0 x7_2).f3))) (fun _ hk => hk.2) (.bool ((rd_T23 l0 x7_2).f4))) (fun _ hk => hk.2) (.bool ((rd_T23 l0 x7_2).f5))) (fun _ h_ => h_.1))) hb); have n1_ := Aside0.mk (Kd.R_below (by (with_reducible repeat (first | apply Kd.R_alloc | apply Kd.R_drewN | apply Kd.R_drew)); exact (Kd.R_mono (Kd.R_far (p := ⟨gb407, 5, none⟩) (Kd.R_far (p := ⟨gb407, 4, none⟩) (Kd.R_far (p := ⟨gb407, 3, none⟩) (Kd.R_far (p := ⟨gb407, 2, none⟩) (Kd.R_far (p := ⟨gb407, 1, none⟩) (Kd.R_far (p := ⟨gb407, 0, none⟩) (Kd.R_mono HO_6.out (fun k_ hk => (⟨hk, hk.2⟩ : _ ∧ k_ ≠ gb407))) (fun _ hk => hk.2) (.int .i64 ((rd_T23 l0 x7_2).f0))) (fun _ hk => hk.2) (.int .u8 ((rd_T23 l0 x7_2).f1))) (fun _ hk => hk.2) (.int .i64 ((rd_T23 l0 x7_2).f2))) (fun _ hk => hk.2) (.int .i64 ((rd_T23 l0 x7_2).f3))) (fun _ hk => hk.2) (.bool ((rd_T23 l0 x7_2).f4))) (fun _ hk => hk.2) (.bool ((rd_T23 l0 x7_2).f5))) (fun _ h_ => h_.1))) hb); have n2_ := Aside0.mk (blk_below (g := gb407) (o := .cells #[.int .i64 ((rd_T23 l0 x7_2).f0), .int .u8 ((rd_T23 l0 x7_2).f1), .int .i64 ((rd_T23 l0 x7_2).f2), .int .i64 ((rd_T23 l0 x7_2).f3), .bool ((rd_T23 l0 x7_2).f4), .bool ((rd_T23 l0 x7_2).f5)] 23 (0, 0)) (by (with_reducible repeat (first | refine kN ?_ _ | refine kD ?_ | refine kA ?_ _)); refine bxw6 (.int .i64 0) (.int .u8 0) (.int .i64 0) (.int .i64 0) (.bool false) (.bool false) ?_; (with_reducible repeat (first | refine kN ?_ _ | refine kD ?_ | refine kA ?_ _)); exact BK407.out) hb); have n3_ := Aside0.mk (below_step (by repeat (first | (with_reducible first | exact HB.out | apply kL | apply kM | apply kE | refine kS ?_ GE407.out) | exact HB.out)) hb); clear HO_5; clear HO_6; clear BK407; clear HB; have HO_5 := n0_; have HO_6 := n1_; have BK407 := n2_; have HB := n3_; clear n0_ n1_ n2_ n3_; (try clear hb); (try clear hb2); (try clear hk); (try clear hi); obtain ⟨hcz20_0, hcz20_1, hcz20_2, hcz20_3, hcz20_4, hcz20_5, hfz20_0, hfz20_1, hfz20_2, hfz20_3, hfz20_4, hfz20_5⟩ := bxc6 BK407.out)))
          go_meet
          case rel => exact ⟨_, (t408), (t409), (t410), (t411), (t412), (t413), (by first | (with_reducible exact H') | (simp only [*]; with_reducible exact H') | exact H'), ⟨by have := HJ2.out; have := HK2.out; first | omega | exact Nat.le_refl _⟩, ⟨by (with_reducible repeat (first | apply Kd.R_alloc | apply Kd.R_drewN | apply Kd.R_drew)); exact Kd.R_mono (Kd.R_far (p := ⟨gb407, 5, none⟩) (Kd.R_far (p := ⟨gb407, 4, none⟩) (Kd.R_far (p := ⟨gb407, 3, none⟩) (Kd.R_far (p := ⟨gb407, 2, none⟩) (Kd.R_far (p := ⟨gb407, 1, none⟩) (Kd.R_far (p := ⟨gb407, 0, none⟩) (Kd.R_mono HO_5.out (fun k_ hk => (⟨hk, hk.2⟩ : _ ∧ k_ ≠ gb407))) (fun _ hk => hk.2) (.int .i64 t408)) (fun _ hk => hk.2) (.int .u8 t409)) (fun _ hk => hk.2) (.int .i64 t410)) (fun _ hk => hk.2) (.int .i64 t411)) (fun _ hk => hk.2) (.bool t412)) (fun _ hk => hk.2) (.bool t413)) (fun _ hk => ⟨hk.1.1, hk.1.2⟩)⟩, ⟨by (with_reducible repeat (first | apply Kd.R_alloc | apply Kd.R_drewN | apply Kd.R_drew)); exact Kd.R_mono (Kd.R_far (p := ⟨gb407, 5, none⟩) (Kd.R_far (p := ⟨gb407, 4, none⟩) (Kd.R_far (p := ⟨gb407, 3, none⟩) (Kd.R_far (p := ⟨gb407, 2, none⟩) (Kd.R_far (p := ⟨gb407, 1, none⟩) (Kd.R_far (p := ⟨gb407, 0, none⟩) (Kd.R_mono HO_6.out (fun k_ hk => (⟨hk, hk.2⟩ : _ ∧ k_ ≠ gb407))) (fun _ hk => hk.2) (.int .i64 t408)) (fun _ hk => hk.2) (.int .u8 t409)) (fun _ hk => hk.2) (.int .i64 t410)) (fun _ hk => hk.2) (.int .i64 t411)) (fun _ hk => hk.2) (.bool t412)) (fun _ hk => hk.2) (.bool t413)) (fun _ hk => ⟨hk.1.1, hk.1.2⟩)⟩, ⟨by (with_reducible repeat (first | refine kN ?_ _ | refine kD ?_ | refine kA ?_ _)); refine bxw6 (.int .i64 ((rd_T23 l0 x7_2).f0)) (.int .u8 ((rd_T23 l0 x7_2).f1)) (.int .i64 ((rd_T23 l0 x7_2).f2)) (.int .i64 ((rd_T23 l0 x7_2).f3)) (.bool ((rd_T23 l0 x7_2).f4)) (.bool ((rd_T23 l0 x7_2).f5)) ?_; (with_reducible repeat (first | refine kN ?_ _ | refine kD ?_ | refine kA ?_ _)); exact BK407.out⟩, ⟨by repeat (first | (with_reducible first | exact HB.out | apply kL | apply kM | apply kE | refine kS ?_ GE407.out) | exact HB.out)⟩⟩
         ·rw [if_neg c16] at H
          have c16b0 : decide (0 < (Int.tmod x7_2 3)) = false := decide_eq_false c16
          clear c16
          (first | (generalize hg_ : decide (0 < (Int.tmod x7_2 3)) = bg_ at *; subst c16b0; have c16b0 := hg_; clear hg_) | rw [c16b0] | (simp only [i64_w, i32_w]; rw [c16b0]) | skip)
          have H' := Aside0.mk H
          clear H
          go_wp2
          repeat (go_quiet (fail); try go_wp2)
          go_meet
          case rel => exact ⟨_, ((rd_T23 l0 x7_2).f0), ((rd_T23 l0 x7_2).f1), ((rd_T23 l0 x7_2).f2), ((rd_T23 l0 x7_2).f3), ((rd_T23 l0 x7_2).f4), ((rd_T23 l0 x7_2).f5), (by first | (with_reducible exact H') | (simp only [*]; with_reducible exact H') | exact H'), ⟨by have := HJ2.out; have := HK2.out; first | omega | exact Nat.le_refl _⟩, ⟨by (with_reducible repeat (first | apply Kd.R_alloc | apply Kd.R_drewN | apply Kd.R_drew)); exact Kd.R_mono (Kd.R_far (p := ⟨gb407, 5, none⟩) (Kd.R_far (p := ⟨gb407, 4, none⟩) (Kd.R_far (p := ⟨gb407, 3, none⟩) (Kd.R_far (p := ⟨gb407, 2, none⟩) (Kd.R_far (p := ⟨gb407, 1, none⟩) (Kd.R_far (p := ⟨gb407, 0, none⟩) (Kd.R_mono HO_5.out (fun k_ hk => (⟨hk, hk.2⟩ : _ ∧ k_ ≠ gb407))) (fun _ hk => hk.2) (.int .i64 ((rd_T23 l0 x7_2).f0))) (fun _ hk => hk.2) (.int .u8 ((rd_T23 l0 x7_2).f1))) (fun _ hk => hk.2) (.int .i64 ((rd_T23 l0 x7_2).f2))) (fun _ hk => hk.2) (.int .i64 ((rd_T23 l0 x7_2).f3))) (fun _ hk => hk.2) (.bool ((rd_T23 l0 x7_2).f4))) (fun _ hk => hk.2) (.bool ((rd_T23 l0 x7_2).f5))) (fun _ hk => ⟨hk.1.1, hk.1.2⟩)⟩, ⟨by (with_reducible repeat (first | apply Kd.R_alloc | apply Kd.R_drewN | apply Kd.R_drew)); exact Kd.R_mono (Kd.R_far (p := ⟨gb407, 5, none⟩) (Kd.R_far (p := ⟨gb407, 4, none⟩) (Kd.R_far (p := ⟨gb407, 3, none⟩) (Kd.R_far (p := ⟨gb407, 2, none⟩) (Kd.R_far (p := ⟨gb407, 1, none⟩) (Kd.R_far (p := ⟨gb407, 0, none⟩) (Kd.R_mono HO_6.out (fun k_ hk => (⟨hk, hk.2⟩ : _ ∧ k_ ≠ gb407))) (fun _ hk => hk.2) (.int .i64 ((rd_T23 l0 x7_2).f0))) (fun _ hk => hk.2) (.int .u8 ((rd_T23 l0 x7_2).f1))) (fun _ hk => hk.2) (.int .i64 ((rd_T23 l0 x7_2).f2))) (fun _ hk => hk.2) (.int .i64 ((rd_T23 l0 x7_2).f3))) (fun _ hk => hk.2) (.bool ((rd_T23 l0 x7_2).f4))) (fun _ hk => hk.2) (.bool ((rd_T23 l0 x7_2).f5))) (fun _ hk => ⟨hk.1.1, hk.1.2⟩)⟩, ⟨by (with_reducible repeat (first | refine kN ?_ _ | refine kD ?_ | refine kA ?_ _)); refine bxw6 (.int .i64 0) (.int .u8 0) (.int .i64 0) (.int .i64 0) (.bool false) (.bool false) ?_; (with_reducible repeat (first | refine kN ?_ _ | refine kD ?_ | refine kA ?_ _)); exact BK407.out⟩, ⟨by repeat (first | (with_reducible first | exact HB.out | apply kL | apply kM | apply kE | refine kS ?_ GE407.out) | exact HB.out)⟩⟩
        case rest =>
         clear HC13
         try clear c1
         try clear p2
         try clear p4
         try clear q4
         try clear hx4
         try clear c5
         try clear c6
         try clear c8
         try clear c11
         try clear c11b0
         try clear c12
         try clear c12b0
         try clear c16
         try clear c16b0
         try clear hcz15_0
         try clear hcz15_1
         try clear hcz15_2
         try clear hcz15_3
         try clear hcz15_4
         try clear hcz15_5
         try clear hcz18_0
         try clear hcz18_1
         try clear hcz18_2
         try clear hcz18_3
         try clear hcz18_4
         try clear hcz18_5
         try clear hcz20_0
         try clear hcz20_1
         try clear hcz20_2
         try clear hcz20_3
         try clear hcz20_4
         try clear hcz20_5
         try clear hfz15_0
         try clear hfz15_1
         try clear hfz15_2
         try clear hfz15_3
         try clear hfz15_4
         try clear hfz15_5
         try clear hfz18_0
         try clear hfz18_1
         try clear hfz18_2
         try clear hfz18_3
         try clear hfz18_4
         try clear hfz18_5
         try clear hfz20_0
         try clear hfz20_1
         try clear hfz20_2
         try clear hfz20_3
         try clear hfz20_4
         try clear hfz20_5
         try clear hx406_0
         try clear hx406_1
         try clear hx406_2
         try clear hx406_3
         try clear hx406_4
         try clear hx406_5
         try clear p2
         try clear p406
         try clear q406
         obtain ⟨kq, x408000_12, x408001_12, x408002_12, x408003_12, x408004_12, x408005_12, HA, HJ12, HO_5, HO_6, BK407, HB⟩ := hcut
         cases kq with
         | zero => exact absurd HA.out (by simp [paybooklaw09_PlanLists.j2])
         | succ kj12 =>
          have H := HA.out
          clear HA
          simp only [paybooklaw09_PlanLists.j2] at H
          replace H := Option.bind_eq_some_iff.mp H
          obtain ⟨⟨t414, t417, t418⟩, A210, H⟩ := H
          replace H : ((paybooklaw09_right.f kj12 x408000_12 x408001_12 x408002_12 x408003_12 x408004_12 x408005_12).bind fun t419 => (if t419 = 0 then (paybooklaw09_PlanLists.j3 kj12 l0 a1 x5_2 x6_2 x7_2 t414 t417 t418 t419 (decide ((x6_2.length : Int) ≥ 8)) x408000_12 x408001_12 x408002_12 x408003_12 x408004_12 x408005_12) else (paybooklaw09_PlanLists.j3 kj12 l0 a1 x5_2 x6_2 x7_2 t414 t417 t418 t419 false x408000_12 x408001_12 x408002_12 x408003_12 x408004_12 x408005_12))) = some true := H
          have A21 := Aside0.mk A210
          clear A210
          replace H := Option.bind_eq_some_iff.mp H
          obtain ⟨t419, A220, H⟩ := H
          replace H : (if t419 = 0 then (paybooklaw09_PlanLists.j3 kj12 l0 a1 x5_2 x6_2 x7_2 t414 t417 t418 t419 (decide ((x6_2.length : Int) ≥ 8)) x408000_12 x408001_12 x408002_12 x408003_12 x408004_12 x408005_12) else (paybooklaw09_PlanLists.j3 kj12 l0 a1 x5_2 x6_2 x7_2 t414 t417 t418 t419 false x408000_12 x408001_12 x408002_12 x408003_12 x408004_12 x408005_12)) = some true := H
          have A22 := Aside0.mk A220
          clear A220
          have HC23 := Aside0.mk H
          clear H
          obtain ⟨hcz24_0, hcz24_1, hcz24_2, hcz24_3, hcz24_4, hcz24_5, hfz24_0, hfz24_1, hfz24_2, hfz24_3, hfz24_4, hfz24_5⟩ := bxc6 BK407.out
          obtain ⟨Ao25, co25, eo25⟩ := Kd.R_slice HO_5.out
          subst eo25
          go_upto_region 13 with (first | (go_at_call 14; (with_reducible refine (plan_List_Add.calls kj12 _ _ x5_2 x408000_12 x408001_12 x408002_12 x408003_12 x408004_12 x408005_12 t414 t417 t418 _ ?side1 ?side2 A21.out).mono ?_); (case side1 => repeat (first | exact (Kd.R_reads' HO_5.out).2.2 | (with_reducible refine Kd.C_alloc ?_ _) | (with_reducible refine Kd.C_drewN ?_ _) | (with_reducible refine Kd.C_drew ?_))); (case side2 => exact (Kd.R_reads' HO_5.out).2.1); rintro e w26 ⟨v415, rfl, ho0, hb⟩; have n0_ := Aside0.mk (Kd.R_elder' (by (with_reducible repeat (first | apply Kd.R_alloc | apply Kd.R_drewN | apply Kd.R_drew)); exact HO_5.out) (Kd.R_base ho0) hb); have n1_ := Aside0.mk (Kd.R_elder' (by (with_reducible repeat (first | apply Kd.R_alloc | apply Kd.R_drewN | apply Kd.R_drew)); exact HO_6.out) (Kd.R_base ho0) hb); have n2_ := Aside0.mk (Kd.R_lower (Kd.R_newB (Kd.R_new' (Kd.R_new' ho0 (Kd.R_lt (by (with_reducible repeat (first | apply Kd.R_alloc | apply Kd.R_drewN | apply Kd.R_drew)); exact HO_5.out))) (Kd.R_lt (by (with_reducible repeat (first | apply Kd.R_alloc | apply Kd.R_drewN | apply Kd.R_drew)); exact HO_6.out))) (g := gb407) (o := .cells #[.int .i64 x408000_12, .int .u8 x408001_12, .int .i64 x408002_12, .int .i64 x408003_12, .bool x408004_12, .bool x408005_12] 23 (0, 0)) (by (with_reducible repeat (first | refine kN ?_ _ | refine kD ?_ | refine kA ?_ _)); exact BK407.out)) (below_size (by repeat (first | (with_reducible first | exact HB.out | apply kL | apply kM | apply kE | refine kS ?_ GE407.out) | exact HB.out)))); have n3_ := Aside0.mk (blk_below (g := gb407) (o := .cells #[.int .i64 x408000_12, .int .u8 x408001_12, .int .i64 x408002_12, .int .i64 x408003_12, .bool x408004_12, .bool x408005_12] 23 (0, 0)) (by (with_reducible repeat (first | refine kN ?_ _ | refine kD ?_ | refine kA ?_ _)); exact BK407.out) hb); have n4_ := Aside0.mk (below_step (by repeat (first | (with_reducible first | exact HB.out | apply kL | apply kM | apply kE | refine kS ?_ GE407.out) | exact HB.out)) hb); clear HO_5; clear HO_6; clear BK407; clear HB; have HO_5 := n0_; have HO_6 := n1_; have HO416 := n2_; have BK407 := n3_; have HB := n4_; clear n0_ n1_ n2_ n3_ n4_; (try clear hb); (try clear hb2); (try clear hk); (try clear hi); (try clear ho0); obtain ⟨hcz27_0, hcz27_1, hcz27_2, hcz27_3, hcz27_4, hcz27_5, hfz27_0, hfz27_1, hfz27_2, hfz27_3, hfz27_4, hfz27_5⟩ := bxc6 BK407.out) | (go_at_call 13; (with_reducible refine (paybooklaw09_right.calls kj12 x408000_12 x408001_12 x408002_12 x408003_12 x408004_12 x408005_12 t419 _ A22.out).mono ?_); rintro e w28 ⟨rfl, hb⟩; have n0_ := Aside0.mk (Kd.R_below (by (with_reducible repeat (first | apply Kd.R_alloc | apply Kd.R_drewN | apply Kd.R_drew)); exact HO_5.out) hb); have n1_ := Aside0.mk (Kd.R_below (by (with_reducible repeat (first | apply Kd.R_alloc | apply Kd.R_drewN | apply Kd.R_drew)); exact HO_6.out) hb); have n2_ := Aside0.mk (Kd.R_below (by (with_reducible repeat (first | apply Kd.R_alloc | apply Kd.R_drewN | apply Kd.R_drew)); exact HO416.out) hb); have n3_ := Aside0.mk (blk_below (g := gb407) (o := .cells #[.int .i64 x408000_12, .int .u8 x408001_12, .int .i64 x408002_12, .int .i64 x408003_12, .bool x408004_12, .bool x408005_12] 23 (0, 0)) (by (with_reducible repeat (first | refine kN ?_ _ | refine kD ?_ | refine kA ?_ _)); exact BK407.out) hb); have n4_ := Aside0.mk (below_step (by repeat (first | (with_reducible first | exact HB.out | apply kL | apply kM | apply kE | refine kS ?_ GE407.out) | exact HB.out)) hb); clear HO_5; clear HO_6; clear HO416; clear BK407; clear HB; have HO_5 := n0_; have HO_6 := n1_; have HO416 := n2_; have BK407 := n3_; have HB := n4_; clear n0_ n1_ n2_ n3_ n4_; (try clear hb); (try clear hb2); (try clear hk); (try clear hi)))
          repeat (go_quiet (first | (go_at_call 14; (with_reducible refine (plan_List_Add.calls kj12 _ _ x5_2 x408000_12 x408001_12 x408002_12 x408003_12 x408004_12 x408005_12 t414 t417 t418 _ ?side1 ?side2 A21.out).mono ?_); (case side1 => repeat (first | exact (Kd.R_reads' HO_5.out).2.2 | (with_reducible refine Kd.C_alloc ?_ _) | (with_reducible refine Kd.C_drewN ?_ _) | (with_reducible refine Kd.C_drew ?_))); (case side2 => exact (Kd.R_reads' HO_5.out).2.1); rintro e w26 ⟨v415, rfl, ho0, hb⟩; have n0_ := Aside0.mk (Kd.R_elder' (by (with_reducible repeat (first | apply Kd.R_alloc | apply Kd.R_drewN | apply Kd.R_drew)); exact HO_5.out) (Kd.R_base ho0) hb); have n1_ := Aside0.mk (Kd.R_elder' (by (with_reducible repeat (first | apply Kd.R_alloc | apply Kd.R_drewN | apply Kd.R_drew)); exact HO_6.out) (Kd.R_base ho0) hb); have n2_ := Aside0.mk (Kd.R_lower (Kd.R_newB (Kd.R_new' (Kd.R_new' ho0 (Kd.R_lt (by (with_reducible repeat (first | apply Kd.R_alloc | apply Kd.R_drewN | apply Kd.R_drew)); exact HO_5.out))) (Kd.R_lt (by (with_reducible repeat (first | apply Kd.R_alloc | apply Kd.R_drewN | apply Kd.R_drew)); exact HO_6.out))) (g := gb407) (o := .cells #[.int .i64 x408000_12, .int .u8 x408001_12, .int .i64 x408002_12, .int .i64 x408003_12, .bool x408004_12, .bool x408005_12] 23 (0, 0)) (by (with_reducible repeat (first | refine kN ?_ _ | refine kD ?_ | refine kA ?_ _)); exact BK407.out)) (below_size (by repeat (first | (with_reducible first | exact HB.out | apply kL | apply kM | apply kE | refine kS ?_ GE407.out) | exact HB.out)))); have n3_ := Aside0.mk (blk_below (g := gb407) (o := .cells #[.int .i64 x408000_12, .int .u8 x408001_12, .int .i64 x408002_12, .int .i64 x408003_12, .bool x408004_12, .bool x408005_12] 23 (0, 0)) (by (with_reducible repeat (first | refine kN ?_ _ | refine kD ?_ | refine kA ?_ _)); exact BK407.out) hb); have n4_ := Aside0.mk (below_step (by repeat (first | (with_reducible first | exact HB.out | apply kL | apply kM | apply kE | refine kS ?_ GE407.out) | exact HB.out)) hb); clear HO_5; clear HO_6; clear BK407; clear HB; have HO_5 := n0_; have HO_6 := n1_; have HO416 := n2_; have BK407 := n3_; have HB := n4_; clear n0_ n1_ n2_ n3_ n4_; (try clear hb); (try clear hb2); (try clear hk); (try clear hi); (try clear ho0); obtain ⟨hcz27_0, hcz27_1, hcz27_2, hcz27_3, hcz27_4, hcz27_5, hfz27_0, hfz27_1, hfz27_2, hfz27_3, hfz27_4, hfz27_5⟩ := bxc6 BK407.out) | (go_at_call 13; (with_reducible refine (paybooklaw09_right.calls kj12 x408000_12 x408001_12 x408002_12 x408003_12 x408004_12 x408005_12 t419 _ A22.out).mono ?_); rintro e w28 ⟨rfl, hb⟩; have n0_ := Aside0.mk (Kd.R_below (by (with_reducible repeat (first | apply Kd.R_alloc | apply Kd.R_drewN | apply Kd.R_drew)); exact HO_5.out) hb); have n1_ := Aside0.mk (Kd.R_below (by (with_reducible repeat (first | apply Kd.R_alloc | apply Kd.R_drewN | apply Kd.R_drew)); exact HO_6.out) hb); have n2_ := Aside0.mk (Kd.R_below (by (with_reducible repeat (first | apply Kd.R_alloc | apply Kd.R_drewN | apply Kd.R_drew)); exact HO416.out) hb); have n3_ := Aside0.mk (blk_below (g := gb407) (o := .cells #[.int .i64 x408000_12, .int .u8 x408001_12, .int .i64 x408002_12, .int .i64 x408003_12, .bool x408004_12, .bool x408005_12] 23 (0, 0)) (by (with_reducible repeat (first | refine kN ?_ _ | refine kD ?_ | refine kA ?_ _)); exact BK407.out) hb); have n4_ := Aside0.mk (below_step (by repeat (first | (with_reducible first | exact HB.out | apply kL | apply kM | apply kE | refine kS ?_ GE407.out) | exact HB.out)) hb); clear HO_5; clear HO_6; clear HO416; clear BK407; clear HB; have HO_5 := n0_; have HO_6 := n1_; have HO416 := n2_; have BK407 := n3_; have HB := n4_; clear n0_ n1_ n2_ n3_ n4_; (try clear hb); (try clear hb2); (try clear hk); (try clear hi))); go_upto_region 13 with (first | (go_at_call 14; (with_reducible refine (plan_List_Add.calls kj12 _ _ x5_2 x408000_12 x408001_12 x408002_12 x408003_12 x408004_12 x408005_12 t414 t417 t418 _ ?side1 ?side2 A21.out).mono ?_); (case side1 => repeat (first | exact (Kd.R_reads' HO_5.out).2.2 | (with_reducible refine Kd.C_alloc ?_ _) | (with_reducible refine Kd.C_drewN ?_ _) | (with_reducible refine Kd.C_drew ?_))); (case side2 => exact (Kd.R_reads' HO_5.out).2.1); rintro e w26 ⟨v415, rfl, ho0, hb⟩; have n0_ := Aside0.mk (Kd.R_elder' (by (with_reducible repeat (first | apply Kd.R_alloc | apply Kd.R_drewN | apply Kd.R_drew)); exact HO_5.out) (Kd.R_base ho0) hb); have n1_ := Aside0.mk (Kd.R_elder' (by (with_reducible repeat (first | apply Kd.R_alloc | apply Kd.R_drewN | apply Kd.R_drew)); exact HO_6.out) (Kd.R_base ho0) hb); have n2_ := Aside0.mk (Kd.R_lower (Kd.R_newB (Kd.R_new' (Kd.R_new' ho0 (Kd.R_lt (by (with_reducible repeat (first | apply Kd.R_alloc | apply Kd.R_drewN | apply Kd.R_drew)); exact HO_5.out))) (Kd.R_lt (by (with_reducible repeat (first | apply Kd.R_alloc | apply Kd.R_drewN | apply Kd.R_drew)); exact HO_6.out))) (g := gb407) (o := .cells #[.int .i64 x408000_12, .int .u8 x408001_12, .int .i64 x408002_12, .int .i64 x408003_12, .bool x408004_12, .bool x408005_12] 23 (0, 0)) (by (with_reducible repeat (first | refine kN ?_ _ | refine kD ?_ | refine kA ?_ _)); exact BK407.out)) (below_size (by repeat (first | (with_reducible first | exact HB.out | apply kL | apply kM | apply kE | refine kS ?_ GE407.out) | exact HB.out)))); have n3_ := Aside0.mk (blk_below (g := gb407) (o := .cells #[.int .i64 x408000_12, .int .u8 x408001_12, .int .i64 x408002_12, .int .i64 x408003_12, .bool x408004_12, .bool x408005_12] 23 (0, 0)) (by (with_reducible repeat (first | refine kN ?_ _ | refine kD ?_ | refine kA ?_ _)); exact BK407.out) hb); have n4_ := Aside0.mk (below_step (by repeat (first | (with_reducible first | exact HB.out | apply kL | apply kM | apply kE | refine kS ?_ GE407.out) | exact HB.out)) hb); clear HO_5; clear HO_6; clear BK407; clear HB; have HO_5 := n0_; have HO_6 := n1_; have HO416 := n2_; have BK407 := n3_; have HB := n4_; clear n0_ n1_ n2_ n3_ n4_; (try clear hb); (try clear hb2); (try clear hk); (try clear hi); (try clear ho0); obtain ⟨hcz27_0, hcz27_1, hcz27_2, hcz27_3, hcz27_4, hcz27_5, hfz27_0, hfz27_1, hfz27_2, hfz27_3, hfz27_4, hfz27_5⟩ := bxc6 BK407.out) | (go_at_call 13; (with_reducible refine (paybooklaw09_right.calls kj12 x408000_12 x408001_12 x408002_12 x408003_12 x408004_12 x408005_12 t419 _ A22.out).mono ?_); rintro e w28 ⟨rfl, hb⟩; have n0_ := Aside0.mk (Kd.R_below (by (with_reducible repeat (first | apply Kd.R_alloc | apply Kd.R_drewN | apply Kd.R_drew)); exact HO_5.out) hb); have n1_ := Aside0.mk (Kd.R_below (by (with_reducible repeat (first | apply Kd.R_alloc | apply Kd.R_drewN | apply Kd.R_drew)); exact HO_6.out) hb); have n2_ := Aside0.mk (Kd.R_below (by (with_reducible repeat (first | apply Kd.R_alloc | apply Kd.R_drewN | apply Kd.R_drew)); exact HO416.out) hb); have n3_ := Aside0.mk (blk_below (g := gb407) (o := .cells #[.int .i64 x408000_12, .int .u8 x408001_12, .int .i64 x408002_12, .int .i64 x408003_12, .bool x408004_12, .bool x408005_12] 23 (0, 0)) (by (with_reducible repeat (first | refine kN ?_ _ | refine kD ?_ | refine kA ?_ _)); exact BK407.out) hb); have n4_ := Aside0.mk (below_step (by repeat (first | (with_reducible first | exact HB.out | apply kL | apply kM | apply kE | refine kS ?_ GE407.out) | exact HB.out)) hb); clear HO_5; clear HO_6; clear HO416; clear BK407; clear HB; have HO_5 := n0_; have HO_6 := n1_; have HO416 := n2_; have BK407 := n3_; have HB := n4_; clear n0_ n1_ n2_ n3_ n4_; (try clear hb); (try clear hb2); (try clear hk); (try clear hi))))
          (try simp only [Act.put, List.setIfInBounds_toArray, List.set_cons_zero, List.set_cons_succ])
          go_cut [56] (fun v56 wc => ∃ (kq : Nat) (x56_22 : Bool), v56 = .bool x56_22 ∧ Aside0 (paybooklaw09_PlanLists.j3 kq l0 a1 x5_2 x6_2 x7_2 t414 t417 t418 t419 x56_22 x408000_12 x408001_12 x408002_12 x408003_12 x408004_12 x408005_12 = some true) ∧ Aside0 (kq ≤ kj12) ∧ Aside0 (Kd.R k23 23 wc w.heap.size (fun k_ => some k_ ≠ (u6 : Value).ownBlock ∧ some k_ ≠ (v415 : Value).ownBlock ∧ k_ ≠ gb407) (.slice Ao25 x5_2.length co25) x5_2) ∧ Aside0 (Kd.R k23 23 wc w.heap.size (fun k_ => some k_ ≠ ((.slice Ao25 x5_2.length co25) : Value).ownBlock ∧ some k_ ≠ (v415 : Value).ownBlock ∧ k_ ≠ gb407) u6 x6_2) ∧ Aside0 (Kd.R k23 23 wc w.heap.size (fun k_ => some k_ ≠ ((.slice Ao25 x5_2.length co25) : Value).ownBlock ∧ some k_ ≠ (u6 : Value).ownBlock ∧ k_ ≠ gb407) v415 t414) ∧ Aside0 (wc.heap[gb407]? = some (.cells #[.int .i64 x408000_12, .int .u8 x408001_12, .int .i64 x408002_12, .int .i64 x408003_12, .bool x408004_12, .bool x408005_12] 23 (0, 0))) ∧ Aside0 (Below w.heap.size w wc))
          case first =>
           have H := HC23.out
           clear HC23
           by_cases c29 : t419 = 0
           ·rw [if_pos c29] at H
            have c29b0 : (t419 == 0) = true := beq_iff_eq.mpr c29
            have c29b1 : (t419 != 0) = false := bne_eq_false_iff_eq.mpr c29
            clear c29
            (first | (generalize hg_ : (t419 == 0) = bg_ at *; subst c29b0; have c29b0 := hg_; clear hg_) | rw [c29b0] | (simp only [i64_w, i32_w]; rw [c29b0]) | skip)
            have H' := Aside0.mk H
            clear H
            obtain ⟨Ao30, co30, eo30⟩ := Kd.R_slice HO_6.out
            subst eo30
            go_wp2
            repeat (go_quiet (fail); try go_wp2)
            go_meet
            case rel => exact ⟨_, (decide ((x6_2.length : Int) ≥ 8)), (by first | rfl | (simp; done) | (simp [*]; done)), (by first | (with_reducible exact H') | (simp only [*]; with_reducible exact H') | exact H'), ⟨by have := HJ2.out; have := HK2.out; have := HJ12.out; first | omega | exact Nat.le_refl _⟩, ⟨by (with_reducible repeat (first | apply Kd.R_alloc | apply Kd.R_drewN | apply Kd.R_drew)); exact Kd.R_mono HO_5.out (fun _ hk => ⟨hk.1.1, ⟨hk.2, hk.1.2⟩⟩)⟩, ⟨by (with_reducible repeat (first | apply Kd.R_alloc | apply Kd.R_drewN | apply Kd.R_drew)); exact Kd.R_mono HO_6.out (fun _ hk => ⟨hk.1.1, ⟨hk.2, hk.1.2⟩⟩)⟩, ⟨by (with_reducible repeat (first | apply Kd.R_alloc | apply Kd.R_drewN | apply Kd.R_drew)); exact Kd.R_mono HO416.out (fun _ hk => ⟨hk.1.1.2, ⟨hk.1.2, hk.2⟩⟩)⟩, ⟨by (with_reducible repeat (first | refine kN ?_ _ | refine kD ?_ | refine kA ?_ _)); exact BK407.out⟩, ⟨by repeat (first | (with_reducible first | exact HB.out | apply kL | apply kM | apply kE | refine kS ?_ GE407.out) | exact HB.out)⟩⟩
           ·rw [if_neg c29] at H
            have c29b0 : (t419 == 0) = false := beq_eq_false_iff_ne.mpr c29
            have c29b1 : (t419 != 0) = true := bne_iff_ne.mpr c29
            (first | (generalize hg_ : (t419 == 0) = bg_ at *; subst c29b0; have c29b0 := hg_; clear hg_) | rw [c29b0] | (simp only [i64_w, i32_w]; rw [c29b0]) | skip)
            have H' := Aside0.mk H
            clear H
            go_wp2
            repeat (go_quiet (fail); try go_wp2)
            go_meet
            case rel => exact ⟨_, (false), (by first | rfl | (simp; done) | (simp [*]; done)), (by first | (with_reducible exact H') | (simp only [*]; with_reducible exact H') | exact H'), ⟨by have := HJ2.out; have := HK2.out; have := HJ12.out; first | omega | exact Nat.le_refl _⟩, ⟨by (with_reducible repeat (first | apply Kd.R_alloc | apply Kd.R_drewN | apply Kd.R_drew)); exact Kd.R_mono HO_5.out (fun _ hk => ⟨hk.1.1, ⟨hk.2, hk.1.2⟩⟩)⟩, ⟨by (with_reducible repeat (first | apply Kd.R_alloc | apply Kd.R_drewN | apply Kd.R_drew)); exact Kd.R_mono HO_6.out (fun _ hk => ⟨hk.1.1, ⟨hk.2, hk.1.2⟩⟩)⟩, ⟨by (with_reducible repeat (first | apply Kd.R_alloc | apply Kd.R_drewN | apply Kd.R_drew)); exact Kd.R_mono HO416.out (fun _ hk => ⟨hk.1.1.2, ⟨hk.1.2, hk.2⟩⟩)⟩, ⟨by (with_reducible repeat (first | refine kN ?_ _ | refine kD ?_ | refine kA ?_ _)); exact BK407.out⟩, ⟨by repeat (first | (with_reducible first | exact HB.out | apply kL | apply kM | apply kE | refine kS ?_ GE407.out) | exact HB.out)⟩⟩
          case rest =>
           clear HC23
           try clear c1
           try clear c2
           try clear p2
           try clear p4
           try clear q4
           try clear hx4
           try clear c5
           try clear c6
           try clear c8
           try clear c11
           try clear c11b0
           try clear c12
           try clear c12b0
           try clear c16
           try clear c16b0
           try clear c29
           try clear c29b0
           try clear c29b1
           try clear hcz15_0
           try clear hcz15_1
           try clear hcz15_2
           try clear hcz15_3
           try clear hcz15_4
           try clear hcz15_5
           try clear hcz18_0
           try clear hcz18_1
           try clear hcz18_2
           try clear hcz18_3
           try clear hcz18_4
           try clear hcz18_5
           try clear hcz20_0
           try clear hcz20_1
           try clear hcz20_2
           try clear hcz20_3
           try clear hcz20_4
           try clear hcz20_5
           try clear hcz24_0
           try clear hcz24_1
           try clear hcz24_2
           try clear hcz24_3
           try clear hcz24_4
           try clear hcz24_5
           try clear hcz27_0
           try clear hcz27_1
           try clear hcz27_2
           try clear hcz27_3
           try clear hcz27_4
           try clear hcz27_5
           try clear hfz15_0
           try clear hfz15_1
           try clear hfz15_2
           try clear hfz15_3
           try clear hfz15_4
           try clear hfz15_5
           try clear hfz18_0
           try clear hfz18_1
           try clear hfz18_2
           try clear hfz18_3
           try clear hfz18_4
           try clear hfz18_5
           try clear hfz20_0
           try clear hfz20_1
           try clear hfz20_2
           try clear hfz20_3
           try clear hfz20_4
           try clear hfz20_5
           try clear hfz24_0
           try clear hfz24_1
           try clear hfz24_2
           try clear hfz24_3
           try clear hfz24_4
           try clear hfz24_5
           try clear hfz27_0
           try clear hfz27_1
           try clear hfz27_2
           try clear hfz27_3
           try clear hfz27_4
           try clear hfz27_5
           try clear hx406_0
           try clear hx406_1
           try clear hx406_2
           try clear hx406_3
           try clear hx406_4
           try clear hx406_5
           try clear p2
           try clear p4
           try clear p406
           try clear q4
           try clear q406
           obtain ⟨kq, x56_22, rfl, HA, HJ22, HO_5, HO_6, HO_9, BK407, HB⟩ := hcut
           cases kq with
           | zero => exact absurd HA.out (by simp [paybooklaw09_PlanLists.j3])
           | succ kj22 =>
            have H := HA.out
            clear HA
            simp only [paybooklaw09_PlanLists.j3] at H
            have HC31 := Aside0.mk H
            clear H
            go_upto_if 56 with (fail)
            repeat (go_quiet (fail); go_upto_if 56 with (fail))
            go_cut [12] (fun v12 wc => ∃ (kq : Nat) (x12_30 : Int), v12 = .int .i64 x12_30 ∧ Aside0 (paybooklaw09_PlanLists.j4 kq l0 a1 x5_2 x6_2 x7_2 t414 t417 t418 x12_30 x408000_12 x408001_12 x408002_12 x408003_12 x408004_12 x408005_12 = some true) ∧ Aside0 (kq ≤ kj22) ∧ Aside0 (Kd.R k23 23 wc w.heap.size (fun k_ => some k_ ≠ (u6 : Value).ownBlock ∧ some k_ ≠ (v415 : Value).ownBlock ∧ k_ ≠ gb407) (.slice Ao25 x5_2.length co25) x5_2) ∧ Aside0 (Kd.R k23 23 wc w.heap.size (fun k_ => some k_ ≠ ((.slice Ao25 x5_2.length co25) : Value).ownBlock ∧ some k_ ≠ (v415 : Value).ownBlock ∧ k_ ≠ gb407) u6 x6_2) ∧ Aside0 (Kd.R k23 23 wc w.heap.size (fun k_ => some k_ ≠ ((.slice Ao25 x5_2.length co25) : Value).ownBlock ∧ some k_ ≠ (u6 : Value).ownBlock ∧ k_ ≠ gb407) v415 t414) ∧ Aside0 (wc.heap[gb407]? = some (.cells #[.int .i64 x408000_12, .int .u8 x408001_12, .int .i64 x408002_12, .int .i64 x408003_12, .bool x408004_12, .bool x408005_12] 23 (0, 0))) ∧ Aside0 (Below w.heap.size w wc))
            case first =>
             have H := HC31.out
             clear HC31
             by_cases c32 : x56_22 = true
             ·subst c32
              have H1 : (paybooklaw09_PlanLists.j4 kj22 l0 a1 x5_2 x6_2 x7_2 t414 t417 t418 3 x408000_12 x408001_12 x408002_12 x408003_12 x408004_12 x408005_12) = some true := by rw [if_pos rfl] at H; try exact H
              clear H
              have H := H1
              clear H1
              have H' := Aside0.mk H
              clear H
              go_wp2
              repeat (go_quiet (fail); try go_wp2)
              go_meet
              case rel => exact ⟨_, (3), (by first | rfl | (simp; done) | (simp [*]; done)), (by first | (with_reducible exact H') | (simp only [*]; with_reducible exact H') | exact H'), ⟨by have := HJ2.out; have := HK2.out; have := HJ12.out; have := HJ22.out; first | omega | exact Nat.le_refl _⟩, ⟨by (with_reducible repeat (first | apply Kd.R_alloc | apply Kd.R_drewN | apply Kd.R_drew)); exact HO_5.out⟩, ⟨by (with_reducible repeat (first | apply Kd.R_alloc | apply Kd.R_drewN | apply Kd.R_drew)); exact HO_6.out⟩, ⟨by (with_reducible repeat (first | apply Kd.R_alloc | apply Kd.R_drewN | apply Kd.R_drew)); exact HO_9.out⟩, ⟨by (with_reducible repeat (first | refine kN ?_ _ | refine kD ?_ | refine kA ?_ _)); exact BK407.out⟩, ⟨by repeat (first | (with_reducible first | exact HB.out | apply kL | apply kM | apply kE | refine kS ?_ GE407.out) | exact HB.out)⟩⟩
             ·replace c32 := Bool.eq_false_iff.mpr c32
              subst c32
              have H1 : (paybooklaw09_PlanLists.j4 kj22 l0 a1 x5_2 x6_2 x7_2 t414 t417 t418 t419 x408000_12 x408001_12 x408002_12 x408003_12 x408004_12 x408005_12) = some true := by rw [if_neg (show ¬ (false = true) by decide)] at H; try exact H
              clear H
              have H := H1
              clear H1
              have H' := Aside0.mk H
              clear H
              go_wp2
              repeat (go_quiet (fail); try go_wp2)
              go_meet
              case rel => exact ⟨_, (t419), (by first | rfl | (simp; done) | (simp [*]; done)), (by first | (with_reducible exact H') | (simp only [*]; with_reducible exact H') | exact H'), ⟨by have := HJ2.out; have := HK2.out; have := HJ12.out; have := HJ22.out; first | omega | exact Nat.le_refl _⟩, ⟨by (with_reducible repeat (first | apply Kd.R_alloc | apply Kd.R_drewN | apply Kd.R_drew)); exact HO_5.out⟩, ⟨by (with_reducible repeat (first | apply Kd.R_alloc | apply Kd.R_drewN | apply Kd.R_drew)); exact HO_6.out⟩, ⟨by (with_reducible repeat (first | apply Kd.R_alloc | apply Kd.R_drewN | apply Kd.R_drew)); exact HO_9.out⟩, ⟨by (with_reducible repeat (first | refine kN ?_ _ | refine kD ?_ | refine kA ?_ _)); exact BK407.out⟩, ⟨by repeat (first | (with_reducible first | exact HB.out | apply kL | apply kM | apply kE | refine kS ?_ GE407.out) | exact HB.out)⟩⟩
            case rest =>
             clear HC31
             try clear c1
             try clear c2
             try clear p2
             try clear c3
             try clear p4
             try clear q4
             try clear hx4
             try clear c5
             try clear c6
             try clear c8
             try clear c11
             try clear c11b0
             try clear c12
             try clear c12b0
             try clear c16
             try clear c16b0
             try clear c29
             try clear c29b0
             try clear c29b1
             try clear c32
             try clear hcz15_0
             try clear hcz15_1
             try clear hcz15_2
             try clear hcz15_3
             try clear hcz15_4
             try clear hcz15_5
             try clear hcz18_0
             try clear hcz18_1
             try clear hcz18_2
             try clear hcz18_3
             try clear hcz18_4
             try clear hcz18_5
             try clear hcz20_0
             try clear hcz20_1
             try clear hcz20_2
             try clear hcz20_3
             try clear hcz20_4
             try clear hcz20_5
             try clear hcz24_0
             try clear hcz24_1
             try clear hcz24_2
             try clear hcz24_3
             try clear hcz24_4
             try clear hcz24_5
             try clear hcz27_0
             try clear hcz27_1
             try clear hcz27_2
             try clear hcz27_3
             try clear hcz27_4
             try clear hcz27_5
             try clear hfz15_0
             try clear hfz15_1
             try clear hfz15_2
             try clear hfz15_3
             try clear hfz15_4
             try clear hfz15_5
             try clear hfz18_0
             try clear hfz18_1
             try clear hfz18_2
             try clear hfz18_3
             try clear hfz18_4
             try clear hfz18_5
             try clear hfz20_0
             try clear hfz20_1
             try clear hfz20_2
             try clear hfz20_3
             try clear hfz20_4
             try clear hfz20_5
             try clear hfz24_0
             try clear hfz24_1
             try clear hfz24_2
             try clear hfz24_3
             try clear hfz24_4
             try clear hfz24_5
             try clear hfz27_0
             try clear hfz27_1
             try clear hfz27_2
             try clear hfz27_3
             try clear hfz27_4
             try clear hfz27_5
             try clear hx406_0
             try clear hx406_1
             try clear hx406_2
             try clear hx406_3
             try clear hx406_4
             try clear hx406_5
             try clear p2
             try clear p4
             try clear p406
             try clear q4
             try clear q406
             obtain ⟨kq, x12_30, rfl, HA, HJ30, HO_5, HO_6, HO_9, BK407, HB⟩ := hcut
             cases kq with
             | zero => exact absurd HA.out (by simp [paybooklaw09_PlanLists.j4])
             | succ kj30 =>
              have H := HA.out
              clear HA
              simp only [paybooklaw09_PlanLists.j4] at H
              have HC33 := Aside0.mk H
              clear H
              go_upto_region 15 with (fail)
              repeat (go_quiet (fail); go_upto_region 15 with (fail))
              go_cut [89] (fun v89 wc => ∃ (kq : Nat) (x89_32 : Bool), v89 = .bool x89_32 ∧ Aside0 (paybooklaw09_PlanLists.j5 kq l0 a1 x5_2 x6_2 x7_2 t414 t418 x89_32 x408000_12 x408001_12 x408002_12 x408003_12 x408004_12 x408005_12 = some true) ∧ Aside0 (kq ≤ kj30) ∧ Aside0 (Kd.R k23 23 wc w.heap.size (fun k_ => some k_ ≠ (u6 : Value).ownBlock ∧ some k_ ≠ (v415 : Value).ownBlock ∧ k_ ≠ gb407) (.slice Ao25 x5_2.length co25) x5_2) ∧ Aside0 (Kd.R k23 23 wc w.heap.size (fun k_ => some k_ ≠ ((.slice Ao25 x5_2.length co25) : Value).ownBlock ∧ some k_ ≠ (v415 : Value).ownBlock ∧ k_ ≠ gb407) u6 x6_2) ∧ Aside0 (Kd.R k23 23 wc w.heap.size (fun k_ => some k_ ≠ ((.slice Ao25 x5_2.length co25) : Value).ownBlock ∧ some k_ ≠ (u6 : Value).ownBlock ∧ k_ ≠ gb407) v415 t414) ∧ Aside0 (wc.heap[gb407]? = some (.cells #[.int .i64 x408000_12, .int .u8 x408001_12, .int .i64 x408002_12, .int .i64 x408003_12, .bool x408004_12, .bool x408005_12] 23 (0, 0))) ∧ Aside0 (Below w.heap.size w wc))
              case first =>
               have H := HC33.out
               clear HC33
               by_cases c34 : t418 = x12_30
               ·rw [if_pos c34] at H
                have c34b0 : (t418 == x12_30) = true := beq_iff_eq.mpr c34
                have c34b1 : (t418 != x12_30) = false := bne_eq_false_iff_eq.mpr c34
                clear c34
                (first | (generalize hg_ : (t418 == x12_30) = bg_ at *; subst c34b0; have c34b0 := hg_; clear hg_) | rw [c34b0] | (simp only [i64_w, i32_w]; rw [c34b0]) | skip)
                by_cases c35 : t418 = 0
                ·rw [if_pos c35] at H
                 have c35b0 : (t418 == 0) = true := beq_iff_eq.mpr c35
                 have c35b1 : (t418 != 0) = false := bne_eq_false_iff_eq.mpr c35
                 clear c35
                 by_cases c36 : t417 = (x6_2.length : Int)
                 ·rw [if_pos c36] at H
                  have c36b0 : (t417 == (x6_2.length : Int)) = true := beq_iff_eq.mpr c36
                  have c36b1 : (t417 != (x6_2.length : Int)) = false := bne_eq_false_iff_eq.mpr c36
                  clear c36
                  have H' := Aside0.mk H
                  clear H
                  obtain ⟨Ao37, co37, eo37⟩ := Kd.R_slice HO_6.out
                  subst eo37
                  go_wp2
                  repeat (go_quiet (fail); try go_wp2)
                  go_meet
                  case rel => exact ⟨_, (((x5_2.length : Int) != (x6_2.length : Int))), (by first | rfl | (simp; done) | (simp [*]; done)), (by first | (with_reducible exact H') | (simp only [*]; with_reducible exact H') | exact H'), ⟨by have := HJ2.out; have := HK2.out; have := HJ12.out; have := HJ22.out; have := HJ30.out; first | omega | exact Nat.le_refl _⟩, ⟨by (with_reducible repeat (first | apply Kd.R_alloc | apply Kd.R_drewN | apply Kd.R_drew)); exact HO_5.out⟩, ⟨by (with_reducible repeat (first | apply Kd.R_alloc | apply Kd.R_drewN | apply Kd.R_drew)); exact HO_6.out⟩, ⟨by (with_reducible repeat (first | apply Kd.R_alloc | apply Kd.R_drewN | apply Kd.R_drew)); exact HO_9.out⟩, ⟨by (with_reducible repeat (first | refine kN ?_ _ | refine kD ?_ | refine kA ?_ _)); exact BK407.out⟩, ⟨by repeat (first | (with_reducible first | exact HB.out | apply kL | apply kM | apply kE | refine kS ?_ GE407.out) | exact HB.out)⟩⟩
                 ·rw [if_neg c36] at H
                  have c36b0 : (t417 == (x6_2.length : Int)) = false := beq_eq_false_iff_ne.mpr c36
                  have c36b1 : (t417 != (x6_2.length : Int)) = true := bne_iff_ne.mpr c36
                  have H' := Aside0.mk H
                  clear H
                  obtain ⟨Ao38, co38, eo38⟩ := Kd.R_slice HO_6.out
                  subst eo38
                  go_wp2
                  repeat (go_quiet (fail); try go_wp2)
                  go_meet
                  case rel => exact ⟨_, (true), (by first | rfl | (simp; done) | (simp [*]; done)), (by first | (with_reducible exact H') | (simp only [*]; with_reducible exact H') | exact H'), ⟨by have := HJ2.out; have := HK2.out; have := HJ12.out; have := HJ22.out; have := HJ30.out; first | omega | exact Nat.le_refl _⟩, ⟨by (with_reducible repeat (first | apply Kd.R_alloc | apply Kd.R_drewN | apply Kd.R_drew)); exact HO_5.out⟩, ⟨by (with_reducible repeat (first | apply Kd.R_alloc | apply Kd.R_drewN | apply Kd.R_drew)); exact HO_6.out⟩, ⟨by (with_reducible repeat (first | apply Kd.R_alloc | apply Kd.R_drewN | apply Kd.R_drew)); exact HO_9.out⟩, ⟨by (with_reducible repeat (first | refine kN ?_ _ | refine kD ?_ | refine kA ?_ _)); exact BK407.out⟩, ⟨by repeat (first | (with_reducible first | exact HB.out | apply kL | apply kM | apply kE | refine kS ?_ GE407.out) | exact HB.out)⟩⟩
                ·rw [if_neg c35] at H
                 have c35b0 : (t418 == 0) = false := beq_eq_false_iff_ne.mpr c35
                 have c35b1 : (t418 != 0) = true := bne_iff_ne.mpr c35
                 by_cases c39 : (t414.length : Int) = 0
                 ·rw [if_pos c39] at H
                  have c39b0 : ((t414.length : Int) == 0) = true := beq_iff_eq.mpr c39
                  have c39b1 : ((t414.length : Int) != 0) = false := bne_eq_false_iff_eq.mpr c39
                  clear c39
                  by_cases c40 : t417 = 0
                  ·rw [if_pos c40] at H
                   have c40b0 : (t417 == 0) = true := beq_iff_eq.mpr c40
                   have c40b1 : (t417 != 0) = false := bne_eq_false_iff_eq.mpr c40
                   clear c40
                   have H' := Aside0.mk H
                   clear H
                   obtain ⟨Ao41, co41, eo41⟩ := Kd.R_slice HO_9.out
                   subst eo41
                   go_wp2
                   repeat (go_quiet (fail); try go_wp2)
                   go_meet
                   case rel => exact ⟨_, (false), (by first | rfl | (simp; done) | (simp [*]; done)), (by first | (with_reducible exact H') | (simp only [*]; with_reducible exact H') | exact H'), ⟨by have := HJ2.out; have := HK2.out; have := HJ12.out; have := HJ22.out; have := HJ30.out; first | omega | exact Nat.le_refl _⟩, ⟨by (with_reducible repeat (first | apply Kd.R_alloc | apply Kd.R_drewN | apply Kd.R_drew)); exact HO_5.out⟩, ⟨by (with_reducible repeat (first | apply Kd.R_alloc | apply Kd.R_drewN | apply Kd.R_drew)); exact HO_6.out⟩, ⟨by (with_reducible repeat (first | apply Kd.R_alloc | apply Kd.R_drewN | apply Kd.R_drew)); exact HO_9.out⟩, ⟨by (with_reducible repeat (first | refine kN ?_ _ | refine kD ?_ | refine kA ?_ _)); exact BK407.out⟩, ⟨by repeat (first | (with_reducible first | exact HB.out | apply kL | apply kM | apply kE | refine kS ?_ GE407.out) | exact HB.out)⟩⟩
                  ·rw [if_neg c40] at H
                   have c40b0 : (t417 == 0) = false := beq_eq_false_iff_ne.mpr c40
                   have c40b1 : (t417 != 0) = true := bne_iff_ne.mpr c40
                   have H' := Aside0.mk H
                   clear H
                   obtain ⟨Ao42, co42, eo42⟩ := Kd.R_slice HO_9.out
                   subst eo42
                   go_wp2
                   repeat (go_quiet (fail); try go_wp2)
                   go_meet
                   case rel => exact ⟨_, (true), (by first | rfl | (simp; done) | (simp [*]; done)), (by first | (with_reducible exact H') | (simp only [*]; with_reducible exact H') | exact H'), ⟨by have := HJ2.out; have := HK2.out; have := HJ12.out; have := HJ22.out; have := HJ30.out; first | omega | exact Nat.le_refl _⟩, ⟨by (with_reducible repeat (first | apply Kd.R_alloc | apply Kd.R_drewN | apply Kd.R_drew)); exact HO_5.out⟩, ⟨by (with_reducible repeat (first | apply Kd.R_alloc | apply Kd.R_drewN | apply Kd.R_drew)); exact HO_6.out⟩, ⟨by (with_reducible repeat (first | apply Kd.R_alloc | apply Kd.R_drewN | apply Kd.R_drew)); exact HO_9.out⟩, ⟨by (with_reducible repeat (first | refine kN ?_ _ | refine kD ?_ | refine kA ?_ _)); exact BK407.out⟩, ⟨by repeat (first | (with_reducible first | exact HB.out | apply kL | apply kM | apply kE | refine kS ?_ GE407.out) | exact HB.out)⟩⟩
                 ·rw [if_neg c39] at H
                  have c39b0 : ((t414.length : Int) == 0) = false := beq_eq_false_iff_ne.mpr c39
                  have c39b1 : ((t414.length : Int) != 0) = true := bne_iff_ne.mpr c39
                  have c39b2 : ¬ (t414 = []) := fun h_ => c39 (by rw [h_]; rfl)
                  have H' := Aside0.mk H
                  clear H
                  obtain ⟨Ao43, co43, eo43⟩ := Kd.R_slice HO_9.out
                  subst eo43
                  go_wp2
                  repeat (go_quiet (fail); try go_wp2)
                  go_meet
                  case rel => exact ⟨_, (true), (by first | rfl | (simp; done) | (simp [*]; done)), (by first | (with_reducible exact H') | (simp only [*]; with_reducible exact H') | exact H'), ⟨by have := HJ2.out; have := HK2.out; have := HJ12.out; have := HJ22.out; have := HJ30.out; first | omega | exact Nat.le_refl _⟩, ⟨by (with_reducible repeat (first | apply Kd.R_alloc | apply Kd.R_drewN | apply Kd.R_drew)); exact HO_5.out⟩, ⟨by (with_reducible repeat (first | apply Kd.R_alloc | apply Kd.R_drewN | apply Kd.R_drew)); exact HO_6.out⟩, ⟨by (with_reducible repeat (first | apply Kd.R_alloc | apply Kd.R_drewN | apply Kd.R_drew)); exact HO_9.out⟩, ⟨by (with_reducible repeat (first | refine kN ?_ _ | refine kD ?_ | refine kA ?_ _)); exact BK407.out⟩, ⟨by repeat (first | (with_reducible first | exact HB.out | apply kL | apply kM | apply kE | refine kS ?_ GE407.out) | exact HB.out)⟩⟩
               ·rw [if_neg c34] at H
                have c34b0 : (t418 == x12_30) = false := beq_eq_false_iff_ne.mpr c34
                have c34b1 : (t418 != x12_30) = true := bne_iff_ne.mpr c34
                (first | (generalize hg_ : (t418 == x12_30) = bg_ at *; subst c34b0; have c34b0 := hg_; clear hg_) | rw [c34b0] | (simp only [i64_w, i32_w]; rw [c34b0]) | skip)
                have H' := Aside0.mk H
                clear H
                go_wp2
                repeat (go_quiet (fail); try go_wp2)
                go_meet
                case rel => exact ⟨_, (true), (by first | rfl | (simp; done) | (simp [*]; done)), (by first | (with_reducible exact H') | (simp only [*]; with_reducible exact H') | exact H'), ⟨by have := HJ2.out; have := HK2.out; have := HJ12.out; have := HJ22.out; have := HJ30.out; first | omega | exact Nat.le_refl _⟩, ⟨by (with_reducible repeat (first | apply Kd.R_alloc | apply Kd.R_drewN | apply Kd.R_drew)); exact HO_5.out⟩, ⟨by (with_reducible repeat (first | apply Kd.R_alloc | apply Kd.R_drewN | apply Kd.R_drew)); exact HO_6.out⟩, ⟨by (with_reducible repeat (first | apply Kd.R_alloc | apply Kd.R_drewN | apply Kd.R_drew)); exact HO_9.out⟩, ⟨by (with_reducible repeat (first | refine kN ?_ _ | refine kD ?_ | refine kA ?_ _)); exact BK407.out⟩, ⟨by repeat (first | (with_reducible first | exact HB.out | apply kL | apply kM | apply kE | refine kS ?_ GE407.out) | exact HB.out)⟩⟩
              case rest =>
               clear HC33
               try clear c1
               try clear c2
               try clear p2
               try clear c3
               try clear c4
               try clear p4
               try clear q4
               try clear hx4
               try clear c5
               try clear c6
               try clear c8
               try clear c11
               try clear c11b0
               try clear c12
               try clear c12b0
               try clear c16
               try clear c16b0
               try clear c29
               try clear c29b0
               try clear c29b1
               try clear c32
               try clear c34
               try clear c34b0
               try clear c34b1
               try clear c35
               try clear c35b0
               try clear c35b1
               try clear c36
               try clear c36b0
               try clear c36b1
               try clear c39
               try clear c39b0
               try clear c39b1
               try clear c39b2
               try clear c40
               try clear c40b0
               try clear c40b1
               try clear p40
               try clear q40
               try clear hx40
               try clear hcz15_0
               try clear hcz15_1
               try clear hcz15_2
               try clear hcz15_3
               try clear hcz15_4
               try clear hcz15_5
               try clear hcz18_0
               try clear hcz18_1
               try clear hcz18_2
               try clear hcz18_3
               try clear hcz18_4
               try clear hcz18_5
               try clear hcz20_0
               try clear hcz20_1
               try clear hcz20_2
               try clear hcz20_3
               try clear hcz20_4
               try clear hcz20_5
               try clear hcz24_0
               try clear hcz24_1
               try clear hcz24_2
               try clear hcz24_3
               try clear hcz24_4
               try clear hcz24_5
               try clear hcz27_0
               try clear hcz27_1
               try clear hcz27_2
               try clear hcz27_3
               try clear hcz27_4
               try clear hcz27_5
               try clear hfz15_0
               try clear hfz15_1
               try clear hfz15_2
               try clear hfz15_3
               try clear hfz15_4
               try clear hfz15_5
               try clear hfz18_0
               try clear hfz18_1
               try clear hfz18_2
               try clear hfz18_3
               try clear hfz18_4
               try clear hfz18_5
               try clear hfz20_0
               try clear hfz20_1
               try clear hfz20_2
               try clear hfz20_3
               try clear hfz20_4
               try clear hfz20_5
               try clear hfz24_0
               try clear hfz24_1
               try clear hfz24_2
               try clear hfz24_3
               try clear hfz24_4
               try clear hfz24_5
               try clear hfz27_0
               try clear hfz27_1
               try clear hfz27_2
               try clear hfz27_3
               try clear hfz27_4
               try clear hfz27_5
               try clear hx406_0
               try clear hx406_1
               try clear hx406_2
               try clear hx406_3
               try clear hx406_4
               try clear hx406_5
               try clear p2
               try clear p4
               try clear p406
               try clear q4
               try clear q406
               obtain ⟨kq, x89_32, rfl, HA, HJ32, HO_5, HO_6, HO_9, BK407, HB⟩ := hcut
               cases kq with
               | zero => exact absurd HA.out (by simp [paybooklaw09_PlanLists.j5])
               | succ kj32 =>
                have H := HA.out
                clear HA
                simp only [paybooklaw09_PlanLists.j5] at H
                by_cases c44 : x89_32 = true
                ·subst c44
                 have H1 : (some false) = some true := by rw [if_pos rfl] at H; try exact H
                 clear H
                 have H := H1
                 clear H1
                 exact absurd H (by simp)
                ·replace c44 := Bool.eq_false_iff.mpr c44
                 subst c44
                 have H1 : (if t418 = 0 then (if x6_2.length < 3518437208883 then (paybooklaw09_PlanLists.l0 kj32 l0 a1 t414 (x6_2 ++ [(⟨x408000_12, x408001_12, x408002_12, x408003_12, x408004_12, x408005_12⟩ : S23)]) (wrap64 (x7_2 + 1))) else (none)) else (paybooklaw09_PlanLists.l0 kj32 l0 a1 x5_2 x6_2 (wrap64 (x7_2 + 1)))) = some true := by rw [if_neg (show ¬ (false = true) by decide)] at H; try exact H
                 clear H
                 have H := H1
                 clear H1
                 by_cases c45 : t418 = 0
                 ·rw [if_pos c45] at H
                  have c45b0 : (t418 == 0) = true := beq_iff_eq.mpr c45
                  have c45b1 : (t418 != 0) = false := bne_eq_false_iff_eq.mpr c45
                  clear c45
                  by_cases c46 : x6_2.length < 3518437208883
                  ·rw [if_pos c46] at H
                   have LMc46 := Aside0.mk c46
                   clear c46
                   obtain ⟨y420, hy420⟩ : ∃ y_ : List (S23), y_ = (x6_2 ++ [(⟨x408000_12, x408001_12, x408002_12, x408003_12, x408004_12, x408005_12⟩ : S23)]) := ⟨_, rfl⟩
                   replace H : (paybooklaw09_PlanLists.l0 kj32 l0 a1 t414 y420 (wrap64 (x7_2 + 1))) = some true := by first | (rw [hy420]; with_reducible exact H) | (have H2_ := (Option.bind_some _ _).symm.trans H; rw [hy420]; with_reducible exact H2_) | (have H2_ := (Option.bind_some _ _).symm.trans H; with_reducible exact H2_) | with_reducible exact H | (rw [hy420]; exact H) | exact H
                   have Ny420 := Aside0.mk hy420
                   clear hy420
                   have H' := Aside0.mk H
                   clear H
                   obtain ⟨hcz47_0, hcz47_1, hcz47_2, hcz47_3, hcz47_4, hcz47_5, hfz47_0, hfz47_1, hfz47_2, hfz47_3, hfz47_4, hfz47_5⟩ := bxc6 BK407.out
                   go_wp2_with (first | ((with_reducible refine gate_builtin (b := .append) (xs := #[.tmp 93, .tmp 95]) rfl ?_); (try (refine gate_guard (by rfl) ?_; dsimp only)); at_builtin; refine Kd.R_append k23 (w0 := w) w.heap.size rfl (.tmp 93) (.tmp 95) 36 23 (.agg #[(.int .i64 0), (.int .u8 0), (.int .i64 0), (.int .i64 0), (.bool false), (.bool false)]) 40 rfl Try.underlying36 info23 rfl (by decide) (by omega) u6 x6_2 (⟨x408000_12, x408001_12, x408002_12, x408003_12, x408004_12, x408005_12⟩ : S23) [.int .i64 x408000_12, .int .u8 x408001_12, .int .i64 x408002_12, .int .i64 x408003_12, .bool x408004_12, .bool x408005_12] (fun k_ => some k_ ≠ (.slice Ao25 x5_2.length co25 : Value).ownBlock ∧ some k_ ≠ (v415 : Value).ownBlock ∧ k_ ≠ gb407) (fun _ => False) rfl rfl ?aP (fun _ hk => hk.elim) ?aF ?aO ?aB ?aS ?aL ?_; (case aP => exact k23_mkM _ _ _ (⟨x408000_12, x408001_12, x408002_12, x408003_12, x408004_12, x408005_12⟩ : S23)); (case aB => exact (by repeat (first | (with_reducible first | exact HB.out | apply kL | apply kM | apply kE | refine kS ?_ GE407.out) | exact HB.out))); (case aF => exact (fun k_ hk => ⟨Kd.fresh' (Kd.R_lt (by (with_reducible repeat (first | apply Kd.R_alloc | apply Kd.R_drewN | apply Kd.R_drew)); exact HO_5.out)) k_ hk, Kd.fresh' (Kd.R_lt (by (with_reducible repeat (first | apply Kd.R_alloc | apply Kd.R_drewN | apply Kd.R_drew)); exact HO_9.out)) k_ hk, Kd.freshB (g := gb407) (o := .cells #[.int .i64 x408000_12, .int .u8 x408001_12, .int .i64 x408002_12, .int .i64 x408003_12, .bool x408004_12, .bool x408005_12] 23 (0, 0)) (by (with_reducible repeat (first | refine kN ?_ _ | refine kD ?_ | refine kA ?_ _)); exact BK407.out) k_ hk⟩)); (case aO => exact (by (with_reducible repeat (first | apply Kd.R_alloc | apply Kd.R_drewN | apply Kd.R_drew)); exact HO_6.out)); (case aS => exact (below_size (by repeat (first | (with_reducible first | exact HB.out | apply kL | apply kM | apply kE | refine kS ?_ GE407.out) | exact HB.out)))); (case aL => have := LMc46.out; omega); intro v421 w48 ho hb hg hat; rw [← Ny420.out] at ho; have n0_ := Aside0.mk (Kd.R_after (ok := (fun k_ => some k_ ≠ (v415 : Value).ownBlock ∧ k_ ≠ gb407)) (by (with_reducible repeat (first | apply Kd.R_alloc | apply Kd.R_drewN | apply Kd.R_drew)); exact Kd.R_mono HO_5.out (fun _ hk => ⟨⟨hk.2.1, hk.2.2⟩, hk.1⟩)) hg hat); have n1_ := Aside0.mk (Kd.R_after (ok := (fun k_ => some k_ ≠ (.slice Ao25 x5_2.length co25 : Value).ownBlock ∧ k_ ≠ gb407)) (by (with_reducible repeat (first | apply Kd.R_alloc | apply Kd.R_drewN | apply Kd.R_drew)); exact Kd.R_mono HO_9.out (fun _ hk => ⟨⟨hk.1, hk.2.2⟩, hk.2.1⟩)) hg hat); have n2_ := Aside0.mk (blk_grown (g := gb407) (o := .cells #[.int .i64 x408000_12, .int .u8 x408001_12, .int .i64 x408002_12, .int .i64 x408003_12, .bool x408004_12, .bool x408005_12] 23 (0, 0)) (by (with_reducible repeat (first | refine kN ?_ _ | refine kD ?_ | refine kA ?_ _)); exact BK407.out) hg (Kd.R_away HO_6.out (fun _ hk => hk.2.2))); have n3_ := Aside0.mk (hb); have n4_ := Aside0.mk (ho); clear HO_5; clear HO_9; clear BK407; clear HB; clear HO_6; have HO_5 := n0_; have HO_9 := n1_; have BK407 := n2_; have HB := n3_; have HO422 := n4_; clear n0_ n1_ n2_ n3_ n4_; clear ho hb hg hat))
                   repeat (go_quiet (first | ((with_reducible refine gate_builtin (b := .append) (xs := #[.tmp 93, .tmp 95]) rfl ?_); (try (refine gate_guard (by rfl) ?_; dsimp only)); at_builtin; refine Kd.R_append k23 (w0 := w) w.heap.size rfl (.tmp 93) (.tmp 95) 36 23 (.agg #[(.int .i64 0), (.int .u8 0), (.int .i64 0), (.int .i64 0), (.bool false), (.bool false)]) 40 rfl Try.underlying36 info23 rfl (by decide) (by omega) u6 x6_2 (⟨x408000_12, x408001_12, x408002_12, x408003_12, x408004_12, x408005_12⟩ : S23) [.int .i64 x408000_12, .int .u8 x408001_12, .int .i64 x408002_12, .int .i64 x408003_12, .bool x408004_12, .bool x408005_12] (fun k_ => some k_ ≠ (.slice Ao25 x5_2.length co25 : Value).ownBlock ∧ some k_ ≠ (v415 : Value).ownBlock ∧ k_ ≠ gb407) (fun _ => False) rfl rfl ?aP (fun _ hk => hk.elim) ?aF ?aO ?aB ?aS ?aL ?_; (case aP => exact k23_mkM _ _ _ (⟨x408000_12, x408001_12, x408002_12, x408003_12, x408004_12, x408005_12⟩ : S23)); (case aB => exact (by repeat (first | (with_reducible first | exact HB.out | apply kL | apply kM | apply kE | refine kS ?_ GE407.out) | exact HB.out))); (case aF => exact (fun k_ hk => ⟨Kd.fresh' (Kd.R_lt (by (with_reducible repeat (first | apply Kd.R_alloc | apply Kd.R_drewN | apply Kd.R_drew)); exact HO_5.out)) k_ hk, Kd.fresh' (Kd.R_lt (by (with_reducible repeat (first | apply Kd.R_alloc | apply Kd.R_drewN | apply Kd.R_drew)); exact HO_9.out)) k_ hk, Kd.freshB (g := gb407) (o := .cells #[.int .i64 x408000_12, .int .u8 x408001_12, .int .i64 x408002_12, .int .i64 x408003_12, .bool x408004_12, .bool x408005_12] 23 (0, 0)) (by (with_reducible repeat (first | refine kN ?_ _ | refine kD ?_ | refine kA ?_ _)); exact BK407.out) k_ hk⟩)); (case aO => exact (by (with_reducible repeat (first | apply Kd.R_alloc | apply Kd.R_drewN | apply Kd.R_drew)); exact HO_6.out)); (case aS => exact (below_size (by repeat (first | (with_reducible first | exact HB.out | apply kL | apply kM | apply kE | refine kS ?_ GE407.out) | exact HB.out)))); (case aL => have := LMc46.out; omega); intro v421 w48 ho hb hg hat; rw [← Ny420.out] at ho; have n0_ := Aside0.mk (Kd.R_after (ok := (fun k_ => some k_ ≠ (v415 : Value).ownBlock ∧ k_ ≠ gb407)) (by (with_reducible repeat (first | apply Kd.R_alloc | apply Kd.R_drewN | apply Kd.R_drew)); exact Kd.R_mono HO_5.out (fun _ hk => ⟨⟨hk.2.1, hk.2.2⟩, hk.1⟩)) hg hat); have n1_ := Aside0.mk (Kd.R_after (ok := (fun k_ => some k_ ≠ (.slice Ao25 x5_2.length co25 : Value).ownBlock ∧ k_ ≠ gb407)) (by (with_reducible repeat (first | apply Kd.R_alloc | apply Kd.R_drewN | apply Kd.R_drew)); exact Kd.R_mono HO_9.out (fun _ hk => ⟨⟨hk.1, hk.2.2⟩, hk.2.1⟩)) hg hat); have n2_ := Aside0.mk (blk_grown (g := gb407) (o := .cells #[.int .i64 x408000_12, .int .u8 x408001_12, .int .i64 x408002_12, .int .i64 x408003_12, .bool x408004_12, .bool x408005_12] 23 (0, 0)) (by (with_reducible repeat (first | refine kN ?_ _ | refine kD ?_ | refine kA ?_ _)); exact BK407.out) hg (Kd.R_away HO_6.out (fun _ hk => hk.2.2))); have n3_ := Aside0.mk (hb); have n4_ := Aside0.mk (ho); clear HO_5; clear HO_9; clear BK407; clear HB; clear HO_6; have HO_5 := n0_; have HO_9 := n1_; have BK407 := n2_; have HB := n3_; have HO422 := n4_; clear n0_ n1_ n2_ n3_ n4_; clear ho hb hg hat)); try go_wp2_with (first | ((with_reducible refine gate_builtin (b := .append) (xs := #[.tmp 93, .tmp 95]) rfl ?_); (try (refine gate_guard (by rfl) ?_; dsimp only)); at_builtin; refine Kd.R_append k23 (w0 := w) w.heap.size rfl (.tmp 93) (.tmp 95) 36 23 (.agg #[(.int .i64 0), (.int .u8 0), (.int .i64 0), (.int .i64 0), (.bool false), (.bool false)]) 40 rfl Try.underlying36 info23 rfl (by decide) (by omega) u6 x6_2 (⟨x408000_12, x408001_12, x408002_12, x408003_12, x408004_12, x408005_12⟩ : S23) [.int .i64 x408000_12, .int .u8 x408001_12, .int .i64 x408002_12, .int .i64 x408003_12, .bool x408004_12, .bool x408005_12] (fun k_ => some k_ ≠ (.slice Ao25 x5_2.length co25 : Value).ownBlock ∧ some k_ ≠ (v415 : Value).ownBlock ∧ k_ ≠ gb407) (fun _ => False) rfl rfl ?aP (fun _ hk => hk.elim) ?aF ?aO ?aB ?aS ?aL ?_; (case aP => exact k23_mkM _ _ _ (⟨x408000_12, x408001_12, x408002_12, x408003_12, x408004_12, x408005_12⟩ : S23)); (case aB => exact (by repeat (first | (with_reducible first | exact HB.out | apply kL | apply kM | apply kE | refine kS ?_ GE407.out) | exact HB.out))); (case aF => exact (fun k_ hk => ⟨Kd.fresh' (Kd.R_lt (by (with_reducible repeat (first | apply Kd.R_alloc | apply Kd.R_drewN | apply Kd.R_drew)); exact HO_5.out)) k_ hk, Kd.fresh' (Kd.R_lt (by (with_reducible repeat (first | apply Kd.R_alloc | apply Kd.R_drewN | apply Kd.R_drew)); exact HO_9.out)) k_ hk, Kd.freshB (g := gb407) (o := .cells #[.int .i64 x408000_12, .int .u8 x408001_12, .int .i64 x408002_12, .int .i64 x408003_12, .bool x408004_12, .bool x408005_12] 23 (0, 0)) (by (with_reducible repeat (first | refine kN ?_ _ | refine kD ?_ | refine kA ?_ _)); exact BK407.out) k_ hk⟩)); (case aO => exact (by (with_reducible repeat (first | apply Kd.R_alloc | apply Kd.R_drewN | apply Kd.R_drew)); exact HO_6.out)); (case aS => exact (below_size (by repeat (first | (with_reducible first | exact HB.out | apply kL | apply kM | apply kE | refine kS ?_ GE407.out) | exact HB.out)))); (case aL => have := LMc46.out; omega); intro v421 w48 ho hb hg hat; rw [← Ny420.out] at ho; have n0_ := Aside0.mk (Kd.R_after (ok := (fun k_ => some k_ ≠ (v415 : Value).ownBlock ∧ k_ ≠ gb407)) (by (with_reducible repeat (first | apply Kd.R_alloc | apply Kd.R_drewN | apply Kd.R_drew)); exact Kd.R_mono HO_5.out (fun _ hk => ⟨⟨hk.2.1, hk.2.2⟩, hk.1⟩)) hg hat); have n1_ := Aside0.mk (Kd.R_after (ok := (fun k_ => some k_ ≠ (.slice Ao25 x5_2.length co25 : Value).ownBlock ∧ k_ ≠ gb407)) (by (with_reducible repeat (first | apply Kd.R_alloc | apply Kd.R_drewN | apply Kd.R_drew)); exact Kd.R_mono HO_9.out (fun _ hk => ⟨⟨hk.1, hk.2.2⟩, hk.2.1⟩)) hg hat); have n2_ := Aside0.mk (blk_grown (g := gb407) (o := .cells #[.int .i64 x408000_12, .int .u8 x408001_12, .int .i64 x408002_12, .int .i64 x408003_12, .bool x408004_12, .bool x408005_12] 23 (0, 0)) (by (with_reducible repeat (first | refine kN ?_ _ | refine kD ?_ | refine kA ?_ _)); exact BK407.out) hg (Kd.R_away HO_6.out (fun _ hk => hk.2.2))); have n3_ := Aside0.mk (hb); have n4_ := Aside0.mk (ho); clear HO_5; clear HO_9; clear BK407; clear HB; clear HO_6; have HO_5 := n0_; have HO_9 := n1_; have BK407 := n2_; have HB := n3_; have HO422 := n4_; clear n0_ n1_ n2_ n3_ n4_; clear ho hb hg hat)))
                   go_roundg kj32
                   case measure => have := HJ2.out; have := HK2.out; have := HJ12.out; have := HJ22.out; have := HJ30.out; have := HJ32.out; omega
                   case rel => exact ⟨(t414), (y420), (wrap64 (x7_2 + 1)), (by first | rfl | (simp; done) | (simp [*]; done)), H', ⟨by have := HJ2.out; have := HK2.out; have := HJ12.out; have := HJ22.out; have := HJ30.out; have := HJ32.out; omega⟩, ⟨by (with_reducible repeat (first | apply Kd.R_alloc | apply Kd.R_drewN | apply Kd.R_drew)); exact Kd.R_mono HO_9.out (fun _ hk => hk.2)⟩, ⟨by (with_reducible repeat (first | apply Kd.R_alloc | apply Kd.R_drewN | apply Kd.R_drew)); exact Kd.R_mono HO422.out (fun _ hk => hk.2.1)⟩, ⟨by repeat (first | (with_reducible first | exact HB.out | apply kL | apply kM | apply kE | refine kS ?_ GE407.out) | exact HB.out)⟩⟩
                  ·rw [if_neg c46] at H
                   exact absurd H (by simp)
                 ·rw [if_neg c45] at H
                  have c45b0 : (t418 == 0) = false := beq_eq_false_iff_ne.mpr c45
                  have c45b1 : (t418 != 0) = true := bne_iff_ne.mpr c45
                  have H' := Aside0.mk H
                  clear H
                  go_wp2
                  repeat (go_quiet (fail); try go_wp2)
                  go_roundg kj32
                  case measure => have := HJ2.out; have := HK2.out; have := HJ12.out; have := HJ22.out; have := HJ30.out; have := HJ32.out; omega
                  case rel => exact ⟨(x5_2), (x6_2), (wrap64 (x7_2 + 1)), (by first | rfl | (simp; done) | (simp [*]; done)), H', ⟨by have := HJ2.out; have := HK2.out; have := HJ12.out; have := HJ22.out; have := HJ30.out; have := HJ32.out; omega⟩, ⟨by (with_reducible repeat (first | apply Kd.R_alloc | apply Kd.R_drewN | apply Kd.R_drew)); exact Kd.R_mono HO_5.out (fun _ hk => hk.1)⟩, ⟨by (with_reducible repeat (first | apply Kd.R_alloc | apply Kd.R_drewN | apply Kd.R_drew)); exact Kd.R_mono HO_6.out (fun _ hk => hk.1)⟩, ⟨by repeat (first | (with_reducible first | exact HB.out | apply kL | apply kM | apply kE | refine kS ?_ GE407.out) | exact HB.out)⟩⟩
       ·rw [if_neg c12] at H
        exact absurd H (by simp)
      ·rw [if_neg c11] at H
       have c11b0 : decide (x7_2 < (l0.length : Int)) = false := decide_eq_false c11
       clear c11
       have H' := Aside0.mk H
       clear H
       go_wp2
       repeat (go_quiet (fail); try go_wp2)
       go_loopg [13] k2 (fun kq v13 w' => ∃ (x13_3 : Int), v13 = .int .i64 x13_3 ∧ Aside0 (paybooklaw09_PlanLists.l1 kq a1 x5_2 x6_2 x13_3 = some true) ∧ Aside0 (kq ≤ k2) ∧ Aside0 (Kd.R k23 23 w' w.heap.size (fun k_ => some k_ ≠ (u6 : Value).ownBlock) u5 x5_2) ∧ Aside0 (Kd.R k23 23 w' w.heap.size (fun k_ => some k_ ≠ (u5 : Value).ownBlock) u6 x6_2) ∧ Aside0 (Below w.heap.size w w'))
       case atStart => exact ⟨(0), (by first | rfl | (simp; done) | (simp [*]; done)), H', ⟨Nat.le_refl _⟩, ⟨by (with_reducible repeat (first | apply Kd.R_alloc | apply Kd.R_drewN | apply Kd.R_drew)); exact HO_5.out⟩, ⟨by (with_reducible repeat (first | apply Kd.R_alloc | apply Kd.R_drewN | apply Kd.R_drew)); exact HO_6.out⟩, ⟨by repeat (first | (with_reducible first | exact HB.out | apply kL | apply kM | apply kE) | exact HB.out)⟩⟩
       case round =>
        clear H'
        try clear c1
        try clear c2
        try clear p2
        try clear c3
        try clear c4
        try clear p4
        try clear q4
        try clear hx4
        try clear c5
        try clear c6
        try clear p6
        try clear c8
        try clear c11
        try clear c11b0
        try clear c12
        try clear c12b0
        try clear c16
        try clear c16b0
        try clear c29
        try clear c29b0
        try clear c29b1
        try clear c32
        try clear c34
        try clear c34b0
        try clear c34b1
        try clear c35
        try clear c35b0
        try clear c35b1
        try clear c36
        try clear c36b0
        try clear c36b1
        try clear c39
        try clear c39b0
        try clear c39b1
        try clear c39b2
        try clear c40
        try clear c40b0
        try clear c40b1
        try clear p40
        try clear q40
        try clear hx40
        try clear c44
        try clear c45
        try clear c45b0
        try clear c45b1
        try clear c46
        try clear hcz15_0
        try clear hcz15_1
        try clear hcz15_2
        try clear hcz15_3
        try clear hcz15_4
        try clear hcz15_5
        try clear hcz18_0
        try clear hcz18_1
        try clear hcz18_2
        try clear hcz18_3
        try clear hcz18_4
        try clear hcz18_5
        try clear hcz20_0
        try clear hcz20_1
        try clear hcz20_2
        try clear hcz20_3
        try clear hcz20_4
        try clear hcz20_5
        try clear hcz24_0
        try clear hcz24_1
        try clear hcz24_2
        try clear hcz24_3
        try clear hcz24_4
        try clear hcz24_5
        try clear hcz27_0
        try clear hcz27_1
        try clear hcz27_2
        try clear hcz27_3
        try clear hcz27_4
        try clear hcz27_5
        try clear hcz47_0
        try clear hcz47_1
        try clear hcz47_2
        try clear hcz47_3
        try clear hcz47_4
        try clear hcz47_5
        try clear hfz15_0
        try clear hfz15_1
        try clear hfz15_2
        try clear hfz15_3
        try clear hfz15_4
        try clear hfz15_5
        try clear hfz18_0
        try clear hfz18_1
        try clear hfz18_2
        try clear hfz18_3
        try clear hfz18_4
        try clear hfz18_5
        try clear hfz20_0
        try clear hfz20_1
        try clear hfz20_2
        try clear hfz20_3
        try clear hfz20_4
        try clear hfz20_5
        try clear hfz24_0
        try clear hfz24_1
        try clear hfz24_2
        try clear hfz24_3
        try clear hfz24_4
        try clear hfz24_5
        try clear hfz27_0
        try clear hfz27_1
        try clear hfz27_2
        try clear hfz27_3
        try clear hfz27_4
        try clear hfz27_5
        try clear hfz47_0
        try clear hfz47_1
        try clear hfz47_2
        try clear hfz47_3
        try clear hfz47_4
        try clear hfz47_5
        try clear hx406_0
        try clear hx406_1
        try clear hx406_2
        try clear hx406_3
        try clear hx406_4
        try clear hx406_5
        try clear p2
        try clear p4
        try clear p40
        try clear p406
        try clear q4
        try clear q40
        try clear q406
        obtain ⟨x13_3, rfl, HA, HK3, HO_5, HO_6, HB⟩ := hrel
        cases gk with
        | zero => exact absurd HA.out (by simp [paybooklaw09_PlanLists.l1])
        | succ k3 =>
         have H := HA.out
         clear HA
         simp only [paybooklaw09_PlanLists.l1] at H
         by_cases c49 : x13_3 < (x6_2.length : Int)
         ·rw [if_pos c49] at H
          have c49b0 : decide (x13_3 < (x6_2.length : Int)) = true := decide_eq_true c49
          clear c49
          replace H := Option.bind_eq_some_iff.mp H
          obtain ⟨⟨t423, t424, t425, t426, t427, t428, t429⟩, A500, H⟩ := H
          replace H : (if t429 = 0 then (if 0 ≤ x13_3 then (if (!(t423 == ((rd_T23 x6_2 x13_3).f0)) || (!(t424 == ((rd_T23 x6_2 x13_3).f1)) || (!(t425 == ((rd_T23 x6_2 x13_3).f2)) || (!(t426 == ((rd_T23 x6_2 x13_3).f3)) || (!(t427 == ((rd_T23 x6_2 x13_3).f4)) || (!(t428 == ((rd_T23 x6_2 x13_3).f5)))))))) = true then (some false) else (paybooklaw09_PlanLists.l1 k3 a1 x5_2 x6_2 (wrap64 (x13_3 + 1)))) else (none)) else (some false)) = some true := H
          have A50 := Aside0.mk A500
          clear A500
          by_cases c51 : t429 = 0
          ·rw [if_pos c51] at H
           have c51b0 : (t429 == 0) = true := beq_iff_eq.mpr c51
           have c51b1 : (t429 != 0) = false := bne_eq_false_iff_eq.mpr c51
           clear c51
           by_cases c52 : 0 ≤ x13_3
           ·rw [if_pos c52] at H
            have c52b0 : decide (0 ≤ x13_3) = true := decide_eq_true c52
            clear c52
            by_cases c53 : (!(t423 == ((rd_T23 x6_2 x13_3).f0)) || (!(t424 == ((rd_T23 x6_2 x13_3).f1)) || (!(t425 == ((rd_T23 x6_2 x13_3).f2)) || (!(t426 == ((rd_T23 x6_2 x13_3).f3)) || (!(t427 == ((rd_T23 x6_2 x13_3).f4)) || (!(t428 == ((rd_T23 x6_2 x13_3).f5)))))))) = true
            ·rw [if_pos c53] at H
             have c53b0 : (!(t423 == ((rd_T23 x6_2 x13_3).f0)) || (!(t424 == ((rd_T23 x6_2 x13_3).f1)) || (!(t425 == ((rd_T23 x6_2 x13_3).f2)) || (!(t426 == ((rd_T23 x6_2 x13_3).f3)) || (!(t427 == ((rd_T23 x6_2 x13_3).f4)) || (!(t428 == ((rd_T23 x6_2 x13_3).f5)))))))) = true := c53
             (try (have c53s_ := c53b0; simp only [*, Bool.not_true, Bool.not_false, Bool.false_or, Bool.true_and, Bool.or_false, Bool.and_true] at c53s_))
             clear c53
             exact absurd H (by simp)
            ·rw [if_neg c53] at H
             have c53b0 : (!(t423 == ((rd_T23 x6_2 x13_3).f0)) || (!(t424 == ((rd_T23 x6_2 x13_3).f1)) || (!(t425 == ((rd_T23 x6_2 x13_3).f2)) || (!(t426 == ((rd_T23 x6_2 x13_3).f3)) || (!(t427 == ((rd_T23 x6_2 x13_3).f4)) || (!(t428 == ((rd_T23 x6_2 x13_3).f5)))))))) = false := by simpa using c53
             (try (have c53s_ := c53b0; simp only [*, Bool.not_true, Bool.not_false, Bool.false_or, Bool.true_and, Bool.or_false, Bool.and_true] at c53s_))
             clear c53
             have H' := Aside0.mk H
             clear H
             obtain ⟨Ao54, co54, eo54⟩ := Kd.R_slice HO_6.out
             subst eo54
             obtain ⟨Ao55, co55, eo55⟩ := Kd.R_slice HO_5.out
             subst eo55
             go_wp2_with (first | (go_at_call 15; (with_reducible refine (plan_List_Get.calls _ _ x5_2 x13_3 t423 t424 t425 t426 t427 t428 t429 _ ?side1 ?side2 A50.out).mono ?_); (case side1 => repeat (first | exact (Kd.R_reads' HO_5.out).2.2 | (with_reducible refine Kd.C_alloc ?_ _) | (with_reducible refine Kd.C_drewN ?_ _) | (with_reducible refine Kd.C_drew ?_))); (case side2 => exact (Kd.R_reads' HO_5.out).2.1); rintro e w56 ⟨rfl, hb⟩; have n0_ := Aside0.mk (Kd.R_below (by (with_reducible repeat (first | apply Kd.R_alloc | apply Kd.R_drewN | apply Kd.R_drew)); exact HO_5.out) hb); have n1_ := Aside0.mk (Kd.R_below (by (with_reducible repeat (first | apply Kd.R_alloc | apply Kd.R_drewN | apply Kd.R_drew)); exact HO_6.out) hb); have n2_ := Aside0.mk (below_step (by repeat (first | (with_reducible first | exact HB.out | apply kL | apply kM | apply kE) | exact HB.out)) hb); clear HO_5; clear HO_6; clear HB; have HO_5 := n0_; have HO_6 := n1_; have HB := n2_; clear n0_ n1_ n2_; (try clear hb); (try clear hb2); (try clear hk); (try clear hi)) | ((with_reducible refine gate_dst (N := 14) rfl ?_); (try (refine gate_guard (by rfl) ?_; dsimp only)); refine box_event ?hg (N := 14) ?hd (cs := #[.int .i64 0, .int .u8 0, .int .i64 0, .int .i64 0, .bool false, .bool false]) (t := 23) ?hr ?_; (case hd => rfl); (case hg => rfl); (case hr => first | (go_simp; done) | (go_simp; rfl)); intro gb430 hg w57 hbox hb; have n0_ := Aside0.mk (Kd.R_below (Kd.R_elderB (by (with_reducible repeat (first | apply Kd.R_alloc | apply Kd.R_drewN | apply Kd.R_drew)); exact HO_5.out) gb430 (Nat.le_of_eq hg.symm)) hb); have n1_ := Aside0.mk (Kd.R_below (Kd.R_elderB (by (with_reducible repeat (first | apply Kd.R_alloc | apply Kd.R_drewN | apply Kd.R_drew)); exact HO_6.out) gb430 (Nat.le_of_eq hg.symm)) hb); have n2_ := Aside0.mk (below_step (by repeat (first | (with_reducible first | exact HB.out | apply kL | apply kM | apply kE) | exact HB.out)) hb); have n3_ := Aside0.mk (hbox); have n4_ := Aside0.mk ((by rw [hg]; exact (below_size (by repeat (first | (with_reducible first | exact HB.out | apply kL | apply kM | apply kE) | exact HB.out))) : w.heap.size ≤ gb430)); have n5_ := Aside0.mk ((by rw [hg]; exact (below_size (by repeat (first | (with_reducible first | exact HB.out | apply kL | apply kM | apply kE) | exact HB.out))) : w.heap.size ≤ gb430)); clear HO_5; clear HO_6; clear HB; have HO_5 := n0_; have HO_6 := n1_; have HB := n2_; have BK430 := n3_; have GW430 := n4_; have GE430 := n5_; clear n0_ n1_ n2_ n3_ n4_ n5_; clear hb hbox hg; obtain ⟨hcz58_0, hcz58_1, hcz58_2, hcz58_3, hcz58_4, hcz58_5, hfz58_0, hfz58_1, hfz58_2, hfz58_3, hfz58_4, hfz58_5⟩ := bxc6 BK430.out; have p431 : 0 ≤ (x13_3 : Int) := of_decide_eq_true (by first | (with_reducible assumption) | assumption); have q431 : x13_3 < (x6_2.length : Int) := of_decide_eq_true (by first | (with_reducible assumption) | assumption); obtain ⟨ad431, e431, hx431_0, hx431_1, hx431_2, hx431_3, hx431_4, hx431_5⟩ := at_T23 (Kd.R_reads' HO_6.out).2.2 x13_3 p431 q431; cases e431; have hn431_0 : ad431.block ≠ gb430 := Kd.own_blk (Kd.R_ne HO_6.out BK430.out (by decide)); have hn431_1 : ad431.block ≠ gb430 := Kd.own_blk (Kd.R_ne HO_6.out BK430.out (by decide)); have hn431_2 : ad431.block ≠ gb430 := Kd.own_blk (Kd.R_ne HO_6.out BK430.out (by decide)); have hn431_3 : ad431.block ≠ gb430 := Kd.own_blk (Kd.R_ne HO_6.out BK430.out (by decide)); have hn431_4 : ad431.block ≠ gb430 := Kd.own_blk (Kd.R_ne HO_6.out BK430.out (by decide)); have hn431_5 : ad431.block ≠ gb430 := Kd.own_blk (Kd.R_ne HO_6.out BK430.out (by decide)); replace hx431_0 := (cell_far (p := ⟨gb430, 0, none⟩) (by first | (rw [add_block]; exact hn431_0) | (show (Addr.add _ _).block ≠ _; rw [add_block]; exact hn431_0) | exact hn431_0) (.int .i64 t423)).trans hx431_0; replace hx431_1 := (cell_far (p := ⟨gb430, 0, none⟩) (by first | (rw [add_block]; exact hn431_0) | (show (Addr.add _ _).block ≠ _; rw [add_block]; exact hn431_0) | exact hn431_0) (.int .i64 t423)).trans hx431_1; replace hx431_2 := (cell_far (p := ⟨gb430, 0, none⟩) (by first | (rw [add_block]; exact hn431_0) | (show (Addr.add _ _).block ≠ _; rw [add_block]; exact hn431_0) | exact hn431_0) (.int .i64 t423)).trans hx431_2; replace hx431_3 := (cell_far (p := ⟨gb430, 0, none⟩) (by first | (rw [add_block]; exact hn431_0) | (show (Addr.add _ _).block ≠ _; rw [add_block]; exact hn431_0) | exact hn431_0) (.int .i64 t423)).trans hx431_3; replace hx431_4 := (cell_far (p := ⟨gb430, 0, none⟩) (by first | (rw [add_block]; exact hn431_0) | (show (Addr.add _ _).block ≠ _; rw [add_block]; exact hn431_0) | exact hn431_0) (.int .i64 t423)).trans hx431_4; replace hx431_5 := (cell_far (p := ⟨gb430, 0, none⟩) (by first | (rw [add_block]; exact hn431_0) | (show (Addr.add _ _).block ≠ _; rw [add_block]; exact hn431_0) | exact hn431_0) (.int .i64 t423)).trans hx431_5; replace hx431_0 := (cell_far (p := ⟨gb430, 1, none⟩) (by first | (rw [add_block]; exact hn431_1) | (show (Addr.add _ _).block ≠ _; rw [add_block]; exact hn431_1) | exact hn431_1) (.int .u8 t424)).trans hx431_0; replace hx431_1 := (cell_far (p := ⟨gb430, 1, none⟩) (by first | (rw [add_block]; exact hn431_1) | (show (Addr.add _ _).block ≠ _; rw [add_block]; exact hn431_1) | exact hn431_1) (.int .u8 t424)).trans hx431_1; replace hx431_2 := (cell_far (p := ⟨gb430, 1, none⟩) (by first | (rw [add_block]; exact hn431_1) | (show (Addr.add _ _).block ≠ _; rw [add_block]; exact hn431_1) | exact hn431_1) (.int .u8 t424)).trans hx431_2; replace hx431_3 := (cell_far (p := ⟨gb430, 1, none⟩) (by first | (rw [add_block]; exact hn431_1) | (show (Addr.add _ _).block ≠ _; rw [add_block]; exact hn431_1) | exact hn431_1) (.int .u8 t424)).trans hx431_3; replace hx431_4 := (cell_far (p := ⟨gb430, 1, none⟩) (by first | (rw [add_block]; exact hn431_1) | (show (Addr.add _ _).block ≠ _; rw [add_block]; exact hn431_1) | exact hn431_1) (.int .u8 t424)).trans hx431_4; replace hx431_5 := (cell_far (p := ⟨gb430, 1, none⟩) (by first | (rw [add_block]; exact hn431_1) | (show (Addr.add _ _).block ≠ _; rw [add_block]; exact hn431_1) | exact hn431_1) (.int .u8 t424)).trans hx431_5; replace hx431_0 := (cell_far (p := ⟨gb430, 2, none⟩) (by first | (rw [add_block]; exact hn431_2) | (show (Addr.add _ _).block ≠ _; rw [add_block]; exact hn431_2) | exact hn431_2) (.int .i64 t425)).trans hx431_0; replace hx431_1 := (cell_far (p := ⟨gb430, 2, none⟩) (by first | (rw [add_block]; exact hn431_2) | (show (Addr.add _ _).block ≠ _; rw [add_block]; exact hn431_2) | exact hn431_2) (.int .i64 t425)).trans hx431_1; replace hx431_2 := (cell_far (p := ⟨gb430, 2, none⟩) (by first | (rw [add_block]; exact hn431_2) | (show (Addr.add _ _).block ≠ _; rw [add_block]; exact hn431_2) | exact hn431_2) (.int .i64 t425)).trans hx431_2; replace hx431_3 := (cell_far (p := ⟨gb430, 2, none⟩) (by first | (rw [add_block]; exact hn431_2) | (show (Addr.add _ _).block ≠ _; rw [add_block]; exact hn431_2) | exact hn431_2) (.int .i64 t425)).trans hx431_3; replace hx431_4 := (cell_far (p := ⟨gb430, 2, none⟩) (by first | (rw [add_block]; exact hn431_2) | (show (Addr.add _ _).block ≠ _; rw [add_block]; exact hn431_2) | exact hn431_2) (.int .i64 t425)).trans hx431_4; replace hx431_5 := (cell_far (p := ⟨gb430, 2, none⟩) (by first | (rw [add_block]; exact hn431_2) | (show (Addr.add _ _).block ≠ _; rw [add_block]; exact hn431_2) | exact hn431_2) (.int .i64 t425)).trans hx431_5; replace hx431_0 := (cell_far (p := ⟨gb430, 3, none⟩) (by first | (rw [add_block]; exact hn431_3) | (show (Addr.add _ _).block ≠ _; rw [add_block]; exact hn431_3) | exact hn431_3) (.int .i64 t426)).trans hx431_0; replace hx431_1 := (cell_far (p := ⟨gb430, 3, none⟩) (by first | (rw [add_block]; exact hn431_3) | (show (Addr.add _ _).block ≠ _; rw [add_block]; exact hn431_3) | exact hn431_3) (.int .i64 t426)).trans hx431_1; replace hx431_2 := (cell_far (p := ⟨gb430, 3, none⟩) (by first | (rw [add_block]; exact hn431_3) | (show (Addr.add _ _).block ≠ _; rw [add_block]; exact hn431_3) | exact hn431_3) (.int .i64 t426)).trans hx431_2; replace hx431_3 := (cell_far (p := ⟨gb430, 3, none⟩) (by first | (rw [add_block]; exact hn431_3) | (show (Addr.add _ _).block ≠ _; rw [add_block]; exact hn431_3) | exact hn431_3) (.int .i64 t426)).trans hx431_3; replace hx431_4 := (cell_far (p := ⟨gb430, 3, none⟩) (by first | (rw [add_block]; exact hn431_3) | (show (Addr.add _ _).block ≠ _; rw [add_block]; exact hn431_3) | exact hn431_3) (.int .i64 t426)).trans hx431_4; replace hx431_5 := (cell_far (p := ⟨gb430, 3, none⟩) (by first | (rw [add_block]; exact hn431_3) | (show (Addr.add _ _).block ≠ _; rw [add_block]; exact hn431_3) | exact hn431_3) (.int .i64 t426)).trans hx431_5; replace hx431_0 := (cell_far (p := ⟨gb430, 4, none⟩) (by first | (rw [add_block]; exact hn431_4) | (show (Addr.add _ _).block ≠ _; rw [add_block]; exact hn431_4) | exact hn431_4) (.bool t427)).trans hx431_0; replace hx431_1 := (cell_far (p := ⟨gb430, 4, none⟩) (by first | (rw [add_block]; exact hn431_4) | (show (Addr.add _ _).block ≠ _; rw [add_block]; exact hn431_4) | exact hn431_4) (.bool t427)).trans hx431_1; replace hx431_2 := (cell_far (p := ⟨gb430, 4, none⟩) (by first | (rw [add_block]; exact hn431_4) | (show (Addr.add _ _).block ≠ _; rw [add_block]; exact hn431_4) | exact hn431_4) (.bool t427)).trans hx431_2; replace hx431_3 := (cell_far (p := ⟨gb430, 4, none⟩) (by first | (rw [add_block]; exact hn431_4) | (show (Addr.add _ _).block ≠ _; rw [add_block]; exact hn431_4) | exact hn431_4) (.bool t427)).trans hx431_3; replace hx431_4 := (cell_far (p := ⟨gb430, 4, none⟩) (by first | (rw [add_block]; exact hn431_4) | (show (Addr.add _ _).block ≠ _; rw [add_block]; exact hn431_4) | exact hn431_4) (.bool t427)).trans hx431_4; replace hx431_5 := (cell_far (p := ⟨gb430, 4, none⟩) (by first | (rw [add_block]; exact hn431_4) | (show (Addr.add _ _).block ≠ _; rw [add_block]; exact hn431_4) | exact hn431_4) (.bool t427)).trans hx431_5; replace hx431_0 := (cell_far (p := ⟨gb430, 5, none⟩) (by first | (rw [add_block]; exact hn431_5) | (show (Addr.add _ _).block ≠ _; rw [add_block]; exact hn431_5) | exact hn431_5) (.bool t428)).trans hx431_0; replace hx431_1 := (cell_far (p := ⟨gb430, 5, none⟩) (by first | (rw [add_block]; exact hn431_5) | (show (Addr.add _ _).block ≠ _; rw [add_block]; exact hn431_5) | exact hn431_5) (.bool t428)).trans hx431_1; replace hx431_2 := (cell_far (p := ⟨gb430, 5, none⟩) (by first | (rw [add_block]; exact hn431_5) | (show (Addr.add _ _).block ≠ _; rw [add_block]; exact hn431_5) | exact hn431_5) (.bool t428)).trans hx431_2; replace hx431_3 := (cell_far (p := ⟨gb430, 5, none⟩) (by first | (rw [add_block]; exact hn431_5) | (show (Addr.add _ _).block ≠ _; rw [add_block]; exact hn431_5) | exact hn431_5) (.bool t428)).trans hx431_3; replace hx431_4 := (cell_far (p := ⟨gb430, 5, none⟩) (by first | (rw [add_block]; exact hn431_5) | (show (Addr.add _ _).block ≠ _; rw [add_block]; exact hn431_5) | exact hn431_5) (.bool t428)).trans hx431_4; replace hx431_5 := (cell_far (p := ⟨gb430, 5, none⟩) (by first | (rw [add_block]; exact hn431_5) | (show (Addr.add _ _).block ≠ _; rw [add_block]; exact hn431_5) | exact hn431_5) (.bool t428)).trans hx431_5; (try have hy431_0 := fun (n_ : Nat) => (show ((((((((w57.drewN n_).setCell ⟨gb430, 0, none⟩ (.int .i64 t423)).setCell ⟨gb430, 1, none⟩ (.int .u8 t424)).setCell ⟨gb430, 2, none⟩ (.int .i64 t425)).setCell ⟨gb430, 3, none⟩ (.int .i64 t426)).setCell ⟨gb430, 4, none⟩ (.bool t427)).setCell ⟨gb430, 5, none⟩ (.bool t428))).cell? _ = some _ from hx431_0)); (try have hy431_1 := fun (n_ : Nat) => (show ((((((((w57.drewN n_).setCell ⟨gb430, 0, none⟩ (.int .i64 t423)).setCell ⟨gb430, 1, none⟩ (.int .u8 t424)).setCell ⟨gb430, 2, none⟩ (.int .i64 t425)).setCell ⟨gb430, 3, none⟩ (.int .i64 t426)).setCell ⟨gb430, 4, none⟩ (.bool t427)).setCell ⟨gb430, 5, none⟩ (.bool t428))).cell? _ = some _ from hx431_1)); (try have hy431_2 := fun (n_ : Nat) => (show ((((((((w57.drewN n_).setCell ⟨gb430, 0, none⟩ (.int .i64 t423)).setCell ⟨gb430, 1, none⟩ (.int .u8 t424)).setCell ⟨gb430, 2, none⟩ (.int .i64 t425)).setCell ⟨gb430, 3, none⟩ (.int .i64 t426)).setCell ⟨gb430, 4, none⟩ (.bool t427)).setCell ⟨gb430, 5, none⟩ (.bool t428))).cell? _ = some _ from hx431_2)); (try have hy431_3 := fun (n_ : Nat) => (show ((((((((w57.drewN n_).setCell ⟨gb430, 0, none⟩ (.int .i64 t423)).setCell ⟨gb430, 1, none⟩ (.int .u8 t424)).setCell ⟨gb430, 2, none⟩ (.int .i64 t425)).setCell ⟨gb430, 3, none⟩ (.int .i64 t426)).setCell ⟨gb430, 4, none⟩ (.bool t427)).setCell ⟨gb430, 5, none⟩ (.bool t428))).cell? _ = some _ from hx431_3)); (try have hy431_4 := fun (n_ : Nat) => (show ((((((((w57.drewN n_).setCell ⟨gb430, 0, none⟩ (.int .i64 t423)).setCell ⟨gb430, 1, none⟩ (.int .u8 t424)).setCell ⟨gb430, 2, none⟩ (.int .i64 t425)).setCell ⟨gb430, 3, none⟩ (.int .i64 t426)).setCell ⟨gb430, 4, none⟩ (.bool t427)).setCell ⟨gb430, 5, none⟩ (.bool t428))).cell? _ = some _ from hx431_4)); (try have hy431_5 := fun (n_ : Nat) => (show ((((((((w57.drewN n_).setCell ⟨gb430, 0, none⟩ (.int .i64 t423)).setCell ⟨gb430, 1, none⟩ (.int .u8 t424)).setCell ⟨gb430, 2, none⟩ (.int .i64 t425)).setCell ⟨gb430, 3, none⟩ (.int .i64 t426)).setCell ⟨gb430, 4, none⟩ (.bool t427)).setCell ⟨gb430, 5, none⟩ (.bool t428))).cell? _ = some _ from hx431_5)); clear hn431_0; clear hn431_1; clear hn431_2; clear hn431_3; clear hn431_4; clear hn431_5; replace p431 := eq_true p431; replace q431 := eq_true q431))
             obtain ⟨e0_, e1_, e2_, e3_, e4_, e5_⟩ : t423 = (rd_T23 x6_2 x13_3).f0 ∧ t424 = (rd_T23 x6_2 x13_3).f1 ∧ t425 = (rd_T23 x6_2 x13_3).f2 ∧ t426 = (rd_T23 x6_2 x13_3).f3 ∧ t427 = (rd_T23 x6_2 x13_3).f4 ∧ t428 = (rd_T23 x6_2 x13_3).f5 := by simpa using c53b0
             subst e0_ e1_ e2_ e3_ e4_ e5_
             clear c53b0
             obtain ⟨W5, hW5⟩ : ∃ W5, W5 = w56.alloc (.cells #[.int .i64 (rd_T23 x6_2 x13_3).f0, .int .u8 (rd_T23 x6_2 x13_3).f1, .int .i64 (rd_T23 x6_2 x13_3).f2, .int .i64 (rd_T23 x6_2 x13_3).f3, .bool (rd_T23 x6_2 x13_3).f4, .bool (rd_T23 x6_2 x13_3).f5] 23) := ⟨_, rfl⟩
             have hbk : W5.heap[w56.heap.size]? = some (.cells #[.int .i64 (rd_T23 x6_2 x13_3).f0, .int .u8 (rd_T23 x6_2 x13_3).f1, .int .i64 (rd_T23 x6_2 x13_3).f2, .int .i64 (rd_T23 x6_2 x13_3).f3, .bool (rd_T23 x6_2 x13_3).f4, .bool (rd_T23 x6_2 x13_3).f5] 23 (0, 0)) := by rw [hW5]; exact blk_new _ _
             have H5 := Aside0.mk (Kd.R_alloc HO_5.out (.cells #[.int .i64 (rd_T23 x6_2 x13_3).f0, .int .u8 (rd_T23 x6_2 x13_3).f1, .int .i64 (rd_T23 x6_2 x13_3).f2, .int .i64 (rd_T23 x6_2 x13_3).f3, .bool (rd_T23 x6_2 x13_3).f4, .bool (rd_T23 x6_2 x13_3).f5] 23))
             have H6 := Aside0.mk (Kd.R_alloc HO_6.out (.cells #[.int .i64 (rd_T23 x6_2 x13_3).f0, .int .u8 (rd_T23 x6_2 x13_3).f1, .int .i64 (rd_T23 x6_2 x13_3).f2, .int .i64 (rd_T23 x6_2 x13_3).f3, .bool (rd_T23 x6_2 x13_3).f4, .bool (rd_T23 x6_2 x13_3).f5] 23))
             have H7 := Aside0.mk (below_alloc HB.out (.cells #[.int .i64 (rd_T23 x6_2 x13_3).f0, .int .u8 (rd_T23 x6_2 x13_3).f1, .int .i64 (rd_T23 x6_2 x13_3).f2, .int .i64 (rd_T23 x6_2 x13_3).f3, .bool (rd_T23 x6_2 x13_3).f4, .bool (rd_T23 x6_2 x13_3).f5] 23))
             rw [← hW5] at H5 H6 H7 ⊢
             obtain ⟨gp, hgp⟩ : ∃ gp, gp = w56.heap.size := ⟨_, rfl⟩
             rw [← hgp] at hbk ⊢
             clear hW5 hgp HO_5 HO_6 HB
             obtain ⟨hcp0, hcp1, hcp2, hcp3, hcp4, hcp5, hfp0, hfp1, hfp2, hfp3, hfp4, hfp5⟩ := bxc6 hbk
             have p_ : 0 ≤ (x13_3 : Int) := of_decide_eq_true c52b0
             have q_ : x13_3 < (x6_2.length : Int) := of_decide_eq_true c49b0
             obtain ⟨ad_, e_, hx0, hx1, hx2, hx3, hx4, hx5⟩ := at_T23 (Kd.R_reads' H6.out).2.2 x13_3 p_ q_
             cases e_
             replace p_ := eq_true p_
             replace q_ := eq_true q_
             go_quiet (fail)
             go_wp2
             go_roundg k3
             case measure => have := HJ2.out; have := HK2.out; have := HK3.out; omega
             case rel => exact ⟨(wrap64 (x13_3 + 1)), (by first | rfl | (simp; done) | (simp [*]; done)), H', ⟨by have := HJ2.out; have := HK2.out; have := HK3.out; omega⟩, ⟨by (with_reducible repeat (first | apply Kd.R_alloc | apply Kd.R_drewN | apply Kd.R_drew)); exact H5.out⟩, ⟨by (with_reducible repeat (first | apply Kd.R_alloc | apply Kd.R_drewN | apply Kd.R_drew)); exact H6.out⟩, ⟨by repeat (first | (with_reducible first | exact H7.out | apply kL | apply kM | apply kE) | exact H7.out)⟩⟩
           ·rw [if_neg c52] at H
            exact absurd H (by simp)
          ·rw [if_neg c51] at H
           have c51b0 : (t429 == 0) = false := beq_eq_false_iff_ne.mpr c51
           have c51b1 : (t429 != 0) = true := bne_iff_ne.mpr c51
           exact absurd H (by simp)
         ·rw [if_neg c49] at H
          have c49b0 : decide (x13_3 < (x6_2.length : Int)) = false := decide_eq_false c49
          clear c49
          replace H := Option.bind_eq_some_iff.mp H
          obtain ⟨⟨t432, t433, t434, t435, t436, t437, t438⟩, A590, H⟩ := H
          replace H : (if a1 ≥ 0 then (if ((t438 == 0) == (decide (a1 < (x6_2.length : Int)))) = true then (if t438 = 0 then (some true) else (some (t438 == 2))) else (some false)) else (if ((t438 == 0) == false) = true then (if t438 = 0 then (some true) else (some (t438 == 2))) else (some false))) = some true := H
          have A59 := Aside0.mk A590
          clear A590
          by_cases c60 : a1 ≥ 0
          ·rw [if_pos c60] at H
           have c60b0 : decide (0 ≤ a1) = true := decide_eq_true c60
           clear c60
           by_cases c61 : ((t438 == 0) == (decide (a1 < (x6_2.length : Int)))) = true
           ·rw [if_pos c61] at H
            have c61b0 : ((t438 == 0) == (decide (a1 < (x6_2.length : Int)))) = true := c61
            (try (have c61b1 : decide ((t438 == 0) = (decide (a1 < (x6_2.length : Int)))) = true := by simpa using c61))
            (try (have c61b2 : ((t438 == 0) == (decide (a1 < (x6_2.length : Int)))) = true := by simpa using c61))
            clear c61
            by_cases c62 : t438 = 0
            ·rw [if_pos c62] at H
             have c62b0 : (t438 == 0) = true := beq_iff_eq.mpr c62
             have c62b1 : (t438 != 0) = false := bne_eq_false_iff_eq.mpr c62
             clear c62
             have hlt_ : decide (a1 < (x6_2.length : Int)) = true := by rw [c62b0] at c61b0; simpa using c61b0
             clear c61b0
             try clear c61b1
             try clear c61b2
             clear H
             obtain ⟨Ao63, co63, eo63⟩ := Kd.R_slice HO_6.out
             subst eo63
             obtain ⟨Ao64, co64, eo64⟩ := Kd.R_slice HO_5.out
             subst eo64
             go_wp2_with (first | (go_at_call 15; (with_reducible refine (plan_List_Get.calls _ _ x5_2 a1 t432 t433 t434 t435 t436 t437 t438 _ ?side1 ?side2 A59.out).mono ?_); (case side1 => repeat (first | exact (Kd.R_reads' HO_5.out).2.2 | (with_reducible refine Kd.C_alloc ?_ _) | (with_reducible refine Kd.C_drewN ?_ _) | (with_reducible refine Kd.C_drew ?_))); (case side2 => exact (Kd.R_reads' HO_5.out).2.1); rintro e w65 ⟨rfl, hb⟩; have n0_ := Aside0.mk (Kd.R_below (by (with_reducible repeat (first | apply Kd.R_alloc | apply Kd.R_drewN | apply Kd.R_drew)); exact HO_5.out) hb); have n1_ := Aside0.mk (Kd.R_below (by (with_reducible repeat (first | apply Kd.R_alloc | apply Kd.R_drewN | apply Kd.R_drew)); exact HO_6.out) hb); have n2_ := Aside0.mk (below_step (by repeat (first | (with_reducible first | exact HB.out | apply kL | apply kM | apply kE) | exact HB.out)) hb); clear HO_5; clear HO_6; clear HB; have HO_5 := n0_; have HO_6 := n1_; have HB := n2_; clear n0_ n1_ n2_; (try clear hb); (try clear hb2); (try clear hk); (try clear hi)) | ((with_reducible refine gate_dst (N := 16) rfl ?_); (try (refine gate_guard (by rfl) ?_; dsimp only)); refine box_event ?hg (N := 16) ?hd (cs := #[.int .i64 0, .int .u8 0, .int .i64 0, .int .i64 0, .bool false, .bool false]) (t := 23) ?hr ?_; (case hd => rfl); (case hg => rfl); (case hr => first | (go_simp; done) | (go_simp; rfl)); intro gb439 hg w66 hbox hb; have n0_ := Aside0.mk (Kd.R_below (Kd.R_elderB (by (with_reducible repeat (first | apply Kd.R_alloc | apply Kd.R_drewN | apply Kd.R_drew)); exact HO_5.out) gb439 (Nat.le_of_eq hg.symm)) hb); have n1_ := Aside0.mk (Kd.R_below (Kd.R_elderB (by (with_reducible repeat (first | apply Kd.R_alloc | apply Kd.R_drewN | apply Kd.R_drew)); exact HO_6.out) gb439 (Nat.le_of_eq hg.symm)) hb); have n2_ := Aside0.mk (below_step (by repeat (first | (with_reducible first | exact HB.out | apply kL | apply kM | apply kE) | exact HB.out)) hb); have n3_ := Aside0.mk (hbox); have n4_ := Aside0.mk ((by rw [hg]; exact (below_size (by repeat (first | (with_reducible first | exact HB.out | apply kL | apply kM | apply kE) | exact HB.out))) : w.heap.size ≤ gb439)); have n5_ := Aside0.mk ((by rw [hg]; exact (below_size (by repeat (first | (with_reducible first | exact HB.out | apply kL | apply kM | apply kE) | exact HB.out))) : w.heap.size ≤ gb439)); clear HO_5; clear HO_6; clear HB; have HO_5 := n0_; have HO_6 := n1_; have HB := n2_; have BK439 := n3_; have GW439 := n4_; have GE439 := n5_; clear n0_ n1_ n2_ n3_ n4_ n5_; clear hb hbox hg; obtain ⟨hcz67_0, hcz67_1, hcz67_2, hcz67_3, hcz67_4, hcz67_5, hfz67_0, hfz67_1, hfz67_2, hfz67_3, hfz67_4, hfz67_5⟩ := bxc6 BK439.out))
             repeat (go_quiet (first | (go_at_call 15; (with_reducible refine (plan_List_Get.calls _ _ x5_2 a1 t432 t433 t434 t435 t436 t437 t438 _ ?side1 ?side2 A59.out).mono ?_); (case side1 => repeat (first | exact (Kd.R_reads' HO_5.out).2.2 | (with_reducible refine Kd.C_alloc ?_ _) | (with_reducible refine Kd.C_drewN ?_ _) | (with_reducible refine Kd.C_drew ?_))); (case side2 => exact (Kd.R_reads' HO_5.out).2.1); rintro e w65 ⟨rfl, hb⟩; have n0_ := Aside0.mk (Kd.R_below (by (with_reducible repeat (first | apply Kd.R_alloc | apply Kd.R_drewN | apply Kd.R_drew)); exact HO_5.out) hb); have n1_ := Aside0.mk (Kd.R_below (by (with_reducible repeat (first | apply Kd.R_alloc | apply Kd.R_drewN | apply Kd.R_drew)); exact HO_6.out) hb); have n2_ := Aside0.mk (below_step (by repeat (first | (with_reducible first | exact HB.out | apply kL | apply kM | apply kE) | exact HB.out)) hb); clear HO_5; clear HO_6; clear HB; have HO_5 := n0_; have HO_6 := n1_; have HB := n2_; clear n0_ n1_ n2_; (try clear hb); (try clear hb2); (try clear hk); (try clear hi)) | ((with_reducible refine gate_dst (N := 16) rfl ?_); (try (refine gate_guard (by rfl) ?_; dsimp only)); refine box_event ?hg (N := 16) ?hd (cs := #[.int .i64 0, .int .u8 0, .int .i64 0, .int .i64 0, .bool false, .bool false]) (t := 23) ?hr ?_; (case hd => rfl); (case hg => rfl); (case hr => first | (go_simp; done) | (go_simp; rfl)); intro gb439 hg w66 hbox hb; have n0_ := Aside0.mk (Kd.R_below (Kd.R_elderB (by (with_reducible repeat (first | apply Kd.R_alloc | apply Kd.R_drewN | apply Kd.R_drew)); exact HO_5.out) gb439 (Nat.le_of_eq hg.symm)) hb); have n1_ := Aside0.mk (Kd.R_below (Kd.R_elderB (by (with_reducible repeat (first | apply Kd.R_alloc | apply Kd.R_drewN | apply Kd.R_drew)); exact HO_6.out) gb439 (Nat.le_of_eq hg.symm)) hb); have n2_ := Aside0.mk (below_step (by repeat (first | (with_reducible first | exact HB.out | apply kL | apply kM | apply kE) | exact HB.out)) hb); have n3_ := Aside0.mk (hbox); have n4_ := Aside0.mk ((by rw [hg]; exact (below_size (by repeat (first | (with_reducible first | exact HB.out | apply kL | apply kM | apply kE) | exact HB.out))) : w.heap.size ≤ gb439)); have n5_ := Aside0.mk ((by rw [hg]; exact (below_size (by repeat (first | (with_reducible first | exact HB.out | apply kL | apply kM | apply kE) | exact HB.out))) : w.heap.size ≤ gb439)); clear HO_5; clear HO_6; clear HB; have HO_5 := n0_; have HO_6 := n1_; have HB := n2_; have BK439 := n3_; have GW439 := n4_; have GE439 := n5_; clear n0_ n1_ n2_ n3_ n4_ n5_; clear hb hbox hg; obtain ⟨hcz67_0, hcz67_1, hcz67_2, hcz67_3, hcz67_4, hcz67_5, hfz67_0, hfz67_1, hfz67_2, hfz67_3, hfz67_4, hfz67_5⟩ := bxc6 BK439.out)); try go_wp2_with (first | (go_at_call 15; (with_reducible refine (plan_List_Get.calls _ _ x5_2 a1 t432 t433 t434 t435 t436 t437 t438 _ ?side1 ?side2 A59.out).mono ?_); (case side1 => repeat (first | exact (Kd.R_reads' HO_5.out).2.2 | (with_reducible refine Kd.C_alloc ?_ _) | (with_reducible refine Kd.C_drewN ?_ _) | (with_reducible refine Kd.C_drew ?_))); (case side2 => exact (Kd.R_reads' HO_5.out).2.1); rintro e w65 ⟨rfl, hb⟩; have n0_ := Aside0.mk (Kd.R_below (by (with_reducible repeat (first | apply Kd.R_alloc | apply Kd.R_drewN | apply Kd.R_drew)); exact HO_5.out) hb); have n1_ := Aside0.mk (Kd.R_below (by (with_reducible repeat (first | apply Kd.R_alloc | apply Kd.R_drewN | apply Kd.R_drew)); exact HO_6.out) hb); have n2_ := Aside0.mk (below_step (by repeat (first | (with_reducible first | exact HB.out | apply kL | apply kM | apply kE) | exact HB.out)) hb); clear HO_5; clear HO_6; clear HB; have HO_5 := n0_; have HO_6 := n1_; have HB := n2_; clear n0_ n1_ n2_; (try clear hb); (try clear hb2); (try clear hk); (try clear hi)) | ((with_reducible refine gate_dst (N := 16) rfl ?_); (try (refine gate_guard (by rfl) ?_; dsimp only)); refine box_event ?hg (N := 16) ?hd (cs := #[.int .i64 0, .int .u8 0, .int .i64 0, .int .i64 0, .bool false, .bool false]) (t := 23) ?hr ?_; (case hd => rfl); (case hg => rfl); (case hr => first | (go_simp; done) | (go_simp; rfl)); intro gb439 hg w66 hbox hb; have n0_ := Aside0.mk (Kd.R_below (Kd.R_elderB (by (with_reducible repeat (first | apply Kd.R_alloc | apply Kd.R_drewN | apply Kd.R_drew)); exact HO_5.out) gb439 (Nat.le_of_eq hg.symm)) hb); have n1_ := Aside0.mk (Kd.R_below (Kd.R_elderB (by (with_reducible repeat (first | apply Kd.R_alloc | apply Kd.R_drewN | apply Kd.R_drew)); exact HO_6.out) gb439 (Nat.le_of_eq hg.symm)) hb); have n2_ := Aside0.mk (below_step (by repeat (first | (with_reducible first | exact HB.out | apply kL | apply kM | apply kE) | exact HB.out)) hb); have n3_ := Aside0.mk (hbox); have n4_ := Aside0.mk ((by rw [hg]; exact (below_size (by repeat (first | (with_reducible first | exact HB.out | apply kL | apply kM | apply kE) | exact HB.out))) : w.heap.size ≤ gb439)); have n5_ := Aside0.mk ((by rw [hg]; exact (below_size (by repeat (first | (with_reducible first | exact HB.out | apply kL | apply kM | apply kE) | exact HB.out))) : w.heap.size ≤ gb439)); clear HO_5; clear HO_6; clear HB; have HO_5 := n0_; have HO_6 := n1_; have HB := n2_; have BK439 := n3_; have GW439 := n4_; have GE439 := n5_; clear n0_ n1_ n2_ n3_ n4_ n5_; clear hb hbox hg; obtain ⟨hcz67_0, hcz67_1, hcz67_2, hcz67_3, hcz67_4, hcz67_5, hfz67_0, hfz67_1, hfz67_2, hfz67_3, hfz67_4, hfz67_5⟩ := bxc6 BK439.out)))
             go_ret
             exact ⟨by first | rfl | (simp [errW_none, errW_some] <;> rfl) | (simp [*, errW_none, errW_some] <;> rfl), by repeat (first | (with_reducible first | exact HB.out | apply kL | apply kM | apply kE | refine kS ?_ GE439.out) | exact HB.out)⟩
            ·rw [if_neg c62] at H
             have c62b0 : (t438 == 0) = false := beq_eq_false_iff_ne.mpr c62
             have c62b1 : (t438 != 0) = true := bne_iff_ne.mpr c62
             have HT_ := Option.some.inj H
             have hlt_ : decide (a1 < (x6_2.length : Int)) = false := by rw [c62b0] at c61b0; simpa using c61b0
             clear c61b0
             try clear c61b1
             try clear c61b2
             clear H
             (try (have HT_z_ := HT_; simp only [beq_true, beq_false, true_beq, false_beq, Bool.not_eq_true', Bool.not_eq_false', Bool.not_true, Bool.not_false] at HT_z_))
             obtain ⟨Ao68, co68, eo68⟩ := Kd.R_slice HO_6.out
             subst eo68
             obtain ⟨Ao69, co69, eo69⟩ := Kd.R_slice HO_5.out
             subst eo69
             go_wp2_with (first | (go_at_call 15; (with_reducible refine (plan_List_Get.calls _ _ x5_2 a1 t432 t433 t434 t435 t436 t437 t438 _ ?side1 ?side2 A59.out).mono ?_); (case side1 => repeat (first | exact (Kd.R_reads' HO_5.out).2.2 | (with_reducible refine Kd.C_alloc ?_ _) | (with_reducible refine Kd.C_drewN ?_ _) | (with_reducible refine Kd.C_drew ?_))); (case side2 => exact (Kd.R_reads' HO_5.out).2.1); rintro e w70 ⟨rfl, hb⟩; have n0_ := Aside0.mk (Kd.R_below (by (with_reducible repeat (first | apply Kd.R_alloc | apply Kd.R_drewN | apply Kd.R_drew)); exact HO_5.out) hb); have n1_ := Aside0.mk (Kd.R_below (by (with_reducible repeat (first | apply Kd.R_alloc | apply Kd.R_drewN | apply Kd.R_drew)); exact HO_6.out) hb); have n2_ := Aside0.mk (below_step (by repeat (first | (with_reducible first | exact HB.out | apply kL | apply kM | apply kE) | exact HB.out)) hb); clear HO_5; clear HO_6; clear HB; have HO_5 := n0_; have HO_6 := n1_; have HB := n2_; clear n0_ n1_ n2_; (try clear hb); (try clear hb2); (try clear hk); (try clear hi)) | ((with_reducible refine gate_dst (N := 16) rfl ?_); (try (refine gate_guard (by rfl) ?_; dsimp only)); refine box_event ?hg (N := 16) ?hd (cs := #[.int .i64 0, .int .u8 0, .int .i64 0, .int .i64 0, .bool false, .bool false]) (t := 23) ?hr ?_; (case hd => rfl); (case hg => rfl); (case hr => first | (go_simp; done) | (go_simp; rfl)); intro gb439 hg w71 hbox hb; have n0_ := Aside0.mk (Kd.R_below (Kd.R_elderB (by (with_reducible repeat (first | apply Kd.R_alloc | apply Kd.R_drewN | apply Kd.R_drew)); exact HO_5.out) gb439 (Nat.le_of_eq hg.symm)) hb); have n1_ := Aside0.mk (Kd.R_below (Kd.R_elderB (by (with_reducible repeat (first | apply Kd.R_alloc | apply Kd.R_drewN | apply Kd.R_drew)); exact HO_6.out) gb439 (Nat.le_of_eq hg.symm)) hb); have n2_ := Aside0.mk (below_step (by repeat (first | (with_reducible first | exact HB.out | apply kL | apply kM | apply kE) | exact HB.out)) hb); have n3_ := Aside0.mk (hbox); have n4_ := Aside0.mk ((by rw [hg]; exact (below_size (by repeat (first | (with_reducible first | exact HB.out | apply kL | apply kM | apply kE) | exact HB.out))) : w.heap.size ≤ gb439)); have n5_ := Aside0.mk ((by rw [hg]; exact (below_size (by repeat (first | (with_reducible first | exact HB.out | apply kL | apply kM | apply kE) | exact HB.out))) : w.heap.size ≤ gb439)); clear HO_5; clear HO_6; clear HB; have HO_5 := n0_; have HO_6 := n1_; have HB := n2_; have BK439 := n3_; have GW439 := n4_; have GE439 := n5_; clear n0_ n1_ n2_ n3_ n4_ n5_; clear hb hbox hg; obtain ⟨hcz72_0, hcz72_1, hcz72_2, hcz72_3, hcz72_4, hcz72_5, hfz72_0, hfz72_1, hfz72_2, hfz72_3, hfz72_4, hfz72_5⟩ := bxc6 BK439.out))
             repeat (go_quiet (first | (go_at_call 15; (with_reducible refine (plan_List_Get.calls _ _ x5_2 a1 t432 t433 t434 t435 t436 t437 t438 _ ?side1 ?side2 A59.out).mono ?_); (case side1 => repeat (first | exact (Kd.R_reads' HO_5.out).2.2 | (with_reducible refine Kd.C_alloc ?_ _) | (with_reducible refine Kd.C_drewN ?_ _) | (with_reducible refine Kd.C_drew ?_))); (case side2 => exact (Kd.R_reads' HO_5.out).2.1); rintro e w70 ⟨rfl, hb⟩; have n0_ := Aside0.mk (Kd.R_below (by (with_reducible repeat (first | apply Kd.R_alloc | apply Kd.R_drewN | apply Kd.R_drew)); exact HO_5.out) hb); have n1_ := Aside0.mk (Kd.R_below (by (with_reducible repeat (first | apply Kd.R_alloc | apply Kd.R_drewN | apply Kd.R_drew)); exact HO_6.out) hb); have n2_ := Aside0.mk (below_step (by repeat (first | (with_reducible first | exact HB.out | apply kL | apply kM | apply kE) | exact HB.out)) hb); clear HO_5; clear HO_6; clear HB; have HO_5 := n0_; have HO_6 := n1_; have HB := n2_; clear n0_ n1_ n2_; (try clear hb); (try clear hb2); (try clear hk); (try clear hi)) | ((with_reducible refine gate_dst (N := 16) rfl ?_); (try (refine gate_guard (by rfl) ?_; dsimp only)); refine box_event ?hg (N := 16) ?hd (cs := #[.int .i64 0, .int .u8 0, .int .i64 0, .int .i64 0, .bool false, .bool false]) (t := 23) ?hr ?_; (case hd => rfl); (case hg => rfl); (case hr => first | (go_simp; done) | (go_simp; rfl)); intro gb439 hg w71 hbox hb; have n0_ := Aside0.mk (Kd.R_below (Kd.R_elderB (by (with_reducible repeat (first | apply Kd.R_alloc | apply Kd.R_drewN | apply Kd.R_drew)); exact HO_5.out) gb439 (Nat.le_of_eq hg.symm)) hb); have n1_ := Aside0.mk (Kd.R_below (Kd.R_elderB (by (with_reducible repeat (first | apply Kd.R_alloc | apply Kd.R_drewN | apply Kd.R_drew)); exact HO_6.out) gb439 (Nat.le_of_eq hg.symm)) hb); have n2_ := Aside0.mk (below_step (by repeat (first | (with_reducible first | exact HB.out | apply kL | apply kM | apply kE) | exact HB.out)) hb); have n3_ := Aside0.mk (hbox); have n4_ := Aside0.mk ((by rw [hg]; exact (below_size (by repeat (first | (with_reducible first | exact HB.out | apply kL | apply kM | apply kE) | exact HB.out))) : w.heap.size ≤ gb439)); have n5_ := Aside0.mk ((by rw [hg]; exact (below_size (by repeat (first | (with_reducible first | exact HB.out | apply kL | apply kM | apply kE) | exact HB.out))) : w.heap.size ≤ gb439)); clear HO_5; clear HO_6; clear HB; have HO_5 := n0_; have HO_6 := n1_; have HB := n2_; have BK439 := n3_; have GW439 := n4_; have GE439 := n5_; clear n0_ n1_ n2_ n3_ n4_ n5_; clear hb hbox hg; obtain ⟨hcz72_0, hcz72_1, hcz72_2, hcz72_3, hcz72_4, hcz72_5, hfz72_0, hfz72_1, hfz72_2, hfz72_3, hfz72_4, hfz72_5⟩ := bxc6 BK439.out)); try go_wp2_with (first | (go_at_call 15; (with_reducible refine (plan_List_Get.calls _ _ x5_2 a1 t432 t433 t434 t435 t436 t437 t438 _ ?side1 ?side2 A59.out).mono ?_); (case side1 => repeat (first | exact (Kd.R_reads' HO_5.out).2.2 | (with_reducible refine Kd.C_alloc ?_ _) | (with_reducible refine Kd.C_drewN ?_ _) | (with_reducible refine Kd.C_drew ?_))); (case side2 => exact (Kd.R_reads' HO_5.out).2.1); rintro e w70 ⟨rfl, hb⟩; have n0_ := Aside0.mk (Kd.R_below (by (with_reducible repeat (first | apply Kd.R_alloc | apply Kd.R_drewN | apply Kd.R_drew)); exact HO_5.out) hb); have n1_ := Aside0.mk (Kd.R_below (by (with_reducible repeat (first | apply Kd.R_alloc | apply Kd.R_drewN | apply Kd.R_drew)); exact HO_6.out) hb); have n2_ := Aside0.mk (below_step (by repeat (first | (with_reducible first | exact HB.out | apply kL | apply kM | apply kE) | exact HB.out)) hb); clear HO_5; clear HO_6; clear HB; have HO_5 := n0_; have HO_6 := n1_; have HB := n2_; clear n0_ n1_ n2_; (try clear hb); (try clear hb2); (try clear hk); (try clear hi)) | ((with_reducible refine gate_dst (N := 16) rfl ?_); (try (refine gate_guard (by rfl) ?_; dsimp only)); refine box_event ?hg (N := 16) ?hd (cs := #[.int .i64 0, .int .u8 0, .int .i64 0, .int .i64 0, .bool false, .bool false]) (t := 23) ?hr ?_; (case hd => rfl); (case hg => rfl); (case hr => first | (go_simp; done) | (go_simp; rfl)); intro gb439 hg w71 hbox hb; have n0_ := Aside0.mk (Kd.R_below (Kd.R_elderB (by (with_reducible repeat (first | apply Kd.R_alloc | apply Kd.R_drewN | apply Kd.R_drew)); exact HO_5.out) gb439 (Nat.le_of_eq hg.symm)) hb); have n1_ := Aside0.mk (Kd.R_below (Kd.R_elderB (by (with_reducible repeat (first | apply Kd.R_alloc | apply Kd.R_drewN | apply Kd.R_drew)); exact HO_6.out) gb439 (Nat.le_of_eq hg.symm)) hb); have n2_ := Aside0.mk (below_step (by repeat (first | (with_reducible first | exact HB.out | apply kL | apply kM | apply kE) | exact HB.out)) hb); have n3_ := Aside0.mk (hbox); have n4_ := Aside0.mk ((by rw [hg]; exact (below_size (by repeat (first | (with_reducible first | exact HB.out | apply kL | apply kM | apply kE) | exact HB.out))) : w.heap.size ≤ gb439)); have n5_ := Aside0.mk ((by rw [hg]; exact (below_size (by repeat (first | (with_reducible first | exact HB.out | apply kL | apply kM | apply kE) | exact HB.out))) : w.heap.size ≤ gb439)); clear HO_5; clear HO_6; clear HB; have HO_5 := n0_; have HO_6 := n1_; have HB := n2_; have BK439 := n3_; have GW439 := n4_; have GE439 := n5_; clear n0_ n1_ n2_ n3_ n4_ n5_; clear hb hbox hg; obtain ⟨hcz72_0, hcz72_1, hcz72_2, hcz72_3, hcz72_4, hcz72_5, hfz72_0, hfz72_1, hfz72_2, hfz72_3, hfz72_4, hfz72_5⟩ := bxc6 BK439.out)))
             go_ret
             exact ⟨by first | rfl | (simp [errW_none, errW_some] <;> rfl) | (simp [*, errW_none, errW_some] <;> rfl), by repeat (first | (with_reducible first | exact HB.out | apply kL | apply kM | apply kE | refine kS ?_ GE439.out) | exact HB.out)⟩
           ·rw [if_neg c61] at H
            have c61b0 : ((t438 == 0) == (decide (a1 < (x6_2.length : Int)))) = false := by simpa using c61
            (try (have c61b1 : decide ((t438 == 0) = (decide (a1 < (x6_2.length : Int)))) = false := by simpa using c61))
            (try (have c61b2 : ((t438 == 0) == (decide (a1 < (x6_2.length : Int)))) = false := by simpa using c61))
            (try (have c61b3 : ¬ ((t438 == 0) = (decide (a1 < (x6_2.length : Int)))) := by simpa using c61))
            clear c61
            exact absurd H (by simp)
          ·rw [if_neg c60] at H
           have c60b0 : decide (0 ≤ a1) = false := decide_eq_false c60
           clear c60
           by_cases c73 : ((t438 == 0) == false) = true
           ·rw [if_pos c73] at H
            have c73b0 : ((t438 == 0) == false) = true := c73
            (try (have c73b1 : decide ((t438 == 0) = false) = true := by simpa using c73))
            (try (have c73b2 : ((t438 == 0) == false) = true := by simpa using c73))
            clear c73
            (try (have c73b0z_ := c73b0; simp only [beq_true, beq_false, true_beq, false_beq, Bool.not_eq_true', Bool.not_eq_false', Bool.not_true, Bool.not_false] at c73b0z_))
            by_cases c74 : t438 = 0
            ·rw [if_pos c74] at H
             have c74b0 : (t438 == 0) = true := beq_iff_eq.mpr c74
             have c74b1 : (t438 != 0) = false := bne_eq_false_iff_eq.mpr c74
             clear c74
             exact absurd c73b0 (by rw [c74b0]; decide)
            ·rw [if_neg c74] at H
             have c74b0 : (t438 == 0) = false := beq_eq_false_iff_ne.mpr c74
             have c74b1 : (t438 != 0) = true := bne_iff_ne.mpr c74
             have HT_ := Option.some.inj H
             clear H
             (try (have HT_z_ := HT_; simp only [beq_true, beq_false, true_beq, false_beq, Bool.not_eq_true', Bool.not_eq_false', Bool.not_true, Bool.not_false] at HT_z_))
             obtain ⟨Ao80, co80, eo80⟩ := Kd.R_slice HO_6.out
             subst eo80
             obtain ⟨Ao81, co81, eo81⟩ := Kd.R_slice HO_5.out
             subst eo81
             go_wp2_with (first | (go_at_call 15; (with_reducible refine (plan_List_Get.calls _ _ x5_2 a1 t432 t433 t434 t435 t436 t437 t438 _ ?side1 ?side2 A59.out).mono ?_); (case side1 => repeat (first | exact (Kd.R_reads' HO_5.out).2.2 | (with_reducible refine Kd.C_alloc ?_ _) | (with_reducible refine Kd.C_drewN ?_ _) | (with_reducible refine Kd.C_drew ?_))); (case side2 => exact (Kd.R_reads' HO_5.out).2.1); rintro e w82 ⟨rfl, hb⟩; have n0_ := Aside0.mk (Kd.R_below (by (with_reducible repeat (first | apply Kd.R_alloc | apply Kd.R_drewN | apply Kd.R_drew)); exact HO_5.out) hb); have n1_ := Aside0.mk (Kd.R_below (by (with_reducible repeat (first | apply Kd.R_alloc | apply Kd.R_drewN | apply Kd.R_drew)); exact HO_6.out) hb); have n2_ := Aside0.mk (below_step (by repeat (first | (with_reducible first | exact HB.out | apply kL | apply kM | apply kE) | exact HB.out)) hb); clear HO_5; clear HO_6; clear HB; have HO_5 := n0_; have HO_6 := n1_; have HB := n2_; clear n0_ n1_ n2_; (try clear hb); (try clear hb2); (try clear hk); (try clear hi)) | ((with_reducible refine gate_dst (N := 16) rfl ?_); (try (refine gate_guard (by rfl) ?_; dsimp only)); refine box_event ?hg (N := 16) ?hd (cs := #[.int .i64 0, .int .u8 0, .int .i64 0, .int .i64 0, .bool false, .bool false]) (t := 23) ?hr ?_; (case hd => rfl); (case hg => rfl); (case hr => first | (go_simp; done) | (go_simp; rfl)); intro gb439 hg w83 hbox hb; have n0_ := Aside0.mk (Kd.R_below (Kd.R_elderB (by (with_reducible repeat (first | apply Kd.R_alloc | apply Kd.R_drewN | apply Kd.R_drew)); exact HO_5.out) gb439 (Nat.le_of_eq hg.symm)) hb); have n1_ := Aside0.mk (Kd.R_below (Kd.R_elderB (by (with_reducible repeat (first | apply Kd.R_alloc | apply Kd.R_drewN | apply Kd.R_drew)); exact HO_6.out) gb439 (Nat.le_of_eq hg.symm)) hb); have n2_ := Aside0.mk (below_step (by repeat (first | (with_reducible first | exact HB.out | apply kL | apply kM | apply kE) | exact HB.out)) hb); have n3_ := Aside0.mk (hbox); have n4_ := Aside0.mk ((by rw [hg]; exact (below_size (by repeat (first | (with_reducible first | exact HB.out | apply kL | apply kM | apply kE) | exact HB.out))) : w.heap.size ≤ gb439)); have n5_ := Aside0.mk ((by rw [hg]; exact (below_size (by repeat (first | (with_reducible first | exact HB.out | apply kL | apply kM | apply kE) | exact HB.out))) : w.heap.size ≤ gb439)); clear HO_5; clear HO_6; clear HB; have HO_5 := n0_; have HO_6 := n1_; have HB := n2_; have BK439 := n3_; have GW439 := n4_; have GE439 := n5_; clear n0_ n1_ n2_ n3_ n4_ n5_; clear hb hbox hg; obtain ⟨hcz84_0, hcz84_1, hcz84_2, hcz84_3, hcz84_4, hcz84_5, hfz84_0, hfz84_1, hfz84_2, hfz84_3, hfz84_4, hfz84_5⟩ := bxc6 BK439.out))
             repeat (go_quiet (first | (go_at_call 15; (with_reducible refine (plan_List_Get.calls _ _ x5_2 a1 t432 t433 t434 t435 t436 t437 t438 _ ?side1 ?side2 A59.out).mono ?_); (case side1 => repeat (first | exact (Kd.R_reads' HO_5.out).2.2 | (with_reducible refine Kd.C_alloc ?_ _) | (with_reducible refine Kd.C_drewN ?_ _) | (with_reducible refine Kd.C_drew ?_))); (case side2 => exact (Kd.R_reads' HO_5.out).2.1); rintro e w82 ⟨rfl, hb⟩; have n0_ := Aside0.mk (Kd.R_below (by (with_reducible repeat (first | apply Kd.R_alloc | apply Kd.R_drewN | apply Kd.R_drew)); exact HO_5.out) hb); have n1_ := Aside0.mk (Kd.R_below (by (with_reducible repeat (first | apply Kd.R_alloc | apply Kd.R_drewN | apply Kd.R_drew)); exact HO_6.out) hb); have n2_ := Aside0.mk (below_step (by repeat (first | (with_reducible first | exact HB.out | apply kL | apply kM | apply kE) | exact HB.out)) hb); clear HO_5; clear HO_6; clear HB; have HO_5 := n0_; have HO_6 := n1_; have HB := n2_; clear n0_ n1_ n2_; (try clear hb); (try clear hb2); (try clear hk); (try clear hi)) | ((with_reducible refine gate_dst (N := 16) rfl ?_); (try (refine gate_guard (by rfl) ?_; dsimp only)); refine box_event ?hg (N := 16) ?hd (cs := #[.int .i64 0, .int .u8 0, .int .i64 0, .int .i64 0, .bool false, .bool false]) (t := 23) ?hr ?_; (case hd => rfl); (case hg => rfl); (case hr => first | (go_simp; done) | (go_simp; rfl)); intro gb439 hg w83 hbox hb; have n0_ := Aside0.mk (Kd.R_below (Kd.R_elderB (by (with_reducible repeat (first | apply Kd.R_alloc | apply Kd.R_drewN | apply Kd.R_drew)); exact HO_5.out) gb439 (Nat.le_of_eq hg.symm)) hb); have n1_ := Aside0.mk (Kd.R_below (Kd.R_elderB (by (with_reducible repeat (first | apply Kd.R_alloc | apply Kd.R_drewN | apply Kd.R_drew)); exact HO_6.out) gb439 (Nat.le_of_eq hg.symm)) hb); have n2_ := Aside0.mk (below_step (by repeat (first | (with_reducible first | exact HB.out | apply kL | apply kM | apply kE) | exact HB.out)) hb); have n3_ := Aside0.mk (hbox); have n4_ := Aside0.mk ((by rw [hg]; exact (below_size (by repeat (first | (with_reducible first | exact HB.out | apply kL | apply kM | apply kE) | exact HB.out))) : w.heap.size ≤ gb439)); have n5_ := Aside0.mk ((by rw [hg]; exact (below_size (by repeat (first | (with_reducible first | exact HB.out | apply kL | apply kM | apply kE) | exact HB.out))) : w.heap.size ≤ gb439)); clear HO_5; clear HO_6; clear HB; have HO_5 := n0_; have HO_6 := n1_; have HB := n2_; have BK439 := n3_; have GW439 := n4_; have GE439 := n5_; clear n0_ n1_ n2_ n3_ n4_ n5_; clear hb hbox hg; obtain ⟨hcz84_0, hcz84_1, hcz84_2, hcz84_3, hcz84_4, hcz84_5, hfz84_0, hfz84_1, hfz84_2, hfz84_3, hfz84_4, hfz84_5⟩ := bxc6 BK439.out)); try go_wp2_with (first | (go_at_call 15; (with_reducible refine (plan_List_Get.calls _ _ x5_2 a1 t432 t433 t434 t435 t436 t437 t438 _ ?side1 ?side2 A59.out).mono ?_); (case side1 => repeat (first | exact (Kd.R_reads' HO_5.out).2.2 | (with_reducible refine Kd.C_alloc ?_ _) | (with_reducible refine Kd.C_drewN ?_ _) | (with_reducible refine Kd.C_drew ?_))); (case side2 => exact (Kd.R_reads' HO_5.out).2.1); rintro e w82 ⟨rfl, hb⟩; have n0_ := Aside0.mk (Kd.R_below (by (with_reducible repeat (first | apply Kd.R_alloc | apply Kd.R_drewN | apply Kd.R_drew)); exact HO_5.out) hb); have n1_ := Aside0.mk (Kd.R_below (by (with_reducible repeat (first | apply Kd.R_alloc | apply Kd.R_drewN | apply Kd.R_drew)); exact HO_6.out) hb); have n2_ := Aside0.mk (below_step (by repeat (first | (with_reducible first | exact HB.out | apply kL | apply kM | apply kE) | exact HB.out)) hb); clear HO_5; clear HO_6; clear HB; have HO_5 := n0_; have HO_6 := n1_; have HB := n2_; clear n0_ n1_ n2_; (try clear hb); (try clear hb2); (try clear hk); (try clear hi)) | ((with_reducible refine gate_dst (N := 16) rfl ?_); (try (refine gate_guard (by rfl) ?_; dsimp only)); refine box_event ?hg (N := 16) ?hd (cs := #[.int .i64 0, .int .u8 0, .int .i64 0, .int .i64 0, .bool false, .bool false]) (t := 23) ?hr ?_; (case hd => rfl); (case hg => rfl); (case hr => first | (go_simp; done) | (go_simp; rfl)); intro gb439 hg w83 hbox hb; have n0_ := Aside0.mk (Kd.R_below (Kd.R_elderB (by (with_reducible repeat (first | apply Kd.R_alloc | apply Kd.R_drewN | apply Kd.R_drew)); exact HO_5.out) gb439 (Nat.le_of_eq hg.symm)) hb); have n1_ := Aside0.mk (Kd.R_below (Kd.R_elderB (by (with_reducible repeat (first | apply Kd.R_alloc | apply Kd.R_drewN | apply Kd.R_drew)); exact HO_6.out) gb439 (Nat.le_of_eq hg.symm)) hb); have n2_ := Aside0.mk (below_step (by repeat (first | (with_reducible first | exact HB.out | apply kL | apply kM | apply kE) | exact HB.out)) hb); have n3_ := Aside0.mk (hbox); have n4_ := Aside0.mk ((by rw [hg]; exact (below_size (by repeat (first | (with_reducible first | exact HB.out | apply kL | apply kM | apply kE) | exact HB.out))) : w.heap.size ≤ gb439)); have n5_ := Aside0.mk ((by rw [hg]; exact (below_size (by repeat (first | (with_reducible first | exact HB.out | apply kL | apply kM | apply kE) | exact HB.out))) : w.heap.size ≤ gb439)); clear HO_5; clear HO_6; clear HB; have HO_5 := n0_; have HO_6 := n1_; have HB := n2_; have BK439 := n3_; have GW439 := n4_; have GE439 := n5_; clear n0_ n1_ n2_ n3_ n4_ n5_; clear hb hbox hg; obtain ⟨hcz84_0, hcz84_1, hcz84_2, hcz84_3, hcz84_4, hcz84_5, hfz84_0, hfz84_1, hfz84_2, hfz84_3, hfz84_4, hfz84_5⟩ := bxc6 BK439.out)))
             go_ret
             exact ⟨by first | rfl | (simp [errW_none, errW_some] <;> rfl) | (simp [*, errW_none, errW_some] <;> rfl), by repeat (first | (with_reducible first | exact HB.out | apply kL | apply kM | apply kE | refine kS ?_ GE439.out) | exact HB.out)⟩
           ·rw [if_neg c73] at H
            have c73b0 : ((t438 == 0) == false) = false := by simpa using c73
            (try (have c73b1 : decide ((t438 == 0) = false) = false := by simpa using c73))
            (try (have c73b2 : ((t438 == 0) == false) = false := by simpa using c73))
            (try (have c73b3 : ¬ ((t438 == 0) = false) := by simpa using c73))
            clear c73
            (try (have c73b0z_ := c73b0; simp only [beq_true, beq_false, true_beq, false_beq, Bool.not_eq_true', Bool.not_eq_false', Bool.not_true, Bool.not_false] at c73b0z_))
            exact absurd H (by simp)

end Go.Proofs.Ytbjelaocihjhgaa.PA
