/- What a change of plans comes to, and the document's example. Prices lie from 0 to 2 to the 30. -/
import Derived.Test.YtbjelaocihjhgaaPurePart
import Derived.Test.YtbjelaocihjhgaaPAx10
import Derived.Test.YtbjelaocihjhgaaPAx8
import Derived.Test.YtbjelaocihjhgaaPAx9
namespace Go.Proofs.Ytbjelaocihjhgaa.Pure
open Go.RowKit Go.Proofs.Ytbjelaocihjhgaa.PA Go.Proofs.YtbjelaocihjhgaaW.PrintWords Go.Proofs.YtbjelaocihjhgaaW.PrintLast Go.Proofs.YtbjelaocihjhgaaW.PrintMore

theorem part_ev (a w n : Int) (hw : (Lit.int .i64 w).wf = true) (hn : (Lit.int .i64 n).wf = true) : Ev (fun k => purse_Part.f k a w n) (partA a w n) :=
  ⟨22, fun k hk => part_f k hk a w n (by have := bounds_i64 hw; omega) (by have := bounds_i64 hn; omega)⟩
def badDays (w n : Int) : Prop := n < 1 ∨ w < 0 ∨ w > n
instance (w n : Int) : Decidable (badDays w n) := by unfold badDays; exact inferInstance
theorem partA_near {a w n : Int} (h0 : 0 ≤ a) (h1 : a ≤ 1073741824) : partA a w n = if badDays w n then (0, 1) else (a * w / n, 0) := by
  unfold partA badDays
  rw [if_neg (by omega)]
def changeI (a b w n : Int) : Int × Int × Int := if badDays w n then (0, 0, 1) else (a * w / n, b * w / n, 0)
theorem change_ev {a b w n : Int} (ha : 0 ≤ a ∧ a ≤ 1073741824) (hb : 0 ≤ b ∧ b ≤ 1073741824) (hw : (Lit.int .i64 w).wf = true) (hn : (Lit.int .i64 n).wf = true) (a1 a2 a3 b1 b2 b3 : Int) (a4 a5 b4 b5 : Bool) :
    Ev (fun k => plan_Change.f k a a1 a2 a3 a4 a5 b b1 b2 b3 b4 b5 w n) (changeI a b w n) := by
  unfold plan_Change.f changeI
  refine Ev.bind (part_ev a w n hw hn) ?_
  rw [partA_near ha.1 ha.2]
  by_cases h : badDays w n
  · simp only [if_pos h]
    exact Ev.now _
  · simp only [if_neg h, if_true]
    refine Ev.bind (part_ev b w n hw hn) ?_
    rw [partA_near hb.1 hb.2]
    simp only [if_neg h, if_true]
    exact Ev.now _
theorem awake_ev : Ev paybooklaw09_awake.f true := by
  unfold paybooklaw09_awake.f
  refine Ev.bind (change_ev (by omega) (by omega) rfl rfl _ _ _ _ _ _ _ _ _ _) ?_
  exact Ev.now _

end Go.Proofs.Ytbjelaocihjhgaa.Pure
