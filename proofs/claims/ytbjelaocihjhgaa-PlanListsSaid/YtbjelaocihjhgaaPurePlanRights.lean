/- Which plans may be. No condition. -/
import Derived.Test.YtbjelaocihjhgaaPureChange
import Derived.Test.YtbjelaocihjhgaaPureNear
import Derived.Test.YtbjelaocihjhgaaPAx11
import Derived.Test.YtbjelaocihjhgaaPAx12
import Derived.Test.YtbjelaocihjhgaaPAx13
import Derived.Test.YtbjelaocihjhgaaPAx14
namespace Go.Proofs.Ytbjelaocihjhgaa.Pure
open Go.RowKit Go.Proofs.Ytbjelaocihjhgaa.PA Go.Proofs.YtbjelaocihjhgaaW.PrintWords Go.Proofs.YtbjelaocihjhgaaW.PrintLast Go.Proofs.YtbjelaocihjhgaaW.PrintMore

def rightI (p0 p1 p2 p3 : Int) : Int := if p1 > 3 ∨ p2 < 1 ∨ p2 > 1000 ∨ p3 < 0 ∨ p3 > 1000 then 1 else if p0 < 0 ∨ p0 > 1073741824 then 9 else 0
theorem rj0 (k : Nat) (b : Bool) (p0 p1 p2 p3 : Int) (p4 p5 : Bool) : plan_Right.j0 (k + 1) b p0 p1 p2 p3 p4 p5 = some (if b = true then 1 else if p0 < 0 ∨ p0 > 1073741824 then 9 else 0) := by
  simp only [plan_Right.j0]
  split
  · rfl
  · split
    · rw [if_pos (by omega)]
    · split
      · rw [if_pos (by omega)]
      · rw [if_neg (by omega)]
theorem lj0 (k : Nat) (b : Bool) (p0 p1 p2 p3 : Int) (p4 p5 : Bool) : paybooklaw09_right.j0 (k + 1) b p0 p1 p2 p3 p4 p5 = some (if b = true then 1 else if p0 < 0 ∨ p0 > 1073741824 then 9 else 0) := by
  simp only [paybooklaw09_right.j0]
  split
  · rfl
  · split
    · rw [if_pos (by omega)]
    · split
      · rw [if_pos (by omega)]
      · rw [if_neg (by omega)]
theorem right_ev (p0 p1 p2 p3 : Int) (p4 p5 : Bool) : Ev (fun k => plan_Right.f k p0 p1 p2 p3 p4 p5) (rightI p0 p1 p2 p3) := by
  refine Ev.step (f := fun _ => some (rightI p0 p1 p2 p3)) (fun k => ?_) (Ev.now _)
  unfold plan_Right.f season_Right.f rightI
  simp only [rj0]
  by_cases h1 : p1 ≤ 3
  · by_cases h2 : p2 ≥ 1
    · by_cases h3 : p2 ≤ 1000
      · by_cases h4 : p3 < 0
        · simp [h1, h2, h3, h4]
        · by_cases h5 : p3 > 1000
          · simp [h1, h2, h3, h4, h5]
          · simp only [if_pos h1, if_pos h2, decide_eq_true h3, Option.bind_some, if_true, if_neg h4, decide_eq_false h5, Bool.false_eq_true, if_false]
            rw [if_neg (show ¬ (p1 > 3 ∨ p2 < 1 ∨ p2 > 1000 ∨ p3 < 0 ∨ p3 > 1000) by omega)]
      · simp only [if_pos h1, if_pos h2, decide_eq_false h3, Option.bind_some, Bool.false_eq_true, if_false, if_true]
        rw [if_pos (by omega)]
    · simp only [if_pos h1, if_neg h2, Option.bind_some, Bool.false_eq_true, if_false, if_true]
      rw [if_pos (by omega)]
  · simp only [if_neg h1, Option.bind_some, Bool.false_eq_true, if_false, if_true]
    rw [if_pos (by omega)]
theorem lright_ev (p0 p1 p2 p3 : Int) (p4 p5 : Bool) : Ev (fun k => paybooklaw09_right.f k p0 p1 p2 p3 p4 p5) (rightI p0 p1 p2 p3) := by
  refine Ev.step (f := fun _ => some (rightI p0 p1 p2 p3)) (fun k => ?_) (Ev.now _)
  unfold paybooklaw09_right.f rightI
  simp only [lj0, if_true]
  by_cases h1 : p1 > 3
  · rw [if_pos h1, if_pos (by omega)]
  · rw [if_neg h1]
    by_cases h2 : p2 < 1
    · rw [if_pos h2, if_pos (by omega)]
    · rw [if_neg h2]
      by_cases h3 : p2 > 1000
      · rw [if_pos h3, if_pos (by omega)]
      · rw [if_neg h3]
        by_cases h4 : p3 < 0
        · rw [if_pos h4, if_pos (by omega)]
        · rw [if_neg h4]
          by_cases h5 : p3 > 1000
          · rw [if_pos (decide_eq_true h5), if_pos (by omega)]
          · rw [if_neg (by simp; omega), if_neg (show ¬ (p1 > 3 ∨ p2 < 1 ∨ p2 > 1000 ∨ p3 < 0 ∨ p3 > 1000) by omega)]
theorem PlanRights : paybooklaw09_PlanRights.Pure := by
  intro a0 a1 a2 a3 a4 a5 h0 h1 h2 h3
  obtain ⟨p0, p1, p2, p3, hp, hpa⟩ := near_f a4 a5 h0 h1 h2 h3
  refine Ev.rounds ?_
  unfold paybooklaw09_PlanRights.f
  refine Ev.bind awake_ev ?_
  simp only [if_true]
  refine Ev.bind (right_ev _ _ _ _ _ _) (Ev.bind (lright_ev _ _ _ _ _ _) ?_)
  simp only [if_true]
  rw [hpa]
  simp only [Option.bind_some]
  refine Ev.bind (right_ev _ _ _ _ _ _) ?_
  unfold PlanOk at hp
  have : rightI p0 p1 p2 p3 = 0 := by unfold rightI; rw [if_neg (by omega), if_neg (by omega)]
  rw [this]
  exact Ev.now _

end Go.Proofs.Ytbjelaocihjhgaa.Pure
