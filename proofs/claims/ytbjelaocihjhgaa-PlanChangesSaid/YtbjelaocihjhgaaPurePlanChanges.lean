/- What is given back, and taken, for the days that are left: parts of both prices, rounded down. No condition. -/
import Derived.Test.YtbjelaocihjhgaaPureChange
import Derived.Test.YtbjelaocihjhgaaPureNear
import Derived.Test.YtbjelaocihjhgaaPAx7
import Derived.Test.YtbjelaocihjhgaaPAx8
namespace Go.Proofs.Ytbjelaocihjhgaa.Pure
open Go.RowKit Go.Proofs.Ytbjelaocihjhgaa.PA Go.Proofs.YtbjelaocihjhgaaW.PrintWords Go.Proofs.YtbjelaocihjhgaaW.PrintLast Go.Proofs.YtbjelaocihjhgaaW.PrintMore

theorem PlanChanges : paybooklaw09_PlanChanges.Pure := by
  intro a0 a1 a2 a3 a4 a5 b0 b1 b2 b3 b4 b5 w n ha0 ha1 ha2 ha3 hb0 hb1 hb2 hb3 hw hn
  have na := near_f a4 a5 ha0 ha1 ha2 ha3
  have nb := near_f b4 b5 hb0 hb1 hb2 hb3
  obtain ⟨p0, p1, p2, p3, hp, hpa⟩ := na
  obtain ⟨q0, q1, q2, q3, hq, hqb⟩ := nb
  have hp0 := hp.1
  have hq0 := hq.1
  refine Ev.rounds ?_
  unfold paybooklaw09_PlanChanges.f
  rw [hpa, hqb]
  simp only [Option.bind_some]
  refine Ev.bind (change_ev hp0 hq0 hw hn _ _ _ _ _ _ _ _ _ _) (Ev.bind (part_ev p0 w n hw hn) (Ev.bind (part_ev q0 w n hw hn) ?_))
  rw [partA_near hp0.1 hp0.2, partA_near hq0.1 hq0.2]
  unfold changeI
  by_cases h : badDays w n
  · simp only [if_pos h, show ((1 : Int) = 0) = False from by simp, if_false]
    refine Ev.step (f := fun k => (paybooklaw09_awake.f k).bind fun t => some (t == true)) (fun k => ?_) (Ev.bind awake_ev (Ev.now _))
    simp only [paybooklaw09_PlanChanges.j0, if_true]
    congr 1
    funext t
    cases t <;> rfl
  · simp only [if_neg h, if_true]
    unfold badDays at h
    have hA := part_le (a := p0) (w := w) (n := n) hp0.1 (by omega) (by omega) (by omega)
    have hB := part_le (a := q0) (w := w) (n := n) hq0.1 (by omega) (by omega) (by omega)
    have e : (((0 : Int) != 0)) = false := rfl
    rw [e]
    refine Ev.step (f := fun k => (paybooklaw09_awake.f k).bind fun t => some (t == true)) (fun k => ?_) (Ev.bind awake_ev (Ev.now _))
    simp only [paybooklaw09_PlanChanges.j0, Bool.false_eq_true, if_false, if_true, if_pos hA.2, decide_eq_true hB.2]
    congr 1
    funext t
    cases t <;> rfl

end Go.Proofs.Ytbjelaocihjhgaa.Pure
