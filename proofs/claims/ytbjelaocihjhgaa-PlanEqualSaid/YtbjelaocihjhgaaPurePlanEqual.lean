/- Between plans of one price a change costs nothing; and the more days are left, the more is given back, and taken. No condition. -/
import Derived.Test.YtbjelaocihjhgaaPureChange
import Derived.Test.YtbjelaocihjhgaaPureNear
import Derived.Test.YtbjelaocihjhgaaPAx9
namespace Go.Proofs.Ytbjelaocihjhgaa.Pure
open Go.RowKit Go.Proofs.Ytbjelaocihjhgaa.PA Go.Proofs.YtbjelaocihjhgaaW.PrintWords Go.Proofs.YtbjelaocihjhgaaW.PrintLast Go.Proofs.YtbjelaocihjhgaaW.PrintMore

theorem wf_i64 {n : Int} (h0 : -9223372036854775808 ≤ n) (h1 : n < 9223372036854775808) : (Lit.int .i64 n).wf = true := by
  simp [Lit.wf, IntKind.min, IntKind.max, IntKind.bits, IntKind.signed]
  omega
theorem part_mono {a w w' n : Int} (ha : 0 ≤ a) (hw : w ≤ w') (hn : 1 ≤ n) : a * w / n ≤ a * w' / n := Int.ediv_le_ediv (by omega) (Int.mul_le_mul_of_nonneg_left hw ha)
theorem PlanEqual : paybooklaw09_PlanEqual.Pure := by
  intro a0 a1 a2 a3 a4 a5 b0 b1 b2 b3 b4 b5 w m d ha0 ha1 ha2 ha3 hb0 hb1 hb2 hb3 hw hm hd
  obtain ⟨p0, p1, p2, p3, hp, hpa⟩ := near_f a4 a5 ha0 ha1 ha2 ha3
  obtain ⟨q0, q1, q2, q3, hq, hqb⟩ := near_f b4 b5 hb0 hb1 hb2 hb3
  have hp0 := hp.1
  have hq0 := hq.1
  have hw := bounds_u8 hw
  have hm := bounds_u8 hm
  have hd := bounds_u16 hd
  have ed : Int.tmod d 400 = d % 400 := Int.tmod_eq_emod_of_nonneg (by omega)
  have e1 : wrap64 w = w := by unfold wrap64; omega
  have e2 : wrap64 m = m := by unfold wrap64; omega
  have e3 : wrap64 (w + m) = w + m := by unfold wrap64; omega
  have e4 : wrap64 (w + m + 1) = w + m + 1 := by unfold wrap64; omega
  have e5 : wrap64 (d % 400) = d % 400 := by unfold wrap64; omega
  have e6 : wrap64 (w + m + 1 + d % 400) = w + m + 1 + d % 400 := by unfold wrap64; omega
  refine Ev.rounds ?_
  unfold paybooklaw09_PlanEqual.f
  rw [hpa, hqb, ed, e1, e2, e3, e4, e5, e6]
  generalize hN : w + m + 1 + d % 400 = N
  simp only [Option.bind_some]
  have g1 : ¬ badDays w N := by unfold badDays; omega
  have g2 : ¬ badDays (w + m) N := by unfold badDays; omega
  have wN := wf_i64 (n := N) (by omega) (by omega)
  have ww := wf_i64 (n := w) (by omega) (by omega)
  have wm := wf_i64 (n := w + m) (by omega) (by omega)
  refine Ev.bind (change_ev hp0 hp0 ww wN _ _ _ _ _ _ _ _ _ _) (Ev.bind (change_ev hp0 hq0 ww wN _ _ _ _ _ _ _ _ _ _) (Ev.bind (change_ev hp0 hq0 wm wN _ _ _ _ _ _ _ _ _ _) (Ev.bind awake_ev ?_)))
  unfold changeI
  simp only [if_neg g1, if_neg g2, if_true, if_pos (part_mono hp0.1 (show w ≤ w + m by omega) (show 1 ≤ N by omega)), decide_eq_true (part_mono hq0.1 (show w ≤ w + m by omega) (show 1 ≤ N by omega))]
  exact Ev.now _

end Go.Proofs.Ytbjelaocihjhgaa.Pure
