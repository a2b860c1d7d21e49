/- What was added is taken back. -/
import Derived.Test.YtkmngemohhncaaaPurePart
import Derived.Test.YtkmngemohhncaaaPAx16
import Derived.OpenShut
namespace Go.Proofs.Ytkmngemohhncaaa.Pure
open Go.RowKit Go.Proofs.Ytkmngemohhncaaa.PA Go.Proofs.YtkmngemohhncaaaW.PrintWords Go.Proofs.YtkmngemohhncaaaW.PrintLast

theorem awake_up : ∀ k, 10 ≤ k → paybooklaw03_awake.f k = some true
  | 0, h => by omega
  | k + 1, h => by
    by_cases hk : k + 1 = 10
    · rw [hk]; exact awake_10
    · exact paybooklaw03_awake.mono k _ (awake_up k (by omega))

theorem PurseBack : paybooklaw03_PurseBack.Pure := by
  intro a b w n ha hb hw hn
  have ha := bounds_i64 ha
  have hb := bounds_i64 hb
  have hw := bounds_i32 hw
  have hn := bounds_i32 hn
  refine ⟨23, ?_⟩
  have ew : wrap64 w = w := wrap_of _ (by omega) (by omega)
  have en : wrap64 n = n := wrap_of _ (by omega) (by omega)
  have tail : paybooklaw03_PurseBack.j0 23 a w n = some true := by
    simp only [paybooklaw03_PurseBack.j0, ew, en]
    rw [part_f 22 (by omega) a w n (by omega) (by omega)]
    simp only [Option.bind_some]
    rw [part_f 22 (by omega) (partA a w n).1 w n (by omega) (by omega), awake_up 22 (by omega)]
    simp only [Option.bind_some, if_true]
    unfold partA
    by_cases h0 : 0 ≤ a ∧ a ≤ 1125899906842624
    · by_cases h1 : n < 1 ∨ w < 0 ∨ w > n
      · simp [h0, h1]
      · have g1 := part_le (a := a) (w := w) (n := n) h0.1 (by omega) (by omega) (by omega)
        have g2 := part_le (a := a * w / n) (w := w) (n := n) g1.1 (by omega) (by omega) (by omega)
        have c : 0 ≤ a * w / n ∧ a * w / n ≤ 1125899906842624 := by omega
        simp only [h0, h1, c, g2, not_true_eq_false, and_self, if_true, if_false, decide_true]
    · simp [h0]
  unfold paybooklaw03_PurseBack.f
  simp only [add_eq, less_eq, Option.bind_some, tail]
  by_cases h : (-1125899906842624 ≤ a ∧ a ≤ 1125899906842624) ∧ (-1125899906842624 ≤ b ∧ b ≤ 1125899906842624) ∧ (-1125899906842624 ≤ a + b ∧ a + b ≤ 1125899906842624)
  · have h' : (-1125899906842624 ≤ a + b ∧ a + b ≤ 1125899906842624) ∧ (-1125899906842624 ≤ b ∧ b ≤ 1125899906842624) ∧ (-1125899906842624 ≤ a + b - b ∧ a + b - b ≤ 1125899906842624) := by omega
    simp only [if_pos h, if_pos h', if_true]
    rw [if_pos (by omega)]
  · simp only [if_neg h]
    rfl

end Go.Proofs.Ytkmngemohhncaaa.Pure
