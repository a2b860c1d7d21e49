/- An amount in two parts, and what is left. -/
import Derived.Test.YtkmngemohhncaaaPurePart
import Derived.Test.YtkmngemohhncaaaPAx10
import Derived.OpenShut
namespace Go.Proofs.Ytkmngemohhncaaa.Pure
open Go.RowKit Go.Proofs.Ytkmngemohhncaaa.PA Go.Proofs.YtkmngemohhncaaaW.PrintWords Go.Proofs.YtkmngemohhncaaaW.PrintLast

theorem awake_up : ∀ k, 10 ≤ k → paybooklaw03_awake.f k = some true
  | 0, h => by omega
  | k + 1, h => by
    by_cases hk : k + 1 = 10
    · rw [hk]; exact awake_10
    · exact paybooklaw03_awake.mono k _ (awake_up k (by omega))

theorem PurseShares : paybooklaw03_PurseShares.Pure := by
  intro a w n ha hw hn
  have ha := bounds_i64 ha
  have hw := bounds_i64 hw
  have hn := bounds_i64 hn
  refine ⟨22, ?_⟩
  have e1 := part_f 22 (by omega) a w n (by omega) (by omega)
  have ww : wrap64 (n - w) ≤ 9223372036854775807 := by unfold wrap64; omega
  have e2 := part_f 22 (by omega) a (wrap64 (n - w)) n ww (by omega)
  unfold paybooklaw03_PurseShares.f purse_Share.f
  simp only [e1, e2, Option.bind_some, awake_up 22 (by omega), if_true]
  unfold partA
  by_cases h0 : 0 ≤ a ∧ a ≤ 1125899906842624
  · by_cases h1 : n < 1 ∨ w < 0 ∨ w > n
    · simp [h0, h1]
    · have g1 := part_le (a := a) (w := w) (n := n) h0.1 (by omega) (by omega) (by omega)
      have g2 := part_le (a := a) (w := n - w) (n := n) h0.1 (by omega) (by omega) (by omega)
      have gw : wrap64 (n - w) = n - w := wrap_of _ (by omega) (by omega)
      have c1 : ¬ (n < 1 ∨ n - w < 0 ∨ n - w > n) := by omega
      have m1 := Int.emod_add_mul_ediv (a * w) n
      have m2 := Int.emod_add_mul_ediv (a * (n - w)) n
      have b1 := Int.emod_nonneg (a * w) (show n ≠ 0 by omega)
      have b2 := Int.emod_lt_of_pos (a * w) (show 0 < n by omega)
      have b3 := Int.emod_nonneg (a * (n - w)) (show n ≠ 0 by omega)
      have b4 := Int.emod_lt_of_pos (a * (n - w)) (show 0 < n by omega)
      have s1 : a * (n - w) = n * a - a * w := by rw [Int.mul_sub, Int.mul_comm a n]
      have key : a - a * w / n - a * (n - w) / n = 0 ∨ a - a * w / n - a * (n - w) / n = 1 := by
        have t : n * (a - a * w / n - a * (n - w) / n) = n * a - n * (a * w / n) - n * (a * (n - w) / n) := by rw [Int.mul_sub, Int.mul_sub]
        have u1 : 0 ≤ n * (a - a * w / n - a * (n - w) / n) := by omega
        have u2 : n * (a - a * w / n - a * (n - w) / n) < n * 2 := by omega
        have v2 := Int.lt_of_mul_lt_mul_left u2 (by omega)
        have v1 : 0 ≤ a - a * w / n - a * (n - w) / n := Int.nonneg_of_mul_nonneg_right u1 (by omega)
        omega
      have x1 : wrap64 (a - a * w / n) = a - a * w / n := wrap_of _ (by omega) (by omega)
      have x2 : wrap64 (a - a * w / n - a * (n - w) / n) = a - a * w / n - a * (n - w) / n := wrap_of _ (by omega) (by omega)
      have x3 : wrap64 (a * w / n + a * (n - w) / n) = a * w / n + a * (n - w) / n := wrap_of _ (by omega) (by omega)
      have x4 : wrap64 (a * w / n + a * (n - w) / n + (a - a * w / n - a * (n - w) / n)) = a := by rw [wrap_of _ (by omega) (by omega)]; omega
      simp only [h0, h1, gw, c1, x1, x2, x3, x4, not_true_eq_false, and_self, if_true, if_false, Option.bind_some]
      rcases key with h | h <;> rw [h] <;> simp
  · simp [h0]

end Go.Proofs.Ytkmngemohhncaaa.Pure
