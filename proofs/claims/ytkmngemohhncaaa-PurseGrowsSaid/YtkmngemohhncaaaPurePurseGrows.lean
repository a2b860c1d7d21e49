/- More of an amount, or of a greater one, is no less. -/
import Derived.Test.YtkmngemohhncaaaPurePart
import Derived.Test.YtkmngemohhncaaaPAx11
import Derived.OpenShut
namespace Go.Proofs.Ytkmngemohhncaaa.Pure
open Go.RowKit Go.Proofs.Ytkmngemohhncaaa.PA Go.Proofs.YtkmngemohhncaaaW.PrintWords Go.Proofs.YtkmngemohhncaaaW.PrintLast

theorem awake_up : ∀ k, 10 ≤ k → paybooklaw03_awake.f k = some true
  | 0, h => by omega
  | k + 1, h => by
    by_cases hk : k + 1 = 10
    · rw [hk]; exact awake_10
    · exact paybooklaw03_awake.mono k _ (awake_up k (by omega))

theorem PurseGrows : paybooklaw03_PurseGrows.Pure := by
  intro a w n d ha hw hn hd
  have ha := bounds_i64 ha
  have hw := bounds_i64 hw
  have hn := bounds_i64 hn
  have hd := bounds_u32 hd
  refine ⟨22, ?_⟩
  have hd1 : wrap64 (1 + wrap64 d) = 1 + d := by unfold wrap64; omega
  have e1 := part_f 22 (by omega) a w n (by omega) (by omega)
  have e2 := part_f 22 (by omega) a n n (by omega) (by omega)
  have e3 := part_f 22 (by omega) a 0 n (by omega) (by omega)
  have e4 := part_f 22 (by omega) (wrap64 (a - wrap64 (Int.tdiv a (1 + d)))) w n (by omega) (by omega)
  unfold paybooklaw03_PurseGrows.f
  simp only [e1, e2, e3, e4, hd1, Option.bind_some, awake_up 22 (by omega), if_true]
  rw [if_neg (show ¬ (1 + d = 0) by omega)]
  unfold partA
  by_cases h0 : 0 ≤ a ∧ a ≤ 1125899906842624
  · by_cases h1 : n < 1 ∨ w < 0 ∨ w > n
    · simp [h0, h1]
    · have g1 := part_le (a := a) (w := w) (n := n) h0.1 (by omega) (by omega) (by omega)
      have c1 : ¬ (n < 1 ∨ n < 0 ∨ n > n) := by omega
      have c2 : ¬ (n < 1 ∨ (0 : Int) < 0 ∨ 0 > n) := by omega
      have t0 : 0 ≤ a / (1 + d) := Int.ediv_nonneg h0.1 (by omega)
      have t1 : a / (1 + d) ≤ a := Int.ediv_le_self _ h0.1
      have t2 : wrap64 (a - wrap64 (Int.tdiv a (1 + d))) = a - a / (1 + d) := by
        rw [Int.tdiv_eq_ediv_of_nonneg h0.1, wrap_of (a / (1 + d)) (by omega) (by omega), wrap_of _ (by omega) (by omega)]
      have f1 : a * n / n = a := Int.mul_ediv_cancel _ (by omega)
      have f2 : a * 0 / n = 0 := by rw [Int.mul_zero, Int.zero_ediv]
      have f3 : (a - a / (1 + d)) * w / n ≤ a * w / n := Int.ediv_le_ediv (by omega) (Int.mul_le_mul_of_nonneg_right (by omega) (by omega))
      have c3 : 0 ≤ a - a / (1 + d) ∧ a - a / (1 + d) ≤ 1125899906842624 := by omega
      simp only [h0, h1, c1, c2, t2, c3, f1, f2, f3, not_true_eq_false, and_self, if_true, if_false]
      simp [g1]
  · simp [h0]

end Go.Proofs.Ytkmngemohhncaaa.Pure
