/- What purse.Part answers: the amount times the part by the whole, rounded down, or its fault. -/
import Derived.Test.YtbjelaocihjhgaaPAx3
import Derived.Test.YtbjelaocihjhgaaPAx8
import Derived.Test.YtbjelaocihjhgaaPureDiv
import Derived.OpenShut
namespace Go.Proofs.Ytbjelaocihjhgaa.Pure
open Go.RowKit Go.Proofs.Ytbjelaocihjhgaa.PA Go.Proofs.YtbjelaocihjhgaaW.PrintWords Go.Proofs.YtbjelaocihjhgaaW.PrintLast

theorem right_eq (a : Int) : purse_Right.f a = some (decide (-1125899906842624 ≤ a ∧ a ≤ 1125899906842624)) := by
  unfold purse_Right.f
  by_cases h : a ≥ (-1125899906842624) <;> simp [h]
/-- The guards and the answer of a part. -/
def partA (a w n : Int) : Int × Int :=
  if ¬ (0 ≤ a ∧ a ≤ 1125899906842624) then (0, 9) else if n < 1 ∨ w < 0 ∨ w > n then (0, 1) else (a * w / n, 0)

theorem part_le {a w n : Int} (ha : 0 ≤ a) (hw : 0 ≤ w) (hwn : w ≤ n) (hn : 1 ≤ n) : 0 ≤ a * w / n ∧ a * w / n ≤ a := by
  constructor
  · exact Int.ediv_nonneg (Int.mul_nonneg ha hw) (by omega)
  · have h1 : a * w ≤ a * n := Int.mul_le_mul_of_nonneg_left hwn ha
    have h2 := Int.ediv_le_ediv (show 0 < n by omega) h1
    rwa [Int.mul_ediv_cancel _ (by omega)] at h2

theorem part_f (k : Nat) (hk : 22 ≤ k) (a w n : Int) (hw : w ≤ 9223372036854775807) (hn : n ≤ 9223372036854775807) : purse_Part.f k a w n = some (partA a w n) := by
  obtain ⟨k, rfl⟩ : ∃ m, k = m + 2 := ⟨k - 2, by omega⟩
  have hdiv : 0 ≤ a → a ≤ 1125899906842624 → 1 ≤ n → 0 ≤ w → w ≤ n → purse_Part.j1 (k + 1) a w n false = some (a * w / n, 0) := by
    intro h0 h1 h2 h3 h4
    simp only [purse_Part.j1]
    rw [if_neg (by decide), u64w (a := a) h0 (by omega), u64w (a := w) h3 (by omega), u64w (a := n) (by omega) (by omega), mul_f a w h0 (by omega) h3 (by omega)]
    simp only [Option.bind_some]
    obtain ⟨A, rfl⟩ := Int.eq_ofNat_of_zero_le h0
    obtain ⟨W, rfl⟩ := Int.eq_ofNat_of_zero_le h3
    obtain ⟨N, rfl⟩ := Int.eq_ofNat_of_zero_le (show 0 ≤ n by omega)
    have hAW : A * W < N * 18446744073709551616 := by
      have e1 : A * W ≤ A * N := Nat.mul_le_mul_left A (by omega)
      have e2 : A * N < 18446744073709551616 * N := Nat.mul_lt_mul_of_pos_right (by omega) (by omega)
      omega
    have eh : (A : Int) * (W : Int) / 18446744073709551616 = ((A * W / 18446744073709551616 : Nat) : Int) := by simp
    have el : (A : Int) * (W : Int) % 18446744073709551616 = ((A * W % 18446744073709551616 : Nat) : Int) := by simp
    rw [eh, el]
    obtain ⟨z, hz⟩ := div_f (A * W / 18446744073709551616) (A * W % 18446744073709551616) N (by omega) (by omega) (by omega) k (by omega)
    rw [hz]
    simp only [Option.bind_some]
    have e3 : A * W / 18446744073709551616 * 18446744073709551616 + A * W % 18446744073709551616 = A * W := by omega
    rw [e3]
    have hb := part_le (a := (A : Int)) (w := (W : Int)) (n := (N : Int)) h0 h3 h4 h2
    have e4 : ((A * W / N : Nat) : Int) = (A : Int) * (W : Int) / (N : Int) := by simp
    rw [e4, wrap_of _ (by omega) (by omega)]
  unfold purse_Part.f partA
  by_cases h0 : a < 0
  · rw [if_pos h0, if_pos (by omega)]
    simp only [purse_Part.j0, if_true]
  · rw [if_neg h0, right_eq]
    simp only [Option.bind_some]
    by_cases h1 : a ≤ 1125899906842624
    · rw [decide_eq_true (by omega), if_neg (by omega)]
      simp only [purse_Part.j0]
      rw [if_neg (by decide)]
      by_cases h2 : n < 1
      · rw [if_pos h2, if_pos (by omega)]
        simp only [purse_Part.j1, if_true]
      · rw [if_neg h2]
        by_cases h3 : w < 0
        · rw [if_pos h3, if_pos (by omega)]
          simp only [purse_Part.j1, if_true]
        · rw [if_neg h3]
          by_cases h4 : w > n
          · rw [if_pos (by omega), decide_eq_true h4]
            simp only [purse_Part.j1, if_true]
          · rw [if_neg (by omega), decide_eq_false h4, hdiv (by omega) h1 (by omega) (by omega) (by omega)]
    · rw [decide_eq_false (by omega), if_pos (by omega)]
      simp only [purse_Part.j0]
      rw [if_pos (by decide)]

end Go.Proofs.Ytbjelaocihjhgaa.Pure
