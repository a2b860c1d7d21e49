/- Sums and differences of two amounts are told just as far as there can be so much. No condition: every two 64-bit numbers. -/
import Derived.Test.YtkmngemohhncaaaPAx15
import Derived.OpenShut
namespace Go.Proofs.Ytkmngemohhncaaa.Pure
open Go.RowKit Go.Proofs.Ytkmngemohhncaaa.PA Go.Proofs.YtkmngemohhncaaaW.PrintWords Go.Proofs.YtkmngemohhncaaaW.PrintLast

theorem right_eq (a : Int) : purse_Right.f a = some (decide (-1125899906842624 ≤ a ∧ a ≤ 1125899906842624)) := by
  unfold purse_Right.f
  by_cases h : a ≥ (-1125899906842624) <;> simp [h]
theorem lright_eq (a : Int) : paybooklaw03_right.f a = some (decide (-1125899906842624 ≤ a ∧ a ≤ 1125899906842624)) := by
  unfold paybooklaw03_right.f
  by_cases h : a ≥ (-1125899906842624) <;> simp [h]
theorem awake_10 : paybooklaw03_awake.f 10 = some true := by kernel_rfl
theorem wrap_of (a : Int) (h0 : -9223372036854775808 ≤ a) (h1 : a ≤ 9223372036854775807) : wrap64 a = a := by unfold wrap64; omega
theorem add_eq (a b : Int) : purse_Add.f a b = some (if (-1125899906842624 ≤ a ∧ a ≤ 1125899906842624) ∧ (-1125899906842624 ≤ b ∧ b ≤ 1125899906842624) ∧ (-1125899906842624 ≤ a + b ∧ a + b ≤ 1125899906842624) then (a + b, 0) else (0, 9)) := by
  unfold purse_Add.f
  simp only [right_eq, Option.bind_some, decide_eq_true_eq]
  by_cases h1 : -1125899906842624 ≤ a ∧ a ≤ 1125899906842624
  · rw [if_pos h1]
    by_cases h2 : -1125899906842624 ≤ b ∧ b ≤ 1125899906842624
    · rw [if_pos h2, wrap_of (a + b) (by omega) (by omega)]
      by_cases h3 : -1125899906842624 ≤ a + b ∧ a + b ≤ 1125899906842624
      · rw [if_pos h3, if_pos ⟨h1, h2, h3⟩]
      · rw [if_neg h3, if_neg (fun h => h3 h.2.2)]
    · rw [if_neg h2, if_neg (fun h => h2 h.2.1)]
  · rw [if_neg h1, if_neg (fun h => h1 h.1)]
theorem less_eq (a b : Int) : purse_Less.f a b = some (if (-1125899906842624 ≤ a ∧ a ≤ 1125899906842624) ∧ (-1125899906842624 ≤ b ∧ b ≤ 1125899906842624) ∧ (-1125899906842624 ≤ a - b ∧ a - b ≤ 1125899906842624) then (a - b, 0) else (0, 9)) := by
  unfold purse_Less.f
  simp only [right_eq, Option.bind_some, decide_eq_true_eq]
  by_cases h2 : -1125899906842624 ≤ b ∧ b ≤ 1125899906842624
  · rw [if_pos h2, wrap_of (-b) (by omega) (by omega), add_eq]
    simp only [Option.bind_some]
    by_cases h1 : -1125899906842624 ≤ a ∧ a ≤ 1125899906842624
    · by_cases h3 : -1125899906842624 ≤ a - b ∧ a - b ≤ 1125899906842624
      · rw [if_pos ⟨h1, by omega, by omega⟩, if_pos ⟨h1, h2, h3⟩]
        simp only [Option.some.injEq, Prod.mk.injEq, and_true]; omega
      · rw [if_neg (fun h => h3 h.2.2), if_neg (fun h => h3 (by omega))]
    · rw [if_neg (fun h => h1 h.1), if_neg (fun h => h1 h.1)]
  · rw [if_neg h2, if_neg (fun h => h2 h.2.1)]

set_option maxRecDepth 100000 in
theorem PurseAdds : paybooklaw03_PurseAdds.Pure := by
  intro a b ha hb
  refine ⟨12, ?_⟩
  unfold paybooklaw03_PurseAdds.f
  simp only [add_eq, less_eq, lright_eq, Option.bind_some, paybooklaw03_PurseAdds.j0, paybooklaw03_PurseAdds.j1, awake_10, right_eq, decide_eq_true_eq, if_true]
  by_cases h1 : -1125899906842624 ≤ a ∧ a ≤ 1125899906842624
  · by_cases h2 : -1125899906842624 ≤ b ∧ b ≤ 1125899906842624
    · simp only [h1, h2, wrap_of (a + b) (by omega) (by omega), wrap_of (a - b) (by omega) (by omega)]
      by_cases h3 : -1125899906842624 ≤ a + b ∧ a + b ≤ 1125899906842624 <;> by_cases h4 : -1125899906842624 ≤ a - b ∧ a - b ≤ 1125899906842624 <;> simp [h3, h4]
    · simp [h1, h2]
  · simp [h1]

end Go.Proofs.Ytkmngemohhncaaa.Pure
