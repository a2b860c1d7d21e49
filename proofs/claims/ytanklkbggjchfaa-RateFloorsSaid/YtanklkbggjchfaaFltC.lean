/- Which floats may be, and how they stand to each other. -/
import Derived.Test.YtanklkbggjchfaaFltB
namespace Flt
open Ieee

theorem ex_le {x : Nat} (h : x < inf) : ex x ≤ 2045 := by unfold ex; unfold inf at h; omega
theorem val_lt {x y : Nat} (h : x < y) : val x < val y := by
  unfold val mag ex
  by_cases hy : y < 4503599627370496
  · rw [if_pos hy, if_pos (by omega), show x / 4503599627370496 - 1 = 0 by omega, show y / 4503599627370496 - 1 = 0 by omega]
    simpa using h
  · rw [if_neg hy]
    obtain ⟨b, hb⟩ : ∃ b, y / 4503599627370496 = b + 1 := ⟨y / 4503599627370496 - 1, by omega⟩
    rw [hb, Nat.add_sub_cancel]
    have hp : 0 < 2 ^ b := Nat.pos_of_ne_zero (by simp)
    by_cases hx : x < 4503599627370496
    · rw [if_pos hx, show x / 4503599627370496 - 1 = 0 by omega, Nat.pow_zero, Nat.mul_one]
      calc x < 4503599627370496 + y % 4503599627370496 := by omega
        _ ≤ _ := Nat.le_mul_of_pos_right _ hp
    · rw [if_neg hx]
      obtain ⟨a, ha⟩ : ∃ a, x / 4503599627370496 = a + 1 := ⟨x / 4503599627370496 - 1, by omega⟩
      rw [ha, Nat.add_sub_cancel]
      rcases Nat.lt_or_ge a b with hab | hab
      · obtain ⟨d, rfl⟩ : ∃ d, b = a + 1 + d := ⟨b - (a + 1), by omega⟩
        rw [Nat.pow_add, Nat.pow_succ, ← Nat.mul_assoc, ← Nat.mul_assoc]
        have h1 : (4503599627370496 + x % 4503599627370496) * 2 ^ a < (4503599627370496 + y % 4503599627370496) * 2 ^ a * 2 := by
          rw [Nat.mul_right_comm]
          exact Nat.mul_lt_mul_of_pos_right (by omega) (Nat.pos_of_ne_zero (by simp))
        exact Nat.lt_of_lt_of_le h1 (Nat.le_mul_of_pos_right _ (Nat.pos_of_ne_zero (by simp)))
      · obtain rfl : a = b := by omega
        exact Nat.mul_lt_mul_of_pos_right (by omega) hp
theorem val_le {x y : Nat} (h : x ≤ y) : val x ≤ val y := by
  rcases Nat.lt_or_eq_of_le h with h | rfl
  · exact Nat.le_of_lt (val_lt h)
  · exact Nat.le_refl _
theorem order_words {x y : Nat} (hx : x < inf) (hy : y < inf) : double.order x y = some (compare x y) := by
  rw [order_pos hx hy]
  congr 1
  rcases Nat.lt_trichotomy x y with h | h | h
  · rw [Nat.compare_eq_lt.2 h, Nat.compare_eq_lt.2 (val_lt h)]
  · subst h; rw [Nat.compare_eq_eq.2 rfl, Nat.compare_eq_eq.2 rfl]
  · rw [Nat.compare_eq_gt.2 h, Nat.compare_eq_gt.2 (val_lt h)]

/-- The float is a number from 0 on, of either sign. -/
def may (x : Nat) : Bool := decide (x < inf) || x == 9223372036854775808
theorem may_iff (x : Nat) : may x = true ↔ x < inf ∨ x = 9223372036854775808 := by simp [may]

theorem zero_read : double.read 0 = .number false 0 (-1074) := read_pos (by decide)
theorem nz_read : double.read 9223372036854775808 = .number true 0 (-1074) := by decide
theorem big_read : double.read 9218868437227405311 = .number false 9007199254740991 971 := by
  rw [read_pos (by decide)]; decide
/-- 'f >= 0' and 'f <= the greatest': the two orders. -/
theorem order_may {x : Nat} (h : may x = true) : (double.order x 0 = some .gt ∨ double.order x 0 = some .eq) ∧ (double.order x 9218868437227405311 = some .lt ∨ double.order x 9218868437227405311 = some .eq) ∧ double.order x x = some .eq := by
  rcases (may_iff x).1 h with h | rfl
  · rw [order_words h (by decide), order_words h (by decide), order_words h h]
    refine ⟨?_, ?_, by rw [Nat.compare_eq_eq.2 rfl]⟩
    · rcases Nat.eq_zero_or_pos x with rfl | h0
      · exact .inr (by rw [Nat.compare_eq_eq.2 rfl])
      · exact .inl (by rw [Nat.compare_eq_gt.2 h0])
    · rcases Nat.lt_or_ge x 9218868437227405311 with h1 | h1
      · exact .inl (by rw [Nat.compare_eq_lt.2 h1])
      · have : x = 9218868437227405311 := by unfold inf at h; omega
        exact .inr (by rw [Nat.compare_eq_eq.2 this])
  · unfold Format.order
    rw [nz_read, zero_read, big_read]
    decide
/-- Of the others the one, or the other, is not so. -/
theorem order_maynot {x : Nat} (hx : x < 18446744073709551616) (h : may x = false) :
    (double.order x 0 = none ∨ double.order x 0 = some .lt) ∨ (double.order x 0 = some .gt ∧ double.order x 9218868437227405311 = some .gt) := by
  have h1 : ¬ x < inf ∧ x ≠ 9223372036854775808 := by
    constructor
    · intro h2; rw [(may_iff x).2 (.inl h2)] at h; cases h
    · intro h2; rw [(may_iff x).2 (.inr h2)] at h; cases h
  unfold Format.order
  rw [zero_read, big_read]
  have e : double.read x = (if x % 9223372036854775808 < 4503599627370496 then .number (x / 9223372036854775808 % 2 == 1) (x % 9223372036854775808) (-1074)
      else if x % 9223372036854775808 < 9218868437227405312 then .number (x / 9223372036854775808 % 2 == 1) (4503599627370496 + x % 9223372036854775808 % 4503599627370496) (-1074 + (x % 9223372036854775808 / 4503599627370496 - 1 : Nat))
      else if x % 9223372036854775808 = 9218868437227405312 then .infinity (x / 9223372036854775808 % 2 == 1) else .nan (x / 9223372036854775808 % 2 == 1) (x % 9223372036854775808 - 9218868437227405312)) := by
    unfold Format.read
    rw [sign_eq, binade_eq, inf_eq, least_eq]
    rfl
  rw [e]
  unfold inf at h1
  have hneg : ∀ (m : Nat) (i : Int), 0 < m → Datum.order (.number true m i) (.number false 0 (-1074)) = some .lt := by
    intro m i hm
    unfold Datum.order signed
    simp only [if_true, Bool.false_eq_true, if_false]
    congr 1
    refine Int.compare_eq_lt.2 ?_
    have : 0 < m <<< (i - min i (-1074)).toNat := by rw [Nat.shiftLeft_eq]; exact Nat.mul_pos hm (Nat.pos_of_ne_zero (by simp))
    simp only [Nat.zero_shiftLeft]
    omega
  by_cases hs : x < 9223372036854775808
  · rw [show x / 9223372036854775808 = 0 by omega, show x % 9223372036854775808 = x by omega, if_neg (by omega), if_neg (by omega)]
    split
    · exact .inr ⟨rfl, rfl⟩
    · exact .inl (.inl rfl)
  · left
    rw [show x / 9223372036854775808 = 1 by omega]
    split
    · exact .inr (hneg _ _ (by omega))
    · split
      · exact .inr (hneg _ _ (by omega))
      · split
        · exact .inr rfl
        · exact .inl rfl
/-- Nought, of either sign. -/
theorem order_zero {x : Nat} (h : may x = true) : double.order x 0 = some .eq ↔ x = 0 ∨ x = 9223372036854775808 := by
  rcases (may_iff x).1 h with h | rfl
  · rw [order_words h (by decide)]
    constructor
    · intro h2; injection h2 with h2; exact .inl (Nat.compare_eq_eq.1 h2)
    · rintro (rfl | rfl)
      · rw [Nat.compare_eq_eq.2 rfl]
      · unfold inf at h; omega
  · unfold Format.order
    rw [nz_read, zero_read]
    decide
end Flt
