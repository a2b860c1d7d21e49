/- An amount taken so many times. -/
import Derived.Test.YtanklkbggjchfaaRateA
import Derived.LoopTactic
import Derived.Laws.MathBits
namespace Go.Proofs.Ytanklkbggjchfaa
open Go.RowKit
set_option linter.unusedVariables false
theorem or_high (u v : Int) (h0 : 0 ≤ u) (h1 : u < 4294967296) (h2 : 0 ≤ v) (h3 : v < 4294967296) : bits .or .u64 (u * 4294967296) v = u * 4294967296 + v := by
  obtain ⟨m, rfl⟩ := Int.eq_ofNat_of_zero_le h0
  obtain ⟨n, rfl⟩ := Int.eq_ofNat_of_zero_le h2
  have := bits_or_u64_nat (m * 4294967296) n (by omega) (by omega)
  rw [Int.natCast_mul, show ((4294967296 : Nat) : Int) = 4294967296 from rfl] at this
  rw [this]
  have h : m * 4294967296 ||| n = m * 4294967296 + n := by
    have := Nat.two_pow_add_eq_or_of_lt (i := 32) (b := n) (by omega) m
    rw [show (2 : Nat) ^ 32 = 4294967296 from by decide, Nat.mul_comm 4294967296 m] at this
    exact this.symm
  rw [h]
  omega
theorem mul_end (a b : Int) (ha0 : 0 ≤ a) (ha : a ≤ 1125899906842624) (hb0 : 0 ≤ b) (hb : b < 9007199254740992) (t mid low hi lo : Int) (et : t = IntKind.u64.wrap (a % 4294967296 * (b % 4294967296)))
    (em : mid = IntKind.u64.wrap (IntKind.u64.wrap (a / 4294967296 * (b % 4294967296)) + t / 4294967296))
    (el : low = IntKind.u64.wrap (bits .and .u64 mid 4294967295 + IntKind.u64.wrap (a % 4294967296 * (b / 4294967296))))
    (eh : hi = IntKind.u64.wrap (IntKind.u64.wrap (IntKind.u64.wrap (a / 4294967296 * (b / 4294967296)) + mid / 4294967296) + low / 4294967296))
    (eo : lo = bits .or .u64 (IntKind.u64.wrap (low * 4294967296)) (bits .and .u64 t 4294967295)) :
    0 ≤ hi ∧ hi < 18446744073709551616 ∧ 0 ≤ lo ∧ lo < 18446744073709551616 ∧ hi * 18446744073709551616 + lo = a * b := by
  have ex : a = a / 4294967296 * 4294967296 + a % 4294967296 := by omega
  have ey : b = b / 4294967296 * 4294967296 + b % 4294967296 := by omega
  have hab : a * b = (a / 4294967296) * (b / 4294967296) * 18446744073709551616 + ((a / 4294967296) * (b % 4294967296) + (a % 4294967296) * (b / 4294967296)) * 4294967296 + (a % 4294967296) * (b % 4294967296) := by
    conv => lhs; rw [ex, ey]
    exact split_mul _ _ _ _
  rw [hab]
  have b1 : 0 ≤ a / 4294967296 ∧ a / 4294967296 ≤ 262144 := by omega
  have b2 : 0 ≤ a % 4294967296 ∧ a % 4294967296 ≤ 4294967295 := by omega
  have b3 : 0 ≤ b / 4294967296 ∧ b / 4294967296 ≤ 2097151 := by omega
  have b4 : 0 ≤ b % 4294967296 ∧ b % 4294967296 ≤ 4294967295 := by omega
  clear ex ey hab ha0 ha hb0 hb
  generalize a / 4294967296 = x1 at *
  generalize a % 4294967296 = x0 at *
  generalize b / 4294967296 = y1 at *
  generalize b % 4294967296 = y0 at *
  have pr : ∀ (p q P Q : Int), 0 ≤ p → p ≤ P → 0 ≤ q → q ≤ Q → 0 ≤ p * q ∧ p * q ≤ P * Q := fun p q P Q h1 h2 h3 h4 => ⟨Int.mul_nonneg h1 h3, Int.mul_le_mul h2 h4 h3 (by omega)⟩
  have pA := pr x1 y1 _ _ b1.1 b1.2 b3.1 b3.2
  have pB := pr x1 y0 _ _ b1.1 b1.2 b4.1 b4.2
  have pC := pr x0 y0 _ _ b2.1 b2.2 b4.1 b4.2
  have pD := pr x0 y1 _ _ b2.1 b2.2 b3.1 b3.2
  generalize x1 * y1 = A at *
  generalize x1 * y0 = B at *
  generalize x0 * y0 = C at *
  generalize x0 * y1 = D at *
  clear b1 b2 b3 b4 pr
  simp only [IntKind.wrap_u64] at et em el eh eo
  have t1 : t = C := by omega
  subst t1
  have m1 : mid = B + t / 4294967296 := by omega
  have g1 := and_low32 mid (by omega) (by omega)
  rw [g1] at el
  have l1 : low = mid % 4294967296 + D := by omega
  have g2 := and_low32 t (by omega) (by omega)
  have o1 : low * 4294967296 % 18446744073709551616 = low % 4294967296 * 4294967296 := by omega
  rw [g2, o1, or_high _ _ (by omega) (by omega) (by omega) (by omega)] at eo
  have h1 : hi = A + mid / 4294967296 + low / 4294967296 := by omega
  clear et em el eh g1 g2 o1
  omega
theorem mul_any (a b : Int) (w : World) (ha0 : 0 ≤ a) (ha : a ≤ 1125899906842624) (hb0 : 0 ≤ b) (hb : b < 9007199254740992) : Calls Try.prog 19 #[.int .u64 a, .int .u64 b] w fun e w' => ∃ hi lo : Int, e = .returned (.tuple #[.int .u64 hi, .int .u64 lo]) ∧ w' = w ∧ 0 ≤ hi ∧ hi < 18446744073709551616 ∧ 0 ≤ lo ∧ lo < 18446744073709551616 ∧ hi * 18446744073709551616 + lo = a * b := by
  have g1 := and_low32 a ha0 (by omega)
  have g2 := and_low32 b hb0 (by omega)
  go_enter Try.func19, Try.ntmps19
  go_wp2
  go_ret2
  exact ⟨_, _, rfl, rfl, mul_end a b ha0 ha hb0 hb _ _ _ _ _ rfl rfl rfl rfl rfl⟩
/-- What comes of an amount, taken so many times: the parts of 2 to the -1074 that a float has. -/
def tim (a x : Nat) : Nat := a * Flt.val x / Flt.two 1074
theorem two_add (a b : Nat) : Flt.two (a + b) = Flt.two a * Flt.two b := Nat.pow_add 2 a b
theorem two_pos (a : Nat) : 0 < Flt.two a := Nat.pos_of_ne_zero (by unfold Flt.two; simp)
theorem tim_neg {a x m : Nat} {e : Int} (h : Whole x m e) (n : Nat) (hn : e = -(n : Int)) : a * m / Flt.two n = tim a x := by
  unfold tim
  have he : m * Flt.two (e + 1126).toNat = Flt.val x * Flt.two 52 := h.eq
  generalize hr : (e + 1126).toNat = r at he
  have hlo := h.lo
  have hnr : n + r = 1074 + 52 := by omega
  have h1 : a * m / Flt.two n = a * m * Flt.two r / (Flt.two n * Flt.two r) := (Nat.mul_div_mul_right _ _ (two_pos _)).symm
  rw [h1, Nat.mul_assoc, he, ← two_add, hnr, two_add, ← Nat.mul_assoc]
  exact Nat.mul_div_mul_right _ _ (two_pos _)
theorem tim_pos {a x m : Nat} {e : Int} (h : Whole x m e) (n : Nat) (hn : e = (n : Int)) : a * m * Flt.two n = tim a x := by
  unfold tim
  have he : m * Flt.two (e + 1126).toNat = Flt.val x * Flt.two 52 := h.eq
  rw [show (e + 1126).toNat = n + 1074 + 52 by omega, two_add, ← Nat.mul_assoc] at he
  have h2 := Nat.eq_of_mul_eq_mul_right (two_pos _) he
  rw [← h2, two_add, ← Nat.mul_assoc, ← Nat.mul_assoc]
  exact (Nat.mul_div_cancel _ (two_pos _)).symm
/-- A step to the right, of two words. -/
theorem shr_step (hi lo : Int) (h0 : 0 ≤ hi) (h1 : hi < 18446744073709551616) (h2 : 0 ≤ lo) (h3 : lo < 18446744073709551616) (k : Int) (hk : k = bits .or .u64 (lo / 2) (IntKind.u64.wrap (hi * 9223372036854775808))) :
    0 ≤ k ∧ k < 18446744073709551616 ∧ hi / 2 * 18446744073709551616 + k = (hi * 18446744073709551616 + lo) / 2 := by
  have e1 : IntKind.u64.wrap (hi * 9223372036854775808) = hi % 2 * 9223372036854775808 := by rw [IntKind.wrap_u64]; omega
  rw [e1] at hk
  obtain ⟨m, hm⟩ := Int.eq_ofNat_of_zero_le (show 0 ≤ lo / 2 by omega)
  obtain ⟨n, hn⟩ := Int.eq_ofNat_of_zero_le (show 0 ≤ hi % 2 by omega)
  have := bits_or_u64_nat m (n * 9223372036854775808) (by omega) (by omega)
  rw [Int.natCast_mul, show ((9223372036854775808 : Nat) : Int) = 9223372036854775808 from rfl, ← hn, ← hm] at this
  rw [this] at hk
  have h : m ||| n * 9223372036854775808 = n * 9223372036854775808 + m := by
    have := Nat.two_pow_add_eq_or_of_lt (i := 63) (b := m) (by omega) n
    rw [show (2 : Nat) ^ 63 = 9223372036854775808 from by decide, Nat.mul_comm 9223372036854775808 n] at this
    rw [Nat.or_comm]
    exact this.symm
  rw [h] at hk
  omega
end Go.Proofs.Ytanklkbggjchfaa
