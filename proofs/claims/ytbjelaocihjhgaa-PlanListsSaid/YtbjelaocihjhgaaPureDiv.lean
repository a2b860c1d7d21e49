/- What the product and the quotient of math/bits come to. Each number lies from 0 to 2^64 - 1. -/
import Derived.Test.YtbjelaocihjhgaaPAx4
import Derived.Test.YtbjelaocihjhgaaPAx5
import Derived.Test.YtbjelaocihjhgaaPAx6
import Derived.Test.YtbjelaocihjhgaaPAx7
import Derived.Laws.MathBits
import Derived.Laws.Bits64
import Derived.Laws.BitsAllLaws
import Derived.OpenShut
namespace Go.Proofs.Ytbjelaocihjhgaa.Pure
open Go.RowKit Go.Proofs.Ytbjelaocihjhgaa.PA Go.Proofs.YtbjelaocihjhgaaW.PrintWords Go.Proofs.YtbjelaocihjhgaaW.PrintLast Go.Proofs.YtbjelaocihjhgaaW.PrintMore
set_option maxRecDepth 20000

theorem wrap_of (a : Int) (h0 : -9223372036854775808 ≤ a) (h1 : a ≤ 9223372036854775807) : wrap64 a = a := by unfold wrap64; omega
theorem prod_lt {a b : Int} (ha0 : 0 ≤ a) (ha : a ≤ 4294967295) (hb0 : 0 ≤ b) (hb : b ≤ 4294967295) : 0 ≤ a * b ∧ a * b ≤ 18446744065119617025 := by
  obtain ⟨A, rfl⟩ := Int.eq_ofNat_of_zero_le ha0
  obtain ⟨B, rfl⟩ := Int.eq_ofNat_of_zero_le hb0
  have h : A * B ≤ 4294967295 * 4294967295 := Nat.mul_le_mul (by omega) (by omega)
  have e : (A : Int) * (B : Int) = ((A * B : Nat) : Int) := by simp
  omega
theorem split_int (x1 x0 y1 y0 : Int) : (x1 * 4294967296 + x0) * (y1 * 4294967296 + y0) = x1 * y1 * 18446744073709551616 + (x1 * y0 + x0 * y1) * 4294967296 + x0 * y0 := by
  rw [Int.add_mul, Int.mul_add, Int.mul_add, Int.add_mul]
  rw [show x1 * 4294967296 * (y1 * 4294967296) = x1 * y1 * 18446744073709551616 by rw [Int.mul_assoc, Int.mul_left_comm 4294967296, ← Int.mul_assoc]; omega]
  rw [show x1 * 4294967296 * y0 = x1 * y0 * 4294967296 by rw [Int.mul_right_comm], show x0 * (y1 * 4294967296) = x0 * y1 * 4294967296 by rw [Int.mul_assoc]]
  omega
theorem mul_f (a b : Int) (ha0 : 0 ≤ a) (ha : a < 18446744073709551616) (hb0 : 0 ≤ b) (hb : b < 18446744073709551616) :
    bits_Mul64.f a b = some (a * b / 18446744073709551616, a * b % 18446744073709551616) := by
  unfold bits_Mul64.f
  rw [and_low32 a ha0 ha, and_low32 b hb0 hb]
  have e : a * b = (a / 4294967296 * 4294967296 + a % 4294967296) * (b / 4294967296 * 4294967296 + b % 4294967296) := by
    rw [show a / 4294967296 * 4294967296 + a % 4294967296 = a by omega, show b / 4294967296 * 4294967296 + b % 4294967296 = b by omega]
  rw [split_int] at e
  have p1 := prod_lt (a := a / 4294967296) (b := b / 4294967296) (by omega) (by omega) (by omega) (by omega)
  have p2 := prod_lt (a := a / 4294967296) (b := b % 4294967296) (by omega) (by omega) (by omega) (by omega)
  have p3 := prod_lt (a := a % 4294967296) (b := b / 4294967296) (by omega) (by omega) (by omega) (by omega)
  have p4 := prod_lt (a := a % 4294967296) (b := b % 4294967296) (by omega) (by omega) (by omega) (by omega)
  have hab0 : 0 ≤ a * b := Int.mul_nonneg ha0 hb0
  generalize a / 4294967296 * (b / 4294967296) = P at *
  generalize a / 4294967296 * (b % 4294967296) = Q at *
  generalize a % 4294967296 * (b / 4294967296) = R at *
  generalize a % 4294967296 * (b % 4294967296) = S at *
  generalize a * b = M at *
  simp only [IntKind.wrap_u64]
  have hS : S % 18446744073709551616 = S := by omega
  have hQ : Q % 18446744073709551616 = Q := by omega
  have hP : P % 18446744073709551616 = P := by omega
  have hR : R % 18446744073709551616 = R := by omega
  rw [hS, hQ, hP, hR]
  have hm : (Q + S / 4294967296) % 18446744073709551616 = Q + S / 4294967296 := by omega
  rw [hm]
  have hmid0 : 0 ≤ Q + S / 4294967296 := by omega
  rw [and_low32 (Q + S / 4294967296) hmid0 (by omega)]
  simp only [Option.some.injEq, Prod.mk.injEq, and_true]
  omega

/-! ### how many bits -/
def len8 (i : Int) : Int := bt (⟨#[0, 1, 2, 2, 3, 3, 3, 3, 4, 4, 4, 4, 4, 4, 4, 4, 5, 5, 5, 5, 5, 5, 5, 5, 5, 5, 5, 5, 5, 5, 5, 5, 6, 6, 6, 6, 6, 6, 6, 6, 6, 6, 6, 6, 6, 6, 6, 6, 6, 6, 6, 6, 6, 6, 6, 6, 6, 6, 6, 6, 6, 6, 6, 6, 7, 7, 7, 7, 7, 7, 7, 7, 7, 7, 7, 7, 7, 7, 7, 7, 7, 7, 7, 7, 7, 7, 7, 7, 7, 7, 7, 7, 7, 7, 7, 7, 7, 7, 7, 7, 7, 7, 7, 7, 7, 7, 7, 7, 7, 7, 7, 7, 7, 7, 7, 7, 7, 7, 7, 7, 7, 7, 7, 7, 7, 7, 7, 7, 8, 8, 8, 8, 8, 8, 8, 8, 8, 8, 8, 8, 8, 8, 8, 8, 8, 8, 8, 8, 8, 8, 8, 8, 8, 8, 8, 8, 8, 8, 8, 8, 8, 8, 8, 8, 8, 8, 8, 8, 8, 8, 8, 8, 8, 8, 8, 8, 8, 8, 8, 8, 8, 8, 8, 8, 8, 8, 8, 8, 8, 8, 8, 8, 8, 8, 8, 8, 8, 8, 8, 8, 8, 8, 8, 8, 8, 8, 8, 8, 8, 8, 8, 8, 8, 8, 8, 8, 8, 8, 8, 8, 8, 8, 8, 8, 8, 8, 8, 8, 8, 8, 8, 8, 8, 8, 8, 8, 8, 8, 8, 8, 8, 8, 8, 8, 8, 8, 8, 8, 8, 8, 8, 8, 8, 8, 8, 8]⟩ : ByteArray) i
theorem len8_nat : ∀ i : Nat, i < 256 → 0 < i → ∃ n : Nat, len8 (i : Int) = (n : Int) ∧ 1 ≤ n ∧ n ≤ 8 ∧ 2 ^ (n - 1) ≤ i ∧ i < 2 ^ n := by
  have h : ∀ i : Nat, i < 256 → 0 < i → 1 ≤ (len8 (i : Int)).toNat ∧ (len8 (i : Int)).toNat ≤ 8 ∧ 0 ≤ len8 (i : Int) ∧ 2 ^ ((len8 (i : Int)).toNat - 1) ≤ i ∧ i < 2 ^ (len8 (i : Int)).toNat := by decide +kernel
  intro i hi h0
  obtain ⟨h1, h2, h3, h4, h5⟩ := h i hi h0
  exact ⟨(len8 (i : Int)).toNat, by omega, h1, h2, h4, h5⟩
theorem len_f (y : Nat) (h0 : 0 < y) (hy : y < 18446744073709551616) (k : Nat) (hk : 1 ≤ k) : ∃ n : Nat, bits_Len64.f k (y : Int) = some (n : Int) ∧ 1 ≤ n ∧ n ≤ 64 ∧ 2 ^ (n - 1) ≤ y ∧ y < 2 ^ n := by
  obtain ⟨k, rfl⟩ : ∃ m, k = m + 1 := ⟨k - 1, by omega⟩
  have part : ∀ (z m : Nat), 0 < z → z < 4294967296 → m ≤ 32 → ∃ n : Nat, bits_Len64.j0 (k + 1) (z : Int) (m : Int) = some (((m + n : Nat)) : Int) ∧ 1 ≤ n ∧ n ≤ 32 ∧ 2 ^ (n - 1) ≤ z ∧ z < 2 ^ n := by
    intro z m hz0 hz hm
    simp only [bits_Len64.j0]
    by_cases h16 : (z : Int) ≥ 65536
    · rw [if_pos h16]
      by_cases h8 : (z : Int) / 65536 ≥ 256
      · obtain ⟨n, hn, h1, h2, h3, h4⟩ := len8_nat (z / 65536 / 256) (by omega) (by omega)
        rw [if_pos h8, show (z : Int) / 65536 / 256 % 256 = ((z / 65536 / 256 : Nat) : Int) by omega, if_pos (by omega), if_pos (by omega)]
        refine ⟨n + 24, ?_, by omega, by omega, ?_, ?_⟩
        · rw [show bt _ ((z / 65536 / 256 : Nat) : Int) = (n : Int) from hn]
          rw [wrap_of ((m : Int) + 16) (by omega) (by omega), wrap_of ((m : Int) + 16 + 8) (by omega) (by omega), wrap_of (n : Int) (by omega) (by omega), wrap_of _ (by omega) (by omega)]
          congr 1
          omega
        · rw [show n + 24 - 1 = (n - 1) + 24 by omega, Nat.pow_add]
          have : 2 ^ (n - 1) * 16777216 ≤ (z / 65536 / 256) * 16777216 := Nat.mul_le_mul_right _ h3
          omega
        · rw [Nat.pow_add]
          have : (z / 65536 / 256 + 1) * 16777216 ≤ 2 ^ n * 16777216 := Nat.mul_le_mul_right _ h4
          omega
      · obtain ⟨n, hn, h1, h2, h3, h4⟩ := len8_nat (z / 65536) (by omega) (by omega)
        rw [if_neg h8, show (z : Int) / 65536 % 256 = ((z / 65536 : Nat) : Int) by omega, if_pos (by omega), if_pos (by omega)]
        refine ⟨n + 16, ?_, by omega, by omega, ?_, ?_⟩
        · rw [show bt _ ((z / 65536 : Nat) : Int) = (n : Int) from hn]
          rw [wrap_of ((m : Int) + 16) (by omega) (by omega), wrap_of (n : Int) (by omega) (by omega), wrap_of _ (by omega) (by omega)]
          congr 1
          omega
        · rw [show n + 16 - 1 = (n - 1) + 16 by omega, Nat.pow_add]
          have : 2 ^ (n - 1) * 65536 ≤ (z / 65536) * 65536 := Nat.mul_le_mul_right _ h3
          omega
        · rw [Nat.pow_add]
          have : (z / 65536 + 1) * 65536 ≤ 2 ^ n * 65536 := Nat.mul_le_mul_right _ h4
          omega
    · rw [if_neg h16]
      by_cases h8 : (z : Int) ≥ 256
      · obtain ⟨n, hn, h1, h2, h3, h4⟩ := len8_nat (z / 256) (by omega) (by omega)
        rw [if_pos h8, show (z : Int) / 256 % 256 = ((z / 256 : Nat) : Int) by omega, if_pos (by omega), if_pos (by omega)]
        refine ⟨n + 8, ?_, by omega, by omega, ?_, ?_⟩
        · rw [show bt _ ((z / 256 : Nat) : Int) = (n : Int) from hn]
          rw [wrap_of ((m : Int) + 8) (by omega) (by omega), wrap_of (n : Int) (by omega) (by omega), wrap_of _ (by omega) (by omega)]
          congr 1
          omega
        · rw [show n + 8 - 1 = (n - 1) + 8 by omega, Nat.pow_add]
          have : 2 ^ (n - 1) * 256 ≤ (z / 256) * 256 := Nat.mul_le_mul_right _ h3
          omega
        · rw [Nat.pow_add]
          have : (z / 256 + 1) * 256 ≤ 2 ^ n * 256 := Nat.mul_le_mul_right _ h4
          omega
      · obtain ⟨n, hn, h1, h2, h3, h4⟩ := len8_nat z (by omega) (by omega)
        rw [if_neg h8, show (z : Int) % 256 = (z : Int) by omega, if_pos (by omega), if_pos (by omega)]
        refine ⟨n, ?_, by omega, by omega, h3, h4⟩
        rw [show bt _ (z : Int) = (n : Int) from hn]
        rw [wrap_of (n : Int) (by omega) (by omega), wrap_of _ (by omega) (by omega)]
        congr 1
  unfold bits_Len64.f
  by_cases h32 : (y : Int) ≥ 4294967296
  · rw [if_pos h32]
    obtain ⟨n, hn, h1, h2, h3, h4⟩ := part (y / 4294967296) 32 (by omega) (by omega) (by omega)
    refine ⟨32 + n, ?_, by omega, by omega, ?_, ?_⟩
    · rw [show (y : Int) / 4294967296 = ((y / 4294967296 : Nat) : Int) by omega]
      exact hn
    · rw [show 32 + n - 1 = (n - 1) + 32 by omega, Nat.pow_add]
      have : 2 ^ (n - 1) * 4294967296 ≤ (y / 4294967296) * 4294967296 := Nat.mul_le_mul_right _ h3
      omega
    · rw [Nat.add_comm, Nat.pow_add]
      have : (y / 4294967296 + 1) * 4294967296 ≤ 2 ^ n * 4294967296 := Nat.mul_le_mul_right _ h4
      omega
  · rw [if_neg h32]
    obtain ⟨n, hn, h1, h2, h3, h4⟩ := part y 0 h0 (by omega) (by omega)
    exact ⟨n, by simpa using hn, h1, by omega, h3, h4⟩

/-! ### a digit of the quotient -/
theorem quo_le {N Y q c : Int} (_hq : q * Y ≤ N) (hq2 : N < (q + 1) * Y) (hY : 0 < Y) (h : c * Y ≤ N) : c ≤ q := by
  refine Int.not_lt.1 fun hc => ?_
  have : (q + 1) * Y ≤ c * Y := Int.mul_le_mul_of_nonneg_right (by omega) (by omega)
  omega
theorem quo_gt {N Y q c : Int} (hq : q * Y ≤ N) (hY : 0 < Y) (h : N < c * Y) : q < c := by
  refine Int.not_le.1 fun hc => ?_
  have : c * Y ≤ q * Y := Int.mul_le_mul_of_nonneg_right hc (by omega)
  omega
section
variable {Y Y1 Y0 U d q : Int}
structure Digit (Y Y1 Y0 U d q : Int) : Prop where
  hY : Y = Y1 * 4294967296 + Y0
  hY1 : 2147483648 ≤ Y1 ∧ Y1 ≤ 4294967295
  hY0 : 0 ≤ Y0 ∧ Y0 ≤ 4294967295
  hU : 0 ≤ U ∧ U < Y
  hd : 0 ≤ d ∧ d ≤ 4294967295
  hq : q * Y ≤ U * 4294967296 + d
  hq2 : U * 4294967296 + d < (q + 1) * Y
  hq0 : 0 ≤ q
theorem Digit.pos (D : Digit Y Y1 Y0 U d q) : 0 < Y := by have := D.hY; have := D.hY1; have := D.hY0; omega
theorem Digit.small (D : Digit Y Y1 Y0 U d q) : q < 4294967296 := by
  refine quo_gt D.hq D.pos ?_
  have := D.hU
  have := D.hd
  omega
theorem Digit.times (D : Digit Y Y1 Y0 U d q) {c r : Int} (h : c * Y1 + r = U) : c * Y = U * 4294967296 - r * 4294967296 + c * Y0 := by
  have h1 := D.hY
  have h2 : c * Y = c * Y1 * 4294967296 + c * Y0 := by rw [h1, Int.mul_add, Int.mul_assoc]
  omega
theorem Digit.stop (D : Digit Y Y1 Y0 U d q) {c r : Int} (h : c * Y1 + r = U) (hc : q ≤ c) (ht : c * Y0 ≤ r * 4294967296 + d) : c = q := by
  have h1 := D.times h
  have := quo_le D.hq D.hq2 D.pos (c := c) (by omega)
  omega
theorem Digit.go (D : Digit Y Y1 Y0 U d q) {c r : Int} (h : c * Y1 + r = U) (ht : c * Y0 > r * 4294967296 + d) : q < c := by
  have h1 := D.times h
  exact quo_gt D.hq D.pos (by omega)
theorem Digit.last (D : Digit Y Y1 Y0 U d q) {c r : Int} (h : c * Y1 + r = U) (_hc0 : 0 ≤ c) (hc : q ≤ c) (hcB : c ≤ 4294967296) (hr : 4294967296 ≤ r) : c = q := by
  refine D.stop h hc ?_
  have h1 : c * Y0 ≤ 4294967296 * Y0 := Int.mul_le_mul_of_nonneg_right hcB D.hY0.1
  have := D.hY0
  have := D.hd
  omega
/-- The first guess is at most two too much. -/
theorem Digit.guess (D : Digit Y Y1 Y0 U d q) : q ≤ U / Y1 ∧ U / Y1 ≤ 4294967297 ∧ 0 ≤ U / Y1 ∧ U / Y1 * Y1 + (U - U / Y1 * Y1) = U ∧ 0 ≤ U - U / Y1 * Y1 ∧ U - U / Y1 * Y1 < Y1 := by
  have h1 := D.hY1
  have h2 := D.hY0
  have h3 := D.hU
  have h4 := D.hY
  have h5 := D.hd
  have hp : 0 < Y1 := by omega
  have e1 := Int.mul_ediv_add_emod U Y1
  have e2 := Int.emod_nonneg U (show Y1 ≠ 0 by omega)
  have e3 := Int.emod_lt_of_pos U hp
  rw [Int.mul_comm] at e1
  have hc0 : 0 ≤ U / Y1 := Int.ediv_nonneg h3.1 (by omega)
  refine ⟨?_, ?_, hc0, by omega, by omega, by omega⟩
  · -- q * Y1 * B ≤ q * Y ≤ U * B + d
    have h6 : q * Y = q * Y1 * 4294967296 + q * Y0 := by rw [h4, Int.mul_add, Int.mul_assoc]
    have h7 : 0 ≤ q * Y0 := Int.mul_nonneg D.hq0 h2.1
    have h8 := D.hq
    have h9 : q * Y1 ≤ U := by omega
    exact quo_le (N := U) (Y := Y1) (q := U / Y1) (by omega) (by rw [Int.add_mul]; omega) hp h9
  · have h6 : U / Y1 * Y1 < 4294967298 * Y1 := by omega
    refine Int.not_lt.1 fun hc => ?_
    have : 4294967298 * Y1 ≤ U / Y1 * Y1 := Int.mul_le_mul_of_nonneg_right (by omega) (by omega)
    omega
end
theorem u64w {a : Int} (h0 : 0 ≤ a) (h1 : a < 18446744073709551616) : IntKind.u64.wrap a = a := by rw [IntKind.wrap_u64]; omega

theorem loop0 {Y Y1 Y0 U d q : Int} (D : Digit Y Y1 Y0 U d q) (s e : Int) (n : Nat) : ∀ (k : Nat) (c r : Int), c * Y1 + r = U → 0 ≤ r → r < 4294967296 → q ≤ c → c ≤ 4294967297 → 4294967296 ≤ r + n * Y1 → 2 * n + 3 ≤ k →
    ∃ k', k ≤ k' + (2 * n + 2) ∧ bits_Div64.l0 k Y s Y1 Y0 U d e c r = bits_Div64.j2 k' Y s Y1 Y0 U d e q := by
  induction n with
  | zero => intro k c r _ _ _ _ _ h _; omega
  | succ n ih =>
    intro k c r h hr0 hr hc hcB hn hk
    obtain ⟨k, rfl⟩ : ∃ m, k = m + 2 := ⟨k - 2, by omega⟩
    have h1 := D.hY1
    have h0 := D.hY0
    have hd := D.hd
    have hq0 := D.hq0
    have hqs := D.small
    have hlin : ((n + 1 : Nat) : Int) * Y1 = (n : Int) * Y1 + Y1 := by rw [show ((n + 1 : Nat) : Int) = (n : Int) + 1 by omega, Int.add_mul, Int.one_mul]
    have yes : q < c → ∃ k', k + 2 ≤ k' + (2 * (n + 1) + 2) ∧ bits_Div64.j1 (k + 1) Y s Y1 Y0 U d e c r true = bits_Div64.j2 k' Y s Y1 Y0 U d e q := by
      intro hlt
      have h' : (c - 1) * Y1 + (r + Y1) = U := by rw [Int.sub_mul, Int.one_mul]; omega
      simp only [bits_Div64.j1]
      rw [if_pos True.intro, u64w (a := r + Y1) (by omega) (by omega), u64w (a := c - 1) (by omega) (by omega)]
      by_cases hb : r + Y1 ≥ 4294967296
      · rw [if_pos hb]
        have := D.last h' (by omega) (by omega) (by omega) hb
        exact ⟨k, by omega, by rw [this]⟩
      · rw [if_neg hb]
        obtain ⟨k', hk', e'⟩ := ih k (c - 1) (r + Y1) h' (by omega) (by omega) (by omega) (by omega) (by omega) (by omega)
        exact ⟨k', by omega, e'⟩
    simp only [bits_Div64.l0]
    by_cases hA : c ≥ 4294967296
    · rw [if_pos hA]
      exact yes (by omega)
    · rw [if_neg hA]
      have hp := prod_lt (a := c) (b := Y0) (by omega) (by omega) h0.1 h0.2
      rw [u64w (a := c * Y0) (by omega) (by omega), u64w (a := 4294967296 * r) (by omega) (by omega), u64w (a := 4294967296 * r + d) (by omega) (by omega)]
      by_cases hT : c * Y0 > 4294967296 * r + d
      · rw [decide_eq_true hT]
        exact yes (D.go h (by omega))
      · rw [decide_eq_false hT]
        have := D.stop h hc (by omega)
        simp only [bits_Div64.j1]
        rw [if_neg (by decide)]
        exact ⟨k, by omega, by rw [this]⟩
theorem loop1 {Y Y1 Y0 U d q : Int} (D : Digit Y Y1 Y0 U d q) (s e q1 : Int) (hs : 0 ≤ s) (n : Nat) : ∀ (k : Nat) (c r : Int), c * Y1 + r = U → 0 ≤ r → r < 4294967296 → q ≤ c → c ≤ 4294967297 → 4294967296 ≤ r + n * Y1 → 2 * n + 3 ≤ k →
    ∃ z, bits_Div64.l1 k Y s Y1 Y0 d q1 r e c = some (IntKind.u64.wrap (IntKind.u64.wrap (q1 * 4294967296) + q), z) := by
  induction n with
  | zero => intro k c r _ _ _ _ _ h _; omega
  | succ n ih =>
    intro k c r h hr0 hr hc hcB hn hk
    obtain ⟨k, rfl⟩ : ∃ m, k = m + 2 := ⟨k - 2, by omega⟩
    have h1 := D.hY1
    have h0 := D.hY0
    have hd := D.hd
    have hq0 := D.hq0
    have hqs := D.small
    have hlin : ((n + 1 : Nat) : Int) * Y1 = (n : Int) * Y1 + Y1 := by rw [show ((n + 1 : Nat) : Int) = (n : Int) + 1 by omega, Int.add_mul, Int.one_mul]
    have yes : q < c → ∃ z, bits_Div64.j4 (k + 1) Y s Y1 Y0 d q1 r e c true = some (IntKind.u64.wrap (IntKind.u64.wrap (q1 * 4294967296) + q), z) := by
      intro hlt
      have h' : (c - 1) * Y1 + (r + Y1) = U := by rw [Int.sub_mul, Int.one_mul]; omega
      simp only [bits_Div64.j4]
      rw [if_pos True.intro, u64w (a := r + Y1) (by omega) (by omega), u64w (a := c - 1) (by omega) (by omega)]
      by_cases hb : r + Y1 ≥ 4294967296
      · rw [if_pos hb, if_pos hs]
        have := D.last h' (by omega) (by omega) (by omega) hb
        exact ⟨_, by rw [this]⟩
      · rw [if_neg hb]
        exact ih k (c - 1) (r + Y1) h' (by omega) (by omega) (by omega) (by omega) (by omega) (by omega)
    simp only [bits_Div64.l1]
    by_cases hA : c ≥ 4294967296
    · rw [if_pos hA]
      exact yes (by omega)
    · rw [if_neg hA]
      have hp := prod_lt (a := c) (b := Y0) (by omega) (by omega) h0.1 h0.2
      rw [u64w (a := c * Y0) (by omega) (by omega), u64w (a := 4294967296 * r) (by omega) (by omega), u64w (a := 4294967296 * r + d) (by omega) (by omega)]
      by_cases hT : c * Y0 > 4294967296 * r + d
      · rw [decide_eq_true hT]
        exact yes (D.go h (by omega))
      · rw [decide_eq_false hT]
        have := D.stop h hc (by omega)
        simp only [bits_Div64.j4]
        rw [if_neg (by decide), if_pos hs]
        exact ⟨_, by rw [this]⟩

theorem digits {Y Y1 Y0 U d e q1 q0 : Int} (D1 : Digit Y Y1 Y0 U d q1) (hYm : Y < 18446744073709551616) (D2 : Digit Y Y1 Y0 (U * 4294967296 + d - q1 * Y) e q0) (s : Int) (hs : 0 ≤ s) (k : Nat) (hk : 20 ≤ k) :
    ∃ z, bits_Div64.l0 k Y s Y1 Y0 U d e (U / Y1) (U - U / Y1 * Y1) = some (q1 * 4294967296 + q0, z) := by
  have h1 := D1.hY1
  have h0 := D1.hY0
  have hU := D1.hU
  have hd := D1.hd
  have hr := D2.hU
  obtain ⟨g1, g2, g3, g4, g5, g6⟩ := D1.guess
  obtain ⟨k', hk', e'⟩ := loop0 D1 s e 2 k (U / Y1) (U - U / Y1 * Y1) g4 g5 (by omega) g1 g2 (by omega) (by omega)
  rw [e']
  obtain ⟨k'', rfl⟩ : ∃ m, k' = m + 1 := ⟨k' - 1, by omega⟩
  simp only [bits_Div64.j2]
  have hqY0 : 0 ≤ q1 * Y := Int.mul_nonneg D1.hq0 (by omega)
  have hqs := D1.small
  have er : IntKind.u64.wrap (IntKind.u64.wrap (IntKind.u64.wrap (U * 4294967296) + d) - IntKind.u64.wrap (q1 * Y)) = U * 4294967296 + d - q1 * Y := by
    simp only [IntKind.wrap_u64]
    omega
  rw [if_neg (by omega)]
  simp only [er]
  generalize U * 4294967296 + d - q1 * Y = R at *
  obtain ⟨f1, f2, f3, f4, f5, f6⟩ := D2.guess
  rw [Int.tdiv_eq_ediv_of_nonneg hr.1, u64w (a := R / Y1) f3 (by omega)]
  have hm0 : 0 ≤ R / Y1 * Y1 := Int.mul_nonneg f3 (by omega)
  rw [u64w (a := R / Y1 * Y1) hm0 (by omega), u64w (a := R - R / Y1 * Y1) f5 (by omega)]
  obtain ⟨z, hz⟩ := loop1 D2 s R q1 hs 2 k'' (R / Y1) (R - R / Y1 * Y1) f4 f5 (by omega) f1 f2 (by omega) (by omega)
  have h02 := D2.hq0
  have hs2 := D2.small
  have h01 := D1.hq0
  exact ⟨z, by rw [hz, u64w (a := q1 * 4294967296) (by omega) (by omega), u64w (a := q1 * 4294967296 + q0) (by omega) (by omega)]⟩

theorem digit_of {Y Y1 Y0 U d : Int} (hY : Y = Y1 * 4294967296 + Y0) (hY1 : 2147483648 ≤ Y1 ∧ Y1 ≤ 4294967295) (hY0 : 0 ≤ Y0 ∧ Y0 ≤ 4294967295) (hU : 0 ≤ U ∧ U < Y) (hd : 0 ≤ d ∧ d ≤ 4294967295) : Digit Y Y1 Y0 U d ((U * 4294967296 + d) / Y) := by
  have hp : 0 < Y := by omega
  have e1 := Int.mul_ediv_add_emod (U * 4294967296 + d) Y
  have e2 := Int.emod_nonneg (U * 4294967296 + d) (show Y ≠ 0 by omega)
  have e3 := Int.emod_lt_of_pos (U * 4294967296 + d) hp
  rw [Int.mul_comm] at e1
  exact ⟨hY, hY1, hY0, hU, hd, by omega, by rw [Int.add_mul]; omega, Int.ediv_nonneg (by omega) (by omega)⟩

theorem div_f (hi lo y : Nat) (hhi : hi < y) (hlo : lo < 18446744073709551616) (hy : y < 18446744073709551616) (k : Nat) (hk : 20 ≤ k) :
    ∃ z, bits_Div64.f k (hi : Int) (lo : Int) (y : Int) = some ((((hi * 18446744073709551616 + lo) / y : Nat) : Int), z) := by
  unfold bits_Div64.f
  rw [if_neg (by omega), if_neg (by omega)]
  by_cases h0 : (hi : Int) = 0
  · rw [if_pos h0]
    have : hi = 0 := by omega
    subst this
    have hle : lo / y ≤ lo := Nat.div_le_self _ _
    have e : Int.tdiv (lo : Int) (y : Int) = ((lo / y : Nat) : Int) := by rw [Int.tdiv_eq_ediv_of_nonneg (by omega)]; simp
    exact ⟨_, by rw [e, u64w (a := ((lo / y : Nat) : Int)) (Int.natCast_nonneg _) (by generalize lo / y = w at *; omega), Nat.zero_mul, Nat.zero_add]⟩
  · rw [if_neg h0]
    obtain ⟨n, hn, hn1, hn64, hnl, hnu⟩ := len_f y (by omega) hy k (by omega)
    unfold bits_LeadingZeros64.f
    rw [hn]
    simp only [Option.bind_some]
    obtain ⟨s, hs⟩ : ∃ s, s + n = 64 := ⟨64 - n, by omega⟩
    rw [wrap_of (64 - (n : Int)) (by omega) (by omega), show (64 : Int) - (n : Int) = (s : Int) by omega, u64w (a := (s : Int)) (by omega) (by omega), show (64 : Int) - (s : Int) = (n : Int) by omega, u64w (a := (n : Int)) (by omega) (by omega), if_pos (by omega), if_pos (by omega)]
    have hST : 2 ^ s * 2 ^ n = 18446744073709551616 := by rw [← Nat.pow_add, hs]
    have hS0 : 0 < 2 ^ s := Nat.two_pow_pos s
    have hT0 : 0 < 2 ^ n := Nat.two_pow_pos n
    have hmin : min ((s : Int)).toNat IntKind.u64.bits = s := by simp [IntKind.bits]; omega
    have hminn : min ((n : Int)).toNat IntKind.u64.bits = n := by simp [IntKind.bits]; omega
    have ecast : ∀ (a q : Nat), (a : Int) * 2 ^ q = ((a * 2 ^ q : Nat) : Int) := fun a q => by simp
    have edcast : ∀ (a q : Nat), (a : Int) / 2 ^ q = ((a / 2 ^ q : Nat) : Int) := fun a q => by simp
    -- the divisor, shifted
    have hYlo : 9223372036854775808 ≤ y * 2 ^ s := by
      have h := Nat.mul_le_mul_right (2 ^ s) hnl
      rw [← Nat.pow_add, show n - 1 + s = 63 by omega] at h
      exact h
    have hYhi : y * 2 ^ s < 18446744073709551616 := by
      have h := Nat.mul_lt_mul_of_pos_right hnu hS0
      rw [← Nat.pow_add, show n + s = 64 by omega] at h
      exact h
    have eY : shl .u64 (y : Int) (s : Int) = ((y * 2 ^ s : Nat) : Int) := by unfold shl; rw [hmin, ecast, u64w (by omega) (by omega)]
    -- the dividend, shifted
    have hLT : lo / 2 ^ n < 2 ^ s := Nat.div_lt_of_lt_mul (by rw [Nat.mul_comm, hST]; exact hlo)
    have hhS : hi * 2 ^ s + 2 ^ s ≤ y * 2 ^ s := by
      have h := Nat.mul_le_mul_right (2 ^ s) hhi
      rw [Nat.succ_mul] at h
      exact h
    have eH : shl .u64 (hi : Int) (s : Int) = ((hi * 2 ^ s : Nat) : Int) := by unfold shl; rw [hmin, ecast, u64w (by omega) (by omega)]
    have eR : shr .u64 (lo : Int) (n : Int) = ((lo / 2 ^ n : Nat) : Int) := by unfold shr; rw [hminn, edcast]
    have eU : Go.bits .or .u64 ((hi * 2 ^ s : Nat) : Int) ((lo / 2 ^ n : Nat) : Int) = ((hi * 2 ^ s + lo / 2 ^ n : Nat) : Int) := by
      rw [u64_or_nat _ _ (by omega) (by omega)]
      have := Nat.two_pow_add_eq_or_of_lt (i := s) hLT hi
      rw [Nat.mul_comm hi, ← this]
    have eL : shl .u64 (lo : Int) (s : Int) = (((lo % 2 ^ n) * 2 ^ s : Nat) : Int) := by
      unfold shl
      rw [hmin, ecast, IntKind.wrap_u64]
      have h1 : lo * 2 ^ s = lo / 2 ^ n * 18446744073709551616 + lo % 2 ^ n * 2 ^ s := by
        have h2 := Nat.div_add_mod lo (2 ^ n)
        have h3 : lo * 2 ^ s = (2 ^ n * (lo / 2 ^ n) + lo % 2 ^ n) * 2 ^ s := by rw [h2]
        rw [h3, Nat.add_mul, ← hST]
        congr 1
        rw [Nat.mul_comm (2 ^ n), Nat.mul_assoc, Nat.mul_comm (2 ^ n)]
      have h4 : lo % 2 ^ n * 2 ^ s < 18446744073709551616 := by
        have h5 := Nat.mul_lt_mul_of_pos_right (Nat.mod_lt lo hT0) hS0
        rw [Nat.mul_comm (2 ^ n), hST] at h5
        exact h5
      rw [h1]
      omega
    have hL4 : lo % 2 ^ n * 2 ^ s < 18446744073709551616 := by
      have h5 := Nat.mul_lt_mul_of_pos_right (Nat.mod_lt lo hT0) hS0
      rw [Nat.mul_comm (2 ^ n), hST] at h5
      exact h5
    have hX : (hi * 18446744073709551616 + lo) * 2 ^ s = (hi * 2 ^ s + lo / 2 ^ n) * 18446744073709551616 + lo % 2 ^ n * 2 ^ s := by
      have h2 := Nat.div_add_mod lo (2 ^ n)
      have h3 : lo * 2 ^ s = (2 ^ n * (lo / 2 ^ n) + lo % 2 ^ n) * 2 ^ s := by rw [h2]
      rw [Nat.add_mul, h3, Nat.add_mul, Nat.add_mul, Nat.add_assoc]
      congr 1
      · rw [Nat.mul_right_comm]
      · congr 1
        rw [← hST, Nat.mul_comm (2 ^ n), Nat.mul_assoc, Nat.mul_comm (2 ^ n)]
    have hfin : (hi * 18446744073709551616 + lo) / y = ((hi * 2 ^ s + lo / 2 ^ n) * 18446744073709551616 + lo % 2 ^ n * 2 ^ s) / (y * 2 ^ s) := by
      rw [← hX, Nat.mul_div_mul_right _ _ hS0]
    rw [eY, eH, eR, eU, eL, hfin]
    have hUY : hi * 2 ^ s + lo / 2 ^ n < y * 2 ^ s := by omega
    generalize y * 2 ^ s = Y at *
    generalize hi * 2 ^ s + lo / 2 ^ n = U at *
    generalize lo % 2 ^ n * 2 ^ s = L at *
    rw [and_low32 (Y : Int) (by omega) (by omega), and_low32 (L : Int) (by omega) (by omega), if_neg (by omega)]
    have D1 := digit_of (Y := (Y : Int)) (Y1 := (Y : Int) / 4294967296) (Y0 := (Y : Int) % 4294967296) (U := (U : Int)) (d := (L : Int) / 4294967296) (by omega) (by omega) (by omega) (by omega) (by omega)
    have hq := D1.hq
    have hq2 := D1.hq2
    rw [Int.add_mul] at hq2
    have D2 := digit_of (Y := (Y : Int)) (Y1 := (Y : Int) / 4294967296) (Y0 := (Y : Int) % 4294967296) (U := (U : Int) * 4294967296 + (L : Int) / 4294967296 - ((U : Int) * 4294967296 + (L : Int) / 4294967296) / (Y : Int) * (Y : Int)) (d := (L : Int) % 4294967296) (by omega) (by omega) (by omega) (by omega) (by omega)
    have g := D1.guess
    have hc0 : 0 ≤ (U : Int) / ((Y : Int) / 4294967296) * ((Y : Int) / 4294967296) := Int.mul_nonneg g.2.2.1 (by omega)
    rw [Int.tdiv_eq_ediv_of_nonneg (by omega), u64w (a := (U : Int) / ((Y : Int) / 4294967296)) (by omega) (by omega), u64w (a := (U : Int) / ((Y : Int) / 4294967296) * ((Y : Int) / 4294967296)) hc0 (by omega), u64w (a := (U : Int) - (U : Int) / ((Y : Int) / 4294967296) * ((Y : Int) / 4294967296)) (by omega) (by omega)]
    obtain ⟨z, hz⟩ := digits D1 (by omega) D2 (s : Int) (by omega) k hk
    refine ⟨z, ?_⟩
    rw [hz]
    congr 2
    have a1 := D2.hq
    have a2 := D2.hq2
    have a3 := D1.hq0
    have a4 := D2.hq0
    rw [Int.add_mul] at a2
    rw [Int.natCast_ediv, Int.natCast_add, Int.natCast_mul]
    generalize ((U : Int) * 4294967296 + (L : Int) / 4294967296) / (Y : Int) = q1 at *
    generalize ((((U : Int) * 4294967296 + (L : Int) / 4294967296 - q1 * (Y : Int)) * 4294967296 + (L : Int) % 4294967296) / (Y : Int)) = q0 at *
    have hYp : (0 : Int) < (Y : Int) := by omega
    have hb : (q1 * 4294967296 + q0) * (Y : Int) = q1 * (Y : Int) * 4294967296 + q0 * (Y : Int) := by
      rw [Int.add_mul, Int.mul_right_comm]
    have hu : (U : Int) * ((18446744073709551616 : Nat) : Int) + (L : Int) = ((U : Int) * 18446744073709551616 + (L : Int) - (q1 * 4294967296 + q0) * (Y : Int)) + (q1 * 4294967296 + q0) * (Y : Int) := by omega
    rw [hu, Int.add_mul_ediv_right _ _ (by omega), Int.ediv_eq_zero_of_lt (by omega) (by omega)]
    omega
end Go.Proofs.Ytbjelaocihjhgaa.Pure
