/- Which floats may be, and a float as a whole number times a power of two. -/
import Derived.Test.YtanklkbggjchfaaProg
import Derived.Test.YtanklkbggjchfaaFltC
import Derived.WalkKit
import Derived.WalkLawsBesides
import Derived.Outline
import Derived.Lib.Hide
namespace Go.Proofs.Ytanklkbggjchfaa
open Go.RowKit
set_option linter.unusedVariables false
theorem fmt : FloatKind.f64.format = Ieee.double := rfl
theorem ret_b {a b : Bool} (h : a = b) : Ending.returned (.bool a) = .returned (.bool b) := by rw [h]
theorem pright_any (n : Int) (w : World) : Calls Try.prog 17 #[.int .i64 n] w fun e w' => e = .returned (.bool (decide (-1125899906842624 ≤ n ∧ n ≤ 1125899906842624))) ∧ w' = w := by
  go_enter Try.func17, Try.ntmps17
  go_wp2
  · go_ret
    exact ⟨ret_b (by by_cases h : n ≤ 1125899906842624 <;> simp [h] <;> assumption), rfl⟩
  · go_ret
    exact ⟨ret_b (by simp; omega), rfl⟩
theorem right_any (x : Nat) (w : World) (hx : x < 18446744073709551616) : Calls Try.prog 13 #[.float .f64 x] w fun e w' => e = .returned (.bool (Flt.may x)) ∧ w' = w := by
  cases h : Flt.may x with
  | true =>
    obtain ⟨h1, h2, _⟩ := Flt.order_may h
    rw [← fmt] at h1 h2
    rcases h1 with h1 | h1 <;> rcases h2 with h2 | h2
    all_goals
      go_enter Try.func13, Try.ntmps13
      go_wp2
      go_ret
      exact ⟨rfl, rfl⟩
  | false =>
    rcases Flt.order_maynot hx h with (h1 | h1) | ⟨h1, h2⟩
    all_goals
      rw [← fmt] at h1
      try rw [← fmt] at h2
      go_enter Try.func13, Try.ntmps13
      go_wp2
      go_ret
      exact ⟨rfl, rfl⟩
theorem run_bits (x : Nat) (w : World) : (callFunc 15 #[.float .f64 x]).run Try.prog w = .ok (.value (.int .u64 x)) w := by kernel_rfl
theorem run_from (x : Int) (w : World) : (callFunc 9 #[.int .u64 x]).run Try.prog w = .ok (.value (.float .f64 x.toNat)) w := by kernel_rfl
theorem run_from' (x : Nat) (w : World) : (callFunc 9 #[.int .u64 x]).run Try.prog w = .ok (.value (.float .f64 x)) w := by kernel_rfl
theorem and_not_nat (a b : Nat) (ha : a < 18446744073709551616) (hb : b < 18446744073709551616) : bits .andNot .u64 (a : Int) (b : Int) = ((a &&& (18446744073709551615 - b) : Nat) : Int) := by
  have hx : a &&& (18446744073709551615 - b) < 2 ^ 64 := Nat.and_lt_two_pow _ (by omega)
  have h1 : (BitVec.ofInt 64 (a : Int)).toNat = a := by
    rw [BitVec.ofInt_natCast, BitVec.toNat_ofNat]; exact Nat.mod_eq_of_lt (by omega)
  have h2 : (BitVec.ofInt 64 (b : Int)).toNat = b := by
    rw [BitVec.ofInt_natCast, BitVec.toNat_ofNat]; exact Nat.mod_eq_of_lt (by omega)
  show IntKind.u64.wrap ((BitVec.ofInt 64 (a : Int) &&& ~~~ BitVec.ofInt 64 (b : Int)).toNat : Int) = _
  rw [BitVec.toNat_and, BitVec.toNat_not, h1, h2, IntKind.wrap_u64]
  rw [show 2 ^ 64 - 1 - b = 18446744073709551615 - b by omega]
  omega
/-- Without its sign a word from 0 on is the same. -/
theorem abs_bits (x : Nat) (hx : x < 9223372036854775808) : bits .andNot .u64 (x : Int) 9223372036854775808 = (x : Int) := by
  have := and_not_nat x 9223372036854775808 (by omega) (by omega)
  rw [show (18446744073709551615 - 9223372036854775808 : Nat) = 2 ^ 63 - 1 by decide, Nat.and_two_pow_sub_one_eq_mod] at this
  rw [show ((9223372036854775808 : Nat) : Int) = 9223372036854775808 from rfl] at this
  rw [this]
  congr 1
  exact Nat.mod_eq_of_lt (by omega)
theorem abs_any (x : Nat) (w : World) (hx : x < Flt.inf) : Calls Try.prog 30 #[.float .f64 x] w fun e w' => e = .returned (.float .f64 x) ∧ w' = w := by
  have h1 := run_bits
  have h2 := run_from'
  have h3 := abs_bits x (by unfold Flt.inf at hx; omega)
  go_enter Try.func30, Try.ntmps30
  go_wp2
  go_ret
  exact ⟨rfl, rfl⟩
theorem isinf_any (x : Nat) (w : World) (hx : x < Flt.inf) : Calls Try.prog 23 #[.float .f64 x, .int .i64 0] w fun e w' => e = .returned (.bool false) ∧ w' = w := by
  obtain ⟨_, h2, _⟩ := Flt.order_may ((Flt.may_iff x).2 (.inl hx))
  rw [← fmt] at h2
  have HX := Go.Lib.hid hx
  clear hx
  rcases h2 with h2 | h2
  all_goals
    go_enter Try.func23, Try.ntmps23
    go_wp2_with (go_at_call 30; refine (abs_any _ _ HX.out).mono ?_; rintro e w' ⟨rfl, rfl⟩)
    go_ret
    exact ⟨rfl, rfl⟩
theorem isnan_any (x : Nat) (w : World) (hx : x < Flt.inf) : Calls Try.prog 24 #[.float .f64 x] w fun e w' => e = .returned (.bool false) ∧ w' = w := by
  obtain ⟨_, _, h2⟩ := Flt.order_may ((Flt.may_iff x).2 (.inl hx))
  rw [← fmt] at h2
  go_enter Try.func24, Try.ntmps24
  go_wp2
  go_ret
  exact ⟨rfl, rfl⟩
theorem normalize_any (x : Nat) (w : World) (h0 : 0 < x) (hx : x < Flt.inf) : Calls Try.prog 25 #[.float .f64 x] w fun e w' => ∃ (y : Nat) (k : Int), e = .returned (.tuple #[.float .f64 y, .int .i64 k]) ∧ w' = w ∧ 4503599627370496 ≤ y ∧ y < Flt.inf ∧ ((k = 0 ∧ y = x) ∨ (k = -52 ∧ Flt.val y = Flt.val x * 2 ^ 52)) := by
  have ho := Flt.order_words (x := x) (y := 4503599627370496) hx (by decide)
  rw [← fmt] at ho
  have HX := Go.Lib.hid hx
  by_cases h1 : x < 4503599627370496
  · rw [Nat.compare_eq_lt.2 h1] at ho
    obtain ⟨y, hy, hy1, hy2, hy3⟩ := Flt.norm_of h0 h1
    rw [← fmt] at hy
    have hy' : ∀ w, (binOp .mul 23 (.float .f64 x) (.float .f64 4841369599423283200)).run Try.prog w = .ok (.float .f64 y) w := fun w => run_float_arith w .mul 23 .f64 x 4841369599423283200 y hy
    have HY := Go.Lib.hid hy1
    have HZ := Go.Lib.hid hy2
    have HW := Go.Lib.hid (show Flt.val y = Flt.val x * 2 ^ 52 by rw [hy3]; unfold Flt.val Flt.mag Flt.ex; rw [if_pos h1, show x / 4503599627370496 - 1 = 0 by omega]; simp)
    clear hy hy1 hy2 hy3 hx h0 h1
    go_enter Try.func25, Try.ntmps25
    go_wp2_with (go_at_call 30; refine (abs_any _ _ HX.out).mono ?_; rintro e w' ⟨rfl, rfl⟩)
    go_ret2
    exact ⟨y, -52, rfl, rfl, HZ.out, HY.out, .inr ⟨rfl, HW.out⟩⟩
  · have ho' : FloatKind.f64.format.order x 4503599627370496 = some .gt ∨ FloatKind.f64.format.order x 4503599627370496 = some .eq := by
      rw [ho]
      rcases Nat.lt_or_ge 4503599627370496 x with h | h
      · exact .inl (by rw [Nat.compare_eq_gt.2 h])
      · exact .inr (by rw [Nat.compare_eq_eq.2 (by omega)])
    have H1 := Go.Lib.hid h1
    clear ho hx h0 h1
    rcases ho' with ho | ho
    all_goals
      go_enter Try.func25, Try.ntmps25
      go_wp2_with (go_at_call 30; refine (abs_any _ _ HX.out).mono ?_; rintro e w' ⟨rfl, rfl⟩)
      go_ret2
      exact ⟨x, 0, rfl, rfl, Nat.le_of_not_lt H1.out, HX.out, .inl ⟨rfl, rfl⟩⟩
theorem frexp_bits (y : Nat) (hy : 4503599627370496 ≤ y) (hy2 : y < Flt.inf) : bits .andNot .u64 (y : Int) 9218868437227405312 = ((y % 4503599627370496 : Nat) : Int) := by
  unfold Flt.inf at hy2
  have := and_not_nat y 9218868437227405312 (by omega) (by decide)
  rw [show ((9218868437227405312 : Nat) : Int) = 9218868437227405312 from rfl] at this
  rw [this]
  congr 1
  have e : y = y % 2 ^ 63 := by omega
  have h1 : (18446744073709551615 - 9218868437227405312 : Nat) = 2 ^ 63 + (2 ^ 52 - 1) := by decide
  rw [h1, show (2 : Nat) ^ 63 + (2 ^ 52 - 1) = 2 ^ 63 ||| (2 ^ 52 - 1) by decide, Nat.and_or_distrib_left, Nat.and_two_pow_sub_one_eq_mod]
  have h2 : y &&& 2 ^ 63 = 0 := by
    apply Nat.eq_of_testBit_eq
    intro i
    rw [Nat.testBit_and, Nat.testBit_two_pow, Nat.zero_testBit]
    by_cases hi : 63 = i
    · subst hi; rw [Nat.testBit_lt_two_pow (by omega)]; rfl
    · simp [hi]
  rw [h2]
  simp
theorem frexp_or (r : Nat) (hr : r < 4503599627370496) : bits .or .u64 (r : Int) 4602678819172646912 = ((4602678819172646912 + r : Nat) : Int) := by
  have := bits_or_u64_nat r 4602678819172646912 (by omega) (by decide)
  rw [show ((4602678819172646912 : Nat) : Int) = 4602678819172646912 from rfl] at this
  rw [this]
  congr 1
  have h1 : (4602678819172646912 : Nat) = 2 ^ 52 * 1022 := by decide
  rw [h1, Nat.or_comm, Nat.two_pow_add_eq_or_of_lt (by omega)]
theorem frexp_exp (y : Nat) (hy2 : y < Flt.inf) : bits .and .u64 ((y : Int) / 4503599627370496) 2047 = ((y / 4503599627370496 : Nat) : Int) := by
  unfold Flt.inf at hy2
  have := bits_and_u64_nat (y / 4503599627370496) 2047 (by omega) (by decide)
  rw [show ((2047 : Nat) : Int) = 2047 from rfl, Int.natCast_ediv] at this
  rw [show ((y : Int) / 4503599627370496) = (y : Int) / ((4503599627370496 : Nat) : Int) from rfl, this]
  congr 1
  rw [show (2047 : Nat) = 2 ^ 11 - 1 from by decide, Nat.and_two_pow_sub_one_eq_mod]
  exact Nat.mod_eq_of_lt (by omega)
/-- What frexp makes of a float. -/
structure Frexped (x z : Nat) (e : Int) : Prop where
  ex : ∃ (y q : Nat) (k : Int), z = 4602678819172646912 + y % 4503599627370496 ∧ q = y / 4503599627370496 ∧ e = k + (q - 1023 + 1) ∧ 4503599627370496 ≤ y ∧ y < Flt.inf ∧ ((k = 0 ∧ y = x) ∨ (k = -52 ∧ Flt.val y = Flt.val x * 2 ^ 52))
theorem frexp_any (x : Nat) (w : World) (h0 : 0 < x) (hx : x < Flt.inf) : Calls Try.prog 29 #[.float .f64 x] w fun e w' => ∃ (z : Nat) (k : Int), e = .returned (.tuple #[.float .f64 z, .int .i64 k]) ∧ w' = w ∧ Frexped x z k := by
  have h1 := run_bits
  have h2 := run_from'
  have HX := Go.Lib.hid hx
  have H0 := Go.Lib.hid h0
  have ho : FloatKind.f64.format.order x 0 = some .gt := by
    rw [fmt, Flt.order_words hx (by decide), Nat.compare_eq_gt.2 h0]
  clear hx h0
  go_enter Try.func29, Try.ntmps29
  go_wp2_with fail
  go_at_call 23
  refine (isinf_any _ _ HX.out).mono ?_
  rintro e w' ⟨rfl, rfl⟩
  go_wp2_with fail
  go_at_call 24
  refine (isnan_any _ _ HX.out).mono ?_
  rintro e w' ⟨rfl, rfl⟩
  go_wp2_with fail
  go_at_call 25
  refine (normalize_any _ _ H0.out HX.out).mono ?_
  rintro e w' ⟨y, k, rfl, rfl, hy1, hy2, hk⟩
  have g1 := frexp_bits y hy1 hy2
  have g2 := frexp_or (y % 4503599627370496) (Nat.mod_lt _ (by decide))
  have g3 := frexp_exp y hy2
  obtain ⟨z, hz⟩ : ∃ z, z = 4602678819172646912 + y % 4503599627370496 := ⟨_, rfl⟩
  obtain ⟨q, hq⟩ : ∃ q, q = y / 4503599627370496 := ⟨_, rfl⟩
  rw [← hz, Int.natCast_emod, show ((4503599627370496 : Nat) : Int) = 4503599627370496 from rfl] at g2
  rw [Int.natCast_emod, show ((4503599627370496 : Nat) : Int) = 4503599627370496 from rfl] at g1
  rw [← hq] at g3
  have hk1 : -52 ≤ k := by omega
  have hk2 : k ≤ 0 := by omega
  have hq1 : 1 ≤ (q : Int) := by omega
  have hq2 : (q : Int) ≤ 2046 := by unfold Flt.inf at hy2; omega
  have HK := Go.Lib.hid hk
  have HY := Go.Lib.hid hy1
  have HZ := Go.Lib.hid hy2
  have HQ := Go.Lib.hid hq
  have HZZ := Go.Lib.hid hz
  clear hk hy1 hy2 hz hq
  go_wp2
  go_ret2
  exact ⟨z, _, rfl, rfl, ⟨y, q, k, HZZ.out, HQ.out, rfl, HY.out, HZ.out, HK.out⟩⟩
theorem Frexp_any (x : Nat) (w : World) (h0 : 0 < x) (hx : x < Flt.inf) : Calls Try.prog 22 #[.float .f64 x] w fun e w' => ∃ (z : Nat) (k : Int), e = .returned (.tuple #[.float .f64 z, .int .i64 k]) ∧ w' = w ∧ Frexped x z k := by
  have HX := Go.Lib.hid hx
  have H0 := Go.Lib.hid h0
  clear hx h0
  go_enter Try.func22, Try.ntmps22
  go_wp2_with (go_at_call 29; refine (frexp_any _ _ H0.out HX.out).mono ?_; rintro e w' ⟨z, k, rfl, rfl, hk⟩; have HK := Go.Lib.hid hk; clear hk)
  go_ret2
  exact ⟨z, _, rfl, rfl, HK.out⟩
/-- A float as a whole number m times a power of two. -/
structure Whole (x m : Nat) (e : Int) : Prop where
  pos : 0 < m
  lt : m < 9007199254740992
  lo : -1126 ≤ e
  hi : e ≤ 971
  eq : m * 2 ^ (e + 1126).toNat = Flt.val x * 2 ^ 52
theorem Frexped.whole {x z : Nat} {k : Int} (h : Frexped x z k) : ∃ u m : Nat, Ieee.double.mul z (Flt.pw 53) = some u ∧ (Ieee.double.read u).toInt .zero = some (m : Int) ∧ Whole x m (k - 53) := by
  obtain ⟨y, q, k0, rfl, rfl, rfl, hy1, hy2, hk⟩ := h.ex
  obtain ⟨u, hu1, hu2⟩ := Flt.lead_of hy1
  refine ⟨u, Flt.mag y, hu1, hu2, ?_⟩
  have hm : 4503599627370496 ≤ Flt.mag y := by unfold Flt.mag; split <;> omega
  have hx1 : Flt.ex y = y / 4503599627370496 - 1 := rfl
  have hx2 := Flt.ex_le hy2
  have hq : 1 ≤ y / 4503599627370496 := by omega
  have hv : Flt.val y = Flt.mag y * 2 ^ Flt.ex y := rfl
  rcases hk with ⟨rfl, rfl⟩ | ⟨rfl, hk⟩
  · refine ⟨by omega, Flt.mag_lt _, by omega, by omega, ?_⟩
    rw [hv, Nat.mul_assoc, ← Nat.pow_add]
    congr 2
    omega
  · refine ⟨by omega, Flt.mag_lt _, by omega, by omega, ?_⟩
    rw [← hk, hv]
    congr 2
    omega
theorem whole_any (x : Nat) (w : World) (h0 : 0 < x) (hx : x < Flt.inf) : Calls Try.prog 18 #[.float .f64 x] w fun e w' => ∃ (m : Nat) (k : Int), e = .returned (.tuple #[.int .u64 m, .int .i64 k]) ∧ w' = w ∧ Whole x m k := by
  have HX := Go.Lib.hid hx
  have H0 := Go.Lib.hid h0
  clear hx h0
  go_enter Try.func18, Try.ntmps18
  go_wp2_with fail
  go_at_call 22
  refine (Frexp_any _ _ H0.out HX.out).mono ?_
  rintro e w' ⟨z, k, rfl, rfl, hk⟩
  obtain ⟨u, m, hu, hm, HW⟩ := hk.whole
  have hk1 : -1126 ≤ k - 53 := HW.lo
  have hk2 : k - 53 ≤ 971 := HW.hi
  have hr1 : ∀ w, (binOp .mul 23 (.float .f64 z) (.float .f64 4845873199050653696)).run Try.prog w = .ok (.float .f64 u) w := fun w => run_float_arith w .mul 23 .f64 z 4845873199050653696 u hu
  have hf : floatToIntVal .f64 u .u64 = some (m : Int) := by
    have := HW.lt
    unfold floatToIntVal FloatKind.decode
    rw [fmt, hm]
    dsimp only
    rw [if_pos]
    have h1 : IntKind.u64.min = 0 := by decide
    have h2 : IntKind.u64.max = 18446744073709551615 := by decide
    omega
  have hr2 : ∀ w, (convert 23 22 (.float .f64 u)).run Try.prog w = .ok (.int .u64 m) w := fun w => run_convert_float_int w 23 22 .f64 .u64 u m (by kernel_rfl) Try.underlying22 hf
  have HK := Go.Lib.hid HW
  clear HW hu hm hk hf
  go_wp2
  go_ret2
  exact ⟨m, _, rfl, rfl, HK.out⟩
end Go.Proofs.Ytanklkbggjchfaa
