/- RateWholes and RateFloors. -/
import Derived.Test.YtanklkbggjchfaaRateE
namespace Go.Proofs.Ytanklkbggjchfaa
open Go.RowKit
set_option linter.unusedVariables false
theorem two_le {a b : Nat} (h : a ≤ b) : Flt.two a ≤ Flt.two b := Nat.pow_le_pow_right (by decide) h
/-- m parts of 2 to the j. -/
structure Half (y m j : Nat) : Prop where
  is : Flt.Is y (m * Flt.two j)
theorem Half.zero {y j : Nat} (h : Half y 0 j) : y = 0 := by
  rcases Nat.eq_zero_or_pos y with h0 | h0
  · exact h0
  · have := Flt.val_pos h0
    rw [h.is.val, Nat.zero_mul] at this
    omega
theorem Half.half {y m j : Nat} (h : Half y m (j + 1)) (hj : 60 ≤ j) : ∃ z, Ieee.double.div y (Flt.pw 1) = some z ∧ Half z m j := by
  rcases Nat.eq_zero_or_pos m with h0 | h0
  · subst h0
    rw [h.zero]
    exact ⟨0, by decide, ⟨by decide, by rw [Nat.zero_mul]; decide⟩⟩
  · have he : 0 < Flt.ex y := by
      rcases Nat.eq_zero_or_pos (Flt.ex y) with h1 | h1
      · have h2 := h.is.val
        rw [val_eq, h1, show Flt.two 0 = 1 from rfl, Nat.mul_one] at h2
        have h3 := Flt.mag_lt y
        have h4 : Flt.two 60 ≤ Flt.two (j + 1) := two_le (by omega)
        have h5 : Flt.two (j + 1) ≤ m * Flt.two (j + 1) := Nat.le_mul_of_pos_left _ h0
        have h6 : Flt.two 60 = 1152921504606846976 := by decide
        omega
      · exact h1
    obtain ⟨z, h1, h2, h3⟩ := Flt.half_of h.is he
    refine ⟨z, h1, ⟨h2, ?_⟩⟩
    rw [two_add, ← Nat.mul_assoc] at h3
    exact Nat.eq_of_mul_eq_mul_right (by decide) h3
theorem Half.times {y m s : Nat} {A : Nat} (h : Half y m (1074 - s)) (hs : s ≤ 60) (hA : A ≤ 1125899906842624) (hV : A * m / 2 ^ s ≤ 1125899906842624) : timesV (A : Int) y = (((A * m / 2 ^ s : Nat) : Int), 0) := by
  refine timesV_is A _ h.is rfl hA ?_ hV
  have e : Flt.two 1074 = Flt.two s * Flt.two (1074 - s) := by rw [← two_add]; congr 1; omega
  rw [e, ← Nat.mul_assoc]
  exact Nat.mul_div_mul_right _ _ (two_pos _)
theorem kind_bounds (q : IntKind) {b : Int} (hb : (Lit.int q b).wf = true) : q.min ≤ b ∧ b ≤ q.max := (Lit.wf_int_iff _ _).1 hb
set_option maxHeartbeats 1000000 in
theorem wholes_any (a0 m0 k0 : Int) (w : World) (ha : (Lit.int .u32 a0).wf = true) (hm : (Lit.int .u16 m0).wf = true) (hk : (Lit.int .u8 k0).wf = true) : Calls Try.prog 4 #[.int .u32 a0, .int .u16 m0, .int .u8 k0] w fun e w' => e = .returned (.bool true) ∧ Below w.heap.size w w' := by
  have ha0 := kind_bounds _ ha
  have hm0 := kind_bounds _ hm
  have hk0 := kind_bounds _ hk
  rw [show IntKind.u32.min = 0 by decide, show IntKind.u32.max = 4294967295 by decide] at ha0
  rw [show IntKind.u16.min = 0 by decide, show IntKind.u16.max = 65535 by decide] at hm0
  rw [show IntKind.u8.min = 0 by decide, show IntKind.u8.max = 255 by decide] at hk0
  obtain ⟨a, rfl⟩ := Int.eq_ofNat_of_zero_le ha0.1
  obtain ⟨m, rfl⟩ := Int.eq_ofNat_of_zero_le hm0.1
  obtain ⟨s, hs⟩ : ∃ s : Nat, k0 % 30 = (s : Int) := ⟨(k0 % 30).toNat, by omega⟩
  obtain ⟨hk1, hk2⟩ := hk0
  have hs2 : (s : Int) ≤ 29 := by omega
  have hs3 : s ≤ 29 := by omega
  have ha1 : (a : Int) ≤ 4294967295 := by omega
  have hm1 : (m : Int) ≤ 65535 := by omega
  have hp : a * m ≤ 4294967295 * 65535 := Nat.mul_le_mul (by omega) (by omega)
  have hc1 := conv_nat 32 .u16 m (by kernel_rfl)
  obtain ⟨y, hy⟩ : ∃ y, y = Ieee.double.nearest false m 0 := ⟨_, rfl⟩
  have HY : Hid (Half y m 1074) := Go.Lib.hid ⟨by rw [hy]; exact Flt.of_nat m (by omega)⟩
  rw [← hy] at hc1
  have E2 := Go.Lib.hid (Half.times (s := 0) (A := a) HY.out (by omega) (by omega) (by simp; omega))
  have HP := Go.Lib.hid hp
  clear ha hm hk ha0 hm0 hy hp
  go_enter Try.func4, Try.ntmps4
  go_wp2_with fail
  go_loop [8, 9] (fun f i => ∃ (z j : Nat), f = .float .f64 z ∧ i = .int .i64 j ∧ j ≤ s ∧ Hid (Half z m (1074 - j))) (fun _ i => s - (intOf i).toNat)
  case atStart => exact ⟨y, 0, rfl, rfl, Nat.zero_le _, HY⟩
  case round =>
    obtain ⟨z, j, rfl, rfl, hj, HZ⟩ := hrel
    by_cases hlt : j < s
    · obtain ⟨z', hz1, hz2⟩ := Half.half (j := 1074 - j - 1) (by rw [show 1074 - j - 1 + 1 = 1074 - j by omega]; exact HZ.out) (by omega)
      have hr1 : ∀ w, (binOp .quo 23 (.float .f64 z) (.float .f64 4611686018427387904)).run Try.prog w = .ok (.float .f64 z') w := fun w => run_float_arith w .quo 23 .f64 z 4611686018427387904 z' hz1
      have HZ2 := Go.Lib.hid hz2
      clear hz1 hz2
      go_wp2
      go_round
      case rel => exact ⟨z', j + 1, rfl, by go_num, by omega, Go.Lib.hid (by rw [show 1074 - (j + 1) = 1074 - j - 1 by omega]; exact HZ2.out)⟩
      case measure => simp [intOf]; omega
    · obtain rfl : j = s := by omega
      have hdiv : a * m / 2 ^ j ≤ a * m := Nat.div_le_self _ _
      have E1 := Go.Lib.hid (Half.times (A := a) HZ.out (by omega) (by omega) (by have := HP.out; omega))
      have hzl := HZ.out.is.fin
      have hyl := HY.out.is.fin
      unfold Flt.inf at hzl hyl
      have HL := Go.Lib.hid (show z < 18446744073709551616 by omega)
      have HM := Go.Lib.hid (show y < 18446744073709551616 by omega)
      have hp0 : 0 ≤ (a : Int) * m := by rw [← Int.natCast_mul]; omega
      have hp1 : (a : Int) * m ≤ 281470681677825 := by rw [← Int.natCast_mul]; have := HP.out; omega
      have e1 : ((a * m / 2 ^ j : Nat) : Int) = (a : Int) * m / 2 ^ j := by simp
      have e2 : ((a * m / 2 ^ 0 : Nat) : Int) = (a : Int) * m := by simp
      have EE1 := Go.Lib.hid e1
      have EE2 := Go.Lib.hid e2
      clear hdiv hzl hyl e1 e2
      go_wp2_with fail
      go_at_call 10
      refine (times_any _ _ _ HL.out).mono ?_
      rintro e w' ⟨rfl, rfl⟩
      rw [E1.out, EE1.out]
      go_wp2_with fail
      go_at_call 10
      refine (times_any _ _ _ HM.out).mono ?_
      rintro e w' ⟨rfl, rfl⟩
      rw [E2.out, EE2.out]
      go_wp2_with fail
      go_at_call 12
      refine (awake_any _).mono ?_
      rintro e w' ⟨rfl, rfl⟩
      go_wp2
      go_ret
      exact ⟨rfl, Below.refl _ _⟩
theorem normalize_same (x : Nat) (w : World) (h0 : 4503599627370496 ≤ x) (hx : x < Flt.inf) : Calls Try.prog 25 #[.float .f64 x] w fun e w' => e = .returned (.tuple #[.float .f64 x, .int .i64 0]) ∧ w' = w := by
  have ho := Flt.order_words (x := x) (y := 4503599627370496) hx (by decide)
  rw [← fmt] at ho
  have HX := Go.Lib.hid hx
  have ho' : FloatKind.f64.format.order x 4503599627370496 = some .gt ∨ FloatKind.f64.format.order x 4503599627370496 = some .eq := by
    rw [ho]
    rcases Nat.lt_or_ge 4503599627370496 x with h | h
    · exact .inl (by rw [Nat.compare_eq_gt.2 h])
    · exact .inr (by rw [Nat.compare_eq_eq.2 (by omega)])
  clear ho hx h0
  rcases ho' with ho | ho
  all_goals
    go_enter Try.func25, Try.ntmps25
    go_wp2_with (go_at_call 30; refine (abs_any _ _ HX.out).mono ?_; rintro e w' ⟨rfl, rfl⟩)
    go_ret2
    exact ⟨rfl, rfl⟩
theorem and_i64 (a : Nat) (h : a < 2048) : bits .and .i64 (a : Int) 2047 = (a : Int) := by
  have h1 : (BitVec.ofInt 64 (a : Int)).toNat = a := by
    rw [BitVec.ofInt_natCast, BitVec.toNat_ofNat]; exact Nat.mod_eq_of_lt (by omega)
  show IntKind.i64.wrap ((BitVec.ofInt 64 (a : Int) &&& BitVec.ofInt 64 2047).toNat : Int) = _
  rw [BitVec.toNat_and, h1, show (BitVec.ofInt 64 2047).toNat = 2 ^ 11 - 1 by decide, Nat.and_two_pow_sub_one_eq_mod, Nat.mod_eq_of_lt (by omega), IntKind.wrap_i64]
  omega
theorem or_exp (r e : Nat) (hr : r < 4503599627370496) (he : e < 2048) : bits .or .u64 (r : Int) ((e : Int) * 4503599627370496) = ((e * 4503599627370496 + r : Nat) : Int) := by
  have := bits_or_u64_nat r (e * 4503599627370496) (by omega) (by omega)
  rw [Int.natCast_mul, show ((4503599627370496 : Nat) : Int) = 4503599627370496 from rfl] at this
  rw [this]
  congr 1
  have := Nat.two_pow_add_eq_or_of_lt (i := 52) (b := r) (by omega) e
  rw [show (2 : Nat) ^ 52 = 4503599627370496 from by decide, Nat.mul_comm 4503599627370496 e] at this
  rw [Nat.or_comm]
  exact this.symm
set_option maxHeartbeats 1000000 in
theorem ldexp_any (x m s : Nat) (w : World) (hi : Flt.Is x (m * Flt.two 1074)) (h1 : 4607182418800017408 ≤ x) (h2 : x < 4751297606875873280) (hs : s ≤ 60) : Calls Try.prog 21 #[.float .f64 x, .int .i64 (-(s : Int))] w fun e w' => ∃ z : Nat, e = .returned (.float .f64 z) ∧ w' = w ∧ Half z m (1074 - s) := by
  have hx := hi.fin
  have HI := Go.Lib.hid hi
  have HX := Go.Lib.hid hx
  have H1 := Go.Lib.hid h1
  have H2 := Go.Lib.hid h2
  have g1 := frexp_bits x (by omega) hx
  rw [Int.natCast_emod, show ((4503599627370496 : Nat) : Int) = 4503599627370496 from rfl] at g1
  obtain ⟨q, hq⟩ : ∃ q : Nat, (x : Int) / 4503599627370496 = (q : Int) := ⟨x / 4503599627370496, by omega⟩
  have hq1 : 1023 ≤ (q : Int) := by omega
  have hq2 : (q : Int) ≤ 1054 := by omega
  have g2 := and_i64 q (by omega)
  have hs1 : (s : Int) ≤ 60 := by omega
  have ho : FloatKind.f64.format.order x 0 = some .gt := by
    rw [fmt, Flt.order_words hx (by decide), Nat.compare_eq_gt.2 (by omega)]
  obtain ⟨z, hz⟩ : ∃ z, z = (q - s) * 4503599627370496 + x % 4503599627370496 := ⟨_, rfl⟩
  have g3 : bits .or .u64 ((x : Int) % 4503599627370496) ((-(s : Int) + ((q : Int) - 1023) + 1023) * 4503599627370496) = (z : Int) := by
    have := or_exp (x % 4503599627370496) (q - s) (Nat.mod_lt _ (by decide)) (by omega)
    rw [Int.natCast_emod, show ((4503599627370496 : Nat) : Int) = 4503599627370496 from rfl, show ((q - s : Nat) : Int) = -(s : Int) + ((q : Int) - 1023) + 1023 by omega] at this
    rw [this, hz]
  have hqx : x / 4503599627370496 = q := by omega
  have hz1 : z / 4503599627370496 = q - s := by omega
  have hzm : Flt.mag z = Flt.mag x := by
    unfold Flt.mag
    rw [if_neg (by omega), if_neg (by omega)]
    omega
  have hzv : Flt.Is z (m * Flt.two (1074 - s)) := by
    refine ⟨by unfold Flt.inf; omega, ?_⟩
    have hv := hi.val
    rw [val_eq, show Flt.ex x = Flt.ex z + s by unfold Flt.ex; omega, two_add, show (1074 : Nat) = (1074 - s) + s by omega, two_add, ← Nat.mul_assoc, ← Nat.mul_assoc] at hv
    have := Nat.eq_of_mul_eq_mul_right (two_pos s) hv
    rw [val_eq, hzm, this]
  obtain ⟨y, hy1, hy2⟩ := Flt.pw_mul 0 (by omega) hzv (by omega) (by unfold Flt.ex; omega)
  have hr1 : ∀ w, (binOp .mul 23 (.float .f64 4607182418800017408) (.float .f64 z)).run Try.prog w = .ok (.float .f64 y) w := fun w => run_float_arith w .mul 23 .f64 4607182418800017408 z y hy1
  have HF : Hid (Half y m (1074 - s)) := Go.Lib.hid ⟨by rw [Nat.pow_zero, Nat.mul_one] at hy2; exact hy2⟩
  have k1 := run_bits
  have k2 := run_from'
  clear hi hx h1 h2 hs hy1 hy2 hzv hzm hz1 hqx hz
  go_enter Try.func21, Try.ntmps21
  go_wp2_with fail
  go_at_call 23
  refine (isinf_any _ _ HX.out).mono ?_
  rintro e w' ⟨rfl, rfl⟩
  go_wp2_with fail
  go_at_call 24
  refine (isnan_any _ _ HX.out).mono ?_
  rintro e w' ⟨rfl, rfl⟩
  go_wp2_with fail
  go_at_call 25
  refine (normalize_same _ _ (by have := H1.out; omega) HX.out).mono ?_
  rintro e w' ⟨rfl, rfl⟩
  go_wp2
  go_ret
  exact ⟨y, rfl, rfl, HF.out⟩
theorem ldexp_zero (s : Int) (w : World) : Calls Try.prog 21 #[.float .f64 0, .int .i64 s] w fun e w' => e = .returned (.float .f64 0) ∧ w' = w := by
  have ho : FloatKind.f64.format.order 0 0 = some .eq := by decide
  go_enter Try.func21, Try.ntmps21
  go_wp2
  go_ret
  exact ⟨rfl, rfl⟩
theorem Ldexp_of (x z : Nat) (s : Int) (w : World) (R : Nat → Prop) (h : Calls Try.prog 21 #[.float .f64 x, .int .i64 s] w fun e w' => ∃ z : Nat, e = .returned (.float .f64 z) ∧ w' = w ∧ R z) : Calls Try.prog 16 #[.float .f64 x, .int .i64 s] w fun e w' => ∃ z : Nat, e = .returned (.float .f64 z) ∧ w' = w ∧ R z := by
  have H := Go.Lib.hid h
  clear h
  go_enter Try.func16, Try.ntmps16
  go_wp2_with fail
  go_at_call 21
  refine H.out.mono ?_
  rintro e w' ⟨z, rfl, rfl, hz⟩
  have HZ := Go.Lib.hid hz
  clear hz H
  go_wp2
  go_ret
  exact ⟨z, rfl, rfl, HZ.out⟩
/-- A whole number, by a power of two. -/
theorem Ldexp_nat (m s : Nat) (w : World) (hm : m < 4294967296) (hs : s ≤ 60) : Calls Try.prog 16 #[.float .f64 (Ieee.double.nearest false m 0), .int .i64 (-(s : Int))] w fun e w' => ∃ z : Nat, e = .returned (.float .f64 z) ∧ w' = w ∧ Half z m (1074 - s) := by
  have hi := Flt.of_nat m (by omega)
  refine Ldexp_of _ 0 _ w (fun z => Half z m (1074 - s)) ?_
  rcases Nat.eq_zero_or_pos m with h0 | h0
  · subst h0
    have e : Ieee.double.nearest false 0 0 = 0 := by decide
    rw [e]
    exact (ldexp_zero _ w).mono fun e w' ⟨h1, h2⟩ => ⟨0, h1, h2, ⟨by decide, by rw [Nat.zero_mul]; decide⟩⟩
  · refine ldexp_any _ m s w hi ?_ ?_ hs
    · rcases Nat.lt_or_ge (Ieee.double.nearest false m 0) 4607182418800017408 with h | h
      · have h1 := Flt.val_lt h
        rw [hi.val, is_one.val] at h1
        have h2 : 1 * Flt.two 1074 ≤ m * Flt.two 1074 := Nat.mul_le_mul_right _ h0
        omega
      · exact h
    · rcases Nat.lt_or_ge (Ieee.double.nearest false m 0) 4751297606875873280 with h | h
      · exact h
      · have h1 := Flt.val_le h
        have h2 : Flt.val 4751297606875873280 = Flt.two (52 + 1054) := val_of _ 52 1054 (by decide) (by decide)
        rw [hi.val, h2, show (52 + 1054 : Nat) = 32 + 1074 from rfl, two_add] at h1
        have h3 := Nat.le_of_mul_le_mul_right h1 (two_pos _)
        have h4 : Flt.two 32 = 4294967296 := by decide
        omega
set_option maxHeartbeats 1000000 in
theorem floors_any (a0 m0 k0 : Int) (w : World) (ha : (Lit.int .u16 a0).wf = true) (hm : (Lit.int .u32 m0).wf = true) (hk : (Lit.int .u8 k0).wf = true) : Calls Try.prog 8 #[.int .u16 a0, .int .u32 m0, .int .u8 k0] w fun e w' => e = .returned (.bool true) ∧ Below w.heap.size w w' := by
  have ha0 := kind_bounds _ ha
  have hm0 := kind_bounds _ hm
  have hk0 := kind_bounds _ hk
  rw [show IntKind.u16.min = 0 by decide, show IntKind.u16.max = 65535 by decide] at ha0
  rw [show IntKind.u32.min = 0 by decide, show IntKind.u32.max = 4294967295 by decide] at hm0
  rw [show IntKind.u8.min = 0 by decide, show IntKind.u8.max = 255 by decide] at hk0
  obtain ⟨a, rfl⟩ := Int.eq_ofNat_of_zero_le ha0.1
  obtain ⟨m, rfl⟩ := Int.eq_ofNat_of_zero_le hm0.1
  obtain ⟨s, hs⟩ : ∃ s : Nat, k0 % 61 = (s : Int) := ⟨(k0 % 61).toNat, by omega⟩
  obtain ⟨hk1, hk2⟩ := hk0
  have hs2 : (s : Int) ≤ 60 := by omega
  have ha1 : (a : Int) ≤ 65535 := by omega
  have hm1 : (m : Int) ≤ 4294967295 := by omega
  have hp : a * m ≤ 65535 * 4294967295 := Nat.mul_le_mul (by omega) (by omega)
  have hc1 := conv_nat 31 .u32 m (by kernel_rfl)
  obtain ⟨y, hy⟩ : ∃ y, y = Ieee.double.nearest false m 0 := ⟨_, rfl⟩
  have HLD : Hid (∀ w, Calls Try.prog 16 #[.float .f64 y, .int .i64 (-(s : Int))] w fun e w' => ∃ z : Nat, e = .returned (.float .f64 z) ∧ w' = w ∧ Half z m (1074 - s)) := Go.Lib.hid (by intro w; rw [hy]; exact Ldexp_nat m s w (by omega) (by omega))
  rw [← hy] at hc1
  have HP := Go.Lib.hid hp
  have hp0 : 0 ≤ (a : Int) * m := by rw [← Int.natCast_mul]; omega
  have hp1 : (a : Int) * m ≤ 281470681677825 := by rw [← Int.natCast_mul]; omega
  have e1 : ((a * m / 2 ^ s : Nat) : Int) = (a : Int) * m / 2 ^ s := by simp
  have EE1 := Go.Lib.hid e1
  have HS : Hid (s = 60 → (a : Int) * m / 2 ^ s = 0) := Go.Lib.hid (fun h => by subst h; rw [show (2 : Int) ^ 60 = 1152921504606846976 by decide]; omega)
  clear ha hm hk ha0 hm0 hy hp e1
  by_cases h60 : s < 60
  all_goals
    go_enter Try.func8, Try.ntmps8
    go_wp2_with fail
    go_at_call 16
    refine (HLD.out _).mono ?_
    rintro e w' ⟨z, rfl, rfl, hz⟩
    have E1 := Go.Lib.hid (Half.times (A := a) hz (by omega) (by omega) (by have := HP.out; have : a * m / 2 ^ s ≤ a * m := Nat.div_le_self _ _; omega))
    have hzl := hz.is.fin
    unfold Flt.inf at hzl
    have HL := Go.Lib.hid (show z < 18446744073709551616 by omega)
    clear hz hzl
    go_wp2_with fail
    go_at_call 10
    refine (times_any _ _ _ HL.out).mono ?_
    rintro e w' ⟨rfl, rfl⟩
    rw [E1.out, EE1.out]
    try rw [HS.out (by omega)]
    go_wp2_with fail
    go_at_call 12
    refine (awake_any _).mono ?_
    rintro e w' ⟨rfl, rfl⟩
    go_wp2
    go_ret
    exact ⟨rfl, Below.refl _ _⟩
end Go.Proofs.Ytanklkbggjchfaa
