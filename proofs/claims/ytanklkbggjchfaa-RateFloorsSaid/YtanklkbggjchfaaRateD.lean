/- The document's example; which floats may be, by the law's own words; RateRights and RatePlain. -/
import Derived.Test.YtanklkbggjchfaaRateC
import Derived.DataShut
namespace Go.Proofs.Ytanklkbggjchfaa
open Go.RowKit
set_option linter.unusedVariables false
theorem awake_any (w : World) : Calls Try.prog 12 #[] w fun e w' => e = .returned (.bool true) ∧ w' = w := by
  have e1 : timesV 100 4598895795485655695 = (28, 0) := by decide +kernel
  have e2 : timesV 100 4598175219545276416 = (25, 0) := by decide +kernel
  go_enter Try.func12, Try.ntmps12
  go_wp2_with fail
  go_at_call 10
  refine (times_any _ _ _ (by decide)).mono ?_
  rintro e w' ⟨rfl, rfl⟩
  rw [e1]
  go_wp2_with fail
  go_at_call 10
  refine (times_any _ _ _ (by decide)).mono ?_
  rintro e w' ⟨rfl, rfl⟩
  rw [e2]
  go_wp2
  go_ret
  exact ⟨rfl, rfl⟩
theorem lright_any (x : Nat) (w : World) (hx : x < 18446744073709551616) : Calls Try.prog 11 #[.float .f64 x] w fun e w' => e = .returned (.bool (Flt.may x)) ∧ w' = w := by
  cases h : Flt.may x with
  | true =>
    obtain ⟨h1, h2, h3⟩ := Flt.order_may h
    rw [← fmt] at h1 h2 h3
    rcases h1 with h1 | h1 <;> rcases h2 with h2 | h2
    all_goals
      go_enter Try.func11, Try.ntmps11
      go_wp2
      go_ret
      exact ⟨rfl, rfl⟩
  | false =>
    rcases Flt.order_maynot hx h with (h1 | h1) | ⟨h1, h2⟩
    all_goals
      rw [← fmt] at h1
      try rw [← fmt] at h2
      go_enter Try.func11, Try.ntmps11
      go_wp2
      all_goals
        go_ret
        exact ⟨rfl, rfl⟩
theorem order_self (x : Nat) : (Ieee.double.order x x = none ∧ Ieee.double.order x 0 = none) ∨ Ieee.double.order x x = some .eq := by
  unfold Ieee.Format.order
  rw [Flt.zero_read]
  cases h : Ieee.double.read x with
  | number s m i => right; unfold Ieee.Datum.order; simp
  | infinity s => right; unfold Ieee.Datum.order; simp
  | nan s f => left; exact ⟨rfl, rfl⟩
theorem plain_zero (x : Nat) (w : World) (h : FloatKind.f64.format.order x 0 = some .eq) : Calls Try.prog 14 #[.float .f64 x] w fun e w' => e = .returned (.float .f64 0) ∧ w' = w := by
  go_enter Try.func14, Try.ntmps14
  go_wp2
  go_ret
  exact ⟨rfl, rfl⟩
theorem plain_other (x : Nat) (w : World) (h : (FloatKind.f64.format.order x 0 == some .eq) = false) : Calls Try.prog 14 #[.float .f64 x] w fun e w' => e = .returned (.float .f64 x) ∧ w' = w := by
  go_enter Try.func14, Try.ntmps14
  go_wp2
  go_ret
  exact ⟨rfl, rfl⟩
theorem timesV_right {a : Int} {x : Nat} (h : Flt.may x = true) (h0 : 0 ≤ a) (h1 : a ≤ 1125899906842624) : (0 ≤ (timesV a x).1 ∧ (timesV a x).1 ≤ 1125899906842624 ∧ (timesV a x).2 = 0) ∨ timesV a x = (0, 9) := by
  unfold timesV
  rw [h, if_neg (by simp), if_neg (by omega)]
  split
  · left
    refine ⟨?_, ?_, rfl⟩ <;> dsimp only <;> omega
  · exact .inr rfl
theorem rights_any (b a : Int) (w : World) (hb : (Lit.int .u64 b).wf = true) : Calls Try.prog 3 #[.int .u64 b, .int .i64 a] w fun e w' => e = .returned (.bool true) ∧ Below w.heap.size w w' := by
  have hb0 : 0 ≤ b ∧ b ≤ 18446744073709551615 := by
    have := (Lit.wf_int_iff _ _).1 hb
    have h1 : IntKind.u64.min = 0 := by decide
    have h2 : IntKind.u64.max = 18446744073709551615 := by decide
    rw [h1, h2] at this
    exact this
  obtain ⟨x, rfl⟩ := Int.eq_ofNat_of_zero_le hb0.1
  have hx : x < 18446744073709551616 := by omega
  have HX := Go.Lib.hid hx
  clear hb hb0 hx
  have h2 := run_from'
  cases hm : Flt.may x with
  | false =>
    have e1 : timesV a x = (0, 1) := by unfold timesV; rw [if_pos hm]
    have E1 := Go.Lib.hid e1
    have HM := Go.Lib.hid hm
    clear e1 hm
    by_cases h0 : 0 ≤ a <;> by_cases h1 : a ≤ 1125899906842624 <;> try (exfalso; omega)
    all_goals
      go_enter Try.func3, Try.ntmps3
      go_wp2_with fail
      go_at_call 10
      refine (times_any _ _ _ HX.out).mono ?_
      rintro e w' ⟨rfl, rfl⟩
      rw [E1.out]
      go_wp2_with fail
      go_at_call 11
      refine (lright_any _ _ HX.out).mono ?_
      rintro e w' ⟨rfl, rfl⟩
      rw [HM.out]
      go_wp2_with fail
      go_at_call 12
      refine (awake_any _).mono ?_
      rintro e w' ⟨rfl, rfl⟩
      go_wp2_with fail
      go_at_call 13
      refine (right_any _ _ HX.out).mono ?_
      rintro e w' ⟨rfl, rfl⟩
      rw [HM.out]
      go_wp2
      go_ret
      exact ⟨rfl, Below.refl _ _⟩
  | true =>
    have HM := Go.Lib.hid hm
    by_cases h0 : 0 ≤ a <;> by_cases h1 : a ≤ 1125899906842624
    · have hnk := timesV_right hm h0 h1
      cases e1 : timesV a x with | mk n k => ?_
      rw [e1] at hnk
      replace hnk : (0 ≤ n ∧ n ≤ 1125899906842624 ∧ k = 0) ∨ (n = 0 ∧ k = 9) := hnk.imp id (fun h => by injection h with h1 h2; exact ⟨h1, h2⟩)
      have E1 := Go.Lib.hid e1
      clear e1 hm
      rcases hnk with ⟨hn0, hn1, rfl⟩ | ⟨rfl, rfl⟩
      all_goals
        go_enter Try.func3, Try.ntmps3
        go_wp2_with fail
        go_at_call 10
        refine (times_any _ _ _ HX.out).mono ?_
        rintro e w' ⟨rfl, rfl⟩
        rw [E1.out]
        go_wp2_with fail
        go_at_call 11
        refine (lright_any _ _ HX.out).mono ?_
        rintro e w' ⟨rfl, rfl⟩
        rw [HM.out]
        go_wp2_with fail
        go_at_call 12
        refine (awake_any _).mono ?_
        rintro e w' ⟨rfl, rfl⟩
        go_wp2_with fail
        go_at_call 13
        refine (right_any _ _ HX.out).mono ?_
        rintro e w' ⟨rfl, rfl⟩
        rw [HM.out]
        go_wp2
        go_ret
        exact ⟨rfl, Below.refl _ _⟩
    all_goals first | (exfalso; omega) | skip
    all_goals
      first
        | have hq : decide (a ≤ 1125899906842624) = false := by simp; omega
        | have hq : decide (0 ≤ a) = false := by simp; omega
      have e1 : timesV a x = (0, 9) := by unfold timesV; rw [hm, if_neg (by simp), if_pos (by omega)]
      have E1 := Go.Lib.hid e1
      clear e1 hm
      go_enter Try.func3, Try.ntmps3
      go_wp2_with fail
      go_at_call 10
      refine (times_any _ _ _ HX.out).mono ?_
      rintro e w' ⟨rfl, rfl⟩
      rw [E1.out]
      go_wp2_with fail
      go_at_call 11
      refine (lright_any _ _ HX.out).mono ?_
      rintro e w' ⟨rfl, rfl⟩
      rw [HM.out]
      go_wp2_with fail
      go_at_call 12
      refine (awake_any _).mono ?_
      rintro e w' ⟨rfl, rfl⟩
      go_wp2_with fail
      go_at_call 13
      refine (right_any _ _ HX.out).mono ?_
      rintro e w' ⟨rfl, rfl⟩
      rw [HM.out]
      go_wp2
      go_ret
      exact ⟨rfl, Below.refl _ _⟩
theorem ratePlain_any (b : Int) (w : World) (hb : (Lit.int .u64 b).wf = true) : Calls Try.prog 7 #[.int .u64 b] w fun e w' => e = .returned (.bool true) ∧ Below w.heap.size w w' := by
  have hb0 : 0 ≤ b ∧ b ≤ 18446744073709551615 := by
    have := (Lit.wf_int_iff _ _).1 hb
    have h1 : IntKind.u64.min = 0 := by decide
    have h2 : IntKind.u64.max = 18446744073709551615 := by decide
    rw [h1, h2] at this
    exact this
  obtain ⟨x, rfl⟩ := Int.eq_ofNat_of_zero_le hb0.1
  clear hb hb0
  have h2 := run_from'
  have h3 := run_bits
  rcases order_self x with ⟨o1, o2⟩ | o1
  · rw [← fmt] at o1 o2
    have o3 : (FloatKind.f64.format.order x 0 == some .eq) = false := by rw [o2]; rfl
    have O3 := Go.Lib.hid o3
    clear o3
    go_enter Try.func7, Try.ntmps7
    go_wp2_with fail
    go_at_call 14
    refine (plain_other _ _ O3.out).mono ?_
    rintro e w' ⟨rfl, rfl⟩
    go_wp2_with fail
    go_at_call 12
    refine (awake_any _).mono ?_
    rintro e w' ⟨rfl, rfl⟩
    go_wp2
    go_ret
    exact ⟨rfl, Below.refl _ _⟩
  · rw [← fmt] at o1
    by_cases o2 : FloatKind.f64.format.order x 0 = some .eq
    · go_enter Try.func7, Try.ntmps7
      go_wp2_with fail
      go_at_call 14
      refine (plain_zero _ _ o2).mono ?_
      rintro e w' ⟨rfl, rfl⟩
      go_wp2_with fail
      go_at_call 12
      refine (awake_any _).mono ?_
      rintro e w' ⟨rfl, rfl⟩
      go_wp2
      go_ret
      exact ⟨rfl, Below.refl _ _⟩
    · have o3 : (FloatKind.f64.format.order x 0 == some .eq) = false := by simpa using o2
      clear o2
      go_enter Try.func7, Try.ntmps7
      go_wp2_with fail
      go_at_call 14
      refine (plain_other _ _ o3).mono ?_
      rintro e w' ⟨rfl, rfl⟩
      go_wp2_with fail
      go_at_call 12
      refine (awake_any _).mono ?_
      rintro e w' ⟨rfl, rfl⟩
      go_wp2
      go_ret
      exact ⟨rfl, Below.refl _ _⟩
end Go.Proofs.Ytanklkbggjchfaa
