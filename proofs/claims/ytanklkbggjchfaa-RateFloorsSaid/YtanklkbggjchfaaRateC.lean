/- An amount taken so many times: the function. -/
import Derived.Test.YtanklkbggjchfaaRateB
namespace Go.Proofs.Ytanklkbggjchfaa
open Go.RowKit
set_option linter.unusedVariables false
/-- A float's magnitude. -/
def tz (x : Nat) : Nat := if x = 9223372036854775808 then 0 else x
def timesV (a : Int) (x : Nat) : Int × Int :=
  if Flt.may x = false then (0, 1) else if a < 0 ∨ 1125899906842624 < a then (0, 9) else if tim a.toNat (tz x) ≤ 1125899906842624 then (((tim a.toNat (tz x) : Nat) : Int), 0) else (0, 9)
theorem tim_zero (a : Nat) : tim a 0 = 0 := by
  unfold tim
  rw [show Flt.val 0 = 0 from by decide, Nat.mul_zero, Nat.zero_div]
theorem zero_tim (x : Nat) : tim 0 x = 0 := by
  unfold tim
  rw [Nat.zero_mul, Nat.zero_div]
/-- Two words that are V. -/
structure Vh (h l : Int) (V : Nat) : Prop where
  h0 : 0 ≤ h
  h1 : h < 18446744073709551616
  l0 : 0 ≤ l
  l1 : l < 18446744073709551616
  eq : h * 18446744073709551616 + l = (V : Int)
/-- Two words that are to be doubled j times yet. -/
structure Vt (h l j : Int) (A x : Nat) : Prop where
  h0 : 0 ≤ h
  h1 : h < 18446744073709551616
  l0 : 0 ≤ l
  l1 : l < 18446744073709551616
  eq : ∃ V : Nat, h * 18446744073709551616 + l = (V : Int) ∧ V * Flt.two j.toNat = tim A x
theorem Vh.shr {h l : Int} {N n : Nat} (H : Vh h l (N / Flt.two n)) : Hid (Vh (h / 2) (bits .or .u64 (l / 2) (IntKind.u64.wrap (h * 9223372036854775808))) (N / Flt.two (n + 1))) := by
  obtain ⟨a, b, c⟩ := shr_step h l H.h0 H.h1 H.l0 H.l1 _ rfl
  refine Go.Lib.hid ⟨by have := H.h0; omega, by have := H.h1; have := H.h0; omega, a, b, ?_⟩
  rw [c, H.eq, two_add, ← Nat.div_div_eq_div_mul]
  rfl
theorem Vt.big {h l j : Int} {A x : Nat} (H : Vt h l j A x) (hb : 0 < h ∨ 1125899906842624 < l) : ¬ tim A x ≤ 1125899906842624 := by
  obtain ⟨V, h1, h2⟩ := H.eq
  have := H.h0
  have := H.l0
  have h3 : V ≤ V * Flt.two j.toNat := Nat.le_mul_of_pos_right _ (two_pos _)
  omega
theorem Vt.shl {l j : Int} {A x : Nat} (H : Vt 0 l j A x) (hl : l ≤ 1125899906842624) (hj : 0 < j) : Hid (Vt 0 (l * 2) (j - 1) A x) := by
  obtain ⟨V, h1, h2⟩ := H.eq
  have := H.l0
  refine Go.Lib.hid ⟨by omega, by omega, by omega, by omega, V * 2, by omega, ?_⟩
  rw [← h2, show j.toNat = 1 + (j - 1).toNat by omega, two_add, Nat.mul_assoc]
  rfl
theorem Vt.done {l : Int} {A x : Nat} (H : Vt 0 l 0 A x) : ((tim A x : Nat) : Int) = l := by
  obtain ⟨V, h1, h2⟩ := H.eq
  rw [← h2]
  unfold Flt.two
  simp at h1 ⊢
  omega
theorem times_main (a : Int) (x : Nat) (w : World) (ha : 0 < a) (ha2 : a ≤ 1125899906842624) (h0 : 0 < x) (hx : x < Flt.inf) : Calls Try.prog 10 #[.int .i64 a, .float .f64 x] w fun e w' => e = .returned (.tuple #[.int .i64 (timesV a x).1, .int .i64 (timesV a x).2]) ∧ w' = w := by
  have HT : timesV a x = if tim a.toNat x ≤ 1125899906842624 then (((tim a.toNat x : Nat) : Int), (0 : Int)) else (0, 9) := by
    unfold timesV
    rw [(Flt.may_iff x).2 (.inl hx), if_neg (by simp), if_neg (by omega), show tz x = x from if_neg (by unfold Flt.inf at hx; omega)]
  have HTI := Go.Lib.hid HT
  clear HT
  have HX := Go.Lib.hid hx
  have H0 := Go.Lib.hid h0
  have ho : FloatKind.f64.format.order x 0 = some .gt := by
    rw [fmt, Flt.order_words hx (by decide), Nat.compare_eq_gt.2 h0]
  have hm : Flt.may x = true := (Flt.may_iff x).2 (.inl hx)
  have HB : x < 18446744073709551616 := by unfold Flt.inf at hx; omega
  have HBB := Go.Lib.hid HB
  have ha0 : (a == 0) = false := by simp; omega
  clear hx h0 HB
  go_enter Try.func10, Try.ntmps10
  go_wp2_with fail
  go_at_call 13
  refine (right_any _ _ HBB.out).mono ?_
  rintro e w' ⟨rfl, rfl⟩
  rw [hm]
  go_wp2_with fail
  go_at_call 17
  refine (pright_any _ _).mono ?_
  rintro e w' ⟨rfl, rfl⟩
  have hd : decide (-1125899906842624 ≤ a ∧ a ≤ 1125899906842624) = true := by simp; omega
  rw [hd]
  clear hd hm
  go_wp2_with fail
  go_at_call 18
  refine (whole_any _ _ H0.out HX.out).mono ?_
  rintro e w' ⟨m, k, rfl, rfl, hW⟩
  have hk1 := hW.lo
  have hk2 := hW.hi
  have HW := Go.Lib.hid hW
  have hmlt := hW.lt
  have HM := Go.Lib.hid hmlt
  clear hW hmlt
  go_wp2_with fail
  go_at_call 19
  refine (mul_any _ _ _ (by omega) (by omega) (by omega) (by have := HM.out; omega)).mono ?_
  rintro e w' ⟨hi, lo, rfl, rfl, q1, q2, q3, q4, q5⟩
  go_wp2_with fail
  obtain ⟨A, rfl⟩ := Int.eq_ofNat_of_zero_le (show 0 ≤ a by omega)
  have hv : Vh hi lo (A * m / Flt.two (k - k).toNat) := ⟨q1, q2, q3, q4, by rw [q5, Int.sub_self]; unfold Flt.two; simp⟩
  have HV := Go.Lib.hid hv
  clear hv q1 q2 q3 q4 q5 ho
  go_loop [7, 8, 9] (fun e h l => ∃ (j h' l' : Int), e = .int .i64 j ∧ h = .int .u64 h' ∧ l = .int .u64 l' ∧ k ≤ j ∧ j ≤ 971 ∧ Hid (j ≤ 0 ∨ j = k) ∧ Hid (Vh h' l' (A * m / Flt.two (j - k).toNat))) (fun e _ _ => (971 - intOf e).toNat)
  case atStart => exact ⟨k, hi, lo, rfl, rfl, rfl, Int.le_refl _, hk2, .inr rfl, HV⟩
  case round =>
    obtain ⟨j, h, l, rfl, rfl, rfl, hj1, hj2, HJ, HH⟩ := hrel
    have hjl : -1126 ≤ j := by omega
    by_cases hj : j < 0
    · go_wp2
      go_round
      case rel => exact ⟨j + 1, h / 2, _, rfl, rfl, rfl, by omega, by omega, Go.Lib.hid (.inl (by omega)), by rw [show (j + 1 - k).toNat = (j - k).toNat + 1 by omega]; exact HH.out.shr⟩
      case measure => simp [intOf]; omega
    · have hv2 : Vt h l j A x := by
        refine ⟨HH.out.h0, HH.out.h1, HH.out.l0, HH.out.l1, ?_⟩
        obtain ⟨V, hV⟩ : ∃ V, V = A * m / Flt.two (j - k).toNat := ⟨_, rfl⟩
        have hh := HH.out.eq
        rw [← hV] at hh
        refine ⟨V, hh, ?_⟩
        rw [hV]
        rcases HJ.out with h1 | h1
        · obtain rfl : j = 0 := by omega
          rw [tim_neg HW.out (0 - k).toNat (by omega)]
          unfold Flt.two; simp
        · rw [h1, Int.sub_self]
          rw [show A * m / Flt.two (0 : Int).toNat = A * m by unfold Flt.two; simp]
          exact tim_pos HW.out _ (by omega)
      have HV2 := Go.Lib.hid hv2
      clear hv2 HH HJ HV
      go_wp2_with fail
      go_loop [7, 9] (fun e l => ∃ (j l' : Int), e = .int .i64 j ∧ l = .int .u64 l' ∧ 0 ≤ j ∧ j ≤ 971 ∧ Hid (Vt h l' j A x)) (fun e _ => (intOf e).toNat)
      case atStart => exact ⟨j, l, rfl, rfl, by omega, by omega, HV2⟩
      case round =>
        obtain ⟨i, l3, rfl, rfl, hi1, hi2, HI⟩ := hrel
        by_cases hbig : 0 < h ∨ 1125899906842624 < l3
        · have HT9 : Hid (timesV (A : Int) x = (0, 9)) := Go.Lib.hid (by rw [HTI.out]; exact if_neg (HI.out.big hbig))
          by_cases hi0 : 0 < i <;> by_cases hh : 0 < h
          all_goals
            first
              | (have hl3 : 1125899906842624 < l3 := by omega)
              | skip
            go_wp2
            go_ret2
            rw [HT9.out]
            exact ⟨rfl, rfl⟩
        · have e0 : h = 0 := by have := HI.out.h0; omega
          subst e0
          have hl3 : l3 ≤ 1125899906842624 := by omega
          have hl4 : 0 ≤ l3 := HI.out.l0
          have hl5 : decide (1125899906842624 < l3) = false := by simp; omega
          clear hbig
          by_cases hi0 : 0 < i
          · go_wp2
            go_round
            case rel =>
              exact ⟨i - 1, _, rfl, rfl, by omega, by omega, HI.out.shl hl3 hi0⟩
            case measure => simp [intOf]; omega
          · obtain rfl : i = 0 := by omega
            have hT := HI.out.done
            have HT0 : Hid (timesV (A : Int) x = (l3, 0)) := Go.Lib.hid (HTI.out.trans ((if_pos (show tim A x ≤ 1125899906842624 by omega)).trans (congrArg (fun z => (z, (0 : Int))) hT)))
            clear hT
            go_wp2
            go_ret2
            rw [HT0.out]
            exact ⟨rfl, rfl⟩
theorem times_any (a : Int) (x : Nat) (w : World) (hx : x < 18446744073709551616) : Calls Try.prog 10 #[.int .i64 a, .float .f64 x] w fun e w' => e = .returned (.tuple #[.int .i64 (timesV a x).1, .int .i64 (timesV a x).2]) ∧ w' = w := by
  have HBB := Go.Lib.hid hx
  cases hm : Flt.may x with
  | false =>
    have HT : Hid (timesV a x = (0, 1)) := Go.Lib.hid (by unfold timesV; rw [if_pos hm])
    clear hx
    go_enter Try.func10, Try.ntmps10
    go_wp2_with fail
    go_at_call 13
    refine (right_any _ _ HBB.out).mono ?_
    rintro e w' ⟨rfl, rfl⟩
    rw [hm]
    go_wp2
    go_ret2
    rw [HT.out]
    exact ⟨rfl, rfl⟩
  | true =>
    by_cases ha : a < 0 ∨ 1125899906842624 < a
    · have HT : Hid (timesV a x = (0, 9)) := Go.Lib.hid (by unfold timesV; rw [hm, if_neg (by simp), if_pos ha])
      clear hx
      by_cases ha1 : a < 0
      · clear ha
        go_enter Try.func10, Try.ntmps10
        go_wp2_with fail
        go_at_call 13
        refine (right_any _ _ HBB.out).mono ?_
        rintro e w' ⟨rfl, rfl⟩
        rw [hm]
        go_wp2
        go_ret2
        rw [HT.out]
        exact ⟨rfl, rfl⟩
      · have hd : decide (-1125899906842624 ≤ a ∧ a ≤ 1125899906842624) = false := by simp; omega
        clear ha
        go_enter Try.func10, Try.ntmps10
        go_wp2_with fail
        go_at_call 13
        refine (right_any _ _ HBB.out).mono ?_
        rintro e w' ⟨rfl, rfl⟩
        rw [hm]
        go_wp2_with fail
        go_at_call 17
        refine (pright_any _ _).mono ?_
        rintro e w' ⟨rfl, rfl⟩
        rw [hd]
        clear hd hm
        go_wp2
        go_ret2
        rw [HT.out]
        exact ⟨rfl, rfl⟩
    · have hd : decide (-1125899906842624 ≤ a ∧ a ≤ 1125899906842624) = true := by simp; omega
      have hlt : ¬ a < 0 := by omega
      by_cases hz : a = 0
      · subst hz
        have HT : Hid (timesV 0 x = (0, 0)) := Go.Lib.hid (by unfold timesV; rw [hm, if_neg (by simp), if_neg ha, show (0 : Int).toNat = 0 from rfl, zero_tim]; rfl)
        clear hx ha
        go_enter Try.func10, Try.ntmps10
        go_wp2_with fail
        go_at_call 13
        refine (right_any _ _ HBB.out).mono ?_
        rintro e w' ⟨rfl, rfl⟩
        rw [hm]
        go_wp2_with fail
        go_at_call 17
        refine (pright_any _ _).mono ?_
        rintro e w' ⟨rfl, rfl⟩
        rw [hd]
        clear hd hm
        go_wp2
        go_ret2
        rw [HT.out]
        exact ⟨rfl, rfl⟩
      · have ha0 : (a == 0) = false := by simp; omega
        by_cases hxz : x = 0 ∨ x = 9223372036854775808
        · have HT : Hid (timesV a x = (0, 0)) := Go.Lib.hid (by
            have e : tz x = 0 := by rcases hxz with rfl | rfl <;> rfl
            unfold timesV; rw [hm, if_neg (by simp), if_neg ha, e, tim_zero]; rfl)
          have ho : FloatKind.f64.format.order x 0 = some .eq := by rw [fmt]; exact (Flt.order_zero hm).2 hxz
          clear hx ha hz hxz
          go_enter Try.func10, Try.ntmps10
          go_wp2_with fail
          go_at_call 13
          refine (right_any _ _ HBB.out).mono ?_
          rintro e w' ⟨rfl, rfl⟩
          rw [hm]
          go_wp2_with fail
          go_at_call 17
          refine (pright_any _ _).mono ?_
          rintro e w' ⟨rfl, rfl⟩
          rw [hd]
          clear hd hm
          go_wp2
          go_ret2
          rw [HT.out]
          exact ⟨rfl, rfl⟩
        · refine times_main a x w (by omega) (by omega) (by omega) ?_
          rcases (Flt.may_iff x).1 hm with h | h
          · exact h
          · exact absurd (.inr h) hxz
end Go.Proofs.Ytanklkbggjchfaa
