/- RateOnes and RateGrows. -/
import Derived.Test.YtanklkbggjchfaaRateD
namespace Go.Proofs.Ytanklkbggjchfaa
open Go.RowKit
set_option linter.unusedVariables false
theorem timesV_is {a : Int} {x v : Nat} (A V : Nat) (h : Flt.Is x v) (ha : a = (A : Int)) (ha2 : A ≤ 1125899906842624) (hV : A * v / Flt.two 1074 = V) (hV2 : V ≤ 1125899906842624) : timesV a x = ((V : Int), 0) := by
  have hf := h.fin
  have ht : tim A x = V := by unfold tim; rw [h.val, hV]
  subst ha
  unfold timesV
  rw [(Flt.may_iff x).2 (.inl hf), if_neg (by simp), if_neg (by omega), show tz x = x from if_neg (by unfold Flt.inf at hf; omega), Int.toNat_natCast, ht, if_pos hV2]
theorem val_eq (x : Nat) : Flt.val x = Flt.mag x * Flt.two (Flt.ex x) := rfl
theorem val_of (x a b : Nat) (h1 : Flt.mag x = Flt.two a) (h2 : Flt.ex x = b) : Flt.val x = Flt.two (a + b) := by rw [val_eq, h1, h2, two_add]
theorem is_one : Flt.Is 4607182418800017408 (Flt.two 1074) := ⟨by decide, val_of _ 52 1022 (by decide) (by decide)⟩
theorem is_half : Flt.Is 4602678819172646912 (Flt.two 1073) := ⟨by decide, val_of _ 52 1021 (by decide) (by decide)⟩
theorem conv_nat (t : TypeId) (q : IntKind) (n : Nat) (h : (Try.prog.underlying t).isSome = true) (w : World) : (convert t 23 (.int q n)).run Try.prog w = .ok (.float .f64 (Ieee.double.nearest false n 0)) w := by
  rw [run_convert_int_float w t 23 q .f64 n h Try.underlying23]
  have : floatOfInt .f64 (n : Int) = Ieee.double.nearest (decide ((n : Int) < 0)) (n : Int).natAbs 0 := rfl
  rw [this, show decide ((n : Int) < 0) = false by simp, Int.natAbs_natCast]
theorem is_nought : Flt.Is 0 0 := ⟨by decide, by decide⟩
theorem u64_bounds {b : Int} (hb : (Lit.int .u64 b).wf = true) : 0 ≤ b ∧ b ≤ 18446744073709551615 := by
  have := (Lit.wf_int_iff _ _).1 hb
  have h1 : IntKind.u64.min = 0 := by decide
  have h2 : IntKind.u64.max = 18446744073709551615 := by decide
  rw [h1, h2] at this
  exact this
theorem ones_any (b : Int) (w : World) (hb : (Lit.int .u64 b).wf = true) : Calls Try.prog 6 #[.int .u64 b] w fun e w' => e = .returned (.bool true) ∧ Below w.heap.size w w' := by
  have hb0 := u64_bounds hb
  obtain ⟨n, hn⟩ : ∃ n : Nat, b % 1125899906842625 = (n : Int) := ⟨(b % 1125899906842625).toNat, by omega⟩
  have hn2 : n ≤ 1125899906842624 := by omega
  have E1 := Go.Lib.hid (timesV_is (a := (n : Int)) n n is_one rfl hn2 (Nat.mul_div_cancel _ (two_pos _)) hn2)
  have E2 := Go.Lib.hid (timesV_is (a := (n : Int)) n (n / 2) is_half rfl hn2 (by
    rw [show (1074 : Nat) = 1 + 1073 from rfl, two_add]
    exact Nat.mul_div_mul_right _ _ (two_pos _)) (by omega))
  have E3 := Go.Lib.hid (timesV_is (a := (n : Int)) n 0 is_nought rfl hn2 (by rw [Nat.mul_zero, Nat.zero_div]) (by omega))
  have E4 := Go.Lib.hid (timesV_is (a := 1) 1 n (Flt.of_nat n (by omega)) rfl (by omega) (by rw [Nat.one_mul]; exact Nat.mul_div_cancel _ (two_pos _)) hn2)
  have hlt := (Flt.of_nat n (by omega)).fin
  obtain ⟨y, hy⟩ : ∃ y, y = Ieee.double.nearest false n 0 := ⟨_, rfl⟩
  rw [← hy] at E4 hlt
  have hc : ∀ w, (convert 2 23 (.int .i64 n)).run Try.prog w = .ok (.float .f64 y) w := by
    intro w
    rw [hy]
    exact conv_nat 2 .i64 n (by kernel_rfl) w
  have HL := Go.Lib.hid (show y < 18446744073709551616 by unfold Flt.inf at hlt; omega)
  have hn3 : (n : Int) ≤ 1125899906842624 := by omega
  clear hy hlt hb
  go_enter Try.func6, Try.ntmps6
  go_wp2_with fail
  go_at_call 10
  refine (times_any _ _ _ (by decide)).mono ?_
  rintro e w' ⟨rfl, rfl⟩
  rw [E1.out]
  go_wp2_with fail
  go_at_call 10
  refine (times_any _ _ _ (by decide)).mono ?_
  rintro e w' ⟨rfl, rfl⟩
  rw [E2.out]
  go_wp2_with fail
  go_at_call 10
  refine (times_any _ _ _ (by decide)).mono ?_
  rintro e w' ⟨rfl, rfl⟩
  rw [E3.out]
  go_wp2_with fail
  go_at_call 10
  refine (times_any _ _ _ HL.out).mono ?_
  rintro e w' ⟨rfl, rfl⟩
  rw [E4.out]
  go_wp2_with fail
  go_at_call 12
  refine (awake_any _).mono ?_
  rintro e w' ⟨rfl, rfl⟩
  go_wp2
  go_ret
  exact ⟨rfl, Below.refl _ _⟩
theorem tim_mono {a b x y : Nat} (h : a ≤ b) (k : x ≤ y) : tim a x ≤ tim b y := Nat.div_le_div_right (Nat.mul_le_mul h (Flt.val_le k))
/-- Of two amounts, and two floats, in order: what the law asks for. -/
theorem timesV_mono {a b : Int} {x y : Nat} (ha : 0 ≤ a) (hb : b ≤ 1125899906842624) (hab : a ≤ b) (hxy : x ≤ y) (hy : y < Flt.inf) :
    (∃ p q : Int, timesV a x = (p, 0) ∧ timesV b y = (q, 0) ∧ p ≤ q) ∨ timesV b y = (0, 9) ∧ ((∃ p : Int, timesV a x = (p, 0)) ∨ timesV a x = (0, 9)) := by
  have hx : x < Flt.inf := Nat.lt_of_le_of_lt hxy hy
  have e : ∀ {c : Int} {z : Nat}, z < Flt.inf → 0 ≤ c → c ≤ 1125899906842624 → timesV c z = if tim c.toNat z ≤ 1125899906842624 then (((tim c.toNat z : Nat) : Int), (0 : Int)) else (0, 9) := by
    intro c z hz h0 h1
    unfold timesV
    rw [(Flt.may_iff z).2 (.inl hz), if_neg (by simp), if_neg (by omega), show tz z = z from if_neg (by unfold Flt.inf at hz; omega)]
  rw [e hx ha (by omega), e hy (by omega) hb]
  have hm : tim a.toNat x ≤ tim b.toNat y := tim_mono (by omega) hxy
  by_cases h : tim b.toNat y ≤ 1125899906842624
  · rw [if_pos h, if_pos (by omega)]
    exact .inl ⟨_, _, rfl, rfl, by omega⟩
  · rw [if_neg h]
    refine .inr ⟨rfl, ?_⟩
    split
    · exact .inl ⟨_, rfl⟩
    · exact .inr rfl
theorem grows_out (a b x0 y0 : Int) (w : World) (hx : (Lit.int .u64 x0).wf = true) (hy : (Lit.int .u64 y0).wf = true) (h : a < 0 ∨ 1125899906842624 < a ∨ b < 0 ∨ 1125899906842624 < b) : Calls Try.prog 5 #[.int .i64 a, .int .i64 b, .int .u64 x0, .int .u64 y0] w fun e w' => e = .returned (.bool true) ∧ Below w.heap.size w w' := by
  have hx0 := u64_bounds hx
  have hy0 := u64_bounds hy
  obtain ⟨f, hf⟩ : ∃ n : Nat, x0 % 4611686018427387904 = (n : Int) := ⟨(x0 % 4611686018427387904).toNat, by omega⟩
  obtain ⟨g, hg⟩ : ∃ n : Nat, y0 % 4611686018427387904 = (n : Int) := ⟨(y0 % 4611686018427387904).toNat, by omega⟩
  have h2 := run_from'
  clear hx hy
  rcases (show a < 0 ∨ (0 ≤ a ∧ 1125899906842624 < a) ∨ (0 ≤ a ∧ a ≤ 1125899906842624 ∧ b < 0) ∨ (0 ≤ a ∧ a ≤ 1125899906842624 ∧ 0 ≤ b ∧ 1125899906842624 < b) by omega) with h | ⟨h0, h⟩ | ⟨h0, h1, h⟩ | ⟨h0, h1, h3, h⟩
  · go_enter Try.func5, Try.ntmps5
    go_wp2_with fail
    go_at_call 12
    refine (awake_any _).mono ?_
    rintro e w' ⟨rfl, rfl⟩
    go_wp2
    go_ret
    exact ⟨rfl, Below.refl _ _⟩
  · have q1 : decide (a < 0) = false := by simp; omega
    go_enter Try.func5, Try.ntmps5
    go_wp2_with fail
    go_at_call 12
    refine (awake_any _).mono ?_
    rintro e w' ⟨rfl, rfl⟩
    go_wp2
    go_ret
    exact ⟨rfl, Below.refl _ _⟩
  · have q1 : decide (a < 0) = false := by simp; omega
    have q2 : decide (1125899906842624 < a) = false := by simp; omega
    go_enter Try.func5, Try.ntmps5
    go_wp2_with fail
    go_at_call 12
    refine (awake_any _).mono ?_
    rintro e w' ⟨rfl, rfl⟩
    go_wp2
    go_ret
    exact ⟨rfl, Below.refl _ _⟩
  · have q1 : decide (a < 0) = false := by simp; omega
    have q2 : decide (1125899906842624 < a) = false := by simp; omega
    have q3 : decide (b < 0) = false := by simp; omega
    go_enter Try.func5, Try.ntmps5
    go_wp2_with fail
    go_at_call 12
    refine (awake_any _).mono ?_
    rintro e w' ⟨rfl, rfl⟩
    go_wp2
    go_ret
    exact ⟨rfl, Below.refl _ _⟩
theorem grows_in (a b x0 y0 : Int) (w : World) (hx : (Lit.int .u64 x0).wf = true) (hy : (Lit.int .u64 y0).wf = true) (ha0 : 0 ≤ a) (ha : a ≤ 1125899906842624) (hb0 : 0 ≤ b) (hb : b ≤ 1125899906842624) : Calls Try.prog 5 #[.int .i64 a, .int .i64 b, .int .u64 x0, .int .u64 y0] w fun e w' => e = .returned (.bool true) ∧ Below w.heap.size w w' := by
  have hx0 := u64_bounds hx
  have hy0 := u64_bounds hy
  obtain ⟨f, hf⟩ : ∃ n : Nat, x0 % 4611686018427387904 = (n : Int) := ⟨(x0 % 4611686018427387904).toNat, by omega⟩
  obtain ⟨g, hg⟩ : ∃ n : Nat, y0 % 4611686018427387904 = (n : Int) := ⟨(y0 % 4611686018427387904).toNat, by omega⟩
  have h2 := run_from'
  have hf2 : f < Flt.inf := by unfold Flt.inf; omega
  have hg2 : g < Flt.inf := by unfold Flt.inf; omega
  have hf3 : f < 18446744073709551616 := by omega
  have hg3 : g < 18446744073709551616 := by omega
  have HF := Go.Lib.hid hf3
  have HG := Go.Lib.hid hg3
  have mf := Go.Lib.hid ((Flt.may_iff f).2 (.inl hf2))
  have mg := Go.Lib.hid ((Flt.may_iff g).2 (.inl hg2))
  have q1 : decide (a < 0) = false := by simp; omega
  have q2 : decide (1125899906842624 < a) = false := by simp; omega
  have q3 : decide (b < 0) = false := by simp; omega
  have q4 : decide (1125899906842624 < b) = false := by simp; omega
  obtain ⟨A, B, hA, hA2, hAB⟩ : ∃ A B : Int, (b < a ∧ A = b ∧ B = a ∨ a ≤ b ∧ A = a ∧ B = b) ∧ A ≤ B ∧ 0 ≤ A ∧ B ≤ 1125899906842624 := by
    by_cases h : b < a
    · exact ⟨b, a, .inl ⟨h, rfl, rfl⟩, by omega, by omega, by omega⟩
    · exact ⟨a, b, .inr ⟨by omega, rfl, rfl⟩, by omega, by omega, by omega⟩
  obtain ⟨X, Y, hX, hX2, hY2⟩ : ∃ X Y : Nat, (g < f ∧ X = g ∧ Y = f ∨ f ≤ g ∧ X = f ∧ Y = g) ∧ X ≤ Y ∧ Y < Flt.inf := by
    by_cases h : g < f
    · exact ⟨g, f, .inl ⟨h, rfl, rfl⟩, by omega, hf2⟩
    · exact ⟨f, g, .inr ⟨by omega, rfl, rfl⟩, by omega, hg2⟩
  have ho := Flt.order_words hf2 hg2
  rw [← fmt] at ho
  have hm := timesV_mono hAB.1 hAB.2 hA2 hX2 hY2
  obtain ⟨hx1, hx2⟩ := hx0
  obtain ⟨hy1, hy2⟩ := hy0
  clear hx hy hf2 hg2 hf3 hg3 hAB hA2 hX2 hY2
  rcases hA with ⟨hab, rfl, rfl⟩ | ⟨hab, rfl, rfl⟩ <;> rcases hX with ⟨hxy, rfl, rfl⟩ | ⟨hxy, rfl, rfl⟩
  all_goals
    first
      | rw [Nat.compare_eq_gt.2 hxy] at ho
      | (have ho2 : FloatKind.f64.format.order X Y = some .lt ∨ FloatKind.f64.format.order X Y = some .eq := by
          rw [ho]
          rcases Nat.lt_or_eq_of_le hxy with h | h
          · exact .inl (by rw [Nat.compare_eq_lt.2 h])
          · exact .inr (by rw [Nat.compare_eq_eq.2 h])
         have ho3 : (FloatKind.f64.format.order X Y == some .gt) = false := by rcases ho2 with h | h <;> rw [h] <;> rfl
         clear ho ho2)
    clear hxy
    rcases hm with ⟨p, q, e1, e2, hpq⟩ | ⟨e2, ⟨p, e1⟩ | e1⟩
    all_goals
      have E1 := Go.Lib.hid e1
      have E2 := Go.Lib.hid e2
      clear e1 e2
      go_enter Try.func5, Try.ntmps5
      go_wp2_with fail
      go_at_call 11
      refine (lright_any _ _ HF.out).mono ?_
      rintro e w' ⟨rfl, rfl⟩
      rw [mf.out]
      go_wp2_with fail
      go_at_call 11
      refine (lright_any _ _ HG.out).mono ?_
      rintro e w' ⟨rfl, rfl⟩
      rw [mg.out]
      go_wp2_with fail
      go_at_call 10
      first
        | ((with_reducible refine (times_any A X _ HF.out).mono ?_); rintro e w' ⟨rfl, rfl⟩)
        | ((with_reducible refine (times_any A X _ HG.out).mono ?_); rintro e w' ⟨rfl, rfl⟩)
      rw [E1.out]
      go_wp2_with fail
      go_at_call 10
      first
        | ((with_reducible refine (times_any B Y _ HF.out).mono ?_); rintro e w' ⟨rfl, rfl⟩)
        | ((with_reducible refine (times_any B Y _ HG.out).mono ?_); rintro e w' ⟨rfl, rfl⟩)
      rw [E2.out]
      go_wp2_with fail
      go_at_call 12
      refine (awake_any _).mono ?_
      rintro e w' ⟨rfl, rfl⟩
      go_wp2
      go_ret
      exact ⟨rfl, Below.refl _ _⟩
theorem grows_any (a b x0 y0 : Int) (w : World) (hx : (Lit.int .u64 x0).wf = true) (hy : (Lit.int .u64 y0).wf = true) : Calls Try.prog 5 #[.int .i64 a, .int .i64 b, .int .u64 x0, .int .u64 y0] w fun e w' => e = .returned (.bool true) ∧ Below w.heap.size w w' := by
  by_cases h : a < 0 ∨ 1125899906842624 < a ∨ b < 0 ∨ 1125899906842624 < b
  · exact grows_out a b x0 y0 w hx hy h
  · exact grows_in a b x0 y0 w hx hy (by omega) (by omega) (by omega) (by omega)
end Go.Proofs.Ytanklkbggjchfaa
