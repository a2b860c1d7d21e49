/- Products of floats and powers of two, halves, whole parts. -/
import Derived.Test.YtanklkbggjchfaaFltA
namespace Flt
open Ieee

/-- The word of 2 to the s. -/
def pw (s : Nat) : Nat := (1023 + s) * 4503599627370496
theorem pw_read (s : Nat) (h : s ≤ 1000) : double.read (pw s) = .number false 4503599627370496 ((s : Int) - 52) := by
  have hl : pw s < inf := by unfold pw inf; omega
  rw [read_pos hl]
  have h1 : mag (pw s) = 4503599627370496 := by unfold mag pw; rw [if_neg (by omega)]; omega
  have h2 : ex (pw s) = 1022 + s := by unfold ex pw; omega
  rw [h1, h2]
  congr 1
  omega
theorem mul_pw {x v : Nat} (s : Nat) (hs : s ≤ 1000) (hx : Is x v) (h0 : 0 < x) (hi : ex x + s ≤ 2045) : ∃ y, double.mul x (pw s) = some y ∧ Is y (v * 2 ^ s) := by
  have hm : 0 < mag x := by unfold mag; split <;> omega
  have hm2 := mag_lt x
  refine ⟨_, by unfold Format.mul; rw [hx.read, pw_read s hs]; rfl, ?_⟩
  have := nearest_val (mag x) 52 ((-1074 + (ex x : Nat)) + ((s : Int) - 52)) hm hm2 (by omega) (by omega)
  rw [show (2 : Nat) ^ 52 = 4503599627370496 from by decide] at this
  refine ⟨this.1, ?_⟩
  show val (double.nearest (false ^^ false) (mag x * 4503599627370496) _) = _
  rw [show (false ^^ false) = false from rfl, this.2, ← hx.val]
  unfold val
  rw [Nat.mul_assoc, ← Nat.pow_add]
  congr 2
  omega
theorem pw_mul {x v : Nat} (s : Nat) (hs : s ≤ 1000) (hx : Is x v) (h0 : 0 < x) (hi : ex x + s ≤ 2045) : ∃ y, double.mul (pw s) x = some y ∧ Is y (v * 2 ^ s) := by
  have hm : 0 < mag x := by unfold mag; split <;> omega
  have hm2 := mag_lt x
  refine ⟨_, by unfold Format.mul; rw [hx.read, pw_read s hs]; rfl, ?_⟩
  have := nearest_val (mag x) 52 (((s : Int) - 52) + (-1074 + (ex x : Nat))) hm hm2 (by omega) (by omega)
  rw [show (2 : Nat) ^ 52 = 4503599627370496 from by decide, Nat.mul_comm] at this
  refine ⟨this.1, ?_⟩
  show val (double.nearest (false ^^ false) (4503599627370496 * mag x) _) = _
  rw [show (false ^^ false) = false from rfl, this.2, ← hx.val]
  unfold val
  rw [Nat.mul_assoc, ← Nat.pow_add]
  congr 2
  omega
/-- A half, if it is a float. -/
theorem half_of {x v : Nat} (hx : Is x v) (h0 : 0 < ex x) : ∃ y, double.div x (pw 1) = some y ∧ y < inf ∧ val y * 2 = v := by
  have hx0 : 0 < x := by unfold ex at h0; omega
  have hm : 0 < mag x := by unfold mag; split <;> omega
  have hm2 := mag_lt x
  have he : ex x ≤ 2045 := by have := hx.fin; unfold ex; unfold inf at this; omega
  have hl : (mag x).log2 ≤ 52 := by have := log2_lt (m := mag x) (k := 53) (by omega) (by omega); omega
  have e54 : double.fractionBits + 2 = 54 := rfl
  have el : Nat.log2 4503599627370496 = 52 := by
    have := log2_mul_pow (q := 1) (by decide) 52
    rwa [show 1 * 2 ^ 52 = 4503599627370496 from by decide, show Nat.log2 1 = 0 from by decide] at this
  obtain ⟨r, hr⟩ : ∃ r, 54 + 52 - (mag x).log2 = r + 54 := ⟨52 - (mag x).log2, by omega⟩
  have hd : mag x <<< (r + 54) = 4503599627370496 * (mag x * 2 ^ (r + 2)) := by
    rw [Nat.shiftLeft_eq, show r + 54 = 52 + (r + 2) by omega, Nat.pow_add, show (2 : Nat) ^ 52 = 4503599627370496 from by decide]
    ac_rfl
  have hq : 2 * (4503599627370496 * (mag x * 2 ^ (r + 2)) / 4503599627370496) + ((4503599627370496 * (mag x * 2 ^ (r + 2))) % 4503599627370496 != 0).toNat = mag x * 2 ^ (r + 3) := by
    rw [Nat.mul_div_cancel_left _ (by omega), Nat.mul_mod_right]
    simp [Nat.pow_succ]; ac_rfl
  have hg : (Datum.quotient (double.fractionBits + 2) (.number false (mag x) (-1074 + (ex x : Nat))) (.number false 4503599627370496 (((1 : Nat) : Int) - 52))) =
      some (.number false (mag x * 2 ^ (r + 3)) (-1074 + (ex x : Nat) - (((1 : Nat) : Int) - 52) - ((r + 54 : Nat) : Int) - 1)) := by
    unfold Datum.quotient
    dsimp only
    rw [if_neg (by omega)]
    rw [e54, el, hr, hd, hq]
    rfl
  have := nearest_val (mag x) (r + 3) (-1074 + (ex x : Nat) - (((1 : Nat) : Int) - 52) - ((r + 54 : Nat) : Int) - 1) hm hm2 (by omega) (by omega)
  refine ⟨_, by unfold Format.div; rw [hx.read, pw_read 1 (by omega), hg]; rfl, this.1, ?_⟩
  show val (double.nearest false (mag x * 2 ^ (r + 3)) _) * 2 = _
  rw [this.2, ← hx.val]
  unfold val
  rw [Nat.mul_assoc, ← Nat.pow_succ]
  congr 2
  omega
end Flt
namespace Flt
open Ieee
/-- A whole float, taken for a whole number. -/
theorem whole_of {x n : Nat} (hx : Is x (n * two 1074)) : (double.read x).toInt .zero = some (n : Int) := by
  rw [hx.read]
  unfold Datum.toInt Datum.integral
  dsimp only
  have hv := hx.val
  unfold val two at hv
  generalize ex x = e at hv
  generalize mag x = m at hv
  have : Toward.zero.cut false (m <<< ((-1074 : Int) + (e : Nat)).toNat) (-((-1074 : Int) + (e : Nat))).toNat = n := by
    rw [Nat.shiftLeft_eq]
    have h : m * 2 ^ ((-1074 : Int) + (e : Nat)).toNat = n * 2 ^ (-((-1074 : Int) + (e : Nat))).toNat := by
      generalize hk : (1074 : Nat) = k at hv
      have hk' : (-1074 : Int) = -(k : Int) := by omega
      rw [hk']
      rcases Nat.le_total e k with h | h
      · rw [show (-(k : Int) + (e : Nat)).toNat = 0 by omega, show (-(-(k : Int) + (e : Nat))).toNat = k - e by omega, Nat.pow_zero, Nat.mul_one]
        have h2 : n * 2 ^ k = n * 2 ^ (k - e) * 2 ^ e := by rw [Nat.mul_assoc, ← Nat.pow_add]; congr 2; omega
        rw [h2] at hv
        exact Nat.eq_of_mul_eq_mul_right (Nat.pos_of_ne_zero (by simp)) hv
      · rw [show (-(k : Int) + (e : Nat)).toNat = e - k by omega, show (-(-(k : Int) + (e : Nat))).toNat = 0 by omega, Nat.pow_zero, Nat.mul_one]
        have h2 : m * 2 ^ e = m * 2 ^ (e - k) * 2 ^ k := by rw [Nat.mul_assoc, ← Nat.pow_add]; congr 2; omega
        rw [h2] at hv
        exact Nat.eq_of_mul_eq_mul_right (Nat.pos_of_ne_zero (by simp)) hv
    rw [h, cut_exact]
  rw [this]
  simp [signed]
/-- The same digits, from a half up to one. -/
theorem frac_of {y : Nat} (h1 : 4503599627370496 ≤ y) : Is (4602678819172646912 + y % 4503599627370496) (mag y * 2 ^ 1021) := by
  refine ⟨by unfold inf; omega, ?_⟩
  unfold val
  rw [show ex (4602678819172646912 + y % 4503599627370496) = 1021 by unfold ex; omega]
  congr 1
  unfold mag
  rw [if_neg (by omega), if_neg (by omega)]
  omega
theorem lead_of {y : Nat} (h1 : 4503599627370496 ≤ y) : ∃ z, double.mul (4602678819172646912 + y % 4503599627370496) (pw 53) = some z ∧ (double.read z).toInt .zero = some (mag y : Int) := by
  obtain ⟨z, hz, hv⟩ := mul_pw 53 (by omega) (frac_of h1) (by omega) (by unfold ex; omega)
  refine ⟨z, hz, whole_of ?_⟩
  have e : mag y * 2 ^ 1021 * 2 ^ 53 = mag y * two 1074 := by
    unfold two
    generalize h : (1021 : Nat) = k
    rw [show (1074 : Nat) = k + 53 by omega, Nat.mul_assoc, ← Nat.pow_add]
  rwa [e] at hv
/-- A float below all that are written out: as one that is. -/
theorem norm_of {x : Nat} (h0 : 0 < x) (h1 : x < 4503599627370496) : ∃ y, double.mul x (pw 52) = some y ∧ y < inf ∧ 4503599627370496 ≤ y ∧ val y = x * 2 ^ 52 := by
  have hx : Is x (val x) := ⟨by unfold inf; omega, rfl⟩
  have he : ex x = 0 := by unfold ex; omega
  obtain ⟨y, hy, hv⟩ := mul_pw 52 (by omega) hx h0 (by omega)
  have hval : val x = x := by unfold val mag; rw [if_pos h1, he]; simp
  rw [hval] at hv
  refine ⟨y, hy, hv.fin, ?_, hv.val⟩
  rcases Nat.lt_or_ge y 4503599627370496 with h | h
  · have h2 : val y = y := by unfold val mag ex; rw [if_pos h, show y / 4503599627370496 - 1 = 0 by omega]; simp
    have h3 := hv.val
    rw [h2] at h3
    omega
  · exact h
end Flt
