/- Floats that are numbers from 0 on: what they stand for, in parts of 2 to the -1074; which word is nearest to what a word can tell. -/
import Ieee.Arith
namespace Flt
open Ieee

/-- Rung of infinity. -/
def inf : Nat := 9218868437227405312
theorem inf_eq : double.infRung = inf := by decide
theorem binade_eq : double.binade = 4503599627370496 := by decide
theorem sign_eq : double.signWeight = 9223372036854775808 := by decide
theorem least_eq : double.leastPlace = -1074 := by decide
theorem fb_eq : double.fractionBits = 52 := rfl

def mag (x : Nat) : Nat := if x < 4503599627370496 then x else 4503599627370496 + x % 4503599627370496
def ex (x : Nat) : Nat := x / 4503599627370496 - 1
/-- A float's number, in parts of 2 to the -1074. -/
def val (x : Nat) : Nat := mag x * 2 ^ ex x

theorem read_pos {x : Nat} (h : x < inf) : double.read x = .number false (mag x) (-1074 + (ex x : Nat)) := by
  unfold Format.read mag ex
  rw [sign_eq, binade_eq, inf_eq, least_eq]
  unfold inf at *
  have h1 : x / 9223372036854775808 = 0 := by omega
  have h2 : x % 9223372036854775808 = x := by omega
  simp only [h1, h2]
  by_cases hx : x < 4503599627370496
  · rw [if_pos hx, if_pos hx]
    have : x / 4503599627370496 - 1 = 0 := by omega
    rw [this]; rfl
  · rw [if_neg hx, if_neg hx, if_pos h]; rfl
theorem mag_lt (x : Nat) : mag x < 9007199254740992 := by unfold mag; split <;> omega
theorem val_pos {x : Nat} (h : 0 < x) : 0 < val x := by
  unfold val
  have : 0 < mag x := by unfold mag; split <;> omega
  exact Nat.mul_pos this (Nat.pos_of_ne_zero (by simp))
theorem val_zero : val 0 = 0 := by decide

theorem log2_lt {m k : Nat} (h : m < 2 ^ k) (hm : m ≠ 0) : m.log2 < k := (Nat.log2_lt hm).2 h
theorem log2_mul_pow {q : Nat} (hq : q ≠ 0) (d : Nat) : (q * 2 ^ d).log2 = q.log2 + d := by
  have h1 := Nat.log2_self_le hq
  have h2 := Nat.lt_log2_self (n := q)
  have hp : 0 < 2 ^ d := Nat.pos_of_ne_zero (by simp)
  have hne : q * 2 ^ d ≠ 0 := Nat.mul_ne_zero hq (by simp)
  apply Nat.le_antisymm
  · have : (q * 2 ^ d).log2 < q.log2 + 1 + d := by
      rw [Nat.log2_lt hne, Nat.pow_add]
      exact Nat.mul_lt_mul_of_pos_right h2 hp
    omega
  · rw [Nat.le_log2 hne, Nat.pow_add]
    exact Nat.mul_le_mul_right _ h1

/-- An exact cut. -/
theorem cut_exact (way : Toward) (neg : Bool) (n s : Nat) : way.cut neg (n * 2 ^ s) s = n := by
  unfold Toward.cut
  by_cases hn : n = 0
  · subst hn
    simp
    cases way <;> simp
  have hs : min s ((n * 2 ^ s).log2 + 2) = s := by rw [log2_mul_pow hn]; omega
  rw [hs, Nat.one_shiftLeft]
  dsimp only
  rw [Nat.mul_div_cancel _ (Nat.pos_of_ne_zero (by simp)), Nat.mul_mod_left]
  have hp : 0 < 2 ^ s := Nat.pos_of_ne_zero (by simp)
  cases way <;> simp

theorem nearest_val (q d : Nat) (place : Int) (hq : 0 < q) (hq2 : q < 9007199254740992) (hp : -1074 ≤ place + d) (hi : place + d ≤ 971) :
    double.nearest false (q * 2 ^ d) place < inf ∧ val (double.nearest false (q * 2 ^ d) place) = q * 2 ^ (place + d + 1074).toNat := by
  have hq0 : q ≠ 0 := by omega
  have hne : q * 2 ^ d ≠ 0 := Nat.mul_ne_zero hq0 (by simp)
  have hl : q.log2 ≤ 52 := by have := log2_lt (m := q) (k := 53) (by omega) hq0; omega
  have hl1 := Nat.log2_self_le hq0
  have hl2 := Nat.lt_log2_self (n := q)
  unfold Format.nearest
  rw [if_neg hne, least_eq, fb_eq, binade_eq, inf_eq, log2_mul_pow hq0]
  generalize hlast : max (place + ((q.log2 + d : Nat) : Int) - (52 : Nat)) (-1074) = last
  -- what is kept
  obtain ⟨e, he⟩ : ∃ e : Nat, last + 1074 = (e : Int) := ⟨(last + 1074).toNat, by omega⟩
  obtain ⟨t, ht⟩ : ∃ t : Nat, place + d - last = (t : Int) := ⟨(place + d - last).toNat, by omega⟩
  have hkept : Toward.even.cut false ((q * 2 ^ d) <<< (place - last).toNat) (last - place).toNat = q * 2 ^ t := by
    rw [Nat.shiftLeft_eq]
    have : q * 2 ^ d * 2 ^ (place - last).toNat = (q * 2 ^ t) * 2 ^ (last - place).toNat := by
      rw [Nat.mul_assoc, Nat.mul_assoc, ← Nat.pow_add, ← Nat.pow_add]
      congr 2; omega
    rw [this, cut_exact]
  dsimp only
  rw [hkept]
  have hk53 : q * 2 ^ t < 9007199254740992 := by
    have h1 : q * 2 ^ t < 2 ^ (q.log2 + 1) * 2 ^ t := Nat.mul_lt_mul_of_pos_right hl2 (Nat.pos_of_ne_zero (by simp))
    rw [← Nat.pow_add] at h1
    have h2 : 2 ^ (q.log2 + 1 + t) ≤ 2 ^ 53 := Nat.pow_le_pow_right (by omega) (by omega)
    have h3 : (2 : Nat) ^ 53 = 9007199254740992 := by decide
    omega
  have hk52 : e = 0 ∨ 4503599627370496 ≤ q * 2 ^ t := by
    by_cases h0 : e = 0
    · exact .inl h0
    · right
      have h1 : 2 ^ q.log2 * 2 ^ t ≤ q * 2 ^ t := Nat.mul_le_mul_right _ hl1
      rw [← Nat.pow_add, show q.log2 + t = 52 by omega] at h1
      have h3 : (2 : Nat) ^ 52 = 4503599627370496 := by decide
      omega
  have hlt : (last - -1074).toNat = e := by omega
  have he2 : e ≤ 2045 := by omega
  rw [hlt]
  unfold Format.word
  simp only [Bool.false_eq_true, if_false]
  have hres : q * 2 ^ (place + d + 1074).toNat = q * 2 ^ t * 2 ^ e := by
    rw [Nat.mul_assoc, ← Nat.pow_add]; congr 2; omega
  rw [hres]
  generalize q * 2 ^ t = K at hk53 hk52
  have hle : e * 4503599627370496 + K < inf := by unfold inf; omega
  rw [Nat.min_eq_left (Nat.le_of_lt hle)]
  refine ⟨hle, ?_⟩
  unfold val mag ex
  by_cases hx : e * 4503599627370496 + K < 4503599627370496
  · have e0 : e = 0 := by omega
    subst e0
    rw [if_pos hx, show (0 * 4503599627370496 + K) / 4503599627370496 - 1 = 0 by omega]
    simp
  · rw [if_neg hx]
    have h1 : (e * 4503599627370496 + K) / 4503599627370496 - 1 = e := by omega
    rw [h1]
    congr 1
    omega

/-- x is a number from 0 on, v of those parts. -/
structure Is (x v : Nat) : Prop where
  fin : x < inf
  val : Flt.val x = v
theorem Is.read {x v : Nat} (h : Is x v) : double.read x = .number false (mag x) (-1074 + (ex x : Nat)) := read_pos h.fin

/-- A power of two, unopened. -/
def two (e : Nat) : Nat := 2 ^ e

/-- Whole numbers are floats. -/
theorem of_nat (n : Nat) (h : n < 9007199254740992) : Is (double.nearest false n 0) (n * two 1074) := by
  by_cases h0 : n = 0
  · subst h0; exact ⟨by decide, by rw [Nat.zero_mul]; decide⟩
  · have := nearest_val n 0 0 (by omega) h (by omega) (by omega)
    rw [Nat.pow_zero, Nat.mul_one] at this
    exact ⟨this.1, this.2.trans (congrArg (fun e => n * two e) (show ((0 : Int) + ((0 : Nat) : Int) + 1074).toNat = 1074 from rfl))⟩

/-- Two floats, one beside the other. -/
theorem order_pos {x y : Nat} (hx : x < inf) (hy : y < inf) : double.order x y = some (compare (val x) (val y)) := by
  unfold Format.order
  rw [read_pos hx, read_pos hy]
  unfold Datum.order signed
  simp only [Bool.false_eq_true, if_false]
  congr 1
  unfold val
  generalize ex x = i
  generalize ex y = j
  generalize mag x = m
  generalize mag y = n
  generalize hb : min i j = b
  have h1 : ((-1074 + (i : Int)) - min (-1074 + (i : Int)) (-1074 + (j : Int))).toNat = i - b := by omega
  have h2 : ((-1074 + (j : Int)) - min (-1074 + (i : Int)) (-1074 + (j : Int))).toNat = j - b := by omega
  rw [h1, h2, Nat.shiftLeft_eq, Nat.shiftLeft_eq]
  have e1 : m * 2 ^ i = m * 2 ^ (i - b) * 2 ^ b := by rw [Nat.mul_assoc, ← Nat.pow_add]; congr 2; omega
  have e2 : n * 2 ^ j = n * 2 ^ (j - b) * 2 ^ b := by rw [Nat.mul_assoc, ← Nat.pow_add]; congr 2; omega
  rw [e1, e2]
  have hp : 0 < 2 ^ b := Nat.pos_of_ne_zero (by simp)
  generalize m * 2 ^ (i - b) = M
  generalize n * 2 ^ (j - b) = N
  rcases Nat.lt_trichotomy M N with h | h | h
  · rw [Nat.compare_eq_lt.2 (Nat.mul_lt_mul_of_pos_right h hp)]
    exact Int.compare_eq_lt.2 (by omega)
  · subst h; rw [Nat.compare_eq_eq.2 rfl]; exact Int.compare_eq_eq.2 rfl
  · rw [Nat.compare_eq_gt.2 (Nat.mul_lt_mul_of_pos_right h hp)]
    exact Int.compare_eq_gt.2 (by omega)
end Flt
