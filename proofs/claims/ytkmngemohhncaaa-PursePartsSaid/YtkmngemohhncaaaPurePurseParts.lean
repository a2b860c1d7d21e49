/- A part of an amount, by a long division. -/
import Derived.Test.YtkmngemohhncaaaPurePart
import Derived.Test.YtkmngemohhncaaaPAx9
import Derived.OpenShut
namespace Go.Proofs.Ytkmngemohhncaaa.Pure
open Go.RowKit Go.Proofs.Ytkmngemohhncaaa.PA Go.Proofs.YtkmngemohhncaaaW.PrintWords Go.Proofs.YtkmngemohhncaaaW.PrintLast

theorem awake_up : ∀ k, 10 ≤ k → paybooklaw03_awake.f k = some true
  | 0, h => by omega
  | k + 1, h => by
    by_cases hk : k + 1 = 10
    · rw [hk]; exact awake_10
    · exact paybooklaw03_awake.mono k _ (awake_up k (by omega))

theorem long {A : Nat} {w n v : Int} (hA : A ≤ 1125899906842624) (hw0 : 0 ≤ w) (hwn : w ≤ n) (hn1 : 1 ≤ n) (hn : n ≤ 9223372036854775807) (hv : v = (A : Int) * w / n) (i : Nat) : ∀ (k : Nat) (q r : Int), q * n + r = ((A / 2 ^ i : Nat) : Int) * w → 0 ≤ r → r < n → 0 ≤ q → 3 * i + 12 ≤ k → i ≤ 51 → paybooklaw03_PurseParts.l0 k (A : Int) w n v 0 q r ((i : Int) - 1) = some true := by
  induction i with
  | zero =>
    intro k q r h hr0 hr hq hk hi
    obtain ⟨k, rfl⟩ : ∃ m, k = m + 1 := ⟨k - 1, by omega⟩
    have hb := part_le (a := (A : Int)) (w := w) (n := n) (by omega) hw0 hwn hn1
    rw [Nat.pow_zero, Nat.div_one] at h
    have hqv : v = q := by
      rw [hv, ← h, Int.add_comm, Int.add_mul_ediv_right _ _ (by omega), Int.ediv_eq_zero_of_lt hr0 hr, Int.zero_add]
    simp only [paybooklaw03_PurseParts.l0]
    rw [if_neg (by omega), awake_up k (by omega)]
    simp only [Option.bind_some, if_true]
    rw [if_pos hqv, if_pos (by omega), decide_eq_true (by omega)]
  | succ i ih =>
    intro k q r h hr0 hr hq hk hi
    obtain ⟨k, rfl⟩ : ∃ m, k = m + 3 := ⟨k - 3, by omega⟩
    have hP : A / 2 ^ (i + 1) = A / 2 ^ i / 2 := by rw [Nat.pow_succ, Nat.div_div_eq_div_mul]
    have hPA : A / 2 ^ i ≤ A := Nat.div_le_self _ _
    have hqP : q ≤ ((A / 2 ^ (i + 1) : Nat) : Int) := by
      have h1 : ((A / 2 ^ (i + 1) : Nat) : Int) * w ≤ ((A / 2 ^ (i + 1) : Nat) : Int) * n := Int.mul_le_mul_of_nonneg_left hwn (Int.natCast_nonneg _)
      exact Int.le_of_mul_le_mul_right (show q * n ≤ _ * n by omega) (by omega)
    rw [hP] at h hqP
    have esh : shr .i64 (A : Int) ((i : Int)) = ((A / 2 ^ i : Nat) : Int) := by
      unfold shr
      rw [show min ((i : Int)).toNat IntKind.i64.bits = i by simp [IntKind.bits]; omega]
      simp
    have goal : ∀ q' r' : Int, q' * n + r' = 2 * (((A / 2 ^ i / 2 : Nat) : Int) * w) → 0 ≤ r' → r' < n → 0 ≤ q' → q' ≤ 2 * ((A / 2 ^ i / 2 : Nat) : Int) + 1 → paybooklaw03_PurseParts.j4 (k + 1) (A : Int) w n v 0 q' r' (i : Int) = some true := by
      intro q' r' h' hr0' hr' hq' hq2
      simp only [paybooklaw03_PurseParts.j4]
      rw [if_pos (by omega), esh, Int.tmod_eq_emod_of_nonneg (by omega), wrap_of ((i : Int) - 1) (by omega) (by omega), u64w (a := w) (by omega) (by omega), u64w (a := n) (by omega) (by omega), u64w (a := n - w) (by omega) (by omega)]
      generalize A / 2 ^ i = P' at *
      have hodd : P' % 2 = 1 → (P' : Int) * w = 2 * (((P' / 2 : Nat) : Int) * w) + w := by
        intro ho
        have : (P' : Int) = 2 * ((P' / 2 : Nat) : Int) + 1 := by omega
        rw [this, Int.add_mul, Int.one_mul, Int.mul_assoc]
      have heven : P' % 2 = 0 → (P' : Int) * w = 2 * (((P' / 2 : Nat) : Int) * w) := by
        intro ho
        have : (P' : Int) = 2 * ((P' / 2 : Nat) : Int) := by omega
        rw [this, Int.mul_assoc]
      by_cases hb : P' % 2 = 1
      · rw [if_pos (by omega)]
        have ho := hodd hb
        by_cases hg : r' ≥ n - w
        · rw [if_pos hg, wrap_of (q' + 1) (by omega) (by omega), u64w (a := r' - (n - w)) (by omega) (by omega)]
          exact ih k _ _ (by rw [Int.add_mul, Int.one_mul]; omega) (by omega) (by omega) (by omega) (by omega) (by omega)
        · rw [if_neg hg, u64w (a := r' + w) (by omega) (by omega)]
          exact ih k _ _ (by omega) (by omega) (by omega) (by omega) (by omega) (by omega)
      · rw [if_neg (by omega)]
        have he := heven (by omega)
        exact ih k _ _ (by omega) (by omega) (by omega) (by omega) (by omega) (by omega)
    simp only [paybooklaw03_PurseParts.l0]
    rw [if_pos (by omega), if_neg (by omega), wrap_of (2 * q) (by omega) (by omega), u64w (a := 2 * r) (by omega) (by omega), u64w (a := n) (by omega) (by omega), show ((i + 1 : Nat) : Int) - 1 = (i : Int) by omega]
    simp only [paybooklaw03_PurseParts.j3]
    by_cases hg : 2 * r ≥ n
    · rw [if_pos (by simpa using hg), wrap_of (2 * q + 1) (by omega) (by omega), u64w (a := n) (by omega) (by omega), u64w (a := 2 * r - n) (by omega) (by omega)]
      exact goal _ _ (by rw [Int.add_mul, Int.one_mul, Int.mul_assoc]; omega) (by omega) (by omega) (by omega) (by omega)
    · rw [if_neg (by simpa using hg)]
      exact goal _ _ (by rw [Int.mul_assoc]; omega) (by omega) (by omega) (by omega) (by omega)

theorem PurseParts : paybooklaw03_PurseParts.Pure := by
  intro a w n ha hw hn
  have ha := bounds_i64 ha
  have hw := bounds_i64 hw
  have hn := bounds_i64 hn
  refine ⟨202, ?_⟩
  have e1 := part_f 202 (by omega) a w n (by omega) (by omega)
  unfold paybooklaw03_PurseParts.f
  simp only [e1, Option.bind_some]
  unfold partA
  have far : ∀ x7, paybooklaw03_PurseParts.j0 202 a w n x7 9 true = some true := by
    intro x7
    simp only [paybooklaw03_PurseParts.j0, if_true]
    rw [awake_up 201 (by omega)]
    rfl
  have off : ∀ x7, paybooklaw03_PurseParts.j1 201 a w n x7 1 true = some true := by
    intro x7
    simp only [paybooklaw03_PurseParts.j1, if_true]
    rw [awake_up 200 (by omega)]
    rfl
  by_cases h0 : a < 0
  · rw [if_pos h0, if_pos (by omega), far]
  · rw [if_neg h0]
    by_cases h1 : a ≤ 1125899906842624
    · rw [decide_eq_false (by omega), if_neg (by omega)]
      simp only [paybooklaw03_PurseParts.j0]
      rw [if_neg (by decide)]
      by_cases h2 : n < 1
      · rw [if_pos h2, if_pos (by omega), off]
      · rw [if_neg h2]
        by_cases h3 : w < 0
        · rw [if_pos h3, if_pos (by omega), off]
        · rw [if_neg h3]
          by_cases h4 : w > n
          · rw [if_pos (by omega), decide_eq_true h4, off]
          · rw [if_neg (by omega), decide_eq_false h4]
            simp only [paybooklaw03_PurseParts.j1]
            rw [if_neg (by decide)]
            obtain ⟨A, rfl⟩ := Int.eq_ofNat_of_zero_le (show 0 ≤ a by omega)
            have hz : A / 2 ^ 51 = 0 := Nat.div_eq_of_lt (by omega)
            exact long (by omega) (by omega) (by omega) (by omega) (by omega) rfl 51 200 0 0 (by rw [hz]; simp) (by omega) (by omega) (by omega) (by omega) (by omega)
    · rw [decide_eq_true (by omega), if_pos (by omega), far]

end Go.Proofs.Ytkmngemohhncaaa.Pure
