/- An amount in so many parts: each as great as another one, or by one greater, the greater ones first. -/
import Derived.Test.YtkmngemohhncaaaPurePart
import Derived.Test.YtkmngemohhncaaaPAx18
import Derived.OpenShut
namespace Go.Proofs.Ytkmngemohhncaaa.Pure
open Go.RowKit Go.Proofs.Ytkmngemohhncaaa.PA Go.Proofs.YtkmngemohhncaaaW.PrintWords Go.Proofs.YtkmngemohhncaaaW.PrintLast

theorem awake_up : ∀ k, 10 ≤ k → paybooklaw03_awake.f k = some true
  | 0, h => by omega
  | k + 1, h => by
    by_cases hk : k + 1 = 10
    · rw [hk]; exact awake_10
    · exact paybooklaw03_awake.mono k _ (awake_up k (by omega))

/-- The part at place i. -/
def piece (a n i : Int) : Int := if i < a % n then a / n + 1 else a / n
/-- The list when i places are filled. -/
def filled (a n : Int) (N i : Nat) : List Int := (List.range i).map (fun j : Nat => piece a n (j : Int)) ++ List.replicate (N - i) 0

theorem filled_len (a n : Int) {N i : Nat} (h : i ≤ N) : (filled a n N i).length = N := by
  unfold filled; simp; omega
theorem filled_set (a n : Int) {N i : Nat} (h : i < N) : (filled a n N i).set i (piece a n (i : Int)) = filled a n N (i + 1) := by
  unfold filled
  rw [show N - i = (N - (i + 1)) + 1 by omega, List.replicate_succ, List.range_succ, List.map_append, List.append_assoc]
  rw [List.set_append_right _ _ (by simp)]
  simp

theorem fill {a n : Int} {N : Nat} (hN : n = (N : Int)) (hn1 : 1 ≤ n) (hn : n ≤ 1000) (ha : 0 ≤ a) (ha1 : a ≤ 1125899906842624) (d : Nat) : ∀ (i k : Nat), i + d = N → d + 1 ≤ k →
    purse_Split.l0 k a n (filled a n N i) (N : Int) (i : Int) = some (filled a n N N, 0) := by
  have hq0 : 0 ≤ a / n := Int.ediv_nonneg ha (by omega)
  have hq1 : a / n ≤ a := Int.ediv_le_self _ ha
  induction d with
  | zero =>
    intro i k h hk
    obtain ⟨k, rfl⟩ : ∃ m, k = m + 1 := ⟨k - 1, by omega⟩
    simp only [purse_Split.l0]
    rw [if_neg (by omega), show i = N by omega]
  | succ d ih =>
    intro i k h hk
    obtain ⟨k, rfl⟩ : ∃ m, k = m + 1 := ⟨k - 1, by omega⟩
    simp only [purse_Split.l0]
    rw [if_pos (by omega), if_neg (by omega), if_pos (by omega), filled_len a n (by omega), if_pos (by omega), Int.tdiv_eq_ediv_of_nonneg ha, Int.tmod_eq_emod_of_nonneg ha, wrap_of (a / n) (by omega) (by omega), wrap_of ((i : Int) + 1) (by omega) (by omega)]
    simp only [Option.bind_some, Int.toNat_natCast]
    have hset := filled_set a n (N := N) (i := i) (by omega)
    have hlen := filled_len a n (N := N) (i := i) (by omega)
    by_cases hm : (i : Int) < a % n
    · rw [if_pos hm]
      have hr : rd ((filled a n N i).set i (a / n)) (i : Int) = a / n := by
        unfold rd
        rw [Int.toNat_natCast, List.getD_eq_getElem?_getD, List.getElem?_set_self (by omega)]
        rfl
      rw [hr, wrap_of (a / n + 1) (by omega) (by omega), List.set_set, show a / n + 1 = piece a n (i : Int) by unfold piece; rw [if_pos hm], hset]
      exact ih (i + 1) k (by omega) (by omega)
    · rw [if_neg hm]
      conv => lhs; rw [show (filled a n N i).set i (a / n) = filled a n N (i + 1) by rw [← hset]; unfold piece; rw [if_neg hm]]
      exact ih (i + 1) k (by omega) (by omega)

/-- What a split answers. -/
def splitA (a n : Int) : List Int × Int :=
  if ¬ (0 ≤ a ∧ a ≤ 1125899906842624) then ([], 9) else if n < 1 then ([], 1) else if n > 1000 then ([], 6) else (filled a n n.toNat n.toNat, 0)
theorem split_f (k : Nat) (hk : 1003 ≤ k) (a n : Int) : purse_Split.f k a n = some (splitA a n) := by
  obtain ⟨k, rfl⟩ : ∃ m, k = m + 1 := ⟨k - 1, by omega⟩
  unfold purse_Split.f splitA
  by_cases h0 : a < 0
  · rw [if_pos h0, if_pos (by omega)]
    simp only [purse_Split.j0, if_true]
  · rw [if_neg h0, right_eq]
    simp only [Option.bind_some]
    by_cases h1 : a ≤ 1125899906842624
    · rw [decide_eq_true (by omega), if_neg (by omega)]
      simp only [purse_Split.j0]
      rw [if_neg (by decide)]
      by_cases h2 : n < 1
      · rw [if_pos h2, if_pos h2]
      · rw [if_neg h2, if_neg h2]
        by_cases h3 : n > 1000
        · rw [if_pos h3, if_pos h3]
        · rw [if_neg h3, if_neg h3, if_pos (by omega), if_pos (by omega)]
          simp only [Option.bind_some, List.length_replicate]
          have h := fill (a := a) (n := n) (N := n.toNat) (by omega) (by omega) (by omega) (by omega) h1 n.toNat 0 k (by omega) (by omega)
          have e : filled a n n.toNat 0 = List.replicate n.toNat 0 := by unfold filled; simp
          rw [e] at h
          exact h
    · rw [decide_eq_false (by omega), if_pos (by omega)]
      simp only [purse_Split.j0]
      rw [if_pos (by decide)]

theorem rd_filled (a n : Int) {N i : Nat} (h : i < N) : rd (filled a n N N) (i : Int) = piece a n (i : Int) := by
  unfold rd filled
  rw [Int.toNat_natCast, List.getD_eq_getElem?_getD, List.getElem?_append_left (by simpa using h)]
  simp [h]
/-- The sum of the first i places. -/
theorem sums {a n : Int} {N : Nat} (hN : n = (N : Int)) (hn1 : 1 ≤ n) (hn : n ≤ 1000) (ha : 0 ≤ a) (ha1 : a ≤ 1125899906842624) (d : Nat) : ∀ (i k : Nat) (s : Int), i + d = N → d + 11 ≤ k → s = (a / n) * (i : Int) + min (i : Int) (a % n) →
    paybooklaw03_PurseSplits.l0 k a n (filled a n N N) 0 s (i : Int) = some true := by
  have hq0 : 0 ≤ a / n := Int.ediv_nonneg ha (by omega)
  have hq1 : a / n ≤ a := Int.ediv_le_self _ ha
  have hm0 := Int.emod_nonneg a (show n ≠ 0 by omega)
  have hm1 := Int.emod_lt_of_pos a (show 0 < n by omega)
  have hlen := filled_len a n (N := N) (i := N) (by omega)
  have hdm := Int.mul_ediv_add_emod a n
  induction d with
  | zero =>
    intro i k s h hk hs
    obtain ⟨k, rfl⟩ : ∃ m, k = m + 1 := ⟨k - 1, by omega⟩
    simp only [paybooklaw03_PurseSplits.l0]
    rw [if_neg (by omega), awake_up k (by omega)]
    simp only [Option.bind_some, if_true]
    rw [if_pos (by omega)]
    have : s = a := by
      rw [hs, show i = N by omega, ← hN, Int.mul_comm]; omega
    rw [this]; simp
  | succ d ih =>
    intro i k s h hk hs
    obtain ⟨k, rfl⟩ : ∃ m, k = m + 1 := ⟨k - 1, by omega⟩
    have hr := rd_filled a n (N := N) (i := i) (by omega)
    have hp0 : a / n ≤ piece a n (i : Int) ∧ piece a n (i : Int) ≤ a / n + 1 := by unfold piece; split <;> omega
    have hqi : a / n * (i : Int) ≤ a / n * n := Int.mul_le_mul_of_nonneg_left (by omega) hq0
    have hqi0 : 0 ≤ a / n * (i : Int) := Int.mul_nonneg hq0 (by omega)
    have hqn : a / n * n ≤ a := by rw [Int.mul_comm]; omega
    have hs' : s + piece a n (i : Int) = a / n * ((i + 1 : Nat) : Int) + min (((i + 1 : Nat)) : Int) (a % n) := by
      rw [hs, show ((i + 1 : Nat) : Int) = (i : Int) + 1 by omega, Int.mul_add, Int.mul_one]
      unfold piece
      split <;> omega
    have go : paybooklaw03_PurseSplits.l0 k a n (filled a n N N) 0 (wrap64 (s + piece a n (i : Int))) (wrap64 ((i : Int) + 1)) = some true := by
      rw [wrap_of (s + piece a n (i : Int)) (by omega) (by omega), wrap_of ((i : Int) + 1) (by omega) (by omega)]
      exact ih (i + 1) k _ (by omega) (by omega) hs'
    simp only [paybooklaw03_PurseSplits.l0]
    rw [if_pos (by omega), if_pos (by omega), if_neg (by omega), hr, Int.tdiv_eq_ediv_of_nonneg ha, wrap_of (a / n) (by omega) (by omega), wrap_of (a / n + 1) (by omega) (by omega), if_neg (by omega), if_neg (by omega)]
    by_cases hi : (i : Int) > 0
    · rw [if_pos hi, wrap_of ((i : Int) - 1) (by omega) (by omega), if_pos (by omega), if_pos (by omega), show (i : Int) - 1 = ((i - 1 : Nat) : Int) by omega, rd_filled a n (N := N) (i := i - 1) (by omega)]
      rw [if_neg (by unfold piece; split <;> split <;> omega)]
      exact go
    · rw [if_neg hi]
      exact go

theorem PurseSplits : paybooklaw03_PurseSplits.Pure := by
  intro a n ha hn
  have ha := bounds_i64 ha
  have hn := bounds_i64 hn
  refine ⟨1102, ?_⟩
  unfold paybooklaw03_PurseSplits.f
  rw [split_f 1102 (by omega)]
  simp only [Option.bind_some]
  unfold splitA
  by_cases h0 : a < 0
  · rw [if_pos h0, if_pos (by omega)]
    simp only [paybooklaw03_PurseSplits.j0, if_true]
    rw [awake_up 1101 (by omega)]
    rfl
  · rw [if_neg h0]
    by_cases h1 : a ≤ 1125899906842624
    · rw [if_neg (by omega), decide_eq_false (by omega)]
      simp only [paybooklaw03_PurseSplits.j0]
      rw [if_neg (by decide)]
      by_cases h2 : n < 1
      · rw [if_pos h2, if_pos h2]
        simp only [paybooklaw03_PurseSplits.j1, if_true]
        rw [awake_up 1100 (by omega), decide_eq_true h2, decide_eq_false (by omega)]
        rfl
      · rw [if_neg h2, if_neg h2]
        by_cases h3 : n > 1000
        · rw [if_pos h3, decide_eq_true h3]
          simp only [paybooklaw03_PurseSplits.j1, if_true]
          rw [awake_up 1100 (by omega), decide_eq_true h3, decide_eq_false (by omega)]
          rfl
        · rw [if_neg h3, decide_eq_false h3]
          simp only [paybooklaw03_PurseSplits.j1]
          rw [if_neg (by decide)]
          exact sums (by omega) (by omega) (by omega) (by omega) h1 n.toNat 0 1100 0 (by omega) (by omega) (by have := Int.emod_nonneg a (show n ≠ 0 by omega); simp; omega)
    · rw [if_pos (by omega), decide_eq_true (by omega)]
      simp only [paybooklaw03_PurseSplits.j0, if_true]
      rw [awake_up 1101 (by omega)]
      rfl

end Go.Proofs.Ytkmngemohhncaaa.Pure
