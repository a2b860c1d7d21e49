-- orders take few bytes
import Derived.Test.YtlihgjonmliodaaPAx19
import Derived.Test.YtlihgjonmliodaaPureOrderB
namespace Go.Proofs.Ytlihgjonmliodaa.Pure
open Go.RowKit Go.Proofs.Ytlihgjonmliodaa.PA Go.Proofs.YtlihgjonmliodaaW.PrintWords Go.Proofs.YtlihgjonmliodaaW.PrintLast Go.Proofs.YtlihgjonmliodaaW.PrintMore

theorem pack_short {n : Int} (k : Nat) (h0 : 0 ≤ n) (h1 : 2 * n < (64 : Int) ^ (k + 1)) : (packI n).length ≤ k + 1 := by
  refine enc_len k _ ?_
  have e : zz n = (2 * n).toNat := by unfold zz; rw [if_neg (by omega)]
  rw [e]
  have : ((2 * n).toNat : Int) < ((64 ^ (k + 1) : Nat) : Int) := by rw [Int.toNat_of_nonneg (by omega)]; simpa using h1
  exact_mod_cast this
theorem packs_two (a b : Int) (l : List Int) : 2 ≤ (packsI (a :: b :: l)).length := by
  have h1 := packI_pos a
  have h2 := packI_pos b
  simp only [packsI_cons, List.length_append]
  omega
theorem near_short {a0 a1 a2 a3 a4 a5 a6 a7 : Int} {a8 a9 : Bool} {b0 b1 b2 b3 b4 b5 : Int} {l : List Int} (h : Near a0 a1 a2 a3 a4 a5 a6 a7 a8 a9 b0 b1 b2 b3 b4 b5 l) : 2 ≤ (packsI l).length ∧ (packsI l).length ≤ 30 := by
  cases h with
  | define g l h =>
    refine ⟨packs_two _ _ _, ?_⟩
    have h0 := pack_short (n := 1) 0 (by omega) (by decide)
    have h1 := pack_short (n := a4) 5 (by omega) (by simp only [Nat.reduceAdd, Int.reducePow]; omega)
    have h2 := pack_short (n := a5) 0 (by omega) (by simp only [Nat.reduceAdd, Int.reducePow]; omega)
    have h3 := pack_short (n := a6) 1 (by omega) (by simp only [Nat.reduceAdd, Int.reducePow]; omega)
    have h4 := pack_short (n := a7) 1 (by omega) (by simp only [Nat.reduceAdd, Int.reducePow]; omega)
    have h5 := pack_short (n := if a8 then 1 else 0) 0 (by split <;> omega) (by split <;> decide)
    have h6 := pack_short (n := if a9 then 1 else 0) 0 (by split <;> omega) (by split <;> decide)
    simp only [packsI, List.flatMap_cons, List.flatMap_nil, List.length_append, List.length_nil]
    omega
  | with2 h =>
    refine ⟨packs_two _ _ _, ?_⟩
    have h0 := pack_short (n := a0) 0 (by omega) (by simp only [Nat.reduceAdd, Int.reducePow]; omega)
    have h1 := pack_short (n := a1) 0 (by omega) (by simp only [Nat.reduceAdd, Int.reducePow]; omega)
    have h2 := pack_short (n := a2) 0 (by omega) (by simp only [Nat.reduceAdd, Int.reducePow]; omega)
    simp only [packsI, List.flatMap_cons, List.flatMap_nil, List.length_append, List.length_nil]
    omega
  | with1 h =>
    refine ⟨packs_two _ _ _, ?_⟩
    have h0 := pack_short (n := a0) 0 (by omega) (by simp only [Nat.reduceAdd, Int.reducePow]; omega)
    have h1 := pack_short (n := a1) 0 (by omega) (by simp only [Nat.reduceAdd, Int.reducePow]; omega)
    simp only [packsI, List.flatMap_cons, List.flatMap_nil, List.length_append, List.length_nil]
    omega
  | pass h =>
    refine ⟨packs_two _ _ _, ?_⟩
    have h0 := pack_short (n := 9) 0 (by omega) (by decide)
    have h1 := pack_short (n := a3) 1 (by omega) (by simp only [Nat.reduceAdd, Int.reducePow]; omega)
    simp only [packsI, List.flatMap_cons, List.flatMap_nil, List.length_append, List.length_nil]
    omega
  | hear h =>
    refine ⟨packs_two _ _ _, ?_⟩
    unfold noticeR keyR at h
    have h0 := pack_short (n := 10) 0 (by omega) (by decide)
    have h1 := pack_short (n := b0) 0 (by omega) (by simp only [Nat.reduceAdd, Int.reducePow]; omega)
    have h2 := pack_short (n := b1) 0 (by omega) (by simp only [Nat.reduceAdd, Int.reducePow]; omega)
    have h3 := pack_short (n := b2) 3 (by omega) (by simp only [Nat.reduceAdd, Int.reducePow]; omega)
    have h4 := pack_short (n := b3) 1 (by omega) (by simp only [Nat.reduceAdd, Int.reducePow]; omega)
    have h5 := pack_short (n := b4) 8 (by omega) (by simp only [Nat.reduceAdd, Int.reducePow]; omega)
    have h6 := pack_short (n := b5) 0 (by omega) (by simp only [Nat.reduceAdd, Int.reducePow]; omega)
    simp only [packsI, List.flatMap_cons, List.flatMap_nil, List.length_append, List.length_nil]
    omega
theorem OrderShort : paybooklaw10_OrderShort.Pure := by
  intro a0 a1 a2 a3 a4 a5 a6 a7 a8 a9 b0 b1 b2 b3 b4 b5 h0 _ _ _ _ h5 _ _ g0 _ _ _ _ g5
  obtain ⟨x0, x1, x2, x3, x4, x5, x6, x7, x8, x9, y0, y1, y2, y3, y4, y5, l, hN, _, hf⟩ := near_f a1 a2 a3 a4 a6 a7 a8 a9 b1 b2 b3 b4 (bounds_u8 h0) (bounds_u8 h5) (bounds_u8 g0) (bounds_u8 g5)
  have hs := near_short hN
  refine Ev.rounds ?_
  unfold paybooklaw10_OrderShort.f
  refine Ev.bind ⟨1, fun k hk => by obtain ⟨j, rfl⟩ : ∃ j, k = j + 1 := ⟨k - 1, by omega⟩; exact hf j⟩ (Ev.bind (encode_ev hN) (Ev.bind awake_ev ?_))
  rw [if_pos rfl, if_pos (by omega), decide_eq_true (by omega)]
  exact Ev.now _

end Go.Proofs.Ytlihgjonmliodaa.Pure
