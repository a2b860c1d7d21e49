-- which orders may be, and notices' numbers
import Derived.Test.YtlihgjonmliodaaPAx16
import Derived.Test.YtlihgjonmliodaaPAx17
import Derived.Test.YtlihgjonmliodaaPAx18
import Derived.Test.YtlihgjonmliodaaPAx5
import Derived.Test.YtlihgjonmliodaaPAx9
import Derived.Test.YtlihgjonmliodaaPureOrderB
namespace Go.Proofs.Ytlihgjonmliodaa.Pure
open Go.RowKit Go.Proofs.Ytlihgjonmliodaa.PA Go.Proofs.YtlihgjonmliodaaW.PrintWords Go.Proofs.YtlihgjonmliodaaW.PrintLast Go.Proofs.YtlihgjonmliodaaW.PrintMore
set_option linter.unusedSimpArgs false

theorem lawkey_f (a b c d e v : Int) : paybooklaw10_key.f a b c d e v = some (decide (keyR b c d e)) := keyR_f a b c d e v
theorem rights (k : Nat) (a0 a1 a2 a3 a4 a5 a6 a7 : Int) (a8 a9 : Bool) (b0 b1 b2 b3 b4 b5 : Int) :
    ∃ r, order_Right.f (k + 3) a0 a1 a2 a3 a4 a5 a6 a7 a8 a9 b0 b1 b2 b3 b4 b5 = some r ∧ paybooklaw10_right.f (k + 3) a0 a1 a2 a3 a4 a5 a6 a7 a8 a9 b0 b1 b2 b3 b4 b5 = some r := by
  have pr := planR_f (k + 2) a4 a5 a6 a7 a8 a9
  by_cases k1 : a0 = 1
  · subst k1
    simp only [order_Right.f, order_subs.f, paybooklaw10_right.f, pr, Option.bind_some, if_true, if_neg (show ¬ (1 : Int) ≥ 2 by omega), Bool.false_eq_true, if_false, Bool.or_eq_true, Bool.and_eq_true, Bool.not_eq_true', beq_iff_eq, beq_eq_false_iff_ne, ne_eq]
    repeat' split
    all_goals first | exact ⟨_, rfl, rfl⟩ | (exfalso; omega)
  by_cases k23 : a0 = 2 ∨ a0 = 3
  · have es : order_subs.f a0 = some true := by unfold order_subs.f; rw [if_pos (by omega), decide_eq_true (by omega)]
    have ep : order_plans.f a0 = some true := by rcases k23 with rfl | rfl <;> rfl
    have ej : paybooklaw10_right.f (k + 3) a0 a1 a2 a3 a4 a5 a6 a7 a8 a9 b0 b1 b2 b3 b4 b5 = paybooklaw10_right.j0 (k + 3) false a0 true a0 a1 a2 a3 a4 a5 a6 a7 a8 a9 b0 b1 b2 b3 b4 b5 a0 0 0 0 0 0 0 0 false false 0 0 0 0 0 0 := by
      rcases k23 with rfl | rfl <;> rfl
    rw [ej]
    cases a8 <;> cases a9 <;> simp only [order_Right.f, es, ep, paybooklaw10_right.j0, Option.bind_some, if_true, Bool.false_eq_true, if_false, Bool.or_eq_true, Bool.and_eq_true, Bool.not_eq_true', beq_iff_eq, beq_eq_false_iff_ne, ne_eq, or_false, or_true, true_or, false_or, and_true, true_and, and_false, false_and, beq_self_eq_true, Bool.true_eq_false, reduceCtorEq, if_true] <;> (repeat' split) <;> first | exact ⟨_, rfl, rfl⟩ | (exfalso; omega)
  by_cases k48 : 4 ≤ a0 ∧ a0 ≤ 8
  · have es : order_subs.f a0 = some true := by unfold order_subs.f; rw [if_pos (by omega), decide_eq_true (by omega)]
    have ep : order_plans.f a0 = some false := by unfold order_plans.f; rw [if_neg (by omega)]; simp; omega
    have ej : paybooklaw10_right.f (k + 3) a0 a1 a2 a3 a4 a5 a6 a7 a8 a9 b0 b1 b2 b3 b4 b5 = paybooklaw10_right.j1 (k + 2) false a0 true a0 a1 a2 a3 a4 a5 a6 a7 a8 a9 b0 b1 b2 b3 b4 b5 a0 0 0 0 0 0 0 0 false false 0 0 0 0 0 0 := by
      have : a0 = 4 ∨ a0 = 5 ∨ a0 = 6 ∨ a0 = 7 ∨ a0 = 8 := by omega
      rcases this with rfl | rfl | rfl | rfl | rfl <;> rfl
    rw [ej]
    cases a8 <;> cases a9 <;> simp only [order_Right.f, es, ep, paybooklaw10_right.j1, Option.bind_some, if_true, Bool.false_eq_true, if_false, Bool.or_eq_true, Bool.and_eq_true, Bool.not_eq_true', beq_iff_eq, beq_eq_false_iff_ne, ne_eq, or_false, or_true, true_or, false_or, and_true, true_and, and_false, false_and, beq_self_eq_true, Bool.true_eq_false, reduceCtorEq, if_true] <;> (repeat' split) <;> first | exact ⟨_, rfl, rfl⟩ | (exfalso; omega)
  have es : order_subs.f a0 = some false := by
    unfold order_subs.f
    split
    · rw [decide_eq_false (by omega)]
    · rfl
  have ej : paybooklaw10_right.f (k + 3) a0 a1 a2 a3 a4 a5 a6 a7 a8 a9 b0 b1 b2 b3 b4 b5 = paybooklaw10_right.j1 (k + 2) false a0 false a0 a1 a2 a3 a4 a5 a6 a7 a8 a9 b0 b1 b2 b3 b4 b5 a0 0 0 0 0 0 0 0 false false 0 0 0 0 0 0 := by
    simp only [paybooklaw10_right.f, if_neg k1, if_neg (show ¬ a0 = 2 by omega), paybooklaw10_right.j0, show (a0 == 3) = false by simp; omega, Bool.false_eq_true, if_false, if_neg (show ¬ a0 = 4 by omega), if_neg (show ¬ a0 = 5 by omega), if_neg (show ¬ a0 = 6 by omega), if_neg (show ¬ a0 = 7 by omega), show (a0 == 8) = false by simp; omega]
  rw [ej]
  by_cases k9 : a0 = 9
  · subst k9
    cases a8 <;> cases a9 <;> simp only [order_Right.f, es, paybooklaw10_right.j1, Option.bind_some, if_true, Bool.false_eq_true, if_false, Bool.or_eq_true, Bool.and_eq_true, Bool.not_eq_true', beq_iff_eq, beq_eq_false_iff_ne, ne_eq, or_false, or_true, true_or, false_or, and_true, true_and, and_false, false_and, beq_self_eq_true, Bool.true_eq_false, reduceCtorEq, if_neg (show ¬ (9 : Int) = 1 by omega)] <;> (repeat' split) <;> first | exact ⟨_, rfl, rfl⟩ | (exfalso; omega)
  by_cases k10 : a0 = 10
  · subst k10
    by_cases hk : noticeR b0 b1 b2 b3 b4 b5
    · have hq := hk; unfold noticeR at hq
      cases a8 <;> cases a9 <;> simp only [order_Right.f, es, noticeR_f, lawkey_f, decide_eq_true hk, decide_eq_true hq.2.2, paybooklaw10_right.j1, Option.bind_some, if_true, Bool.false_eq_true, if_false, Bool.or_eq_true, Bool.and_eq_true, Bool.not_eq_true', beq_iff_eq, beq_eq_false_iff_ne, ne_eq, or_false, or_true, true_or, false_or, and_true, true_and, and_false, false_and, beq_self_eq_true, Bool.true_eq_false, reduceCtorEq, if_neg (show ¬ (10 : Int) = 1 by omega), if_neg (show ¬ (10 : Int) = 9 by omega)] <;> (repeat' split) <;> first | exact ⟨_, rfl, rfl⟩ | (exfalso; omega)
    · by_cases hy : keyR b1 b2 b3 b4
      · have hq : ¬ ((1 ≤ b0 ∧ b0 ≤ 5) ∧ (1 ≤ b5 ∧ b5 ≤ 3)) := fun h => hk ⟨h.1, h.2, hy⟩
        cases a8 <;> cases a9 <;> simp only [order_Right.f, es, noticeR_f, lawkey_f, decide_eq_false hk, decide_eq_true hy, paybooklaw10_right.j1, Option.bind_some, if_true, Bool.false_eq_true, if_false, Bool.or_eq_true, Bool.and_eq_true, Bool.not_eq_true', beq_iff_eq, beq_eq_false_iff_ne, ne_eq, or_false, or_true, true_or, false_or, and_true, true_and, and_false, false_and, beq_self_eq_true, Bool.true_eq_false, reduceCtorEq, if_neg (show ¬ (10 : Int) = 1 by omega), if_neg (show ¬ (10 : Int) = 9 by omega)] <;> (repeat' split) <;> first | exact ⟨_, rfl, rfl⟩ | (exfalso; omega)
      · cases a8 <;> cases a9 <;> simp only [order_Right.f, es, noticeR_f, lawkey_f, decide_eq_false hk, decide_eq_false hy, paybooklaw10_right.j1, Option.bind_some, if_true, Bool.false_eq_true, if_false, Bool.or_eq_true, Bool.and_eq_true, Bool.not_eq_true', beq_iff_eq, beq_eq_false_iff_ne, ne_eq, or_false, or_true, true_or, false_or, and_true, true_and, and_false, false_and, beq_self_eq_true, Bool.true_eq_false, reduceCtorEq, if_neg (show ¬ (10 : Int) = 1 by omega), if_neg (show ¬ (10 : Int) = 9 by omega)] <;> (repeat' split) <;> first | exact ⟨_, rfl, rfl⟩ | (exfalso; omega)
  · simp only [order_Right.f, es, paybooklaw10_right.j1, Option.bind_some, Bool.false_eq_true, if_false, if_neg k1, if_neg k9, if_neg k10]
    exact ⟨_, rfl, rfl⟩
theorem rights_j0 (a0 a1 a2 a3 a4 a5 a6 a7 : Int) (a8 a9 : Bool) (b0 b1 b2 b3 b4 b5 : Int) : Ev (fun k => paybooklaw10_OrderRights.j0 k a0 a1 a2 a3 a4 a5 a6 a7 a8 a9 b0 b1 b2 b3 b4 b5) true := by
  refine Ev.step (f := fun k => _) (fun k => by rw [paybooklaw10_OrderRights.j0]) ?_
  refine Ev.bind awake_ev ?_
  simp only [if_true, keyR_f, lawkey_f, Option.bind_some, beq_self_eq_true]
  refine ⟨3, fun k hk => ?_⟩
  obtain ⟨j, rfl⟩ : ∃ j, k = j + 3 := ⟨k - 3, by omega⟩
  obtain ⟨r, h1, h2⟩ := rights j a0 a1 a2 a3 a4 a5 a6 a7 a8 a9 b0 b1 b2 b3 b4 b5
  show ((order_Right.f (j + 3) a0 a1 a2 a3 a4 a5 a6 a7 a8 a9 b0 b1 b2 b3 b4 b5).bind _) = _
  rw [h1]
  dsimp only [Option.bind_some]
  rw [h2]
  simp
theorem OrderRights : paybooklaw10_OrderRights.Pure := by
  intro a0 a1 a2 a3 a4 a5 a6 a7 a8 a9 b0 b1 b2 b3 b4 b5 how h0 _ _ _ _ h5 _ _ g0 _ _ _ _ g5 _
  obtain ⟨x0, x1, x2, x3, x4, x5, x6, x7, x8, x9, y0, y1, y2, y3, y4, y5, l, hN, _, hf⟩ := near_f a1 a2 a3 a4 a6 a7 a8 a9 b1 b2 b3 b4 (bounds_u8 h0) (bounds_u8 h5) (bounds_u8 g0) (bounds_u8 g5)
  refine Ev.rounds ?_
  unfold paybooklaw10_OrderRights.f
  split
  · refine Ev.bind ⟨1, fun k hk => by obtain ⟨j, rfl⟩ : ∃ j, k = j + 1 := ⟨k - 1, by omega⟩; exact hf j⟩ ?_
    split
    · exact rights_j0 _ _ _ _ _ _ _ _ _ _ _ _ _ _ _ _
    · exact rights_j0 _ _ _ _ _ _ _ _ _ _ _ _ _ _ _ _
  · exact rights_j0 _ _ _ _ _ _ _ _ _ _ _ _ _ _ _ _

end Go.Proofs.Ytlihgjonmliodaa.Pure
