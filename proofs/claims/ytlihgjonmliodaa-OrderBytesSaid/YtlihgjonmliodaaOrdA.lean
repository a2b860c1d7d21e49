/- Orders: the contracts of what makes, reads, judges them. -/
import Derived.Test.YtlihgjonmliodaaPureDecode
import Derived.Test.YtlihgjonmliodaaPAx4
import Derived.Test.YtlihgjonmliodaaPAx15
import Derived.Test.YtlihgjonmliodaaPAx16
import Derived.Test.YtlihgjonmliodaaPAx17
import Derived.Test.YtlihgjonmliodaaPAx18
import Derived.Test.YtlihgjonmliodaaPAx27
import Derived.Test.YtlihgjonmliodaaWKept
import Derived.WalkKit
import Derived.Outline
import Derived.OpenShut
namespace Go.Proofs.Ytlihgjonmliodaa.Pure
open Go.RowKit Go.Proofs.Ytlihgjonmliodaa.PA Go.Proofs.YtlihgjonmliodaaW.PrintWords Go.Proofs.YtlihgjonmliodaaW.PrintLast Go.Proofs.YtlihgjonmliodaaW.PrintMore
set_option linter.unusedSimpArgs false
set_option linter.unusedVariables false
theorem lawkey_f (a b c d e v : Int) : paybooklaw10_key.f a b c d e v = some (decide (keyR b c d e)) := keyR_f a b c d e v
theorem rights (k : Nat) (a0 a1 a2 a3 a4 a5 a6 a7 : Int) (a8 a9 : Bool) (b0 b1 b2 b3 b4 b5 : Int) :
    ∃ r, order_Right.f (k + 3) a0 a1 a2 a3 a4 a5 a6 a7 a8 a9 b0 b1 b2 b3 b4 b5 = some r ∧ paybooklaw10_right.f (k + 3) a0 a1 a2 a3 a4 a5 a6 a7 a8 a9 b0 b1 b2 b3 b4 b5 = some r := by
  have pr := planR_f (k + 2) a4 a5 a6 a7 a8 a9
  by_cases k1 : a0 = 1
  · subst k1
    simp only [order_Right.f, order_subs.f, paybooklaw10_right.f, pr, Option.bind_some, if_true, if_neg (show ¬ (1 : Int) ≥ 2 by omega), Bool.false_eq_true, if_false, Bool.or_eq_true, Bool.and_eq_true, Bool.not_eq_true', beq_iff_eq, beq_eq_false_iff_ne, ne_eq]
    repeat' split
    all_goals first | exact ⟨_, rfl, rfl⟩ | (exfalso; omega)
  by_cases k23 : a0 = 2 ∨ a0 = 3
  · have es : order_subs.f a0 = some true := by unfold order_subs.f; rw [if_pos (by omega), decide_eq_true (by omega)]
    have ep : order_plans.f a0 = some true := by rcases k23 with rfl | rfl <;> rfl
    have ej : paybooklaw10_right.f (k + 3) a0 a1 a2 a3 a4 a5 a6 a7 a8 a9 b0 b1 b2 b3 b4 b5 = paybooklaw10_right.j0 (k + 3) false a0 true a0 a1 a2 a3 a4 a5 a6 a7 a8 a9 b0 b1 b2 b3 b4 b5 a0 0 0 0 0 0 0 0 false false 0 0 0 0 0 0 := by
      rcases k23 with rfl | rfl <;> rfl
    rw [ej]
    cases a8 <;> cases a9 <;> simp only [order_Right.f, es, ep, paybooklaw10_right.j0, Option.bind_some, if_true, Bool.false_eq_true, if_false, Bool.or_eq_true, Bool.and_eq_true, Bool.not_eq_true', beq_iff_eq, beq_eq_false_iff_ne, ne_eq, or_false, or_true, true_or, false_or, and_true, true_and, and_false, false_and, beq_self_eq_true, Bool.true_eq_false, reduceCtorEq, if_true] <;> (repeat' split) <;> first | exact ⟨_, rfl, rfl⟩ | (exfalso; omega)
  by_cases k48 : 4 ≤ a0 ∧ a0 ≤ 8
  · have es : order_subs.f a0 = some true := by unfold order_subs.f; rw [if_pos (by omega), decide_eq_true (by omega)]
    have ep : order_plans.f a0 = some false := by unfold order_plans.f; rw [if_neg (by omega)]; simp; omega
    have ej : paybooklaw10_right.f (k + 3) a0 a1 a2 a3 a4 a5 a6 a7 a8 a9 b0 b1 b2 b3 b4 b5 = paybooklaw10_right.j1 (k + 2) false a0 true a0 a1 a2 a3 a4 a5 a6 a7 a8 a9 b0 b1 b2 b3 b4 b5 a0 0 0 0 0 0 0 0 false false 0 0 0 0 0 0 := by
      have : a0 = 4 ∨ a0 = 5 ∨ a0 = 6 ∨ a0 = 7 ∨ a0 = 8 := by omega
      rcases this with rfl | rfl | rfl | rfl | rfl <;> rfl
    rw [ej]
    cases a8 <;> cases a9 <;> simp only [order_Right.f, es, ep, paybooklaw10_right.j1, Option.bind_some, if_true, Bool.false_eq_true, if_false, Bool.or_eq_true, Bool.and_eq_true, Bool.not_eq_true', beq_iff_eq, beq_eq_false_iff_ne, ne_eq, or_false, or_true, true_or, false_or, and_true, true_and, and_false, false_and, beq_self_eq_true, Bool.true_eq_false, reduceCtorEq, if_true] <;> (repeat' split) <;> first | exact ⟨_, rfl, rfl⟩ | (exfalso; omega)
  have es : order_subs.f a0 = some false := by
    unfold order_subs.f
    split
    · rw [decide_eq_false (by omega)]
    · rfl
  have ej : paybooklaw10_right.f (k + 3) a0 a1 a2 a3 a4 a5 a6 a7 a8 a9 b0 b1 b2 b3 b4 b5 = paybooklaw10_right.j1 (k + 2) false a0 false a0 a1 a2 a3 a4 a5 a6 a7 a8 a9 b0 b1 b2 b3 b4 b5 a0 0 0 0 0 0 0 0 false false 0 0 0 0 0 0 := by
    simp only [paybooklaw10_right.f, if_neg k1, if_neg (show ¬ a0 = 2 by omega), paybooklaw10_right.j0, show (a0 == 3) = false by simp; omega, Bool.false_eq_true, if_false, if_neg (show ¬ a0 = 4 by omega), if_neg (show ¬ a0 = 5 by omega), if_neg (show ¬ a0 = 6 by omega), if_neg (show ¬ a0 = 7 by omega), show (a0 == 8) = false by simp; omega]
  rw [ej]
  by_cases k9 : a0 = 9
  · subst k9
    cases a8 <;> cases a9 <;> simp only [order_Right.f, es, paybooklaw10_right.j1, Option.bind_some, if_true, Bool.false_eq_true, if_false, Bool.or_eq_true, Bool.and_eq_true, Bool.not_eq_true', beq_iff_eq, beq_eq_false_iff_ne, ne_eq, or_false, or_true, true_or, false_or, and_true, true_and, and_false, false_and, beq_self_eq_true, Bool.true_eq_false, reduceCtorEq, if_neg (show ¬ (9 : Int) = 1 by omega)] <;> (repeat' split) <;> first | exact ⟨_, rfl, rfl⟩ | (exfalso; omega)
  by_cases k10 : a0 = 10
  · subst k10
    by_cases hk : noticeR b0 b1 b2 b3 b4 b5
    · have hq := hk; unfold noticeR at hq
      cases a8 <;> cases a9 <;> simp only [order_Right.f, es, noticeR_f, lawkey_f, decide_eq_true hk, decide_eq_true hq.2.2, paybooklaw10_right.j1, Option.bind_some, if_true, Bool.false_eq_true, if_false, Bool.or_eq_true, Bool.and_eq_true, Bool.not_eq_true', beq_iff_eq, beq_eq_false_iff_ne, ne_eq, or_false, or_true, true_or, false_or, and_true, true_and, and_false, false_and, beq_self_eq_true, Bool.true_eq_false, reduceCtorEq, if_neg (show ¬ (10 : Int) = 1 by omega), if_neg (show ¬ (10 : Int) = 9 by omega)] <;> (repeat' split) <;> first | exact ⟨_, rfl, rfl⟩ | (exfalso; omega)
    · by_cases hy : keyR b1 b2 b3 b4
      · have hq : ¬ ((1 ≤ b0 ∧ b0 ≤ 5) ∧ (1 ≤ b5 ∧ b5 ≤ 3)) := fun h => hk ⟨h.1, h.2, hy⟩
        cases a8 <;> cases a9 <;> simp only [order_Right.f, es, noticeR_f, lawkey_f, decide_eq_false hk, decide_eq_true hy, paybooklaw10_right.j1, Option.bind_some, if_true, Bool.false_eq_true, if_false, Bool.or_eq_true, Bool.and_eq_true, Bool.not_eq_true', beq_iff_eq, beq_eq_false_iff_ne, ne_eq, or_false, or_true, true_or, false_or, and_true, true_and, and_false, false_and, beq_self_eq_true, Bool.true_eq_false, reduceCtorEq, if_neg (show ¬ (10 : Int) = 1 by omega), if_neg (show ¬ (10 : Int) = 9 by omega)] <;> (repeat' split) <;> first | exact ⟨_, rfl, rfl⟩ | (exfalso; omega)
      · cases a8 <;> cases a9 <;> simp only [order_Right.f, es, noticeR_f, lawkey_f, decide_eq_false hk, decide_eq_false hy, paybooklaw10_right.j1, Option.bind_some, if_true, Bool.false_eq_true, if_false, Bool.or_eq_true, Bool.and_eq_true, Bool.not_eq_true', beq_iff_eq, beq_eq_false_iff_ne, ne_eq, or_false, or_true, true_or, false_or, and_true, true_and, and_false, false_and, beq_self_eq_true, Bool.true_eq_false, reduceCtorEq, if_neg (show ¬ (10 : Int) = 1 by omega), if_neg (show ¬ (10 : Int) = 9 by omega)] <;> (repeat' split) <;> first | exact ⟨_, rfl, rfl⟩ | (exfalso; omega)
  · simp only [order_Right.f, es, paybooklaw10_right.j1, Option.bind_some, Bool.false_eq_true, if_false, if_neg k1, if_neg k9, if_neg k10]
    exact ⟨_, rfl, rfl⟩

theorem lawright_near {a0 a1 a2 a3 a4 a5 a6 a7 : Int} {a8 a9 : Bool} {b0 b1 b2 b3 b4 b5 : Int} {l : List Int} (h : Near a0 a1 a2 a3 a4 a5 a6 a7 a8 a9 b0 b1 b2 b3 b4 b5 l) : paybooklaw10_right.f 3 a0 a1 a2 a3 a4 a5 a6 a7 a8 a9 b0 b1 b2 b3 b4 b5 = some 0 := by
  obtain ⟨r, h1, h2⟩ := rights 0 a0 a1 a2 a3 a4 a5 a6 a7 a8 a9 b0 b1 b2 b3 b4 b5
  have h3 := h.right 2
  have : r = 0 := by
    have := h1.symm.trans h3
    exact Option.some.inj this
  rw [h2, this]
end Go.Proofs.Ytlihgjonmliodaa.Pure
namespace Go.Proofs.Ytlihgjonmliodaa
open Go.RowKit Go.Proofs.Ytlihgjonmliodaa.PA Go.Proofs.YtlihgjonmliodaaW.PrintWords Go.Proofs.YtlihgjonmliodaaW.PrintLast Go.Proofs.YtlihgjonmliodaaW.PrintMore
open Go.Proofs.Ytlihgjonmliodaa.Pure (Near Byt packsI packI near_f encode_ev decode_any lawright_near rights awake_ev packsI_len packsI_byt byt_of)
set_option linter.unusedVariables false
set_option linter.unusedSimpArgs false
/-- A row of whole numbers that came in. -/
structure RowIn (k : IntKind) (w : World) (a : Option Addr) (len : Nat) (zs : List Int) : Prop where
  long : zs.length = len
  wf : ∀ n ∈ zs, (Lit.int k n).wf = true
  cell : ∀ i, i < len → ∃ x, a = some x ∧ w.cell? (x.add i) = some (.int k (zs.getD i 0))
theorem awake_c (w : World) : Calls Try.prog 10 #[] w fun e w' => e = .returned (.bool true) ∧ Below w.heap.size w w' := by
  obtain ⟨k, hk⟩ := awake_ev
  exact paybooklaw10_awake.calls k true w (hk k (Nat.le_refl _))
theorem near_c (a0 a1 a2 a3 a4 a5 a6 a7 : Int) (a8 a9 : Bool) (b0 b1 b2 b3 b4 b5 : Int) (w : World) (h0 : (Lit.int .u8 a0).wf = true) (h5 : (Lit.int .u8 a5).wf = true) (g0 : (Lit.int .u8 b0).wf = true) (g5 : (Lit.int .u8 b5).wf = true) :
    Calls Try.prog 9 #[.agg #[.int .u8 a0, .int .i64 a1, .int .i64 a2, .int .i64 a3, .int .i64 a4, .int .u8 a5, .int .i64 a6, .int .i64 a7, .bool a8, .bool a9, .int .u8 b0, .int .i64 b1, .int .i64 b2, .int .i64 b3, .int .i64 b4, .int .u8 b5]] w fun r w' => ∃ (x0 x1 x2 x3 x4 x5 x6 x7 : Int) (x8 x9 : Bool) (y0 y1 y2 y3 y4 y5 : Int) (l : List Int), r = .returned (.agg #[.int .u8 x0, .int .i64 x1, .int .i64 x2, .int .i64 x3, .int .i64 x4, .int .u8 x5, .int .i64 x6, .int .i64 x7, .bool x8, .bool x9, .int .u8 y0, .int .i64 y1, .int .i64 y2, .int .i64 y3, .int .i64 y4, .int .u8 y5]) ∧ Near x0 x1 x2 x3 x4 x5 x6 x7 x8 x9 y0 y1 y2 y3 y4 y5 l ∧ Below w.heap.size w w' := by
  obtain ⟨x0, x1, x2, x3, x4, x5, x6, x7, x8, x9, y0, y1, y2, y3, y4, y5, l, hN, _, hf⟩ := near_f a1 a2 a3 a4 a6 a7 a8 a9 b1 b2 b3 b4 (bounds_u8 h0) (bounds_u8 h5) (bounds_u8 g0) (bounds_u8 g5)
  exact (paybooklaw10_near.calls (0 + 1) a0 a1 a2 a3 a4 a5 a6 a7 a8 a9 b0 b1 b2 b3 b4 b5 x0 x1 x2 x3 x4 x5 x6 x7 x8 x9 y0 y1 y2 y3 y4 y5 w (hf 0)).mono fun r w' ⟨h1, h2⟩ => ⟨x0, x1, x2, x3, x4, x5, x6, x7, x8, x9, y0, y1, y2, y3, y4, y5, l, h1, hN, h2⟩
theorem encode_c {a0 a1 a2 a3 a4 a5 a6 a7 : Int} {a8 a9 : Bool} {b0 b1 b2 b3 b4 b5 : Int} {l p : List Int} (w : World) (h : Near a0 a1 a2 a3 a4 a5 a6 a7 a8 a9 b0 b1 b2 b3 b4 b5 l) (hp : p = packsI l) :
    Calls Try.prog 15 #[.agg #[.int .u8 a0, .int .i64 a1, .int .i64 a2, .int .i64 a3, .int .i64 a4, .int .u8 a5, .int .i64 a6, .int .i64 a7, .bool a8, .bool a9, .int .u8 b0, .int .i64 b1, .int .i64 b2, .int .i64 b3, .int .i64 b4, .int .u8 b5]] w fun r w' => ∃ x, r = .returned x ∧ Kd.R (Kd.int .u8) 5 w' w.heap.size (fun _ => True) x p ∧ Below w.heap.size w w' := by
  subst hp
  obtain ⟨k, hk⟩ := encode_ev h
  exact order_Encode.calls k a0 a1 a2 a3 a4 a5 a6 a7 a8 a9 b0 b1 b2 b3 b4 b5 _ w (hk k (Nat.le_refl _))
theorem encode_none {a0 a1 a2 a3 a4 a5 a6 a7 : Int} {a8 a9 : Bool} {b0 b1 b2 b3 b4 b5 r : Int} (w : World) (h : order_Right.f 3 a0 a1 a2 a3 a4 a5 a6 a7 a8 a9 b0 b1 b2 b3 b4 b5 = some r) (hr : r ≠ 0) :
    Calls Try.prog 15 #[.agg #[.int .u8 a0, .int .i64 a1, .int .i64 a2, .int .i64 a3, .int .i64 a4, .int .u8 a5, .int .i64 a6, .int .i64 a7, .bool a8, .bool a9, .int .u8 b0, .int .i64 b1, .int .i64 b2, .int .i64 b3, .int .i64 b4, .int .u8 b5]] w fun e w' => ∃ x, e = .returned x ∧ Kd.R (Kd.int .u8) 5 w' w.heap.size (fun _ => True) x [] ∧ Below w.heap.size w w' :=
  order_Encode.calls 3 a0 a1 a2 a3 a4 a5 a6 a7 a8 a9 b0 b1 b2 b3 b4 b5 _ w (by
    unfold order_Encode.f
    rw [h]
    simp only [Option.bind_some]
    rw [if_neg hr])
theorem right_c {a0 a1 a2 a3 a4 a5 a6 a7 : Int} {a8 a9 : Bool} {b0 b1 b2 b3 b4 b5 : Int} {l : List Int} (w : World) (h : Near a0 a1 a2 a3 a4 a5 a6 a7 a8 a9 b0 b1 b2 b3 b4 b5 l) :
    Calls Try.prog 12 #[.agg #[.int .u8 a0, .int .i64 a1, .int .i64 a2, .int .i64 a3, .int .i64 a4, .int .u8 a5, .int .i64 a6, .int .i64 a7, .bool a8, .bool a9, .int .u8 b0, .int .i64 b1, .int .i64 b2, .int .i64 b3, .int .i64 b4, .int .u8 b5]] w fun r w' => r = .returned (.int .i64 0) ∧ Below w.heap.size w w' :=
  paybooklaw10_right.calls 3 a0 a1 a2 a3 a4 a5 a6 a7 a8 a9 b0 b1 b2 b3 b4 b5 0 w (lawright_near h)
theorem right_any (a0 a1 a2 a3 a4 a5 a6 a7 : Int) (a8 a9 : Bool) (b0 b1 b2 b3 b4 b5 : Int) (w : World) :
    ∃ r, order_Right.f 3 a0 a1 a2 a3 a4 a5 a6 a7 a8 a9 b0 b1 b2 b3 b4 b5 = some r ∧ Calls Try.prog 12 #[.agg #[.int .u8 a0, .int .i64 a1, .int .i64 a2, .int .i64 a3, .int .i64 a4, .int .u8 a5, .int .i64 a6, .int .i64 a7, .bool a8, .bool a9, .int .u8 b0, .int .i64 b1, .int .i64 b2, .int .i64 b3, .int .i64 b4, .int .u8 b5]] w fun e w' => e = .returned (.int .i64 r) ∧ Below w.heap.size w w' := by
  obtain ⟨r, h1, h2⟩ := rights 0 a0 a1 a2 a3 a4 a5 a6 a7 a8 a9 b0 b1 b2 b3 b4 b5
  exact ⟨r, h1, paybooklaw10_right.calls 3 a0 a1 a2 a3 a4 a5 a6 a7 a8 a9 b0 b1 b2 b3 b4 b5 r w h2⟩
theorem decode_c {q : List Int} {a0 a1 a2 a3 a4 a5 a6 a7 : Int} {a8 a9 : Bool} {b0 b1 b2 b3 b4 b5 f : Int} (A : Option Addr) (C : Nat) (w : World) (hr : Kd.C (Kd.int .u8) w A q.length q) (hc : q.length ≤ C) (h : Ev (fun k => order_Decode.f k q) (a0, a1, a2, a3, a4, a5, a6, a7, a8, a9, b0, b1, b2, b3, b4, b5, f)) :
    Calls Try.prog 24 #[.slice A q.length C] w fun r w' => r = .returned (.tuple #[.agg #[.int .u8 a0, .int .i64 a1, .int .i64 a2, .int .i64 a3, .int .i64 a4, .int .u8 a5, .int .i64 a6, .int .i64 a7, .bool a8, .bool a9, .int .u8 b0, .int .i64 b1, .int .i64 b2, .int .i64 b3, .int .i64 b4, .int .u8 b5], .int .i64 f]) ∧ Below w.heap.size w w' := by
  obtain ⟨k, hk⟩ := h
  exact order_Decode.calls k A C q a0 a1 a2 a3 a4 a5 a6 a7 a8 a9 b0 b1 b2 b3 b4 b5 f w hr hc (hk k (Nat.le_refl _))
end Go.Proofs.Ytlihgjonmliodaa
