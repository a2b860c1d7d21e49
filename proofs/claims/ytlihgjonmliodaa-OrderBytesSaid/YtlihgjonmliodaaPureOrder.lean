-- which orders may be; an order's numbers in a box
import Derived.Test.YtlihgjonmliodaaPAx5
import Derived.Test.YtlihgjonmliodaaPAx6
import Derived.Test.YtlihgjonmliodaaPAx7
import Derived.Test.YtlihgjonmliodaaPAx8
import Derived.Test.YtlihgjonmliodaaPAx9
import Derived.Test.YtlihgjonmliodaaPureBox
import Derived.OpenShut
namespace Go.Proofs.Ytlihgjonmliodaa.Pure
open Go.RowKit Go.Proofs.Ytlihgjonmliodaa.PA Go.Proofs.YtlihgjonmliodaaW.PrintWords Go.Proofs.YtlihgjonmliodaaW.PrintLast Go.Proofs.YtlihgjonmliodaaW.PrintMore
set_option linter.unusedSimpArgs false

def planR (a b c d : Int) : Int := if b ≤ 3 ∧ c ≥ 1 ∧ c ≤ 1000 ∧ ¬ d < 0 ∧ ¬ d > 1000 then (if a < 0 then 9 else if a > 1073741824 then 9 else 0) else 1
theorem planR_f (k : Nat) (a b c d : Int) (g l : Bool) : plan_Right.f (k + 1) a b c d g l = some (planR a b c d) := by
  simp only [plan_Right.f, plan_Right.j0, season_Right.f, planR]
  by_cases h1 : b ≤ 3 <;> by_cases h2 : c ≥ 1 <;> by_cases h3 : c ≤ 1000 <;> by_cases h4 : d < 0 <;> by_cases h5 : d > 1000 <;> simp [h1, h2, h3, h4, h5] <;> (repeat' split) <;> rfl
def keyR (b c d e : Int) : Prop := (0 ≤ b ∧ b < 32) ∧ (0 ≤ c ∧ c ≤ 3652058) ∧ (0 ≤ d ∧ d ≤ 100) ∧ (0 ≤ e ∧ e ≤ 1125899906842624)
instance (b c d e : Int) : Decidable (keyR b c d e) := by unfold keyR; infer_instance
theorem keyR_f (a b c d e v : Int) : order_Key.f a b c d e v = some (decide (keyR b c d e)) := by
  simp only [order_Key.f]
  repeat' split
  all_goals (congr 1; first | exact (decide_eq_false (by unfold keyR; omega)).symm | exact decide_eq_decide.mpr (by unfold keyR; omega))
def noticeR (a b c d e v : Int) : Prop := (1 ≤ a ∧ a ≤ 5) ∧ (1 ≤ v ∧ v ≤ 3) ∧ keyR b c d e
instance (a b c d e v : Int) : Decidable (noticeR a b c d e v) := by unfold noticeR; infer_instance
theorem noticeR_f (a b c d e v : Int) : order_notice.f a b c d e v = some (decide (noticeR a b c d e v)) := by
  simp only [order_notice.f, keyR_f, noticeR]
  by_cases h1 : a ≥ 1 <;> by_cases h2 : a ≤ 5 <;> by_cases h3 : v ≥ 1 <;> by_cases h4 : v ≤ 3 <;> by_cases h5 : keyR b c d e <;> simp [h1, h2, h3, h4, h5] <;> omega
/-- an order that may be, by its kind, and its numbers -/
inductive Near : Int → Int → Int → Int → Int → Int → Int → Int → Bool → Bool → Int → Int → Int → Int → Int → Int → List Int → Prop
  | define {p0 p1 p2 p3 : Int} (g l : Bool) : ((0 ≤ p0 ∧ p0 ≤ 1073741824) ∧ (0 ≤ p1 ∧ p1 ≤ 3) ∧ (1 ≤ p2 ∧ p2 ≤ 1000) ∧ (0 ≤ p3 ∧ p3 ≤ 1000)) → Near 1 0 0 0 p0 p1 p2 p3 g l 0 0 0 0 0 0 [1, p0, p1, p2, p3, if g then 1 else 0, if l then 1 else 0]
  | with2 {k s p : Int} : ((k = 2 ∨ k = 3) ∧ (0 ≤ s ∧ s ≤ 31) ∧ (0 ≤ p ∧ p ≤ 7)) → Near k s p 0 0 0 0 0 false false 0 0 0 0 0 0 [k, s, p]
  | with1 {k s : Int} : ((4 ≤ k ∧ k ≤ 8) ∧ (0 ≤ s ∧ s ≤ 31)) → Near k s 0 0 0 0 0 0 false false 0 0 0 0 0 0 [k, s]
  | pass {n : Int} : (1 ≤ n ∧ n ≤ 60) → Near 9 0 0 n 0 0 0 0 false false 0 0 0 0 0 0 [9, n]
  | hear {a b c d e v : Int} : noticeR a b c d e v → Near 10 0 0 0 0 0 0 0 false false a b c d e v [10, a, b, c, d, e, v]
theorem Near.right {a0 a1 a2 a3 a4 a5 a6 a7 : Int} {a8 a9 : Bool} {b0 b1 b2 b3 b4 b5 : Int} {l : List Int} (h : Near a0 a1 a2 a3 a4 a5 a6 a7 a8 a9 b0 b1 b2 b3 b4 b5 l) (k : Nat) :
    order_Right.f (k + 1) a0 a1 a2 a3 a4 a5 a6 a7 a8 a9 b0 b1 b2 b3 b4 b5 = some 0 := by
  cases h with
  | define g l h =>
    have : planR a4 a5 a6 a7 = 0 := by unfold planR; rw [if_pos (by omega), if_neg (by omega), if_neg (by omega)]
    simp [order_Right.f, order_subs.f, planR_f, this]
  | with2 h =>
    obtain ⟨rfl | rfl, h1, h2⟩ := h <;> simp [order_Right.f, order_subs.f, order_plans.f, show ¬ a1 < 0 by omega, show ¬ 32 ≤ a1 by omega, show ¬ a2 < 0 by omega, show ¬ 8 ≤ a2 by omega]
  | with1 h =>
    have e : order_subs.f a0 = some true := by unfold order_subs.f; rw [if_pos (by omega), decide_eq_true (by omega)]
    have e2 : order_plans.f a0 = some false := by unfold order_plans.f; rw [if_neg (by omega)]; simp; omega
    simp [order_Right.f, e, e2, show ¬ a1 < 0 by omega, show ¬ 32 ≤ a1 by omega]
  | pass h => simp [order_Right.f, order_subs.f, show ¬ a3 < 1 by omega, show ¬ 60 < a3 by omega]
  | hear h => simp [order_Right.f, order_subs.f, noticeR_f, h]
theorem Near.i64 {a0 a1 a2 a3 a4 a5 a6 a7 : Int} {a8 a9 : Bool} {b0 b1 b2 b3 b4 b5 : Int} {l : List Int} (h : Near a0 a1 a2 a3 a4 a5 a6 a7 a8 a9 b0 b1 b2 b3 b4 b5 l) : (∀ x ∈ l, I64 x) ∧ l.length ≤ 7 := by
  cases h with
  | define g l h =>
    refine ⟨fun x hx => ?_, by simp⟩
    simp only [List.mem_cons, List.not_mem_nil, or_false] at hx
    unfold I64
    rcases hx with rfl | rfl | rfl | rfl | rfl | rfl | rfl
    all_goals (first | omega | (split <;> omega))
  | with2 h =>
    refine ⟨fun x hx => ?_, by simp⟩
    simp only [List.mem_cons, List.not_mem_nil, or_false] at hx
    unfold I64
    rcases hx with rfl | rfl | rfl <;> omega
  | with1 h =>
    refine ⟨fun x hx => ?_, by simp⟩
    simp only [List.mem_cons, List.not_mem_nil, or_false] at hx
    unfold I64
    rcases hx with rfl | rfl <;> omega
  | pass h =>
    refine ⟨fun x hx => ?_, by simp⟩
    simp only [List.mem_cons, List.not_mem_nil, or_false] at hx
    unfold I64
    rcases hx with rfl | rfl <;> omega
  | hear h =>
    refine ⟨fun x hx => ?_, by simp⟩
    simp only [List.mem_cons, List.not_mem_nil, or_false] at hx
    unfold I64
    unfold noticeR keyR at h
    rcases hx with rfl | rfl | rfl | rfl | rfl | rfl | rfl <;> omega

end Go.Proofs.Ytlihgjonmliodaa.Pure
