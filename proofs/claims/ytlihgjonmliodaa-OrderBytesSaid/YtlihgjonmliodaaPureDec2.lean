/- Orders: what was written is read as it was. -/
import Derived.Test.YtlihgjonmliodaaPureDecode
namespace Go.Proofs.Ytlihgjonmliodaa.Pure
open Go.RowKit Go.Proofs.Ytlihgjonmliodaa.PA Go.Proofs.YtlihgjonmliodaaW.PrintWords Go.Proofs.YtlihgjonmliodaaW.PrintLast Go.Proofs.YtlihgjonmliodaaW.PrintMore
set_option linter.unusedSimpArgs false
set_option linter.unusedVariables false
theorem get_cons {n least most : Int} {s : List Int} (hs : ∀ x ∈ n :: s, I64 x) (hl : s.length ≤ 20) (h1 : least ≤ n) (h2 : n ≤ most) : Ev (fun k => pack_Box_Get.f k (packsI (n :: s)) 0 least most) (n, packsI s, 0) := by
  have l := packsI_len hs
  simp only [List.length_cons] at l
  have h := get_ev (packsI_byt (n :: s)) (by omega) 0 least most
  rwa [packsI_cons, getI_pack (hs n (by simp)) _ h1 h2] at h
theorem flag_cons {g : Bool} {s : List Int} (hs : ∀ x ∈ flagI g :: s, I64 x) (hl : s.length ≤ 20) : Ev (fun k => pack_Box_GetFlag.f k (packsI (flagI g :: s)) 0) (g, packsI s, 0) := by
  have l := packsI_len hs
  simp only [List.length_cons] at l
  have h := flag_ev (packsI_byt (flagI g :: s)) (by omega) 0
  rw [packsI_cons, getI_pack (hs _ (by simp)) _ (by unfold flagI; split <;> omega) (by unfold flagI; split <;> omega)] at h
  cases g <;> exact h
theorem decode_ev {a0 a1 a2 a3 a4 a5 a6 a7 : Int} {a8 a9 : Bool} {b0 b1 b2 b3 b4 b5 : Int} {l : List Int} (h : Near a0 a1 a2 a3 a4 a5 a6 a7 a8 a9 b0 b1 b2 b3 b4 b5 l) :
    Ev (fun k => order_Decode.f k (packsI l)) (a0, a1, a2, a3, a4, a5, a6, a7, a8, a9, b0, b1, b2, b3, b4, b5, 0) := by
  have hi := h.i64
  have hL := packsI_len hi.1
  have he := j0_ok h
  unfold order_Decode.f
  simp only [of_f (packsI l) (by omega), Option.bind_some]
  cases h with
  | define g l h =>
    have hs := hi.1
    have m5 : a5 % 256 = a5 := by omega
    refine Ev.bind (get_cons hs (by simp) (by omega) (by omega)) ?_
    simp only [show (1 : Int) % 256 = 1 from rfl, subs_f, Option.bind_some, show decide ((2 : Int) ≤ 1 ∧ (1 : Int) ≤ 8) = false from rfl, Bool.false_eq_true, if_false, if_true]
    have t1 : ∀ x ∈ [a4, a5, a6, a7, flagI a8, flagI a9], I64 x := fun x hx => hs x (List.mem_cons_of_mem _ hx)
    have t2 : ∀ x ∈ [a5, a6, a7, flagI a8, flagI a9], I64 x := fun x hx => t1 x (List.mem_cons_of_mem _ hx)
    have t3 : ∀ x ∈ [a6, a7, flagI a8, flagI a9], I64 x := fun x hx => t2 x (List.mem_cons_of_mem _ hx)
    have t4 : ∀ x ∈ [a7, flagI a8, flagI a9], I64 x := fun x hx => t3 x (List.mem_cons_of_mem _ hx)
    have t5 : ∀ x ∈ [flagI a8, flagI a9], I64 x := fun x hx => t4 x (List.mem_cons_of_mem _ hx)
    have t6 : ∀ x ∈ [flagI a9], I64 x := fun x hx => t5 x (List.mem_cons_of_mem _ hx)
    refine Ev.bind (a := (a4, a5, a6, a7, a8, a9, [], 0)) ?_ he
    unfold plan_Get.f
    refine Ev.bind (get_cons t1 (by simp) (by omega) (by omega)) ?_
    refine Ev.bind (get_cons t2 (by simp) (by omega) (by omega)) ?_
    refine Ev.bind (get_cons t3 (by simp) (by omega) (by omega)) ?_
    refine Ev.bind (get_cons t4 (by simp) (by omega) (by omega)) ?_
    refine Ev.bind (flag_cons t5 (by simp)) ?_
    refine Ev.bind (flag_cons t6 (by simp)) ?_
    simp only [fault_f, Option.bind_some, if_true, m5]
    exact Ev.now _
  | with2 h =>
    have hs := hi.1
    have m0 : a0 % 256 = a0 := by omega
    have t1 : ∀ x ∈ [a1, a2], I64 x := fun x hx => hs x (List.mem_cons_of_mem _ hx)
    have t2 : ∀ x ∈ [a2], I64 x := fun x hx => t1 x (List.mem_cons_of_mem _ hx)
    refine Ev.bind (get_cons hs (by simp) (by omega) (by omega)) ?_
    simp only [m0, subs_f, decide_eq_true (show 2 ≤ a0 ∧ a0 ≤ 8 by omega), Option.bind_some, if_true]
    refine Ev.bind (get_cons t1 (by simp) (by omega) (by omega)) ?_
    simp only [plans_f, decide_eq_true h.1, Option.bind_some, if_true]
    exact Ev.bind (get_cons t2 (by simp) (by omega) (by omega)) he
  | with1 h =>
    have hs := hi.1
    have m0 : a0 % 256 = a0 := by omega
    have t1 : ∀ x ∈ [a1], I64 x := fun x hx => hs x (List.mem_cons_of_mem _ hx)
    refine Ev.bind (get_cons hs (by simp) (by omega) (by omega)) ?_
    simp only [m0, subs_f, decide_eq_true (show 2 ≤ a0 ∧ a0 ≤ 8 by omega), Option.bind_some, if_true]
    refine Ev.bind (get_cons t1 (by simp) (by omega) (by omega)) ?_
    simp only [plans_f, decide_eq_false (show ¬ (a0 = 2 ∨ a0 = 3) by omega), Option.bind_some, Bool.false_eq_true, if_false]
    exact he
  | pass h =>
    have hs := hi.1
    have t1 : ∀ x ∈ [a3], I64 x := fun x hx => hs x (List.mem_cons_of_mem _ hx)
    refine Ev.bind (get_cons hs (by simp) (by omega) (by omega)) ?_
    simp only [show (9 : Int) % 256 = 9 from rfl, subs_f, Option.bind_some, show decide ((2 : Int) ≤ 9 ∧ (9 : Int) ≤ 8) = false from rfl, Bool.false_eq_true, if_false, if_neg (show ¬ (9 : Int) = 1 by omega), if_true]
    exact Ev.bind (get_cons t1 (by simp) (by omega) (by omega)) he
  | hear h =>
    have hs := hi.1
    have hq := h
    unfold noticeR keyR at hq
    have m0 : b0 % 256 = b0 := by omega
    have m5 : b5 % 256 = b5 := by omega
    have t1 : ∀ x ∈ [b0, b1, b2, b3, b4, b5], I64 x := fun x hx => hs x (List.mem_cons_of_mem _ hx)
    have t2 : ∀ x ∈ [b1, b2, b3, b4, b5], I64 x := fun x hx => t1 x (List.mem_cons_of_mem _ hx)
    have t3 : ∀ x ∈ [b2, b3, b4, b5], I64 x := fun x hx => t2 x (List.mem_cons_of_mem _ hx)
    have t4 : ∀ x ∈ [b3, b4, b5], I64 x := fun x hx => t3 x (List.mem_cons_of_mem _ hx)
    have t5 : ∀ x ∈ [b4, b5], I64 x := fun x hx => t4 x (List.mem_cons_of_mem _ hx)
    have t6 : ∀ x ∈ [b5], I64 x := fun x hx => t5 x (List.mem_cons_of_mem _ hx)
    refine Ev.bind (get_cons hs (by simp) (by omega) (by omega)) ?_
    simp only [show (10 : Int) % 256 = 10 from rfl, subs_f, Option.bind_some, show decide ((2 : Int) ≤ 10 ∧ (10 : Int) ≤ 8) = false from rfl, Bool.false_eq_true, if_false, if_neg (show ¬ (10 : Int) = 1 by omega), if_neg (show ¬ (10 : Int) = 9 by omega), if_true]
    refine Ev.bind (a := (b0, b1, b2, b3, b4, b5, [], 0)) ?_ he
    unfold order_Get.f
    refine Ev.bind (get_cons t1 (by simp) (by omega) (by omega)) ?_
    refine Ev.bind (get_cons t2 (by simp) (by omega) (by omega)) ?_
    refine Ev.bind (get_cons t3 (by simp) (by omega) (by omega)) ?_
    refine Ev.bind (get_cons t4 (by simp) (by omega) (by omega)) ?_
    refine Ev.bind (get_cons t5 (by simp) (by omega) (by omega)) ?_
    refine Ev.bind (get_cons t6 (by simp) (by omega) (by omega)) ?_
    simp only [m0, m5]
    exact Ev.now _
end Go.Proofs.Ytlihgjonmliodaa.Pure
