/- Truths and rows of bytes taken from some bytes, as plain functions. Each byte lies from 0 to 255. -/
import Derived.Test.YtinmndkhipfccaaPureGet
import Derived.Test.YtinmndkhipfccaaPureBack
import Derived.Test.YtinmndkhipfccaaPAx12
import Derived.Test.YtinmndkhipfccaaPAx13
import Derived.Test.YtinmndkhipfccaaPAx19
import Derived.Test.YtinmndkhipfccaaPAx8
namespace Go.Proofs.Ytinmndkhipfccaa.Pure
open Go.RowKit Go.Proofs.Ytinmndkhipfccaa.PA Go.Proofs.YtinmndkhipfccaaW.PrintWords Go.Proofs.YtinmndkhipfccaaW.PrintLast Go.Proofs.YtinmndkhipfccaaW.PrintMore

theorem fault_f (p : List Int) (e : Int) : pack_Box_Fault.f p e = some (e, p, e) := rfl
theorem left_f (p : List Int) (e : Int) : pack_Box_Left.f p e = some ((p.length : Int), p, e) := rfl
theorem getI_bad (p : List Int) (e least most : Int) (h : e ≠ 0) : getI p e least most = (0, p, e) := by unfold getI; rw [if_pos h]
theorem flag_ev {p : List Int} (hp : Byt p) (hm : p.length ≤ 9223372036854775807) (e : Int) : Ev (fun k => pack_Box_GetFlag.f k p e) ((getI p e 0 1).1 == 1, (getI p e 0 1).2.1, (getI p e 0 1).2.2) := by
  unfold pack_Box_GetFlag.f
  exact Ev.bind (get_ev hp hm e 0 1) (Ev.now _)
def takeI (p : List Int) (e most : Int) : List Int × List Int × Int :=
  match getI p e 0 4611686018427387904 with
  | (n, q, f) => if f ≠ 0 then ([], q, f) else if n > most then ([], q, 6) else if n > (q.length : Int) then ([], q, 5) else (q.take n.toNat, q.drop n.toNat, 0)
theorem getI_least {p : List Int} {e least most : Int} (h0 : least ≤ 0) : least ≤ (getI p e least most).1 := by
  unfold getI
  split
  · exact h0
  · split
    split
    · exact h0
    · split
      · exact h0
      · dsimp only; omega
theorem getI_len {p : List Int} {e least most : Int} : (getI p e least most).2.1.length ≤ p.length := by
  unfold getI
  split
  · exact Nat.le_refl _
  · split
    split
    · exact Nat.le_refl _
    · split
      · exact Nat.le_refl _
      · dsimp only; rw [List.length_drop]; omega
theorem bytes_ev {p : List Int} (hp : Byt p) (hm : p.length < 140737488355328) (e most : Int) : Ev (fun k => pack_Box_GetBytes.f k p e most) (takeI p e most) := by
  unfold pack_Box_GetBytes.f takeI
  refine Ev.bind (get_ev hp (by omega) e 0 4611686018427387904) ?_
  have h0 := getI_least (p := p) (e := e) (least := 0) (most := 4611686018427387904) (by omega)
  have hl := getI_len (p := p) (e := e) (least := 0) (most := 4611686018427387904)
  generalize getI p e 0 4611686018427387904 = g at *
  obtain ⟨n, q, f⟩ := g
  dsimp only at *
  by_cases h1 : f = 0
  · subst h1
    simp only [if_true, ne_eq, not_true_eq_false, if_false]
    by_cases h2 : n > most
    · simp only [if_pos h2, fail_f, Option.bind_some]
      exact Ev.now _
    · simp only [if_neg h2]
      by_cases h3 : n > (q.length : Int)
      · simp only [if_pos h3, fail_f, Option.bind_some]
        exact Ev.now _
      · simp only [if_neg h3, if_pos h0, if_pos (show n ≤ (q.length : Int) by omega), Option.bind_some]
        refine Ev.congr (fun k => ?_) (Ev.now _)
        rw [if_pos (by simp only [List.length_nil, List.length_take]; omega), List.nil_append]
  · simp only [if_neg h1, if_pos (show f ≠ 0 from h1)]
    exact Ev.now _

end Go.Proofs.Ytinmndkhipfccaa.Pure
