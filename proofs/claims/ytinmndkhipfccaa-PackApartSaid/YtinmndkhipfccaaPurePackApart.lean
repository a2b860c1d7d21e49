/- Unlike lists of as many numbers have unlike bytes. No condition. -/
import Derived.Test.YtinmndkhipfccaaPureGet
import Derived.Test.YtinmndkhipfccaaPureBack
import Derived.Test.YtinmndkhipfccaaPAx7
namespace Go.Proofs.Ytinmndkhipfccaa.Pure
open Go.RowKit Go.Proofs.Ytinmndkhipfccaa.PA Go.Proofs.YtinmndkhipfccaaW.PrintWords Go.Proofs.YtinmndkhipfccaaW.PrintLast Go.Proofs.YtinmndkhipfccaaW.PrintMore

theorem apart_l0 {a b : List Int} (ha : ∀ x ∈ a, I64 x) (hb : ∀ x ∈ b, I64 x) (h20 : a.length ≤ 20) (hl : a.length = b.length) : ∀ (d i : Nat), i + d = a.length → Ev (fun k => paybooklaw05_PackApart.l0 k a b (decide (a.take i = b.take i)) (i : Int)) true := by
  have hla := packsI_len ha
  have hlb := packsI_len hb
  intro d
  induction d with
  | zero =>
    intro i hi
    have ht : (a.take i = b.take i) ↔ a = b := by rw [List.take_of_length_le (by omega), List.take_of_length_le (by omega)]
    have hp : (packsI a = packsI b) ↔ a = b := ⟨fun h => (pack_apart a b ha hb [] [] hl (by rw [h])).1, fun h => by rw [h]⟩
    refine Ev.step (f := fun k => (pack_Box_Put.f k [] 0 a).bind fun bt191 => ((pack_Box_Done.f bt191.1 bt191.2).bind fun bt195 => ((pack_New.f).bind fun bt202 => ((pack_Box_Put.f k bt202.1 bt202.2 b).bind fun bt207 => ((pack_Box_Done.f bt207.1 bt207.2).bind fun bt211 => (some (((strOfNums bt195.1).toList == (strOfNums bt211.1).toList) == decide (a.take i = b.take i)))))))) (fun k => ?_) (Ev.bind (put_ev ha [] 0 (by simp; omega)) ?_)
    · simp only [paybooklaw05_PackApart.l0, new_f, Option.bind_some]
      rw [if_neg (by omega)]
    · dsimp only
      rw [List.nil_append, done_f _ _ (by omega)]
      simp only [Option.bind_some, new_f]
      refine Ev.bind (put_ev hb [] 0 (by simp; omega)) ?_
      refine Ev.congr (f := fun _ => some true) (fun k => ?_) (Ev.now _)
      dsimp only
      rw [List.nil_append, done_f _ _ (by omega)]
      simp only [Option.bind_some]
      rw [str_beq (packsI_byt _) (packsI_byt _)]
      simp only [hp, ht, beq_self_eq_true]
  | succ d ih =>
    intro i hi
    have hlt : i < a.length := by omega
    have hlt2 : i < b.length := by omega
    have ht : (a.take (i + 1) = b.take (i + 1)) ↔ (a.take i = b.take i ∧ a[i] = b[i]) := by
      rw [List.take_succ_eq_append_getElem hlt, List.take_succ_eq_append_getElem hlt2]
      constructor
      · intro h
        have := List.append_inj' h (by simp)
        exact ⟨this.1, by simpa using this.2⟩
      · rintro ⟨h1, h2⟩
        rw [h1, h2]
    refine Ev.step (fun k => ?_) (ih (i + 1) (by omega))
    simp only [paybooklaw05_PackApart.l0]
    rw [if_pos (by omega)]
    by_cases h1 : a.take i = b.take i
    · rw [decide_eq_true h1]
      simp only [if_true]
      rw [if_pos (by omega), if_pos (by omega), rd_nat a i hlt, rd_nat b i hlt2, wrap_one i (by omega)]
      congr 1
      rw [Bool.eq_iff_iff, beq_iff_eq, decide_eq_true_iff, ht]
      simp [h1]
    · rw [decide_eq_false h1, decide_eq_false (fun h => h1 (ht.1 h).1)]
      simp only [Bool.false_eq_true, if_false]
      rw [wrap_one i (by omega)]
theorem PackApart : paybooklaw05_PackApart.Pure := by
  intro a b _ _ ha _ _ hb
  have ha := i64s ha
  have hb := i64s hb
  refine Ev.rounds (Ev.bind awake_ev ?_)
  have far : Ev (fun k => paybooklaw05_PackApart.j0 k a b true) true := by
    refine Ev.step (f := fun k => (paybooklaw05_awake.f k).bind fun t183 => some t183) (fun k => by simp only [paybooklaw05_PackApart.j0, if_true]) (Ev.bind awake_ev (Ev.now _))
  simp only [if_true]
  by_cases h1 : (a.length : Int) > 20
  · simp only [if_pos h1]; exact far
  · simp only [if_neg h1]
    by_cases h2 : (b.length : Int) > 20
    · simp only [if_pos h2]; exact far
    · simp only [if_neg h2]
      by_cases h3 : (a.length : Int) = (b.length : Int)
      · have e : ((a.length : Int) != (b.length : Int)) = false := by simpa using h3
        rw [e]
        have := apart_l0 ha hb (by omega) (by omega) a.length 0 (by omega)
        simp only [List.take_zero, decide_true] at this
        exact Ev.step (fun k => by simp only [paybooklaw05_PackApart.j0, Bool.false_eq_true, if_false]; rfl) this
      · have e : ((a.length : Int) != (b.length : Int)) = true := by simpa using h3
        rw [e]; exact far

end Go.Proofs.Ytinmndkhipfccaa.Pure
