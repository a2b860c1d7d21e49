/- Any bytes: the number ahead, or why there is none; within bounds. No condition. -/
import Derived.Test.YtinmndkhipfccaaPureGet
import Derived.Test.YtinmndkhipfccaaPureTake
import Derived.Test.YtinmndkhipfccaaPureUn
import Derived.Test.YtinmndkhipfccaaPAx20
namespace Go.Proofs.Ytinmndkhipfccaa.Pure
open Go.RowKit Go.Proofs.Ytinmndkhipfccaa.PA Go.Proofs.YtinmndkhipfccaaW.PrintWords Go.Proofs.YtinmndkhipfccaaW.PrintLast Go.Proofs.YtinmndkhipfccaaW.PrintMore

theorem parse_count : ∀ (p : List Int) (i u : Nat), (parse i u p).1 = 0 → (parse i u p).2.2 ≤ i + p.length
  | [], i, u, h => by simp [parse] at h
  | c :: cs, i, u, h => by
    simp only [parse] at h ⊢
    split
    · rename_i h1; rw [if_pos h1] at h; simp at h
    · rename_i h1
      rw [if_neg h1] at h
      split
      · rename_i h2
        rw [if_pos h2] at h
        have := parse_count cs (i + 1) _ h
        simp only [List.length_cons]; omega
      · simp only [List.length_cons]; omega
theorem PackGets : paybooklaw05_PackGets.Pure := by
  intro p a b _ hb1 hw ha hb
  have hp := byt_of hw
  refine Ev.rounds (Ev.bind awake_ev ?_)
  have far : Ev (fun k => paybooklaw05_PackGets.j0 k p a b true) true := by
    refine Ev.step (f := fun k => (paybooklaw05_awake.f k).bind fun t268 => some t268) (fun k => by simp only [paybooklaw05_PackGets.j0, if_true]) (Ev.bind awake_ev (Ev.now _))
  simp only [if_true]
  by_cases h : (p.length : Int) > 50
  · rw [decide_eq_true h]; exact far
  · rw [decide_eq_false h]
    have bad : ∀ (m n e : Int), e ≠ 0 → Ev (fun k => paybooklaw05_PackGets.j2 k p a b 0 m n e p e) true := by
      intro m n e he
      have g1 := get_ev hp (by omega) e a b
      rw [getI_bad p e a b he] at g1
      have g2 := flag_ev hp (by omega) e
      rw [getI_bad p e 0 1 he] at g2
      have g3 := bytes_ev hp (by omega) e 9
      unfold takeI at g3
      rw [getI_bad p e _ _ he] at g3
      refine Ev.step (f := fun k => (pack_Box_Get.f k p e a b).bind fun bt425 => (if bt425.1 = 0 then ((pack_Box_End.f bt425.2.1 bt425.2.2).bind fun bt430 => (if bt430.1 = e then ((pack_Box_GetFlag.f k bt430.2.1 bt430.2.2).bind fun bt435 => (if bt435.1 = true then (some false) else ((pack_Box_GetBytes.f k bt435.2.1 bt435.2.2 9).bind fun bt440 => (some ((bt440.1.length : Int) == 0))))) else (some false))) else (some false))) (fun k => ?_) (Ev.bind g1 ?_)
      · simp only [paybooklaw05_PackGets.j2]
        rw [if_neg he, fault_f]
        simp only [Option.bind_some, if_true]
      · simp only [if_true, end_f, Option.bind_some, if_neg he]
        refine Ev.bind g2 ?_
        simp only [show (((0 : Int) == 1)) = false from rfl, Bool.false_eq_true, if_false]
        refine Ev.bind g3 ?_
        simp only [if_pos (show e ≠ 0 from he)]
        exact Ev.now _
    refine Ev.step (f := fun k => (pack_Box_Get.f k p 0 a b).bind fun bt402 => ((paybookref05_Unpack.f k p).bind fun bt407 => (if bt407.2.2 = 0 then (if bt407.1 < a then (paybooklaw05_PackGets.j1 k p a b bt402.1 bt407.1 bt407.2.1 bt407.2.2 true bt402.2.1 bt402.2.2) else (paybooklaw05_PackGets.j1 k p a b bt402.1 bt407.1 bt407.2.1 bt407.2.2 (decide (bt407.1 > b)) bt402.2.1 bt402.2.2)) else (paybooklaw05_PackGets.j1 k p a b bt402.1 bt407.1 bt407.2.1 bt407.2.2 false bt402.2.1 bt402.2.2)))) (fun k => ?_) (Ev.bind (get_ev hp (by omega) 0 a b) (Ev.bind (unpack_ev hp (by omega)) ?_))
    · simp only [paybooklaw05_PackGets.j0, Bool.false_eq_true, if_false]
      rw [of_f p (by omega)]
      rfl
    · have hcnt := parse_count p 0 0
      unfold getI unI
      simp only [ne_eq, not_true_eq_false, if_false]
      generalize parse 0 0 p = g at *
      obtain ⟨f, u, n⟩ := g
      dsimp only at *
      by_cases h1 : f = 0
      · subst h1
        simp only [ne_eq, not_true_eq_false, if_false, if_true]
        by_cases h2 : unzz u < a ∨ unzz u > b
        · simp only [if_pos h2]
          have e1 : ∀ t : Bool, t = true → Ev (fun k => paybooklaw05_PackGets.j1 k p a b 0 (unzz u) (n : Int) 0 t p 1) true := fun t ht => by
            subst ht
            exact Ev.step (fun k => by simp only [paybooklaw05_PackGets.j1, if_true]) (bad (unzz u) (n : Int) 1 (by decide))
          by_cases h3 : unzz u < a
          · simp only [if_pos h3]
            exact e1 true rfl
          · simp only [if_neg h3]
            exact e1 _ (by simp; omega)
        · simp only [if_neg h2]
          simp only [if_neg (show ¬ unzz u < a from fun h => h2 (.inl h))]
          have h4 : decide (unzz u > b) = false := by simp; omega
          rw [h4]
          have hc := hcnt rfl
          refine Ev.step (f := fun k => paybooklaw05_PackGets.j2 k p a b (unzz u) (unzz u) (n : Int) 0 (p.drop n) 0) (fun k => by simp only [paybooklaw05_PackGets.j1, Bool.false_eq_true, if_false]) ?_
          refine Ev.step (f := fun _ => some true) (fun k => ?_) (Ev.now _)
          simp only [paybooklaw05_PackGets.j2, if_true, fault_f, left_f, Option.bind_some]
          have e2 : wrap64 ((p.length : Int) - (n : Int)) = (((p.drop n).length : Nat) : Int) := by rw [wrap_id _ (by omega) (by omega), List.length_drop]; omega
          rw [e2, beq_self_eq_true]
      · simp only [ne_eq, h1, not_false_eq_true, if_true, if_false]
        exact Ev.step (fun k => by simp only [paybooklaw05_PackGets.j1, Bool.false_eq_true, if_false]) (bad 0 0 f h1)

end Go.Proofs.Ytinmndkhipfccaa.Pure
