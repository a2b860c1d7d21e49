-- answers to anything but what it asks change nothing
import Derived.Test.YtlfaaogifplgeaaDoorPAx17
import Derived.Test.YtlfaaogifplgeaaDoorPureHear
namespace Go.Proofs.YtlfaaogifplgeaaDoor.Pure
open Go.RowKit Go.Proofs.YtlfaaogifplgeaaDoor.PA Go.Proofs.YtlfaaogifplgeaaDoorW.PrintWords Go.Proofs.YtlfaaogifplgeaaDoorW.PrintLast Go.Proofs.YtlfaaogifplgeaaDoorW.PrintMore

set_option linter.unusedSimpArgs false
theorem backP_or (am : Int) : backP am = 9 ∨ backP am = 6 := by unfold backP; split <;> simp
theorem hear_ok {s no ph am tr nx v today : Int} {over g : Bool} (ht : ph = 1 → tr = 1 ∨ tr = 2 ∨ tr = 3 ∨ tr = 4) (ho : (asksI s no ph am tr).2.2.2.2.2.2 = true) (hv : v ≠ 0) :
    (hearI ph am tr nx v today over g).2.2 = 0 ∧ (hearI ph am tr nx v today over g).1 ≠ ph := by
  have hb := backP_or am
  by_cases p1 : ph = 1
  · subst p1
    simp only [hearI, if_true, if_neg hv]
    repeat' split
    all_goals exact ⟨by first | rfl | trivial, by first | omega | (dsimp only; omega)⟩
  · by_cases p3 : ph = 3
    · subst p3; simp only [hearI, if_true, if_neg hv, if_neg p1]; repeat' split
      all_goals exact ⟨by first | rfl | trivial, by first | omega | (dsimp only; omega)⟩
    · by_cases p4 : ph = 4
      · subst p4; simp only [hearI, if_true, if_neg hv, if_neg p1, if_neg p3]; repeat' split
        all_goals exact ⟨by first | rfl | trivial, by first | omega | (dsimp only; omega)⟩
      · by_cases p5 : ph = 5
        · subst p5; simp only [hearI, if_true, if_neg hv, if_neg p1, if_neg p3, if_neg p4]
          exact ⟨by first | rfl | trivial, by first | omega | (dsimp only; omega)⟩
        · by_cases p6 : ph = 6
          · subst p6; simp only [hearI, if_true, if_neg hv, if_neg p1, if_neg p3, if_neg p4, if_neg p5]
            exact ⟨by first | rfl | trivial, by first | omega | (dsimp only; omega)⟩
          · simp [asksI, p1, p3, p4, p5, p6] at ho
theorem old_j1 (k : Nat) (ph am tr nx q0 q1 q2 q3 q4 v x5 : Int) (x6 : Bool) (ht : ph = 1 → tr = 1 ∨ tr = 2 ∨ tr = 3 ∨ tr = 4) :
    paybooklaw12_CycleOld.j1 (k + 8) x5 x6 (asksI 2 7 ph am tr).2.2.2.2.2.2 q0 q1 q2 q3 q4 v 7 9 ph am 5 tr nx true (asksI 2 7 ph am tr).1 (asksI 2 7 ph am tr).2.1 (asksI 2 7 ph am tr).2.2.1 (asksI 2 7 ph am tr).2.2.2.1 (asksI 2 7 ph am tr).2.2.2.2.1 (asksI 2 7 ph am tr).2.2.2.2.2.1 = some true := by
  have j2 (e : Int) (p n : Int) (he : e = 0) (hp : p ≠ ph) : paybooklaw12_CycleOld.j2 (k + 7) e true 7 9 ph am 5 tr nx true 7 9 p am 5 tr n true = some true := by
    simp [paybooklaw12_CycleOld.j2, awake_f, he, hp]
  have j2' : paybooklaw12_CycleOld.j2 (k + 7) 10 false 7 9 ph am 5 tr nx true 7 9 ph am 5 tr nx true = some true := by
    simp [paybooklaw12_CycleOld.j2, awake_f]
  have z : (asksI 2 7 ph am tr).2.2.2.2.2.1 = 0 := by unfold asksI; repeat' split
                                                      all_goals rfl
  rw [show k + 8 = (k + 7) + 1 from rfl]
  rw [paybooklaw12_CycleOld.j1]
  by_cases hq : (asksI 2 7 ph am tr).2.2.2.2.2.2 = true ∧ ((asksI 2 7 ph am tr).1 = q0 ∧ (asksI 2 7 ph am tr).2.1 = q1 ∧ (asksI 2 7 ph am tr).2.2.1 = q2 ∧ (asksI 2 7 ph am tr).2.2.2.1 = q3 ∧ (asksI 2 7 ph am tr).2.2.2.2.1 = q4) ∧ v ≠ 0
  · obtain ⟨ho, ⟨rfl, rfl, rfl, rfl, rfl⟩, hv⟩ := hq
    have hk := hear_ok (nx := nx) (today := wrap64 x5) (over := x6) (g := true) ht ho hv
    rw [hear_f (k + 6) 2 7 9 ph am 5 tr nx true v (wrap64 x5) x6 ht]
    simp only [Option.bind_some, ho, if_true, z, beq_self_eq_true, Bool.and_self]
    rw [show (v != 0) = true by simp [hv]]
    exact j2 _ _ _ hk.1 hk.2
  · have h : (asksI 2 7 ph am tr).2.2.2.2.2.2 = false ∨ ¬ ((asksI 2 7 ph am tr).1 = q0 ∧ (asksI 2 7 ph am tr).2.1 = q1 ∧ (asksI 2 7 ph am tr).2.2.1 = q2 ∧ (asksI 2 7 ph am tr).2.2.2.1 = q3 ∧ (asksI 2 7 ph am tr).2.2.2.2.1 = q4) ∨ v = 0 := by
      by_cases ho : (asksI 2 7 ph am tr).2.2.2.2.2.2 = true
      · by_cases hm : ((asksI 2 7 ph am tr).1 = q0 ∧ (asksI 2 7 ph am tr).2.1 = q1 ∧ (asksI 2 7 ph am tr).2.2.1 = q2 ∧ (asksI 2 7 ph am tr).2.2.2.1 = q3 ∧ (asksI 2 7 ph am tr).2.2.2.2.1 = q4)
        · exact Or.inr (Or.inr (Decidable.byContradiction fun hv => hq ⟨ho, hm, hv⟩))
        · exact Or.inr (Or.inl hm)
      · exact Or.inl (by simpa using ho)
    rw [hear_old (k + 6) 2 7 9 ph am 5 tr nx true q0 q1 q2 q3 q4 v (wrap64 x5) x6 h]
    simp only [Option.bind_some]
    split
    · rename_i ho
      split
      · rename_i hm
        rcases h with h | h | h
        · rw [h] at ho; exact absurd ho (by simp)
        · exfalso
          simp only [Bool.and_eq_true, beq_iff_eq] at hm
          exact h ⟨hm.1.symm, hm.2.1.symm, hm.2.2.1.symm, hm.2.2.2.1.symm, hm.2.2.2.2.1.symm⟩
        · subst h; exact j2'
      · exact j2'
    · exact j2'
theorem CycleOld : paybooklaw12_CycleOld.Pure := by
  intro a0 a1 a2 b0 b1 b2 b3 b4 b5 a4 a5 a6 h0 h1 h2 _ _ _ _ _ _ _ _
  obtain ⟨ph, tr, nx, hm, hf⟩ := at_f (a0 := a0) (a1 := 7) (a2 := 9) (a3 := a1) (a4 := 5) (a5 := a2) (a6 := 3) true (bounds_u8 h0) (by omega) (by omega) (bounds_u32 h1) (by omega) (bounds_u8 h2) (by omega)
  have ht : ph = 1 → tr = 1 ∨ tr = 2 ∨ tr = 3 ∨ tr = 4 := by unfold May at hm; omega
  have J (q0 q1 q2 q3 q4 v : Int) := old_j1 0 ph a1 tr nx q0 q1 q2 q3 q4 v a5 a6 ht
  refine ⟨9, ?_⟩
  unfold paybooklaw12_CycleOld.f
  rw [hf 8]
  simp only [Option.bind_some, asks_f]
  simp only [paybooklaw12_CycleOld.j0]
  simp only [Nat.zero_add] at J
  repeat' split
  all_goals exact J _ _ _ _ _ _

end Go.Proofs.YtlfaaogifplgeaaDoor.Pure
