-- what becomes of a cycle that hears an answer
import Derived.Test.YtlfaaogifplgeaaDoorPureCycle
import Derived.Test.YtlfaaogifplgeaaDoorPAx0
import Derived.Test.YtlfaaogifplgeaaDoorPAx10
import Derived.Test.YtlfaaogifplgeaaDoorPAx11
import Derived.Test.YtlfaaogifplgeaaDoorPAx4
import Derived.Test.YtlfaaogifplgeaaDoorPAx7
import Derived.Test.YtlfaaogifplgeaaDoorPAx8
import Derived.Test.YtlfaaogifplgeaaDoorPAx9
namespace Go.Proofs.YtlfaaogifplgeaaDoor.Pure
open Go.RowKit Go.Proofs.YtlfaaogifplgeaaDoor.PA Go.Proofs.YtlfaaogifplgeaaDoorW.PrintWords Go.Proofs.YtlfaaogifplgeaaDoorW.PrintLast Go.Proofs.YtlfaaogifplgeaaDoorW.PrintMore

theorem w0 : wrap64 0 = 0 := w_of (by omega) (by omega)
theorem w1 : wrap64 1 = 1 := w_of (by omega) (by omega)
theorem w2 : wrap64 2 = 2 := w_of (by omega) (by omega)
theorem m1 : mx 1 1 = 1 := by decide
theorem m2 : mx 2 1 = 2 := by decide
theorem m3 : mx 3 1 = 3 := by decide
theorem g0 : rd gl0 0 = 1 := by decide
theorem g1 : rd gl0 1 = 3 := by decide
theorem g2 : rd gl0 2 = 7 := by decide
def backP (am : Int) : Int := if am = 0 then 9 else 6
def stepI (tr : Int) : Int := if tr = 1 then 1 else if tr = 2 then 3 else 7
/-- the phase, the next day, the error -/
def hearI (ph am tr nx v today : Int) (over g : Bool) : Int × Int × Int :=
  if ph = 1 then (if v = 0 then (ph, nx, 10) else if v = 1 then (if over then backP am else if g then 3 else 7, nx, 0) else if v = 2 then (if over then (8, nx, 0) else if tr < 4 then (2, wrap64 (today + stepI tr), 0) else (8, nx, 0)) else (8, nx, 0))
  else if ph = 3 then (if v = 0 then (ph, nx, 10) else if v = 1 then (if over then 5 else 4, nx, 0) else (backP am, nx, 0))
  else if ph = 4 then (if v = 0 then (ph, nx, 10) else if v = 1 then (7, nx, 0) else (5, nx, 0))
  else if ph = 5 then (if v = 0 then (ph, nx, 10) else (backP am, nx, 0))
  else if ph = 6 then (if v = 0 then (ph, nx, 10) else (9, nx, 0))
  else (ph, nx, 10)
def asksI (s no ph am tr : Int) : Int × Int × Int × Int × Int × Int × Bool :=
  if ph = 1 then (1, s, no, tr, am, 0, true) else if ph = 3 then (3, s, no, 0, 0, 0, true) else if ph = 4 then (5, s, no, 0, 0, 0, true) else if ph = 5 then (4, s, no, 0, 0, 0, true)
  else if ph = 6 then (2, s, no, 0, am, 0, true) else (0, 0, 0, 0, 0, 0, false)
theorem asks_f (s no due ph am us tr nx : Int) (g : Bool) : cycle_Asks.f s no due ph am us tr nx g = some (asksI s no ph am tr) := by
  unfold cycle_Asks.f asksI
  repeat' split
  all_goals rfl
theorem back_f (no due ph am us tr nx : Int) (g : Bool) : cycle_back.f no due ph am us tr nx g = some (no, due, backP am, am, us, tr, nx, g) := by
  unfold cycle_back.f backP
  split <;> rfl
theorem paid_f (no due ph am us tr nx : Int) (g over : Bool) : cycle_paid.f no due ph am us tr nx g over = some (no, due, if over then backP am else if g then 3 else 7, am, us, tr, nx, g) := by
  unfold cycle_paid.f
  rw [back_f]
  cases over <;> cases g <;> rfl
theorem charged_f (no due ph am us tr nx : Int) (g : Bool) (v today : Int) (over : Bool) (ht : tr = 1 ∨ tr = 2 ∨ tr = 3 ∨ tr = 4) (hv : v ≠ 0) :
    cycle_charged.f no due ph am us tr nx g v today over = some (no, due, (hearI 1 am tr nx v today over g).1, am, us, tr, (hearI 1 am tr nx v today over g).2.1, g) := by
  unfold cycle_charged.f
  rw [paid_f]
  by_cases h1 : v = 1
  · subst h1; simp [hearI]
  · by_cases h2 : v = 2
    · subst h2
      rcases ht with rfl | rfl | rfl | rfl <;> cases over <;> simp [hearI, cycle_Tries.f, stepI, w0, w1, w2, m1, m2, m3, g0, g1, g2]
    · simp [h1, h2, hv, hearI]
theorem hear_f (k : Nat) (s no due ph am us tr nx : Int) (g : Bool) (v today : Int) (over : Bool) (ht : ph = 1 → tr = 1 ∨ tr = 2 ∨ tr = 3 ∨ tr = 4) :
    cycle_Hear.f (k + 1) s no due ph am us tr nx g (asksI s no ph am tr).1 (asksI s no ph am tr).2.1 (asksI s no ph am tr).2.2.1 (asksI s no ph am tr).2.2.2.1 (asksI s no ph am tr).2.2.2.2.1 v today over =
      some (no, due, (hearI ph am tr nx v today over g).1, am, us, tr, (hearI ph am tr nx v today over g).2.1, g, (hearI ph am tr nx v today over g).2.2) := by
  unfold cycle_Hear.f
  rw [asks_f]
  by_cases p1 : ph = 1
  · subst p1
    by_cases hv : v = 0
    · subst hv; simp [asksI, hearI, cycle_Hear.j0]
    · simp [asksI, cycle_Hear.j0, hv, charged_f no due 1 am us tr nx g v today over (ht rfl) hv]
      simp only [hearI, if_true, if_neg hv]
      split
      · rfl
      · split
        · split
          · rfl
          · split <;> rfl
        · rfl
  · by_cases p3 : ph = 3
    · subst p3; by_cases hv : v = 0 <;> by_cases hv1 : v = 1 <;> cases over <;> simp [asksI, hearI, cycle_Hear.j0, hv, hv1, back_f] <;> omega
    · by_cases p4 : ph = 4
      · subst p4; by_cases hv : v = 0 <;> by_cases hv1 : v = 1 <;> simp [asksI, hearI, cycle_Hear.j0, hv, hv1] <;> omega
      · by_cases p5 : ph = 5
        · subst p5; by_cases hv : v = 0 <;> simp [asksI, hearI, cycle_Hear.j0, hv, back_f]
        · by_cases p6 : ph = 6
          · subst p6; by_cases hv : v = 0 <;> simp [asksI, hearI, cycle_Hear.j0, hv]
          · simp [asksI, hearI, cycle_Hear.j0, p1, p3, p4, p5, p6]
/-- an answer to anything but what it asks -/
theorem hear_old (k : Nat) (s no due ph am us tr nx : Int) (g : Bool) (q0 q1 q2 q3 q4 v today : Int) (over : Bool)
    (h : (asksI s no ph am tr).2.2.2.2.2.2 = false ∨ ¬ ((asksI s no ph am tr).1 = q0 ∧ (asksI s no ph am tr).2.1 = q1 ∧ (asksI s no ph am tr).2.2.1 = q2 ∧ (asksI s no ph am tr).2.2.2.1 = q3 ∧ (asksI s no ph am tr).2.2.2.2.1 = q4) ∨ v = 0) :
    cycle_Hear.f (k + 1) s no due ph am us tr nx g q0 q1 q2 q3 q4 v today over = some (no, due, ph, am, us, tr, nx, g, 10) := by
  unfold cycle_Hear.f
  rw [asks_f]
  have j : cycle_Hear.j0 (k + 1) today over v true no due ph am us tr nx g = some (no, due, ph, am, us, tr, nx, g, 10) := by simp [cycle_Hear.j0]
  have z : (asksI s no ph am tr).2.2.2.2.2.1 = 0 := by unfold asksI; repeat' split
                                                       all_goals rfl
  simp only [Option.bind_some, j, z]
  split
  · split
    · rfl
    · rename_i a b
      rcases h with h | h | h
      · rw [h] at a; exact absurd a (by simp)
      · exfalso
        simp only [Bool.or_eq_true, Bool.not_eq_true', beq_eq_false_iff_ne, ne_eq, not_or, Decidable.not_not] at b
        exact h ⟨b.1, b.2.1, b.2.2.1, b.2.2.2.1, b.2.2.2.2.1⟩
      · subst h; exact j
  · rfl
theorem awake_f (k : Nat) : paybooklaw12_awake.f (k + 6) = some true := by
  have h3 : wrap64 3 = 3 := w_of (by omega) (by omega)
  have H (j : Nat) (ph am us tr nx : Int) (ht : ph = 1 → tr = 1 ∨ tr = 2 ∨ tr = 3 ∨ tr = 4) := hear_f j 1 0 5 ph am us tr nx true 1 5 false ht
  have a1 := H (k + 4) 1 100 0 1 0 (by omega)
  have a2 := H (k + 3) 3 100 0 1 0 (by omega)
  have a3 := H (k + 2) 4 100 0 1 0 (by omega)
  simp [asksI, hearI] at a1 a2 a3
  unfold paybooklaw12_awake.f
  simp [cycle_Begin.f, paybooklaw12_awake.l0, asks_f, asksI, a1, a2, a3, w1, w2, h3, cycle_Ended.f, cycle_Tries.f]

end Go.Proofs.YtlfaaogifplgeaaDoor.Pure
