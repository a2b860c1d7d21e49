-- a charge that is put off each time
import Derived.Test.YtlfaaogifplgeaaDoorPAx10
import Derived.Test.YtlfaaogifplgeaaDoorPAx11
import Derived.Test.YtlfaaogifplgeaaDoorPAx14
import Derived.Test.YtlfaaogifplgeaaDoorPAx20
import Derived.Test.YtlfaaogifplgeaaDoorPAx21
import Derived.Test.YtlfaaogifplgeaaDoorPureHear
namespace Go.Proofs.YtlfaaogifplgeaaDoor.Pure
open Go.RowKit Go.Proofs.YtlfaaogifplgeaaDoor.PA Go.Proofs.YtlfaaogifplgeaaDoorW.PrintWords Go.Proofs.YtlfaaogifplgeaaDoorW.PrintLast Go.Proofs.YtlfaaogifplgeaaDoorW.PrintMore

theorem s0 : rd [1, 3, 7] 0 = 1 := by decide
theorem s1 : rd [1, 3, 7] 1 = 3 := by decide
theorem s2 : rd [1, 3, 7] 2 = 7 := by decide
theorem ladder_step (k : Nat) (x0 day i st due am : Int) (g : Bool) (hd : 0 ≤ day ∧ day ≤ 100000) (hi : (i = 0 ∧ st = 1) ∨ (i = 1 ∧ st = 3) ∨ (i = 2 ∧ st = 7)) :
    paybooklaw12_CycleLadder.l0 (k + 3) x0 day i 3 due 1 am 0 (i + 1) 0 g = paybooklaw12_CycleLadder.l0 (k + 1) x0 (day + st) (i + 1) 3 due 1 am 0 (i + 2) 0 g := by
  have hh := hear_f k 0 3 due 1 am 0 (i + 1) 0 g 2 day false (by omega)
  have hs : stepI (i + 1) = st := by unfold stepI; rcases hi with ⟨rfl, rfl⟩ | ⟨rfl, rfl⟩ | ⟨rfl, rfl⟩ <;> simp
  have he : hearI 1 am (i + 1) 0 2 day false g = (2, day + st, 0) := by
    simp only [hearI, hs, if_true, Bool.false_eq_true, if_false, show ¬ (2 : Int) = 0 by omega, show ¬ (2 : Int) = 1 by omega, if_pos (show i + 1 < 4 by omega), w_of (a := day + st) (by omega) (by omega)]
  rw [he] at hh
  have ha : asksI 0 3 1 am (i + 1) = (1, 0, 3, i + 1, am, 0, true) := rfl
  rw [ha] at hh
  have hr : rd [1, 3, 7] i = st := by rcases hi with ⟨rfl, rfl⟩ | ⟨rfl, rfl⟩ | ⟨rfl, rfl⟩ <;> decide
  have e1 : wrap64 (i + 1) = i + 1 := w_of (by omega) (by omega)
  have e2 : wrap64 (i + 1 + 1) = i + 2 := by rw [w_of (by omega) (by omega)]; omega
  have e3 : wrap64 (day + st) = day + st := w_of (by omega) (by omega)
  have e4 : wrap64 (day + st - 1) = day + st - 1 := w_of (by omega) (by omega)
  rw [show k + 3 = (k + 1 + 1) + 1 from rfl]
  conv => lhs; unfold paybooklaw12_CycleLadder.l0
  simp only [if_pos (show i < 4 by omega), asks_f, ha, Option.bind_some, if_true, e1, bne_self_eq_false]
  conv => lhs; unfold paybooklaw12_CycleLadder.j1
  simp only [Bool.false_eq_true, if_false, hh, Option.bind_some, if_neg (show ¬ i = 3 by omega), paybookref12_Steps.f, if_pos (show 0 ≤ i by omega), List.length_cons, List.length_nil]
  rw [if_pos (by omega)]
  simp only [if_true, hr, e3, e4, cycle_Wake.f, cycle_Card.f, ge_iff_le, if_neg (show ¬ day + st ≤ day + st - 1 by omega), Option.bind_some, beq_self_eq_true, Bool.not_true, Bool.or_self, Bool.false_eq_true, if_false, if_pos (Int.le_refl (day + st)), e1, e2]
theorem CycleLadder : paybooklaw12_CycleLadder.Pure := by
  intro a0 a1 a2 h0 h1
  have h0 := bounds_u16 h0
  have h1 := bounds_u16 h1
  refine ⟨15, ?_⟩
  unfold paybooklaw12_CycleLadder.f
  have e0 := w_of (a := a0) (by omega) (by omega)
  have e1 := w_of (a := a1) (by omega) (by omega)
  have e2 := w_of (a := a0 + 11) (by omega) (by omega)
  by_cases hz : a1 = 0
  · simp [hz, show paybooklaw12_awake.f 15 = some true from awake_f 9]
  · rw [if_neg hz, e0, e1]
    have hb : cycle_Begin.f 3 a0 a1 0 a2 = some (3, a0, 1, a1, 0, 1, 0, a2) := by unfold cycle_Begin.f; rw [if_neg hz]
    rw [hb]
    dsimp only [Option.bind_some]
    have t0 := ladder_step 12 a0 a0 0 1 a0 a1 a2 (by omega) (by omega)
    have t1 := ladder_step 10 a0 (a0 + 1) 1 3 a0 a1 a2 (by omega) (by omega)
    have t2 := ladder_step 8 a0 (a0 + 1 + 3) 2 7 a0 a1 a2 (by omega) (by omega)
    simp only [Nat.reduceAdd, Int.reduceAdd, Int.zero_add] at t0 t1 t2
    rw [t0, t1, t2]
    have hh := hear_f 6 0 3 a0 1 a1 0 4 0 a2 2 (a0 + 1 + 3 + 7) false (by omega)
    have he : hearI 1 a1 4 0 2 (a0 + 1 + 3 + 7) false a2 = (8, 0, 0) := by simp [hearI]
    rw [he] at hh
    have ha : asksI 0 3 1 a1 4 = (1, 0, 3, 4, a1, 0, true) := rfl
    rw [ha] at hh
    have w4 : wrap64 (3 + 1) = 4 := w_of (by omega) (by omega)
    unfold paybooklaw12_CycleLadder.l0
    simp only [if_pos (show (3 : Int) < 4 by omega), asks_f, ha, Option.bind_some, if_true, w4, bne_self_eq_false]
    unfold paybooklaw12_CycleLadder.j1
    simp only [Bool.false_eq_true, if_false, hh, Option.bind_some, if_true, show paybooklaw12_awake.f 7 = some true from awake_f 1, e0, e2]
    simp; omega

end Go.Proofs.YtlfaaogifplgeaaDoor.Pure
