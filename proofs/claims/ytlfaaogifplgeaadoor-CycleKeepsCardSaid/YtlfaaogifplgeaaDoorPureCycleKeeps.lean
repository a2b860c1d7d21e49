-- what stays, whatever is answered
import Derived.Test.YtlfaaogifplgeaaDoorPAx20
import Derived.Test.YtlfaaogifplgeaaDoorPAx22
import Derived.Test.YtlfaaogifplgeaaDoorPAx24
import Derived.Test.YtlfaaogifplgeaaDoorPAx7
import Derived.Test.YtlfaaogifplgeaaDoorPureHear
namespace Go.Proofs.YtlfaaogifplgeaaDoor.Pure
open Go.RowKit Go.Proofs.YtlfaaogifplgeaaDoor.PA Go.Proofs.YtlfaaogifplgeaaDoorW.PrintWords Go.Proofs.YtlfaaogifplgeaaDoorW.PrintLast Go.Proofs.YtlfaaogifplgeaaDoorW.PrintMore

set_option linter.unusedSimpArgs false
def Keeps (no due ph am us tr nx : Int) (g : Bool) (y : S25) : Prop :=
  y.f0 = no ∧ y.f1 = due ∧ y.f3 = am ∧ y.f4 = us ∧ y.f7 = g ∧ tr ≤ y.f5 ∧ y.f5 ≤ tr + 1 ∧ (7 ≤ ph → y.f2 = ph ∧ y.f5 = tr ∧ y.f6 = nx)
theorem keeps_l0 (no due ph am us tr nx : Int) (g : Bool) (ht : 0 ≤ tr ∧ tr ≤ 4) (l : List S25) (hl : ∀ y ∈ l, Keeps no due ph am us tr nx g y) (hm : l.length ≤ 100) :
    ∀ (d i : Nat), i + d = l.length → paybooklaw12_CycleKeeps.l0 (d + 7) l (i : Int) no due ph am us tr nx g = some true
  | 0, i, hi => by
    unfold paybooklaw12_CycleKeeps.l0
    rw [if_neg (by omega), awake_f 0]
    rfl
  | d + 1, i, hi => by
    have ih := keeps_l0 no due ph am us tr nx g ht l hl hm d (i + 1) (by omega)
    rw [show d + 1 + 7 = (d + 7) + 1 from rfl]
    unfold paybooklaw12_CycleKeeps.l0
    rw [if_pos (by omega), if_pos (by omega)]
    have hy : rd_T25 l (i : Int) = l[i]'(by omega) := by simp [rd_T25, show i < l.length by omega]
    obtain ⟨h0, h1, h3, h4, h7, h5, h6, he⟩ := hl (l[i]'(by omega)) (List.getElem_mem _)
    have wt : wrap64 (tr + 1) = tr + 1 := w_of (by omega) (by omega)
    have wi : wrap64 ((i : Int) + 1) = ((i + 1 : Nat) : Int) := by rw [w_of (by omega) (by omega)]; omega
    simp only [hy, h0, h1, h3, h4, h7, if_true, wt, wi, cycle_Ended.f, Option.bind_some]
    by_cases hp : ph ≥ 7
    · obtain ⟨e2, e5, e6⟩ := he hp
      simp [hp, e2, e5, e6, show ¬ tr + 1 < tr by omega]
      exact ih
    · simp [hp, show ¬ (l[i]'(by omega)).f5 < tr by omega, show ¬ tr + 1 < (l[i]'(by omega)).f5 by omega]
      exact ih
theorem CycleKeeps : paybooklaw12_CycleKeeps.Pure := by
  intro a0 a1 a2 a3 a4 a5 a6 a7 h0 h1 h2 h3 h4 h5
  obtain ⟨ph, tr, nx, hm, hf⟩ := at_f (a0 := a0) (a1 := 7) (a2 := 9) (a3 := a1) (a4 := a2) (a5 := a3) (a6 := 3) a6 (bounds_u8 h0) (by omega) (by omega) (bounds_u32 h1) (bounds_i32 h2) (bounds_u8 h3) (by omega)
  refine ⟨11, ?_⟩
  unfold paybooklaw12_CycleKeeps.f
  rw [hf 10]
  have ht : 0 ≤ tr ∧ tr ≤ 4 := by unfold May at hm; omega
  have ht1 : ph = 1 → tr = 1 ∨ tr = 2 ∨ tr = 3 ∨ tr = 4 := by unfold May at hm; omega
  have wt : wrap64 (tr + 1) = tr + 1 := w_of (by omega) (by omega)
  have hh := hear_f 10 1 7 9 ph a1 a2 tr nx a6 a4 (wrap64 a5) a7 ht1
  simp only [Option.bind_some, asks_f]
  rw [hh]
  obtain ⟨w, hw, w0, w1, w3, w4, w5, w7, w6⟩ : ∃ y : Int × Int × Int × Int × Int × Int × Int × Bool, cycle_Wake.f 7 9 ph a1 a2 tr nx a6 (wrap64 a5) = some y ∧ y.1 = 7 ∧ y.2.1 = 9 ∧ y.2.2.2.1 = a1 ∧ y.2.2.2.2.1 = a2 ∧ (tr ≤ y.2.2.2.2.2.1 ∧ y.2.2.2.2.2.1 ≤ tr + 1) ∧ y.2.2.2.2.2.2.2 = a6 ∧ (7 ≤ ph → y.2.2.1 = ph ∧ y.2.2.2.2.2.1 = tr ∧ y.2.2.2.2.2.2.1 = nx) := by
    unfold cycle_Wake.f cycle_Card.f
    by_cases p : ph = 2
    · by_cases l : wrap64 a5 ≥ nx
      · exact ⟨(7, 9, 1, a1, a2, tr + 1, 0, a6), by simp [p, l, wt], rfl, rfl, rfl, rfl, by dsimp only; omega, rfl, by omega⟩
      · exact ⟨(7, 9, ph, a1, a2, tr, nx, a6), by rw [if_pos p, if_neg l], rfl, rfl, rfl, rfl, by dsimp only; omega, rfl, by simp⟩
    · exact ⟨(7, 9, ph, a1, a2, tr, nx, a6), by rw [if_neg p], rfl, rfl, rfl, rfl, by dsimp only; omega, rfl, by simp⟩
  obtain ⟨c, hc, c0, c1, c3, c4, c5, c7, c6⟩ : ∃ y : Int × Int × Int × Int × Int × Int × Int × Bool, cycle_Card.f 7 9 ph a1 a2 tr nx a6 = some y ∧ y.1 = 7 ∧ y.2.1 = 9 ∧ y.2.2.2.1 = a1 ∧ y.2.2.2.2.1 = a2 ∧ (tr ≤ y.2.2.2.2.2.1 ∧ y.2.2.2.2.2.1 ≤ tr + 1) ∧ y.2.2.2.2.2.2.2 = a6 ∧ (7 ≤ ph → y.2.2.1 = ph ∧ y.2.2.2.2.2.1 = tr ∧ y.2.2.2.2.2.2.1 = nx) := by
    unfold cycle_Card.f
    by_cases p : ph = 2
    · exact ⟨(7, 9, 1, a1, a2, tr + 1, 0, a6), by simp [p, wt], rfl, rfl, rfl, rfl, by dsimp only; omega, rfl, by omega⟩
    · exact ⟨(7, 9, ph, a1, a2, tr, nx, a6), by rw [if_neg p], rfl, rfl, rfl, rfl, by dsimp only; omega, rfl, by simp⟩
  obtain ⟨o, ho, o0, o1, o3, o4, o5, o7, o6⟩ : ∃ y : Int × Int × Int × Int × Int × Int × Int × Bool, cycle_Over.f 7 9 ph a1 a2 tr nx a6 = some y ∧ y.1 = 7 ∧ y.2.1 = 9 ∧ y.2.2.2.1 = a1 ∧ y.2.2.2.2.1 = a2 ∧ (tr ≤ y.2.2.2.2.2.1 ∧ y.2.2.2.2.2.1 ≤ tr + 1) ∧ y.2.2.2.2.2.2.2 = a6 ∧ (7 ≤ ph → y.2.2.1 = ph ∧ y.2.2.2.2.2.1 = tr ∧ y.2.2.2.2.2.2.1 = nx) := by
    unfold cycle_Over.f
    by_cases p : ph = 2
    · exact ⟨(7, 9, 8, a1, a2, tr, 0, a6), by simp [p], rfl, rfl, rfl, rfl, by dsimp only; omega, rfl, by omega⟩
    · exact ⟨(7, 9, ph, a1, a2, tr, nx, a6), by rw [if_neg p], rfl, rfl, rfl, rfl, by dsimp only; omega, rfl, by simp⟩
  simp only [Option.bind_some, hw, hc, ho]
  refine keeps_l0 7 9 ph a1 a2 tr nx a6 ht _ ?_ (by simp) 4 0 (by simp)
  intro y hy
  simp only [List.mem_cons, List.not_mem_nil, or_false] at hy
  rcases hy with rfl | rfl | rfl | rfl
  · refine ⟨rfl, rfl, rfl, rfl, rfl, by dsimp only; omega, by dsimp only; omega, fun hp => ?_⟩
    have e : hearI ph a1 tr nx a4 (wrap64 a5) a7 a6 = (ph, nx, 10) := by
      unfold hearI
      rw [if_neg (by omega), if_neg (by omega), if_neg (by omega), if_neg (by omega), if_neg (by omega)]
    simp only [e, and_self]
  · exact ⟨w0, w1, w3, w4, w7, w5.1, w5.2, w6⟩
  · exact ⟨c0, c1, c3, c4, c7, c5.1, c5.2, c6⟩
  · exact ⟨o0, o1, o3, o4, o7, o5.1, o5.2, o6⟩

end Go.Proofs.YtlfaaogifplgeaaDoor.Pure
