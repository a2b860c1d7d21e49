/- Each phase of a cycle, each verdict, in time and over: what becomes of it is what the reference says. -/
import Derived.Test.YtlfaaogifplgeaaDoorPAx11
import Derived.Test.YtlfaaogifplgeaaDoorPAx16
import Derived.Test.YtlfaaogifplgeaaDoorPAx17
import Derived.Test.YtlfaaogifplgeaaDoorPAx18
import Derived.Test.YtlfaaogifplgeaaDoorPAx4
import Derived.Test.YtlfaaogifplgeaaDoorPAx5
import Derived.Test.YtlfaaogifplgeaaDoorPAx6
import Derived.Test.YtlfaaogifplgeaaDoorPAx7
import Derived.Test.YtlfaaogifplgeaaDoorPAx8
import Derived.Test.YtlfaaogifplgeaaDoorPAx9
import Derived.Test.YtlfaaogifplgeaaDoorPureHear
namespace Go.Proofs.YtlfaaogifplgeaaDoor.Pure
open Go.RowKit Go.Proofs.YtlfaaogifplgeaaDoor.PA Go.Proofs.YtlfaaogifplgeaaDoorW.PrintWords Go.Proofs.YtlfaaogifplgeaaDoorW.PrintLast Go.Proofs.YtlfaaogifplgeaaDoorW.PrintMore

theorem s0 : rd [1, 3, 7] 0 = 1 := by decide
theorem s1 : rd [1, 3, 7] 1 = 3 := by decide
theorem s2 : rd [1, 3, 7] 2 = 7 := by decide

set_option maxHeartbeats 8000000 in
theorem CycleHears : paybooklaw12_CycleHears.Pure := by
  intro a0 a1 a2 a3 a4 a5 a6 h0 h1 h2 h3 h4
  obtain ⟨ph, tr, nx, hm, hf⟩ := at_f (a0 := a0) (a1 := 7) (a2 := 9) (a3 := a1) (a4 := 5) (a5 := a2) (a6 := 3) a5 (bounds_u8 h0) (by omega) (by omega) (bounds_u32 h1) (by omega) (bounds_u8 h2) (by omega)
  refine ⟨40, ?_⟩
  unfold paybooklaw12_CycleHears.f
  rw [hf 39]
  have hw : paybooklaw12_awake.f 40 = some true := awake_f 34
  have h3 := bounds_u8 h3
  have hv : Int.tmod a3 5 = 0 ∨ Int.tmod a3 5 = 1 ∨ Int.tmod a3 5 = 2 ∨ Int.tmod a3 5 = 3 ∨ Int.tmod a3 5 = 4 := by rw [Int.tmod_eq_emod_of_nonneg (by omega)]; omega
  generalize Int.tmod a3 5 = v at hv ⊢
  obtain ⟨rfl, ht, rfl⟩ | ⟨rfl, _, rfl⟩ | ⟨(rfl | rfl | rfl | rfl | rfl | rfl | rfl | rfl), rfl, rfl⟩ := hm
  · rcases hv with rfl | rfl | rfl | rfl | rfl
    · simp [hw, cycle_Asks.f, cycle_Hear.f, cycle_Hear.j0, paybookref12_Asks.f, paybookref12_Kind.f, paybookref12_Hear.f, paybookref12_Hear.j0]
    · cases a6 <;> cases a5 <;> (by_cases hz : a1 = 0) <;> simp [hw, hz, cycle_Asks.f, cycle_Hear.f, cycle_Hear.j0, cycle_charged.f, cycle_paid.f, cycle_back.f, paybookref12_Asks.f, paybookref12_Kind.f, paybookref12_Hear.f, paybookref12_Hear.j0, paybookref12_Hear.j1, paybookref12_Hear.j2, paybookref12_back.f]
    · rcases ht with rfl | rfl | rfl | rfl <;> cases a6 <;> simp [hw, cycle_Asks.f, cycle_Hear.f, cycle_Hear.j0, cycle_charged.f, cycle_Tries.f, paybookref12_Asks.f, paybookref12_Kind.f, paybookref12_Hear.f, paybookref12_Hear.j0, paybookref12_Hear.j1, paybookref12_Hear.j2, paybookref12_Steps.f, w0, w1, w2, m1, m2, m3, g0, g1, g2, s0, s1, s2]
    · simp [hw, cycle_Asks.f, cycle_Hear.f, cycle_Hear.j0, cycle_charged.f, paybookref12_Asks.f, paybookref12_Kind.f, paybookref12_Hear.f, paybookref12_Hear.j0, paybookref12_Hear.j1, paybookref12_Hear.j2]
    · simp [hw, cycle_Asks.f, cycle_Hear.f, cycle_Hear.j0, cycle_charged.f, paybookref12_Asks.f, paybookref12_Kind.f, paybookref12_Hear.f, paybookref12_Hear.j0, paybookref12_Hear.j1, paybookref12_Hear.j2]
  · simp [hw, cycle_Asks.f]
  all_goals rcases hv with rfl | rfl | rfl | rfl | rfl <;> cases a6 <;> (by_cases hz : a1 = 0) <;> simp [hw, hz, cycle_Asks.f, cycle_Hear.f, cycle_Hear.j0, cycle_back.f, paybookref12_Asks.f, paybookref12_Kind.f, paybookref12_Hear.f, paybookref12_Hear.j0, paybookref12_back.f]

end Go.Proofs.YtlfaaogifplgeaaDoor.Pure
