-- a charge that was put off: tried again, or never
import Derived.Test.YtlfaaogifplgeaaDoorPAx11
import Derived.Test.YtlfaaogifplgeaaDoorPAx20
import Derived.Test.YtlfaaogifplgeaaDoorPAx22
import Derived.Test.YtlfaaogifplgeaaDoorPAx23
import Derived.Test.YtlfaaogifplgeaaDoorPureHear
namespace Go.Proofs.YtlfaaogifplgeaaDoor.Pure
open Go.RowKit Go.Proofs.YtlfaaogifplgeaaDoor.PA Go.Proofs.YtlfaaogifplgeaaDoorW.PrintWords Go.Proofs.YtlfaaogifplgeaaDoorW.PrintLast

set_option linter.unusedSimpArgs false
theorem CycleWakes : paybooklaw12_CycleWakes.Pure := by
  intro a0 a1 a2 a3 a4 h0 h1 h2 h3 h4
  have h4 := bounds_u16 h4
  have h3 := bounds_u16 h3
  obtain ⟨ph, tr, nx, hm, hf⟩ := at_f (a0 := a0) (a1 := 7) (a2 := 9) (a3 := a1) (a4 := 5) (a5 := a2) (a6 := a3) true (bounds_u8 h0) (by omega) (by omega) (bounds_u32 h1) (by omega) (bounds_u8 h2) h3
  refine ⟨40, ?_⟩
  unfold paybooklaw12_CycleWakes.f
  rw [hf 39]
  have hw : paybooklaw12_awake.f 38 = some true := awake_f 32
  have e4 := w_of (a := a4) (by omega) (by omega)
  obtain ⟨rfl, _, rfl⟩ | ⟨rfl, _, rfl⟩ | ⟨(rfl | rfl | rfl | rfl | rfl | rfl | rfl | rfl), _, rfl⟩ := hm
  · by_cases hl : a4 < 0 <;> simp [paybooklaw12_CycleWakes.j0, paybooklaw12_CycleWakes.j1, cycle_Card.f, cycle_Over.f, cycle_Wake.f, hw, e4, hl]
  · by_cases hl : a4 < nx
    · simp [paybooklaw12_CycleWakes.j0, paybooklaw12_CycleWakes.j1, cycle_Card.f, cycle_Over.f, cycle_Wake.f, hw, e4, hl, show ¬ nx ≤ a4 by omega]
    · simp [paybooklaw12_CycleWakes.j0, paybooklaw12_CycleWakes.j1, cycle_Card.f, cycle_Over.f, cycle_Wake.f, hw, e4, hl, show nx ≤ a4 by omega]
  all_goals by_cases hl : a4 < 0 <;> simp [paybooklaw12_CycleWakes.j0, paybooklaw12_CycleWakes.j1, cycle_Card.f, cycle_Over.f, cycle_Wake.f, hw, e4, hl]

end Go.Proofs.YtlfaaogifplgeaaDoor.Pure
