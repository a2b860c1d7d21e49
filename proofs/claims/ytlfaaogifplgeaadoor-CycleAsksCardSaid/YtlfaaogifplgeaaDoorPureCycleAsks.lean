-- what a cycle asks, in each phase
import Derived.Test.YtlfaaogifplgeaaDoorPAx11
import Derived.Test.YtlfaaogifplgeaaDoorPAx12
import Derived.Test.YtlfaaogifplgeaaDoorPAx13
import Derived.Test.YtlfaaogifplgeaaDoorPAx4
import Derived.Test.YtlfaaogifplgeaaDoorPAx5
import Derived.Test.YtlfaaogifplgeaaDoorPAx6
import Derived.Test.YtlfaaogifplgeaaDoorPAx7
import Derived.Test.YtlfaaogifplgeaaDoorPureHear
namespace Go.Proofs.YtlfaaogifplgeaaDoor.Pure
open Go.RowKit Go.Proofs.YtlfaaogifplgeaaDoor.PA Go.Proofs.YtlfaaogifplgeaaDoorW.PrintWords Go.Proofs.YtlfaaogifplgeaaDoorW.PrintLast

theorem CycleAsks : paybooklaw12_CycleAsks.Pure := by
  intro a0 a1 a2 a3 a4 a5 h0 h1 h2 h3 h4
  obtain ⟨ph, tr, nx, hm, hf⟩ := at_f (a0 := a0) (a1 := a1) (a2 := 9) (a3 := a2) (a4 := 0) (a5 := a3) (a6 := 3) a5 (bounds_u8 h0) (bounds_u16 h1) (by omega) (bounds_u32 h2) (by omega) (bounds_u8 h3) (by omega)
  refine ⟨40, ?_⟩
  unfold paybooklaw12_CycleAsks.f
  rw [hf 39]
  have hw : paybooklaw12_awake.f 40 = some true := awake_f 34
  obtain ⟨rfl, _⟩ | ⟨rfl, _⟩ | ⟨(rfl | rfl | rfl | rfl | rfl | rfl | rfl | rfl), _⟩ := hm <;> simp [cycle_Asks.f, paybookref12_Asks.f, paybookref12_Kind.f, cycle_Ended.f, paybookref12_Ended.f, hw]

end Go.Proofs.YtlfaaogifplgeaaDoor.Pure
