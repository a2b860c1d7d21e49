-- how a cycle begins
import Derived.Test.YtlfaaogifplgeaaDoorPAx10
import Derived.Test.YtlfaaogifplgeaaDoorPAx11
import Derived.Test.YtlfaaogifplgeaaDoorPAx18
import Derived.Test.YtlfaaogifplgeaaDoorPAx19
import Derived.Test.YtlfaaogifplgeaaDoorPAx7
import Derived.Test.YtlfaaogifplgeaaDoorPureHear
namespace Go.Proofs.YtlfaaogifplgeaaDoor.Pure
open Go.RowKit Go.Proofs.YtlfaaogifplgeaaDoor.PA Go.Proofs.YtlfaaogifplgeaaDoorW.PrintWords Go.Proofs.YtlfaaogifplgeaaDoorW.PrintLast

set_option linter.unusedSimpArgs false
theorem CycleBegins : paybooklaw12_CycleBegins.Pure := by
  intro a0 a1 a2 a3 a4 h0 h1 h2 h3
  have h2 := bounds_u32 h2
  refine ⟨40, ?_⟩
  unfold paybooklaw12_CycleBegins.f
  have hw : paybooklaw12_awake.f 40 = some true := awake_f 34
  rw [w_of (a := a2) (by omega) (by omega)]
  by_cases hz : a2 = 0
  · subst hz; cases a4 <;> simp [cycle_Begin.f, paybookref12_Begin.f, cycle_paid.f, cycle_Pass.f, cycle_Ended.f, hw]
  · have hp : a2 > 0 := by omega
    cases a4 <;> simp [cycle_Begin.f, paybookref12_Begin.f, cycle_paid.f, cycle_Pass.f, cycle_Ended.f, hw, hz, hp]

end Go.Proofs.YtlfaaogifplgeaaDoor.Pure
