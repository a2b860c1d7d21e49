-- printed by this workplace: wip/patchprint.py over the kit's print
import Derived.Test.YtlfaaogifplgeaaDoorPAx0
namespace Go.Proofs.YtlfaaogifplgeaaDoor.PA
open Go.RowKit Go.Proofs.YtlfaaogifplgeaaDoorW.PrintWords Go.Proofs.YtlfaaogifplgeaaDoorW.PrintLast Go.Proofs.YtlfaaogifplgeaaDoorW.PrintMore
attribute [local go_sem] max2_int min2_int max_two min_two max_three min_three max_four min_four   -- for this text's walks alone
set_option linter.unusedVariables false
set_option linter.unusedSimpArgs false

/-! ### paybookref12_Ended: function 17 -/
def paybookref12_Ended.f (a0 : Int) : Option (Bool) := some (decide (a0 ≥ 7))
set_option maxHeartbeats 40000000 in
set_option maxRecDepth 100000 in
theorem paybookref12_Ended.calls (a0 : Int) (r : Bool) (w : World) (h : paybookref12_Ended.f a0 = some r) :
  Calls Tryd.prog 17 #[.int .u8 a0] w fun e w' => e = .returned (.bool r) ∧ Drawn0 w w' := by
 have H : (some (decide (a0 ≥ 7))) = some r := h
 clear h
 obtain rfl := Option.some.inj H
 go_enter Tryd.func17, Tryd.ntmps17
 go_wp2
 go_ret
 exact ⟨by first | rfl | (simp; done) | (simp [*]; done), by repeat (first | exact Drawn0.refl _ | apply Drawn0.step)⟩

end Go.Proofs.YtlfaaogifplgeaaDoor.PA
