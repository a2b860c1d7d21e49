-- printed by this workplace: wip/patchprint.py over the kit's print
import Derived.Test.YtlbfmpjkdoecbaaProg
import Derived.Lib.SlBytesConst
import Derived.Below
import Derived.Deep.Draws
import Derived.Deep.AppendLies
import Derived.Maps.AppendAt
import Derived.OwnWalk
import Derived.Laws.BytesArg
import Derived.Laws.MakeOwn
import Derived.Laws.OwnMore
import Derived.Deep.OwnRows
import Derived.Tactics
import Derived.Lib.ConvBytes
import Derived.Laws.Slices
import Derived.WalkKit
import Derived.KernelRfl
import Derived.RowKit3
import Derived.Deep.LoopGhost
import Derived.Deep.QuietTactic
import Derived.BigQuiet
import Derived.WideLaws
import Derived.Deep.DeepCutAuto
import Derived.Deep.CutBlock
import Derived.Deep.RegionHeld3
import Derived.Laws.Rows
import Derived.Lib.AppendStr
import Derived.ArgAppend
import Derived.Laws.IdiomCopy
import Derived.OrdersHeld
import Derived.Laws.BitsLemmas
import Derived.RowKit
import Derived.Test.YtlbfmpjkdoecbaaWWords
import Derived.Test.YtlbfmpjkdoecbaaWLast
import Derived.Test.YtlbfmpjkdoecbaaWTab
import Derived.Test.YtlbfmpjkdoecbaaWFour
import Derived.Test.YtlbfmpjkdoecbaaWQPut
import Derived.Test.YtlbfmpjkdoecbaaWApart
import Derived.Test.YtlbfmpjkdoecbaaWArr
import Derived.Test.YtlbfmpjkdoecbaaWZeros
import Derived.Test.YtlbfmpjkdoecbaaWFoot
import Derived.Test.YtlbfmpjkdoecbaaWKept
import Derived.Test.YtlbfmpjkdoecbaaWShare
import Derived.Test.YtlbfmpjkdoecbaaWN
import Derived.Test.YtlbfmpjkdoecbaaWFootNe
import Derived.Test.YtlbfmpjkdoecbaaWAt
import Derived.Test.YtlbfmpjkdoecbaaWEqStruct
import Derived.Test.YtlbfmpjkdoecbaaWRepsOne
import Derived.Test.YtlbfmpjkdoecbaaWInv
import Derived.Test.YtlbfmpjkdoecbaaWInvWords
import Derived.Test.YtlbfmpjkdoecbaaWGuard
import Derived.Test.YtlbfmpjkdoecbaaWNEv
import Derived.Test.YtlbfmpjkdoecbaaWMore
namespace Go.Proofs.Ytlbfmpjkdoecbaa.PA
open Go.RowKit Go.Proofs.YtlbfmpjkdoecbaaW.PrintWords Go.Proofs.YtlbfmpjkdoecbaaW.PrintLast Go.Proofs.YtlbfmpjkdoecbaaW.PrintMore
attribute [local go_sem] max2_int min2_int max_two min_two max_three min_three max_four min_four   -- for this text's walks alone
set_option linter.unusedVariables false
set_option linter.unusedSimpArgs false



def errW : Option Int → Value
  | none => .nilIface
  | some c => .iface 0 (.int .i64 c)
theorem errW_none : errW none = .nilIface := rfl
theorem errW_some (c : Int) : errW (some c) = .iface 0 (.int .i64 c) := rfl

abbrev T : Bool := true
abbrev F : Bool := false
abbrev kN := @blk_drewN
abbrev kD := @blk_drew
abbrev kA := @blk_alloc
abbrev kF := @blk_frozen
abbrev kC := @blk_cell
abbrev kR := @blk_far
abbrev kP := @blk_put
abbrev kS := @below_set
abbrev kM := @pw_below_drewN
abbrev kE := @below_drew1
abbrev kL := @below_alloc
theorem info5 : (Try.prog.info? 5).map (fun i => (i.zero, i.size, i.bytes)) = some (some (.int .u8 0), 1, 1) := by kernel_rfl
-- the values' own types

end Go.Proofs.Ytlbfmpjkdoecbaa.PA
