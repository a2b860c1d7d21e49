-- printed by this workplace: wip/patchprint.py over the kit's print
import Derived.Test.YtinmndkhipfccaaProg
import Derived.Lib.SlBytesConst
import Derived.Below
import Derived.Deep.Draws
import Derived.Deep.AppendLies
import Derived.Maps.AppendAt
import Derived.OwnWalk
import Derived.Laws.BytesArg
import Derived.Laws.MakeOwn
import Derived.Laws.OwnMore
import Derived.Deep.OwnRows
import Derived.Tactics
import Derived.Lib.ConvBytes
import Derived.Laws.Slices
import Derived.WalkKit
import Derived.KernelRfl
import Derived.RowKit3
import Derived.Deep.LoopGhost
import Derived.Deep.QuietTactic
import Derived.BigQuiet
import Derived.WideLaws
import Derived.Deep.DeepCutAuto
import Derived.Deep.CutBlock
import Derived.Deep.RegionHeld3
import Derived.Laws.Rows
import Derived.Lib.AppendStr
import Derived.ArgAppend
import Derived.Laws.IdiomCopy
import Derived.OrdersHeld
import Derived.Laws.BitsLemmas
import Derived.RowKit
import Derived.Test.YtinmndkhipfccaaWWords
import Derived.Test.YtinmndkhipfccaaWLast
import Derived.Test.YtinmndkhipfccaaWTab
import Derived.Test.YtinmndkhipfccaaWFour
import Derived.Test.YtinmndkhipfccaaWQPut
import Derived.Test.YtinmndkhipfccaaWApart
import Derived.Test.YtinmndkhipfccaaWArr
import Derived.Test.YtinmndkhipfccaaWZeros
import Derived.Test.YtinmndkhipfccaaWFoot
import Derived.Test.YtinmndkhipfccaaWKept
import Derived.Test.YtinmndkhipfccaaWShare
import Derived.Test.YtinmndkhipfccaaWN
import Derived.Test.YtinmndkhipfccaaWFootNe
import Derived.Test.YtinmndkhipfccaaWAt
import Derived.Test.YtinmndkhipfccaaWEqStruct
import Derived.Test.YtinmndkhipfccaaWRepsOne
import Derived.Test.YtinmndkhipfccaaWInv
import Derived.Test.YtinmndkhipfccaaWInvWords
import Derived.Test.YtinmndkhipfccaaWGuard
import Derived.Test.YtinmndkhipfccaaWNEv
import Derived.Test.YtinmndkhipfccaaWMore
namespace Go.Proofs.Ytinmndkhipfccaa.PA
open Go.RowKit Go.Proofs.YtinmndkhipfccaaW.PrintWords Go.Proofs.YtinmndkhipfccaaW.PrintLast Go.Proofs.YtinmndkhipfccaaW.PrintMore
attribute [local go_sem] max2_int min2_int max_two min_two max_three min_three max_four min_four   -- for this text's walks alone
set_option linter.unusedVariables false
set_option linter.unusedSimpArgs false



def errW : Option Int → Value
  | none => .nilIface
  | some c => .iface 0 (.int .i64 c)
theorem errW_none : errW none = .nilIface := rfl
theorem errW_some (c : Int) : errW (some c) = .iface 0 (.int .i64 c) := rfl

abbrev T : Bool := true
abbrev F : Bool := false
abbrev kN := @blk_drewN
abbrev kD := @blk_drew
abbrev kA := @blk_alloc
abbrev kF := @blk_frozen
abbrev kC := @blk_cell
abbrev kR := @blk_far
abbrev kP := @blk_put
abbrev kS := @below_set
abbrev kM := @pw_below_drewN
abbrev kE := @below_drew1
abbrev kL := @below_alloc
theorem info2 : (Try.prog.info? 2).map (fun i => (i.zero, i.size, i.bytes)) = some (some (.int .i64 0), 1, 8) := by kernel_rfl
theorem info5 : (Try.prog.info? 5).map (fun i => (i.zero, i.size, i.bytes)) = some (some (.int .u8 0), 1, 1) := by kernel_rfl
-- the values' own types

end Go.Proofs.Ytinmndkhipfccaa.PA
