-- printed by this workplace: wip/patchprint.py over the kit's print
import Derived.Test.YtlbfmpjkdoecbaaDoorProg
import Derived.Lib.SlBytesConst
import Derived.Below
import Derived.Deep.Draws
import Derived.Deep.AppendLies
import Derived.Maps.AppendAt
import Derived.OwnWalk
import Derived.Laws.BytesArg
import Derived.Laws.MakeOwn
import Derived.Laws.OwnMore
import Derived.Deep.OwnRows
import Derived.Tactics
import Derived.Lib.ConvBytes
import Derived.Laws.Slices
import Derived.WalkKit
import Derived.KernelRfl
import Derived.RowKit3
import Derived.Deep.LoopGhost
import Derived.Deep.QuietTactic
import Derived.BigQuiet
import Derived.WideLaws
import Derived.Deep.DeepCutAuto
import Derived.Deep.CutBlock
import Derived.Deep.RegionHeld3
import Derived.Laws.Rows
import Derived.Lib.AppendStr
import Derived.ArgAppend
import Derived.Laws.IdiomCopy
import Derived.OrdersHeld
import Derived.Laws.BitsLemmas
import Derived.RowKit
import Derived.Test.YtlbfmpjkdoecbaaDoorWWords
import Derived.Test.YtlbfmpjkdoecbaaDoorWLast
import Derived.Test.YtlbfmpjkdoecbaaDoorWTab
import Derived.Test.YtlbfmpjkdoecbaaDoorWFour
import Derived.Test.YtlbfmpjkdoecbaaDoorWQPut
import Derived.Test.YtlbfmpjkdoecbaaDoorWApart
import Derived.Test.YtlbfmpjkdoecbaaDoorWArr
import Derived.Test.YtlbfmpjkdoecbaaDoorWZeros
import Derived.Test.YtlbfmpjkdoecbaaDoorWFoot
import Derived.Test.YtlbfmpjkdoecbaaDoorWKept
import Derived.Test.YtlbfmpjkdoecbaaDoorWShare
import Derived.Test.YtlbfmpjkdoecbaaDoorWN
import Derived.Test.YtlbfmpjkdoecbaaDoorWFootNe
import Derived.Test.YtlbfmpjkdoecbaaDoorWAt
import Derived.Test.YtlbfmpjkdoecbaaDoorWEqStruct
import Derived.Test.YtlbfmpjkdoecbaaDoorWRepsOne
import Derived.Test.YtlbfmpjkdoecbaaDoorWInv
import Derived.Test.YtlbfmpjkdoecbaaDoorWInvWords
import Derived.Test.YtlbfmpjkdoecbaaDoorWGuard
import Derived.Test.YtlbfmpjkdoecbaaDoorWNEv
import Derived.Test.YtlbfmpjkdoecbaaDoorWMore
namespace Go.Proofs.YtlbfmpjkdoecbaaDoor.PA
open Go.RowKit Go.Proofs.YtlbfmpjkdoecbaaDoorW.PrintWords Go.Proofs.YtlbfmpjkdoecbaaDoorW.PrintLast Go.Proofs.YtlbfmpjkdoecbaaDoorW.PrintMore
attribute [local go_sem] max2_int min2_int max_two min_two max_three min_three max_four min_four   -- for this text's walks alone
set_option linter.unusedVariables false
set_option linter.unusedSimpArgs false



def errW : Option Int → Value
  | none => .nilIface
  | some c => .iface 0 (.int .i64 c)
theorem errW_none : errW none = .nilIface := rfl
theorem errW_some (c : Int) : errW (some c) = .iface 0 (.int .i64 c) := rfl

def gl0 : List Int := [0, 498536548, 997073096, 651767980, 1994146192, 1802195444, 1303535960, 1342533948, 3988292384, 4027552580, 3604390888, 3412177804, 2607071920, 2262029012, 2685067896, 3183342108]
theorem gl0_length : gl0.length = 16 := rfl
theorem glob_at {w : World} {k : IntKind} {g n : Nat} {l : List Int} (hl : l.length = n) (h : Kd.C (Kd.int k) w (some ⟨g, 0, none⟩) n l) (i : Int) (h0 : 0 ≤ i) (h1 : i < (n : Int)) : w.cell? ⟨g, i.toNat, none⟩ = some (.int k (rd l i)) := by
  obtain ⟨ad, e, hx⟩ := Kd.at_int h i h0 (by omega)
  cases e
  rwa [add_plain] at hx
abbrev T : Bool := true
abbrev F : Bool := false
abbrev kN := @blk_drewN
abbrev kD := @blk_drew
abbrev kA := @blk_alloc
abbrev kF := @blk_frozen
abbrev kC := @blk_cell
abbrev kR := @blk_far
abbrev kP := @blk_put
abbrev kS := @below_set
abbrev kM := @pw_below_drewN
abbrev kE := @below_drew1
abbrev kL := @below_alloc
theorem info2 : (Tryd.prog.info? 2).map (fun i => (i.zero, i.size, i.bytes)) = some (some (.int .i64 0), 1, 8) := by kernel_rfl
theorem info5 : (Tryd.prog.info? 5).map (fun i => (i.zero, i.size, i.bytes)) = some (some (.int .u8 0), 1, 1) := by kernel_rfl
theorem info31 : (Tryd.prog.info? 31).map (fun i => (i.zero, i.size, i.bytes)) = some (some (.int .u32 0), 1, 4) := by kernel_rfl
-- the values' own types

end Go.Proofs.YtlbfmpjkdoecbaaDoor.PA
