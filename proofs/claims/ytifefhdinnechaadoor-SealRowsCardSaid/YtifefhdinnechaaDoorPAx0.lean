-- printed by this workplace: wip/patchprint.py over the kit's print
import Derived.Test.YtifefhdinnechaaDoorProg
import Derived.Lib.SlBytesConst
import Derived.Below
import Derived.Deep.Draws
import Derived.Deep.AppendLies
import Derived.Maps.AppendAt
import Derived.OwnWalk
import Derived.Laws.BytesArg
import Derived.Laws.MakeOwn
import Derived.Laws.OwnMore
import Derived.Deep.OwnRows
import Derived.Tactics
import Derived.Lib.ConvBytes
import Derived.Laws.Slices
import Derived.WalkKit
import Derived.KernelRfl
import Derived.RowKit3
import Derived.Deep.LoopGhost
import Derived.Deep.QuietTactic
import Derived.BigQuiet
import Derived.WideLaws
import Derived.Deep.DeepCutAuto
import Derived.Deep.CutBlock
import Derived.Deep.RegionHeld3
import Derived.Laws.Rows
import Derived.Lib.AppendStr
import Derived.ArgAppend
import Derived.Laws.IdiomCopy
import Derived.OrdersHeld
import Derived.Laws.BitsLemmas
import Derived.RowKit
import Derived.Test.YtifefhdinnechaaDoorWWords
import Derived.Test.YtifefhdinnechaaDoorWLast
import Derived.Test.YtifefhdinnechaaDoorWTab
import Derived.Test.YtifefhdinnechaaDoorWFour
import Derived.Test.YtifefhdinnechaaDoorWQPut
import Derived.Test.YtifefhdinnechaaDoorWApart
import Derived.Test.YtifefhdinnechaaDoorWArr
import Derived.Test.YtifefhdinnechaaDoorWZeros
import Derived.Test.YtifefhdinnechaaDoorWFoot
import Derived.Test.YtifefhdinnechaaDoorWKept
import Derived.Test.YtifefhdinnechaaDoorWShare
import Derived.Test.YtifefhdinnechaaDoorWN
import Derived.Test.YtifefhdinnechaaDoorWFootNe
import Derived.Test.YtifefhdinnechaaDoorWAt
import Derived.Test.YtifefhdinnechaaDoorWEqStruct
import Derived.Test.YtifefhdinnechaaDoorWRepsOne
import Derived.Test.YtifefhdinnechaaDoorWInv
import Derived.Test.YtifefhdinnechaaDoorWInvWords
import Derived.Test.YtifefhdinnechaaDoorWGuard
import Derived.Test.YtifefhdinnechaaDoorWNEv
import Derived.Test.YtifefhdinnechaaDoorWMore
namespace Go.Proofs.YtifefhdinnechaaDoor.PA
open Go.RowKit Go.Proofs.YtifefhdinnechaaDoorW.PrintWords Go.Proofs.YtifefhdinnechaaDoorW.PrintLast Go.Proofs.YtifefhdinnechaaDoorW.PrintMore
attribute [local go_sem] max2_int min2_int max_two min_two max_three min_three max_four min_four   -- for this text's walks alone
set_option linter.unusedVariables false
set_option linter.unusedSimpArgs false



def errW : Option Int → Value
  | none => .nilIface
  | some c => .iface 0 (.int .i64 c)
theorem errW_none : errW none = .nilIface := rfl
theorem errW_some (c : Int) : errW (some c) = .iface 0 (.int .i64 c) := rfl

def gl0 : List Int := [0, 498536548, 997073096, 651767980, 1994146192, 1802195444, 1303535960, 1342533948, 3988292384, 4027552580, 3604390888, 3412177804, 2607071920, 2262029012, 2685067896, 3183342108]
theorem gl0_length : gl0.length = 16 := rfl
theorem glob_at {w : World} {k : IntKind} {g n : Nat} {l : List Int} (hl : l.length = n) (h : Kd.C (Kd.int k) w (some ⟨g, 0, none⟩) n l) (i : Int) (h0 : 0 ≤ i) (h1 : i < (n : Int)) : w.cell? ⟨g, i.toNat, none⟩ = some (.int k (rd l i)) := by
  obtain ⟨ad, e, hx⟩ := Kd.at_int h i h0 (by omega)
  cases e
  rwa [add_plain] at hx
abbrev T : Bool := true
abbrev F : Bool := false
abbrev kN := @blk_drewN
abbrev kD := @blk_drew
abbrev kA := @blk_alloc
abbrev kF := @blk_frozen
abbrev kC := @blk_cell
abbrev kR := @blk_far
abbrev kP := @blk_put
abbrev kS := @below_set
abbrev kM := @pw_below_drewN
abbrev kE := @below_drew1
abbrev kL := @below_alloc
theorem info3 : (Tryd.prog.info? 3).map (fun i => (i.zero, i.size, i.bytes)) = some (some (.int .i64 0), 1, 8) := by kernel_rfl
theorem info5 : (Tryd.prog.info? 5).map (fun i => (i.zero, i.size, i.bytes)) = some (some (.int .u8 0), 1, 1) := by kernel_rfl
theorem info24 : (Tryd.prog.info? 24).map (fun i => (i.zero, i.size, i.bytes)) = some (some (.int .u32 0), 1, 4) := by kernel_rfl
-- the values' own types
def rd_L1 (xs : List (List Int)) (i : Int) : (List Int) := xs.getD i.toNat ([] : List Int)
theorem at_L1 {w : World} {A : Option Addr} {n : Nat} {xs : List (List Int)} (h : Kd.C (Kd.slice 5 (Kd.int .u8)) w A n xs) (i : Int) (h0 : 0 ≤ i) (h1 : i < n) : ∃ ad A0 c0, A = some ad ∧ w.cell? (ad.add i.toNat) = some (.slice A0 (rd_L1 xs i).length c0) ∧ (rd_L1 xs i).length ≤ c0 ∧ (Kd.int .u8).C w A0 (rd_L1 xs i).length (rd_L1 xs i) := by
  obtain ⟨ad, c, e, _, hK, hc0⟩ := Kd.C_get h ([] : List Int) i h0 h1
  have hc : ∀ j u, c[j]? = some u → w.cell? (ad.add (i.toNat * 1 + j)) = some u := hc0
  obtain ⟨A0, c0, rfl, l0, g0⟩ := hK
  exact ⟨ad, A0, c0, e, by have hq := hc 0 _ rfl; rwa [Nat.mul_one, Nat.add_zero] at hq, l0, g0⟩

end Go.Proofs.YtifefhdinnechaaDoor.PA
