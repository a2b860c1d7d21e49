-- printed by this workplace: wip/patchprint.py over the kit's print
import Derived.Test.YtlihgjonmliodaaProg
import Derived.Lib.SlBytesConst
import Derived.Below
import Derived.Deep.Draws
import Derived.Deep.AppendLies
import Derived.Maps.AppendAt
import Derived.OwnWalk
import Derived.Laws.BytesArg
import Derived.Laws.MakeOwn
import Derived.Laws.OwnMore
import Derived.Deep.OwnRows
import Derived.Tactics
import Derived.Lib.ConvBytes
import Derived.Laws.Slices
import Derived.WalkKit
import Derived.KernelRfl
import Derived.RowKit3
import Derived.Deep.LoopGhost
import Derived.Deep.QuietTactic
import Derived.BigQuiet
import Derived.WideLaws
import Derived.Deep.DeepCutAuto
import Derived.Deep.CutBlock
import Derived.Deep.RegionHeld3
import Derived.Laws.Rows
import Derived.Lib.AppendStr
import Derived.ArgAppend
import Derived.Laws.IdiomCopy
import Derived.OrdersHeld
import Derived.Laws.BitsLemmas
import Derived.RowKit
import Derived.Test.YtlihgjonmliodaaWWords
import Derived.Test.YtlihgjonmliodaaWLast
import Derived.Test.YtlihgjonmliodaaWTab
import Derived.Test.YtlihgjonmliodaaWFour
import Derived.Test.YtlihgjonmliodaaWQPut
import Derived.Test.YtlihgjonmliodaaWApart
import Derived.Test.YtlihgjonmliodaaWArr
import Derived.Test.YtlihgjonmliodaaWZeros
import Derived.Test.YtlihgjonmliodaaWFoot
import Derived.Test.YtlihgjonmliodaaWKept
import Derived.Test.YtlihgjonmliodaaWShare
import Derived.Test.YtlihgjonmliodaaWN
import Derived.Test.YtlihgjonmliodaaWFootNe
import Derived.Test.YtlihgjonmliodaaWAt
import Derived.Test.YtlihgjonmliodaaWEqStruct
import Derived.Test.YtlihgjonmliodaaWRepsOne
import Derived.Test.YtlihgjonmliodaaWInv
import Derived.Test.YtlihgjonmliodaaWInvWords
import Derived.Test.YtlihgjonmliodaaWGuard
import Derived.Test.YtlihgjonmliodaaWNEv
import Derived.Test.YtlihgjonmliodaaWMore
namespace Go.Proofs.Ytlihgjonmliodaa.PA
open Go.RowKit Go.Proofs.YtlihgjonmliodaaW.PrintWords Go.Proofs.YtlihgjonmliodaaW.PrintLast Go.Proofs.YtlihgjonmliodaaW.PrintMore
attribute [local go_sem] max2_int min2_int max_two min_two max_three min_three max_four min_four   -- for this text's walks alone
set_option linter.unusedVariables false
set_option linter.unusedSimpArgs false



def errW : Option Int → Value
  | none => .nilIface
  | some c => .iface 0 (.int .i64 c)
theorem errW_none : errW none = .nilIface := rfl
theorem errW_some (c : Int) : errW (some c) = .iface 0 (.int .i64 c) := rfl

abbrev T : Bool := true
abbrev F : Bool := false
abbrev kN := @blk_drewN
abbrev kD := @blk_drew
abbrev kA := @blk_alloc
abbrev kF := @blk_frozen
abbrev kC := @blk_cell
abbrev kR := @blk_far
abbrev kP := @blk_put
abbrev kS := @below_set
abbrev kM := @pw_below_drewN
abbrev kE := @below_drew1
abbrev kL := @below_alloc
theorem bxc6 {W : World} {g : Nat} {t : TypeId} {c0 c1 c2 c3 c4 c5 : Value} (h : W.heap[g]? = some (.cells #[c0, c1, c2, c3, c4, c5] t (0, 0))) : W.cell? ⟨g, 0, none⟩ = some c0 ∧ W.cell? ⟨g, 1, none⟩ = some c1 ∧ W.cell? ⟨g, 2, none⟩ = some c2 ∧ W.cell? ⟨g, 3, none⟩ = some c3 ∧ W.cell? ⟨g, 4, none⟩ = some c4 ∧ W.cell? ⟨g, 5, none⟩ = some c5 ∧ W.frozen? ⟨g, 0, none⟩ = false ∧ W.frozen? ⟨g, 1, none⟩ = false ∧ W.frozen? ⟨g, 2, none⟩ = false ∧ W.frozen? ⟨g, 3, none⟩ = false ∧ W.frozen? ⟨g, 4, none⟩ = false ∧ W.frozen? ⟨g, 5, none⟩ = false := ⟨(blk_cell h 0).trans rfl, (blk_cell h 1).trans rfl, (blk_cell h 2).trans rfl, (blk_cell h 3).trans rfl, (blk_cell h 4).trans rfl, (blk_cell h 5).trans rfl, blk_frozen h 0, blk_frozen h 1, blk_frozen h 2, blk_frozen h 3, blk_frozen h 4, blk_frozen h 5⟩
theorem bxp6_0 {W : World} {g : Nat} {t : TypeId} {c1 c2 c3 c4 c5 o u : Value} (h : W.heap[g]? = some (.cells #[o, c1, c2, c3, c4, c5] t (0, 0))) : (W.setCell ⟨g, 0, none⟩ u).heap[g]? = some (.cells #[u, c1, c2, c3, c4, c5] t (0, 0)) := blk_put h 0 u rfl
theorem bxp6_1 {W : World} {g : Nat} {t : TypeId} {c0 c2 c3 c4 c5 o u : Value} (h : W.heap[g]? = some (.cells #[c0, o, c2, c3, c4, c5] t (0, 0))) : (W.setCell ⟨g, 1, none⟩ u).heap[g]? = some (.cells #[c0, u, c2, c3, c4, c5] t (0, 0)) := blk_put h 1 u rfl
theorem bxp6_2 {W : World} {g : Nat} {t : TypeId} {c0 c1 c3 c4 c5 o u : Value} (h : W.heap[g]? = some (.cells #[c0, c1, o, c3, c4, c5] t (0, 0))) : (W.setCell ⟨g, 2, none⟩ u).heap[g]? = some (.cells #[c0, c1, u, c3, c4, c5] t (0, 0)) := blk_put h 2 u rfl
theorem bxp6_3 {W : World} {g : Nat} {t : TypeId} {c0 c1 c2 c4 c5 o u : Value} (h : W.heap[g]? = some (.cells #[c0, c1, c2, o, c4, c5] t (0, 0))) : (W.setCell ⟨g, 3, none⟩ u).heap[g]? = some (.cells #[c0, c1, c2, u, c4, c5] t (0, 0)) := blk_put h 3 u rfl
theorem bxp6_4 {W : World} {g : Nat} {t : TypeId} {c0 c1 c2 c3 c5 o u : Value} (h : W.heap[g]? = some (.cells #[c0, c1, c2, c3, o, c5] t (0, 0))) : (W.setCell ⟨g, 4, none⟩ u).heap[g]? = some (.cells #[c0, c1, c2, c3, u, c5] t (0, 0)) := blk_put h 4 u rfl
theorem bxp6_5 {W : World} {g : Nat} {t : TypeId} {c0 c1 c2 c3 c4 o u : Value} (h : W.heap[g]? = some (.cells #[c0, c1, c2, c3, c4, o] t (0, 0))) : (W.setCell ⟨g, 5, none⟩ u).heap[g]? = some (.cells #[c0, c1, c2, c3, c4, u] t (0, 0)) := blk_put h 5 u rfl
theorem bxw6 {W : World} {g : Nat} {t : TypeId} (c0 c1 c2 c3 c4 c5 : Value) {v0 v1 v2 v3 v4 v5 : Value} (h : W.heap[g]? = some (.cells #[c0, c1, c2, c3, c4, c5] t (0, 0))) : ((((((W.setCell ⟨g, 0, none⟩ v0).setCell ⟨g, 1, none⟩ v1).setCell ⟨g, 2, none⟩ v2).setCell ⟨g, 3, none⟩ v3).setCell ⟨g, 4, none⟩ v4).setCell ⟨g, 5, none⟩ v5).heap[g]? = some (.cells #[v0, v1, v2, v3, v4, v5] t (0, 0)) := bxp6_5 (bxp6_4 (bxp6_3 (bxp6_2 (bxp6_1 (bxp6_0 (h))))))
theorem bxc16 {W : World} {g : Nat} {t : TypeId} {c0 c1 c2 c3 c4 c5 c6 c7 c8 c9 c10 c11 c12 c13 c14 c15 : Value} (h : W.heap[g]? = some (.cells #[c0, c1, c2, c3, c4, c5, c6, c7, c8, c9, c10, c11, c12, c13, c14, c15] t (0, 0))) : W.cell? ⟨g, 0, none⟩ = some c0 ∧ W.cell? ⟨g, 1, none⟩ = some c1 ∧ W.cell? ⟨g, 2, none⟩ = some c2 ∧ W.cell? ⟨g, 3, none⟩ = some c3 ∧ W.cell? ⟨g, 4, none⟩ = some c4 ∧ W.cell? ⟨g, 5, none⟩ = some c5 ∧ W.cell? ⟨g, 6, none⟩ = some c6 ∧ W.cell? ⟨g, 7, none⟩ = some c7 ∧ W.cell? ⟨g, 8, none⟩ = some c8 ∧ W.cell? ⟨g, 9, none⟩ = some c9 ∧ W.cell? ⟨g, 10, none⟩ = some c10 ∧ W.cell? ⟨g, 11, none⟩ = some c11 ∧ W.cell? ⟨g, 12, none⟩ = some c12 ∧ W.cell? ⟨g, 13, none⟩ = some c13 ∧ W.cell? ⟨g, 14, none⟩ = some c14 ∧ W.cell? ⟨g, 15, none⟩ = some c15 ∧ W.frozen? ⟨g, 0, none⟩ = false ∧ W.frozen? ⟨g, 1, none⟩ = false ∧ W.frozen? ⟨g, 2, none⟩ = false ∧ W.frozen? ⟨g, 3, none⟩ = false ∧ W.frozen? ⟨g, 4, none⟩ = false ∧ W.frozen? ⟨g, 5, none⟩ = false ∧ W.frozen? ⟨g, 6, none⟩ = false ∧ W.frozen? ⟨g, 7, none⟩ = false ∧ W.frozen? ⟨g, 8, none⟩ = false ∧ W.frozen? ⟨g, 9, none⟩ = false ∧ W.frozen? ⟨g, 10, none⟩ = false ∧ W.frozen? ⟨g, 11, none⟩ = false ∧ W.frozen? ⟨g, 12, none⟩ = false ∧ W.frozen? ⟨g, 13, none⟩ = false ∧ W.frozen? ⟨g, 14, none⟩ = false ∧ W.frozen? ⟨g, 15, none⟩ = false := ⟨(blk_cell h 0).trans rfl, (blk_cell h 1).trans rfl, (blk_cell h 2).trans rfl, (blk_cell h 3).trans rfl, (blk_cell h 4).trans rfl, (blk_cell h 5).trans rfl, (blk_cell h 6).trans rfl, (blk_cell h 7).trans rfl, (blk_cell h 8).trans rfl, (blk_cell h 9).trans rfl, (blk_cell h 10).trans rfl, (blk_cell h 11).trans rfl, (blk_cell h 12).trans rfl, (blk_cell h 13).trans rfl, (blk_cell h 14).trans rfl, (blk_cell h 15).trans rfl, blk_frozen h 0, blk_frozen h 1, blk_frozen h 2, blk_frozen h 3, blk_frozen h 4, blk_frozen h 5, blk_frozen h 6, blk_frozen h 7, blk_frozen h 8, blk_frozen h 9, blk_frozen h 10, blk_frozen h 11, blk_frozen h 12, blk_frozen h 13, blk_frozen h 14, blk_frozen h 15⟩
theorem bxp16_0 {W : World} {g : Nat} {t : TypeId} {c1 c2 c3 c4 c5 c6 c7 c8 c9 c10 c11 c12 c13 c14 c15 o u : Value} (h : W.heap[g]? = some (.cells #[o, c1, c2, c3, c4, c5, c6, c7, c8, c9, c10, c11, c12, c13, c14, c15] t (0, 0))) : (W.setCell ⟨g, 0, none⟩ u).heap[g]? = some (.cells #[u, c1, c2, c3, c4, c5, c6, c7, c8, c9, c10, c11, c12, c13, c14, c15] t (0, 0)) := blk_put h 0 u rfl
theorem bxp16_1 {W : World} {g : Nat} {t : TypeId} {c0 c2 c3 c4 c5 c6 c7 c8 c9 c10 c11 c12 c13 c14 c15 o u : Value} (h : W.heap[g]? = some (.cells #[c0, o, c2, c3, c4, c5, c6, c7, c8, c9, c10, c11, c12, c13, c14, c15] t (0, 0))) : (W.setCell ⟨g, 1, none⟩ u).heap[g]? = some (.cells #[c0, u, c2, c3, c4, c5, c6, c7, c8, c9, c10, c11, c12, c13, c14, c15] t (0, 0)) := blk_put h 1 u rfl
theorem bxp16_2 {W : World} {g : Nat} {t : TypeId} {c0 c1 c3 c4 c5 c6 c7 c8 c9 c10 c11 c12 c13 c14 c15 o u : Value} (h : W.heap[g]? = some (.cells #[c0, c1, o, c3, c4, c5, c6, c7, c8, c9, c10, c11, c12, c13, c14, c15] t (0, 0))) : (W.setCell ⟨g, 2, none⟩ u).heap[g]? = some (.cells #[c0, c1, u, c3, c4, c5, c6, c7, c8, c9, c10, c11, c12, c13, c14, c15] t (0, 0)) := blk_put h 2 u rfl
theorem bxp16_3 {W : World} {g : Nat} {t : TypeId} {c0 c1 c2 c4 c5 c6 c7 c8 c9 c10 c11 c12 c13 c14 c15 o u : Value} (h : W.heap[g]? = some (.cells #[c0, c1, c2, o, c4, c5, c6, c7, c8, c9, c10, c11, c12, c13, c14, c15] t (0, 0))) : (W.setCell ⟨g, 3, none⟩ u).heap[g]? = some (.cells #[c0, c1, c2, u, c4, c5, c6, c7, c8, c9, c10, c11, c12, c13, c14, c15] t (0, 0)) := blk_put h 3 u rfl
theorem bxp16_4 {W : World} {g : Nat} {t : TypeId} {c0 c1 c2 c3 c5 c6 c7 c8 c9 c10 c11 c12 c13 c14 c15 o u : Value} (h : W.heap[g]? = some (.cells #[c0, c1, c2, c3, o, c5, c6, c7, c8, c9, c10, c11, c12, c13, c14, c15] t (0, 0))) : (W.setCell ⟨g, 4, none⟩ u).heap[g]? = some (.cells #[c0, c1, c2, c3, u, c5, c6, c7, c8, c9, c10, c11, c12, c13, c14, c15] t (0, 0)) := blk_put h 4 u rfl
theorem bxp16_5 {W : World} {g : Nat} {t : TypeId} {c0 c1 c2 c3 c4 c6 c7 c8 c9 c10 c11 c12 c13 c14 c15 o u : Value} (h : W.heap[g]? = some (.cells #[c0, c1, c2, c3, c4, o, c6, c7, c8, c9, c10, c11, c12, c13, c14, c15] t (0, 0))) : (W.setCell ⟨g, 5, none⟩ u).heap[g]? = some (.cells #[c0, c1, c2, c3, c4, u, c6, c7, c8, c9, c10, c11, c12, c13, c14, c15] t (0, 0)) := blk_put h 5 u rfl
theorem bxp16_6 {W : World} {g : Nat} {t : TypeId} {c0 c1 c2 c3 c4 c5 c7 c8 c9 c10 c11 c12 c13 c14 c15 o u : Value} (h : W.heap[g]? = some (.cells #[c0, c1, c2, c3, c4, c5, o, c7, c8, c9, c10, c11, c12, c13, c14, c15] t (0, 0))) : (W.setCell ⟨g, 6, none⟩ u).heap[g]? = some (.cells #[c0, c1, c2, c3, c4, c5, u, c7, c8, c9, c10, c11, c12, c13, c14, c15] t (0, 0)) := blk_put h 6 u rfl
theorem bxp16_7 {W : World} {g : Nat} {t : TypeId} {c0 c1 c2 c3 c4 c5 c6 c8 c9 c10 c11 c12 c13 c14 c15 o u : Value} (h : W.heap[g]? = some (.cells #[c0, c1, c2, c3, c4, c5, c6, o, c8, c9, c10, c11, c12, c13, c14, c15] t (0, 0))) : (W.setCell ⟨g, 7, none⟩ u).heap[g]? = some (.cells #[c0, c1, c2, c3, c4, c5, c6, u, c8, c9, c10, c11, c12, c13, c14, c15] t (0, 0)) := blk_put h 7 u rfl
theorem bxp16_8 {W : World} {g : Nat} {t : TypeId} {c0 c1 c2 c3 c4 c5 c6 c7 c9 c10 c11 c12 c13 c14 c15 o u : Value} (h : W.heap[g]? = some (.cells #[c0, c1, c2, c3, c4, c5, c6, c7, o, c9, c10, c11, c12, c13, c14, c15] t (0, 0))) : (W.setCell ⟨g, 8, none⟩ u).heap[g]? = some (.cells #[c0, c1, c2, c3, c4, c5, c6, c7, u, c9, c10, c11, c12, c13, c14, c15] t (0, 0)) := blk_put h 8 u rfl
theorem bxp16_9 {W : World} {g : Nat} {t : TypeId} {c0 c1 c2 c3 c4 c5 c6 c7 c8 c10 c11 c12 c13 c14 c15 o u : Value} (h : W.heap[g]? = some (.cells #[c0, c1, c2, c3, c4, c5, c6, c7, c8, o, c10, c11, c12, c13, c14, c15] t (0, 0))) : (W.setCell ⟨g, 9, none⟩ u).heap[g]? = some (.cells #[c0, c1, c2, c3, c4, c5, c6, c7, c8, u, c10, c11, c12, c13, c14, c15] t (0, 0)) := blk_put h 9 u rfl
theorem bxp16_10 {W : World} {g : Nat} {t : TypeId} {c0 c1 c2 c3 c4 c5 c6 c7 c8 c9 c11 c12 c13 c14 c15 o u : Value} (h : W.heap[g]? = some (.cells #[c0, c1, c2, c3, c4, c5, c6, c7, c8, c9, o, c11, c12, c13, c14, c15] t (0, 0))) : (W.setCell ⟨g, 10, none⟩ u).heap[g]? = some (.cells #[c0, c1, c2, c3, c4, c5, c6, c7, c8, c9, u, c11, c12, c13, c14, c15] t (0, 0)) := blk_put h 10 u rfl
theorem bxp16_11 {W : World} {g : Nat} {t : TypeId} {c0 c1 c2 c3 c4 c5 c6 c7 c8 c9 c10 c12 c13 c14 c15 o u : Value} (h : W.heap[g]? = some (.cells #[c0, c1, c2, c3, c4, c5, c6, c7, c8, c9, c10, o, c12, c13, c14, c15] t (0, 0))) : (W.setCell ⟨g, 11, none⟩ u).heap[g]? = some (.cells #[c0, c1, c2, c3, c4, c5, c6, c7, c8, c9, c10, u, c12, c13, c14, c15] t (0, 0)) := blk_put h 11 u rfl
theorem bxp16_12 {W : World} {g : Nat} {t : TypeId} {c0 c1 c2 c3 c4 c5 c6 c7 c8 c9 c10 c11 c13 c14 c15 o u : Value} (h : W.heap[g]? = some (.cells #[c0, c1, c2, c3, c4, c5, c6, c7, c8, c9, c10, c11, o, c13, c14, c15] t (0, 0))) : (W.setCell ⟨g, 12, none⟩ u).heap[g]? = some (.cells #[c0, c1, c2, c3, c4, c5, c6, c7, c8, c9, c10, c11, u, c13, c14, c15] t (0, 0)) := blk_put h 12 u rfl
theorem bxp16_13 {W : World} {g : Nat} {t : TypeId} {c0 c1 c2 c3 c4 c5 c6 c7 c8 c9 c10 c11 c12 c14 c15 o u : Value} (h : W.heap[g]? = some (.cells #[c0, c1, c2, c3, c4, c5, c6, c7, c8, c9, c10, c11, c12, o, c14, c15] t (0, 0))) : (W.setCell ⟨g, 13, none⟩ u).heap[g]? = some (.cells #[c0, c1, c2, c3, c4, c5, c6, c7, c8, c9, c10, c11, c12, u, c14, c15] t (0, 0)) := blk_put h 13 u rfl
theorem bxp16_14 {W : World} {g : Nat} {t : TypeId} {c0 c1 c2 c3 c4 c5 c6 c7 c8 c9 c10 c11 c12 c13 c15 o u : Value} (h : W.heap[g]? = some (.cells #[c0, c1, c2, c3, c4, c5, c6, c7, c8, c9, c10, c11, c12, c13, o, c15] t (0, 0))) : (W.setCell ⟨g, 14, none⟩ u).heap[g]? = some (.cells #[c0, c1, c2, c3, c4, c5, c6, c7, c8, c9, c10, c11, c12, c13, u, c15] t (0, 0)) := blk_put h 14 u rfl
theorem bxp16_15 {W : World} {g : Nat} {t : TypeId} {c0 c1 c2 c3 c4 c5 c6 c7 c8 c9 c10 c11 c12 c13 c14 o u : Value} (h : W.heap[g]? = some (.cells #[c0, c1, c2, c3, c4, c5, c6, c7, c8, c9, c10, c11, c12, c13, c14, o] t (0, 0))) : (W.setCell ⟨g, 15, none⟩ u).heap[g]? = some (.cells #[c0, c1, c2, c3, c4, c5, c6, c7, c8, c9, c10, c11, c12, c13, c14, u] t (0, 0)) := blk_put h 15 u rfl
theorem bxw16 {W : World} {g : Nat} {t : TypeId} (c0 c1 c2 c3 c4 c5 c6 c7 c8 c9 c10 c11 c12 c13 c14 c15 : Value) {v0 v1 v2 v3 v4 v5 v6 v7 v8 v9 v10 v11 v12 v13 v14 v15 : Value} (h : W.heap[g]? = some (.cells #[c0, c1, c2, c3, c4, c5, c6, c7, c8, c9, c10, c11, c12, c13, c14, c15] t (0, 0))) : ((((((((((((((((W.setCell ⟨g, 0, none⟩ v0).setCell ⟨g, 1, none⟩ v1).setCell ⟨g, 2, none⟩ v2).setCell ⟨g, 3, none⟩ v3).setCell ⟨g, 4, none⟩ v4).setCell ⟨g, 5, none⟩ v5).setCell ⟨g, 6, none⟩ v6).setCell ⟨g, 7, none⟩ v7).setCell ⟨g, 8, none⟩ v8).setCell ⟨g, 9, none⟩ v9).setCell ⟨g, 10, none⟩ v10).setCell ⟨g, 11, none⟩ v11).setCell ⟨g, 12, none⟩ v12).setCell ⟨g, 13, none⟩ v13).setCell ⟨g, 14, none⟩ v14).setCell ⟨g, 15, none⟩ v15).heap[g]? = some (.cells #[v0, v1, v2, v3, v4, v5, v6, v7, v8, v9, v10, v11, v12, v13, v14, v15] t (0, 0)) := bxp16_15 (bxp16_14 (bxp16_13 (bxp16_12 (bxp16_11 (bxp16_10 (bxp16_9 (bxp16_8 (bxp16_7 (bxp16_6 (bxp16_5 (bxp16_4 (bxp16_3 (bxp16_2 (bxp16_1 (bxp16_0 (h))))))))))))))))
theorem store_run {P : Program} {a : Act} {o : Oper} {W : World} {ty t' : TypeId} {x y : Operand} {b : Nat} {cells : Array Value} (cs : Array Value) (ho : o.op = .store ty x y) (hx : a.eval x = .pointer (some ⟨b, 0, none⟩)) (hy : a.eval y = .agg cells) (hb : W.heap[b]? = some (.cells cs t' (0, 0))) (hs : cells.size ≤ cs.size) (hi : (P.info? ty).map (·.size) = some cells.size) (h1 : cells.all (·.oneCell') = true) : (execOp a.eval o).run P W = .ok .skip (W.setCells b 0 cells.toList) := by
  have hr := run_storeCells_cells (P := P) b 0 cells.toList 0 W (fun j hj => by simp only [Nat.zero_add]; rw [blk_cell hb j, Array.getElem?_eq_getElem (by simp at hj; omega)]; rfl) (fun j hj => by simp only [Nat.zero_add]; exact blk_frozen hb j)
    (fun v hv => (Array.all_eq_true_iff_forall_mem.1 h1) v (by simpa using hv))
  have hv : (storeVar ty ⟨b, 0, none⟩ (.agg cells)).run P W = .ok () (W.setCells b 0 cells.toList) := by
    cases hq : P.info? ty with
    | none => simp [hq] at hi
    | some i =>
      have hz : cells.size = i.size := by simp [hq] at hi; omega
      simp only [Nat.add_zero] at hr
      simp [storeVar, sizeOf, typeInfo, hq, Value.cells, hz, hr]
  unfold execOp
  simp only [ho, hx, hy, Instr.storeAt, Instr.sureAddr, Sem.run_bind, Sem.run_pure, Result.andThen_ok, hv]
theorem rec_event {P : Program} {ops : Array Oper} {o : Oper} {rest : List Oper} {a : Act} {Q : Exit → Act → World → Prop} {W : World} {t t' : TypeId} {p : Tmp} {v : Operand} {g : Nat} (cs cells : Array Value) (hgd : o.guard = none) (ho : o.op = .store t (.tmp p) v) (hN : o.dst = none)
    (hx : a.eval (.tmp p) = .pointer (some ⟨g, 0, none⟩)) (hy : a.eval v = .agg cells) (hb : W.heap[g]? = some (.cells cs t' (0, 0))) (hs : cells.size = cs.size) (hi : (P.info? t).map (·.size) = some cells.size) (h1 : cells.all (·.oneCell') = true)
    (h : ∀ w', w'.heap[g]? = some (.cells cells t' (0, 0)) → (∀ i, i ≠ g → w'.heap[i]? = W.heap[i]?) → (∀ B, B ≤ g → Below B W w') → wpList P ops Q rest a w') : wpList P ops Q (o :: rest) a W := by
  have hrun := store_run cs ho hx hy hb (Nat.le_of_eq hs) hi h1
  have far : ∀ (vs : List Value) (j : Nat) (W' : World), (∀ i, i ≠ g → (W'.setCells g j vs).heap[i]? = W'.heap[i]?) ∧ (∀ B, B ≤ g → Below B W' (W'.setCells g j vs)) := by
    intro vs
    induction vs with
    | nil => intro j W'; exact ⟨fun _ _ => rfl, fun B _ => Below.refl B W'⟩
    | cons u us ih =>
      intro j W'
      obtain ⟨h1, h2⟩ := ih (j + 1) (W'.setCell ⟨g, j, none⟩ u)
      exact ⟨fun i hi => (h1 i hi).trans (Below.heap_setCell W' ⟨g, j, none⟩ u i hi), fun B hB => ((Below.refl B W').setCell hB u).trans (h2 B hB)⟩
  have put : ∀ (us : List Value) (j : Nat) (W' : World) (ds : Array Value), W'.heap[g]? = some (.cells ds t' (0, 0)) → j + us.length = ds.size → ∃ es : Array Value, (W'.setCells g j us).heap[g]? = some (.cells es t' (0, 0)) ∧ es.toList = ds.toList.take j ++ us := by
    intro us
    induction us with
    | nil => intro j W' ds hW hl; exact ⟨ds, hW, by simp at hl ⊢; rw [List.take_of_length_le (by simp; omega)]⟩
    | cons u us ih =>
      intro j W' ds hW hl
      simp only [List.length_cons] at hl
      obtain ⟨es, h1, h2⟩ := ih (j + 1) (W'.setCell ⟨g, j, none⟩ u) (ds.setIfInBounds j u) (blk_put hW j u rfl) (by simp; omega)
      refine ⟨es, h1, ?_⟩
      rw [h2]
      have : (ds.setIfInBounds j u).toList.take (j + 1) = ds.toList.take j ++ [u] := by
        rw [Array.toList_setIfInBounds, List.take_add_one, List.take_set_of_le (Nat.le_refl j), List.getElem?_set_self (by simp; omega)]
        rfl
      rw [this]; simp
  obtain ⟨es, e1, e2⟩ := put cells.toList 0 W cs hb (by simp; omega)
  have e3 : es = cells := by apply Array.toList_inj.1; simpa using e2
  subst e3
  refine wpList_plain hgd fun K hK => ?_
  unfold Oper.wp
  rw [hrun]
  show K (a.put o.dst undef) _
  rw [hN]
  exact hK _ _ (h _ e1 (far _ _ _).1 (far _ _ _).2)
theorem info2 : (Try.prog.info? 2).map (fun i => (i.zero, i.size, i.bytes)) = some (some (.int .i64 0), 1, 8) := by kernel_rfl
theorem info5 : (Try.prog.info? 5).map (fun i => (i.zero, i.size, i.bytes)) = some (some (.int .u8 0), 1, 1) := by kernel_rfl
-- the values' own types

end Go.Proofs.Ytlihgjonmliodaa.PA
