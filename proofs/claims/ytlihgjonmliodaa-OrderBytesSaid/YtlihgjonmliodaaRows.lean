/-
  No cell of these rows narrows 'for every input' (looked for: loops, veiled, ifaces, maps, wideKeys, modest, calm, conditions, laid).
  DERIVED. THE GIVEN ROWS OF THIS SEAT. 6 by the template 'for every input the law returns true; each argument reads behind the call as it read before'; 0 by the template 'total and deterministic' (their statements: YtlihgjonmliodaaTotals.lean).
  GIVEN WITH THE SEED: the statements are not yours to turn. If you find one false, say at which input.
  Laid BY PROGRAM, IN A SANDBOX (cutbox-rows.mjs): the forced cells as the released guide's own fill.sh prints them over the translation 550f455ca20d57bd… (all of the seat's roots in one cut). By AI agents, Wed Nov 11 2026. No macro, syntax, notation, axiom, sorry.
-/
import Derived.Test.YtlihgjonmliodaaChecked
import GoSem.Claim
import GoSem.ClaimJoined
import GoSem.ClaimMapViews
import Derived.JoinedTies
import Derived.KernelRfl
namespace Go.Proofs.Ytlihgjonmliodaa
/- THE CELL 'sum', in the pinned program and in every row, IS THE sha256 OF THE DUMP (.gsa) THAT YtlihgjonmliodaaProg.lean LOADS. Nothing in Lean hashes anything: it is a label: what it is worth is what the hold of that sum in a sandbox is worth. -/
noncomputable def Try.pinned : Pinned := { name := "ytlihgjonmliodaa", sum := "550f455ca20d57bdc1146ae9324bc3760e6559e8e15f6ed3589e0195bb5991c2", checked := Try.checked }
namespace Rows
def none {H : Type} : Left H := { results := [], args := [] }

/-- 'paybooklaw10.OrderRights': WHATEVER THE INPUT: true; the input reads as it did. -/
def orderRightsSpec : ChangeSpec := { name := "orderRights", fn := fun _ => fun
  | [d1, d2] => { results := [.lit (.bool true)], args := [d1, d2] }
  | _ => none }
def orderRightsRow : OpenClaim := { program := "ytlihgjonmliodaa", sum := "550f455ca20d57bdc1146ae9324bc3760e6559e8e15f6ed3589e0195bb5991c2", func := "paybook/paybooklaw10.OrderRights", spec := "orderRights", apart := false }
def OrderRightsSaid : Prop := orderRightsRow.holds Try.pinned (OpenSpec.ofChange orderRightsSpec)

/-- ITS FALSE NEIGHBOUR: 'it returns false'. Refute it at one input. -/
def orderRightsWrong : ChangeSpec := { name := "orderRights", fn := fun _ => fun
  | [d1, d2] => { results := [.lit (.bool false)], args := [d1, d2] }
  | _ => none }
def OrderRightsWrongFalsely : Prop := orderRightsRow.holds Try.pinned (OpenSpec.ofChange orderRightsWrong)

/-- 'paybooklaw10.OrderApart': WHATEVER THE INPUT: true; the input reads as it did. -/
def orderApartSpec : ChangeSpec := { name := "orderApart", fn := fun _ => fun
  | [d1, d2, d3] => { results := [.lit (.bool true)], args := [d1, d2, d3] }
  | _ => none }
def orderApartRow : OpenClaim := { program := "ytlihgjonmliodaa", sum := "550f455ca20d57bdc1146ae9324bc3760e6559e8e15f6ed3589e0195bb5991c2", func := "paybook/paybooklaw10.OrderApart", spec := "orderApart", apart := false }
def OrderApartSaid : Prop := orderApartRow.holds Try.pinned (OpenSpec.ofChange orderApartSpec)

/-- ITS FALSE NEIGHBOUR: 'it returns false'. Refute it at one input. -/
def orderApartWrong : ChangeSpec := { name := "orderApart", fn := fun _ => fun
  | [d1, d2, d3] => { results := [.lit (.bool false)], args := [d1, d2, d3] }
  | _ => none }
def OrderApartWrongFalsely : Prop := orderApartRow.holds Try.pinned (OpenSpec.ofChange orderApartWrong)

/-- 'paybooklaw10.OrderShort': WHATEVER THE INPUT: true; the input reads as it did. -/
def orderShortSpec : ChangeSpec := { name := "orderShort", fn := fun _ => fun
  | [d] => { results := [.lit (.bool true)], args := [d] }
  | _ => none }
def orderShortRow : OpenClaim := { program := "ytlihgjonmliodaa", sum := "550f455ca20d57bdc1146ae9324bc3760e6559e8e15f6ed3589e0195bb5991c2", func := "paybook/paybooklaw10.OrderShort", spec := "orderShort", apart := false }
def OrderShortSaid : Prop := orderShortRow.holds Try.pinned (OpenSpec.ofChange orderShortSpec)

/-- ITS FALSE NEIGHBOUR: 'it returns false'. Refute it at one input. -/
def orderShortWrong : ChangeSpec := { name := "orderShort", fn := fun _ => fun
  | [d] => { results := [.lit (.bool false)], args := [d] }
  | _ => none }
def OrderShortWrongFalsely : Prop := orderShortRow.holds Try.pinned (OpenSpec.ofChange orderShortWrong)

/-- 'paybooklaw10.OrderNotices': WHATEVER THE INPUT: true; the input reads as it did. -/
def orderNoticesSpec : ChangeSpec := { name := "orderNotices", fn := fun _ => fun
  | [d1, d2, d3] => { results := [.lit (.bool true)], args := [d1, d2, d3] }
  | _ => none }
def orderNoticesRow : OpenClaim := { program := "ytlihgjonmliodaa", sum := "550f455ca20d57bdc1146ae9324bc3760e6559e8e15f6ed3589e0195bb5991c2", func := "paybook/paybooklaw10.OrderNotices", spec := "orderNotices", apart := false }
def OrderNoticesSaid : Prop := orderNoticesRow.holds Try.pinned (OpenSpec.ofChange orderNoticesSpec)

/-- ITS FALSE NEIGHBOUR: 'it returns false'. Refute it at one input. -/
def orderNoticesWrong : ChangeSpec := { name := "orderNotices", fn := fun _ => fun
  | [d1, d2, d3] => { results := [.lit (.bool false)], args := [d1, d2, d3] }
  | _ => none }
def OrderNoticesWrongFalsely : Prop := orderNoticesRow.holds Try.pinned (OpenSpec.ofChange orderNoticesWrong)

/-- 'paybooklaw10.OrderBytes': WHATEVER THE INPUT: true; the input reads as it did. -/
def orderBytesSpec : ChangeSpec := { name := "orderBytes", fn := fun _ => fun
  | [d] => { results := [.lit (.bool true)], args := [d] }
  | _ => none }
def orderBytesRow : OpenClaim := { program := "ytlihgjonmliodaa", sum := "550f455ca20d57bdc1146ae9324bc3760e6559e8e15f6ed3589e0195bb5991c2", func := "paybook/paybooklaw10.OrderBytes", spec := "orderBytes", apart := false }
def OrderBytesSaid : Prop := orderBytesRow.holds Try.pinned (OpenSpec.ofChange orderBytesSpec)

/-- ITS FALSE NEIGHBOUR: 'it returns false'. Refute it at one input. -/
def orderBytesWrong : ChangeSpec := { name := "orderBytes", fn := fun _ => fun
  | [d] => { results := [.lit (.bool false)], args := [d] }
  | _ => none }
def OrderBytesWrongFalsely : Prop := orderBytesRow.holds Try.pinned (OpenSpec.ofChange orderBytesWrong)

/-- 'paybooklaw10.OrderReads': WHATEVER THE INPUT: true; the input reads as it did. -/
def orderReadsSpec : ChangeSpec := { name := "orderReads", fn := fun _ => fun
  | [d1, d2, d3, d4, d5] => { results := [.lit (.bool true)], args := [d1, d2, d3, d4, d5] }
  | _ => none }
def orderReadsRow : OpenClaim := { program := "ytlihgjonmliodaa", sum := "550f455ca20d57bdc1146ae9324bc3760e6559e8e15f6ed3589e0195bb5991c2", func := "paybook/paybooklaw10.OrderReads", spec := "orderReads", apart := false }
def OrderReadsSaid : Prop := orderReadsRow.holds Try.pinned (OpenSpec.ofChange orderReadsSpec)

/-- ITS FALSE NEIGHBOUR: 'it returns false'. Refute it at one input. -/
def orderReadsWrong : ChangeSpec := { name := "orderReads", fn := fun _ => fun
  | [d1, d2, d3, d4, d5] => { results := [.lit (.bool false)], args := [d1, d2, d3, d4, d5] }
  | _ => none }
def OrderReadsWrongFalsely : Prop := orderReadsRow.holds Try.pinned (OpenSpec.ofChange orderReadsWrong)

/- THE SECOND FORM. 'bulk': how many values and letters a reading holds, each counted each time it is reached (what is shared counts as often as it is met; a slice's spare places count too). A statement '..UptoSaid' is the law's where the arguments, and the package variables that the reading takes, are together of bulk at most 1048576: NARROWER than '..Said'. Prove '..Said' where nothing that the law and all that it calls make is longer than what came in: it says more and counts as full. Else prove '..UptoSaid'. A law counts once. -/
mutual
def uptoBulk {H : Type} : DataW H → Nat
  | .lit (.string bytes) => bytes.length + 1
  | .lit _ => 1
  | .nil => 1
  | .ptr d => uptoBulk d + 1
  | .slice elems spare => uptoBulkAll elems + uptoBulkAll spare + 1
  | .agg parts => uptoBulkAll parts + 1
  | .iface _ d => uptoBulk d + 1
  | .map entries => uptoBulkEntries entries + 1
  | .held _ => 1
def uptoBulkAll {H : Type} : List (DataW H) → Nat
  | [] => 0
  | d :: r => uptoBulk d + uptoBulkAll r
def uptoBulkEntries {H : Type} : List (Lit × DataW H) → Nat
  | [] => 0
  | x :: r => uptoBulkEntry x + uptoBulkEntries r
def uptoBulkEntry {H : Type} : Lit × DataW H → Nat
  | (.string bytes, d) => bytes.length + uptoBulk d + 1
  | (_, d) => uptoBulk d + 1
 end
def uptoSmall : (H : Type) → List (DataW H) → Bool := fun _ ds => decide (uptoBulkAll ds ≤ 1048576)
def OpenSpec.upto (s : _root_.Go.ChangeSpec) : _root_.Go.OpenSpec := { _root_.Go.OpenSpec.ofChange s with cond := some uptoSmall }

/-- 'paybooklaw10.OrderRights', WHERE WHAT IT READS IS OF BULK AT MOST 1048576: true; the input reads as it did. -/
def orderRightsUptoRow : OpenClaim := { program := "ytlihgjonmliodaa", sum := "550f455ca20d57bdc1146ae9324bc3760e6559e8e15f6ed3589e0195bb5991c2", func := "paybook/paybooklaw10.OrderRights", spec := "orderRights", apart := false, narrowed := true }
def OrderRightsUptoSaid : Prop := orderRightsUptoRow.holds Try.pinned (OpenSpec.upto orderRightsSpec)

/-- 'paybooklaw10.OrderApart', WHERE WHAT IT READS IS OF BULK AT MOST 1048576: true; the input reads as it did. -/
def orderApartUptoRow : OpenClaim := { program := "ytlihgjonmliodaa", sum := "550f455ca20d57bdc1146ae9324bc3760e6559e8e15f6ed3589e0195bb5991c2", func := "paybook/paybooklaw10.OrderApart", spec := "orderApart", apart := false, narrowed := true }
def OrderApartUptoSaid : Prop := orderApartUptoRow.holds Try.pinned (OpenSpec.upto orderApartSpec)

/-- 'paybooklaw10.OrderShort', WHERE WHAT IT READS IS OF BULK AT MOST 1048576: true; the input reads as it did. -/
def orderShortUptoRow : OpenClaim := { program := "ytlihgjonmliodaa", sum := "550f455ca20d57bdc1146ae9324bc3760e6559e8e15f6ed3589e0195bb5991c2", func := "paybook/paybooklaw10.OrderShort", spec := "orderShort", apart := false, narrowed := true }
def OrderShortUptoSaid : Prop := orderShortUptoRow.holds Try.pinned (OpenSpec.upto orderShortSpec)

/-- 'paybooklaw10.OrderNotices', WHERE WHAT IT READS IS OF BULK AT MOST 1048576: true; the input reads as it did. -/
def orderNoticesUptoRow : OpenClaim := { program := "ytlihgjonmliodaa", sum := "550f455ca20d57bdc1146ae9324bc3760e6559e8e15f6ed3589e0195bb5991c2", func := "paybook/paybooklaw10.OrderNotices", spec := "orderNotices", apart := false, narrowed := true }
def OrderNoticesUptoSaid : Prop := orderNoticesUptoRow.holds Try.pinned (OpenSpec.upto orderNoticesSpec)

/-- 'paybooklaw10.OrderBytes', WHERE WHAT IT READS IS OF BULK AT MOST 1048576: true; the input reads as it did. -/
def orderBytesUptoRow : OpenClaim := { program := "ytlihgjonmliodaa", sum := "550f455ca20d57bdc1146ae9324bc3760e6559e8e15f6ed3589e0195bb5991c2", func := "paybook/paybooklaw10.OrderBytes", spec := "orderBytes", apart := false, narrowed := true }
def OrderBytesUptoSaid : Prop := orderBytesUptoRow.holds Try.pinned (OpenSpec.upto orderBytesSpec)

/-- 'paybooklaw10.OrderReads', WHERE WHAT IT READS IS OF BULK AT MOST 1048576: true; the input reads as it did. -/
def orderReadsUptoRow : OpenClaim := { program := "ytlihgjonmliodaa", sum := "550f455ca20d57bdc1146ae9324bc3760e6559e8e15f6ed3589e0195bb5991c2", func := "paybook/paybooklaw10.OrderReads", spec := "orderReads", apart := false, narrowed := true }
def OrderReadsUptoSaid : Prop := orderReadsUptoRow.holds Try.pinned (OpenSpec.upto orderReadsSpec)

end Rows
end Go.Proofs.Ytlihgjonmliodaa
