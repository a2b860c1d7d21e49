/-
  No cell of these rows narrows 'for every input' (looked for: loops, veiled, ifaces, maps, wideKeys, modest, calm, conditions, laid).
  DERIVED. THE GIVEN ROWS OF THIS SEAT. 5 by the template 'for every input the law returns true; each argument reads behind the call as it read before'; 0 by the template 'total and deterministic' (their statements: YtbjelaocihjhgaaTotals.lean).
  GIVEN WITH THE SEED: the statements are not yours to turn. If you find one false, say at which input.
  Laid BY PROGRAM, IN A SANDBOX (cutbox-rows.mjs): the forced cells as the released guide's own fill.sh prints them over the translation 073d71200626364d… (all of the seat's roots in one cut). By AI agents, Wed Nov 11 2026. No macro, syntax, notation, axiom, sorry.
-/
import Derived.Test.YtbjelaocihjhgaaChecked
import GoSem.Claim
import GoSem.ClaimJoined
import GoSem.ClaimMapViews
import Derived.JoinedTies
import Derived.KernelRfl
namespace Go.Proofs.Ytbjelaocihjhgaa
/- THE CELL 'sum', in the pinned program and in every row, IS THE sha256 OF THE DUMP (.gsa) THAT YtbjelaocihjhgaaProg.lean LOADS. Nothing in Lean hashes anything: it is a label: what it is worth is what the hold of that sum in a sandbox is worth. -/
noncomputable def Try.pinned : Pinned := { name := "ytbjelaocihjhgaa", sum := "073d71200626364d1b9c7ca5ead09064fd0535fcdd257e61fb20124a64778c23", checked := Try.checked }
namespace Rows
def none {H : Type} : Left H := { results := [], args := [] }

/-- 'paybooklaw09.PlanChanges': WHATEVER THE INPUT: true; the input reads as it did. -/
def planChangesSpec : ChangeSpec := { name := "planChanges", fn := fun _ => fun
  | [d1, d2, d3, d4] => { results := [.lit (.bool true)], args := [d1, d2, d3, d4] }
  | _ => none }
def planChangesRow : OpenClaim := { program := "ytbjelaocihjhgaa", sum := "073d71200626364d1b9c7ca5ead09064fd0535fcdd257e61fb20124a64778c23", func := "paybook/paybooklaw09.PlanChanges", spec := "planChanges", named := ["math/bits.divideError", "math/bits.overflowError"], apart := false }
def PlanChangesSaid : Prop := planChangesRow.holds Try.pinned (OpenSpec.ofChange planChangesSpec)

/-- ITS FALSE NEIGHBOUR: 'it returns false'. Refute it at one input. -/
def planChangesWrong : ChangeSpec := { name := "planChanges", fn := fun _ => fun
  | [d1, d2, d3, d4] => { results := [.lit (.bool false)], args := [d1, d2, d3, d4] }
  | _ => none }
def PlanChangesWrongFalsely : Prop := planChangesRow.holds Try.pinned (OpenSpec.ofChange planChangesWrong)

/-- 'paybooklaw09.PlanEqual': WHATEVER THE INPUT: true; the input reads as it did. -/
def planEqualSpec : ChangeSpec := { name := "planEqual", fn := fun _ => fun
  | [d1, d2, d3, d4, d5] => { results := [.lit (.bool true)], args := [d1, d2, d3, d4, d5] }
  | _ => none }
def planEqualRow : OpenClaim := { program := "ytbjelaocihjhgaa", sum := "073d71200626364d1b9c7ca5ead09064fd0535fcdd257e61fb20124a64778c23", func := "paybook/paybooklaw09.PlanEqual", spec := "planEqual", named := ["math/bits.divideError", "math/bits.overflowError"], apart := false }
def PlanEqualSaid : Prop := planEqualRow.holds Try.pinned (OpenSpec.ofChange planEqualSpec)

/-- ITS FALSE NEIGHBOUR: 'it returns false'. Refute it at one input. -/
def planEqualWrong : ChangeSpec := { name := "planEqual", fn := fun _ => fun
  | [d1, d2, d3, d4, d5] => { results := [.lit (.bool false)], args := [d1, d2, d3, d4, d5] }
  | _ => none }
def PlanEqualWrongFalsely : Prop := planEqualRow.holds Try.pinned (OpenSpec.ofChange planEqualWrong)

/-- 'paybooklaw09.PlanRights': WHATEVER THE INPUT: true; the input reads as it did. -/
def planRightsSpec : ChangeSpec := { name := "planRights", fn := fun _ => fun
  | [d] => { results := [.lit (.bool true)], args := [d] }
  | _ => none }
def planRightsRow : OpenClaim := { program := "ytbjelaocihjhgaa", sum := "073d71200626364d1b9c7ca5ead09064fd0535fcdd257e61fb20124a64778c23", func := "paybook/paybooklaw09.PlanRights", spec := "planRights", named := ["math/bits.divideError", "math/bits.overflowError"], apart := false }
def PlanRightsSaid : Prop := planRightsRow.holds Try.pinned (OpenSpec.ofChange planRightsSpec)

/-- ITS FALSE NEIGHBOUR: 'it returns false'. Refute it at one input. -/
def planRightsWrong : ChangeSpec := { name := "planRights", fn := fun _ => fun
  | [d] => { results := [.lit (.bool false)], args := [d] }
  | _ => none }
def PlanRightsWrongFalsely : Prop := planRightsRow.holds Try.pinned (OpenSpec.ofChange planRightsWrong)

/-- 'paybooklaw09.PlanLists': WHATEVER THE INPUT: true; the input reads as it did. -/
def planListsSpec : ChangeSpec := { name := "planLists", fn := fun _ => fun
  | [d1, d2] => { results := [.lit (.bool true)], args := [d1, d2] }
  | _ => none }
def planListsRow : OpenClaim := { program := "ytbjelaocihjhgaa", sum := "073d71200626364d1b9c7ca5ead09064fd0535fcdd257e61fb20124a64778c23", func := "paybook/paybooklaw09.PlanLists", spec := "planLists", named := ["math/bits.divideError", "math/bits.overflowError"], apart := false }
def PlanListsSaid : Prop := planListsRow.holds Try.pinned (OpenSpec.ofChange planListsSpec)

/-- ITS FALSE NEIGHBOUR: 'it returns false'. Refute it at one input. -/
def planListsWrong : ChangeSpec := { name := "planLists", fn := fun _ => fun
  | [d1, d2] => { results := [.lit (.bool false)], args := [d1, d2] }
  | _ => none }
def PlanListsWrongFalsely : Prop := planListsRow.holds Try.pinned (OpenSpec.ofChange planListsWrong)

/-- 'paybooklaw09.PlanBytes': WHATEVER THE INPUT: true; the input reads as it did. -/
def planBytesSpec : ChangeSpec := { name := "planBytes", fn := fun _ => fun
  | [d1, d2] => { results := [.lit (.bool true)], args := [d1, d2] }
  | _ => none }
def planBytesRow : OpenClaim := { program := "ytbjelaocihjhgaa", sum := "073d71200626364d1b9c7ca5ead09064fd0535fcdd257e61fb20124a64778c23", func := "paybook/paybooklaw09.PlanBytes", spec := "planBytes", named := ["math/bits.divideError", "math/bits.overflowError"], apart := false }
def PlanBytesSaid : Prop := planBytesRow.holds Try.pinned (OpenSpec.ofChange planBytesSpec)

/-- ITS FALSE NEIGHBOUR: 'it returns false'. Refute it at one input. -/
def planBytesWrong : ChangeSpec := { name := "planBytes", fn := fun _ => fun
  | [d1, d2] => { results := [.lit (.bool false)], args := [d1, d2] }
  | _ => none }
def PlanBytesWrongFalsely : Prop := planBytesRow.holds Try.pinned (OpenSpec.ofChange planBytesWrong)

/- THE SECOND FORM. 'bulk': how many values and letters a reading holds, each counted each time it is reached (what is shared counts as often as it is met; a slice's spare places count too). A statement '..UptoSaid' is the law's where the arguments, and the package variables that the reading takes, are together of bulk at most 1048576: NARROWER than '..Said'. Prove '..Said' where nothing that the law and all that it calls make is longer than what came in: it says more and counts as full. Else prove '..UptoSaid'. A law counts once. -/
mutual
def uptoBulk {H : Type} : DataW H → Nat
  | .lit (.string bytes) => bytes.length + 1
  | .lit _ => 1
  | .nil => 1
  | .ptr d => uptoBulk d + 1
  | .slice elems spare => uptoBulkAll elems + uptoBulkAll spare + 1
  | .agg parts => uptoBulkAll parts + 1
  | .iface _ d => uptoBulk d + 1
  | .map entries => uptoBulkEntries entries + 1
  | .held _ => 1
def uptoBulkAll {H : Type} : List (DataW H) → Nat
  | [] => 0
  | d :: r => uptoBulk d + uptoBulkAll r
def uptoBulkEntries {H : Type} : List (Lit × DataW H) → Nat
  | [] => 0
  | x :: r => uptoBulkEntry x + uptoBulkEntries r
def uptoBulkEntry {H : Type} : Lit × DataW H → Nat
  | (.string bytes, d) => bytes.length + uptoBulk d + 1
  | (_, d) => uptoBulk d + 1
 end
def uptoSmall : (H : Type) → List (DataW H) → Bool := fun _ ds => decide (uptoBulkAll ds ≤ 1048576)
def OpenSpec.upto (s : _root_.Go.ChangeSpec) : _root_.Go.OpenSpec := { _root_.Go.OpenSpec.ofChange s with cond := some uptoSmall }

/-- 'paybooklaw09.PlanChanges', WHERE WHAT IT READS IS OF BULK AT MOST 1048576: true; the input reads as it did. -/
def planChangesUptoRow : OpenClaim := { program := "ytbjelaocihjhgaa", sum := "073d71200626364d1b9c7ca5ead09064fd0535fcdd257e61fb20124a64778c23", func := "paybook/paybooklaw09.PlanChanges", spec := "planChanges", named := ["math/bits.divideError", "math/bits.overflowError"], apart := false, narrowed := true }
def PlanChangesUptoSaid : Prop := planChangesUptoRow.holds Try.pinned (OpenSpec.upto planChangesSpec)

/-- 'paybooklaw09.PlanEqual', WHERE WHAT IT READS IS OF BULK AT MOST 1048576: true; the input reads as it did. -/
def planEqualUptoRow : OpenClaim := { program := "ytbjelaocihjhgaa", sum := "073d71200626364d1b9c7ca5ead09064fd0535fcdd257e61fb20124a64778c23", func := "paybook/paybooklaw09.PlanEqual", spec := "planEqual", named := ["math/bits.divideError", "math/bits.overflowError"], apart := false, narrowed := true }
def PlanEqualUptoSaid : Prop := planEqualUptoRow.holds Try.pinned (OpenSpec.upto planEqualSpec)

/-- 'paybooklaw09.PlanRights', WHERE WHAT IT READS IS OF BULK AT MOST 1048576: true; the input reads as it did. -/
def planRightsUptoRow : OpenClaim := { program := "ytbjelaocihjhgaa", sum := "073d71200626364d1b9c7ca5ead09064fd0535fcdd257e61fb20124a64778c23", func := "paybook/paybooklaw09.PlanRights", spec := "planRights", named := ["math/bits.divideError", "math/bits.overflowError"], apart := false, narrowed := true }
def PlanRightsUptoSaid : Prop := planRightsUptoRow.holds Try.pinned (OpenSpec.upto planRightsSpec)

/-- 'paybooklaw09.PlanLists', WHERE WHAT IT READS IS OF BULK AT MOST 1048576: true; the input reads as it did. -/
def planListsUptoRow : OpenClaim := { program := "ytbjelaocihjhgaa", sum := "073d71200626364d1b9c7ca5ead09064fd0535fcdd257e61fb20124a64778c23", func := "paybook/paybooklaw09.PlanLists", spec := "planLists", named := ["math/bits.divideError", "math/bits.overflowError"], apart := false, narrowed := true }
def PlanListsUptoSaid : Prop := planListsUptoRow.holds Try.pinned (OpenSpec.upto planListsSpec)

/-- 'paybooklaw09.PlanBytes', WHERE WHAT IT READS IS OF BULK AT MOST 1048576: true; the input reads as it did. -/
def planBytesUptoRow : OpenClaim := { program := "ytbjelaocihjhgaa", sum := "073d71200626364d1b9c7ca5ead09064fd0535fcdd257e61fb20124a64778c23", func := "paybook/paybooklaw09.PlanBytes", spec := "planBytes", named := ["math/bits.divideError", "math/bits.overflowError"], apart := false, narrowed := true }
def PlanBytesUptoSaid : Prop := planBytesUptoRow.holds Try.pinned (OpenSpec.upto planBytesSpec)

end Rows
end Go.Proofs.Ytbjelaocihjhgaa
