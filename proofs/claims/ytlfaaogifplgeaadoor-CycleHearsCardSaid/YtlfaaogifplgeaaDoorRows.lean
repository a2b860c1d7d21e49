/-
  NARROWER THAN 'FOR EVERY INPUT', by the rows' own cells (each row's printed sentence says how): CycleAsks: laid · CycleHears: laid · CycleOld: laid · CycleBegins: laid · CycleEnds: laid · CycleNames: laid · CycleLadder: laid · CycleWakes: laid · CycleKeeps: laid.
  DERIVED. THE GIVEN ROWS OF THIS SEAT. 9 by the template 'for every input the law returns true; each argument reads behind the call as it read before'; 0 by the template 'total and deterministic' (their statements: YtlfaaogifplgeaaDoorTotals.lean).
  GIVEN WITH THE SEED: the statements are not yours to turn. If you find one false, say at which input.
  Laid BY PROGRAM, IN A SANDBOX (cutbox-rows.mjs): the forced cells as the released guide's own fill.sh prints them over the translation 0029d5a61cbd17c8… (all of the seat's roots in one cut). By AI agents, Wed Nov 11 2026. No macro, syntax, notation, axiom, sorry.
-/
import Derived.Test.YtlfaaogifplgeaaDoorChecked
import GoSem.Claim
import GoSem.ClaimJoined
import GoSem.ClaimMapViews
import Derived.JoinedTies
import Derived.KernelRfl
namespace Go.Proofs.YtlfaaogifplgeaaDoor
/- THE CELL 'sum', in the pinned program and in every row, IS THE sha256 OF THE DUMP (.gsa) THAT YtlfaaogifplgeaaDoorProg.lean LOADS. Nothing in Lean hashes anything: it is a label: what it is worth is what the hold of that sum in a sandbox is worth. -/
noncomputable def Tryd.pinned : Pinned := { name := "ytlfaaogifplgeaadoor", sum := "0029d5a61cbd17c86607c94ff17095615e712541ab0df5fbc9c342b87709f561", checked := Tryd.checked }
namespace Rows
def none {H : Type} : Left H := { results := [], args := [] }

/- WHAT THE LISTED PACKAGE-LEVEL VARIABLES READ AS WHEN THE CALL BEGINS. Each datum BY PROGRAM (the guide's laid-datum.mjs) off the statement by which the dump's own 'gosem.cut.vars' lays the variable. In a bare row this is a premise. The card (YtlfaaogifplgeaaDoorCards.lean) ties it to the program's text. -/
def laid_paybook_cycle_ladder {H : Type} : DataW H := .agg [.lit (.int .i64 1), .lit (.int .i64 3), .lit (.int .i64 7)]

/-- 'paybooklaw12.CycleAsks': WHATEVER THE INPUT: true; the input reads as it did. -/
def cycleAsksSpec : ChangeSpec := { name := "cycleAsks", fn := fun _ => fun
  | [d1, d2, d3, d4, d5, d6] => { results := [.lit (.bool true)], args := [d1, d2, d3, d4, d5, d6] }
  | _ => none }
def cycleAsksRow : OpenClaim := { program := "ytlfaaogifplgeaadoor", sum := "0029d5a61cbd17c86607c94ff17095615e712541ab0df5fbc9c342b87709f561", func := "paybook/paybooklaw12.CycleAsks", spec := "cycleAsks", named := ["paybook/cycle.ladder"], apart := false, laid := [("paybook/cycle.ladder", laid_paybook_cycle_ladder)] }
def CycleAsksSaid : Prop := cycleAsksRow.holds Tryd.pinned (OpenSpec.ofChange cycleAsksSpec)

/-- ITS FALSE NEIGHBOUR: 'it returns false'. Refute it at one input. -/
def cycleAsksWrong : ChangeSpec := { name := "cycleAsks", fn := fun _ => fun
  | [d1, d2, d3, d4, d5, d6] => { results := [.lit (.bool false)], args := [d1, d2, d3, d4, d5, d6] }
  | _ => none }
def CycleAsksWrongFalsely : Prop := cycleAsksRow.holds Tryd.pinned (OpenSpec.ofChange cycleAsksWrong)

/-- 'paybooklaw12.CycleHears': WHATEVER THE INPUT: true; the input reads as it did. -/
def cycleHearsSpec : ChangeSpec := { name := "cycleHears", fn := fun _ => fun
  | [d1, d2, d3, d4, d5, d6, d7] => { results := [.lit (.bool true)], args := [d1, d2, d3, d4, d5, d6, d7] }
  | _ => none }
def cycleHearsRow : OpenClaim := { program := "ytlfaaogifplgeaadoor", sum := "0029d5a61cbd17c86607c94ff17095615e712541ab0df5fbc9c342b87709f561", func := "paybook/paybooklaw12.CycleHears", spec := "cycleHears", named := ["paybook/cycle.ladder"], apart := false, laid := [("paybook/cycle.ladder", laid_paybook_cycle_ladder)] }
def CycleHearsSaid : Prop := cycleHearsRow.holds Tryd.pinned (OpenSpec.ofChange cycleHearsSpec)

/-- ITS FALSE NEIGHBOUR: 'it returns false'. Refute it at one input. -/
def cycleHearsWrong : ChangeSpec := { name := "cycleHears", fn := fun _ => fun
  | [d1, d2, d3, d4, d5, d6, d7] => { results := [.lit (.bool false)], args := [d1, d2, d3, d4, d5, d6, d7] }
  | _ => none }
def CycleHearsWrongFalsely : Prop := cycleHearsRow.holds Tryd.pinned (OpenSpec.ofChange cycleHearsWrong)

/-- 'paybooklaw12.CycleOld': WHATEVER THE INPUT: true; the input reads as it did. -/
def cycleOldSpec : ChangeSpec := { name := "cycleOld", fn := fun _ => fun
  | [d1, d2, d3, d4, d5, d6, d7] => { results := [.lit (.bool true)], args := [d1, d2, d3, d4, d5, d6, d7] }
  | _ => none }
def cycleOldRow : OpenClaim := { program := "ytlfaaogifplgeaadoor", sum := "0029d5a61cbd17c86607c94ff17095615e712541ab0df5fbc9c342b87709f561", func := "paybook/paybooklaw12.CycleOld", spec := "cycleOld", named := ["paybook/cycle.ladder"], apart := false, laid := [("paybook/cycle.ladder", laid_paybook_cycle_ladder)] }
def CycleOldSaid : Prop := cycleOldRow.holds Tryd.pinned (OpenSpec.ofChange cycleOldSpec)

/-- ITS FALSE NEIGHBOUR: 'it returns false'. Refute it at one input. -/
def cycleOldWrong : ChangeSpec := { name := "cycleOld", fn := fun _ => fun
  | [d1, d2, d3, d4, d5, d6, d7] => { results := [.lit (.bool false)], args := [d1, d2, d3, d4, d5, d6, d7] }
  | _ => none }
def CycleOldWrongFalsely : Prop := cycleOldRow.holds Tryd.pinned (OpenSpec.ofChange cycleOldWrong)

/-- 'paybooklaw12.CycleBegins': WHATEVER THE INPUT: true; the input reads as it did. -/
def cycleBeginsSpec : ChangeSpec := { name := "cycleBegins", fn := fun _ => fun
  | [d1, d2, d3, d4, d5] => { results := [.lit (.bool true)], args := [d1, d2, d3, d4, d5] }
  | _ => none }
def cycleBeginsRow : OpenClaim := { program := "ytlfaaogifplgeaadoor", sum := "0029d5a61cbd17c86607c94ff17095615e712541ab0df5fbc9c342b87709f561", func := "paybook/paybooklaw12.CycleBegins", spec := "cycleBegins", named := ["paybook/cycle.ladder"], apart := false, laid := [("paybook/cycle.ladder", laid_paybook_cycle_ladder)] }
def CycleBeginsSaid : Prop := cycleBeginsRow.holds Tryd.pinned (OpenSpec.ofChange cycleBeginsSpec)

/-- ITS FALSE NEIGHBOUR: 'it returns false'. Refute it at one input. -/
def cycleBeginsWrong : ChangeSpec := { name := "cycleBegins", fn := fun _ => fun
  | [d1, d2, d3, d4, d5] => { results := [.lit (.bool false)], args := [d1, d2, d3, d4, d5] }
  | _ => none }
def CycleBeginsWrongFalsely : Prop := cycleBeginsRow.holds Tryd.pinned (OpenSpec.ofChange cycleBeginsWrong)

/-- 'paybooklaw12.CycleEnds': WHATEVER THE INPUT: true; the input reads as it did. -/
def cycleEndsSpec : ChangeSpec := { name := "cycleEnds", fn := fun _ => fun
  | [d1, d2, d3, d4] => { results := [.lit (.bool true)], args := [d1, d2, d3, d4] }
  | _ => none }
def cycleEndsRow : OpenClaim := { program := "ytlfaaogifplgeaadoor", sum := "0029d5a61cbd17c86607c94ff17095615e712541ab0df5fbc9c342b87709f561", func := "paybook/paybooklaw12.CycleEnds", spec := "cycleEnds", named := ["paybook/cycle.ladder"], apart := false, laid := [("paybook/cycle.ladder", laid_paybook_cycle_ladder)] }
def CycleEndsSaid : Prop := cycleEndsRow.holds Tryd.pinned (OpenSpec.ofChange cycleEndsSpec)

/-- ITS FALSE NEIGHBOUR: 'it returns false'. Refute it at one input. -/
def cycleEndsWrong : ChangeSpec := { name := "cycleEnds", fn := fun _ => fun
  | [d1, d2, d3, d4] => { results := [.lit (.bool false)], args := [d1, d2, d3, d4] }
  | _ => none }
def CycleEndsWrongFalsely : Prop := cycleEndsRow.holds Tryd.pinned (OpenSpec.ofChange cycleEndsWrong)

/-- 'paybooklaw12.CycleNames': WHATEVER THE INPUT: true; the input reads as it did. -/
def cycleNamesSpec : ChangeSpec := { name := "cycleNames", fn := fun _ => fun
  | [d] => { results := [.lit (.bool true)], args := [d] }
  | _ => none }
def cycleNamesRow : OpenClaim := { program := "ytlfaaogifplgeaadoor", sum := "0029d5a61cbd17c86607c94ff17095615e712541ab0df5fbc9c342b87709f561", func := "paybook/paybooklaw12.CycleNames", spec := "cycleNames", named := ["paybook/cycle.ladder"], apart := false, laid := [("paybook/cycle.ladder", laid_paybook_cycle_ladder)] }
def CycleNamesSaid : Prop := cycleNamesRow.holds Tryd.pinned (OpenSpec.ofChange cycleNamesSpec)

/-- ITS FALSE NEIGHBOUR: 'it returns false'. Refute it at one input. -/
def cycleNamesWrong : ChangeSpec := { name := "cycleNames", fn := fun _ => fun
  | [d] => { results := [.lit (.bool false)], args := [d] }
  | _ => none }
def CycleNamesWrongFalsely : Prop := cycleNamesRow.holds Tryd.pinned (OpenSpec.ofChange cycleNamesWrong)

/-- 'paybooklaw12.CycleLadder': WHATEVER THE INPUT: true; the input reads as it did. -/
def cycleLadderSpec : ChangeSpec := { name := "cycleLadder", fn := fun _ => fun
  | [d1, d2, d3] => { results := [.lit (.bool true)], args := [d1, d2, d3] }
  | _ => none }
def cycleLadderRow : OpenClaim := { program := "ytlfaaogifplgeaadoor", sum := "0029d5a61cbd17c86607c94ff17095615e712541ab0df5fbc9c342b87709f561", func := "paybook/paybooklaw12.CycleLadder", spec := "cycleLadder", named := ["paybook/cycle.ladder"], apart := false, laid := [("paybook/cycle.ladder", laid_paybook_cycle_ladder)] }
def CycleLadderSaid : Prop := cycleLadderRow.holds Tryd.pinned (OpenSpec.ofChange cycleLadderSpec)

/-- ITS FALSE NEIGHBOUR: 'it returns false'. Refute it at one input. -/
def cycleLadderWrong : ChangeSpec := { name := "cycleLadder", fn := fun _ => fun
  | [d1, d2, d3] => { results := [.lit (.bool false)], args := [d1, d2, d3] }
  | _ => none }
def CycleLadderWrongFalsely : Prop := cycleLadderRow.holds Tryd.pinned (OpenSpec.ofChange cycleLadderWrong)

/-- 'paybooklaw12.CycleWakes': WHATEVER THE INPUT: true; the input reads as it did. -/
def cycleWakesSpec : ChangeSpec := { name := "cycleWakes", fn := fun _ => fun
  | [d1, d2, d3, d4, d5] => { results := [.lit (.bool true)], args := [d1, d2, d3, d4, d5] }
  | _ => none }
def cycleWakesRow : OpenClaim := { program := "ytlfaaogifplgeaadoor", sum := "0029d5a61cbd17c86607c94ff17095615e712541ab0df5fbc9c342b87709f561", func := "paybook/paybooklaw12.CycleWakes", spec := "cycleWakes", named := ["paybook/cycle.ladder"], apart := false, laid := [("paybook/cycle.ladder", laid_paybook_cycle_ladder)] }
def CycleWakesSaid : Prop := cycleWakesRow.holds Tryd.pinned (OpenSpec.ofChange cycleWakesSpec)

/-- ITS FALSE NEIGHBOUR: 'it returns false'. Refute it at one input. -/
def cycleWakesWrong : ChangeSpec := { name := "cycleWakes", fn := fun _ => fun
  | [d1, d2, d3, d4, d5] => { results := [.lit (.bool false)], args := [d1, d2, d3, d4, d5] }
  | _ => none }
def CycleWakesWrongFalsely : Prop := cycleWakesRow.holds Tryd.pinned (OpenSpec.ofChange cycleWakesWrong)

/-- 'paybooklaw12.CycleKeeps': WHATEVER THE INPUT: true; the input reads as it did. -/
def cycleKeepsSpec : ChangeSpec := { name := "cycleKeeps", fn := fun _ => fun
  | [d1, d2, d3, d4, d5, d6, d7, d8] => { results := [.lit (.bool true)], args := [d1, d2, d3, d4, d5, d6, d7, d8] }
  | _ => none }
def cycleKeepsRow : OpenClaim := { program := "ytlfaaogifplgeaadoor", sum := "0029d5a61cbd17c86607c94ff17095615e712541ab0df5fbc9c342b87709f561", func := "paybook/paybooklaw12.CycleKeeps", spec := "cycleKeeps", named := ["paybook/cycle.ladder"], apart := false, laid := [("paybook/cycle.ladder", laid_paybook_cycle_ladder)] }
def CycleKeepsSaid : Prop := cycleKeepsRow.holds Tryd.pinned (OpenSpec.ofChange cycleKeepsSpec)

/-- ITS FALSE NEIGHBOUR: 'it returns false'. Refute it at one input. -/
def cycleKeepsWrong : ChangeSpec := { name := "cycleKeeps", fn := fun _ => fun
  | [d1, d2, d3, d4, d5, d6, d7, d8] => { results := [.lit (.bool false)], args := [d1, d2, d3, d4, d5, d6, d7, d8] }
  | _ => none }
def CycleKeepsWrongFalsely : Prop := cycleKeepsRow.holds Tryd.pinned (OpenSpec.ofChange cycleKeepsWrong)

/- THE SECOND FORM. 'bulk': how many values and letters a reading holds, each counted each time it is reached (what is shared counts as often as it is met; a slice's spare places count too). A statement '..UptoSaid' is the law's where the arguments, and the package variables that the reading takes, are together of bulk at most 1048576: NARROWER than '..Said'. Prove '..Said' where nothing that the law and all that it calls make is longer than what came in: it says more and counts as full. Else prove '..UptoSaid'. A law counts once. -/
mutual
def uptoBulk {H : Type} : DataW H → Nat
  | .lit (.string bytes) => bytes.length + 1
  | .lit _ => 1
  | .nil => 1
  | .ptr d => uptoBulk d + 1
  | .slice elems spare => uptoBulkAll elems + uptoBulkAll spare + 1
  | .agg parts => uptoBulkAll parts + 1
  | .iface _ d => uptoBulk d + 1
  | .map entries => uptoBulkEntries entries + 1
  | .held _ => 1
def uptoBulkAll {H : Type} : List (DataW H) → Nat
  | [] => 0
  | d :: r => uptoBulk d + uptoBulkAll r
def uptoBulkEntries {H : Type} : List (Lit × DataW H) → Nat
  | [] => 0
  | x :: r => uptoBulkEntry x + uptoBulkEntries r
def uptoBulkEntry {H : Type} : Lit × DataW H → Nat
  | (.string bytes, d) => bytes.length + uptoBulk d + 1
  | (_, d) => uptoBulk d + 1
 end
def uptoSmall : (H : Type) → List (DataW H) → Bool := fun _ ds => decide (uptoBulkAll ds ≤ 1048576)
def OpenSpec.upto (s : _root_.Go.ChangeSpec) : _root_.Go.OpenSpec := { _root_.Go.OpenSpec.ofChange s with cond := some uptoSmall }

/-- 'paybooklaw12.CycleAsks', WHERE WHAT IT READS IS OF BULK AT MOST 1048576: true; the input reads as it did. -/
def cycleAsksUptoRow : OpenClaim := { program := "ytlfaaogifplgeaadoor", sum := "0029d5a61cbd17c86607c94ff17095615e712541ab0df5fbc9c342b87709f561", func := "paybook/paybooklaw12.CycleAsks", spec := "cycleAsks", named := ["paybook/cycle.ladder"], apart := false, laid := [("paybook/cycle.ladder", laid_paybook_cycle_ladder)], narrowed := true }
def CycleAsksUptoSaid : Prop := cycleAsksUptoRow.holds Tryd.pinned (OpenSpec.upto cycleAsksSpec)

/-- 'paybooklaw12.CycleHears', WHERE WHAT IT READS IS OF BULK AT MOST 1048576: true; the input reads as it did. -/
def cycleHearsUptoRow : OpenClaim := { program := "ytlfaaogifplgeaadoor", sum := "0029d5a61cbd17c86607c94ff17095615e712541ab0df5fbc9c342b87709f561", func := "paybook/paybooklaw12.CycleHears", spec := "cycleHears", named := ["paybook/cycle.ladder"], apart := false, laid := [("paybook/cycle.ladder", laid_paybook_cycle_ladder)], narrowed := true }
def CycleHearsUptoSaid : Prop := cycleHearsUptoRow.holds Tryd.pinned (OpenSpec.upto cycleHearsSpec)

/-- 'paybooklaw12.CycleOld', WHERE WHAT IT READS IS OF BULK AT MOST 1048576: true; the input reads as it did. -/
def cycleOldUptoRow : OpenClaim := { program := "ytlfaaogifplgeaadoor", sum := "0029d5a61cbd17c86607c94ff17095615e712541ab0df5fbc9c342b87709f561", func := "paybook/paybooklaw12.CycleOld", spec := "cycleOld", named := ["paybook/cycle.ladder"], apart := false, laid := [("paybook/cycle.ladder", laid_paybook_cycle_ladder)], narrowed := true }
def CycleOldUptoSaid : Prop := cycleOldUptoRow.holds Tryd.pinned (OpenSpec.upto cycleOldSpec)

/-- 'paybooklaw12.CycleBegins', WHERE WHAT IT READS IS OF BULK AT MOST 1048576: true; the input reads as it did. -/
def cycleBeginsUptoRow : OpenClaim := { program := "ytlfaaogifplgeaadoor", sum := "0029d5a61cbd17c86607c94ff17095615e712541ab0df5fbc9c342b87709f561", func := "paybook/paybooklaw12.CycleBegins", spec := "cycleBegins", named := ["paybook/cycle.ladder"], apart := false, laid := [("paybook/cycle.ladder", laid_paybook_cycle_ladder)], narrowed := true }
def CycleBeginsUptoSaid : Prop := cycleBeginsUptoRow.holds Tryd.pinned (OpenSpec.upto cycleBeginsSpec)

/-- 'paybooklaw12.CycleEnds', WHERE WHAT IT READS IS OF BULK AT MOST 1048576: true; the input reads as it did. -/
def cycleEndsUptoRow : OpenClaim := { program := "ytlfaaogifplgeaadoor", sum := "0029d5a61cbd17c86607c94ff17095615e712541ab0df5fbc9c342b87709f561", func := "paybook/paybooklaw12.CycleEnds", spec := "cycleEnds", named := ["paybook/cycle.ladder"], apart := false, laid := [("paybook/cycle.ladder", laid_paybook_cycle_ladder)], narrowed := true }
def CycleEndsUptoSaid : Prop := cycleEndsUptoRow.holds Tryd.pinned (OpenSpec.upto cycleEndsSpec)

/-- 'paybooklaw12.CycleNames', WHERE WHAT IT READS IS OF BULK AT MOST 1048576: true; the input reads as it did. -/
def cycleNamesUptoRow : OpenClaim := { program := "ytlfaaogifplgeaadoor", sum := "0029d5a61cbd17c86607c94ff17095615e712541ab0df5fbc9c342b87709f561", func := "paybook/paybooklaw12.CycleNames", spec := "cycleNames", named := ["paybook/cycle.ladder"], apart := false, laid := [("paybook/cycle.ladder", laid_paybook_cycle_ladder)], narrowed := true }
def CycleNamesUptoSaid : Prop := cycleNamesUptoRow.holds Tryd.pinned (OpenSpec.upto cycleNamesSpec)

/-- 'paybooklaw12.CycleLadder', WHERE WHAT IT READS IS OF BULK AT MOST 1048576: true; the input reads as it did. -/
def cycleLadderUptoRow : OpenClaim := { program := "ytlfaaogifplgeaadoor", sum := "0029d5a61cbd17c86607c94ff17095615e712541ab0df5fbc9c342b87709f561", func := "paybook/paybooklaw12.CycleLadder", spec := "cycleLadder", named := ["paybook/cycle.ladder"], apart := false, laid := [("paybook/cycle.ladder", laid_paybook_cycle_ladder)], narrowed := true }
def CycleLadderUptoSaid : Prop := cycleLadderUptoRow.holds Tryd.pinned (OpenSpec.upto cycleLadderSpec)

/-- 'paybooklaw12.CycleWakes', WHERE WHAT IT READS IS OF BULK AT MOST 1048576: true; the input reads as it did. -/
def cycleWakesUptoRow : OpenClaim := { program := "ytlfaaogifplgeaadoor", sum := "0029d5a61cbd17c86607c94ff17095615e712541ab0df5fbc9c342b87709f561", func := "paybook/paybooklaw12.CycleWakes", spec := "cycleWakes", named := ["paybook/cycle.ladder"], apart := false, laid := [("paybook/cycle.ladder", laid_paybook_cycle_ladder)], narrowed := true }
def CycleWakesUptoSaid : Prop := cycleWakesUptoRow.holds Tryd.pinned (OpenSpec.upto cycleWakesSpec)

/-- 'paybooklaw12.CycleKeeps', WHERE WHAT IT READS IS OF BULK AT MOST 1048576: true; the input reads as it did. -/
def cycleKeepsUptoRow : OpenClaim := { program := "ytlfaaogifplgeaadoor", sum := "0029d5a61cbd17c86607c94ff17095615e712541ab0df5fbc9c342b87709f561", func := "paybook/paybooklaw12.CycleKeeps", spec := "cycleKeeps", named := ["paybook/cycle.ladder"], apart := false, laid := [("paybook/cycle.ladder", laid_paybook_cycle_ladder)], narrowed := true }
def CycleKeepsUptoSaid : Prop := cycleKeepsUptoRow.holds Tryd.pinned (OpenSpec.upto cycleKeepsSpec)

end Rows
end Go.Proofs.YtlfaaogifplgeaaDoor
