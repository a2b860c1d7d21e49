/-
  NARROWER THAN 'FOR EVERY INPUT', by the rows' own cells (each row's printed sentence says how): SealSums: laid · SealRows: laid · SealTurns: laid · SealOpens: laid · SealCloses: laid.
  DERIVED. THE GIVEN ROWS OF THIS SEAT. 5 by the template 'for every input the law returns true; each argument reads behind the call as it read before'; 0 by the template 'total and deterministic' (their statements: YtifefhdinnechaaDoorTotals.lean).
  GIVEN WITH THE SEED: the statements are not yours to turn. If you find one false, say at which input.
  Laid BY PROGRAM, IN A SANDBOX (cutbox-rows.mjs): the forced cells as the released guide's own fill.sh prints them over the translation bb364def6edaa841… (all of the seat's roots in one cut). By AI agents, Wed Nov 11 2026. No macro, syntax, notation, axiom, sorry.
-/
import Derived.Test.YtifefhdinnechaaDoorChecked
import GoSem.Claim
import GoSem.ClaimJoined
import GoSem.ClaimMapViews
import Derived.JoinedTies
import Derived.KernelRfl
namespace Go.Proofs.YtifefhdinnechaaDoor
/- THE CELL 'sum', in the pinned program and in every row, IS THE sha256 OF THE DUMP (.gsa) THAT YtifefhdinnechaaDoorProg.lean LOADS. Nothing in Lean hashes anything: it is a label: what it is worth is what the hold of that sum in a sandbox is worth. -/
noncomputable def Tryd.pinned : Pinned := { name := "ytifefhdinnechaadoor", sum := "bb364def6edaa8412e1ca86308595db81a41072ab63cc01fe20b9ab854fceac7", checked := Tryd.checked }
namespace Rows
def none {H : Type} : Left H := { results := [], args := [] }

/- WHAT THE LISTED PACKAGE-LEVEL VARIABLES READ AS WHEN THE CALL BEGINS. Each datum BY PROGRAM (the guide's laid-datum.mjs) off the statement by which the dump's own 'gosem.cut.vars' lays the variable. In a bare row this is a premise. The card (YtifefhdinnechaaDoorCards.lean) ties it to the program's text. -/
def laid_paybook_seal_quarter {H : Type} : DataW H := .agg [.lit (.int .u32 0), .lit (.int .u32 498536548), .lit (.int .u32 997073096), .lit (.int .u32 651767980), .lit (.int .u32 1994146192), .lit (.int .u32 1802195444), .lit (.int .u32 1303535960), .lit (.int .u32 1342533948), .lit (.int .u32 3988292384), .lit (.int .u32 4027552580), .lit (.int .u32 3604390888), .lit (.int .u32 3412177804), .lit (.int .u32 2607071920), .lit (.int .u32 2262029012), .lit (.int .u32 2685067896), .lit (.int .u32 3183342108)]

/-- 'paybooklaw06.SealSums': WHATEVER THE INPUT: true; the input reads as it did. -/
def sealSumsSpec : ChangeSpec := { name := "sealSums", fn := fun _ => fun
  | [d] => { results := [.lit (.bool true)], args := [d] }
  | _ => none }
def sealSumsRow : OpenClaim := { program := "ytifefhdinnechaadoor", sum := "bb364def6edaa8412e1ca86308595db81a41072ab63cc01fe20b9ab854fceac7", func := "paybook/paybooklaw06.SealSums", spec := "sealSums", named := ["paybook/seal.quarter"], apart := false, laid := [("paybook/seal.quarter", laid_paybook_seal_quarter)] }
def SealSumsSaid : Prop := sealSumsRow.holds Tryd.pinned (OpenSpec.ofChange sealSumsSpec)

/-- ITS FALSE NEIGHBOUR: 'it returns false'. Refute it at one input. -/
def sealSumsWrong : ChangeSpec := { name := "sealSums", fn := fun _ => fun
  | [d] => { results := [.lit (.bool false)], args := [d] }
  | _ => none }
def SealSumsWrongFalsely : Prop := sealSumsRow.holds Tryd.pinned (OpenSpec.ofChange sealSumsWrong)

/-- 'paybooklaw06.SealRows': WHATEVER THE INPUT: true; the input reads as it did. -/
def sealRowsSpec : ChangeSpec := { name := "sealRows", fn := fun _ => fun
  | [d1, d2, d3] => { results := [.lit (.bool true)], args := [d1, d2, d3] }
  | _ => none }
def sealRowsRow : OpenClaim := { program := "ytifefhdinnechaadoor", sum := "bb364def6edaa8412e1ca86308595db81a41072ab63cc01fe20b9ab854fceac7", func := "paybook/paybooklaw06.SealRows", spec := "sealRows", named := ["paybook/seal.quarter"], apart := false, laid := [("paybook/seal.quarter", laid_paybook_seal_quarter)] }
def SealRowsSaid : Prop := sealRowsRow.holds Tryd.pinned (OpenSpec.ofChange sealRowsSpec)

/-- ITS FALSE NEIGHBOUR: 'it returns false'. Refute it at one input. -/
def sealRowsWrong : ChangeSpec := { name := "sealRows", fn := fun _ => fun
  | [d1, d2, d3] => { results := [.lit (.bool false)], args := [d1, d2, d3] }
  | _ => none }
def SealRowsWrongFalsely : Prop := sealRowsRow.holds Tryd.pinned (OpenSpec.ofChange sealRowsWrong)

/-- 'paybooklaw06.SealTurns': WHATEVER THE INPUT: true; the input reads as it did. -/
def sealTurnsSpec : ChangeSpec := { name := "sealTurns", fn := fun _ => fun
  | [d1, d2, d3, d4, d5, d6] => { results := [.lit (.bool true)], args := [d1, d2, d3, d4, d5, d6] }
  | _ => none }
def sealTurnsRow : OpenClaim := { program := "ytifefhdinnechaadoor", sum := "bb364def6edaa8412e1ca86308595db81a41072ab63cc01fe20b9ab854fceac7", func := "paybook/paybooklaw06.SealTurns", spec := "sealTurns", named := ["paybook/seal.quarter"], apart := false, laid := [("paybook/seal.quarter", laid_paybook_seal_quarter)] }
def SealTurnsSaid : Prop := sealTurnsRow.holds Tryd.pinned (OpenSpec.ofChange sealTurnsSpec)

/-- ITS FALSE NEIGHBOUR: 'it returns false'. Refute it at one input. -/
def sealTurnsWrong : ChangeSpec := { name := "sealTurns", fn := fun _ => fun
  | [d1, d2, d3, d4, d5, d6] => { results := [.lit (.bool false)], args := [d1, d2, d3, d4, d5, d6] }
  | _ => none }
def SealTurnsWrongFalsely : Prop := sealTurnsRow.holds Tryd.pinned (OpenSpec.ofChange sealTurnsWrong)

/-- 'paybooklaw06.SealOpens': WHATEVER THE INPUT: true; the input reads as it did. -/
def sealOpensSpec : ChangeSpec := { name := "sealOpens", fn := fun _ => fun
  | [d1, d2, d3, d4] => { results := [.lit (.bool true)], args := [d1, d2, d3, d4] }
  | _ => none }
def sealOpensRow : OpenClaim := { program := "ytifefhdinnechaadoor", sum := "bb364def6edaa8412e1ca86308595db81a41072ab63cc01fe20b9ab854fceac7", func := "paybook/paybooklaw06.SealOpens", spec := "sealOpens", named := ["paybook/seal.quarter"], apart := false, laid := [("paybook/seal.quarter", laid_paybook_seal_quarter)] }
def SealOpensSaid : Prop := sealOpensRow.holds Tryd.pinned (OpenSpec.ofChange sealOpensSpec)

/-- ITS FALSE NEIGHBOUR: 'it returns false'. Refute it at one input. -/
def sealOpensWrong : ChangeSpec := { name := "sealOpens", fn := fun _ => fun
  | [d1, d2, d3, d4] => { results := [.lit (.bool false)], args := [d1, d2, d3, d4] }
  | _ => none }
def SealOpensWrongFalsely : Prop := sealOpensRow.holds Tryd.pinned (OpenSpec.ofChange sealOpensWrong)

/-- 'paybooklaw06.SealCloses': WHATEVER THE INPUT: true; the input reads as it did. -/
def sealClosesSpec : ChangeSpec := { name := "sealCloses", fn := fun _ => fun
  | [d1, d2, d3, d4] => { results := [.lit (.bool true)], args := [d1, d2, d3, d4] }
  | _ => none }
def sealClosesRow : OpenClaim := { program := "ytifefhdinnechaadoor", sum := "bb364def6edaa8412e1ca86308595db81a41072ab63cc01fe20b9ab854fceac7", func := "paybook/paybooklaw06.SealCloses", spec := "sealCloses", named := ["paybook/seal.quarter"], apart := false, laid := [("paybook/seal.quarter", laid_paybook_seal_quarter)] }
def SealClosesSaid : Prop := sealClosesRow.holds Tryd.pinned (OpenSpec.ofChange sealClosesSpec)

/-- ITS FALSE NEIGHBOUR: 'it returns false'. Refute it at one input. -/
def sealClosesWrong : ChangeSpec := { name := "sealCloses", fn := fun _ => fun
  | [d1, d2, d3, d4] => { results := [.lit (.bool false)], args := [d1, d2, d3, d4] }
  | _ => none }
def SealClosesWrongFalsely : Prop := sealClosesRow.holds Tryd.pinned (OpenSpec.ofChange sealClosesWrong)

/- THE SECOND FORM. 'bulk': how many values and letters a reading holds, each counted each time it is reached (what is shared counts as often as it is met; a slice's spare places count too). A statement '..UptoSaid' is the law's where the arguments, and the package variables that the reading takes, are together of bulk at most 1048576: NARROWER than '..Said'. Prove '..Said' where nothing that the law and all that it calls make is longer than what came in: it says more and counts as full. Else prove '..UptoSaid'. A law counts once. -/
mutual
def uptoBulk {H : Type} : DataW H → Nat
  | .lit (.string bytes) => bytes.length + 1
  | .lit _ => 1
  | .nil => 1
  | .ptr d => uptoBulk d + 1
  | .slice elems spare => uptoBulkAll elems + uptoBulkAll spare + 1
  | .agg parts => uptoBulkAll parts + 1
  | .iface _ d => uptoBulk d + 1
  | .map entries => uptoBulkEntries entries + 1
  | .held _ => 1
def uptoBulkAll {H : Type} : List (DataW H) → Nat
  | [] => 0
  | d :: r => uptoBulk d + uptoBulkAll r
def uptoBulkEntries {H : Type} : List (Lit × DataW H) → Nat
  | [] => 0
  | x :: r => uptoBulkEntry x + uptoBulkEntries r
def uptoBulkEntry {H : Type} : Lit × DataW H → Nat
  | (.string bytes, d) => bytes.length + uptoBulk d + 1
  | (_, d) => uptoBulk d + 1
 end
def uptoSmall : (H : Type) → List (DataW H) → Bool := fun _ ds => decide (uptoBulkAll ds ≤ 1048576)
def OpenSpec.upto (s : _root_.Go.ChangeSpec) : _root_.Go.OpenSpec := { _root_.Go.OpenSpec.ofChange s with cond := some uptoSmall }

/-- 'paybooklaw06.SealSums', WHERE WHAT IT READS IS OF BULK AT MOST 1048576: true; the input reads as it did. -/
def sealSumsUptoRow : OpenClaim := { program := "ytifefhdinnechaadoor", sum := "bb364def6edaa8412e1ca86308595db81a41072ab63cc01fe20b9ab854fceac7", func := "paybook/paybooklaw06.SealSums", spec := "sealSums", named := ["paybook/seal.quarter"], apart := false, laid := [("paybook/seal.quarter", laid_paybook_seal_quarter)], narrowed := true }
def SealSumsUptoSaid : Prop := sealSumsUptoRow.holds Tryd.pinned (OpenSpec.upto sealSumsSpec)

/-- 'paybooklaw06.SealRows', WHERE WHAT IT READS IS OF BULK AT MOST 1048576: true; the input reads as it did. -/
def sealRowsUptoRow : OpenClaim := { program := "ytifefhdinnechaadoor", sum := "bb364def6edaa8412e1ca86308595db81a41072ab63cc01fe20b9ab854fceac7", func := "paybook/paybooklaw06.SealRows", spec := "sealRows", named := ["paybook/seal.quarter"], apart := false, laid := [("paybook/seal.quarter", laid_paybook_seal_quarter)], narrowed := true }
def SealRowsUptoSaid : Prop := sealRowsUptoRow.holds Tryd.pinned (OpenSpec.upto sealRowsSpec)

/-- 'paybooklaw06.SealTurns', WHERE WHAT IT READS IS OF BULK AT MOST 1048576: true; the input reads as it did. -/
def sealTurnsUptoRow : OpenClaim := { program := "ytifefhdinnechaadoor", sum := "bb364def6edaa8412e1ca86308595db81a41072ab63cc01fe20b9ab854fceac7", func := "paybook/paybooklaw06.SealTurns", spec := "sealTurns", named := ["paybook/seal.quarter"], apart := false, laid := [("paybook/seal.quarter", laid_paybook_seal_quarter)], narrowed := true }
def SealTurnsUptoSaid : Prop := sealTurnsUptoRow.holds Tryd.pinned (OpenSpec.upto sealTurnsSpec)

/-- 'paybooklaw06.SealOpens', WHERE WHAT IT READS IS OF BULK AT MOST 1048576: true; the input reads as it did. -/
def sealOpensUptoRow : OpenClaim := { program := "ytifefhdinnechaadoor", sum := "bb364def6edaa8412e1ca86308595db81a41072ab63cc01fe20b9ab854fceac7", func := "paybook/paybooklaw06.SealOpens", spec := "sealOpens", named := ["paybook/seal.quarter"], apart := false, laid := [("paybook/seal.quarter", laid_paybook_seal_quarter)], narrowed := true }
def SealOpensUptoSaid : Prop := sealOpensUptoRow.holds Tryd.pinned (OpenSpec.upto sealOpensSpec)

/-- 'paybooklaw06.SealCloses', WHERE WHAT IT READS IS OF BULK AT MOST 1048576: true; the input reads as it did. -/
def sealClosesUptoRow : OpenClaim := { program := "ytifefhdinnechaadoor", sum := "bb364def6edaa8412e1ca86308595db81a41072ab63cc01fe20b9ab854fceac7", func := "paybook/paybooklaw06.SealCloses", spec := "sealCloses", named := ["paybook/seal.quarter"], apart := false, laid := [("paybook/seal.quarter", laid_paybook_seal_quarter)], narrowed := true }
def SealClosesUptoSaid : Prop := sealClosesUptoRow.holds Tryd.pinned (OpenSpec.upto sealClosesSpec)

end Rows
end Go.Proofs.YtifefhdinnechaaDoor
