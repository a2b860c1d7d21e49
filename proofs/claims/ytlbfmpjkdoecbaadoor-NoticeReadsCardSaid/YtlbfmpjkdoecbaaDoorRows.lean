/-
  NARROWER THAN 'FOR EVERY INPUT', by the rows' own cells (each row's printed sentence says how): NoticeBytes: laid · NoticeTurns: laid · NoticeReads: laid.
  DERIVED. THE GIVEN ROWS OF THIS SEAT. 3 by the template 'for every input the law returns true; each argument reads behind the call as it read before'; 0 by the template 'total and deterministic' (their statements: YtlbfmpjkdoecbaaDoorTotals.lean).
  GIVEN WITH THE SEED: the statements are not yours to turn. If you find one false, say at which input.
  Laid BY PROGRAM, IN A SANDBOX (cutbox-rows.mjs): the forced cells as the released guide's own fill.sh prints them over the translation 98667017c1cafd63… (all of the seat's roots in one cut). By AI agents, Wed Nov 11 2026. No macro, syntax, notation, axiom, sorry.
-/
import Derived.Test.YtlbfmpjkdoecbaaDoorChecked
import GoSem.Claim
import GoSem.ClaimJoined
import GoSem.ClaimMapViews
import Derived.JoinedTies
import Derived.KernelRfl
namespace Go.Proofs.YtlbfmpjkdoecbaaDoor
/- THE CELL 'sum', in the pinned program and in every row, IS THE sha256 OF THE DUMP (.gsa) THAT YtlbfmpjkdoecbaaDoorProg.lean LOADS. Nothing in Lean hashes anything: it is a label: what it is worth is what the hold of that sum in a sandbox is worth. -/
noncomputable def Tryd.pinned : Pinned := { name := "ytlbfmpjkdoecbaadoor", sum := "98667017c1cafd6340952b0df5532fe91459ce0e5827aadf78d61422c5985360", checked := Tryd.checked }
namespace Rows
def none {H : Type} : Left H := { results := [], args := [] }

/- WHAT THE LISTED PACKAGE-LEVEL VARIABLES READ AS WHEN THE CALL BEGINS. Each datum BY PROGRAM (the guide's laid-datum.mjs) off the statement by which the dump's own 'gosem.cut.vars' lays the variable. In a bare row this is a premise. The card (YtlbfmpjkdoecbaaDoorCards.lean) ties it to the program's text. -/
def laid_paybook_seal_quarter {H : Type} : DataW H := .agg [.lit (.int .u32 0), .lit (.int .u32 498536548), .lit (.int .u32 997073096), .lit (.int .u32 651767980), .lit (.int .u32 1994146192), .lit (.int .u32 1802195444), .lit (.int .u32 1303535960), .lit (.int .u32 1342533948), .lit (.int .u32 3988292384), .lit (.int .u32 4027552580), .lit (.int .u32 3604390888), .lit (.int .u32 3412177804), .lit (.int .u32 2607071920), .lit (.int .u32 2262029012), .lit (.int .u32 2685067896), .lit (.int .u32 3183342108)]

/-- 'paybooklaw11.NoticeBytes': WHATEVER THE INPUT: true; the input reads as it did. -/
def noticeBytesSpec : ChangeSpec := { name := "noticeBytes", fn := fun _ => fun
  | [d] => { results := [.lit (.bool true)], args := [d] }
  | _ => none }
def noticeBytesRow : OpenClaim := { program := "ytlbfmpjkdoecbaadoor", sum := "98667017c1cafd6340952b0df5532fe91459ce0e5827aadf78d61422c5985360", func := "paybook/paybooklaw11.NoticeBytes", spec := "noticeBytes", named := ["paybook/seal.quarter"], apart := false, laid := [("paybook/seal.quarter", laid_paybook_seal_quarter)] }
def NoticeBytesSaid : Prop := noticeBytesRow.holds Tryd.pinned (OpenSpec.ofChange noticeBytesSpec)

/-- ITS FALSE NEIGHBOUR: 'it returns false'. Refute it at one input. -/
def noticeBytesWrong : ChangeSpec := { name := "noticeBytes", fn := fun _ => fun
  | [d] => { results := [.lit (.bool false)], args := [d] }
  | _ => none }
def NoticeBytesWrongFalsely : Prop := noticeBytesRow.holds Tryd.pinned (OpenSpec.ofChange noticeBytesWrong)

/-- 'paybooklaw11.NoticeTurns': WHATEVER THE INPUT: true; the input reads as it did. -/
def noticeTurnsSpec : ChangeSpec := { name := "noticeTurns", fn := fun _ => fun
  | [d1, d2, d3, d4, d5] => { results := [.lit (.bool true)], args := [d1, d2, d3, d4, d5] }
  | _ => none }
def noticeTurnsRow : OpenClaim := { program := "ytlbfmpjkdoecbaadoor", sum := "98667017c1cafd6340952b0df5532fe91459ce0e5827aadf78d61422c5985360", func := "paybook/paybooklaw11.NoticeTurns", spec := "noticeTurns", named := ["paybook/seal.quarter"], apart := false, laid := [("paybook/seal.quarter", laid_paybook_seal_quarter)] }
def NoticeTurnsSaid : Prop := noticeTurnsRow.holds Tryd.pinned (OpenSpec.ofChange noticeTurnsSpec)

/-- ITS FALSE NEIGHBOUR: 'it returns false'. Refute it at one input. -/
def noticeTurnsWrong : ChangeSpec := { name := "noticeTurns", fn := fun _ => fun
  | [d1, d2, d3, d4, d5] => { results := [.lit (.bool false)], args := [d1, d2, d3, d4, d5] }
  | _ => none }
def NoticeTurnsWrongFalsely : Prop := noticeTurnsRow.holds Tryd.pinned (OpenSpec.ofChange noticeTurnsWrong)

/-- 'paybooklaw11.NoticeReads': WHATEVER THE INPUT: true; the input reads as it did. -/
def noticeReadsSpec : ChangeSpec := { name := "noticeReads", fn := fun _ => fun
  | [d1, d2, d3, d4, d5, d6] => { results := [.lit (.bool true)], args := [d1, d2, d3, d4, d5, d6] }
  | _ => none }
def noticeReadsRow : OpenClaim := { program := "ytlbfmpjkdoecbaadoor", sum := "98667017c1cafd6340952b0df5532fe91459ce0e5827aadf78d61422c5985360", func := "paybook/paybooklaw11.NoticeReads", spec := "noticeReads", named := ["paybook/seal.quarter"], apart := false, laid := [("paybook/seal.quarter", laid_paybook_seal_quarter)] }
def NoticeReadsSaid : Prop := noticeReadsRow.holds Tryd.pinned (OpenSpec.ofChange noticeReadsSpec)

/-- ITS FALSE NEIGHBOUR: 'it returns false'. Refute it at one input. -/
def noticeReadsWrong : ChangeSpec := { name := "noticeReads", fn := fun _ => fun
  | [d1, d2, d3, d4, d5, d6] => { results := [.lit (.bool false)], args := [d1, d2, d3, d4, d5, d6] }
  | _ => none }
def NoticeReadsWrongFalsely : Prop := noticeReadsRow.holds Tryd.pinned (OpenSpec.ofChange noticeReadsWrong)

/- THE SECOND FORM. 'bulk': how many values and letters a reading holds, each counted each time it is reached (what is shared counts as often as it is met; a slice's spare places count too). A statement '..UptoSaid' is the law's where the arguments, and the package variables that the reading takes, are together of bulk at most 1048576: NARROWER than '..Said'. Prove '..Said' where nothing that the law and all that it calls make is longer than what came in: it says more and counts as full. Else prove '..UptoSaid'. A law counts once. -/
mutual
def uptoBulk {H : Type} : DataW H → Nat
  | .lit (.string bytes) => bytes.length + 1
  | .lit _ => 1
  | .nil => 1
  | .ptr d => uptoBulk d + 1
  | .slice elems spare => uptoBulkAll elems + uptoBulkAll spare + 1
  | .agg parts => uptoBulkAll parts + 1
  | .iface _ d => uptoBulk d + 1
  | .map entries => uptoBulkEntries entries + 1
  | .held _ => 1
def uptoBulkAll {H : Type} : List (DataW H) → Nat
  | [] => 0
  | d :: r => uptoBulk d + uptoBulkAll r
def uptoBulkEntries {H : Type} : List (Lit × DataW H) → Nat
  | [] => 0
  | x :: r => uptoBulkEntry x + uptoBulkEntries r
def uptoBulkEntry {H : Type} : Lit × DataW H → Nat
  | (.string bytes, d) => bytes.length + uptoBulk d + 1
  | (_, d) => uptoBulk d + 1
 end
def uptoSmall : (H : Type) → List (DataW H) → Bool := fun _ ds => decide (uptoBulkAll ds ≤ 1048576)
def OpenSpec.upto (s : _root_.Go.ChangeSpec) : _root_.Go.OpenSpec := { _root_.Go.OpenSpec.ofChange s with cond := some uptoSmall }

/-- 'paybooklaw11.NoticeBytes', WHERE WHAT IT READS IS OF BULK AT MOST 1048576: true; the input reads as it did. -/
def noticeBytesUptoRow : OpenClaim := { program := "ytlbfmpjkdoecbaadoor", sum := "98667017c1cafd6340952b0df5532fe91459ce0e5827aadf78d61422c5985360", func := "paybook/paybooklaw11.NoticeBytes", spec := "noticeBytes", named := ["paybook/seal.quarter"], apart := false, laid := [("paybook/seal.quarter", laid_paybook_seal_quarter)], narrowed := true }
def NoticeBytesUptoSaid : Prop := noticeBytesUptoRow.holds Tryd.pinned (OpenSpec.upto noticeBytesSpec)

/-- 'paybooklaw11.NoticeTurns', WHERE WHAT IT READS IS OF BULK AT MOST 1048576: true; the input reads as it did. -/
def noticeTurnsUptoRow : OpenClaim := { program := "ytlbfmpjkdoecbaadoor", sum := "98667017c1cafd6340952b0df5532fe91459ce0e5827aadf78d61422c5985360", func := "paybook/paybooklaw11.NoticeTurns", spec := "noticeTurns", named := ["paybook/seal.quarter"], apart := false, laid := [("paybook/seal.quarter", laid_paybook_seal_quarter)], narrowed := true }
def NoticeTurnsUptoSaid : Prop := noticeTurnsUptoRow.holds Tryd.pinned (OpenSpec.upto noticeTurnsSpec)

/-- 'paybooklaw11.NoticeReads', WHERE WHAT IT READS IS OF BULK AT MOST 1048576: true; the input reads as it did. -/
def noticeReadsUptoRow : OpenClaim := { program := "ytlbfmpjkdoecbaadoor", sum := "98667017c1cafd6340952b0df5532fe91459ce0e5827aadf78d61422c5985360", func := "paybook/paybooklaw11.NoticeReads", spec := "noticeReads", named := ["paybook/seal.quarter"], apart := false, laid := [("paybook/seal.quarter", laid_paybook_seal_quarter)], narrowed := true }
def NoticeReadsUptoSaid : Prop := noticeReadsUptoRow.holds Tryd.pinned (OpenSpec.upto noticeReadsSpec)

end Rows
end Go.Proofs.YtlbfmpjkdoecbaaDoor
