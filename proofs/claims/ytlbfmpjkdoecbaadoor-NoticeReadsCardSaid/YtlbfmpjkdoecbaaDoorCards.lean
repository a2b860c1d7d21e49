/-
  DERIVED. GIVEN WITH THE SEED: THE CARDS: each row of YtlbfmpjkdoecbaaDoorRows.lean that lists a variable, with what it lists TIED to the program's text (the seventh form; the later family's looks); each row that meets fmt, with fmt's text TOLD by the authors' own Lean function (tested against real Go, not proved from fmt's source: count such statements apart). THE CARD IS WHAT COUNTS. Prove the row's statement (the work); the ties are given (YtlbfmpjkdoecbaaDoorTie.lean); close each card by the builder's one call (the guide's Derived/Test/ToyasCard.lean, 'card_holds'). Laid BY PROGRAM, IN A SANDBOX (cutbox-door.mjs). By AI agents, Wed Nov 11 2026. No macro, syntax, notation, axiom, sorry.
-/
import Derived.Test.YtlbfmpjkdoecbaaDoorRows
import GoSem.ClaimSeven
namespace Go.Proofs.YtlbfmpjkdoecbaaDoor
namespace Rows

/-- THE TIED CARD OF 'paybooklaw11.NoticeBytes'. -/
def noticeBytesCard : Claim7 := { stood := { row := noticeBytesRow, standIns := [], harness := (true, "34b37ea7685163d05d3ee98b819126afbd9039ddad4e9bb03c97bda584f71638"), looks := false }, kinds := [], alts := [], laidByText := true, laidKinds := [.data], laidTests := true, laidLooks := .later }
def NoticeBytesCardSaid : Prop := Claim7.holds Tryd.pinned (.plain (OpenSpec.ofChange noticeBytesSpec)) noticeBytesCard

/-- THE TIED CARD OF 'paybooklaw11.NoticeTurns'. -/
def noticeTurnsCard : Claim7 := { stood := { row := noticeTurnsRow, standIns := [], harness := (true, "34b37ea7685163d05d3ee98b819126afbd9039ddad4e9bb03c97bda584f71638"), looks := false }, kinds := [], alts := [], laidByText := true, laidKinds := [.data], laidTests := true, laidLooks := .later }
def NoticeTurnsCardSaid : Prop := Claim7.holds Tryd.pinned (.plain (OpenSpec.ofChange noticeTurnsSpec)) noticeTurnsCard

/-- THE TIED CARD OF 'paybooklaw11.NoticeReads'. -/
def noticeReadsCard : Claim7 := { stood := { row := noticeReadsRow, standIns := [], harness := (true, "34b37ea7685163d05d3ee98b819126afbd9039ddad4e9bb03c97bda584f71638"), looks := false }, kinds := [], alts := [], laidByText := true, laidKinds := [.data], laidTests := true, laidLooks := .later }
def NoticeReadsCardSaid : Prop := Claim7.holds Tryd.pinned (.plain (OpenSpec.ofChange noticeReadsSpec)) noticeReadsCard

/-- THE SECOND FORM's CARD OF 'paybooklaw11.NoticeBytes'. -/
def noticeBytesUptoCard : Claim7 := { stood := { row := noticeBytesUptoRow, standIns := [], harness := (true, "34b37ea7685163d05d3ee98b819126afbd9039ddad4e9bb03c97bda584f71638"), looks := false }, kinds := [], alts := [], laidByText := true, laidKinds := [.data], laidTests := true, laidLooks := .later }
def NoticeBytesUptoCardSaid : Prop := Claim7.holds Tryd.pinned (.plain (OpenSpec.upto noticeBytesSpec)) noticeBytesUptoCard

/-- THE SECOND FORM's CARD OF 'paybooklaw11.NoticeTurns'. -/
def noticeTurnsUptoCard : Claim7 := { stood := { row := noticeTurnsUptoRow, standIns := [], harness := (true, "34b37ea7685163d05d3ee98b819126afbd9039ddad4e9bb03c97bda584f71638"), looks := false }, kinds := [], alts := [], laidByText := true, laidKinds := [.data], laidTests := true, laidLooks := .later }
def NoticeTurnsUptoCardSaid : Prop := Claim7.holds Tryd.pinned (.plain (OpenSpec.upto noticeTurnsSpec)) noticeTurnsUptoCard

/-- THE SECOND FORM's CARD OF 'paybooklaw11.NoticeReads'. -/
def noticeReadsUptoCard : Claim7 := { stood := { row := noticeReadsUptoRow, standIns := [], harness := (true, "34b37ea7685163d05d3ee98b819126afbd9039ddad4e9bb03c97bda584f71638"), looks := false }, kinds := [], alts := [], laidByText := true, laidKinds := [.data], laidTests := true, laidLooks := .later }
def NoticeReadsUptoCardSaid : Prop := Claim7.holds Tryd.pinned (.plain (OpenSpec.upto noticeReadsSpec)) noticeReadsUptoCard
end Rows
end Go.Proofs.YtlbfmpjkdoecbaaDoor
