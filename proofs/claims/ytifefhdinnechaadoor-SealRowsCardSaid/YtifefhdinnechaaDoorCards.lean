/-
  DERIVED. GIVEN WITH THE SEED: THE CARDS: each row of YtifefhdinnechaaDoorRows.lean that lists a variable, with what it lists TIED to the program's text (the seventh form; the later family's looks); each row that meets fmt, with fmt's text TOLD by the authors' own Lean function (tested against real Go, not proved from fmt's source: count such statements apart). THE CARD IS WHAT COUNTS. Prove the row's statement (the work); the ties are given (YtifefhdinnechaaDoorTie.lean); close each card by the builder's one call (the guide's Derived/Test/ToyasCard.lean, 'card_holds'). Laid BY PROGRAM, IN A SANDBOX (cutbox-door.mjs). By AI agents, Wed Nov 11 2026. No macro, syntax, notation, axiom, sorry.
-/
import Derived.Test.YtifefhdinnechaaDoorRows
import GoSem.ClaimSeven
namespace Go.Proofs.YtifefhdinnechaaDoor
namespace Rows

/-- THE TIED CARD OF 'paybooklaw06.SealSums'. -/
def sealSumsCard : Claim7 := { stood := { row := sealSumsRow, standIns := [], harness := (true, "ceaf55c9f6dfb4b4544a6ca2841e3023f4aaf1a9f5d351b8b0c4a44c4f19c77f"), looks := false }, kinds := [], alts := [], laidByText := true, laidKinds := [.data], laidTests := true, laidLooks := .later }
def SealSumsCardSaid : Prop := Claim7.holds Tryd.pinned (.plain (OpenSpec.ofChange sealSumsSpec)) sealSumsCard

/-- THE TIED CARD OF 'paybooklaw06.SealRows'. -/
def sealRowsCard : Claim7 := { stood := { row := sealRowsRow, standIns := [], harness := (true, "ceaf55c9f6dfb4b4544a6ca2841e3023f4aaf1a9f5d351b8b0c4a44c4f19c77f"), looks := false }, kinds := [], alts := [], laidByText := true, laidKinds := [.data], laidTests := true, laidLooks := .later }
def SealRowsCardSaid : Prop := Claim7.holds Tryd.pinned (.plain (OpenSpec.ofChange sealRowsSpec)) sealRowsCard

/-- THE TIED CARD OF 'paybooklaw06.SealTurns'. -/
def sealTurnsCard : Claim7 := { stood := { row := sealTurnsRow, standIns := [], harness := (true, "ceaf55c9f6dfb4b4544a6ca2841e3023f4aaf1a9f5d351b8b0c4a44c4f19c77f"), looks := false }, kinds := [], alts := [], laidByText := true, laidKinds := [.data], laidTests := true, laidLooks := .later }
def SealTurnsCardSaid : Prop := Claim7.holds Tryd.pinned (.plain (OpenSpec.ofChange sealTurnsSpec)) sealTurnsCard

/-- THE TIED CARD OF 'paybooklaw06.SealOpens'. -/
def sealOpensCard : Claim7 := { stood := { row := sealOpensRow, standIns := [], harness := (true, "ceaf55c9f6dfb4b4544a6ca2841e3023f4aaf1a9f5d351b8b0c4a44c4f19c77f"), looks := false }, kinds := [], alts := [], laidByText := true, laidKinds := [.data], laidTests := true, laidLooks := .later }
def SealOpensCardSaid : Prop := Claim7.holds Tryd.pinned (.plain (OpenSpec.ofChange sealOpensSpec)) sealOpensCard

/-- THE TIED CARD OF 'paybooklaw06.SealCloses'. -/
def sealClosesCard : Claim7 := { stood := { row := sealClosesRow, standIns := [], harness := (true, "ceaf55c9f6dfb4b4544a6ca2841e3023f4aaf1a9f5d351b8b0c4a44c4f19c77f"), looks := false }, kinds := [], alts := [], laidByText := true, laidKinds := [.data], laidTests := true, laidLooks := .later }
def SealClosesCardSaid : Prop := Claim7.holds Tryd.pinned (.plain (OpenSpec.ofChange sealClosesSpec)) sealClosesCard

/-- THE SECOND FORM's CARD OF 'paybooklaw06.SealSums'. -/
def sealSumsUptoCard : Claim7 := { stood := { row := sealSumsUptoRow, standIns := [], harness := (true, "ceaf55c9f6dfb4b4544a6ca2841e3023f4aaf1a9f5d351b8b0c4a44c4f19c77f"), looks := false }, kinds := [], alts := [], laidByText := true, laidKinds := [.data], laidTests := true, laidLooks := .later }
def SealSumsUptoCardSaid : Prop := Claim7.holds Tryd.pinned (.plain (OpenSpec.upto sealSumsSpec)) sealSumsUptoCard

/-- THE SECOND FORM's CARD OF 'paybooklaw06.SealRows'. -/
def sealRowsUptoCard : Claim7 := { stood := { row := sealRowsUptoRow, standIns := [], harness := (true, "ceaf55c9f6dfb4b4544a6ca2841e3023f4aaf1a9f5d351b8b0c4a44c4f19c77f"), looks := false }, kinds := [], alts := [], laidByText := true, laidKinds := [.data], laidTests := true, laidLooks := .later }
def SealRowsUptoCardSaid : Prop := Claim7.holds Tryd.pinned (.plain (OpenSpec.upto sealRowsSpec)) sealRowsUptoCard

/-- THE SECOND FORM's CARD OF 'paybooklaw06.SealTurns'. -/
def sealTurnsUptoCard : Claim7 := { stood := { row := sealTurnsUptoRow, standIns := [], harness := (true, "ceaf55c9f6dfb4b4544a6ca2841e3023f4aaf1a9f5d351b8b0c4a44c4f19c77f"), looks := false }, kinds := [], alts := [], laidByText := true, laidKinds := [.data], laidTests := true, laidLooks := .later }
def SealTurnsUptoCardSaid : Prop := Claim7.holds Tryd.pinned (.plain (OpenSpec.upto sealTurnsSpec)) sealTurnsUptoCard

/-- THE SECOND FORM's CARD OF 'paybooklaw06.SealOpens'. -/
def sealOpensUptoCard : Claim7 := { stood := { row := sealOpensUptoRow, standIns := [], harness := (true, "ceaf55c9f6dfb4b4544a6ca2841e3023f4aaf1a9f5d351b8b0c4a44c4f19c77f"), looks := false }, kinds := [], alts := [], laidByText := true, laidKinds := [.data], laidTests := true, laidLooks := .later }
def SealOpensUptoCardSaid : Prop := Claim7.holds Tryd.pinned (.plain (OpenSpec.upto sealOpensSpec)) sealOpensUptoCard

/-- THE SECOND FORM's CARD OF 'paybooklaw06.SealCloses'. -/
def sealClosesUptoCard : Claim7 := { stood := { row := sealClosesUptoRow, standIns := [], harness := (true, "ceaf55c9f6dfb4b4544a6ca2841e3023f4aaf1a9f5d351b8b0c4a44c4f19c77f"), looks := false }, kinds := [], alts := [], laidByText := true, laidKinds := [.data], laidTests := true, laidLooks := .later }
def SealClosesUptoCardSaid : Prop := Claim7.holds Tryd.pinned (.plain (OpenSpec.upto sealClosesSpec)) sealClosesUptoCard
end Rows
end Go.Proofs.YtifefhdinnechaaDoor
