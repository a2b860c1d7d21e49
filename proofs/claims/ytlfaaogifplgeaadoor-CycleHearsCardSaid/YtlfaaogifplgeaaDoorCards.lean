/-
  DERIVED. GIVEN WITH THE SEED: THE CARDS: each row of YtlfaaogifplgeaaDoorRows.lean that lists a variable, with what it lists TIED to the program's text (the seventh form; the later family's looks); each row that meets fmt, with fmt's text TOLD by the authors' own Lean function (tested against real Go, not proved from fmt's source: count such statements apart). THE CARD IS WHAT COUNTS. Prove the row's statement (the work); the ties are given (YtlfaaogifplgeaaDoorTie.lean); close each card by the builder's one call (the guide's Derived/Test/ToyasCard.lean, 'card_holds'). Laid BY PROGRAM, IN A SANDBOX (cutbox-door.mjs). By AI agents, Wed Nov 11 2026. No macro, syntax, notation, axiom, sorry.
-/
import Derived.Test.YtlfaaogifplgeaaDoorRows
import GoSem.ClaimSeven
namespace Go.Proofs.YtlfaaogifplgeaaDoor
namespace Rows

/-- THE TIED CARD OF 'paybooklaw12.CycleAsks'. -/
def cycleAsksCard : Claim7 := { stood := { row := cycleAsksRow, standIns := [], harness := (true, "c0b450021b5724cdd5fcc543ed3ab2a7ef1393a0941d6d60aa54a65d187b88ea"), looks := false }, kinds := [], alts := [], laidByText := true, laidKinds := [.data], laidTests := true, laidLooks := .later }
def CycleAsksCardSaid : Prop := Claim7.holds Tryd.pinned (.plain (OpenSpec.ofChange cycleAsksSpec)) cycleAsksCard

/-- THE TIED CARD OF 'paybooklaw12.CycleHears'. -/
def cycleHearsCard : Claim7 := { stood := { row := cycleHearsRow, standIns := [], harness := (true, "c0b450021b5724cdd5fcc543ed3ab2a7ef1393a0941d6d60aa54a65d187b88ea"), looks := false }, kinds := [], alts := [], laidByText := true, laidKinds := [.data], laidTests := true, laidLooks := .later }
def CycleHearsCardSaid : Prop := Claim7.holds Tryd.pinned (.plain (OpenSpec.ofChange cycleHearsSpec)) cycleHearsCard

/-- THE TIED CARD OF 'paybooklaw12.CycleOld'. -/
def cycleOldCard : Claim7 := { stood := { row := cycleOldRow, standIns := [], harness := (true, "c0b450021b5724cdd5fcc543ed3ab2a7ef1393a0941d6d60aa54a65d187b88ea"), looks := false }, kinds := [], alts := [], laidByText := true, laidKinds := [.data], laidTests := true, laidLooks := .later }
def CycleOldCardSaid : Prop := Claim7.holds Tryd.pinned (.plain (OpenSpec.ofChange cycleOldSpec)) cycleOldCard

/-- THE TIED CARD OF 'paybooklaw12.CycleBegins'. -/
def cycleBeginsCard : Claim7 := { stood := { row := cycleBeginsRow, standIns := [], harness := (true, "c0b450021b5724cdd5fcc543ed3ab2a7ef1393a0941d6d60aa54a65d187b88ea"), looks := false }, kinds := [], alts := [], laidByText := true, laidKinds := [.data], laidTests := true, laidLooks := .later }
def CycleBeginsCardSaid : Prop := Claim7.holds Tryd.pinned (.plain (OpenSpec.ofChange cycleBeginsSpec)) cycleBeginsCard

/-- THE TIED CARD OF 'paybooklaw12.CycleEnds'. -/
def cycleEndsCard : Claim7 := { stood := { row := cycleEndsRow, standIns := [], harness := (true, "c0b450021b5724cdd5fcc543ed3ab2a7ef1393a0941d6d60aa54a65d187b88ea"), looks := false }, kinds := [], alts := [], laidByText := true, laidKinds := [.data], laidTests := true, laidLooks := .later }
def CycleEndsCardSaid : Prop := Claim7.holds Tryd.pinned (.plain (OpenSpec.ofChange cycleEndsSpec)) cycleEndsCard

/-- THE TIED CARD OF 'paybooklaw12.CycleNames'. -/
def cycleNamesCard : Claim7 := { stood := { row := cycleNamesRow, standIns := [], harness := (true, "c0b450021b5724cdd5fcc543ed3ab2a7ef1393a0941d6d60aa54a65d187b88ea"), looks := false }, kinds := [], alts := [], laidByText := true, laidKinds := [.data], laidTests := true, laidLooks := .later }
def CycleNamesCardSaid : Prop := Claim7.holds Tryd.pinned (.plain (OpenSpec.ofChange cycleNamesSpec)) cycleNamesCard

/-- THE TIED CARD OF 'paybooklaw12.CycleLadder'. -/
def cycleLadderCard : Claim7 := { stood := { row := cycleLadderRow, standIns := [], harness := (true, "c0b450021b5724cdd5fcc543ed3ab2a7ef1393a0941d6d60aa54a65d187b88ea"), looks := false }, kinds := [], alts := [], laidByText := true, laidKinds := [.data], laidTests := true, laidLooks := .later }
def CycleLadderCardSaid : Prop := Claim7.holds Tryd.pinned (.plain (OpenSpec.ofChange cycleLadderSpec)) cycleLadderCard

/-- THE TIED CARD OF 'paybooklaw12.CycleWakes'. -/
def cycleWakesCard : Claim7 := { stood := { row := cycleWakesRow, standIns := [], harness := (true, "c0b450021b5724cdd5fcc543ed3ab2a7ef1393a0941d6d60aa54a65d187b88ea"), looks := false }, kinds := [], alts := [], laidByText := true, laidKinds := [.data], laidTests := true, laidLooks := .later }
def CycleWakesCardSaid : Prop := Claim7.holds Tryd.pinned (.plain (OpenSpec.ofChange cycleWakesSpec)) cycleWakesCard

/-- THE TIED CARD OF 'paybooklaw12.CycleKeeps'. -/
def cycleKeepsCard : Claim7 := { stood := { row := cycleKeepsRow, standIns := [], harness := (true, "c0b450021b5724cdd5fcc543ed3ab2a7ef1393a0941d6d60aa54a65d187b88ea"), looks := false }, kinds := [], alts := [], laidByText := true, laidKinds := [.data], laidTests := true, laidLooks := .later }
def CycleKeepsCardSaid : Prop := Claim7.holds Tryd.pinned (.plain (OpenSpec.ofChange cycleKeepsSpec)) cycleKeepsCard

/-- THE SECOND FORM's CARD OF 'paybooklaw12.CycleAsks'. -/
def cycleAsksUptoCard : Claim7 := { stood := { row := cycleAsksUptoRow, standIns := [], harness := (true, "c0b450021b5724cdd5fcc543ed3ab2a7ef1393a0941d6d60aa54a65d187b88ea"), looks := false }, kinds := [], alts := [], laidByText := true, laidKinds := [.data], laidTests := true, laidLooks := .later }
def CycleAsksUptoCardSaid : Prop := Claim7.holds Tryd.pinned (.plain (OpenSpec.upto cycleAsksSpec)) cycleAsksUptoCard

/-- THE SECOND FORM's CARD OF 'paybooklaw12.CycleHears'. -/
def cycleHearsUptoCard : Claim7 := { stood := { row := cycleHearsUptoRow, standIns := [], harness := (true, "c0b450021b5724cdd5fcc543ed3ab2a7ef1393a0941d6d60aa54a65d187b88ea"), looks := false }, kinds := [], alts := [], laidByText := true, laidKinds := [.data], laidTests := true, laidLooks := .later }
def CycleHearsUptoCardSaid : Prop := Claim7.holds Tryd.pinned (.plain (OpenSpec.upto cycleHearsSpec)) cycleHearsUptoCard

/-- THE SECOND FORM's CARD OF 'paybooklaw12.CycleOld'. -/
def cycleOldUptoCard : Claim7 := { stood := { row := cycleOldUptoRow, standIns := [], harness := (true, "c0b450021b5724cdd5fcc543ed3ab2a7ef1393a0941d6d60aa54a65d187b88ea"), looks := false }, kinds := [], alts := [], laidByText := true, laidKinds := [.data], laidTests := true, laidLooks := .later }
def CycleOldUptoCardSaid : Prop := Claim7.holds Tryd.pinned (.plain (OpenSpec.upto cycleOldSpec)) cycleOldUptoCard

/-- THE SECOND FORM's CARD OF 'paybooklaw12.CycleBegins'. -/
def cycleBeginsUptoCard : Claim7 := { stood := { row := cycleBeginsUptoRow, standIns := [], harness := (true, "c0b450021b5724cdd5fcc543ed3ab2a7ef1393a0941d6d60aa54a65d187b88ea"), looks := false }, kinds := [], alts := [], laidByText := true, laidKinds := [.data], laidTests := true, laidLooks := .later }
def CycleBeginsUptoCardSaid : Prop := Claim7.holds Tryd.pinned (.plain (OpenSpec.upto cycleBeginsSpec)) cycleBeginsUptoCard

/-- THE SECOND FORM's CARD OF 'paybooklaw12.CycleEnds'. -/
def cycleEndsUptoCard : Claim7 := { stood := { row := cycleEndsUptoRow, standIns := [], harness := (true, "c0b450021b5724cdd5fcc543ed3ab2a7ef1393a0941d6d60aa54a65d187b88ea"), looks := false }, kinds := [], alts := [], laidByText := true, laidKinds := [.data], laidTests := true, laidLooks := .later }
def CycleEndsUptoCardSaid : Prop := Claim7.holds Tryd.pinned (.plain (OpenSpec.upto cycleEndsSpec)) cycleEndsUptoCard

/-- THE SECOND FORM's CARD OF 'paybooklaw12.CycleNames'. -/
def cycleNamesUptoCard : Claim7 := { stood := { row := cycleNamesUptoRow, standIns := [], harness := (true, "c0b450021b5724cdd5fcc543ed3ab2a7ef1393a0941d6d60aa54a65d187b88ea"), looks := false }, kinds := [], alts := [], laidByText := true, laidKinds := [.data], laidTests := true, laidLooks := .later }
def CycleNamesUptoCardSaid : Prop := Claim7.holds Tryd.pinned (.plain (OpenSpec.upto cycleNamesSpec)) cycleNamesUptoCard

/-- THE SECOND FORM's CARD OF 'paybooklaw12.CycleLadder'. -/
def cycleLadderUptoCard : Claim7 := { stood := { row := cycleLadderUptoRow, standIns := [], harness := (true, "c0b450021b5724cdd5fcc543ed3ab2a7ef1393a0941d6d60aa54a65d187b88ea"), looks := false }, kinds := [], alts := [], laidByText := true, laidKinds := [.data], laidTests := true, laidLooks := .later }
def CycleLadderUptoCardSaid : Prop := Claim7.holds Tryd.pinned (.plain (OpenSpec.upto cycleLadderSpec)) cycleLadderUptoCard

/-- THE SECOND FORM's CARD OF 'paybooklaw12.CycleWakes'. -/
def cycleWakesUptoCard : Claim7 := { stood := { row := cycleWakesUptoRow, standIns := [], harness := (true, "c0b450021b5724cdd5fcc543ed3ab2a7ef1393a0941d6d60aa54a65d187b88ea"), looks := false }, kinds := [], alts := [], laidByText := true, laidKinds := [.data], laidTests := true, laidLooks := .later }
def CycleWakesUptoCardSaid : Prop := Claim7.holds Tryd.pinned (.plain (OpenSpec.upto cycleWakesSpec)) cycleWakesUptoCard

/-- THE SECOND FORM's CARD OF 'paybooklaw12.CycleKeeps'. -/
def cycleKeepsUptoCard : Claim7 := { stood := { row := cycleKeepsUptoRow, standIns := [], harness := (true, "c0b450021b5724cdd5fcc543ed3ab2a7ef1393a0941d6d60aa54a65d187b88ea"), looks := false }, kinds := [], alts := [], laidByText := true, laidKinds := [.data], laidTests := true, laidLooks := .later }
def CycleKeepsUptoCardSaid : Prop := Claim7.holds Tryd.pinned (.plain (OpenSpec.upto cycleKeepsSpec)) cycleKeepsUptoCard
end Rows
end Go.Proofs.YtlfaaogifplgeaaDoor
