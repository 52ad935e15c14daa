/-
  DERIVED. GIVEN WITH THE SEED: THE CARDS: each row of YtkfhelmjaoepiabGreatDoorRows.lean that lists a variable, with what it lists TIED to the program's text (the seventh form; the later family's looks); each row that meets fmt, with fmt's text TOLD by the authors' own Lean function (tested against real Go, not proved from fmt's source: count such statements apart). THE CARD IS WHAT COUNTS. Prove the row's statement (the work); the ties are given (YtkfhelmjaoepiabGreatDoorTie.lean); close each card by the builder's one call (the guide's Derived/Test/ToyasCard.lean, 'card_holds'). Laid BY PROGRAM, IN A SANDBOX (cutbox-door.mjs). By AI agents, Wed Nov 11 2026. No macro, syntax, notation, axiom, sorry.
-/
import Derived.Test.YtkfhelmjaoepiabGreatDoorRows
import GoSem.ClaimSeven
namespace Go.Proofs.YtkfhelmjaoepiabGreatDoor
namespace Rows

/-- THE TIED CARD OF 'turnkeylaw27.WorldFills'. -/
def worldFillsCard : Claim7 := { stood := { row := worldFillsRow, standIns := [], harness := (true, "e4266e1e5e2bf34e6e151a9454da8ad2be2e87c156a6860dfc4654ba74632656"), looks := true }, kinds := [], alts := [], laidByText := true, laidKinds := [.data, .data, .data, .data, .sentinel, .sentinel, .sentinel, .sentinel, .sentinel, .sentinel, .sentinel, .sentinel, .sentinel, .sentinel, .sentinel, .sentinel, .sentinel, .pinned], laidTests := true, laidLooks := .later }
def WorldFillsCardSaid : Prop := Claim7.holds Tryz.pinned (.plain (OpenSpec.ofChange worldFillsSpec)) worldFillsCard

/-- THE TIED CARD OF 'turnkeylaw27.WorldKeeps'. -/
def worldKeepsCard : Claim7 := { stood := { row := worldKeepsRow, standIns := [], harness := (true, "e4266e1e5e2bf34e6e151a9454da8ad2be2e87c156a6860dfc4654ba74632656"), looks := true }, kinds := [], alts := [], laidByText := true, laidKinds := [.data, .data, .data, .data, .sentinel, .sentinel, .sentinel, .sentinel, .sentinel, .sentinel, .sentinel, .sentinel, .sentinel, .sentinel, .sentinel, .sentinel, .sentinel, .pinned], laidTests := true, laidLooks := .later }
def WorldKeepsCardSaid : Prop := Claim7.holds Tryz.pinned (.plain (OpenSpec.ofChange worldKeepsSpec)) worldKeepsCard

/-- THE TIED CARD OF 'turnkeytop.WholeGiven'. -/
def wholeGivenCard : Claim7 := { stood := { row := wholeGivenRow, standIns := [], harness := (true, "e4266e1e5e2bf34e6e151a9454da8ad2be2e87c156a6860dfc4654ba74632656"), looks := true }, kinds := [], alts := [], laidByText := true, laidKinds := [.data, .data, .data, .data, .sentinel, .sentinel, .sentinel, .sentinel, .sentinel, .sentinel, .sentinel, .sentinel, .sentinel, .sentinel, .sentinel, .sentinel, .sentinel, .pinned], laidTests := true, laidLooks := .later }
def WholeGivenCardSaid : Prop := Claim7.holds Tryz.pinned (.plain (OpenSpec.ofChange wholeGivenSpec)) wholeGivenCard

/-- THE TIED CARD OF 'turnkeylaw28.DeskErrors'. -/
def deskErrorsCard : Claim7 := { stood := { row := deskErrorsRow, standIns := [], harness := (true, "e4266e1e5e2bf34e6e151a9454da8ad2be2e87c156a6860dfc4654ba74632656"), looks := true }, kinds := [], alts := [], laidByText := true, laidKinds := [.data, .data, .data, .data, .sentinel, .sentinel, .sentinel, .sentinel, .sentinel, .sentinel, .sentinel, .sentinel, .sentinel, .sentinel, .sentinel, .sentinel, .sentinel, .sentinel, .pinned], laidTests := true, laidLooks := .later }
def DeskErrorsCardSaid : Prop := Claim7.holds Tryz.pinned (.plain (OpenSpec.ofChange deskErrorsSpec)) deskErrorsCard

/-- THE SECOND FORM's CARD OF 'turnkeylaw27.WorldFills'. -/
def worldFillsUptoCard : Claim7 := { stood := { row := worldFillsUptoRow, standIns := [], harness := (true, "e4266e1e5e2bf34e6e151a9454da8ad2be2e87c156a6860dfc4654ba74632656"), looks := true }, kinds := [], alts := [], laidByText := true, laidKinds := [.data, .data, .data, .data, .sentinel, .sentinel, .sentinel, .sentinel, .sentinel, .sentinel, .sentinel, .sentinel, .sentinel, .sentinel, .sentinel, .sentinel, .sentinel, .pinned], laidTests := true, laidLooks := .later }
def WorldFillsUptoCardSaid : Prop := Claim7.holds Tryz.pinned (.plain (OpenSpec.upto worldFillsSpec)) worldFillsUptoCard

/-- THE SECOND FORM's CARD OF 'turnkeylaw27.WorldKeeps'. -/
def worldKeepsUptoCard : Claim7 := { stood := { row := worldKeepsUptoRow, standIns := [], harness := (true, "e4266e1e5e2bf34e6e151a9454da8ad2be2e87c156a6860dfc4654ba74632656"), looks := true }, kinds := [], alts := [], laidByText := true, laidKinds := [.data, .data, .data, .data, .sentinel, .sentinel, .sentinel, .sentinel, .sentinel, .sentinel, .sentinel, .sentinel, .sentinel, .sentinel, .sentinel, .sentinel, .sentinel, .pinned], laidTests := true, laidLooks := .later }
def WorldKeepsUptoCardSaid : Prop := Claim7.holds Tryz.pinned (.plain (OpenSpec.upto worldKeepsSpec)) worldKeepsUptoCard

/-- THE SECOND FORM's CARD OF 'turnkeytop.WholeGiven'. -/
def wholeGivenUptoCard : Claim7 := { stood := { row := wholeGivenUptoRow, standIns := [], harness := (true, "e4266e1e5e2bf34e6e151a9454da8ad2be2e87c156a6860dfc4654ba74632656"), looks := true }, kinds := [], alts := [], laidByText := true, laidKinds := [.data, .data, .data, .data, .sentinel, .sentinel, .sentinel, .sentinel, .sentinel, .sentinel, .sentinel, .sentinel, .sentinel, .sentinel, .sentinel, .sentinel, .sentinel, .pinned], laidTests := true, laidLooks := .later }
def WholeGivenUptoCardSaid : Prop := Claim7.holds Tryz.pinned (.plain (OpenSpec.upto wholeGivenSpec)) wholeGivenUptoCard

/-- THE SECOND FORM's CARD OF 'turnkeylaw28.DeskErrors'. -/
def deskErrorsUptoCard : Claim7 := { stood := { row := deskErrorsUptoRow, standIns := [], harness := (true, "e4266e1e5e2bf34e6e151a9454da8ad2be2e87c156a6860dfc4654ba74632656"), looks := true }, kinds := [], alts := [], laidByText := true, laidKinds := [.data, .data, .data, .data, .sentinel, .sentinel, .sentinel, .sentinel, .sentinel, .sentinel, .sentinel, .sentinel, .sentinel, .sentinel, .sentinel, .sentinel, .sentinel, .sentinel, .pinned], laidTests := true, laidLooks := .later }
def DeskErrorsUptoCardSaid : Prop := Claim7.holds Tryz.pinned (.plain (OpenSpec.upto deskErrorsSpec)) deskErrorsUptoCard
end Rows
end Go.Proofs.YtkfhelmjaoepiabGreatDoor
