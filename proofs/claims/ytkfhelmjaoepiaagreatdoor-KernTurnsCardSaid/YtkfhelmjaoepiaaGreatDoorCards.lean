/-
  DERIVED. GIVEN WITH THE SEED: THE CARDS: each row of YtkfhelmjaoepiaaGreatDoorRows.lean that lists a variable, with what it lists TIED to the program's text (the seventh form; the later family's looks); each row that meets fmt, with fmt's text TOLD by the authors' own Lean function (tested against real Go, not proved from fmt's source: count such statements apart). THE CARD IS WHAT COUNTS. Prove the row's statement (the work); the ties are given (YtkfhelmjaoepiaaGreatDoorTie.lean); close each card by the builder's one call (the guide's Derived/Test/ToyasCard.lean, 'card_holds'). Laid BY PROGRAM, IN A SANDBOX (cutbox-door.mjs). By AI agents, Wed Nov 11 2026. No macro, syntax, notation, axiom, sorry.
-/
import Derived.Test.YtkfhelmjaoepiaaGreatDoorRows
import GoSem.ClaimSeven
namespace Go.Proofs.YtkfhelmjaoepiaaGreatDoor
namespace Rows

/-- THE TIED CARD OF 'turnkeylaw24.KernTurns'. -/
def kernTurnsCard : Claim7 := { stood := { row := kernTurnsRow, standIns := [], harness := (true, "bfc96ca2865d699f5295bea99b08145a9d8518553aa4b9959628dbefbc8e6df6"), looks := true }, kinds := [], alts := [], laidByText := true, laidKinds := [.sentinel, .sentinel, .sentinel, .sentinel, .sentinel, .sentinel, .sentinel, .sentinel, .sentinel, .sentinel], laidTests := true, laidLooks := .later }
def KernTurnsCardSaid : Prop := Claim7.holds Tryz.pinned (.plain (OpenSpec.ofChange kernTurnsSpec)) kernTurnsCard

/-- THE TIED CARD OF 'turnkeylaw24.KernTicks'. -/
def kernTicksCard : Claim7 := { stood := { row := kernTicksRow, standIns := [], harness := (true, "bfc96ca2865d699f5295bea99b08145a9d8518553aa4b9959628dbefbc8e6df6"), looks := true }, kinds := [], alts := [], laidByText := true, laidKinds := [.sentinel, .sentinel, .sentinel, .sentinel, .sentinel, .sentinel, .sentinel, .sentinel, .sentinel, .sentinel], laidTests := true, laidLooks := .later }
def KernTicksCardSaid : Prop := Claim7.holds Tryz.pinned (.plain (OpenSpec.ofChange kernTicksSpec)) kernTicksCard

/-- THE SECOND FORM's CARD OF 'turnkeylaw24.KernTurns'. -/
def kernTurnsUptoCard : Claim7 := { stood := { row := kernTurnsUptoRow, standIns := [], harness := (true, "bfc96ca2865d699f5295bea99b08145a9d8518553aa4b9959628dbefbc8e6df6"), looks := true }, kinds := [], alts := [], laidByText := true, laidKinds := [.sentinel, .sentinel, .sentinel, .sentinel, .sentinel, .sentinel, .sentinel, .sentinel, .sentinel, .sentinel], laidTests := true, laidLooks := .later }
def KernTurnsUptoCardSaid : Prop := Claim7.holds Tryz.pinned (.plain (OpenSpec.upto kernTurnsSpec)) kernTurnsUptoCard

/-- THE SECOND FORM's CARD OF 'turnkeylaw24.KernTicks'. -/
def kernTicksUptoCard : Claim7 := { stood := { row := kernTicksUptoRow, standIns := [], harness := (true, "bfc96ca2865d699f5295bea99b08145a9d8518553aa4b9959628dbefbc8e6df6"), looks := true }, kinds := [], alts := [], laidByText := true, laidKinds := [.sentinel, .sentinel, .sentinel, .sentinel, .sentinel, .sentinel, .sentinel, .sentinel, .sentinel, .sentinel], laidTests := true, laidLooks := .later }
def KernTicksUptoCardSaid : Prop := Claim7.holds Tryz.pinned (.plain (OpenSpec.upto kernTicksSpec)) kernTicksUptoCard
end Rows
end Go.Proofs.YtkfhelmjaoepiaaGreatDoor
