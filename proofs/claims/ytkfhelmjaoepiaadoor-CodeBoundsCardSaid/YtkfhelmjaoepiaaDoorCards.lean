/-
  DERIVED. GIVEN WITH THE SEED: THE CARDS: each row of YtkfhelmjaoepiaaDoorRows.lean that lists a variable, with what it lists TIED to the program's text (the seventh form; the later family's looks); each row that meets fmt, with fmt's text TOLD by the authors' own Lean function (tested against real Go, not proved from fmt's source: count such statements apart). THE CARD IS WHAT COUNTS. Prove the row's statement (the work); the ties are given (YtkfhelmjaoepiaaDoorTie.lean); close each card by the builder's one call (the guide's Derived/Test/ToyasCard.lean, 'card_holds'). Laid BY PROGRAM, IN A SANDBOX (cutbox-door.mjs). By AI agents, Wed Nov 11 2026. No macro, syntax, notation, axiom, sorry.
-/
import Derived.Test.YtkfhelmjaoepiaaDoorRows
import GoSem.ClaimSeven
namespace Go.Proofs.YtkfhelmjaoepiaaDoor
namespace Rows

/-- THE TIED CARD OF 'turnkeylaw26.BootRoom'. -/
def bootRoomCard : Claim7 := { stood := { row := bootRoomRow, standIns := [], harness := (true, "7f9418fb12160b5a94cd86fb35a3c3ad2bce00b8b8b612587349314d4731e180"), looks := true }, kinds := [], alts := [], laidByText := true, laidKinds := [.sentinel, .sentinel, .sentinel, .sentinel, .sentinel, .sentinel, .sentinel, .sentinel, .sentinel, .sentinel, .sentinel, .sentinel], laidTests := true, laidLooks := .later }
def BootRoomCardSaid : Prop := Claim7.holds Tryd.pinned (.plain (OpenSpec.ofChange bootRoomSpec)) bootRoomCard

/-- THE TIED CARD OF 'turnkeylaw14.CodeBounds'. -/
def codeBoundsCard : Claim7 := { stood := { row := codeBoundsRow, standIns := [], harness := (true, "7f9418fb12160b5a94cd86fb35a3c3ad2bce00b8b8b612587349314d4731e180"), looks := true }, kinds := [], alts := [], laidByText := true, laidKinds := [.data, .data, .data, .data, .sentinel, .sentinel, .pinned], laidTests := true, laidLooks := .later }
def CodeBoundsCardSaid : Prop := Claim7.holds Tryd.pinned (.plain (OpenSpec.ofChange codeBoundsSpec)) codeBoundsCard

/-- THE SECOND FORM's CARD OF 'turnkeylaw26.BootRoom'. -/
def bootRoomUptoCard : Claim7 := { stood := { row := bootRoomUptoRow, standIns := [], harness := (true, "7f9418fb12160b5a94cd86fb35a3c3ad2bce00b8b8b612587349314d4731e180"), looks := true }, kinds := [], alts := [], laidByText := true, laidKinds := [.sentinel, .sentinel, .sentinel, .sentinel, .sentinel, .sentinel, .sentinel, .sentinel, .sentinel, .sentinel, .sentinel, .sentinel], laidTests := true, laidLooks := .later }
def BootRoomUptoCardSaid : Prop := Claim7.holds Tryd.pinned (.plain (OpenSpec.upto bootRoomSpec)) bootRoomUptoCard

/-- THE SECOND FORM's CARD OF 'turnkeylaw14.CodeBounds'. -/
def codeBoundsUptoCard : Claim7 := { stood := { row := codeBoundsUptoRow, standIns := [], harness := (true, "7f9418fb12160b5a94cd86fb35a3c3ad2bce00b8b8b612587349314d4731e180"), looks := true }, kinds := [], alts := [], laidByText := true, laidKinds := [.data, .data, .data, .data, .sentinel, .sentinel, .pinned], laidTests := true, laidLooks := .later }
def CodeBoundsUptoCardSaid : Prop := Claim7.holds Tryd.pinned (.plain (OpenSpec.upto codeBoundsSpec)) codeBoundsUptoCard
end Rows
end Go.Proofs.YtkfhelmjaoepiaaDoor
