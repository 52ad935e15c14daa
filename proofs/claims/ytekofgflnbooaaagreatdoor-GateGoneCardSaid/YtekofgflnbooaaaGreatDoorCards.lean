/-
  DERIVED. GIVEN WITH THE SEED: THE CARDS: each row of YtekofgflnbooaaaGreatDoorRows.lean that lists a variable, with what it lists TIED to the program's text (the seventh form; the later family's looks); each row that meets fmt, with fmt's text TOLD by the authors' own Lean function (tested against real Go, not proved from fmt's source: count such statements apart). THE CARD IS WHAT COUNTS. Prove the row's statement (the work); the ties are given (YtekofgflnbooaaaGreatDoorTie.lean); close each card by the builder's one call (the guide's Derived/Test/ToyasCard.lean, 'card_holds'). Laid BY PROGRAM, IN A SANDBOX (cutbox-door.mjs). By AI agents, Wed Nov 11 2026. No macro, syntax, notation, axiom, sorry.
-/
import Derived.Test.YtekofgflnbooaaaGreatDoorRows
import GoSem.ClaimSeven
namespace Go.Proofs.YtekofgflnbooaaaGreatDoor
namespace Rows

/-- THE TIED CARD OF 'turnkeylaw23.GateGone'. -/
def gateGoneCard : Claim7 := { stood := { row := gateGoneRow, standIns := [], harness := (true, "a59b3001dd820df285910b8bf1255f36bfa3633c8db24499a35dc62253e8cd8d"), looks := true }, kinds := [], alts := [], laidByText := true, laidKinds := [.sentinel, .sentinel, .sentinel, .sentinel, .sentinel, .sentinel, .sentinel, .sentinel, .sentinel], laidTests := true, laidLooks := .later }
def GateGoneCardSaid : Prop := Claim7.holds Tryz.pinned (.plain (OpenSpec.ofChange gateGoneSpec)) gateGoneCard

/-- THE SECOND FORM's CARD OF 'turnkeylaw23.GateGone'. -/
def gateGoneUptoCard : Claim7 := { stood := { row := gateGoneUptoRow, standIns := [], harness := (true, "a59b3001dd820df285910b8bf1255f36bfa3633c8db24499a35dc62253e8cd8d"), looks := true }, kinds := [], alts := [], laidByText := true, laidKinds := [.sentinel, .sentinel, .sentinel, .sentinel, .sentinel, .sentinel, .sentinel, .sentinel, .sentinel], laidTests := true, laidLooks := .later }
def GateGoneUptoCardSaid : Prop := Claim7.holds Tryz.pinned (.plain (OpenSpec.upto gateGoneSpec)) gateGoneUptoCard
end Rows
end Go.Proofs.YtekofgflnbooaaaGreatDoor
