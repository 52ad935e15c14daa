/-
  DERIVED. GIVEN WITH THE SEED: THE CARDS: each row of YtphhnhheedbjjaaGreatDoorRows.lean that lists a variable, with what it lists TIED to the program's text (the seventh form; the later family's looks); each row that meets fmt, with fmt's text TOLD by the authors' own Lean function (tested against real Go, not proved from fmt's source: count such statements apart). THE CARD IS WHAT COUNTS. Prove the row's statement (the work); the ties are given (YtphhnhheedbjjaaGreatDoorTie.lean); close each card by the builder's one call (the guide's Derived/Test/ToyasCard.lean, 'card_holds'). Laid BY PROGRAM, IN A SANDBOX (cutbox-door.mjs). By AI agents, Wed Nov 11 2026. No macro, syntax, notation, axiom, sorry.
-/
import Derived.Test.YtphhnhheedbjjaaGreatDoorRows
import GoSem.ClaimSeven
namespace Go.Proofs.YtphhnhheedbjjaaGreatDoor
namespace Rows

/-- THE TIED CARD OF 'turnkeylaw27.WorldAsks'. -/
def worldAsksCard : Claim7 := { stood := { row := worldAsksRow, standIns := [], harness := (true, "a55d5f7304af57247d5825fc7ba072f0f78d45596dc8591be6e9f09dc072fc2d"), looks := true }, kinds := [], alts := [], laidByText := true, laidKinds := [.data, .data, .data, .data, .sentinel, .sentinel, .sentinel, .sentinel, .sentinel, .sentinel, .sentinel, .sentinel, .sentinel, .sentinel, .sentinel, .sentinel, .sentinel, .pinned], laidTests := true, laidLooks := .later }
def WorldAsksCardSaid : Prop := Claim7.holds Tryz.pinned (.plain (OpenSpec.ofChange worldAsksSpec)) worldAsksCard

/-- THE TIED CARD OF 'turnkeylaw27.WorldTypes'. -/
def worldTypesCard : Claim7 := { stood := { row := worldTypesRow, standIns := [], harness := (true, "a55d5f7304af57247d5825fc7ba072f0f78d45596dc8591be6e9f09dc072fc2d"), looks := true }, kinds := [], alts := [], laidByText := true, laidKinds := [.data, .data, .data, .data, .sentinel, .sentinel, .sentinel, .sentinel, .sentinel, .sentinel, .sentinel, .sentinel, .sentinel, .sentinel, .sentinel, .sentinel, .sentinel, .pinned], laidTests := true, laidLooks := .later }
def WorldTypesCardSaid : Prop := Claim7.holds Tryz.pinned (.plain (OpenSpec.ofChange worldTypesSpec)) worldTypesCard

/-- THE SECOND FORM's CARD OF 'turnkeylaw27.WorldAsks'. -/
def worldAsksUptoCard : Claim7 := { stood := { row := worldAsksUptoRow, standIns := [], harness := (true, "a55d5f7304af57247d5825fc7ba072f0f78d45596dc8591be6e9f09dc072fc2d"), looks := true }, kinds := [], alts := [], laidByText := true, laidKinds := [.data, .data, .data, .data, .sentinel, .sentinel, .sentinel, .sentinel, .sentinel, .sentinel, .sentinel, .sentinel, .sentinel, .sentinel, .sentinel, .sentinel, .sentinel, .pinned], laidTests := true, laidLooks := .later }
def WorldAsksUptoCardSaid : Prop := Claim7.holds Tryz.pinned (.plain (OpenSpec.upto worldAsksSpec)) worldAsksUptoCard

/-- THE SECOND FORM's CARD OF 'turnkeylaw27.WorldTypes'. -/
def worldTypesUptoCard : Claim7 := { stood := { row := worldTypesUptoRow, standIns := [], harness := (true, "a55d5f7304af57247d5825fc7ba072f0f78d45596dc8591be6e9f09dc072fc2d"), looks := true }, kinds := [], alts := [], laidByText := true, laidKinds := [.data, .data, .data, .data, .sentinel, .sentinel, .sentinel, .sentinel, .sentinel, .sentinel, .sentinel, .sentinel, .sentinel, .sentinel, .sentinel, .sentinel, .sentinel, .pinned], laidTests := true, laidLooks := .later }
def WorldTypesUptoCardSaid : Prop := Claim7.holds Tryz.pinned (.plain (OpenSpec.upto worldTypesSpec)) worldTypesUptoCard
end Rows
end Go.Proofs.YtphhnhheedbjjaaGreatDoor
