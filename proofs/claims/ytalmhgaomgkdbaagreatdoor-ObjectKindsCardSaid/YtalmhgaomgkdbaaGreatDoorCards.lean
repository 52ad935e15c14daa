/-
  DERIVED. GIVEN WITH THE SEED: THE CARDS: each row of YtalmhgaomgkdbaaGreatDoorRows.lean that lists a variable, with what it lists TIED to the program's text (the seventh form; the later family's looks); each row that meets fmt, with fmt's text TOLD by the authors' own Lean function (tested against real Go, not proved from fmt's source: count such statements apart). THE CARD IS WHAT COUNTS. Prove the row's statement (the work); the ties are given (YtalmhgaomgkdbaaGreatDoorTie.lean); close each card by the builder's one call (the guide's Derived/Test/ToyasCard.lean, 'card_holds'). Laid BY PROGRAM, IN A SANDBOX (cutbox-door.mjs). By AI agents, Wed Nov 11 2026. No macro, syntax, notation, axiom, sorry.
-/
import Derived.Test.YtalmhgaomgkdbaaGreatDoorRows
import GoSem.ClaimSeven
namespace Go.Proofs.YtalmhgaomgkdbaaGreatDoor
namespace Rows

/-- THE TIED CARD OF 'turnkeylaw22.ObjectKinds'. -/
def objectKindsCard : Claim7 := { stood := { row := objectKindsRow, standIns := [], harness := (true, "fd8e17d148f6d899378226a35537e420a845d5911c05d17543b191d28d3b943f"), looks := true }, kinds := [], alts := [], laidByText := true, laidKinds := [.sentinel, .sentinel, .sentinel, .sentinel, .sentinel, .sentinel, .sentinel, .sentinel, .sentinel], laidTests := true, laidLooks := .later }
def ObjectKindsCardSaid : Prop := Claim7.holds Tryz.pinned (.plain (OpenSpec.ofChange objectKindsSpec)) objectKindsCard

/-- THE TIED CARD OF 'turnkeylaw22.ObjectMeters'. -/
def objectMetersCard : Claim7 := { stood := { row := objectMetersRow, standIns := [], harness := (true, "fd8e17d148f6d899378226a35537e420a845d5911c05d17543b191d28d3b943f"), looks := true }, kinds := [], alts := [], laidByText := true, laidKinds := [.sentinel, .sentinel, .sentinel, .sentinel, .sentinel, .sentinel, .sentinel, .sentinel, .sentinel], laidTests := true, laidLooks := .later }
def ObjectMetersCardSaid : Prop := Claim7.holds Tryz.pinned (.plain (OpenSpec.ofChange objectMetersSpec)) objectMetersCard

/-- THE SECOND FORM's CARD OF 'turnkeylaw22.ObjectKinds'. -/
def objectKindsUptoCard : Claim7 := { stood := { row := objectKindsUptoRow, standIns := [], harness := (true, "fd8e17d148f6d899378226a35537e420a845d5911c05d17543b191d28d3b943f"), looks := true }, kinds := [], alts := [], laidByText := true, laidKinds := [.sentinel, .sentinel, .sentinel, .sentinel, .sentinel, .sentinel, .sentinel, .sentinel, .sentinel], laidTests := true, laidLooks := .later }
def ObjectKindsUptoCardSaid : Prop := Claim7.holds Tryz.pinned (.plain (OpenSpec.upto objectKindsSpec)) objectKindsUptoCard

/-- THE SECOND FORM's CARD OF 'turnkeylaw22.ObjectMeters'. -/
def objectMetersUptoCard : Claim7 := { stood := { row := objectMetersUptoRow, standIns := [], harness := (true, "fd8e17d148f6d899378226a35537e420a845d5911c05d17543b191d28d3b943f"), looks := true }, kinds := [], alts := [], laidByText := true, laidKinds := [.sentinel, .sentinel, .sentinel, .sentinel, .sentinel, .sentinel, .sentinel, .sentinel, .sentinel], laidTests := true, laidLooks := .later }
def ObjectMetersUptoCardSaid : Prop := Claim7.holds Tryz.pinned (.plain (OpenSpec.upto objectMetersSpec)) objectMetersUptoCard
end Rows
end Go.Proofs.YtalmhgaomgkdbaaGreatDoor
