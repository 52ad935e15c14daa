/-
  DERIVED. GIVEN WITH THE SEED: THE CARDS: each row of YtmafpninhndlnaaGreatDoorRows.lean that lists a variable, with what it lists TIED to the program's text (the seventh form; the later family's looks); each row that meets fmt, with fmt's text TOLD by the authors' own Lean function (tested against real Go, not proved from fmt's source: count such statements apart). THE CARD IS WHAT COUNTS. Prove the row's statement (the work); the ties are given (YtmafpninhndlnaaGreatDoorTie.lean); close each card by the builder's one call (the guide's Derived/Test/ToyasCard.lean, 'card_holds'). Laid BY PROGRAM, IN A SANDBOX (cutbox-door.mjs). By AI agents, Wed Nov 11 2026. No macro, syntax, notation, axiom, sorry.
-/
import Derived.Test.YtmafpninhndlnaaGreatDoorRows
import GoSem.ClaimSeven
namespace Go.Proofs.YtmafpninhndlnaaGreatDoor
namespace Rows

/-- THE TIED CARD OF 'turnkeytop.WholeNests'. -/
def wholeNestsCard : Claim7 := { stood := { row := wholeNestsRow, standIns := [], harness := (true, "54ce9cc43cd1c0c090c5adefb401ad0f481f739f645e14fcb1dbee2e9120d0ab"), looks := true }, kinds := [], alts := [], laidByText := true, laidKinds := [.data, .data, .data, .data, .sentinel, .sentinel, .sentinel, .sentinel, .sentinel, .sentinel, .sentinel, .sentinel, .sentinel, .sentinel, .sentinel, .sentinel, .sentinel, .pinned], laidTests := true, laidLooks := .later }
def WholeNestsCardSaid : Prop := Claim7.holds Tryz.pinned (.plain (OpenSpec.ofChange wholeNestsSpec)) wholeNestsCard

/-- THE TIED CARD OF 'turnkeylaw27.WorldServes'. -/
def worldServesCard : Claim7 := { stood := { row := worldServesRow, standIns := [], harness := (true, "54ce9cc43cd1c0c090c5adefb401ad0f481f739f645e14fcb1dbee2e9120d0ab"), looks := true }, kinds := [], alts := [], laidByText := true, laidKinds := [.data, .data, .data, .data, .sentinel, .sentinel, .sentinel, .sentinel, .sentinel, .sentinel, .sentinel, .sentinel, .sentinel, .sentinel, .sentinel, .sentinel, .sentinel, .pinned], laidTests := true, laidLooks := .later }
def WorldServesCardSaid : Prop := Claim7.holds Tryz.pinned (.plain (OpenSpec.ofChange worldServesSpec)) worldServesCard

/-- THE TIED CARD OF 'turnkeylaw27.WorldEnds'. -/
def worldEndsCard : Claim7 := { stood := { row := worldEndsRow, standIns := [], harness := (true, "54ce9cc43cd1c0c090c5adefb401ad0f481f739f645e14fcb1dbee2e9120d0ab"), looks := true }, kinds := [], alts := [], laidByText := true, laidKinds := [.data, .data, .data, .data, .sentinel, .sentinel, .sentinel, .sentinel, .sentinel, .sentinel, .sentinel, .sentinel, .sentinel, .sentinel, .sentinel, .sentinel, .sentinel, .pinned], laidTests := true, laidLooks := .later }
def WorldEndsCardSaid : Prop := Claim7.holds Tryz.pinned (.plain (OpenSpec.ofChange worldEndsSpec)) worldEndsCard

/-- THE TIED CARD OF 'turnkeylaw24.KernRuns'. -/
def kernRunsCard : Claim7 := { stood := { row := kernRunsRow, standIns := [], harness := (true, "54ce9cc43cd1c0c090c5adefb401ad0f481f739f645e14fcb1dbee2e9120d0ab"), looks := true }, kinds := [], alts := [], laidByText := true, laidKinds := [.sentinel, .sentinel, .sentinel, .sentinel, .sentinel, .sentinel, .sentinel, .sentinel, .sentinel, .sentinel], laidTests := true, laidLooks := .later }
def KernRunsCardSaid : Prop := Claim7.holds Tryz.pinned (.plain (OpenSpec.ofChange kernRunsSpec)) kernRunsCard

/-- THE SECOND FORM's CARD OF 'turnkeytop.WholeNests'. -/
def wholeNestsUptoCard : Claim7 := { stood := { row := wholeNestsUptoRow, standIns := [], harness := (true, "54ce9cc43cd1c0c090c5adefb401ad0f481f739f645e14fcb1dbee2e9120d0ab"), looks := true }, kinds := [], alts := [], laidByText := true, laidKinds := [.data, .data, .data, .data, .sentinel, .sentinel, .sentinel, .sentinel, .sentinel, .sentinel, .sentinel, .sentinel, .sentinel, .sentinel, .sentinel, .sentinel, .sentinel, .pinned], laidTests := true, laidLooks := .later }
def WholeNestsUptoCardSaid : Prop := Claim7.holds Tryz.pinned (.plain (OpenSpec.upto wholeNestsSpec)) wholeNestsUptoCard

/-- THE SECOND FORM's CARD OF 'turnkeylaw27.WorldServes'. -/
def worldServesUptoCard : Claim7 := { stood := { row := worldServesUptoRow, standIns := [], harness := (true, "54ce9cc43cd1c0c090c5adefb401ad0f481f739f645e14fcb1dbee2e9120d0ab"), looks := true }, kinds := [], alts := [], laidByText := true, laidKinds := [.data, .data, .data, .data, .sentinel, .sentinel, .sentinel, .sentinel, .sentinel, .sentinel, .sentinel, .sentinel, .sentinel, .sentinel, .sentinel, .sentinel, .sentinel, .pinned], laidTests := true, laidLooks := .later }
def WorldServesUptoCardSaid : Prop := Claim7.holds Tryz.pinned (.plain (OpenSpec.upto worldServesSpec)) worldServesUptoCard

/-- THE SECOND FORM's CARD OF 'turnkeylaw27.WorldEnds'. -/
def worldEndsUptoCard : Claim7 := { stood := { row := worldEndsUptoRow, standIns := [], harness := (true, "54ce9cc43cd1c0c090c5adefb401ad0f481f739f645e14fcb1dbee2e9120d0ab"), looks := true }, kinds := [], alts := [], laidByText := true, laidKinds := [.data, .data, .data, .data, .sentinel, .sentinel, .sentinel, .sentinel, .sentinel, .sentinel, .sentinel, .sentinel, .sentinel, .sentinel, .sentinel, .sentinel, .sentinel, .pinned], laidTests := true, laidLooks := .later }
def WorldEndsUptoCardSaid : Prop := Claim7.holds Tryz.pinned (.plain (OpenSpec.upto worldEndsSpec)) worldEndsUptoCard

/-- THE SECOND FORM's CARD OF 'turnkeylaw24.KernRuns'. -/
def kernRunsUptoCard : Claim7 := { stood := { row := kernRunsUptoRow, standIns := [], harness := (true, "54ce9cc43cd1c0c090c5adefb401ad0f481f739f645e14fcb1dbee2e9120d0ab"), looks := true }, kinds := [], alts := [], laidByText := true, laidKinds := [.sentinel, .sentinel, .sentinel, .sentinel, .sentinel, .sentinel, .sentinel, .sentinel, .sentinel, .sentinel], laidTests := true, laidLooks := .later }
def KernRunsUptoCardSaid : Prop := Claim7.holds Tryz.pinned (.plain (OpenSpec.upto kernRunsSpec)) kernRunsUptoCard
end Rows
end Go.Proofs.YtmafpninhndlnaaGreatDoor
