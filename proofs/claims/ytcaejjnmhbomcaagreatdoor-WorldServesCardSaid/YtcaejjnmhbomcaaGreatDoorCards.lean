/-
  DERIVED. GIVEN WITH THE SEED: THE CARDS: each row of YtcaejjnmhbomcaaGreatDoorRows.lean that lists a variable, with what it lists TIED to the program's text (the seventh form; the later family's looks); each row that meets fmt, with fmt's text TOLD by the authors' own Lean function (tested against real Go, not proved from fmt's source: count such statements apart). THE CARD IS WHAT COUNTS. Prove the row's statement (the work); the ties are given (YtcaejjnmhbomcaaGreatDoorTie.lean); close each card by the builder's one call (the guide's Derived/Test/ToyasCard.lean, 'card_holds'). Laid BY PROGRAM, IN A SANDBOX (cutbox-door.mjs). By AI agents, Wed Nov 11 2026. No macro, syntax, notation, axiom, sorry.
-/
import Derived.Test.YtcaejjnmhbomcaaGreatDoorRows
import GoSem.ClaimSeven
namespace Go.Proofs.YtcaejjnmhbomcaaGreatDoor
namespace Rows

/-- THE TIED CARD OF 'turnkeylaw24.KernRuns'. -/
def kernRunsCard : Claim7 := { stood := { row := kernRunsRow, standIns := [], harness := (true, "0cddc6f2419f2f6be70bb0f94c04592ff41a0163a7f12662108237b92b03783d"), looks := true }, kinds := [], alts := [], laidByText := true, laidKinds := [.sentinel, .sentinel, .sentinel, .sentinel, .sentinel, .sentinel, .sentinel, .sentinel, .sentinel, .sentinel], laidTests := true, laidLooks := .later }
def KernRunsCardSaid : Prop := Claim7.holds Tryz.pinned (.plain (OpenSpec.ofChange kernRunsSpec)) kernRunsCard

/-- THE TIED CARD OF 'turnkeylaw27.WorldKept'. -/
def worldKeptCard : Claim7 := { stood := { row := worldKeptRow, standIns := [], harness := (true, "0cddc6f2419f2f6be70bb0f94c04592ff41a0163a7f12662108237b92b03783d"), looks := true }, kinds := [], alts := [], laidByText := true, laidKinds := [.sentinel, .sentinel, .sentinel, .sentinel, .sentinel, .sentinel, .sentinel, .sentinel, .sentinel, .sentinel], laidTests := true, laidLooks := .later }
def WorldKeptCardSaid : Prop := Claim7.holds Tryz.pinned (.plain (OpenSpec.ofChange worldKeptSpec)) worldKeptCard

/-- THE TIED CARD OF 'turnkeylaw27.WorldServes'. -/
def worldServesCard : Claim7 := { stood := { row := worldServesRow, standIns := [], harness := (true, "0cddc6f2419f2f6be70bb0f94c04592ff41a0163a7f12662108237b92b03783d"), looks := true }, kinds := [], alts := [], laidByText := true, laidKinds := [.data, .data, .data, .data, .sentinel, .sentinel, .sentinel, .sentinel, .sentinel, .sentinel, .sentinel, .sentinel, .sentinel, .sentinel, .sentinel, .sentinel, .sentinel, .pinned], laidTests := true, laidLooks := .later }
def WorldServesCardSaid : Prop := Claim7.holds Tryz.pinned (.plain (OpenSpec.ofChange worldServesSpec)) worldServesCard

/-- THE TIED CARD OF 'turnkeylaw28.DeskSums'. -/
def deskSumsCard : Claim7 := { stood := { row := deskSumsRow, standIns := [], harness := (true, "0cddc6f2419f2f6be70bb0f94c04592ff41a0163a7f12662108237b92b03783d"), looks := true }, kinds := [], alts := [], laidByText := true, laidKinds := [.data, .data, .data, .data, .sentinel, .sentinel, .sentinel, .sentinel, .sentinel, .sentinel, .sentinel, .sentinel, .sentinel, .sentinel, .sentinel, .sentinel, .sentinel, .pinned], laidTests := true, laidLooks := .later }
def DeskSumsCardSaid : Prop := Claim7.holds Tryz.pinned (.plain (OpenSpec.ofChange deskSumsSpec)) deskSumsCard

/-- THE SECOND FORM's CARD OF 'turnkeylaw24.KernRuns'. -/
def kernRunsUptoCard : Claim7 := { stood := { row := kernRunsUptoRow, standIns := [], harness := (true, "0cddc6f2419f2f6be70bb0f94c04592ff41a0163a7f12662108237b92b03783d"), looks := true }, kinds := [], alts := [], laidByText := true, laidKinds := [.sentinel, .sentinel, .sentinel, .sentinel, .sentinel, .sentinel, .sentinel, .sentinel, .sentinel, .sentinel], laidTests := true, laidLooks := .later }
def KernRunsUptoCardSaid : Prop := Claim7.holds Tryz.pinned (.plain (OpenSpec.upto kernRunsSpec)) kernRunsUptoCard

/-- THE SECOND FORM's CARD OF 'turnkeylaw27.WorldKept'. -/
def worldKeptUptoCard : Claim7 := { stood := { row := worldKeptUptoRow, standIns := [], harness := (true, "0cddc6f2419f2f6be70bb0f94c04592ff41a0163a7f12662108237b92b03783d"), looks := true }, kinds := [], alts := [], laidByText := true, laidKinds := [.sentinel, .sentinel, .sentinel, .sentinel, .sentinel, .sentinel, .sentinel, .sentinel, .sentinel, .sentinel], laidTests := true, laidLooks := .later }
def WorldKeptUptoCardSaid : Prop := Claim7.holds Tryz.pinned (.plain (OpenSpec.upto worldKeptSpec)) worldKeptUptoCard

/-- THE SECOND FORM's CARD OF 'turnkeylaw27.WorldServes'. -/
def worldServesUptoCard : Claim7 := { stood := { row := worldServesUptoRow, standIns := [], harness := (true, "0cddc6f2419f2f6be70bb0f94c04592ff41a0163a7f12662108237b92b03783d"), looks := true }, kinds := [], alts := [], laidByText := true, laidKinds := [.data, .data, .data, .data, .sentinel, .sentinel, .sentinel, .sentinel, .sentinel, .sentinel, .sentinel, .sentinel, .sentinel, .sentinel, .sentinel, .sentinel, .sentinel, .pinned], laidTests := true, laidLooks := .later }
def WorldServesUptoCardSaid : Prop := Claim7.holds Tryz.pinned (.plain (OpenSpec.upto worldServesSpec)) worldServesUptoCard

/-- THE SECOND FORM's CARD OF 'turnkeylaw28.DeskSums'. -/
def deskSumsUptoCard : Claim7 := { stood := { row := deskSumsUptoRow, standIns := [], harness := (true, "0cddc6f2419f2f6be70bb0f94c04592ff41a0163a7f12662108237b92b03783d"), looks := true }, kinds := [], alts := [], laidByText := true, laidKinds := [.data, .data, .data, .data, .sentinel, .sentinel, .sentinel, .sentinel, .sentinel, .sentinel, .sentinel, .sentinel, .sentinel, .sentinel, .sentinel, .sentinel, .sentinel, .pinned], laidTests := true, laidLooks := .later }
def DeskSumsUptoCardSaid : Prop := Claim7.holds Tryz.pinned (.plain (OpenSpec.upto deskSumsSpec)) deskSumsUptoCard
end Rows
end Go.Proofs.YtcaejjnmhbomcaaGreatDoor
