/-
  DERIVED. GIVEN WITH THE SEED: THE CARDS: each row of YtalmhgaomgkdbacGreatDoorRows.lean that lists a variable, with what it lists TIED to the program's text (the seventh form; the later family's looks); each row that meets fmt, with fmt's text TOLD by the authors' own Lean function (tested against real Go, not proved from fmt's source: count such statements apart). THE CARD IS WHAT COUNTS. Prove the row's statement (the work); the ties are given (YtalmhgaomgkdbacGreatDoorTie.lean); close each card by the builder's one call (the guide's Derived/Test/ToyasCard.lean, 'card_holds'). Laid BY PROGRAM, IN A SANDBOX (cutbox-door.mjs). By AI agents, Wed Nov 11 2026. No macro, syntax, notation, axiom, sorry.
-/
import Derived.Test.YtalmhgaomgkdbacGreatDoorRows
import GoSem.ClaimSeven
namespace Go.Proofs.YtalmhgaomgkdbacGreatDoor
namespace Rows

/-- THE TIED CARD OF 'turnkeylaw23.GateForks'. -/
def gateForksCard : Claim7 := { stood := { row := gateForksRow, standIns := [], harness := (true, "65e1dcc79c5d3cda76ffc8ee44d5501200a34c5ab0a20fd4e3bd7d47e38155c4"), looks := true }, kinds := [], alts := [], laidByText := true, laidKinds := [.sentinel, .sentinel, .sentinel, .sentinel, .sentinel, .sentinel, .sentinel, .sentinel, .sentinel], laidTests := true, laidLooks := .later }
def GateForksCardSaid : Prop := Claim7.holds Tryz.pinned (.plain (OpenSpec.ofChange gateForksSpec)) gateForksCard

/-- THE TIED CARD OF 'turnkeylaw23.GateFaults'. -/
def gateFaultsCard : Claim7 := { stood := { row := gateFaultsRow, standIns := [], harness := (true, "65e1dcc79c5d3cda76ffc8ee44d5501200a34c5ab0a20fd4e3bd7d47e38155c4"), looks := true }, kinds := [], alts := [], laidByText := true, laidKinds := [.sentinel, .sentinel, .sentinel, .sentinel, .sentinel, .sentinel, .sentinel, .sentinel, .sentinel], laidTests := true, laidLooks := .later }
def GateFaultsCardSaid : Prop := Claim7.holds Tryz.pinned (.plain (OpenSpec.ofChange gateFaultsSpec)) gateFaultsCard

/-- THE TIED CARD OF 'turnkeylaw23.GateGone'. -/
def gateGoneCard : Claim7 := { stood := { row := gateGoneRow, standIns := [], harness := (true, "65e1dcc79c5d3cda76ffc8ee44d5501200a34c5ab0a20fd4e3bd7d47e38155c4"), looks := true }, kinds := [], alts := [], laidByText := true, laidKinds := [.sentinel, .sentinel, .sentinel, .sentinel, .sentinel, .sentinel, .sentinel, .sentinel, .sentinel], laidTests := true, laidLooks := .later }
def GateGoneCardSaid : Prop := Claim7.holds Tryz.pinned (.plain (OpenSpec.ofChange gateGoneSpec)) gateGoneCard

/-- THE SECOND FORM's CARD OF 'turnkeylaw23.GateForks'. -/
def gateForksUptoCard : Claim7 := { stood := { row := gateForksUptoRow, standIns := [], harness := (true, "65e1dcc79c5d3cda76ffc8ee44d5501200a34c5ab0a20fd4e3bd7d47e38155c4"), looks := true }, kinds := [], alts := [], laidByText := true, laidKinds := [.sentinel, .sentinel, .sentinel, .sentinel, .sentinel, .sentinel, .sentinel, .sentinel, .sentinel], laidTests := true, laidLooks := .later }
def GateForksUptoCardSaid : Prop := Claim7.holds Tryz.pinned (.plain (OpenSpec.upto gateForksSpec)) gateForksUptoCard

/-- THE SECOND FORM's CARD OF 'turnkeylaw23.GateFaults'. -/
def gateFaultsUptoCard : Claim7 := { stood := { row := gateFaultsUptoRow, standIns := [], harness := (true, "65e1dcc79c5d3cda76ffc8ee44d5501200a34c5ab0a20fd4e3bd7d47e38155c4"), looks := true }, kinds := [], alts := [], laidByText := true, laidKinds := [.sentinel, .sentinel, .sentinel, .sentinel, .sentinel, .sentinel, .sentinel, .sentinel, .sentinel], laidTests := true, laidLooks := .later }
def GateFaultsUptoCardSaid : Prop := Claim7.holds Tryz.pinned (.plain (OpenSpec.upto gateFaultsSpec)) gateFaultsUptoCard

/-- THE SECOND FORM's CARD OF 'turnkeylaw23.GateGone'. -/
def gateGoneUptoCard : Claim7 := { stood := { row := gateGoneUptoRow, standIns := [], harness := (true, "65e1dcc79c5d3cda76ffc8ee44d5501200a34c5ab0a20fd4e3bd7d47e38155c4"), looks := true }, kinds := [], alts := [], laidByText := true, laidKinds := [.sentinel, .sentinel, .sentinel, .sentinel, .sentinel, .sentinel, .sentinel, .sentinel, .sentinel], laidTests := true, laidLooks := .later }
def GateGoneUptoCardSaid : Prop := Claim7.holds Tryz.pinned (.plain (OpenSpec.upto gateGoneSpec)) gateGoneUptoCard
end Rows
end Go.Proofs.YtalmhgaomgkdbacGreatDoor
