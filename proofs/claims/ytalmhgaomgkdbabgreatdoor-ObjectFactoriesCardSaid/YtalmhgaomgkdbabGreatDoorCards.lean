/-
  DERIVED. GIVEN WITH THE SEED: THE CARDS: each row of YtalmhgaomgkdbabGreatDoorRows.lean that lists a variable, with what it lists TIED to the program's text (the seventh form; the later family's looks); each row that meets fmt, with fmt's text TOLD by the authors' own Lean function (tested against real Go, not proved from fmt's source: count such statements apart). THE CARD IS WHAT COUNTS. Prove the row's statement (the work); the ties are given (YtalmhgaomgkdbabGreatDoorTie.lean); close each card by the builder's one call (the guide's Derived/Test/ToyasCard.lean, 'card_holds'). Laid BY PROGRAM, IN A SANDBOX (cutbox-door.mjs). By AI agents, Wed Nov 11 2026. No macro, syntax, notation, axiom, sorry.
-/
import Derived.Test.YtalmhgaomgkdbabGreatDoorRows
import GoSem.ClaimSeven
namespace Go.Proofs.YtalmhgaomgkdbabGreatDoor
namespace Rows

/-- THE TIED CARD OF 'turnkeylaw22.ObjectFactories'. -/
def objectFactoriesCard : Claim7 := { stood := { row := objectFactoriesRow, standIns := [], harness := (true, "6c07920dc9d6eaf06e04d3eabbd0ec285d47b1e8065ecf9abd9bdef888f4e816"), looks := true }, kinds := [], alts := [], laidByText := true, laidKinds := [.sentinel, .sentinel, .sentinel, .sentinel, .sentinel, .sentinel, .sentinel, .sentinel, .sentinel], laidTests := true, laidLooks := .later }
def ObjectFactoriesCardSaid : Prop := Claim7.holds Tryz.pinned (.plain (OpenSpec.ofChange objectFactoriesSpec)) objectFactoriesCard

/-- THE TIED CARD OF 'turnkeylaw22.ObjectMemory'. -/
def objectMemoryCard : Claim7 := { stood := { row := objectMemoryRow, standIns := [], harness := (true, "6c07920dc9d6eaf06e04d3eabbd0ec285d47b1e8065ecf9abd9bdef888f4e816"), looks := true }, kinds := [], alts := [], laidByText := true, laidKinds := [.sentinel, .sentinel, .sentinel, .sentinel, .sentinel, .sentinel, .sentinel, .sentinel, .sentinel], laidTests := true, laidLooks := .later }
def ObjectMemoryCardSaid : Prop := Claim7.holds Tryz.pinned (.plain (OpenSpec.ofChange objectMemorySpec)) objectMemoryCard

/-- THE TIED CARD OF 'turnkeylaw23.GateStalls'. -/
def gateStallsCard : Claim7 := { stood := { row := gateStallsRow, standIns := [], harness := (true, "6c07920dc9d6eaf06e04d3eabbd0ec285d47b1e8065ecf9abd9bdef888f4e816"), looks := true }, kinds := [], alts := [], laidByText := true, laidKinds := [.sentinel, .sentinel, .sentinel, .sentinel, .sentinel, .sentinel, .sentinel, .sentinel, .sentinel], laidTests := true, laidLooks := .later }
def GateStallsCardSaid : Prop := Claim7.holds Tryz.pinned (.plain (OpenSpec.ofChange gateStallsSpec)) gateStallsCard

/-- THE TIED CARD OF 'turnkeylaw23.GateStates'. -/
def gateStatesCard : Claim7 := { stood := { row := gateStatesRow, standIns := [], harness := (true, "6c07920dc9d6eaf06e04d3eabbd0ec285d47b1e8065ecf9abd9bdef888f4e816"), looks := true }, kinds := [], alts := [], laidByText := true, laidKinds := [.sentinel, .sentinel, .sentinel, .sentinel, .sentinel, .sentinel, .sentinel, .sentinel, .sentinel, .sentinel, .sentinel, .sentinel], laidTests := true, laidLooks := .later }
def GateStatesCardSaid : Prop := Claim7.holds Tryz.pinned (.plain (OpenSpec.ofChange gateStatesSpec)) gateStatesCard

/-- THE SECOND FORM's CARD OF 'turnkeylaw22.ObjectFactories'. -/
def objectFactoriesUptoCard : Claim7 := { stood := { row := objectFactoriesUptoRow, standIns := [], harness := (true, "6c07920dc9d6eaf06e04d3eabbd0ec285d47b1e8065ecf9abd9bdef888f4e816"), looks := true }, kinds := [], alts := [], laidByText := true, laidKinds := [.sentinel, .sentinel, .sentinel, .sentinel, .sentinel, .sentinel, .sentinel, .sentinel, .sentinel], laidTests := true, laidLooks := .later }
def ObjectFactoriesUptoCardSaid : Prop := Claim7.holds Tryz.pinned (.plain (OpenSpec.upto objectFactoriesSpec)) objectFactoriesUptoCard

/-- THE SECOND FORM's CARD OF 'turnkeylaw22.ObjectMemory'. -/
def objectMemoryUptoCard : Claim7 := { stood := { row := objectMemoryUptoRow, standIns := [], harness := (true, "6c07920dc9d6eaf06e04d3eabbd0ec285d47b1e8065ecf9abd9bdef888f4e816"), looks := true }, kinds := [], alts := [], laidByText := true, laidKinds := [.sentinel, .sentinel, .sentinel, .sentinel, .sentinel, .sentinel, .sentinel, .sentinel, .sentinel], laidTests := true, laidLooks := .later }
def ObjectMemoryUptoCardSaid : Prop := Claim7.holds Tryz.pinned (.plain (OpenSpec.upto objectMemorySpec)) objectMemoryUptoCard

/-- THE SECOND FORM's CARD OF 'turnkeylaw23.GateStalls'. -/
def gateStallsUptoCard : Claim7 := { stood := { row := gateStallsUptoRow, standIns := [], harness := (true, "6c07920dc9d6eaf06e04d3eabbd0ec285d47b1e8065ecf9abd9bdef888f4e816"), looks := true }, kinds := [], alts := [], laidByText := true, laidKinds := [.sentinel, .sentinel, .sentinel, .sentinel, .sentinel, .sentinel, .sentinel, .sentinel, .sentinel], laidTests := true, laidLooks := .later }
def GateStallsUptoCardSaid : Prop := Claim7.holds Tryz.pinned (.plain (OpenSpec.upto gateStallsSpec)) gateStallsUptoCard

/-- THE SECOND FORM's CARD OF 'turnkeylaw23.GateStates'. -/
def gateStatesUptoCard : Claim7 := { stood := { row := gateStatesUptoRow, standIns := [], harness := (true, "6c07920dc9d6eaf06e04d3eabbd0ec285d47b1e8065ecf9abd9bdef888f4e816"), looks := true }, kinds := [], alts := [], laidByText := true, laidKinds := [.sentinel, .sentinel, .sentinel, .sentinel, .sentinel, .sentinel, .sentinel, .sentinel, .sentinel, .sentinel, .sentinel, .sentinel], laidTests := true, laidLooks := .later }
def GateStatesUptoCardSaid : Prop := Claim7.holds Tryz.pinned (.plain (OpenSpec.upto gateStatesSpec)) gateStatesUptoCard
end Rows
end Go.Proofs.YtalmhgaomgkdbabGreatDoor
