/-
  DERIVED. GIVEN WITH THE SEED: THE CARDS: each row of YtnedpimammoekaaDoorRows.lean that lists a variable, with what it lists TIED to the program's text (the seventh form; the later family's looks); each row that meets fmt, with fmt's text TOLD by the authors' own Lean function (tested against real Go, not proved from fmt's source: count such statements apart). THE CARD IS WHAT COUNTS. Prove the row's statement (the work); the ties are given (YtnedpimammoekaaDoorTie.lean); close each card by the builder's one call (the guide's Derived/Test/ToyasCard.lean, 'card_holds'). Laid BY PROGRAM, IN A SANDBOX (cutbox-door.mjs). By AI agents, Wed Nov 11 2026. No macro, syntax, notation, axiom, sorry.
-/
import Derived.Test.YtnedpimammoekaaDoorRows
import GoSem.ClaimSeven
namespace Go.Proofs.YtnedpimammoekaaDoor
namespace Rows

/-- THE TIED CARD OF 'turnkeylaw15.AsmWrong'. -/
def asmWrongCard : Claim7 := { stood := { row := asmWrongRow, standIns := [], harness := (true, "c1432a2e8788c217068faa3dac89be12b96d0a4dbad929ddd2985fc45d7a33aa"), looks := true }, kinds := [], alts := [], laidByText := true, laidKinds := [.data, .data, .data, .data, .sentinel, .sentinel, .sentinel, .sentinel, .sentinel, .sentinel, .sentinel, .sentinel, .sentinel, .sentinel, .sentinel, .sentinel, .sentinel, .sentinel, .pinned], laidTests := true, laidLooks := .later }
def AsmWrongCardSaid : Prop := Claim7.holds Tryd.pinned (.plain (OpenSpec.ofChange asmWrongSpec)) asmWrongCard

/-- THE TIED CARD OF 'turnkeylaw14.CodeRows'. -/
def codeRowsCard : Claim7 := { stood := { row := codeRowsRow, standIns := [], harness := (true, "c1432a2e8788c217068faa3dac89be12b96d0a4dbad929ddd2985fc45d7a33aa"), looks := true }, kinds := [], alts := [], laidByText := true, laidKinds := [.data, .data, .data, .data, .sentinel, .sentinel, .sentinel, .sentinel, .sentinel, .sentinel, .sentinel, .sentinel, .sentinel, .sentinel, .sentinel, .sentinel, .pinned], laidTests := true, laidLooks := .later }
def CodeRowsCardSaid : Prop := Claim7.holds Tryd.pinned (.plain (OpenSpec.ofChange codeRowsSpec)) codeRowsCard

/-- THE TIED CARD OF 'turnkeylaw26.BootApart'. -/
def bootApartCard : Claim7 := { stood := { row := bootApartRow, standIns := [], harness := (true, "c1432a2e8788c217068faa3dac89be12b96d0a4dbad929ddd2985fc45d7a33aa"), looks := true }, kinds := [], alts := [], laidByText := true, laidKinds := [.sentinel, .sentinel, .sentinel, .sentinel, .sentinel, .sentinel], laidTests := true, laidLooks := .later }
def BootApartCardSaid : Prop := Claim7.holds Tryd.pinned (.plain (OpenSpec.ofChange bootApartSpec)) bootApartCard

/-- THE SECOND FORM's CARD OF 'turnkeylaw15.AsmWrong'. -/
def asmWrongUptoCard : Claim7 := { stood := { row := asmWrongUptoRow, standIns := [], harness := (true, "c1432a2e8788c217068faa3dac89be12b96d0a4dbad929ddd2985fc45d7a33aa"), looks := true }, kinds := [], alts := [], laidByText := true, laidKinds := [.data, .data, .data, .data, .sentinel, .sentinel, .sentinel, .sentinel, .sentinel, .sentinel, .sentinel, .sentinel, .sentinel, .sentinel, .sentinel, .sentinel, .sentinel, .sentinel, .pinned], laidTests := true, laidLooks := .later }
def AsmWrongUptoCardSaid : Prop := Claim7.holds Tryd.pinned (.plain (OpenSpec.upto asmWrongSpec)) asmWrongUptoCard

/-- THE SECOND FORM's CARD OF 'turnkeylaw14.CodeRows'. -/
def codeRowsUptoCard : Claim7 := { stood := { row := codeRowsUptoRow, standIns := [], harness := (true, "c1432a2e8788c217068faa3dac89be12b96d0a4dbad929ddd2985fc45d7a33aa"), looks := true }, kinds := [], alts := [], laidByText := true, laidKinds := [.data, .data, .data, .data, .sentinel, .sentinel, .sentinel, .sentinel, .sentinel, .sentinel, .sentinel, .sentinel, .sentinel, .sentinel, .sentinel, .sentinel, .pinned], laidTests := true, laidLooks := .later }
def CodeRowsUptoCardSaid : Prop := Claim7.holds Tryd.pinned (.plain (OpenSpec.upto codeRowsSpec)) codeRowsUptoCard

/-- THE SECOND FORM's CARD OF 'turnkeylaw26.BootApart'. -/
def bootApartUptoCard : Claim7 := { stood := { row := bootApartUptoRow, standIns := [], harness := (true, "c1432a2e8788c217068faa3dac89be12b96d0a4dbad929ddd2985fc45d7a33aa"), looks := true }, kinds := [], alts := [], laidByText := true, laidKinds := [.sentinel, .sentinel, .sentinel, .sentinel, .sentinel, .sentinel], laidTests := true, laidLooks := .later }
def BootApartUptoCardSaid : Prop := Claim7.holds Tryd.pinned (.plain (OpenSpec.upto bootApartSpec)) bootApartUptoCard
end Rows
end Go.Proofs.YtnedpimammoekaaDoor
