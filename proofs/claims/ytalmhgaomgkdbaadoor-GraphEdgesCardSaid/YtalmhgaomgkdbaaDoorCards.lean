/-
  DERIVED. GIVEN WITH THE SEED: THE CARDS: each row of YtalmhgaomgkdbaaDoorRows.lean that lists a variable, with what it lists TIED to the program's text (the seventh form; the later family's looks); each row that meets fmt, with fmt's text TOLD by the authors' own Lean function (tested against real Go, not proved from fmt's source: count such statements apart). THE CARD IS WHAT COUNTS. Prove the row's statement (the work); the ties are given (YtalmhgaomgkdbaaDoorTie.lean); close each card by the builder's one call (the guide's Derived/Test/ToyasCard.lean, 'card_holds'). Laid BY PROGRAM, IN A SANDBOX (cutbox-door.mjs). By AI agents, Wed Nov 11 2026. No macro, syntax, notation, axiom, sorry.
-/
import Derived.Test.YtalmhgaomgkdbaaDoorRows
import GoSem.ClaimSeven
namespace Go.Proofs.YtalmhgaomgkdbaaDoor
namespace Rows

/-- THE TIED CARD OF 'turnkeylaw21.SysGone'. -/
def sysGoneCard : Claim7 := { stood := { row := sysGoneRow, standIns := [], harness := (true, "e59e2a93fd4be2ea8616f824749a45bb1f53b4b1b0e7c4ae7923b95fda7a4301"), looks := false }, kinds := [], alts := [], laidByText := true, laidKinds := [.sentinel, .sentinel, .sentinel, .sentinel, .sentinel, .sentinel, .sentinel], laidTests := true, laidLooks := .later }
def SysGoneCardSaid : Prop := Claim7.holds Tryd.pinned (.plain (OpenSpec.ofChange sysGoneSpec)) sysGoneCard

/-- THE TIED CARD OF 'turnkeylaw25.GraphEdges'. -/
def graphEdgesCard : Claim7 := { stood := { row := graphEdgesRow, standIns := [], harness := (true, "e59e2a93fd4be2ea8616f824749a45bb1f53b4b1b0e7c4ae7923b95fda7a4301"), looks := false }, kinds := [], alts := [], laidByText := true, laidKinds := [.sentinel, .sentinel, .sentinel, .sentinel, .sentinel, .sentinel], laidTests := true, laidLooks := .later }
def GraphEdgesCardSaid : Prop := Claim7.holds Tryd.pinned (.plain (OpenSpec.ofChange graphEdgesSpec)) graphEdgesCard

/-- THE SECOND FORM's CARD OF 'turnkeylaw21.SysGone'. -/
def sysGoneUptoCard : Claim7 := { stood := { row := sysGoneUptoRow, standIns := [], harness := (true, "e59e2a93fd4be2ea8616f824749a45bb1f53b4b1b0e7c4ae7923b95fda7a4301"), looks := false }, kinds := [], alts := [], laidByText := true, laidKinds := [.sentinel, .sentinel, .sentinel, .sentinel, .sentinel, .sentinel, .sentinel], laidTests := true, laidLooks := .later }
def SysGoneUptoCardSaid : Prop := Claim7.holds Tryd.pinned (.plain (OpenSpec.upto sysGoneSpec)) sysGoneUptoCard

/-- THE SECOND FORM's CARD OF 'turnkeylaw25.GraphEdges'. -/
def graphEdgesUptoCard : Claim7 := { stood := { row := graphEdgesUptoRow, standIns := [], harness := (true, "e59e2a93fd4be2ea8616f824749a45bb1f53b4b1b0e7c4ae7923b95fda7a4301"), looks := false }, kinds := [], alts := [], laidByText := true, laidKinds := [.sentinel, .sentinel, .sentinel, .sentinel, .sentinel, .sentinel], laidTests := true, laidLooks := .later }
def GraphEdgesUptoCardSaid : Prop := Claim7.holds Tryd.pinned (.plain (OpenSpec.upto graphEdgesSpec)) graphEdgesUptoCard
end Rows
end Go.Proofs.YtalmhgaomgkdbaaDoor
