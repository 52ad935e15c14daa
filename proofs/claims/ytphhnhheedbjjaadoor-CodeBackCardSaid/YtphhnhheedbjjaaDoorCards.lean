/-
  DERIVED. GIVEN WITH THE SEED: THE CARDS: each row of YtphhnhheedbjjaaDoorRows.lean that lists a variable, with what it lists TIED to the program's text (the seventh form; the later family's looks); each row that meets fmt, with fmt's text TOLD by the authors' own Lean function (tested against real Go, not proved from fmt's source: count such statements apart). THE CARD IS WHAT COUNTS. Prove the row's statement (the work); the ties are given (YtphhnhheedbjjaaDoorTie.lean); close each card by the builder's one call (the guide's Derived/Test/ToyasCard.lean, 'card_holds'). Laid BY PROGRAM, IN A SANDBOX (cutbox-door.mjs). By AI agents, Wed Nov 11 2026. No macro, syntax, notation, axiom, sorry.
-/
import Derived.Test.YtphhnhheedbjjaaDoorRows
import GoSem.ClaimSeven
namespace Go.Proofs.YtphhnhheedbjjaaDoor
namespace Rows

/-- THE TIED CARD OF 'turnkeylaw14.CodeSays'. -/
def codeSaysCard : Claim7 := { stood := { row := codeSaysRow, standIns := [], harness := (true, "a05f76b17cb689ccec55aa149a37141c85e1c496ac7c22123278289097c68a09"), looks := true }, kinds := [], alts := [], laidByText := true, laidKinds := [.data, .data, .data, .data, .sentinel, .sentinel, .sentinel, .sentinel, .sentinel, .sentinel, .sentinel, .sentinel, .sentinel, .sentinel, .sentinel, .sentinel, .pinned], laidTests := true, laidLooks := .later }
def CodeSaysCardSaid : Prop := Claim7.holds Tryd.pinned (.plain (OpenSpec.ofChange codeSaysSpec)) codeSaysCard

/-- THE TIED CARD OF 'turnkeylaw14.CodeBack'. -/
def codeBackCard : Claim7 := { stood := { row := codeBackRow, standIns := [], harness := (true, "a05f76b17cb689ccec55aa149a37141c85e1c496ac7c22123278289097c68a09"), looks := true }, kinds := [], alts := [], laidByText := true, laidKinds := [.data, .data, .data, .data, .sentinel, .sentinel, .pinned], laidTests := true, laidLooks := .later }
def CodeBackCardSaid : Prop := Claim7.holds Tryd.pinned (.plain (OpenSpec.ofChange codeBackSpec)) codeBackCard

/-- THE SECOND FORM's CARD OF 'turnkeylaw14.CodeSays'. -/
def codeSaysUptoCard : Claim7 := { stood := { row := codeSaysUptoRow, standIns := [], harness := (true, "a05f76b17cb689ccec55aa149a37141c85e1c496ac7c22123278289097c68a09"), looks := true }, kinds := [], alts := [], laidByText := true, laidKinds := [.data, .data, .data, .data, .sentinel, .sentinel, .sentinel, .sentinel, .sentinel, .sentinel, .sentinel, .sentinel, .sentinel, .sentinel, .sentinel, .sentinel, .pinned], laidTests := true, laidLooks := .later }
def CodeSaysUptoCardSaid : Prop := Claim7.holds Tryd.pinned (.plain (OpenSpec.upto codeSaysSpec)) codeSaysUptoCard

/-- THE SECOND FORM's CARD OF 'turnkeylaw14.CodeBack'. -/
def codeBackUptoCard : Claim7 := { stood := { row := codeBackUptoRow, standIns := [], harness := (true, "a05f76b17cb689ccec55aa149a37141c85e1c496ac7c22123278289097c68a09"), looks := true }, kinds := [], alts := [], laidByText := true, laidKinds := [.data, .data, .data, .data, .sentinel, .sentinel, .pinned], laidTests := true, laidLooks := .later }
def CodeBackUptoCardSaid : Prop := Claim7.holds Tryd.pinned (.plain (OpenSpec.upto codeBackSpec)) codeBackUptoCard
end Rows
end Go.Proofs.YtphhnhheedbjjaaDoor
