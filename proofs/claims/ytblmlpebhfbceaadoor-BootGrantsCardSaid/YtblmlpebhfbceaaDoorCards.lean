/-
  DERIVED. GIVEN WITH THE SEED: THE CARDS: each row of YtblmlpebhfbceaaDoorRows.lean that lists a variable, with what it lists TIED to the program's text (the seventh form; the later family's looks); each row that meets fmt, with fmt's text TOLD by the authors' own Lean function (tested against real Go, not proved from fmt's source: count such statements apart). THE CARD IS WHAT COUNTS. Prove the row's statement (the work); the ties are given (YtblmlpebhfbceaaDoorTie.lean); close each card by the builder's one call (the guide's Derived/Test/ToyasCard.lean, 'card_holds'). Laid BY PROGRAM, IN A SANDBOX (cutbox-door.mjs). By AI agents, Wed Nov 11 2026. No macro, syntax, notation, axiom, sorry.
-/
import Derived.Test.YtblmlpebhfbceaaDoorRows
import GoSem.ClaimSeven
namespace Go.Proofs.YtblmlpebhfbceaaDoor
namespace Rows

/-- THE TIED CARD OF 'turnkeylaw26.BootGrants'. -/
def bootGrantsCard : Claim7 := { stood := { row := bootGrantsRow, standIns := [], harness := (true, "a584b840f2b88e08f6cc03293d5511a9fc463e0af4c7ce61ea8ad9f5eb2ddef5"), looks := false }, kinds := [], alts := [], laidByText := true, laidKinds := [.sentinel, .sentinel, .sentinel, .sentinel, .sentinel, .sentinel], laidTests := true, laidLooks := .later }
def BootGrantsCardSaid : Prop := Claim7.holds Tryd.pinned (.plain (OpenSpec.ofChange bootGrantsSpec)) bootGrantsCard

/-- THE SECOND FORM's CARD OF 'turnkeylaw26.BootGrants'. -/
def bootGrantsUptoCard : Claim7 := { stood := { row := bootGrantsUptoRow, standIns := [], harness := (true, "a584b840f2b88e08f6cc03293d5511a9fc463e0af4c7ce61ea8ad9f5eb2ddef5"), looks := false }, kinds := [], alts := [], laidByText := true, laidKinds := [.sentinel, .sentinel, .sentinel, .sentinel, .sentinel, .sentinel], laidTests := true, laidLooks := .later }
def BootGrantsUptoCardSaid : Prop := Claim7.holds Tryd.pinned (.plain (OpenSpec.upto bootGrantsSpec)) bootGrantsUptoCard
end Rows
end Go.Proofs.YtblmlpebhfbceaaDoor
