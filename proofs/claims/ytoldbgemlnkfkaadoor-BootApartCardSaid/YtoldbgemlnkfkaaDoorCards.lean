/-
  DERIVED. GIVEN WITH THE SEED: THE CARDS: each row of YtoldbgemlnkfkaaDoorRows.lean that lists a variable, with what it lists TIED to the program's text (the seventh form; the later family's looks); each row that meets fmt, with fmt's text TOLD by the authors' own Lean function (tested against real Go, not proved from fmt's source: count such statements apart). THE CARD IS WHAT COUNTS. Prove the row's statement (the work); the ties are given (YtoldbgemlnkfkaaDoorTie.lean); close each card by the builder's one call (the guide's Derived/Test/ToyasCard.lean, 'card_holds'). Laid BY PROGRAM, IN A SANDBOX (cutbox-door.mjs). By AI agents, Wed Nov 11 2026. No macro, syntax, notation, axiom, sorry.
-/
import Derived.Test.YtoldbgemlnkfkaaDoorRows
import GoSem.ClaimSeven
namespace Go.Proofs.YtoldbgemlnkfkaaDoor
namespace Rows

/-- THE TIED CARD OF 'turnkeylaw21.SysSizes'. -/
def sysSizesCard : Claim7 := { stood := { row := sysSizesRow, standIns := [], harness := (true, "7ae03876a559eaadeb2c673c8aaf8f52874cafc5219897be1da71e6c1e01d357"), looks := true }, kinds := [], alts := [], laidByText := true, laidKinds := [.sentinel, .sentinel, .sentinel, .sentinel, .sentinel, .sentinel, .sentinel, .sentinel, .sentinel, .sentinel, .sentinel, .sentinel], laidTests := true, laidLooks := .later }
def SysSizesCardSaid : Prop := Claim7.holds Tryd.pinned (.plain (OpenSpec.ofChange sysSizesSpec)) sysSizesCard

/-- THE TIED CARD OF 'turnkeylaw26.BootApart'. -/
def bootApartCard : Claim7 := { stood := { row := bootApartRow, standIns := [], harness := (true, "7ae03876a559eaadeb2c673c8aaf8f52874cafc5219897be1da71e6c1e01d357"), looks := true }, kinds := [], alts := [], laidByText := true, laidKinds := [.sentinel, .sentinel, .sentinel, .sentinel, .sentinel, .sentinel], laidTests := true, laidLooks := .later }
def BootApartCardSaid : Prop := Claim7.holds Tryd.pinned (.plain (OpenSpec.ofChange bootApartSpec)) bootApartCard

/-- THE SECOND FORM's CARD OF 'turnkeylaw21.SysSizes'. -/
def sysSizesUptoCard : Claim7 := { stood := { row := sysSizesUptoRow, standIns := [], harness := (true, "7ae03876a559eaadeb2c673c8aaf8f52874cafc5219897be1da71e6c1e01d357"), looks := true }, kinds := [], alts := [], laidByText := true, laidKinds := [.sentinel, .sentinel, .sentinel, .sentinel, .sentinel, .sentinel, .sentinel, .sentinel, .sentinel, .sentinel, .sentinel, .sentinel], laidTests := true, laidLooks := .later }
def SysSizesUptoCardSaid : Prop := Claim7.holds Tryd.pinned (.plain (OpenSpec.upto sysSizesSpec)) sysSizesUptoCard

/-- THE SECOND FORM's CARD OF 'turnkeylaw26.BootApart'. -/
def bootApartUptoCard : Claim7 := { stood := { row := bootApartUptoRow, standIns := [], harness := (true, "7ae03876a559eaadeb2c673c8aaf8f52874cafc5219897be1da71e6c1e01d357"), looks := true }, kinds := [], alts := [], laidByText := true, laidKinds := [.sentinel, .sentinel, .sentinel, .sentinel, .sentinel, .sentinel], laidTests := true, laidLooks := .later }
def BootApartUptoCardSaid : Prop := Claim7.holds Tryd.pinned (.plain (OpenSpec.upto bootApartSpec)) bootApartUptoCard
end Rows
end Go.Proofs.YtoldbgemlnkfkaaDoor
