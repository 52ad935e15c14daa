/-
  DERIVED. GIVEN WITH THE SEED: THE CARDS: each row of YtflipohebkkkbabDoorRows.lean that lists a variable, with what it lists TIED to the program's text (the seventh form; the later family's looks); each row that meets fmt, with fmt's text TOLD by the authors' own Lean function (tested against real Go, not proved from fmt's source: count such statements apart). THE CARD IS WHAT COUNTS. Prove the row's statement (the work); the ties are given (YtflipohebkkkbabDoorTie.lean); close each card by the builder's one call (the guide's Derived/Test/ToyasCard.lean, 'card_holds'). Laid BY PROGRAM, IN A SANDBOX (cutbox-door.mjs). By AI agents, Wed Nov 11 2026. No macro, syntax, notation, axiom, sorry.
-/
import Derived.Test.YtflipohebkkkbabDoorRows
import GoSem.ClaimSeven
namespace Go.Proofs.YtflipohebkkkbabDoor
namespace Rows

/-- THE TIED CARD OF 'turnkeylaw21.SysDoors'. -/
def sysDoorsCard : Claim7 := { stood := { row := sysDoorsRow, standIns := [], harness := (true, "16c924267c2ac1a7304c24fcdf6e6fb0e95270a439120ef0cff28d8e765c1305"), looks := false }, kinds := [], alts := [], laidByText := true, laidKinds := [.sentinel, .sentinel, .sentinel, .sentinel, .sentinel, .sentinel, .sentinel], laidTests := true, laidLooks := .later }
def SysDoorsCardSaid : Prop := Claim7.holds Tryd.pinned (.plain (OpenSpec.ofChange sysDoorsSpec)) sysDoorsCard

/-- THE TIED CARD OF 'turnkeylaw25.GraphReaches'. -/
def graphReachesCard : Claim7 := { stood := { row := graphReachesRow, standIns := [], harness := (true, "16c924267c2ac1a7304c24fcdf6e6fb0e95270a439120ef0cff28d8e765c1305"), looks := false }, kinds := [], alts := [], laidByText := true, laidKinds := [.sentinel, .sentinel, .sentinel, .sentinel, .sentinel, .sentinel], laidTests := true, laidLooks := .later }
def GraphReachesCardSaid : Prop := Claim7.holds Tryd.pinned (.plain (OpenSpec.ofChange graphReachesSpec)) graphReachesCard

/-- THE SECOND FORM's CARD OF 'turnkeylaw21.SysDoors'. -/
def sysDoorsUptoCard : Claim7 := { stood := { row := sysDoorsUptoRow, standIns := [], harness := (true, "16c924267c2ac1a7304c24fcdf6e6fb0e95270a439120ef0cff28d8e765c1305"), looks := false }, kinds := [], alts := [], laidByText := true, laidKinds := [.sentinel, .sentinel, .sentinel, .sentinel, .sentinel, .sentinel, .sentinel], laidTests := true, laidLooks := .later }
def SysDoorsUptoCardSaid : Prop := Claim7.holds Tryd.pinned (.plain (OpenSpec.upto sysDoorsSpec)) sysDoorsUptoCard

/-- THE SECOND FORM's CARD OF 'turnkeylaw25.GraphReaches'. -/
def graphReachesUptoCard : Claim7 := { stood := { row := graphReachesUptoRow, standIns := [], harness := (true, "16c924267c2ac1a7304c24fcdf6e6fb0e95270a439120ef0cff28d8e765c1305"), looks := false }, kinds := [], alts := [], laidByText := true, laidKinds := [.sentinel, .sentinel, .sentinel, .sentinel, .sentinel, .sentinel], laidTests := true, laidLooks := .later }
def GraphReachesUptoCardSaid : Prop := Claim7.holds Tryd.pinned (.plain (OpenSpec.upto graphReachesSpec)) graphReachesUptoCard
end Rows
end Go.Proofs.YtflipohebkkkbabDoor
