/-
  DERIVED. GIVEN WITH THE SEED: THE CARDS: each row of YtflipohebkkkbaaDoorRows.lean that lists a variable, with what it lists TIED to the program's text (the seventh form; the later family's looks); each row that meets fmt, with fmt's text TOLD by the authors' own Lean function (tested against real Go, not proved from fmt's source: count such statements apart). THE CARD IS WHAT COUNTS. Prove the row's statement (the work); the ties are given (YtflipohebkkkbaaDoorTie.lean); close each card by the builder's one call (the guide's Derived/Test/ToyasCard.lean, 'card_holds'). Laid BY PROGRAM, IN A SANDBOX (cutbox-door.mjs). By AI agents, Wed Nov 11 2026. No macro, syntax, notation, axiom, sorry.
-/
import Derived.Test.YtflipohebkkkbaaDoorRows
import GoSem.ClaimSeven
namespace Go.Proofs.YtflipohebkkkbaaDoor
namespace Rows

/-- THE TIED CARD OF 'turnkeylaw21.SysSizes'. -/
def sysSizesCard : Claim7 := { stood := { row := sysSizesRow, standIns := [], harness := (true, "70a0fb430175fef9c263c23132f13e55fb7cc2f041ff42376e078864046e9dee"), looks := true }, kinds := [], alts := [], laidByText := true, laidKinds := [.sentinel, .sentinel, .sentinel, .sentinel, .sentinel, .sentinel, .sentinel, .sentinel, .sentinel, .sentinel, .sentinel, .sentinel], laidTests := true, laidLooks := .later }
def SysSizesCardSaid : Prop := Claim7.holds Tryd.pinned (.plain (OpenSpec.ofChange sysSizesSpec)) sysSizesCard

/-- THE TIED CARD OF 'turnkeylaw18.BankDepth'. -/
def bankDepthCard : Claim7 := { stood := { row := bankDepthRow, standIns := [], harness := (true, "70a0fb430175fef9c263c23132f13e55fb7cc2f041ff42376e078864046e9dee"), looks := true }, kinds := [], alts := [], laidByText := true, laidKinds := [.sentinel, .sentinel, .sentinel, .sentinel, .sentinel, .sentinel, .sentinel, .sentinel, .sentinel, .sentinel, .sentinel, .sentinel], laidTests := true, laidLooks := .later }
def BankDepthCardSaid : Prop := Claim7.holds Tryd.pinned (.plain (OpenSpec.ofChange bankDepthSpec)) bankDepthCard

/-- THE TIED CARD OF 'turnkeylaw18.BankCounts'. -/
def bankCountsCard : Claim7 := { stood := { row := bankCountsRow, standIns := [], harness := (true, "70a0fb430175fef9c263c23132f13e55fb7cc2f041ff42376e078864046e9dee"), looks := true }, kinds := [], alts := [], laidByText := true, laidKinds := [.sentinel, .sentinel, .sentinel, .sentinel, .sentinel, .sentinel, .sentinel, .sentinel, .sentinel, .sentinel, .sentinel, .sentinel], laidTests := true, laidLooks := .later }
def BankCountsCardSaid : Prop := Claim7.holds Tryd.pinned (.plain (OpenSpec.ofChange bankCountsSpec)) bankCountsCard

/-- THE TIED CARD OF 'turnkeylaw18.BankOwns'. -/
def bankOwnsCard : Claim7 := { stood := { row := bankOwnsRow, standIns := [], harness := (true, "70a0fb430175fef9c263c23132f13e55fb7cc2f041ff42376e078864046e9dee"), looks := true }, kinds := [], alts := [], laidByText := true, laidKinds := [.sentinel, .sentinel, .sentinel, .sentinel, .sentinel, .sentinel, .sentinel, .sentinel, .sentinel, .sentinel, .sentinel, .sentinel], laidTests := true, laidLooks := .later }
def BankOwnsCardSaid : Prop := Claim7.holds Tryd.pinned (.plain (OpenSpec.ofChange bankOwnsSpec)) bankOwnsCard

/-- THE TIED CARD OF 'turnkeylaw18.BankRoom'. -/
def bankRoomCard : Claim7 := { stood := { row := bankRoomRow, standIns := [], harness := (true, "70a0fb430175fef9c263c23132f13e55fb7cc2f041ff42376e078864046e9dee"), looks := true }, kinds := [], alts := [], laidByText := true, laidKinds := [.sentinel, .sentinel, .sentinel, .sentinel, .sentinel, .sentinel, .sentinel, .sentinel, .sentinel, .sentinel, .sentinel, .sentinel], laidTests := true, laidLooks := .later }
def BankRoomCardSaid : Prop := Claim7.holds Tryd.pinned (.plain (OpenSpec.ofChange bankRoomSpec)) bankRoomCard

/-- THE TIED CARD OF 'turnkeylaw18.BankEnds'. -/
def bankEndsCard : Claim7 := { stood := { row := bankEndsRow, standIns := [], harness := (true, "70a0fb430175fef9c263c23132f13e55fb7cc2f041ff42376e078864046e9dee"), looks := true }, kinds := [], alts := [], laidByText := true, laidKinds := [.sentinel, .sentinel, .sentinel, .sentinel, .sentinel, .sentinel, .sentinel, .sentinel, .sentinel, .sentinel, .sentinel, .sentinel], laidTests := true, laidLooks := .later }
def BankEndsCardSaid : Prop := Claim7.holds Tryd.pinned (.plain (OpenSpec.ofChange bankEndsSpec)) bankEndsCard

/-- THE SECOND FORM's CARD OF 'turnkeylaw21.SysSizes'. -/
def sysSizesUptoCard : Claim7 := { stood := { row := sysSizesUptoRow, standIns := [], harness := (true, "70a0fb430175fef9c263c23132f13e55fb7cc2f041ff42376e078864046e9dee"), looks := true }, kinds := [], alts := [], laidByText := true, laidKinds := [.sentinel, .sentinel, .sentinel, .sentinel, .sentinel, .sentinel, .sentinel, .sentinel, .sentinel, .sentinel, .sentinel, .sentinel], laidTests := true, laidLooks := .later }
def SysSizesUptoCardSaid : Prop := Claim7.holds Tryd.pinned (.plain (OpenSpec.upto sysSizesSpec)) sysSizesUptoCard

/-- THE SECOND FORM's CARD OF 'turnkeylaw18.BankDepth'. -/
def bankDepthUptoCard : Claim7 := { stood := { row := bankDepthUptoRow, standIns := [], harness := (true, "70a0fb430175fef9c263c23132f13e55fb7cc2f041ff42376e078864046e9dee"), looks := true }, kinds := [], alts := [], laidByText := true, laidKinds := [.sentinel, .sentinel, .sentinel, .sentinel, .sentinel, .sentinel, .sentinel, .sentinel, .sentinel, .sentinel, .sentinel, .sentinel], laidTests := true, laidLooks := .later }
def BankDepthUptoCardSaid : Prop := Claim7.holds Tryd.pinned (.plain (OpenSpec.upto bankDepthSpec)) bankDepthUptoCard

/-- THE SECOND FORM's CARD OF 'turnkeylaw18.BankCounts'. -/
def bankCountsUptoCard : Claim7 := { stood := { row := bankCountsUptoRow, standIns := [], harness := (true, "70a0fb430175fef9c263c23132f13e55fb7cc2f041ff42376e078864046e9dee"), looks := true }, kinds := [], alts := [], laidByText := true, laidKinds := [.sentinel, .sentinel, .sentinel, .sentinel, .sentinel, .sentinel, .sentinel, .sentinel, .sentinel, .sentinel, .sentinel, .sentinel], laidTests := true, laidLooks := .later }
def BankCountsUptoCardSaid : Prop := Claim7.holds Tryd.pinned (.plain (OpenSpec.upto bankCountsSpec)) bankCountsUptoCard

/-- THE SECOND FORM's CARD OF 'turnkeylaw18.BankOwns'. -/
def bankOwnsUptoCard : Claim7 := { stood := { row := bankOwnsUptoRow, standIns := [], harness := (true, "70a0fb430175fef9c263c23132f13e55fb7cc2f041ff42376e078864046e9dee"), looks := true }, kinds := [], alts := [], laidByText := true, laidKinds := [.sentinel, .sentinel, .sentinel, .sentinel, .sentinel, .sentinel, .sentinel, .sentinel, .sentinel, .sentinel, .sentinel, .sentinel], laidTests := true, laidLooks := .later }
def BankOwnsUptoCardSaid : Prop := Claim7.holds Tryd.pinned (.plain (OpenSpec.upto bankOwnsSpec)) bankOwnsUptoCard

/-- THE SECOND FORM's CARD OF 'turnkeylaw18.BankRoom'. -/
def bankRoomUptoCard : Claim7 := { stood := { row := bankRoomUptoRow, standIns := [], harness := (true, "70a0fb430175fef9c263c23132f13e55fb7cc2f041ff42376e078864046e9dee"), looks := true }, kinds := [], alts := [], laidByText := true, laidKinds := [.sentinel, .sentinel, .sentinel, .sentinel, .sentinel, .sentinel, .sentinel, .sentinel, .sentinel, .sentinel, .sentinel, .sentinel], laidTests := true, laidLooks := .later }
def BankRoomUptoCardSaid : Prop := Claim7.holds Tryd.pinned (.plain (OpenSpec.upto bankRoomSpec)) bankRoomUptoCard

/-- THE SECOND FORM's CARD OF 'turnkeylaw18.BankEnds'. -/
def bankEndsUptoCard : Claim7 := { stood := { row := bankEndsUptoRow, standIns := [], harness := (true, "70a0fb430175fef9c263c23132f13e55fb7cc2f041ff42376e078864046e9dee"), looks := true }, kinds := [], alts := [], laidByText := true, laidKinds := [.sentinel, .sentinel, .sentinel, .sentinel, .sentinel, .sentinel, .sentinel, .sentinel, .sentinel, .sentinel, .sentinel, .sentinel], laidTests := true, laidLooks := .later }
def BankEndsUptoCardSaid : Prop := Claim7.holds Tryd.pinned (.plain (OpenSpec.upto bankEndsSpec)) bankEndsUptoCard
end Rows
end Go.Proofs.YtflipohebkkkbaaDoor
