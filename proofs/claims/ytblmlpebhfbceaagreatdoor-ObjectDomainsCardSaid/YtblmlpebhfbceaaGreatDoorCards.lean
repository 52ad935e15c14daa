/-
  DERIVED. GIVEN WITH THE SEED: THE CARDS: each row of YtblmlpebhfbceaaGreatDoorRows.lean that lists a variable, with what it lists TIED to the program's text (the seventh form; the later family's looks); each row that meets fmt, with fmt's text TOLD by the authors' own Lean function (tested against real Go, not proved from fmt's source: count such statements apart). THE CARD IS WHAT COUNTS. Prove the row's statement (the work); the ties are given (YtblmlpebhfbceaaGreatDoorTie.lean); close each card by the builder's one call (the guide's Derived/Test/ToyasCard.lean, 'card_holds'). Laid BY PROGRAM, IN A SANDBOX (cutbox-door.mjs). By AI agents, Wed Nov 11 2026. No macro, syntax, notation, axiom, sorry.
-/
import Derived.Test.YtblmlpebhfbceaaGreatDoorRows
import GoSem.ClaimSeven
namespace Go.Proofs.YtblmlpebhfbceaaGreatDoor
namespace Rows

/-- THE TIED CARD OF 'turnkeylaw22.ObjectBanks'. -/
def objectBanksCard : Claim7 := { stood := { row := objectBanksRow, standIns := [], harness := (true, "e9642af014f809e8d30934e5e5bad16a113ab31b6439fbff130cc4856d165ec5"), looks := true }, kinds := [], alts := [], laidByText := true, laidKinds := [.sentinel, .sentinel, .sentinel, .sentinel, .sentinel, .sentinel, .sentinel, .sentinel, .sentinel], laidTests := true, laidLooks := .later }
def ObjectBanksCardSaid : Prop := Claim7.holds Tryz.pinned (.plain (OpenSpec.ofChange objectBanksSpec)) objectBanksCard

/-- THE TIED CARD OF 'turnkeylaw22.ObjectJudges'. -/
def objectJudgesCard : Claim7 := { stood := { row := objectJudgesRow, standIns := [], harness := (true, "e9642af014f809e8d30934e5e5bad16a113ab31b6439fbff130cc4856d165ec5"), looks := true }, kinds := [], alts := [], laidByText := true, laidKinds := [.sentinel, .sentinel, .sentinel, .sentinel, .sentinel, .sentinel, .sentinel, .sentinel, .sentinel], laidTests := true, laidLooks := .later }
def ObjectJudgesCardSaid : Prop := Claim7.holds Tryz.pinned (.plain (OpenSpec.ofChange objectJudgesSpec)) objectJudgesCard

/-- THE TIED CARD OF 'turnkeylaw22.ObjectDomains'. -/
def objectDomainsCard : Claim7 := { stood := { row := objectDomainsRow, standIns := [], harness := (true, "e9642af014f809e8d30934e5e5bad16a113ab31b6439fbff130cc4856d165ec5"), looks := true }, kinds := [], alts := [], laidByText := true, laidKinds := [.sentinel, .sentinel, .sentinel, .sentinel, .sentinel, .sentinel, .sentinel, .sentinel, .sentinel], laidTests := true, laidLooks := .later }
def ObjectDomainsCardSaid : Prop := Claim7.holds Tryz.pinned (.plain (OpenSpec.ofChange objectDomainsSpec)) objectDomainsCard

/-- THE TIED CARD OF 'turnkeylaw23.GateCalls'. -/
def gateCallsCard : Claim7 := { stood := { row := gateCallsRow, standIns := [], harness := (true, "e9642af014f809e8d30934e5e5bad16a113ab31b6439fbff130cc4856d165ec5"), looks := true }, kinds := [], alts := [], laidByText := true, laidKinds := [.sentinel, .sentinel, .sentinel, .sentinel, .sentinel, .sentinel, .sentinel, .sentinel, .sentinel], laidTests := true, laidLooks := .later }
def GateCallsCardSaid : Prop := Claim7.holds Tryz.pinned (.plain (OpenSpec.ofChange gateCallsSpec)) gateCallsCard

/-- THE SECOND FORM's CARD OF 'turnkeylaw22.ObjectBanks'. -/
def objectBanksUptoCard : Claim7 := { stood := { row := objectBanksUptoRow, standIns := [], harness := (true, "e9642af014f809e8d30934e5e5bad16a113ab31b6439fbff130cc4856d165ec5"), looks := true }, kinds := [], alts := [], laidByText := true, laidKinds := [.sentinel, .sentinel, .sentinel, .sentinel, .sentinel, .sentinel, .sentinel, .sentinel, .sentinel], laidTests := true, laidLooks := .later }
def ObjectBanksUptoCardSaid : Prop := Claim7.holds Tryz.pinned (.plain (OpenSpec.upto objectBanksSpec)) objectBanksUptoCard

/-- THE SECOND FORM's CARD OF 'turnkeylaw22.ObjectJudges'. -/
def objectJudgesUptoCard : Claim7 := { stood := { row := objectJudgesUptoRow, standIns := [], harness := (true, "e9642af014f809e8d30934e5e5bad16a113ab31b6439fbff130cc4856d165ec5"), looks := true }, kinds := [], alts := [], laidByText := true, laidKinds := [.sentinel, .sentinel, .sentinel, .sentinel, .sentinel, .sentinel, .sentinel, .sentinel, .sentinel], laidTests := true, laidLooks := .later }
def ObjectJudgesUptoCardSaid : Prop := Claim7.holds Tryz.pinned (.plain (OpenSpec.upto objectJudgesSpec)) objectJudgesUptoCard

/-- THE SECOND FORM's CARD OF 'turnkeylaw22.ObjectDomains'. -/
def objectDomainsUptoCard : Claim7 := { stood := { row := objectDomainsUptoRow, standIns := [], harness := (true, "e9642af014f809e8d30934e5e5bad16a113ab31b6439fbff130cc4856d165ec5"), looks := true }, kinds := [], alts := [], laidByText := true, laidKinds := [.sentinel, .sentinel, .sentinel, .sentinel, .sentinel, .sentinel, .sentinel, .sentinel, .sentinel], laidTests := true, laidLooks := .later }
def ObjectDomainsUptoCardSaid : Prop := Claim7.holds Tryz.pinned (.plain (OpenSpec.upto objectDomainsSpec)) objectDomainsUptoCard

/-- THE SECOND FORM's CARD OF 'turnkeylaw23.GateCalls'. -/
def gateCallsUptoCard : Claim7 := { stood := { row := gateCallsUptoRow, standIns := [], harness := (true, "e9642af014f809e8d30934e5e5bad16a113ab31b6439fbff130cc4856d165ec5"), looks := true }, kinds := [], alts := [], laidByText := true, laidKinds := [.sentinel, .sentinel, .sentinel, .sentinel, .sentinel, .sentinel, .sentinel, .sentinel, .sentinel], laidTests := true, laidLooks := .later }
def GateCallsUptoCardSaid : Prop := Claim7.holds Tryz.pinned (.plain (OpenSpec.upto gateCallsSpec)) gateCallsUptoCard
end Rows
end Go.Proofs.YtblmlpebhfbceaaGreatDoor
