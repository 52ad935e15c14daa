/-
  NARROWER THAN 'FOR EVERY INPUT', by the rows' own cells (each row's printed sentence says how): ObjectBanks: laid · ObjectJudges: laid · ObjectDomains: laid · GateCalls: laid.
  DERIVED. THE GIVEN ROWS OF THIS SEAT. 4 by the template 'for every input the law returns true; each argument reads behind the call as it read before'; 0 by the template 'total and deterministic' (their statements: YtblmlpebhfbceaaGreatDoorTotals.lean).
  GIVEN WITH THE SEED: the statements are not yours to turn. If you find one false, say at which input.
  Laid BY PROGRAM, IN A SANDBOX (cutbox-rows.mjs): the forced cells as the released guide's own fill.sh prints them over the translation cf220c84690d1e3c… (all of the seat's roots in one cut). By AI agents, Wed Nov 11 2026. No macro, syntax, notation, axiom, sorry.
-/
import Derived.Test.YtblmlpebhfbceaaGreatDoorChecked
import GoSem.Claim
import GoSem.ClaimJoined
import GoSem.ClaimMapViews
import Derived.JoinedTies
import Derived.KernelRfl
namespace Go.Proofs.YtblmlpebhfbceaaGreatDoor
/- THE CELL 'sum', in the pinned program and in every row, IS THE sha256 OF THE DUMP (.gsa) THAT YtblmlpebhfbceaaGreatDoorProg.lean LOADS. Nothing in Lean hashes anything: it is a label: what it is worth is what the hold of that sum in a sandbox is worth. -/
noncomputable def Tryz.pinned : Pinned := { name := "ytblmlpebhfbceaagreatdoor", sum := "cf220c84690d1e3c70300cc9519640f832c819fde9e67f050572c4ba8f5bf952", checked := Tryz.checked }
namespace Rows
def none {H : Type} : Left H := { results := [], args := [] }

/- WHAT THE LISTED PACKAGE-LEVEL VARIABLES READ AS WHEN THE CALL BEGINS. Each datum BY PROGRAM (the guide's laid-datum.mjs) off the statement by which the dump's own 'gosem.cut.vars' lays the variable. In a bare row this is a premise. The card (YtblmlpebhfbceaaGreatDoorCards.lean) ties it to the program's text. -/
def laid_turnkey_api_ErrShape {H : Type} : DataW H := .iface "*errors.errorString" (.ptr (.agg [.lit (.string [110, 111, 116, 32, 97, 115, 32, 105, 116, 32, 104, 97, 115, 32, 116, 111, 32, 98, 101])]))
def laid_turnkey_api_ErrRange {H : Type} : DataW H := .iface "*errors.errorString" (.ptr (.agg [.lit (.string [97, 32, 110, 117, 109, 98, 101, 114, 32, 111, 117, 116, 32, 111, 102, 32, 105, 116, 115, 32, 114, 97, 110, 103, 101])]))
def laid_turnkey_api_ErrMany {H : Type} : DataW H := .iface "*errors.errorString" (.ptr (.agg [.lit (.string [116, 111, 111, 32, 109, 97, 110, 121])]))
def laid_turnkey_api_ErrNone {H : Type} : DataW H := .iface "*errors.errorString" (.ptr (.agg [.lit (.string [116, 104, 101, 114, 101, 32, 105, 115, 32, 110, 111, 110, 101])]))
def laid_turnkey_api_ErrFull {H : Type} : DataW H := .iface "*errors.errorString" (.ptr (.agg [.lit (.string [116, 104, 101, 114, 101, 32, 105, 115, 32, 110, 111, 32, 114, 111, 111, 109])]))
def laid_turnkey_api_ErrLimit {H : Type} : DataW H := .iface "*errors.errorString" (.ptr (.agg [.lit (.string [97, 116, 32, 105, 116, 115, 32, 108, 105, 109, 105, 116])]))
def laid_turnkey_api_ErrOwn {H : Type} : DataW H := .iface "*errors.errorString" (.ptr (.agg [.lit (.string [110, 111, 116, 32, 111, 110, 101, 32, 111, 102, 32, 105, 116, 115, 32, 111, 119, 110])]))
def laid_turnkey_api_ErrState {H : Type} : DataW H := .iface "*errors.errorString" (.ptr (.agg [.lit (.string [110, 111, 116, 32, 105, 110, 32, 116, 104, 105, 115, 32, 115, 116, 97, 116, 101])]))
def laid_turnkey_api_ErrRight {H : Type} : DataW H := .iface "*errors.errorString" (.ptr (.agg [.lit (.string [105, 116, 32, 108, 97, 99, 107, 115, 32, 116, 104, 101, 32, 114, 105, 103, 104, 116])]))

/-- 'turnkeylaw22.ObjectBanks': WHATEVER THE INPUT: true; the input reads as it did. -/
def objectBanksSpec : ChangeSpec := { name := "objectBanks", fn := fun _ => fun
  | [d1, d2] => { results := [.lit (.bool true)], args := [d1, d2] }
  | _ => none }
def objectBanksRow : OpenClaim := { program := "ytblmlpebhfbceaagreatdoor", sum := "cf220c84690d1e3c70300cc9519640f832c819fde9e67f050572c4ba8f5bf952", func := "turnkey/turnkeylaw22.ObjectBanks", spec := "objectBanks", inPlace := ["internal/reflectlite.TypeOf"], unfollowed := true, recurses := true, named := ["turnkey/api.ErrRange", "turnkey/api.ErrShape", "turnkey/api.ErrNone", "turnkey/api.ErrRight", "turnkey/api.ErrLimit", "turnkey/api.ErrMany", "turnkey/api.ErrFull", "turnkey/api.ErrOwn", "turnkey/api.ErrState"], plainKeys := false, apart := false, laid := [("turnkey/api.ErrShape", laid_turnkey_api_ErrShape), ("turnkey/api.ErrRange", laid_turnkey_api_ErrRange), ("turnkey/api.ErrMany", laid_turnkey_api_ErrMany), ("turnkey/api.ErrNone", laid_turnkey_api_ErrNone), ("turnkey/api.ErrFull", laid_turnkey_api_ErrFull), ("turnkey/api.ErrLimit", laid_turnkey_api_ErrLimit), ("turnkey/api.ErrOwn", laid_turnkey_api_ErrOwn), ("turnkey/api.ErrState", laid_turnkey_api_ErrState), ("turnkey/api.ErrRight", laid_turnkey_api_ErrRight)] }
def ObjectBanksSaid : Prop := objectBanksRow.holds Tryz.pinned (OpenSpec.ofChange objectBanksSpec)

/-- ITS FALSE NEIGHBOUR: 'it returns false'. Refute it at one input. -/
def objectBanksWrong : ChangeSpec := { name := "objectBanks", fn := fun _ => fun
  | [d1, d2] => { results := [.lit (.bool false)], args := [d1, d2] }
  | _ => none }
def ObjectBanksWrongFalsely : Prop := objectBanksRow.holds Tryz.pinned (OpenSpec.ofChange objectBanksWrong)

/-- 'turnkeylaw22.ObjectJudges': WHATEVER THE INPUT: true; the input reads as it did. -/
def objectJudgesSpec : ChangeSpec := { name := "objectJudges", fn := fun _ => fun
  | [d1, d2] => { results := [.lit (.bool true)], args := [d1, d2] }
  | _ => none }
def objectJudgesRow : OpenClaim := { program := "ytblmlpebhfbceaagreatdoor", sum := "cf220c84690d1e3c70300cc9519640f832c819fde9e67f050572c4ba8f5bf952", func := "turnkey/turnkeylaw22.ObjectJudges", spec := "objectJudges", inPlace := ["internal/reflectlite.TypeOf"], unfollowed := true, recurses := true, named := ["turnkey/api.ErrRange", "turnkey/api.ErrShape", "turnkey/api.ErrNone", "turnkey/api.ErrRight", "turnkey/api.ErrLimit", "turnkey/api.ErrMany", "turnkey/api.ErrFull", "turnkey/api.ErrOwn", "turnkey/api.ErrState"], plainKeys := false, apart := false, laid := [("turnkey/api.ErrShape", laid_turnkey_api_ErrShape), ("turnkey/api.ErrRange", laid_turnkey_api_ErrRange), ("turnkey/api.ErrMany", laid_turnkey_api_ErrMany), ("turnkey/api.ErrNone", laid_turnkey_api_ErrNone), ("turnkey/api.ErrFull", laid_turnkey_api_ErrFull), ("turnkey/api.ErrLimit", laid_turnkey_api_ErrLimit), ("turnkey/api.ErrOwn", laid_turnkey_api_ErrOwn), ("turnkey/api.ErrState", laid_turnkey_api_ErrState), ("turnkey/api.ErrRight", laid_turnkey_api_ErrRight)] }
def ObjectJudgesSaid : Prop := objectJudgesRow.holds Tryz.pinned (OpenSpec.ofChange objectJudgesSpec)

/-- ITS FALSE NEIGHBOUR: 'it returns false'. Refute it at one input. -/
def objectJudgesWrong : ChangeSpec := { name := "objectJudges", fn := fun _ => fun
  | [d1, d2] => { results := [.lit (.bool false)], args := [d1, d2] }
  | _ => none }
def ObjectJudgesWrongFalsely : Prop := objectJudgesRow.holds Tryz.pinned (OpenSpec.ofChange objectJudgesWrong)

/-- 'turnkeylaw22.ObjectDomains': WHATEVER THE INPUT: true; the input reads as it did. -/
def objectDomainsSpec : ChangeSpec := { name := "objectDomains", fn := fun _ => fun
  | [d1, d2, d3] => { results := [.lit (.bool true)], args := [d1, d2, d3] }
  | _ => none }
def objectDomainsRow : OpenClaim := { program := "ytblmlpebhfbceaagreatdoor", sum := "cf220c84690d1e3c70300cc9519640f832c819fde9e67f050572c4ba8f5bf952", func := "turnkey/turnkeylaw22.ObjectDomains", spec := "objectDomains", inPlace := ["internal/reflectlite.TypeOf"], unfollowed := true, recurses := true, named := ["turnkey/api.ErrRange", "turnkey/api.ErrShape", "turnkey/api.ErrNone", "turnkey/api.ErrRight", "turnkey/api.ErrLimit", "turnkey/api.ErrMany", "turnkey/api.ErrFull", "turnkey/api.ErrOwn", "turnkey/api.ErrState"], plainKeys := false, apart := false, laid := [("turnkey/api.ErrShape", laid_turnkey_api_ErrShape), ("turnkey/api.ErrRange", laid_turnkey_api_ErrRange), ("turnkey/api.ErrMany", laid_turnkey_api_ErrMany), ("turnkey/api.ErrNone", laid_turnkey_api_ErrNone), ("turnkey/api.ErrFull", laid_turnkey_api_ErrFull), ("turnkey/api.ErrLimit", laid_turnkey_api_ErrLimit), ("turnkey/api.ErrOwn", laid_turnkey_api_ErrOwn), ("turnkey/api.ErrState", laid_turnkey_api_ErrState), ("turnkey/api.ErrRight", laid_turnkey_api_ErrRight)] }
def ObjectDomainsSaid : Prop := objectDomainsRow.holds Tryz.pinned (OpenSpec.ofChange objectDomainsSpec)

/-- ITS FALSE NEIGHBOUR: 'it returns false'. Refute it at one input. -/
def objectDomainsWrong : ChangeSpec := { name := "objectDomains", fn := fun _ => fun
  | [d1, d2, d3] => { results := [.lit (.bool false)], args := [d1, d2, d3] }
  | _ => none }
def ObjectDomainsWrongFalsely : Prop := objectDomainsRow.holds Tryz.pinned (OpenSpec.ofChange objectDomainsWrong)

/-- 'turnkeylaw23.GateCalls': WHATEVER THE INPUT: true; the input reads as it did. -/
def gateCallsSpec : ChangeSpec := { name := "gateCalls", fn := fun _ => fun
  | [d1, d2, d3] => { results := [.lit (.bool true)], args := [d1, d2, d3] }
  | _ => none }
def gateCallsRow : OpenClaim := { program := "ytblmlpebhfbceaagreatdoor", sum := "cf220c84690d1e3c70300cc9519640f832c819fde9e67f050572c4ba8f5bf952", func := "turnkey/turnkeylaw23.GateCalls", spec := "gateCalls", inPlace := ["internal/reflectlite.TypeOf"], unfollowed := true, recurses := true, named := ["turnkey/api.ErrRange", "turnkey/api.ErrMany", "turnkey/api.ErrFull", "turnkey/api.ErrNone", "turnkey/api.ErrLimit", "turnkey/api.ErrShape", "turnkey/api.ErrState", "turnkey/api.ErrRight", "turnkey/api.ErrOwn"], plainKeys := false, apart := false, laid := [("turnkey/api.ErrShape", laid_turnkey_api_ErrShape), ("turnkey/api.ErrRange", laid_turnkey_api_ErrRange), ("turnkey/api.ErrMany", laid_turnkey_api_ErrMany), ("turnkey/api.ErrNone", laid_turnkey_api_ErrNone), ("turnkey/api.ErrFull", laid_turnkey_api_ErrFull), ("turnkey/api.ErrLimit", laid_turnkey_api_ErrLimit), ("turnkey/api.ErrOwn", laid_turnkey_api_ErrOwn), ("turnkey/api.ErrState", laid_turnkey_api_ErrState), ("turnkey/api.ErrRight", laid_turnkey_api_ErrRight)] }
def GateCallsSaid : Prop := gateCallsRow.holds Tryz.pinned (OpenSpec.ofChange gateCallsSpec)

/-- ITS FALSE NEIGHBOUR: 'it returns false'. Refute it at one input. -/
def gateCallsWrong : ChangeSpec := { name := "gateCalls", fn := fun _ => fun
  | [d1, d2, d3] => { results := [.lit (.bool false)], args := [d1, d2, d3] }
  | _ => none }
def GateCallsWrongFalsely : Prop := gateCallsRow.holds Tryz.pinned (OpenSpec.ofChange gateCallsWrong)

/- THE SECOND FORM. 'bulk': how many values and letters a reading holds, each counted each time it is reached (what is shared counts as often as it is met; a slice's spare places count too). A statement '..UptoSaid' is the law's where the arguments, and the package variables that the reading takes, are together of bulk at most 1048576: NARROWER than '..Said'. Prove '..Said' where nothing that the law and all that it calls make is longer than what came in: it says more and counts as full. Else prove '..UptoSaid'. A law counts once. -/
mutual
def uptoBulk {H : Type} : DataW H → Nat
  | .lit (.string bytes) => bytes.length + 1
  | .lit _ => 1
  | .nil => 1
  | .ptr d => uptoBulk d + 1
  | .slice elems spare => uptoBulkAll elems + uptoBulkAll spare + 1
  | .agg parts => uptoBulkAll parts + 1
  | .iface _ d => uptoBulk d + 1
  | .map entries => uptoBulkEntries entries + 1
  | .held _ => 1
def uptoBulkAll {H : Type} : List (DataW H) → Nat
  | [] => 0
  | d :: r => uptoBulk d + uptoBulkAll r
def uptoBulkEntries {H : Type} : List (Lit × DataW H) → Nat
  | [] => 0
  | x :: r => uptoBulkEntry x + uptoBulkEntries r
def uptoBulkEntry {H : Type} : Lit × DataW H → Nat
  | (.string bytes, d) => bytes.length + uptoBulk d + 1
  | (_, d) => uptoBulk d + 1
 end
def uptoSmall : (H : Type) → List (DataW H) → Bool := fun _ ds => decide (uptoBulkAll ds ≤ 1048576)
def OpenSpec.upto (s : _root_.Go.ChangeSpec) : _root_.Go.OpenSpec := { _root_.Go.OpenSpec.ofChange s with cond := some uptoSmall }

/-- 'turnkeylaw22.ObjectBanks', WHERE WHAT IT READS IS OF BULK AT MOST 1048576: true; the input reads as it did. -/
def objectBanksUptoRow : OpenClaim := { program := "ytblmlpebhfbceaagreatdoor", sum := "cf220c84690d1e3c70300cc9519640f832c819fde9e67f050572c4ba8f5bf952", func := "turnkey/turnkeylaw22.ObjectBanks", spec := "objectBanks", inPlace := ["internal/reflectlite.TypeOf"], unfollowed := true, recurses := true, named := ["turnkey/api.ErrRange", "turnkey/api.ErrShape", "turnkey/api.ErrNone", "turnkey/api.ErrRight", "turnkey/api.ErrLimit", "turnkey/api.ErrMany", "turnkey/api.ErrFull", "turnkey/api.ErrOwn", "turnkey/api.ErrState"], plainKeys := false, apart := false, laid := [("turnkey/api.ErrShape", laid_turnkey_api_ErrShape), ("turnkey/api.ErrRange", laid_turnkey_api_ErrRange), ("turnkey/api.ErrMany", laid_turnkey_api_ErrMany), ("turnkey/api.ErrNone", laid_turnkey_api_ErrNone), ("turnkey/api.ErrFull", laid_turnkey_api_ErrFull), ("turnkey/api.ErrLimit", laid_turnkey_api_ErrLimit), ("turnkey/api.ErrOwn", laid_turnkey_api_ErrOwn), ("turnkey/api.ErrState", laid_turnkey_api_ErrState), ("turnkey/api.ErrRight", laid_turnkey_api_ErrRight)], narrowed := true }
def ObjectBanksUptoSaid : Prop := objectBanksUptoRow.holds Tryz.pinned (OpenSpec.upto objectBanksSpec)

/-- 'turnkeylaw22.ObjectJudges', WHERE WHAT IT READS IS OF BULK AT MOST 1048576: true; the input reads as it did. -/
def objectJudgesUptoRow : OpenClaim := { program := "ytblmlpebhfbceaagreatdoor", sum := "cf220c84690d1e3c70300cc9519640f832c819fde9e67f050572c4ba8f5bf952", func := "turnkey/turnkeylaw22.ObjectJudges", spec := "objectJudges", inPlace := ["internal/reflectlite.TypeOf"], unfollowed := true, recurses := true, named := ["turnkey/api.ErrRange", "turnkey/api.ErrShape", "turnkey/api.ErrNone", "turnkey/api.ErrRight", "turnkey/api.ErrLimit", "turnkey/api.ErrMany", "turnkey/api.ErrFull", "turnkey/api.ErrOwn", "turnkey/api.ErrState"], plainKeys := false, apart := false, laid := [("turnkey/api.ErrShape", laid_turnkey_api_ErrShape), ("turnkey/api.ErrRange", laid_turnkey_api_ErrRange), ("turnkey/api.ErrMany", laid_turnkey_api_ErrMany), ("turnkey/api.ErrNone", laid_turnkey_api_ErrNone), ("turnkey/api.ErrFull", laid_turnkey_api_ErrFull), ("turnkey/api.ErrLimit", laid_turnkey_api_ErrLimit), ("turnkey/api.ErrOwn", laid_turnkey_api_ErrOwn), ("turnkey/api.ErrState", laid_turnkey_api_ErrState), ("turnkey/api.ErrRight", laid_turnkey_api_ErrRight)], narrowed := true }
def ObjectJudgesUptoSaid : Prop := objectJudgesUptoRow.holds Tryz.pinned (OpenSpec.upto objectJudgesSpec)

/-- 'turnkeylaw22.ObjectDomains', WHERE WHAT IT READS IS OF BULK AT MOST 1048576: true; the input reads as it did. -/
def objectDomainsUptoRow : OpenClaim := { program := "ytblmlpebhfbceaagreatdoor", sum := "cf220c84690d1e3c70300cc9519640f832c819fde9e67f050572c4ba8f5bf952", func := "turnkey/turnkeylaw22.ObjectDomains", spec := "objectDomains", inPlace := ["internal/reflectlite.TypeOf"], unfollowed := true, recurses := true, named := ["turnkey/api.ErrRange", "turnkey/api.ErrShape", "turnkey/api.ErrNone", "turnkey/api.ErrRight", "turnkey/api.ErrLimit", "turnkey/api.ErrMany", "turnkey/api.ErrFull", "turnkey/api.ErrOwn", "turnkey/api.ErrState"], plainKeys := false, apart := false, laid := [("turnkey/api.ErrShape", laid_turnkey_api_ErrShape), ("turnkey/api.ErrRange", laid_turnkey_api_ErrRange), ("turnkey/api.ErrMany", laid_turnkey_api_ErrMany), ("turnkey/api.ErrNone", laid_turnkey_api_ErrNone), ("turnkey/api.ErrFull", laid_turnkey_api_ErrFull), ("turnkey/api.ErrLimit", laid_turnkey_api_ErrLimit), ("turnkey/api.ErrOwn", laid_turnkey_api_ErrOwn), ("turnkey/api.ErrState", laid_turnkey_api_ErrState), ("turnkey/api.ErrRight", laid_turnkey_api_ErrRight)], narrowed := true }
def ObjectDomainsUptoSaid : Prop := objectDomainsUptoRow.holds Tryz.pinned (OpenSpec.upto objectDomainsSpec)

/-- 'turnkeylaw23.GateCalls', WHERE WHAT IT READS IS OF BULK AT MOST 1048576: true; the input reads as it did. -/
def gateCallsUptoRow : OpenClaim := { program := "ytblmlpebhfbceaagreatdoor", sum := "cf220c84690d1e3c70300cc9519640f832c819fde9e67f050572c4ba8f5bf952", func := "turnkey/turnkeylaw23.GateCalls", spec := "gateCalls", inPlace := ["internal/reflectlite.TypeOf"], unfollowed := true, recurses := true, named := ["turnkey/api.ErrRange", "turnkey/api.ErrMany", "turnkey/api.ErrFull", "turnkey/api.ErrNone", "turnkey/api.ErrLimit", "turnkey/api.ErrShape", "turnkey/api.ErrState", "turnkey/api.ErrRight", "turnkey/api.ErrOwn"], plainKeys := false, apart := false, laid := [("turnkey/api.ErrShape", laid_turnkey_api_ErrShape), ("turnkey/api.ErrRange", laid_turnkey_api_ErrRange), ("turnkey/api.ErrMany", laid_turnkey_api_ErrMany), ("turnkey/api.ErrNone", laid_turnkey_api_ErrNone), ("turnkey/api.ErrFull", laid_turnkey_api_ErrFull), ("turnkey/api.ErrLimit", laid_turnkey_api_ErrLimit), ("turnkey/api.ErrOwn", laid_turnkey_api_ErrOwn), ("turnkey/api.ErrState", laid_turnkey_api_ErrState), ("turnkey/api.ErrRight", laid_turnkey_api_ErrRight)], narrowed := true }
def GateCallsUptoSaid : Prop := gateCallsUptoRow.holds Tryz.pinned (OpenSpec.upto gateCallsSpec)

end Rows
end Go.Proofs.YtblmlpebhfbceaaGreatDoor
