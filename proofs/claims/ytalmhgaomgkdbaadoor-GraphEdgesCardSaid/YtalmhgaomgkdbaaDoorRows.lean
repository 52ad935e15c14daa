/-
  NARROWER THAN 'FOR EVERY INPUT', by the rows' own cells (each row's printed sentence says how): SysGone: laid · GraphEdges: laid.
  DERIVED. THE GIVEN ROWS OF THIS SEAT. 2 by the template 'for every input the law returns true; each argument reads behind the call as it read before'; 0 by the template 'total and deterministic' (their statements: YtalmhgaomgkdbaaDoorTotals.lean).
  GIVEN WITH THE SEED: the statements are not yours to turn. If you find one false, say at which input.
  Laid BY PROGRAM, IN A SANDBOX (cutbox-rows.mjs): the forced cells as the released guide's own fill.sh prints them over the translation 9986a93049b6ce61… (all of the seat's roots in one cut). By AI agents, Wed Nov 11 2026. No macro, syntax, notation, axiom, sorry.
-/
import Derived.Test.YtalmhgaomgkdbaaDoorChecked
import GoSem.Claim
import GoSem.ClaimJoined
import GoSem.ClaimMapViews
import Derived.JoinedTies
import Derived.KernelRfl
namespace Go.Proofs.YtalmhgaomgkdbaaDoor
/- THE CELL 'sum', in the pinned program and in every row, IS THE sha256 OF THE DUMP (.gsa) THAT YtalmhgaomgkdbaaDoorProg.lean LOADS. Nothing in Lean hashes anything: it is a label: what it is worth is what the hold of that sum in a sandbox is worth. -/
noncomputable def Tryd.pinned : Pinned := { name := "ytalmhgaomgkdbaadoor", sum := "9986a93049b6ce61cc23ab9b9c95b223d2edc185cfd7ae0716ed84ca85e689cf", checked := Tryd.checked }
namespace Rows
def none {H : Type} : Left H := { results := [], args := [] }

/- WHAT THE LISTED PACKAGE-LEVEL VARIABLES READ AS WHEN THE CALL BEGINS. Each datum BY PROGRAM (the guide's laid-datum.mjs) off the statement by which the dump's own 'gosem.cut.vars' lays the variable. In a bare row this is a premise. The card (YtalmhgaomgkdbaaDoorCards.lean) ties it to the program's text. -/
def laid_turnkey_api_ErrShape {H : Type} : DataW H := .iface "*errors.errorString" (.ptr (.agg [.lit (.string [110, 111, 116, 32, 97, 115, 32, 105, 116, 32, 104, 97, 115, 32, 116, 111, 32, 98, 101])]))
def laid_turnkey_api_ErrRange {H : Type} : DataW H := .iface "*errors.errorString" (.ptr (.agg [.lit (.string [97, 32, 110, 117, 109, 98, 101, 114, 32, 111, 117, 116, 32, 111, 102, 32, 105, 116, 115, 32, 114, 97, 110, 103, 101])]))
def laid_turnkey_api_ErrMany {H : Type} : DataW H := .iface "*errors.errorString" (.ptr (.agg [.lit (.string [116, 111, 111, 32, 109, 97, 110, 121])]))
def laid_turnkey_api_ErrNone {H : Type} : DataW H := .iface "*errors.errorString" (.ptr (.agg [.lit (.string [116, 104, 101, 114, 101, 32, 105, 115, 32, 110, 111, 110, 101])]))
def laid_turnkey_api_ErrFull {H : Type} : DataW H := .iface "*errors.errorString" (.ptr (.agg [.lit (.string [116, 104, 101, 114, 101, 32, 105, 115, 32, 110, 111, 32, 114, 111, 111, 109])]))
def laid_turnkey_api_ErrLimit {H : Type} : DataW H := .iface "*errors.errorString" (.ptr (.agg [.lit (.string [97, 116, 32, 105, 116, 115, 32, 108, 105, 109, 105, 116])]))
def laid_turnkey_api_ErrOwn {H : Type} : DataW H := .iface "*errors.errorString" (.ptr (.agg [.lit (.string [110, 111, 116, 32, 111, 110, 101, 32, 111, 102, 32, 105, 116, 115, 32, 111, 119, 110])]))

/-- 'turnkeylaw21.SysGone': WHATEVER THE INPUT: true; the input reads as it did. -/
def sysGoneSpec : ChangeSpec := { name := "sysGone", fn := fun _ => fun
  | [d] => { results := [.lit (.bool true)], args := [d] }
  | _ => none }
def sysGoneRow : OpenClaim := { program := "ytalmhgaomgkdbaadoor", sum := "9986a93049b6ce61cc23ab9b9c95b223d2edc185cfd7ae0716ed84ca85e689cf", func := "turnkey/turnkeylaw21.SysGone", spec := "sysGone", unfollowed := true, recurses := true, named := ["turnkey/api.ErrRange", "turnkey/api.ErrMany", "turnkey/api.ErrFull", "turnkey/api.ErrShape", "turnkey/api.ErrNone", "turnkey/api.ErrLimit", "turnkey/api.ErrOwn"], plainKeys := false, apart := false, laid := [("turnkey/api.ErrShape", laid_turnkey_api_ErrShape), ("turnkey/api.ErrRange", laid_turnkey_api_ErrRange), ("turnkey/api.ErrMany", laid_turnkey_api_ErrMany), ("turnkey/api.ErrNone", laid_turnkey_api_ErrNone), ("turnkey/api.ErrFull", laid_turnkey_api_ErrFull), ("turnkey/api.ErrLimit", laid_turnkey_api_ErrLimit), ("turnkey/api.ErrOwn", laid_turnkey_api_ErrOwn)] }
def SysGoneSaid : Prop := sysGoneRow.holds Tryd.pinned (OpenSpec.ofChange sysGoneSpec)

/-- ITS FALSE NEIGHBOUR: 'it returns false'. Refute it at one input. -/
def sysGoneWrong : ChangeSpec := { name := "sysGone", fn := fun _ => fun
  | [d] => { results := [.lit (.bool false)], args := [d] }
  | _ => none }
def SysGoneWrongFalsely : Prop := sysGoneRow.holds Tryd.pinned (OpenSpec.ofChange sysGoneWrong)

/-- 'turnkeylaw25.GraphEdges': WHATEVER THE INPUT: true; the input reads as it did. -/
def graphEdgesSpec : ChangeSpec := { name := "graphEdges", fn := fun _ => fun
  | [d1, d2, d3] => { results := [.lit (.bool true)], args := [d1, d2, d3] }
  | _ => none }
def graphEdgesRow : OpenClaim := { program := "ytalmhgaomgkdbaadoor", sum := "9986a93049b6ce61cc23ab9b9c95b223d2edc185cfd7ae0716ed84ca85e689cf", func := "turnkey/turnkeylaw25.GraphEdges", spec := "graphEdges", unfollowed := true, recurses := true, named := ["turnkey/api.ErrRange", "turnkey/api.ErrShape", "turnkey/api.ErrMany", "turnkey/api.ErrFull", "turnkey/api.ErrNone", "turnkey/api.ErrLimit"], plainKeys := false, apart := false, laid := [("turnkey/api.ErrShape", laid_turnkey_api_ErrShape), ("turnkey/api.ErrRange", laid_turnkey_api_ErrRange), ("turnkey/api.ErrMany", laid_turnkey_api_ErrMany), ("turnkey/api.ErrNone", laid_turnkey_api_ErrNone), ("turnkey/api.ErrFull", laid_turnkey_api_ErrFull), ("turnkey/api.ErrLimit", laid_turnkey_api_ErrLimit)] }
def GraphEdgesSaid : Prop := graphEdgesRow.holds Tryd.pinned (OpenSpec.ofChange graphEdgesSpec)

/-- ITS FALSE NEIGHBOUR: 'it returns false'. Refute it at one input. -/
def graphEdgesWrong : ChangeSpec := { name := "graphEdges", fn := fun _ => fun
  | [d1, d2, d3] => { results := [.lit (.bool false)], args := [d1, d2, d3] }
  | _ => none }
def GraphEdgesWrongFalsely : Prop := graphEdgesRow.holds Tryd.pinned (OpenSpec.ofChange graphEdgesWrong)

/- THE SECOND FORM. 'bulk': how many values and letters a reading holds, each counted each time it is reached (what is shared counts as often as it is met; a slice's spare places count too). A statement '..UptoSaid' is the law's where the arguments, and the package variables that the reading takes, are together of bulk at most 1048576: NARROWER than '..Said'. Prove '..Said' where nothing that the law and all that it calls make is longer than what came in: it says more and counts as full. Else prove '..UptoSaid'. A law counts once. -/
mutual
def uptoBulk {H : Type} : DataW H → Nat
  | .lit (.string bytes) => bytes.length + 1
  | .lit _ => 1
  | .nil => 1
  | .ptr d => uptoBulk d + 1
  | .slice elems spare => uptoBulkAll elems + uptoBulkAll spare + 1
  | .agg parts => uptoBulkAll parts + 1
  | .iface _ d => uptoBulk d + 1
  | .map entries => uptoBulkEntries entries + 1
  | .held _ => 1
def uptoBulkAll {H : Type} : List (DataW H) → Nat
  | [] => 0
  | d :: r => uptoBulk d + uptoBulkAll r
def uptoBulkEntries {H : Type} : List (Lit × DataW H) → Nat
  | [] => 0
  | x :: r => uptoBulkEntry x + uptoBulkEntries r
def uptoBulkEntry {H : Type} : Lit × DataW H → Nat
  | (.string bytes, d) => bytes.length + uptoBulk d + 1
  | (_, d) => uptoBulk d + 1
 end
def uptoSmall : (H : Type) → List (DataW H) → Bool := fun _ ds => decide (uptoBulkAll ds ≤ 1048576)
def OpenSpec.upto (s : _root_.Go.ChangeSpec) : _root_.Go.OpenSpec := { _root_.Go.OpenSpec.ofChange s with cond := some uptoSmall }

/-- 'turnkeylaw21.SysGone', WHERE WHAT IT READS IS OF BULK AT MOST 1048576: true; the input reads as it did. -/
def sysGoneUptoRow : OpenClaim := { program := "ytalmhgaomgkdbaadoor", sum := "9986a93049b6ce61cc23ab9b9c95b223d2edc185cfd7ae0716ed84ca85e689cf", func := "turnkey/turnkeylaw21.SysGone", spec := "sysGone", unfollowed := true, recurses := true, named := ["turnkey/api.ErrRange", "turnkey/api.ErrMany", "turnkey/api.ErrFull", "turnkey/api.ErrShape", "turnkey/api.ErrNone", "turnkey/api.ErrLimit", "turnkey/api.ErrOwn"], plainKeys := false, apart := false, laid := [("turnkey/api.ErrShape", laid_turnkey_api_ErrShape), ("turnkey/api.ErrRange", laid_turnkey_api_ErrRange), ("turnkey/api.ErrMany", laid_turnkey_api_ErrMany), ("turnkey/api.ErrNone", laid_turnkey_api_ErrNone), ("turnkey/api.ErrFull", laid_turnkey_api_ErrFull), ("turnkey/api.ErrLimit", laid_turnkey_api_ErrLimit), ("turnkey/api.ErrOwn", laid_turnkey_api_ErrOwn)], narrowed := true }
def SysGoneUptoSaid : Prop := sysGoneUptoRow.holds Tryd.pinned (OpenSpec.upto sysGoneSpec)

/-- 'turnkeylaw25.GraphEdges', WHERE WHAT IT READS IS OF BULK AT MOST 1048576: true; the input reads as it did. -/
def graphEdgesUptoRow : OpenClaim := { program := "ytalmhgaomgkdbaadoor", sum := "9986a93049b6ce61cc23ab9b9c95b223d2edc185cfd7ae0716ed84ca85e689cf", func := "turnkey/turnkeylaw25.GraphEdges", spec := "graphEdges", unfollowed := true, recurses := true, named := ["turnkey/api.ErrRange", "turnkey/api.ErrShape", "turnkey/api.ErrMany", "turnkey/api.ErrFull", "turnkey/api.ErrNone", "turnkey/api.ErrLimit"], plainKeys := false, apart := false, laid := [("turnkey/api.ErrShape", laid_turnkey_api_ErrShape), ("turnkey/api.ErrRange", laid_turnkey_api_ErrRange), ("turnkey/api.ErrMany", laid_turnkey_api_ErrMany), ("turnkey/api.ErrNone", laid_turnkey_api_ErrNone), ("turnkey/api.ErrFull", laid_turnkey_api_ErrFull), ("turnkey/api.ErrLimit", laid_turnkey_api_ErrLimit)], narrowed := true }
def GraphEdgesUptoSaid : Prop := graphEdgesUptoRow.holds Tryd.pinned (OpenSpec.upto graphEdgesSpec)

end Rows
end Go.Proofs.YtalmhgaomgkdbaaDoor
