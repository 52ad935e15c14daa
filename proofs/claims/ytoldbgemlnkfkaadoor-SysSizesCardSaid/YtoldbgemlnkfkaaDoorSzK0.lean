/- sysSizes: calls that are run once, and the runs of the cases (part 0). -/
import Derived.Test.YtoldbgemlnkfkaaDoorEvSzF
set_option linter.unusedVariables false
set_option maxRecDepth 10000000
namespace Go.Proofs.YtoldbgemlnkfkaaDoor.sysSizes
open Tk
open Go.RowKit
noncomputable def h0 : H := sentH 225 12 errTab
noncomputable def p0 : Pur := ([], bT, 1048576)
theorem p0_run : ranPure (evCall (cxX Tryd.prog bad [] [] []) 1000 60 5 p0.1 ⟨.lf, p0.2.2⟩) p0.2.1 = true := by kernel_rfl
theorem p0_ok {σ : Nat → Int} {W0 : World} (hL : L0 W0) : PureOk Tryd.prog 4095 σ W0 5 p0 := pure_ok fit (Known2.nil σ) (FnsOk.nil) p0_run
noncomputable def h1 : H := hUpd h0 62 [] [(24, .cells 1099511627776 ([[.int .i64 (.var 0), .int .i64 (.var 1), .int .i64 (.var 2), .int .i64 (.var 3), .int .i64 (.var 4), .int .i64 (.var 5)]]) true)] []
noncomputable def h2 : H := hUpd h1 65 [] [] []
noncomputable def m1 : Memo := ⟨[.int .i64 (.var 2)], h1, .tuple [.pnil, .iface 225 (.ptr 14 0)], h2⟩
theorem m1_run : ranTo (evCall (cxX Tryd.prog bad [(1, 256), (1, 256), ((-9223372036854775808), 0), ((-9223372036854775808), 9223372036854775807), ((-9223372036854775808), 9223372036854775807), ((-9223372036854775808), 9223372036854775807)] [] []) 1000 60 23 m1.args m1.h) m1.v m1.h' = true := by kernel_rfl
theorem m1_ok {σ : Nat → Int} {W0 : World} (hL : L0 W0) (hk : Known2 σ [(1, 256), (1, 256), ((-9223372036854775808), 0), ((-9223372036854775808), 9223372036854775807), ((-9223372036854775808), 9223372036854775807), ((-9223372036854775808), 9223372036854775807)] []) : MemoOk Tryd.prog 4095 σ W0 23 m1 := memo_ok fit hk (FnsOk.nil) m1_run
noncomputable def m2 : Memo := ⟨[.int .i64 (.var 2)], h1, .tuple [.pnil, .iface 225 (.ptr 14 0)], h2⟩
theorem m2_run : ranTo (evCall (cxX Tryd.prog bad [(1, 256), (1, 256), (257, 9223372036854775807), ((-9223372036854775808), 9223372036854775807), ((-9223372036854775808), 9223372036854775807), ((-9223372036854775808), 9223372036854775807)] [] []) 1000 60 23 m2.args m2.h) m2.v m2.h' = true := by kernel_rfl
theorem m2_ok {σ : Nat → Int} {W0 : World} (hL : L0 W0) (hk : Known2 σ [(1, 256), (1, 256), (257, 9223372036854775807), ((-9223372036854775808), 9223372036854775807), ((-9223372036854775808), 9223372036854775807), ((-9223372036854775808), 9223372036854775807)] []) : MemoOk Tryd.prog 4095 σ W0 23 m2 := memo_ok fit hk (FnsOk.nil) m2_run
noncomputable def h3 : H := hUpd h1 69 [] [(66, .cells 1 ([[.snil]]) false),
  (68, .cells 1 ([[.ptr 66 0]]) false),
  (65, .cells 3 ([[.ptr 63 0, .vsl (.var 2), .slice 68 0 1 1 1 false]]) false),
  (63, .cells 1 ([[.vsl (.var 2)]]) false)] []
noncomputable def m3 : Memo := ⟨[.int .i64 (.var 2)], h1, .tuple [.ptr 65 0, .inil], h3⟩
theorem m3_run : ranTo (evCall (cxX Tryd.prog bad [(1, 256), (1, 256), (1, 1), ((-9223372036854775808), 9223372036854775807), ((-9223372036854775808), 9223372036854775807), ((-9223372036854775808), 9223372036854775807)] [] []) 1000 60 23 m3.args m3.h) m3.v m3.h' = true := by kernel_rfl
theorem m3_ok {σ : Nat → Int} {W0 : World} (hL : L0 W0) (hk : Known2 σ [(1, 256), (1, 256), (1, 1), ((-9223372036854775808), 9223372036854775807), ((-9223372036854775808), 9223372036854775807), ((-9223372036854775808), 9223372036854775807)] []) : MemoOk Tryd.prog 4095 σ W0 23 m3 := memo_ok fit hk (FnsOk.nil) m3_run
abbrev Fx := List (Bool × E × E × Bool)
abbrev CaseR (h : H) (rng : Rg) (facts : Fx) (tab : NumTabE) (vs : List V) : Prop := ∀ {σ : Nat → Int} {W : World} {ρ : Inj}, L0 W → Known2 σ rng facts → TabOk Tryd.prog bad 11 σ tab → Rel σ W ρ h W → Glob 4095 ρ → ∀ {xs : Array Value}, VRs σ ρ vs xs.toList → Calls Tryd.prog 3 xs W fun e w' => e = .returned (.bool true) ∧ Below W.heap.size W w'
theorem caseR {h : H} {rng : Rg} {facts : Fx} {tab : NumTabE} {vs : List V} {fs : Fns} (hx : ∀ {σ : Nat → Int} {W : World}, L0 W → Known2 σ rng facts → TabOk Tryd.prog bad 11 σ tab → FnsOk Tryd.prog 4095 σ W fs)
    (run : isTrue (evCall (cxX Tryd.prog bad rng facts fs) 1000 60 3 vs h) = true) : CaseR h rng facts tab vs := by
  intro σ W ρ hL hk hT R g xs hv
  exact law_case_r fit (by kernel_rfl) hk (hx hL hk hT) R g hv ⟨_, Tryd.func3, rfl⟩ run
theorem caseW {h : H} {rng : Rg} {facts : Fx} {vs : List V} {fns : Fx → Fns} {w : Tk.Way} (hx : ∀ {σ : Nat → Int} {W : World}, L0 W → ∀ ws, Known2 σ rng ws → FnsOk Tryd.prog 4095 σ W (fns ws))
    (run : lawWays Tryd.prog bad fns 1000 60 3 vs rng h w facts = true) : CaseR h rng facts [] vs := by
  intro σ W ρ hL hk hT R g xs hv
  exact law_ways_r fit (by kernel_rfl) (hx hL) R g hv ⟨_, Tryd.func3, rfl⟩ hk run
theorem caseBy {h : H} {rng : Rg} {facts : Fx} {tab : NumTabE} {vs : List V} (q : Bool) (x y : E) (a : CaseR h rng ((q, x, y, true) :: facts) tab vs) (b : CaseR h rng ((q, x, y, false) :: facts) tab vs) : CaseR h rng facts tab vs := by
  intro σ W ρ hL hk hT R g xs hv
  exact hk.by_ q x y (fun k => a hL k hT R g hv) (fun k => b hL k hT R g hv)
noncomputable def fk2 (b : E) (x y : Tk.Way) : Tk.Way := .fork true b (.lit 0) x (.fork true b (.lit 1) y (.gone b 0 2))
abbrev a0 (b : E) (l : Fx) : Fx := (true, b, .lit 0, true) :: l
abbrev n0 (b : E) (l : Fx) : Fx := (true, b, .lit 0, false) :: l
abbrev a1 (b : E) (l : Fx) : Fx := (true, b, .lit 1, true) :: l
abbrev n1 (b : E) (l : Fx) : Fx := (true, b, .lit 1, false) :: l
end Go.Proofs.YtoldbgemlnkfkaaDoor.sysSizes
