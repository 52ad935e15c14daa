/- sysSizes: calls that are run once, and the runs of the cases (part 2). -/
import Derived.Test.YtoldbgemlnkfkaaDoorSzK1
set_option linter.unusedVariables false
set_option maxRecDepth 10000000
namespace Go.Proofs.YtoldbgemlnkfkaaDoor.sysSizes
open Tk
open Go.RowKit
theorem case0 : C0 [] := caseW (w := .run) fw0_ok (by kernel_rfl)
theorem case1 : C1 [] := caseW (w := .run) fw1_ok (by kernel_rfl)
theorem case2 : C2 [] := caseW (w := .run) fw2_ok (by kernel_rfl)
theorem case3 : C3 [] := caseW (w := .run) fw3_ok (by kernel_rfl)
theorem case4 : C4 [] := caseW (w := .run) fw4_ok (by kernel_rfl)
theorem case5 : C5 [] := caseW (w := .run) fw5_ok (by kernel_rfl)
theorem case6 : C6 [] := caseW (w := .run) fw6_ok (by kernel_rfl)
theorem case7 (m : Nat) : C7 m [] := caseW (w := .run) fw7_ok (by kernel_rfl)
theorem case8 : C8 [] := caseW (w := .run) fw8_ok (by kernel_rfl)
theorem case9 : C9 [] := caseW (w := .run) fw9_ok (by kernel_rfl)
theorem case10 : C10 [] := caseW (w := .run) fw10_ok (by kernel_rfl)
theorem case11 : C11 [] := caseW (w := .run) fw11_ok (by kernel_rfl)
theorem case12 : C12 [] := caseW (w := .run) fw12_ok (by kernel_rfl)
theorem case13 : C13 [] := caseW (w := .run) fw13_ok (by kernel_rfl)

noncomputable def rgC (n : Nat) : Rg := [(1, 256), (1, 256), (.ofNat n, .ofNat n), (-9223372036854775808, 9223372036854775807), (-9223372036854775808, 9223372036854775807), (-9223372036854775808, 9223372036854775807)]
noncomputable def ptrsC (n : Nat) : Nat → List (List V) := Nat.rec (fun _ => []) (fun _ ih r => [.ptr r 0] :: ih (r + 3)) n
noncomputable def qsC (n : Nat) : Nat → List (Nat × Ob) := Nat.rec (fun _ => []) (fun _ ih r => (r, .cells 1 [[.snil]] false) :: ih (r + 3)) n
noncomputable def hC (n : Nat) : H := hUpd h1 (66 + 3 * n) [] ((65 + 3 * n, .cells 1 (ptrsC n 66) false) :: (65, .cells 3 ([[.ptr 63 0, .vsl (.var 2), .slice (65 + 3 * n) 0 n n 1 false]]) false) :: (63, .cells 1 ([[.vsl (.var 2)]]) false) :: qsC n 66) []
noncomputable def mC (n : Nat) : Memo := ⟨[.int .i64 (.var 2)], h1, .tuple [.ptr 65 0, .inil], hC n⟩
abbrev RunC (n : Nat) : Prop := ranTo (evCall (cxX Tryd.prog bad (rgC n) [] []) 1000 60 23 (mC n).args (mC n).h) (mC n).v (mC n).h' = true
theorem mC_ok {n : Nat} (run : RunC n) {σ : Nat → Int} {W0 : World} (hL : L0 W0) {ws : Fx} (hk : Known2 σ (rgC n) ws) : MemoOk Tryd.prog 4095 σ W0 23 (mC n) := memo_ok fit (facts := []) ⟨hk.rng, fun _ _ _ _ h => by cases h⟩ (FnsOk.nil) run
noncomputable def fwC (n : Nat) : Fx → Fns := fun ws => [(23, frameFn [mC n]), (5, pureFn [p0])]
theorem fwC_ok {n : Nat} (run : RunC n) {σ : Nat → Int} {W : World} (hL : L0 W) (ws : Fx) (hk : Known2 σ (rgC n) ws) : FnsOk Tryd.prog 4095 σ W (fwC n ws) := FnsOk.cons (frame_fn_ok (all_cons (mC_ok run hL hk) (all_nil))) (FnsOk.cons (pure_fn_ok (all_cons (p0_ok hL) (all_nil))) (FnsOk.nil))
noncomputable def wayC : Tk.Way := (.fork false (.var 3) (.lit 1) .run (.fork false (.lit 256) (.var 3) .run (.fork false (.var 4) (.lit 1) .run (.fork false (.lit 256) (.var 4) .run (.fork false (.var 5) (.lit 1) .run (.fork false (.lit 256) (.var 5) .run .run))))))
abbrev CC (n : Nat) : Prop := CaseR (rowH (sentH 225 12 errTab) [.int .i64 (.var 0), .int .i64 (.var 1), .int .i64 (.var 2), .int .i64 (.var 3), .int .i64 (.var 4), .int .i64 (.var 5)]) (rgC n) [] [] [.slice 24 0 6 6 1 false]
abbrev WaysC (n : Nat) : Prop := lawWays Tryd.prog bad (fwC n) 1000 60 3 [.slice 24 0 6 6 1 false] (rgC n) (rowH (sentH 225 12 errTab) [.int .i64 (.var 0), .int .i64 (.var 1), .int .i64 (.var 2), .int .i64 (.var 3), .int .i64 (.var 4), .int .i64 (.var 5)]) wayC [] = true
theorem caseC (n : Nat) (run : ranTo (evCall (cxX Tryd.prog bad (rgC n) [] []) 1000 60 23 (mC n).args (mC n).h) (mC n).v (mC n).h' = true) (w : lawWays Tryd.prog bad (fwC n) 1000 60 3 [.slice 24 0 6 6 1 false] (rgC n) (rowH (sentH 225 12 errTab) [.int .i64 (.var 0), .int .i64 (.var 1), .int .i64 (.var 2), .int .i64 (.var 3), .int .i64 (.var 4), .int .i64 (.var 5)]) wayC [] = true) : CC n := caseW (fwC_ok run) w
end Go.Proofs.YtoldbgemlnkfkaaDoor.sysSizes
