/- sysSizes: calls that are run once, and the runs of the cases (part 1). -/
import Derived.Test.YtoldbgemlnkfkaaDoorSzK0
set_option linter.unusedVariables false
set_option maxRecDepth 10000000
namespace Go.Proofs.YtoldbgemlnkfkaaDoor.sysSizes
open Tk
open Go.RowKit
noncomputable def fw0 : Fx → Fns := fun ws => [(5, pureFn [p0])]
theorem fw0_ok {σ : Nat → Int} {W : World} (hL : L0 W) (ws : Fx) (hk : Known2 σ [] ws) : FnsOk Tryd.prog 4095 σ W (fw0 ws) := FnsOk.cons (pure_fn_ok (all_cons (p0_ok hL) (all_nil))) (FnsOk.nil)
abbrev C0 (fs : Fx) : Prop := CaseR (nameH (sentH 225 12 errTab)) [] fs [] [.snil]
noncomputable def fw1 : Fx → Fns := fun ws => [(5, pureFn [p0])]
theorem fw1_ok {σ : Nat → Int} {W : World} (hL : L0 W) (ws : Fx) (hk : Known2 σ [] ws) : FnsOk Tryd.prog 4095 σ W (fw1 ws) := FnsOk.cons (pure_fn_ok (all_cons (p0_ok hL) (all_nil))) (FnsOk.nil)
abbrev C1 (fs : Fx) : Prop := CaseR (nameH (sentH 225 12 errTab)) [] fs [] [.eslice false]
noncomputable def fw2 : Fx → Fns := fun ws => [(5, pureFn [p0])]
theorem fw2_ok {σ : Nat → Int} {W : World} (hL : L0 W) (ws : Fx) (hk : Known2 σ [] ws) : FnsOk Tryd.prog 4095 σ W (fw2 ws) := FnsOk.cons (pure_fn_ok (all_cons (p0_ok hL) (all_nil))) (FnsOk.nil)
abbrev C2 (fs : Fx) : Prop := CaseR (nameH (sentH 225 12 errTab)) [] fs [] [.slice 24 0 1 1 1 false]
noncomputable def fw3 : Fx → Fns := fun ws => [(5, pureFn [p0])]
theorem fw3_ok {σ : Nat → Int} {W : World} (hL : L0 W) (ws : Fx) (hk : Known2 σ [] ws) : FnsOk Tryd.prog 4095 σ W (fw3 ws) := FnsOk.cons (pure_fn_ok (all_cons (p0_ok hL) (all_nil))) (FnsOk.nil)
abbrev C3 (fs : Fx) : Prop := CaseR (nameH (sentH 225 12 errTab)) [] fs [] [.slice 24 0 2 2 1 false]
noncomputable def fw4 : Fx → Fns := fun ws => [(5, pureFn [p0])]
theorem fw4_ok {σ : Nat → Int} {W : World} (hL : L0 W) (ws : Fx) (hk : Known2 σ [] ws) : FnsOk Tryd.prog 4095 σ W (fw4 ws) := FnsOk.cons (pure_fn_ok (all_cons (p0_ok hL) (all_nil))) (FnsOk.nil)
abbrev C4 (fs : Fx) : Prop := CaseR (nameH (sentH 225 12 errTab)) [] fs [] [.slice 24 0 3 3 1 false]
noncomputable def fw5 : Fx → Fns := fun ws => [(5, pureFn [p0])]
theorem fw5_ok {σ : Nat → Int} {W : World} (hL : L0 W) (ws : Fx) (hk : Known2 σ [] ws) : FnsOk Tryd.prog 4095 σ W (fw5 ws) := FnsOk.cons (pure_fn_ok (all_cons (p0_ok hL) (all_nil))) (FnsOk.nil)
abbrev C5 (fs : Fx) : Prop := CaseR (nameH (sentH 225 12 errTab)) [] fs [] [.slice 24 0 4 4 1 false]
noncomputable def fw6 : Fx → Fns := fun ws => [(5, pureFn [p0])]
theorem fw6_ok {σ : Nat → Int} {W : World} (hL : L0 W) (ws : Fx) (hk : Known2 σ [] ws) : FnsOk Tryd.prog 4095 σ W (fw6 ws) := FnsOk.cons (pure_fn_ok (all_cons (p0_ok hL) (all_nil))) (FnsOk.nil)
abbrev C6 (fs : Fx) : Prop := CaseR (nameH (sentH 225 12 errTab)) [] fs [] [.slice 24 0 5 5 1 false]
noncomputable def fw7 : Fx → Fns := fun ws => [(5, pureFn [p0])]
theorem fw7_ok {σ : Nat → Int} {W : World} (hL : L0 W) (ws : Fx) (hk : Known2 σ [] ws) : FnsOk Tryd.prog 4095 σ W (fw7 ws) := FnsOk.cons (pure_fn_ok (all_cons (p0_ok hL) (all_nil))) (FnsOk.nil)
abbrev C7 (m : Nat) (fs : Fx) : Prop := CaseR (nameH (sentH 225 12 errTab)) [] fs [] [.slice 24 0 (m + 7) (m + 7) 1 false]
noncomputable def fw8 : Fx → Fns := fun ws => [(5, pureFn [p0])]
theorem fw8_ok {σ : Nat → Int} {W : World} (hL : L0 W) (ws : Fx) (hk : Known2 σ [((-9223372036854775808), 0), ((-9223372036854775808), 9223372036854775807), ((-9223372036854775808), 9223372036854775807), ((-9223372036854775808), 9223372036854775807), ((-9223372036854775808), 9223372036854775807), ((-9223372036854775808), 9223372036854775807)] ws) : FnsOk Tryd.prog 4095 σ W (fw8 ws) := FnsOk.cons (pure_fn_ok (all_cons (p0_ok hL) (all_nil))) (FnsOk.nil)
abbrev C8 (fs : Fx) : Prop := CaseR (rowH (sentH 225 12 errTab) [.int .i64 (.var 0), .int .i64 (.var 1), .int .i64 (.var 2), .int .i64 (.var 3), .int .i64 (.var 4), .int .i64 (.var 5)]) [((-9223372036854775808), 0), ((-9223372036854775808), 9223372036854775807), ((-9223372036854775808), 9223372036854775807), ((-9223372036854775808), 9223372036854775807), ((-9223372036854775808), 9223372036854775807), ((-9223372036854775808), 9223372036854775807)] fs [] [.slice 24 0 6 6 1 false]
noncomputable def fw9 : Fx → Fns := fun ws => [(5, pureFn [p0])]
theorem fw9_ok {σ : Nat → Int} {W : World} (hL : L0 W) (ws : Fx) (hk : Known2 σ [(257, 9223372036854775807), ((-9223372036854775808), 9223372036854775807), ((-9223372036854775808), 9223372036854775807), ((-9223372036854775808), 9223372036854775807), ((-9223372036854775808), 9223372036854775807), ((-9223372036854775808), 9223372036854775807)] ws) : FnsOk Tryd.prog 4095 σ W (fw9 ws) := FnsOk.cons (pure_fn_ok (all_cons (p0_ok hL) (all_nil))) (FnsOk.nil)
abbrev C9 (fs : Fx) : Prop := CaseR (rowH (sentH 225 12 errTab) [.int .i64 (.var 0), .int .i64 (.var 1), .int .i64 (.var 2), .int .i64 (.var 3), .int .i64 (.var 4), .int .i64 (.var 5)]) [(257, 9223372036854775807), ((-9223372036854775808), 9223372036854775807), ((-9223372036854775808), 9223372036854775807), ((-9223372036854775808), 9223372036854775807), ((-9223372036854775808), 9223372036854775807), ((-9223372036854775808), 9223372036854775807)] fs [] [.slice 24 0 6 6 1 false]
noncomputable def fw10 : Fx → Fns := fun ws => [(5, pureFn [p0])]
theorem fw10_ok {σ : Nat → Int} {W : World} (hL : L0 W) (ws : Fx) (hk : Known2 σ [(1, 256), ((-9223372036854775808), 0), ((-9223372036854775808), 9223372036854775807), ((-9223372036854775808), 9223372036854775807), ((-9223372036854775808), 9223372036854775807), ((-9223372036854775808), 9223372036854775807)] ws) : FnsOk Tryd.prog 4095 σ W (fw10 ws) := FnsOk.cons (pure_fn_ok (all_cons (p0_ok hL) (all_nil))) (FnsOk.nil)
abbrev C10 (fs : Fx) : Prop := CaseR (rowH (sentH 225 12 errTab) [.int .i64 (.var 0), .int .i64 (.var 1), .int .i64 (.var 2), .int .i64 (.var 3), .int .i64 (.var 4), .int .i64 (.var 5)]) [(1, 256), ((-9223372036854775808), 0), ((-9223372036854775808), 9223372036854775807), ((-9223372036854775808), 9223372036854775807), ((-9223372036854775808), 9223372036854775807), ((-9223372036854775808), 9223372036854775807)] fs [] [.slice 24 0 6 6 1 false]
noncomputable def fw11 : Fx → Fns := fun ws => [(5, pureFn [p0])]
theorem fw11_ok {σ : Nat → Int} {W : World} (hL : L0 W) (ws : Fx) (hk : Known2 σ [(1, 256), (257, 9223372036854775807), ((-9223372036854775808), 9223372036854775807), ((-9223372036854775808), 9223372036854775807), ((-9223372036854775808), 9223372036854775807), ((-9223372036854775808), 9223372036854775807)] ws) : FnsOk Tryd.prog 4095 σ W (fw11 ws) := FnsOk.cons (pure_fn_ok (all_cons (p0_ok hL) (all_nil))) (FnsOk.nil)
abbrev C11 (fs : Fx) : Prop := CaseR (rowH (sentH 225 12 errTab) [.int .i64 (.var 0), .int .i64 (.var 1), .int .i64 (.var 2), .int .i64 (.var 3), .int .i64 (.var 4), .int .i64 (.var 5)]) [(1, 256), (257, 9223372036854775807), ((-9223372036854775808), 9223372036854775807), ((-9223372036854775808), 9223372036854775807), ((-9223372036854775808), 9223372036854775807), ((-9223372036854775808), 9223372036854775807)] fs [] [.slice 24 0 6 6 1 false]
noncomputable def fw12 : Fx → Fns := fun ws => [(23, frameFn [m1]), (5, pureFn [p0])]
theorem fw12_ok {σ : Nat → Int} {W : World} (hL : L0 W) (ws : Fx) (hk : Known2 σ [(1, 256), (1, 256), ((-9223372036854775808), 0), ((-9223372036854775808), 9223372036854775807), ((-9223372036854775808), 9223372036854775807), ((-9223372036854775808), 9223372036854775807)] ws) : FnsOk Tryd.prog 4095 σ W (fw12 ws) := FnsOk.cons (frame_fn_ok (all_cons (m1_ok hL ⟨hk.rng, fun _ _ _ _ h => by cases h⟩) (all_nil))) (FnsOk.cons (pure_fn_ok (all_cons (p0_ok hL) (all_nil))) (FnsOk.nil))
abbrev C12 (fs : Fx) : Prop := CaseR (rowH (sentH 225 12 errTab) [.int .i64 (.var 0), .int .i64 (.var 1), .int .i64 (.var 2), .int .i64 (.var 3), .int .i64 (.var 4), .int .i64 (.var 5)]) [(1, 256), (1, 256), ((-9223372036854775808), 0), ((-9223372036854775808), 9223372036854775807), ((-9223372036854775808), 9223372036854775807), ((-9223372036854775808), 9223372036854775807)] fs [] [.slice 24 0 6 6 1 false]
noncomputable def fw13 : Fx → Fns := fun ws => [(23, frameFn [m2]), (5, pureFn [p0])]
theorem fw13_ok {σ : Nat → Int} {W : World} (hL : L0 W) (ws : Fx) (hk : Known2 σ [(1, 256), (1, 256), (257, 9223372036854775807), ((-9223372036854775808), 9223372036854775807), ((-9223372036854775808), 9223372036854775807), ((-9223372036854775808), 9223372036854775807)] ws) : FnsOk Tryd.prog 4095 σ W (fw13 ws) := FnsOk.cons (frame_fn_ok (all_cons (m2_ok hL ⟨hk.rng, fun _ _ _ _ h => by cases h⟩) (all_nil))) (FnsOk.cons (pure_fn_ok (all_cons (p0_ok hL) (all_nil))) (FnsOk.nil))
abbrev C13 (fs : Fx) : Prop := CaseR (rowH (sentH 225 12 errTab) [.int .i64 (.var 0), .int .i64 (.var 1), .int .i64 (.var 2), .int .i64 (.var 3), .int .i64 (.var 4), .int .i64 (.var 5)]) [(1, 256), (1, 256), (257, 9223372036854775807), ((-9223372036854775808), 9223372036854775807), ((-9223372036854775808), 9223372036854775807), ((-9223372036854775808), 9223372036854775807)] fs [] [.slice 24 0 6 6 1 false]
noncomputable def fw14 : Fx → Fns := fun ws => [(23, frameFn [m3]), (5, pureFn [p0])]
theorem fw14_ok {σ : Nat → Int} {W : World} (hL : L0 W) (ws : Fx) (hk : Known2 σ [(1, 256), (1, 256), (1, 1), ((-9223372036854775808), 9223372036854775807), ((-9223372036854775808), 9223372036854775807), ((-9223372036854775808), 9223372036854775807)] ws) : FnsOk Tryd.prog 4095 σ W (fw14 ws) := FnsOk.cons (frame_fn_ok (all_cons (m3_ok hL ⟨hk.rng, fun _ _ _ _ h => by cases h⟩) (all_nil))) (FnsOk.cons (pure_fn_ok (all_cons (p0_ok hL) (all_nil))) (FnsOk.nil))
abbrev C14 (fs : Fx) : Prop := CaseR (rowH (sentH 225 12 errTab) [.int .i64 (.var 0), .int .i64 (.var 1), .int .i64 (.var 2), .int .i64 (.var 3), .int .i64 (.var 4), .int .i64 (.var 5)]) [(1, 256), (1, 256), (1, 1), ((-9223372036854775808), 9223372036854775807), ((-9223372036854775808), 9223372036854775807), ((-9223372036854775808), 9223372036854775807)] fs [] [.slice 24 0 6 6 1 false]
end Go.Proofs.YtoldbgemlnkfkaaDoor.sysSizes
