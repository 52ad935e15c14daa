/- gateFaults: calls that are run once, and the runs of the cases (part 0). -/
import Derived.Test.YtalmhgaomgkdbacGreatDoorEvGfF
set_option linter.unusedVariables false
set_option maxRecDepth 10000000
namespace Go.Proofs.YtalmhgaomgkdbacGreatDoor.gateFaults
open Tk
open Go.RowKit
noncomputable def h0 : H := sentH 289 9 errTab
noncomputable def p0 : Pur := ([.agg [I 0, I 0, I 0, I 0, U 0]], .inil, 1048576)
theorem p0_run : ranPure (evCall (cxX Tryz.prog bad [] [] [(135, isFn 289)]) 1000 60 34 p0.1 ⟨.lf, p0.2.2⟩) p0.2.1 = true := by kernel_rfl
theorem p0_ok {σ : Nat → Int} {W0 : World} : PureOk Tryz.prog 511 σ W0 34 p0 := pure_ok fit (Known2.nil σ) (FnsOk.cons (ext_is) (FnsOk.nil)) p0_run
noncomputable def p1 : Pur := ([.agg [I 1, I 0, I 0, I 0, U 8]], .inil, 1048576)
theorem p1_run : ranPure (evCall (cxX Tryz.prog bad [] [] [(135, isFn 289)]) 1000 60 34 p1.1 ⟨.lf, p1.2.2⟩) p1.2.1 = true := by kernel_rfl
theorem p1_ok {σ : Nat → Int} {W0 : World} : PureOk Tryz.prog 511 σ W0 34 p1 := pure_ok fit (Known2.nil σ) (FnsOk.cons (ext_is) (FnsOk.nil)) p1_run
noncomputable def p2 : Pur := ([], bT, 262144)
theorem p2_run : ranPure (evCall (cxX Tryz.prog bad [] [] [(34, pureFn [p0, p1]), (135, isFn 289)]) 1000 60 6 p2.1 ⟨.lf, p2.2.2⟩) p2.2.1 = true := by kernel_rfl
theorem p2_ok {σ : Nat → Int} {W0 : World} : PureOk Tryz.prog 511 σ W0 6 p2 := pure_ok fit (Known2.nil σ) (FnsOk.cons (pure_fn_ok (all_cons (p0_ok) (all_cons (p1_ok) (all_nil)))) (FnsOk.cons (ext_is) (FnsOk.nil))) p2_run
noncomputable def h1 : H := hUpd h0 365 [] [(62, .cells 1 ([[.slice 61 0 4 4 3 true]]) false),
  (46, .cells 1 ([[.snil]]) false),
  (30, .cells 3 (rp 4 ([bT, I 0, bF]) ([[bF, I 0, bF], [bF, I 0, bF]])) false),
  (54, .cells 2 (rp 8 ([I 0, I 0]) ([])) false),
  (22, .cells 2 ([[.ptr 20 0, .slice 21 0 12 12 80 true]]) false),
  (58, .cells 3 ([IZ (-1), I 30, I 4] :: rp 5 ([I 0, I 0, I 0]) ([])) false),
  (26, .cells 2 ([[.ptr 24 0, .slice 25 0 12 12 32 true]]) false),
  (66, .cells 9 ([[.ptr 29 0, .ptr 33 0, .ptr 55 0, .ptr 60 0, .ptr 64 0, .ptr 65 0, .snil, .snil, I 0]]) false),
  (34, .cells 1 ([[.snil]]) false),
  (60, .cells 5 ([[.ptr 57 0, .slice 58 0 6 6 3 true, .map 59, .ptr 29 0, .ptr 33 0]]) false),
  (28, .cells 3 ([[I 16, .snil, I 0]]) false),
  (52, .cells 3 (rp 8 ([bF, I 0, bF]) ([])) false),
  (20, .cells 1 ([[.slice 19 0 12 12 3 true]]) false),
  (56, .cells 3 ([bT, I 0, bF] :: rp 5 ([bF, I 0, bF]) ([])) false),
  (40, .cells 1 ([[.snil]]) false),
  (24, .cells 1 ([[.slice 23 0 12 12 3 true]]) false),
  (64, .cells 2 ([[.ptr 62 0, .slice 63 0 4 4 31 true]]) false),
  (32, .cells 107 ([rp 9 (U 0) ((I 3) :: rp 5 (I 0) ((U 0) :: rp 4 (I 0) ((U 0) :: rp 4 (I 0) ((U 0) :: rp 4 (I 0) ((U 0) :: rp 4 (I 0) ((U 0) :: rp 4 (I 0) ((U 0) :: rp 4 (I 0) ((U 0) :: rp 4 (I 0) ((U 0) :: rp 4 (I 0) ((U 0) :: rp 4 (I 0) ((U 0) :: rp 4 (I 0) ((U 0) :: rp 4 (I 0) ((U 0) :: rp 4 (I 0) ((U 0) :: rp 4 (I 0) ((U 0) :: rp 4 (I 0) ((U 0) :: rp 4 (I 0) ((U 0) :: rp 4 (I 0) ((U 0) :: rp 4 (I 0) ((U 0) :: rp 4 (I 0) ([U 0, I 0])))))))))))))))))))), rp 9 (U 0) ((I 1) :: rp 5 (I 0) ((U 0) :: rp 4 (I 0) ((U 0) :: rp 4 (I 0) ((U 0) :: rp 4 (I 0) ((U 0) :: rp 4 (I 0) ((U 0) :: rp 4 (I 0) ((U 0) :: rp 4 (I 0) ((U 0) :: rp 4 (I 0) ((U 0) :: rp 4 (I 0) ((U 0) :: rp 4 (I 0) ((U 0) :: rp 4 (I 0) ((U 0) :: rp 4 (I 0) ((U 0) :: rp 4 (I 0) ((U 0) :: rp 4 (I 0) ((U 0) :: rp 4 (I 0) ((U 0) :: rp 4 (I 0) ((U 0) :: rp 4 (I 0) ((U 0) :: rp 4 (I 0) ((U 0) :: rp 4 (I 0) ([U 0, I 0])))))))))))))))))))), rp 9 (U 0) ((I 1) :: rp 5 (I 0) ((U 0) :: rp 4 (I 0) ((U 0) :: rp 4 (I 0) ((U 0) :: rp 4 (I 0) ((U 0) :: rp 4 (I 0) ((U 0) :: rp 4 (I 0) ((U 0) :: rp 4 (I 0) ((U 0) :: rp 4 (I 0) ((U 0) :: rp 4 (I 0) ((U 0) :: rp 4 (I 0) ((U 0) :: rp 4 (I 0) ((U 0) :: rp 4 (I 0) ((U 0) :: rp 4 (I 0) ((U 0) :: rp 4 (I 0) ((U 0) :: rp 4 (I 0) ((U 0) :: rp 4 (I 0) ((U 0) :: rp 4 (I 0) ((U 0) :: rp 4 (I 0) ((U 0) :: rp 4 (I 0) ([U 0, I 0])))))))))))))))))))), rp 9 (U 0) ((I 1) :: rp 5 (I 0) ((U 0) :: rp 4 (I 0) ((U 0) :: rp 4 (I 0) ((U 0) :: rp 4 (I 0) ((U 0) :: rp 4 (I 0) ((U 0) :: rp 4 (I 0) ((U 0) :: rp 4 (I 0) ((U 0) :: rp 4 (I 0) ((U 0) :: rp 4 (I 0) ((U 0) :: rp 4 (I 0) ((U 0) :: rp 4 (I 0) ((U 0) :: rp 4 (I 0) ((U 0) :: rp 4 (I 0) ((U 0) :: rp 4 (I 0) ((U 0) :: rp 4 (I 0) ((U 0) :: rp 4 (I 0) ((U 0) :: rp 4 (I 0) ((U 0) :: rp 4 (I 0) ((U 0) :: rp 4 (I 0) ([U 0, I 0])))))))))))))))))))), rp 9 (U 0) (rp 6 (I 0) ((U 0) :: rp 4 (I 0) ((U 0) :: rp 4 (I 0) ((U 0) :: rp 4 (I 0) ((U 0) :: rp 4 (I 0) ((U 0) :: rp 4 (I 0) ((U 0) :: rp 4 (I 0) ((U 0) :: rp 4 (I 0) ((U 0) :: rp 4 (I 0) ((U 0) :: rp 4 (I 0) ((U 0) :: rp 4 (I 0) ((U 0) :: rp 4 (I 0) ((U 0) :: rp 4 (I 0) ((U 0) :: rp 4 (I 0) ((U 0) :: rp 4 (I 0) ((U 0) :: rp 4 (I 0) ((U 0) :: rp 4 (I 0) ((U 0) :: rp 4 (I 0) ((U 0) :: rp 4 (I 0) ([U 0, I 0])))))))))))))))))))), rp 9 (U 0) (rp 6 (I 0) ((U 0) :: rp 4 (I 0) ((U 0) :: rp 4 (I 0) ((U 0) :: rp 4 (I 0) ((U 0) :: rp 4 (I 0) ((U 0) :: rp 4 (I 0) ((U 0) :: rp 4 (I 0) ((U 0) :: rp 4 (I 0) ((U 0) :: rp 4 (I 0) ((U 0) :: rp 4 (I 0) ((U 0) :: rp 4 (I 0) ((U 0) :: rp 4 (I 0) ((U 0) :: rp 4 (I 0) ((U 0) :: rp 4 (I 0) ((U 0) :: rp 4 (I 0) ((U 0) :: rp 4 (I 0) ((U 0) :: rp 4 (I 0) ((U 0) :: rp 4 (I 0) ((U 0) :: rp 4 (I 0) ([U 0, I 0]))))))))))))))))))))]) false),
  (61, .cells 3 (rp 4 ([bF, I 0, bF]) ([])) false),
  (29, .cells 3 ([[.ptr 27 0, I 16, .ptr 28 0]]) false),
  (53, .cells 1 ([[.slice 52 0 8 8 3 true]]) false),
  (37, .cells 1 ([[.snil]]) false),
  (21, .cells 80 (rp 12 (rp 4 (I 0) ((U 0) :: rp 4 (I 0) ((U 0) :: rp 4 (I 0) ((U 0) :: rp 4 (I 0) ((U 0) :: rp 4 (I 0) ((U 0) :: rp 4 (I 0) ((U 0) :: rp 4 (I 0) ((U 0) :: rp 4 (I 0) ((U 0) :: rp 4 (I 0) ((U 0) :: rp 4 (I 0) ((U 0) :: rp 4 (I 0) ((U 0) :: rp 4 (I 0) ((U 0) :: rp 4 (I 0) ((U 0) :: rp 4 (I 0) ((U 0) :: rp 4 (I 0) ((U 0) :: rp 4 (I 0) ([U 0]))))))))))))))))) ([])) false),
  (57, .cells 1 ([[.slice 56 0 6 6 3 true]]) false),
  (25, .cells 32 (rp 12 (rp 32 (U 0) ([])) ([])) false),
  (49, .cells 1 ([[.snil]]) false),
  (65, .cells 1 ([[.snil]]) false),
  (33, .cells 3 ([[.ptr 31 0, .slice 32 0 6 6 107 true, .slice 51 0 6 6 1 false]]) false),
  (59, .map [(.agg [I 4, I 0], .agg [I 0, I 0], 0), (.agg [I 4, I 1], .agg [I 0, I 0], 1), (.agg [I 4, I 2], .agg [I 0, I 0], 2), (.agg [I 4, I 3], .agg [I 0, I 0], 3)] 4),
  (43, .cells 1 ([[.snil]]) false),
  (27, .cells 2 ([[.ptr 22 0, .ptr 26 0]]) false),
  (51, .cells 1 ([[.ptr 34 0], [.ptr 37 0], [.ptr 40 0], [.ptr 43 0], [.ptr 46 0], [.ptr 49 0]]) false),
  (19, .cells 3 (rp 12 ([bF, I 0, bF]) ([])) false),
  (55, .cells 2 ([[.ptr 53 0, .slice 54 0 8 8 2 true]]) false),
  (23, .cells 3 (rp 12 ([bF, I 0, bF]) ([])) false),
  (63, .cells 31 (rp 4 ((bF) :: rp 4 (I 0) ((U 0) :: rp 4 (I 0) ((U 0) :: rp 4 (I 0) ((U 0) :: rp 4 (I 0) ((U 0) :: rp 4 (I 0) ((U 0) :: rp 4 (I 0) ([U 0]))))))) ([])) false),
  (31, .cells 1 ([[.slice 30 0 6 6 3 true]]) false)] []
noncomputable def m3 : Memo := ⟨[], h0, .ptr 66 0, h1⟩
noncomputable def q0 : Fns := [(34, pureFn [p0]), (135, isFn 289)]
theorem q0_ok {σ : Nat → Int} {W0 : World} : FnsOk Tryz.prog 511 σ W0 q0 := FnsOk.cons (pure_fn_ok (all_cons (p0_ok) (all_nil))) (FnsOk.cons (ext_is) (FnsOk.nil))
theorem m3_run : ranTo (evCall (cxX Tryz.prog bad [] [] q0) 1000 60 8 m3.args m3.h) m3.v m3.h' = true := by kernel_rfl
theorem m3_ok {σ : Nat → Int} {W0 : World} : MemoOk Tryz.prog 511 σ W0 8 m3 := memo_ok fit (Known2.nil σ) (q0_ok) m3_run
noncomputable def q1 : Fns := [(6, pureFn [p2]), (8, frameFn [m3]), (34, pureFn [p0]), (135, isFn 289)]
theorem q1_ok {σ : Nat → Int} {W0 : World} : FnsOk Tryz.prog 511 σ W0 q1 := FnsOk.cons (pure_fn_ok (all_cons (p2_ok) (all_nil))) (FnsOk.cons (frame_fn_ok (all_cons (m3_ok) (all_nil))) (FnsOk.cons (pure_fn_ok (all_cons (p0_ok) (all_nil))) (FnsOk.cons (ext_is) (FnsOk.nil))))
theorem run0 : isTrue (evCall (cxX Tryz.prog bad [((-9223372036854775808), 9223372036854775807), (0, 4294967295)] [] ((7, numExtE [(0, 6, .lit 0)]) :: q1)) 1000 60 4 [.int .i64 (.var 0), .int .u32 (.var 1), bF] (sentH 289 9 errTab)) = true := by kernel_rfl
theorem case0 {σ : Nat → Int} {W : World} (hL : laidMetH Tryz.prog laidErrs W) (hk : Known2 σ [((-9223372036854775808), 9223372036854775807), (0, 4294967295)] []) (hT : TabOk Tryz.prog bad 7 σ [(0, 6, .lit 0)]) {xs : Array Value} (hv : ∀ ρ, VRs σ ρ [.int .i64 (.var 0), .int .u32 (.var 1), bF] xs.toList) : Calls Tryz.prog 4 xs W fun e w' => e = .returned (.bool true) ∧ Below W.heap.size W w' := by
  obtain ⟨ads, h1, h2, h3⟩ := errs_sents hL
  exact law_case_x fit h1 h2 h3 errs_all errs_lt (by kernel_rfl) hk (FnsOk.cons (hT.ok fit) (q1_ok)) hv ⟨_, Tryz.func4, rfl⟩ run0
noncomputable def p4 : Pur := ([.agg [I 5, I 1, I 0, I 0, U 77]], .inil, 1048576)
theorem p4_run : ranPure (evCall (cxX Tryz.prog bad [] [] [(135, isFn 289)]) 1000 60 34 p4.1 ⟨.lf, p4.2.2⟩) p4.2.1 = true := by kernel_rfl
theorem p4_ok {σ : Nat → Int} {W0 : World} : PureOk Tryz.prog 511 σ W0 34 p4 := pure_ok fit (Known2.nil σ) (FnsOk.cons (ext_is) (FnsOk.nil)) p4_run
noncomputable def p5 : Pur := ([.agg [I 4, I 0, I 0, I 0, U 0]], .inil, 1048576)
theorem p5_run : ranPure (evCall (cxX Tryz.prog bad [] [] [(135, isFn 289)]) 1000 60 34 p5.1 ⟨.lf, p5.2.2⟩) p5.2.1 = true := by kernel_rfl
theorem p5_ok {σ : Nat → Int} {W0 : World} : PureOk Tryz.prog 511 σ W0 34 p5 := pure_ok fit (Known2.nil σ) (FnsOk.cons (ext_is) (FnsOk.nil)) p5_run
noncomputable def p6 : Pur := ([.agg [I 6, I 0, I 0, I 0, U 1]], .inil, 1048576)
theorem p6_run : ranPure (evCall (cxX Tryz.prog bad [] [] [(135, isFn 289)]) 1000 60 34 p6.1 ⟨.lf, p6.2.2⟩) p6.2.1 = true := by kernel_rfl
theorem p6_ok {σ : Nat → Int} {W0 : World} : PureOk Tryz.prog 511 σ W0 34 p6 := pure_ok fit (Known2.nil σ) (FnsOk.cons (ext_is) (FnsOk.nil)) p6_run
noncomputable def l0 : List (Pur) := p6 :: p5 :: p4 :: p0 :: []
theorem l0_ok {σ : Nat → Int} {W0 : World} : ∀ x ∈ l0, PureOk Tryz.prog 511 σ W0 34 x := all_cons p6_ok (all_cons p5_ok (all_cons p4_ok (all_cons p0_ok all_nil)))
noncomputable def q2 : Fns := [(6, pureFn [p2]), (8, frameFn [m3]), (135, isFn 289)]
theorem q2_ok {σ : Nat → Int} {W0 : World} : FnsOk Tryz.prog 511 σ W0 q2 := FnsOk.cons (pure_fn_ok (all_cons (p2_ok) (all_nil))) (FnsOk.cons (frame_fn_ok (all_cons (m3_ok) (all_nil))) (FnsOk.cons (ext_is) (FnsOk.nil)))
theorem run1 : isTrue (evCall (cxX Tryz.prog bad [((-9223372036854775808), 9223372036854775807), (0, 4294967295)] [] ((7, numExtE [(0, 6, .lit 0)]) :: (34, pureFn l0) :: q2)) 1000 60 4 [.int .i64 (.var 0), .int .u32 (.var 1), bT] (sentH 289 9 errTab)) = true := by kernel_rfl
theorem case1 {σ : Nat → Int} {W : World} (hL : laidMetH Tryz.prog laidErrs W) (hk : Known2 σ [((-9223372036854775808), 9223372036854775807), (0, 4294967295)] []) (hT : TabOk Tryz.prog bad 7 σ [(0, 6, .lit 0)]) {xs : Array Value} (hv : ∀ ρ, VRs σ ρ [.int .i64 (.var 0), .int .u32 (.var 1), bT] xs.toList) : Calls Tryz.prog 4 xs W fun e w' => e = .returned (.bool true) ∧ Below W.heap.size W w' := by
  obtain ⟨ads, h1, h2, h3⟩ := errs_sents hL
  exact law_case_x fit h1 h2 h3 errs_all errs_lt (by kernel_rfl) hk (FnsOk.cons (hT.ok fit) (FnsOk.cons (pure_fn_ok (l0_ok)) (q2_ok))) hv ⟨_, Tryz.func4, rfl⟩ run1
theorem run2 : isTrue (evCall (cxX Tryz.prog bad [((-9223372036854775808), 9223372036854775807), (0, 4294967295)] [] ((7, numExtE [(0, 6, .lit 1)]) :: q1)) 1000 60 4 [.int .i64 (.var 0), .int .u32 (.var 1), bF] (sentH 289 9 errTab)) = true := by kernel_rfl
theorem case2 {σ : Nat → Int} {W : World} (hL : laidMetH Tryz.prog laidErrs W) (hk : Known2 σ [((-9223372036854775808), 9223372036854775807), (0, 4294967295)] []) (hT : TabOk Tryz.prog bad 7 σ [(0, 6, .lit 1)]) {xs : Array Value} (hv : ∀ ρ, VRs σ ρ [.int .i64 (.var 0), .int .u32 (.var 1), bF] xs.toList) : Calls Tryz.prog 4 xs W fun e w' => e = .returned (.bool true) ∧ Below W.heap.size W w' := by
  obtain ⟨ads, h1, h2, h3⟩ := errs_sents hL
  exact law_case_x fit h1 h2 h3 errs_all errs_lt (by kernel_rfl) hk (FnsOk.cons (hT.ok fit) (q1_ok)) hv ⟨_, Tryz.func4, rfl⟩ run2
theorem run3 : isTrue (evCall (cxX Tryz.prog bad [((-9223372036854775808), 9223372036854775807), (0, 4294967295)] [] ((7, numExtE [(0, 6, .lit 1)]) :: (34, pureFn l0) :: q2)) 1000 60 4 [.int .i64 (.var 0), .int .u32 (.var 1), bT] (sentH 289 9 errTab)) = true := by kernel_rfl
theorem case3 {σ : Nat → Int} {W : World} (hL : laidMetH Tryz.prog laidErrs W) (hk : Known2 σ [((-9223372036854775808), 9223372036854775807), (0, 4294967295)] []) (hT : TabOk Tryz.prog bad 7 σ [(0, 6, .lit 1)]) {xs : Array Value} (hv : ∀ ρ, VRs σ ρ [.int .i64 (.var 0), .int .u32 (.var 1), bT] xs.toList) : Calls Tryz.prog 4 xs W fun e w' => e = .returned (.bool true) ∧ Below W.heap.size W w' := by
  obtain ⟨ads, h1, h2, h3⟩ := errs_sents hL
  exact law_case_x fit h1 h2 h3 errs_all errs_lt (by kernel_rfl) hk (FnsOk.cons (hT.ok fit) (FnsOk.cons (pure_fn_ok (l0_ok)) (q2_ok))) hv ⟨_, Tryz.func4, rfl⟩ run3
theorem run4 : isTrue (evCall (cxX Tryz.prog bad [((-9223372036854775808), 9223372036854775807), (0, 4294967295)] [] ((7, numExtE [(0, 6, .lit 2)]) :: q1)) 1000 60 4 [.int .i64 (.var 0), .int .u32 (.var 1), bF] (sentH 289 9 errTab)) = true := by kernel_rfl
theorem case4 {σ : Nat → Int} {W : World} (hL : laidMetH Tryz.prog laidErrs W) (hk : Known2 σ [((-9223372036854775808), 9223372036854775807), (0, 4294967295)] []) (hT : TabOk Tryz.prog bad 7 σ [(0, 6, .lit 2)]) {xs : Array Value} (hv : ∀ ρ, VRs σ ρ [.int .i64 (.var 0), .int .u32 (.var 1), bF] xs.toList) : Calls Tryz.prog 4 xs W fun e w' => e = .returned (.bool true) ∧ Below W.heap.size W w' := by
  obtain ⟨ads, h1, h2, h3⟩ := errs_sents hL
  exact law_case_x fit h1 h2 h3 errs_all errs_lt (by kernel_rfl) hk (FnsOk.cons (hT.ok fit) (q1_ok)) hv ⟨_, Tryz.func4, rfl⟩ run4
theorem run5 : isTrue (evCall (cxX Tryz.prog bad [((-9223372036854775808), 9223372036854775807), (0, 4294967295)] [] ((7, numExtE [(0, 6, .lit 2)]) :: (34, pureFn l0) :: q2)) 1000 60 4 [.int .i64 (.var 0), .int .u32 (.var 1), bT] (sentH 289 9 errTab)) = true := by kernel_rfl
theorem case5 {σ : Nat → Int} {W : World} (hL : laidMetH Tryz.prog laidErrs W) (hk : Known2 σ [((-9223372036854775808), 9223372036854775807), (0, 4294967295)] []) (hT : TabOk Tryz.prog bad 7 σ [(0, 6, .lit 2)]) {xs : Array Value} (hv : ∀ ρ, VRs σ ρ [.int .i64 (.var 0), .int .u32 (.var 1), bT] xs.toList) : Calls Tryz.prog 4 xs W fun e w' => e = .returned (.bool true) ∧ Below W.heap.size W w' := by
  obtain ⟨ads, h1, h2, h3⟩ := errs_sents hL
  exact law_case_x fit h1 h2 h3 errs_all errs_lt (by kernel_rfl) hk (FnsOk.cons (hT.ok fit) (FnsOk.cons (pure_fn_ok (l0_ok)) (q2_ok))) hv ⟨_, Tryz.func4, rfl⟩ run5
theorem run6 : isTrue (evCall (cxX Tryz.prog bad [((-9223372036854775808), 9223372036854775807), (0, 4294967295)] [] ((7, numExtE [(0, 6, .lit 3)]) :: q1)) 1000 60 4 [.int .i64 (.var 0), .int .u32 (.var 1), bF] (sentH 289 9 errTab)) = true := by kernel_rfl
theorem case6 {σ : Nat → Int} {W : World} (hL : laidMetH Tryz.prog laidErrs W) (hk : Known2 σ [((-9223372036854775808), 9223372036854775807), (0, 4294967295)] []) (hT : TabOk Tryz.prog bad 7 σ [(0, 6, .lit 3)]) {xs : Array Value} (hv : ∀ ρ, VRs σ ρ [.int .i64 (.var 0), .int .u32 (.var 1), bF] xs.toList) : Calls Tryz.prog 4 xs W fun e w' => e = .returned (.bool true) ∧ Below W.heap.size W w' := by
  obtain ⟨ads, h1, h2, h3⟩ := errs_sents hL
  exact law_case_x fit h1 h2 h3 errs_all errs_lt (by kernel_rfl) hk (FnsOk.cons (hT.ok fit) (q1_ok)) hv ⟨_, Tryz.func4, rfl⟩ run6
theorem run7 : isTrue (evCall (cxX Tryz.prog bad [((-9223372036854775808), 9223372036854775807), (0, 4294967295)] [] ((7, numExtE [(0, 6, .lit 3)]) :: (34, pureFn l0) :: q2)) 1000 60 4 [.int .i64 (.var 0), .int .u32 (.var 1), bT] (sentH 289 9 errTab)) = true := by kernel_rfl
theorem case7 {σ : Nat → Int} {W : World} (hL : laidMetH Tryz.prog laidErrs W) (hk : Known2 σ [((-9223372036854775808), 9223372036854775807), (0, 4294967295)] []) (hT : TabOk Tryz.prog bad 7 σ [(0, 6, .lit 3)]) {xs : Array Value} (hv : ∀ ρ, VRs σ ρ [.int .i64 (.var 0), .int .u32 (.var 1), bT] xs.toList) : Calls Tryz.prog 4 xs W fun e w' => e = .returned (.bool true) ∧ Below W.heap.size W w' := by
  obtain ⟨ads, h1, h2, h3⟩ := errs_sents hL
  exact law_case_x fit h1 h2 h3 errs_all errs_lt (by kernel_rfl) hk (FnsOk.cons (hT.ok fit) (FnsOk.cons (pure_fn_ok (l0_ok)) (q2_ok))) hv ⟨_, Tryz.func4, rfl⟩ run7
theorem run8 : isTrue (evCall (cxX Tryz.prog bad [((-9223372036854775808), 9223372036854775807), (0, 4294967295)] [] ((7, numExtE [(0, 6, .lit 4)]) :: q1)) 1000 60 4 [.int .i64 (.var 0), .int .u32 (.var 1), bF] (sentH 289 9 errTab)) = true := by kernel_rfl
theorem case8 {σ : Nat → Int} {W : World} (hL : laidMetH Tryz.prog laidErrs W) (hk : Known2 σ [((-9223372036854775808), 9223372036854775807), (0, 4294967295)] []) (hT : TabOk Tryz.prog bad 7 σ [(0, 6, .lit 4)]) {xs : Array Value} (hv : ∀ ρ, VRs σ ρ [.int .i64 (.var 0), .int .u32 (.var 1), bF] xs.toList) : Calls Tryz.prog 4 xs W fun e w' => e = .returned (.bool true) ∧ Below W.heap.size W w' := by
  obtain ⟨ads, h1, h2, h3⟩ := errs_sents hL
  exact law_case_x fit h1 h2 h3 errs_all errs_lt (by kernel_rfl) hk (FnsOk.cons (hT.ok fit) (q1_ok)) hv ⟨_, Tryz.func4, rfl⟩ run8
theorem run9 : isTrue (evCall (cxX Tryz.prog bad [((-9223372036854775808), 9223372036854775807), (0, 4294967295)] [] ((7, numExtE [(0, 6, .lit 4)]) :: (34, pureFn l0) :: q2)) 1000 60 4 [.int .i64 (.var 0), .int .u32 (.var 1), bT] (sentH 289 9 errTab)) = true := by kernel_rfl
theorem case9 {σ : Nat → Int} {W : World} (hL : laidMetH Tryz.prog laidErrs W) (hk : Known2 σ [((-9223372036854775808), 9223372036854775807), (0, 4294967295)] []) (hT : TabOk Tryz.prog bad 7 σ [(0, 6, .lit 4)]) {xs : Array Value} (hv : ∀ ρ, VRs σ ρ [.int .i64 (.var 0), .int .u32 (.var 1), bT] xs.toList) : Calls Tryz.prog 4 xs W fun e w' => e = .returned (.bool true) ∧ Below W.heap.size W w' := by
  obtain ⟨ads, h1, h2, h3⟩ := errs_sents hL
  exact law_case_x fit h1 h2 h3 errs_all errs_lt (by kernel_rfl) hk (FnsOk.cons (hT.ok fit) (FnsOk.cons (pure_fn_ok (l0_ok)) (q2_ok))) hv ⟨_, Tryz.func4, rfl⟩ run9
theorem run10 : isTrue (evCall (cxX Tryz.prog bad [((-9223372036854775808), 9223372036854775807), (0, 4294967295)] [] ((7, numExtE [(0, 6, .lit 5)]) :: q1)) 1000 60 4 [.int .i64 (.var 0), .int .u32 (.var 1), bF] (sentH 289 9 errTab)) = true := by kernel_rfl
theorem case10 {σ : Nat → Int} {W : World} (hL : laidMetH Tryz.prog laidErrs W) (hk : Known2 σ [((-9223372036854775808), 9223372036854775807), (0, 4294967295)] []) (hT : TabOk Tryz.prog bad 7 σ [(0, 6, .lit 5)]) {xs : Array Value} (hv : ∀ ρ, VRs σ ρ [.int .i64 (.var 0), .int .u32 (.var 1), bF] xs.toList) : Calls Tryz.prog 4 xs W fun e w' => e = .returned (.bool true) ∧ Below W.heap.size W w' := by
  obtain ⟨ads, h1, h2, h3⟩ := errs_sents hL
  exact law_case_x fit h1 h2 h3 errs_all errs_lt (by kernel_rfl) hk (FnsOk.cons (hT.ok fit) (q1_ok)) hv ⟨_, Tryz.func4, rfl⟩ run10
theorem run11 : isTrue (evCall (cxX Tryz.prog bad [((-9223372036854775808), 9223372036854775807), (0, 4294967295)] [] ((7, numExtE [(0, 6, .lit 5)]) :: (34, pureFn l0) :: q2)) 1000 60 4 [.int .i64 (.var 0), .int .u32 (.var 1), bT] (sentH 289 9 errTab)) = true := by kernel_rfl
theorem case11 {σ : Nat → Int} {W : World} (hL : laidMetH Tryz.prog laidErrs W) (hk : Known2 σ [((-9223372036854775808), 9223372036854775807), (0, 4294967295)] []) (hT : TabOk Tryz.prog bad 7 σ [(0, 6, .lit 5)]) {xs : Array Value} (hv : ∀ ρ, VRs σ ρ [.int .i64 (.var 0), .int .u32 (.var 1), bT] xs.toList) : Calls Tryz.prog 4 xs W fun e w' => e = .returned (.bool true) ∧ Below W.heap.size W w' := by
  obtain ⟨ads, h1, h2, h3⟩ := errs_sents hL
  exact law_case_x fit h1 h2 h3 errs_all errs_lt (by kernel_rfl) hk (FnsOk.cons (hT.ok fit) (FnsOk.cons (pure_fn_ok (l0_ok)) (q2_ok))) hv ⟨_, Tryz.func4, rfl⟩ run11
end Go.Proofs.YtalmhgaomgkdbacGreatDoor.gateFaults
