/- gateForks: calls that are run once, and the runs of the cases (part 0). -/
import Derived.Test.YtalmhgaomgkdbacGreatDoorEvGkF
set_option linter.unusedVariables false
set_option maxRecDepth 10000000
namespace Go.Proofs.YtalmhgaomgkdbacGreatDoor.gateForks
open Tk
open Go.RowKit
noncomputable def h0 : H := sentH 289 9 errTab
noncomputable def p0 : Pur := ([.agg [I 0, I 0, I 0, I 0, U 0]], .inil, 1048576)
theorem p0_run : ranPure (evCall (cxX Tryz.prog bad [] [] [(135, isFn 289)]) 1000 60 34 p0.1 ⟨.lf, p0.2.2⟩) p0.2.1 = true := by kernel_rfl
theorem p0_ok {σ : Nat → Int} {W0 : World} : PureOk Tryz.prog 511 σ W0 34 p0 := pure_ok fit (Known2.nil σ) (FnsOk.cons (ext_is) (FnsOk.nil)) p0_run
noncomputable def p1 : Pur := ([.agg [I 1, I 0, I 0, I 0, U 8]], .inil, 1048576)
theorem p1_run : ranPure (evCall (cxX Tryz.prog bad [] [] [(135, isFn 289)]) 1000 60 34 p1.1 ⟨.lf, p1.2.2⟩) p1.2.1 = true := by kernel_rfl
theorem p1_ok {σ : Nat → Int} {W0 : World} : PureOk Tryz.prog 511 σ W0 34 p1 := pure_ok fit (Known2.nil σ) (FnsOk.cons (ext_is) (FnsOk.nil)) p1_run
noncomputable def p2 : Pur := ([], bT, 262144)
theorem p2_run : ranPure (evCall (cxX Tryz.prog bad [] [] [(34, pureFn [p0, p1]), (135, isFn 289)]) 1000 60 6 p2.1 ⟨.lf, p2.2.2⟩) p2.2.1 = true := by kernel_rfl
theorem p2_ok {σ : Nat → Int} {W0 : World} : PureOk Tryz.prog 511 σ W0 6 p2 := pure_ok fit (Known2.nil σ) (FnsOk.cons (pure_fn_ok (all_cons (p0_ok) (all_cons (p1_ok) (all_nil)))) (FnsOk.cons (ext_is) (FnsOk.nil))) p2_run
noncomputable def h1 : H := hUpd h0 365 [] [(62, .cells 1 ([[.slice 61 0 4 4 3 true]]) false),
  (46, .cells 1 ([[.snil]]) false),
  (30, .cells 3 (rp 4 ([bT, I 0, bF]) ([[bF, I 0, bF], [bF, I 0, bF]])) false),
  (54, .cells 2 (rp 8 ([I 0, I 0]) ([])) false),
  (22, .cells 2 ([[.ptr 20 0, .slice 21 0 12 12 80 true]]) false),
  (58, .cells 3 ([IZ (-1), I 30, I 4] :: rp 5 ([I 0, I 0, I 0]) ([])) false),
  (26, .cells 2 ([[.ptr 24 0, .slice 25 0 12 12 32 true]]) false),
  (66, .cells 9 ([[.ptr 29 0, .ptr 33 0, .ptr 55 0, .ptr 60 0, .ptr 64 0, .ptr 65 0, .snil, .snil, I 0]]) false),
  (34, .cells 1 ([[.snil]]) false),
  (60, .cells 5 ([[.ptr 57 0, .slice 58 0 6 6 3 true, .map 59, .ptr 29 0, .ptr 33 0]]) false),
  (28, .cells 3 ([[I 16, .snil, I 0]]) false),
  (52, .cells 3 (rp 8 ([bF, I 0, bF]) ([])) false),
  (20, .cells 1 ([[.slice 19 0 12 12 3 true]]) false),
  (56, .cells 3 ([bT, I 0, bF] :: rp 5 ([bF, I 0, bF]) ([])) false),
  (40, .cells 1 ([[.snil]]) false),
  (24, .cells 1 ([[.slice 23 0 12 12 3 true]]) false),
  (64, .cells 2 ([[.ptr 62 0, .slice 63 0 4 4 31 true]]) false),
  (32, .cells 107 ([rp 9 (U 0) ((I 3) :: rp 5 (I 0) ((U 0) :: rp 4 (I 0) ((U 0) :: rp 4 (I 0) ((U 0) :: rp 4 (I 0) ((U 0) :: rp 4 (I 0) ((U 0) :: rp 4 (I 0) ((U 0) :: rp 4 (I 0) ((U 0) :: rp 4 (I 0) ((U 0) :: rp 4 (I 0) ((U 0) :: rp 4 (I 0) ((U 0) :: rp 4 (I 0) ((U 0) :: rp 4 (I 0) ((U 0) :: rp 4 (I 0) ((U 0) :: rp 4 (I 0) ((U 0) :: rp 4 (I 0) ((U 0) :: rp 4 (I 0) ((U 0) :: rp 4 (I 0) ((U 0) :: rp 4 (I 0) ((U 0) :: rp 4 (I 0) ([U 0, I 0])))))))))))))))))))), rp 9 (U 0) ((I 1) :: rp 5 (I 0) ((U 0) :: rp 4 (I 0) ((U 0) :: rp 4 (I 0) ((U 0) :: rp 4 (I 0) ((U 0) :: rp 4 (I 0) ((U 0) :: rp 4 (I 0) ((U 0) :: rp 4 (I 0) ((U 0) :: rp 4 (I 0) ((U 0) :: rp 4 (I 0) ((U 0) :: rp 4 (I 0) ((U 0) :: rp 4 (I 0) ((U 0) :: rp 4 (I 0) ((U 0) :: rp 4 (I 0) ((U 0) :: rp 4 (I 0) ((U 0) :: rp 4 (I 0) ((U 0) :: rp 4 (I 0) ((U 0) :: rp 4 (I 0) ((U 0) :: rp 4 (I 0) ((U 0) :: rp 4 (I 0) ([U 0, I 0])))))))))))))))))))), rp 9 (U 0) ((I 1) :: rp 5 (I 0) ((U 0) :: rp 4 (I 0) ((U 0) :: rp 4 (I 0) ((U 0) :: rp 4 (I 0) ((U 0) :: rp 4 (I 0) ((U 0) :: rp 4 (I 0) ((U 0) :: rp 4 (I 0) ((U 0) :: rp 4 (I 0) ((U 0) :: rp 4 (I 0) ((U 0) :: rp 4 (I 0) ((U 0) :: rp 4 (I 0) ((U 0) :: rp 4 (I 0) ((U 0) :: rp 4 (I 0) ((U 0) :: rp 4 (I 0) ((U 0) :: rp 4 (I 0) ((U 0) :: rp 4 (I 0) ((U 0) :: rp 4 (I 0) ((U 0) :: rp 4 (I 0) ((U 0) :: rp 4 (I 0) ([U 0, I 0])))))))))))))))))))), rp 9 (U 0) ((I 1) :: rp 5 (I 0) ((U 0) :: rp 4 (I 0) ((U 0) :: rp 4 (I 0) ((U 0) :: rp 4 (I 0) ((U 0) :: rp 4 (I 0) ((U 0) :: rp 4 (I 0) ((U 0) :: rp 4 (I 0) ((U 0) :: rp 4 (I 0) ((U 0) :: rp 4 (I 0) ((U 0) :: rp 4 (I 0) ((U 0) :: rp 4 (I 0) ((U 0) :: rp 4 (I 0) ((U 0) :: rp 4 (I 0) ((U 0) :: rp 4 (I 0) ((U 0) :: rp 4 (I 0) ((U 0) :: rp 4 (I 0) ((U 0) :: rp 4 (I 0) ((U 0) :: rp 4 (I 0) ((U 0) :: rp 4 (I 0) ([U 0, I 0])))))))))))))))))))), rp 9 (U 0) (rp 6 (I 0) ((U 0) :: rp 4 (I 0) ((U 0) :: rp 4 (I 0) ((U 0) :: rp 4 (I 0) ((U 0) :: rp 4 (I 0) ((U 0) :: rp 4 (I 0) ((U 0) :: rp 4 (I 0) ((U 0) :: rp 4 (I 0) ((U 0) :: rp 4 (I 0) ((U 0) :: rp 4 (I 0) ((U 0) :: rp 4 (I 0) ((U 0) :: rp 4 (I 0) ((U 0) :: rp 4 (I 0) ((U 0) :: rp 4 (I 0) ((U 0) :: rp 4 (I 0) ((U 0) :: rp 4 (I 0) ((U 0) :: rp 4 (I 0) ((U 0) :: rp 4 (I 0) ((U 0) :: rp 4 (I 0) ([U 0, I 0])))))))))))))))))))), rp 9 (U 0) (rp 6 (I 0) ((U 0) :: rp 4 (I 0) ((U 0) :: rp 4 (I 0) ((U 0) :: rp 4 (I 0) ((U 0) :: rp 4 (I 0) ((U 0) :: rp 4 (I 0) ((U 0) :: rp 4 (I 0) ((U 0) :: rp 4 (I 0) ((U 0) :: rp 4 (I 0) ((U 0) :: rp 4 (I 0) ((U 0) :: rp 4 (I 0) ((U 0) :: rp 4 (I 0) ((U 0) :: rp 4 (I 0) ((U 0) :: rp 4 (I 0) ((U 0) :: rp 4 (I 0) ((U 0) :: rp 4 (I 0) ((U 0) :: rp 4 (I 0) ((U 0) :: rp 4 (I 0) ((U 0) :: rp 4 (I 0) ([U 0, I 0]))))))))))))))))))))]) false),
  (61, .cells 3 (rp 4 ([bF, I 0, bF]) ([])) false),
  (29, .cells 3 ([[.ptr 27 0, I 16, .ptr 28 0]]) false),
  (53, .cells 1 ([[.slice 52 0 8 8 3 true]]) false),
  (37, .cells 1 ([[.snil]]) false),
  (21, .cells 80 (rp 12 (rp 4 (I 0) ((U 0) :: rp 4 (I 0) ((U 0) :: rp 4 (I 0) ((U 0) :: rp 4 (I 0) ((U 0) :: rp 4 (I 0) ((U 0) :: rp 4 (I 0) ((U 0) :: rp 4 (I 0) ((U 0) :: rp 4 (I 0) ((U 0) :: rp 4 (I 0) ((U 0) :: rp 4 (I 0) ((U 0) :: rp 4 (I 0) ((U 0) :: rp 4 (I 0) ((U 0) :: rp 4 (I 0) ((U 0) :: rp 4 (I 0) ((U 0) :: rp 4 (I 0) ((U 0) :: rp 4 (I 0) ([U 0]))))))))))))))))) ([])) false),
  (57, .cells 1 ([[.slice 56 0 6 6 3 true]]) false),
  (25, .cells 32 (rp 12 (rp 32 (U 0) ([])) ([])) false),
  (49, .cells 1 ([[.snil]]) false),
  (65, .cells 1 ([[.snil]]) false),
  (33, .cells 3 ([[.ptr 31 0, .slice 32 0 6 6 107 true, .slice 51 0 6 6 1 false]]) false),
  (59, .map [(.agg [I 4, I 0], .agg [I 0, I 0], 0), (.agg [I 4, I 1], .agg [I 0, I 0], 1), (.agg [I 4, I 2], .agg [I 0, I 0], 2), (.agg [I 4, I 3], .agg [I 0, I 0], 3)] 4),
  (43, .cells 1 ([[.snil]]) false),
  (27, .cells 2 ([[.ptr 22 0, .ptr 26 0]]) false),
  (51, .cells 1 ([[.ptr 34 0], [.ptr 37 0], [.ptr 40 0], [.ptr 43 0], [.ptr 46 0], [.ptr 49 0]]) false),
  (19, .cells 3 (rp 12 ([bF, I 0, bF]) ([])) false),
  (55, .cells 2 ([[.ptr 53 0, .slice 54 0 8 8 2 true]]) false),
  (23, .cells 3 (rp 12 ([bF, I 0, bF]) ([])) false),
  (63, .cells 31 (rp 4 ((bF) :: rp 4 (I 0) ((U 0) :: rp 4 (I 0) ((U 0) :: rp 4 (I 0) ((U 0) :: rp 4 (I 0) ((U 0) :: rp 4 (I 0) ((U 0) :: rp 4 (I 0) ([U 0]))))))) ([])) false),
  (31, .cells 1 ([[.slice 30 0 6 6 3 true]]) false)] []
noncomputable def m3 : Memo := ⟨[], h0, .ptr 66 0, h1⟩
noncomputable def q0 : Fns := [(34, pureFn [p0]), (135, isFn 289)]
theorem q0_ok {σ : Nat → Int} {W0 : World} : FnsOk Tryz.prog 511 σ W0 q0 := FnsOk.cons (pure_fn_ok (all_cons (p0_ok) (all_nil))) (FnsOk.cons (ext_is) (FnsOk.nil))
theorem m3_run : ranTo (evCall (cxX Tryz.prog bad [] [] q0) 1000 60 8 m3.args m3.h) m3.v m3.h' = true := by kernel_rfl
theorem m3_ok {σ : Nat → Int} {W0 : World} : MemoOk Tryz.prog 511 σ W0 8 m3 := memo_ok fit (Known2.nil σ) (q0_ok) m3_run
noncomputable def q1 : Fns := [(6, pureFn [p2]), (8, frameFn [m3]), (135, isFn 289)]
theorem q1_ok {σ : Nat → Int} {W0 : World} : FnsOk Tryz.prog 511 σ W0 q1 := FnsOk.cons (pure_fn_ok (all_cons (p2_ok) (all_nil))) (FnsOk.cons (frame_fn_ok (all_cons (m3_ok) (all_nil))) (FnsOk.cons (ext_is) (FnsOk.nil)))
theorem run0 : isTrue (evCall (cxX Tryz.prog bad [((-9223372036854775808), 9223372036854775807), (0, 4294967295), (0, 4294967295)] [] ((7, numExtE [(0, 2, .lit 0)]) :: q1)) 1000 60 3 [.int .i64 (.var 0), .int .u32 (.var 1), .int .u32 (.var 2)] (sentH 289 9 errTab)) = true := by kernel_rfl
theorem case0 {σ : Nat → Int} {W : World} (hL : laidMetH Tryz.prog laidErrs W) (hk : Known2 σ [((-9223372036854775808), 9223372036854775807), (0, 4294967295), (0, 4294967295)] []) (hT : TabOk Tryz.prog bad 7 σ [(0, 2, .lit 0)]) {xs : Array Value} (hv : ∀ ρ, VRs σ ρ [.int .i64 (.var 0), .int .u32 (.var 1), .int .u32 (.var 2)] xs.toList) : Calls Tryz.prog 3 xs W fun e w' => e = .returned (.bool true) ∧ Below W.heap.size W w' := by
  obtain ⟨ads, h1, h2, h3⟩ := errs_sents hL
  exact law_case_x fit h1 h2 h3 errs_all errs_lt (by kernel_rfl) hk (FnsOk.cons (hT.ok fit) (q1_ok)) hv ⟨_, Tryz.func3, rfl⟩ run0
theorem run1 : isTrue (evCall (cxX Tryz.prog bad [((-9223372036854775808), 9223372036854775807), (0, 4294967295), (0, 4294967295)] [] ((7, numExtE [(0, 2, .lit 1)]) :: q1)) 1000 60 3 [.int .i64 (.var 0), .int .u32 (.var 1), .int .u32 (.var 2)] (sentH 289 9 errTab)) = true := by kernel_rfl
theorem case1 {σ : Nat → Int} {W : World} (hL : laidMetH Tryz.prog laidErrs W) (hk : Known2 σ [((-9223372036854775808), 9223372036854775807), (0, 4294967295), (0, 4294967295)] []) (hT : TabOk Tryz.prog bad 7 σ [(0, 2, .lit 1)]) {xs : Array Value} (hv : ∀ ρ, VRs σ ρ [.int .i64 (.var 0), .int .u32 (.var 1), .int .u32 (.var 2)] xs.toList) : Calls Tryz.prog 3 xs W fun e w' => e = .returned (.bool true) ∧ Below W.heap.size W w' := by
  obtain ⟨ads, h1, h2, h3⟩ := errs_sents hL
  exact law_case_x fit h1 h2 h3 errs_all errs_lt (by kernel_rfl) hk (FnsOk.cons (hT.ok fit) (q1_ok)) hv ⟨_, Tryz.func3, rfl⟩ run1
end Go.Proofs.YtalmhgaomgkdbacGreatDoor.gateForks
