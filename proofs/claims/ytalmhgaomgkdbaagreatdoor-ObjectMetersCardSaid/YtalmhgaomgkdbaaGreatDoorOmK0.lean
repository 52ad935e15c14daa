/- objectMeters: calls that are run once, and the runs of the cases (part 0). -/
import Derived.Test.YtalmhgaomgkdbaaGreatDoorEvOmF
set_option linter.unusedVariables false
set_option maxRecDepth 10000000
namespace Go.Proofs.YtalmhgaomgkdbaaGreatDoor.objectMeters
open Tk
open Go.RowKit
noncomputable def h0 : H := sentH 272 9 errTab
noncomputable def p0 : Pur := ([.agg [I 0, I 0, I 0, I 0, U 0]], .inil, 1048576)
theorem p0_run : ranPure (evCall (cxX Tryz.prog bad [] [] [(117, isFn 272)]) 1000 60 54 p0.1 ⟨.lf, p0.2.2⟩) p0.2.1 = true := by kernel_rfl
theorem p0_ok {σ : Nat → Int} {W0 : World} : PureOk Tryz.prog 511 σ W0 54 p0 := pure_ok fit (Known2.nil σ) (FnsOk.cons (ext_is) (FnsOk.nil)) p0_run
noncomputable def q0 : Fns := [(54, pureFn [p0]), (117, isFn 272)]
theorem q0_ok {σ : Nat → Int} {W0 : World} : FnsOk Tryz.prog 511 σ W0 q0 := FnsOk.cons (pure_fn_ok (all_cons (p0_ok) (all_nil))) (FnsOk.cons (ext_is) (FnsOk.nil))
noncomputable def p1 : Pur := ([], bT, 262144)
theorem p1_run : ranPure (evCall (cxX Tryz.prog bad [] [] q0) 1000 60 5 p1.1 ⟨.lf, p1.2.2⟩) p1.2.1 = true := by kernel_rfl
theorem p1_ok {σ : Nat → Int} {W0 : World} : PureOk Tryz.prog 511 σ W0 5 p1 := pure_ok fit (Known2.nil σ) (q0_ok) p1_run
noncomputable def h1 : H := hUpd h0 170 [] [(126, .cells 4 (rp 6 ([bF, bF, I 0, IZ (-1)]) ([])) false),
  (62, .cells 1 ([[.slice 61 0 4 4 3 true]]) false),
  (142, .cells 4 (rp 8 ([bF, bF, I 0, IZ (-1)]) ([])) false),
  (46, .cells 1 ([[.snil]]) false),
  (30, .cells 3 (rp 6 ([bF, I 0, bF]) ([])) false),
  (54, .cells 2 (rp 8 ([I 0, I 0]) ([])) false),
  (166, .cells 108 (rp 6 (rp 9 (U 0) (rp 6 (I 0) ((U 0) :: rp 4 (I 0) ((U 0) :: rp 4 (I 0) ((U 0) :: rp 4 (I 0) ((U 0) :: rp 4 (I 0) ((U 0) :: rp 4 (I 0) ((U 0) :: rp 4 (I 0) ((U 0) :: rp 4 (I 0) ((U 0) :: rp 4 (I 0) ((U 0) :: rp 4 (I 0) ((U 0) :: rp 4 (I 0) ((U 0) :: rp 4 (I 0) ((U 0) :: rp 4 (I 0) ((U 0) :: rp 4 (I 0) ((U 0) :: rp 4 (I 0) ((U 0) :: rp 4 (I 0) ((U 0) :: rp 4 (I 0) ((U 0) :: rp 4 (I 0) ((U 0) :: rp 4 (I 0) ([U 0, I 0, .snil]))))))))))))))))))))) ([])) false),
  (22, .cells 2 ([[.ptr 20 0, .slice 21 0 12 12 80 true]]) false),
  (154, .cells 4 (rp 6 ([bF, bF, I 0, IZ (-1)]) ([])) false),
  (90, .cells 4 (rp 12 ([bF, bF, I 0, IZ (-1)]) ([])) false),
  (58, .cells 3 (rp 6 ([I 0, I 0, I 0]) ([])) false),
  (26, .cells 2 ([[.ptr 24 0, .slice 25 0 12 12 32 true]]) false),
  (114, .cells 4 (rp 12 ([bF, bF, I 0, IZ (-1)]) ([])) false),
  (162, .cells 4 (rp 4 ([bF, bF, I 0, IZ (-1)]) ([])) false),
  (66, .cells 9 ([[.ptr 29 0, .ptr 33 0, .ptr 55 0, .ptr 60 0, .ptr 64 0, .ptr 65 0, .snil, .snil, I 0]]) false),
  (34, .cells 1 ([[.snil]]) false),
  (60, .cells 5 ([[.ptr 57 0, .slice 58 0 6 6 3 true, .map 59, .ptr 29 0, .ptr 33 0]]) false),
  (28, .cells 3 ([[I 16, .snil, I 0]]) false),
  (52, .cells 3 (rp 8 ([bF, I 0, bF]) ([])) false),
  (164, .cells 80 (rp 12 (rp 4 (I 0) ((U 0) :: rp 4 (I 0) ((U 0) :: rp 4 (I 0) ((U 0) :: rp 4 (I 0) ((U 0) :: rp 4 (I 0) ((U 0) :: rp 4 (I 0) ((U 0) :: rp 4 (I 0) ((U 0) :: rp 4 (I 0) ((U 0) :: rp 4 (I 0) ((U 0) :: rp 4 (I 0) ((U 0) :: rp 4 (I 0) ((U 0) :: rp 4 (I 0) ((U 0) :: rp 4 (I 0) ((U 0) :: rp 4 (I 0) ((U 0) :: rp 4 (I 0) ((U 0) :: rp 4 (I 0) ([U 0]))))))))))))))))) ([])) false),
  (20, .cells 1 ([[.slice 19 0 12 12 3 true]]) false),
  (56, .cells 3 (rp 6 ([bF, I 0, bF]) ([])) false),
  (168, .cells 3 (rp 6 ([I 0, I 0, I 0]) ([])) false),
  (40, .cells 1 ([[.snil]]) false),
  (24, .cells 1 ([[.slice 23 0 12 12 3 true]]) false),
  (64, .cells 2 ([[.ptr 62 0, .slice 63 0 4 4 31 true]]) false),
  (32, .cells 107 (rp 6 (rp 9 (U 0) (rp 6 (I 0) ((U 0) :: rp 4 (I 0) ((U 0) :: rp 4 (I 0) ((U 0) :: rp 4 (I 0) ((U 0) :: rp 4 (I 0) ((U 0) :: rp 4 (I 0) ((U 0) :: rp 4 (I 0) ((U 0) :: rp 4 (I 0) ((U 0) :: rp 4 (I 0) ((U 0) :: rp 4 (I 0) ((U 0) :: rp 4 (I 0) ((U 0) :: rp 4 (I 0) ((U 0) :: rp 4 (I 0) ((U 0) :: rp 4 (I 0) ((U 0) :: rp 4 (I 0) ((U 0) :: rp 4 (I 0) ((U 0) :: rp 4 (I 0) ((U 0) :: rp 4 (I 0) ((U 0) :: rp 4 (I 0) ([U 0, I 0]))))))))))))))))))))) ([])) false),
  (61, .cells 3 (rp 4 ([bF, I 0, bF]) ([])) false),
  (29, .cells 3 ([[.ptr 27 0, I 16, .ptr 28 0]]) false),
  (53, .cells 1 ([[.slice 52 0 8 8 3 true]]) false),
  (165, .cells 32 (rp 12 (rp 32 (U 0) ([])) ([])) false),
  (37, .cells 1 ([[.snil]]) false),
  (21, .cells 80 (rp 12 (rp 4 (I 0) ((U 0) :: rp 4 (I 0) ((U 0) :: rp 4 (I 0) ((U 0) :: rp 4 (I 0) ((U 0) :: rp 4 (I 0) ((U 0) :: rp 4 (I 0) ((U 0) :: rp 4 (I 0) ((U 0) :: rp 4 (I 0) ((U 0) :: rp 4 (I 0) ((U 0) :: rp 4 (I 0) ((U 0) :: rp 4 (I 0) ((U 0) :: rp 4 (I 0) ((U 0) :: rp 4 (I 0) ((U 0) :: rp 4 (I 0) ((U 0) :: rp 4 (I 0) ((U 0) :: rp 4 (I 0) ([U 0]))))))))))))))))) ([])) false),
  (57, .cells 1 ([[.slice 56 0 6 6 3 true]]) false),
  (169, .cells 31 (rp 4 ((bF) :: rp 4 (I 0) ((U 0) :: rp 4 (I 0) ((U 0) :: rp 4 (I 0) ((U 0) :: rp 4 (I 0) ((U 0) :: rp 4 (I 0) ((U 0) :: rp 4 (I 0) ([U 0]))))))) ([])) false),
  (25, .cells 32 (rp 12 (rp 32 (U 0) ([])) ([])) false),
  (49, .cells 1 ([[.snil]]) false),
  (65, .cells 1 ([[.snil]]) false),
  (33, .cells 3 ([[.ptr 31 0, .slice 32 0 6 6 107 true, .slice 51 0 6 6 1 false]]) false),
  (59, .map [] 0),
  (43, .cells 1 ([[.snil]]) false),
  (27, .cells 2 ([[.ptr 22 0, .ptr 26 0]]) false),
  (51, .cells 1 ([[.ptr 34 0], [.ptr 37 0], [.ptr 40 0], [.ptr 43 0], [.ptr 46 0], [.ptr 49 0]]) false),
  (163, .cells 16 ([[.slice 90 0 12 12 4 false, .slice 114 0 12 12 4 false, .slice 126 0 6 6 4 false, .slice 142 0 8 8 4 false, .slice 154 0 6 6 4 false, .slice 162 0 4 4 4 false, .slice 164 0 12 12 80 true, .slice 165 0 12 12 32 true, .slice 166 0 6 6 108 true, .slice 167 0 8 8 2 true, .slice 168 0 6 6 3 true, .slice 169 0 4 4 31 true, .snil, .snil, .snil, I 0]]) false),
  (19, .cells 3 (rp 12 ([bF, I 0, bF]) ([])) false),
  (55, .cells 2 ([[.ptr 53 0, .slice 54 0 8 8 2 true]]) false),
  (167, .cells 2 (rp 8 ([I 0, I 0]) ([])) false),
  (23, .cells 3 (rp 12 ([bF, I 0, bF]) ([])) false),
  (63, .cells 31 (rp 4 ((bF) :: rp 4 (I 0) ((U 0) :: rp 4 (I 0) ((U 0) :: rp 4 (I 0) ((U 0) :: rp 4 (I 0) ((U 0) :: rp 4 (I 0) ((U 0) :: rp 4 (I 0) ([U 0]))))))) ([])) false),
  (31, .cells 1 ([[.slice 30 0 6 6 3 true]]) false)] []
noncomputable def m2 : Memo := ⟨[], h0, .tuple [.ptr 66 0, .ptr 163 0], h1⟩
theorem m2_run : ranTo (evCall (cxX Tryz.prog bad [] [] [(117, isFn 272)]) 1000 60 6 m2.args m2.h) m2.v m2.h' = true := by kernel_rfl
theorem m2_ok {σ : Nat → Int} {W0 : World} : MemoOk Tryz.prog 511 σ W0 6 m2 := memo_ok fit (Known2.nil σ) (FnsOk.cons (ext_is) (FnsOk.nil)) m2_run
noncomputable def p3 : Pur := ([.agg [I 7, I 0, I 0, I 0, U 0]], .inil, 1048576)
theorem p3_run : ranPure (evCall (cxX Tryz.prog bad [] [] [(117, isFn 272)]) 1000 60 54 p3.1 ⟨.lf, p3.2.2⟩) p3.2.1 = true := by kernel_rfl
theorem p3_ok {σ : Nat → Int} {W0 : World} : PureOk Tryz.prog 511 σ W0 54 p3 := pure_ok fit (Known2.nil σ) (FnsOk.cons (ext_is) (FnsOk.nil)) p3_run
noncomputable def p4 : Pur := ([.agg [I 7, I 1, I 0, I 0, U 0]], .inil, 1048576)
theorem p4_run : ranPure (evCall (cxX Tryz.prog bad [] [] [(117, isFn 272)]) 1000 60 54 p4.1 ⟨.lf, p4.2.2⟩) p4.2.1 = true := by kernel_rfl
theorem p4_ok {σ : Nat → Int} {W0 : World} : PureOk Tryz.prog 511 σ W0 54 p4 := pure_ok fit (Known2.nil σ) (FnsOk.cons (ext_is) (FnsOk.nil)) p4_run
noncomputable def p5 : Pur := ([I 1, I 2], I 1, 1048576)
theorem p5_run : ranPure (evCall (cxX Tryz.prog bad [] [] [(117, isFn 272)]) 1000 60 9 p5.1 ⟨.lf, p5.2.2⟩) p5.2.1 = true := by kernel_rfl
theorem p5_ok {σ : Nat → Int} {W0 : World} : PureOk Tryz.prog 511 σ W0 9 p5 := pure_ok fit (Known2.nil σ) (FnsOk.cons (ext_is) (FnsOk.nil)) p5_run
noncomputable def q1 : Fns := [(5, pureFn [p1]), (6, frameFn [m2]), (9, pureFn [p5]), (117, isFn 272)]
theorem q1_ok {σ : Nat → Int} {W0 : World} : FnsOk Tryz.prog 511 σ W0 q1 := FnsOk.cons (pure_fn_ok (all_cons (p1_ok) (all_nil))) (FnsOk.cons (frame_fn_ok (all_cons (m2_ok) (all_nil))) (FnsOk.cons (pure_fn_ok (all_cons (p5_ok) (all_nil))) (FnsOk.cons (ext_is) (FnsOk.nil))))
theorem run0 : isTrue (evCall (cxX Tryz.prog bad [(0, 4294967295), (0, 4294967295), (0, 4294967295)] [(false, .add (.bop .rem .u32 (.var 0) (.lit 1000)) (.bop .rem .u32 (.var 1) (.lit 1000)), .bop .rem .u32 (.var 2) (.lit 60), true)] ((54, pureFn [p3, p0, p4]) :: q1)) 1000 60 4 [.int .u32 (.var 0), .int .u32 (.var 1), .int .u32 (.var 2)] (sentH 272 9 errTab)) = true := by kernel_rfl
theorem case0 {σ : Nat → Int} {W : World} (hL : laidMetH Tryz.prog laidErrs W) (hk : Known2 σ [(0, 4294967295), (0, 4294967295), (0, 4294967295)] [(false, .add (.bop .rem .u32 (.var 0) (.lit 1000)) (.bop .rem .u32 (.var 1) (.lit 1000)), .bop .rem .u32 (.var 2) (.lit 60), true)]) (hT : TabOk Tryz.prog bad 9 σ []) {xs : Array Value} (hv : ∀ ρ, VRs σ ρ [.int .u32 (.var 0), .int .u32 (.var 1), .int .u32 (.var 2)] xs.toList) : Calls Tryz.prog 4 xs W fun e w' => e = .returned (.bool true) ∧ Below W.heap.size W w' := by
  obtain ⟨ads, h1, h2, h3⟩ := errs_sents hL
  exact law_case_x fit h1 h2 h3 errs_all errs_lt (by kernel_rfl) hk (FnsOk.cons (pure_fn_ok (all_cons (p3_ok) (all_cons (p0_ok) (all_cons (p4_ok) (all_nil))))) (q1_ok)) hv ⟨_, Tryz.func4, rfl⟩ run0
theorem run1 : isTrue (evCall (cxX Tryz.prog bad [(0, 4294967295), (0, 4294967295), (0, 4294967295)] [(false, .add (.bop .rem .u32 (.var 0) (.lit 1000)) (.bop .rem .u32 (.var 1) (.lit 1000)), .bop .rem .u32 (.var 2) (.lit 60), false), (false, .lit 50, .bop .rem .u32 (.var 2) (.lit 60), true)] ((54, pureFn [p3, p0, p4]) :: q1)) 1000 60 4 [.int .u32 (.var 0), .int .u32 (.var 1), .int .u32 (.var 2)] (sentH 272 9 errTab)) = true := by kernel_rfl
theorem case1 {σ : Nat → Int} {W : World} (hL : laidMetH Tryz.prog laidErrs W) (hk : Known2 σ [(0, 4294967295), (0, 4294967295), (0, 4294967295)] [(false, .add (.bop .rem .u32 (.var 0) (.lit 1000)) (.bop .rem .u32 (.var 1) (.lit 1000)), .bop .rem .u32 (.var 2) (.lit 60), false), (false, .lit 50, .bop .rem .u32 (.var 2) (.lit 60), true)]) (hT : TabOk Tryz.prog bad 9 σ []) {xs : Array Value} (hv : ∀ ρ, VRs σ ρ [.int .u32 (.var 0), .int .u32 (.var 1), .int .u32 (.var 2)] xs.toList) : Calls Tryz.prog 4 xs W fun e w' => e = .returned (.bool true) ∧ Below W.heap.size W w' := by
  obtain ⟨ads, h1, h2, h3⟩ := errs_sents hL
  exact law_case_x fit h1 h2 h3 errs_all errs_lt (by kernel_rfl) hk (FnsOk.cons (pure_fn_ok (all_cons (p3_ok) (all_cons (p0_ok) (all_cons (p4_ok) (all_nil))))) (q1_ok)) hv ⟨_, Tryz.func4, rfl⟩ run1
theorem run2 : isTrue (evCall (cxX Tryz.prog bad [(0, 4294967295), (0, 4294967295), (0, 4294967295)] [(false, .add (.bop .rem .u32 (.var 0) (.lit 1000)) (.bop .rem .u32 (.var 1) (.lit 1000)), .bop .rem .u32 (.var 2) (.lit 60), false), (false, .lit 50, .bop .rem .u32 (.var 2) (.lit 60), false)] ((54, pureFn [p3, p0, p4]) :: q1)) 1000 60 4 [.int .u32 (.var 0), .int .u32 (.var 1), .int .u32 (.var 2)] (sentH 272 9 errTab)) = true := by kernel_rfl
theorem case2 {σ : Nat → Int} {W : World} (hL : laidMetH Tryz.prog laidErrs W) (hk : Known2 σ [(0, 4294967295), (0, 4294967295), (0, 4294967295)] [(false, .add (.bop .rem .u32 (.var 0) (.lit 1000)) (.bop .rem .u32 (.var 1) (.lit 1000)), .bop .rem .u32 (.var 2) (.lit 60), false), (false, .lit 50, .bop .rem .u32 (.var 2) (.lit 60), false)]) (hT : TabOk Tryz.prog bad 9 σ []) {xs : Array Value} (hv : ∀ ρ, VRs σ ρ [.int .u32 (.var 0), .int .u32 (.var 1), .int .u32 (.var 2)] xs.toList) : Calls Tryz.prog 4 xs W fun e w' => e = .returned (.bool true) ∧ Below W.heap.size W w' := by
  obtain ⟨ads, h1, h2, h3⟩ := errs_sents hL
  exact law_case_x fit h1 h2 h3 errs_all errs_lt (by kernel_rfl) hk (FnsOk.cons (pure_fn_ok (all_cons (p3_ok) (all_cons (p0_ok) (all_cons (p4_ok) (all_nil))))) (q1_ok)) hv ⟨_, Tryz.func4, rfl⟩ run2
end Go.Proofs.YtalmhgaomgkdbaaGreatDoor.objectMeters
