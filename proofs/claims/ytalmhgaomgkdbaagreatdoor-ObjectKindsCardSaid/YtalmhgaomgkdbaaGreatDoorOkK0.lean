/- objectKinds: calls that are run once, and the runs of the cases (part 0). -/
import Derived.Test.YtalmhgaomgkdbaaGreatDoorEvOkF
set_option linter.unusedVariables false
set_option maxRecDepth 10000000
namespace Go.Proofs.YtalmhgaomgkdbaaGreatDoor.objectKinds
open Tk
open Go.RowKit
noncomputable def h0 : H := sentH 272 9 errTab
noncomputable def p0 : Pur := ([.agg [I 0, I 0, I 0, I 0, U 0]], .inil, 1048576)
theorem p0_run : ranPure (evCall (cxX Tryz.prog bad [] [] [(117, isFn 272)]) 1000 60 54 p0.1 ⟨.lf, p0.2.2⟩) p0.2.1 = true := by kernel_rfl
theorem p0_ok {σ : Nat → Int} {W0 : World} : PureOk Tryz.prog 511 σ W0 54 p0 := pure_ok fit (Known2.nil σ) (FnsOk.cons (ext_is) (FnsOk.nil)) p0_run
noncomputable def q0 : Fns := [(54, pureFn [p0]), (117, isFn 272)]
theorem q0_ok {σ : Nat → Int} {W0 : World} : FnsOk Tryz.prog 511 σ W0 q0 := FnsOk.cons (pure_fn_ok (all_cons (p0_ok) (all_nil))) (FnsOk.cons (ext_is) (FnsOk.nil))
noncomputable def p1 : Pur := ([], bT, 262144)
theorem p1_run : ranPure (evCall (cxX Tryz.prog bad [] [] q0) 1000 60 5 p1.1 ⟨.lf, p1.2.2⟩) p1.2.1 = true := by kernel_rfl
theorem p1_ok {σ : Nat → Int} {W0 : World} : PureOk Tryz.prog 511 σ W0 5 p1 := pure_ok fit (Known2.nil σ) (q0_ok) p1_run
noncomputable def h1 : H := hUpd h0 170 [] [(126, .cells 4 (rp 6 ([bF, bF, I 0, IZ (-1)]) ([])) false),
  (62, .cells 1 ([[.slice 61 0 4 4 3 true]]) false),
  (142, .cells 4 (rp 8 ([bF, bF, I 0, IZ (-1)]) ([])) false),
  (46, .cells 1 ([[.snil]]) false),
  (30, .cells 3 (rp 6 ([bF, I 0, bF]) ([])) false),
  (54, .cells 2 (rp 8 ([I 0, I 0]) ([])) false),
  (166, .cells 108 (rp 6 (rp 9 (U 0) (rp 6 (I 0) ((U 0) :: rp 4 (I 0) ((U 0) :: rp 4 (I 0) ((U 0) :: rp 4 (I 0) ((U 0) :: rp 4 (I 0) ((U 0) :: rp 4 (I 0) ((U 0) :: rp 4 (I 0) ((U 0) :: rp 4 (I 0) ((U 0) :: rp 4 (I 0) ((U 0) :: rp 4 (I 0) ((U 0) :: rp 4 (I 0) ((U 0) :: rp 4 (I 0) ((U 0) :: rp 4 (I 0) ((U 0) :: rp 4 (I 0) ((U 0) :: rp 4 (I 0) ((U 0) :: rp 4 (I 0) ((U 0) :: rp 4 (I 0) ((U 0) :: rp 4 (I 0) ((U 0) :: rp 4 (I 0) ([U 0, I 0, .snil]))))))))))))))))))))) ([])) false),
  (22, .cells 2 ([[.ptr 20 0, .slice 21 0 12 12 80 true]]) false),
  (154, .cells 4 (rp 6 ([bF, bF, I 0, IZ (-1)]) ([])) false),
  (90, .cells 4 (rp 12 ([bF, bF, I 0, IZ (-1)]) ([])) false),
  (58, .cells 3 (rp 6 ([I 0, I 0, I 0]) ([])) false),
  (26, .cells 2 ([[.ptr 24 0, .slice 25 0 12 12 32 true]]) false),
  (114, .cells 4 (rp 12 ([bF, bF, I 0, IZ (-1)]) ([])) false),
  (162, .cells 4 (rp 4 ([bF, bF, I 0, IZ (-1)]) ([])) false),
  (66, .cells 9 ([[.ptr 29 0, .ptr 33 0, .ptr 55 0, .ptr 60 0, .ptr 64 0, .ptr 65 0, .snil, .snil, I 0]]) false),
  (34, .cells 1 ([[.snil]]) false),
  (60, .cells 5 ([[.ptr 57 0, .slice 58 0 6 6 3 true, .map 59, .ptr 29 0, .ptr 33 0]]) false),
  (28, .cells 3 ([[I 16, .snil, I 0]]) false),
  (52, .cells 3 (rp 8 ([bF, I 0, bF]) ([])) false),
  (164, .cells 80 (rp 12 (rp 4 (I 0) ((U 0) :: rp 4 (I 0) ((U 0) :: rp 4 (I 0) ((U 0) :: rp 4 (I 0) ((U 0) :: rp 4 (I 0) ((U 0) :: rp 4 (I 0) ((U 0) :: rp 4 (I 0) ((U 0) :: rp 4 (I 0) ((U 0) :: rp 4 (I 0) ((U 0) :: rp 4 (I 0) ((U 0) :: rp 4 (I 0) ((U 0) :: rp 4 (I 0) ((U 0) :: rp 4 (I 0) ((U 0) :: rp 4 (I 0) ((U 0) :: rp 4 (I 0) ((U 0) :: rp 4 (I 0) ([U 0]))))))))))))))))) ([])) false),
  (20, .cells 1 ([[.slice 19 0 12 12 3 true]]) false),
  (56, .cells 3 (rp 6 ([bF, I 0, bF]) ([])) false),
  (168, .cells 3 (rp 6 ([I 0, I 0, I 0]) ([])) false),
  (40, .cells 1 ([[.snil]]) false),
  (24, .cells 1 ([[.slice 23 0 12 12 3 true]]) false),
  (64, .cells 2 ([[.ptr 62 0, .slice 63 0 4 4 31 true]]) false),
  (32, .cells 107 (rp 6 (rp 9 (U 0) (rp 6 (I 0) ((U 0) :: rp 4 (I 0) ((U 0) :: rp 4 (I 0) ((U 0) :: rp 4 (I 0) ((U 0) :: rp 4 (I 0) ((U 0) :: rp 4 (I 0) ((U 0) :: rp 4 (I 0) ((U 0) :: rp 4 (I 0) ((U 0) :: rp 4 (I 0) ((U 0) :: rp 4 (I 0) ((U 0) :: rp 4 (I 0) ((U 0) :: rp 4 (I 0) ((U 0) :: rp 4 (I 0) ((U 0) :: rp 4 (I 0) ((U 0) :: rp 4 (I 0) ((U 0) :: rp 4 (I 0) ((U 0) :: rp 4 (I 0) ((U 0) :: rp 4 (I 0) ((U 0) :: rp 4 (I 0) ([U 0, I 0]))))))))))))))))))))) ([])) false),
  (61, .cells 3 (rp 4 ([bF, I 0, bF]) ([])) false),
  (29, .cells 3 ([[.ptr 27 0, I 16, .ptr 28 0]]) false),
  (53, .cells 1 ([[.slice 52 0 8 8 3 true]]) false),
  (165, .cells 32 (rp 12 (rp 32 (U 0) ([])) ([])) false),
  (37, .cells 1 ([[.snil]]) false),
  (21, .cells 80 (rp 12 (rp 4 (I 0) ((U 0) :: rp 4 (I 0) ((U 0) :: rp 4 (I 0) ((U 0) :: rp 4 (I 0) ((U 0) :: rp 4 (I 0) ((U 0) :: rp 4 (I 0) ((U 0) :: rp 4 (I 0) ((U 0) :: rp 4 (I 0) ((U 0) :: rp 4 (I 0) ((U 0) :: rp 4 (I 0) ((U 0) :: rp 4 (I 0) ((U 0) :: rp 4 (I 0) ((U 0) :: rp 4 (I 0) ((U 0) :: rp 4 (I 0) ((U 0) :: rp 4 (I 0) ((U 0) :: rp 4 (I 0) ([U 0]))))))))))))))))) ([])) false),
  (57, .cells 1 ([[.slice 56 0 6 6 3 true]]) false),
  (169, .cells 31 (rp 4 ((bF) :: rp 4 (I 0) ((U 0) :: rp 4 (I 0) ((U 0) :: rp 4 (I 0) ((U 0) :: rp 4 (I 0) ((U 0) :: rp 4 (I 0) ((U 0) :: rp 4 (I 0) ([U 0]))))))) ([])) false),
  (25, .cells 32 (rp 12 (rp 32 (U 0) ([])) ([])) false),
  (49, .cells 1 ([[.snil]]) false),
  (65, .cells 1 ([[.snil]]) false),
  (33, .cells 3 ([[.ptr 31 0, .slice 32 0 6 6 107 true, .slice 51 0 6 6 1 false]]) false),
  (59, .map [] 0),
  (43, .cells 1 ([[.snil]]) false),
  (27, .cells 2 ([[.ptr 22 0, .ptr 26 0]]) false),
  (51, .cells 1 ([[.ptr 34 0], [.ptr 37 0], [.ptr 40 0], [.ptr 43 0], [.ptr 46 0], [.ptr 49 0]]) false),
  (163, .cells 16 ([[.slice 90 0 12 12 4 false, .slice 114 0 12 12 4 false, .slice 126 0 6 6 4 false, .slice 142 0 8 8 4 false, .slice 154 0 6 6 4 false, .slice 162 0 4 4 4 false, .slice 164 0 12 12 80 true, .slice 165 0 12 12 32 true, .slice 166 0 6 6 108 true, .slice 167 0 8 8 2 true, .slice 168 0 6 6 3 true, .slice 169 0 4 4 31 true, .snil, .snil, .snil, I 0]]) false),
  (19, .cells 3 (rp 12 ([bF, I 0, bF]) ([])) false),
  (55, .cells 2 ([[.ptr 53 0, .slice 54 0 8 8 2 true]]) false),
  (167, .cells 2 (rp 8 ([I 0, I 0]) ([])) false),
  (23, .cells 3 (rp 12 ([bF, I 0, bF]) ([])) false),
  (63, .cells 31 (rp 4 ((bF) :: rp 4 (I 0) ((U 0) :: rp 4 (I 0) ((U 0) :: rp 4 (I 0) ((U 0) :: rp 4 (I 0) ((U 0) :: rp 4 (I 0) ((U 0) :: rp 4 (I 0) ([U 0]))))))) ([])) false),
  (31, .cells 1 ([[.slice 30 0 6 6 3 true]]) false)] []
noncomputable def m2 : Memo := ⟨[], h0, .tuple [.ptr 66 0, .ptr 163 0], h1⟩
theorem m2_run : ranTo (evCall (cxX Tryz.prog bad [] [] [(117, isFn 272)]) 1000 60 6 m2.args m2.h) m2.v m2.h' = true := by kernel_rfl
theorem m2_ok {σ : Nat → Int} {W0 : World} : MemoOk Tryz.prog 511 σ W0 6 m2 := memo_ok fit (Known2.nil σ) (FnsOk.cons (ext_is) (FnsOk.nil)) m2_run
noncomputable def h2 : H := hUpd h1 315 [126, 62, 142, 54, 166, 154, 90, 114, 162, 66, 52, 164, 168, 64, 61, 53, 165, 169, 65, 163, 55, 167, 63] [] []
noncomputable def h3 : H := hUpd h2 323 [] [] [(58, 0, [IZ (-1), I 10, I 0]),
  (56, 0, [bT, I 0, bF])]
noncomputable def m3 : Memo := ⟨[.ptr 60 0, I 10], h2, .tuple [I 0, I 0, .inil], h3⟩
theorem m3_run : ranTo (evCall (cxX Tryz.prog bad [] [] [(117, isFn 272)]) 1000 60 10 m3.args m3.h) m3.v m3.h' = true := by kernel_rfl
theorem m3_ok {σ : Nat → Int} {W0 : World} : MemoOk Tryz.prog 511 σ W0 10 m3 := memo_ok fit (Known2.nil σ) (FnsOk.cons (ext_is) (FnsOk.nil)) m3_run
noncomputable def h4 : H := hUpd h3 398 [] [(59, .map [(.agg [I 2, I 0], .agg [I 0, I 0], 0)] 1)] [(58, 0, [IZ (-1), I 10, I 1]),
  (19, 0, [bT, I 0, bF])]
noncomputable def m4 : Memo := ⟨[.ptr 60 0, I 0, .snil], h3, .tuple [I 0, I 0, .inil], h4⟩
theorem m4_run : ranTo (evCall (cxX Tryz.prog bad [] [] [(117, isFn 272)]) 1000 60 11 m4.args m4.h) m4.v m4.h' = true := by kernel_rfl
theorem m4_ok {σ : Nat → Int} {W0 : World} : MemoOk Tryz.prog 511 σ W0 11 m4 := memo_ok fit (Known2.nil σ) (FnsOk.cons (ext_is) (FnsOk.nil)) m4_run
noncomputable def h5 : H := hUpd h4 461 [] [(59, .map [(.agg [I 2, I 0], .agg [I 0, I 0], 0), (.agg [I 3, I 0], .agg [I 0, I 0], 1)] 2)] [(58, 0, [IZ (-1), I 10, I 2]),
  (23, 0, [bT, I 0, bF])]
noncomputable def m5 : Memo := ⟨[.ptr 60 0, I 0, .snil], h4, .tuple [I 0, I 0, .inil], h5⟩
theorem m5_run : ranTo (evCall (cxX Tryz.prog bad [] [] [(117, isFn 272)]) 1000 60 12 m5.args m5.h) m5.v m5.h' = true := by kernel_rfl
theorem m5_ok {σ : Nat → Int} {W0 : World} : MemoOk Tryz.prog 511 σ W0 12 m5 := memo_ok fit (Known2.nil σ) (FnsOk.cons (ext_is) (FnsOk.nil)) m5_run
noncomputable def h6 : H := hUpc h5 495 [] [(59, .map [(.agg [I 2, I 0], .agg [I 0, I 0], 0), (.agg [I 3, I 0], .agg [I 0, I 0], 1), (.agg [I 4, I 0], .agg [I 0, I 0], 2)] 3)] [(30, 0, [bT, I 0, bF]),
  (58, 0, [IZ (-1), I 10, I 3])] [(32, 0, 9, I 1)]
noncomputable def m6 : Memo := ⟨[.ptr 60 0, I 0], h5, .tuple [I 0, I 0, .inil], h6⟩
theorem m6_run : ranTo (evCall (cxX Tryz.prog bad [] [] [(117, isFn 272)]) 1000 60 13 m6.args m6.h) m6.v m6.h' = true := by kernel_rfl
theorem m6_ok {σ : Nat → Int} {W0 : World} : MemoOk Tryz.prog 511 σ W0 13 m6 := memo_ok fit (Known2.nil σ) (FnsOk.cons (ext_is) (FnsOk.nil)) m6_run
noncomputable def q1 : Fns := [(5, pureFn [p1]), (6, frameFn [m2]), (10, frameFn [m3]), (11, frameFn [m4]), (12, frameFn [m5]), (13, frameFn [m6]), (54, pureFn [p0]), (117, isFn 272)]
theorem q1_ok {σ : Nat → Int} {W0 : World} : FnsOk Tryz.prog 511 σ W0 q1 := FnsOk.cons (pure_fn_ok (all_cons (p1_ok) (all_nil))) (FnsOk.cons (frame_fn_ok (all_cons (m2_ok) (all_nil))) (FnsOk.cons (frame_fn_ok (all_cons (m3_ok) (all_nil))) (FnsOk.cons (frame_fn_ok (all_cons (m4_ok) (all_nil))) (FnsOk.cons (frame_fn_ok (all_cons (m5_ok) (all_nil))) (FnsOk.cons (frame_fn_ok (all_cons (m6_ok) (all_nil))) (FnsOk.cons (pure_fn_ok (all_cons (p0_ok) (all_nil))) (FnsOk.cons (ext_is) (FnsOk.nil))))))))
theorem run0 : isTrue (evCall (cxX Tryz.prog bad [((-9223372036854775808), 9223372036854775807), (0, 4294967295), (0, 4294967295)] [] ((9, numExtE [(0, 15, .lit 0)]) :: q1)) 1000 60 3 [.int .i64 (.var 0), .int .u32 (.var 1), .int .u32 (.var 2)] (sentH 272 9 errTab)) = true := by kernel_rfl
theorem case0 {σ : Nat → Int} {W : World} (hL : laidMetH Tryz.prog laidErrs W) (hk : Known2 σ [((-9223372036854775808), 9223372036854775807), (0, 4294967295), (0, 4294967295)] []) (hT : TabOk Tryz.prog bad 9 σ [(0, 15, .lit 0)]) {xs : Array Value} (hv : ∀ ρ, VRs σ ρ [.int .i64 (.var 0), .int .u32 (.var 1), .int .u32 (.var 2)] xs.toList) : Calls Tryz.prog 3 xs W fun e w' => e = .returned (.bool true) ∧ Below W.heap.size W w' := by
  obtain ⟨ads, h1, h2, h3⟩ := errs_sents hL
  exact law_case_x fit h1 h2 h3 errs_all errs_lt (by kernel_rfl) hk (FnsOk.cons (hT.ok fit) (q1_ok)) hv ⟨_, Tryz.func3, rfl⟩ run0
noncomputable def p7 : Pur := ([.agg [I 2, I 0, I 7, I 0, U 0]], .inil, 1048576)
theorem p7_run : ranPure (evCall (cxX Tryz.prog bad [] [] [(117, isFn 272)]) 1000 60 54 p7.1 ⟨.lf, p7.2.2⟩) p7.2.1 = true := by kernel_rfl
theorem p7_ok {σ : Nat → Int} {W0 : World} : PureOk Tryz.prog 511 σ W0 54 p7 := pure_ok fit (Known2.nil σ) (FnsOk.cons (ext_is) (FnsOk.nil)) p7_run
noncomputable def q2 : Fns := [(5, pureFn [p1]), (6, frameFn [m2]), (10, frameFn [m3]), (11, frameFn [m4]), (12, frameFn [m5]), (13, frameFn [m6]), (117, isFn 272)]
theorem q2_ok {σ : Nat → Int} {W0 : World} : FnsOk Tryz.prog 511 σ W0 q2 := FnsOk.cons (pure_fn_ok (all_cons (p1_ok) (all_nil))) (FnsOk.cons (frame_fn_ok (all_cons (m2_ok) (all_nil))) (FnsOk.cons (frame_fn_ok (all_cons (m3_ok) (all_nil))) (FnsOk.cons (frame_fn_ok (all_cons (m4_ok) (all_nil))) (FnsOk.cons (frame_fn_ok (all_cons (m5_ok) (all_nil))) (FnsOk.cons (frame_fn_ok (all_cons (m6_ok) (all_nil))) (FnsOk.cons (ext_is) (FnsOk.nil)))))))
theorem run1 : isTrue (evCall (cxX Tryz.prog bad [((-9223372036854775808), 9223372036854775807), (0, 4294967295), (0, 4294967295)] [] ((9, numExtE [(0, 15, .lit 1)]) :: q2)) 1000 60 3 [.int .i64 (.var 0), .int .u32 (.var 1), .int .u32 (.var 2)] (sentH 272 9 errTab)) = true := by kernel_rfl
theorem case1 {σ : Nat → Int} {W : World} (hL : laidMetH Tryz.prog laidErrs W) (hk : Known2 σ [((-9223372036854775808), 9223372036854775807), (0, 4294967295), (0, 4294967295)] []) (hT : TabOk Tryz.prog bad 9 σ [(0, 15, .lit 1)]) {xs : Array Value} (hv : ∀ ρ, VRs σ ρ [.int .i64 (.var 0), .int .u32 (.var 1), .int .u32 (.var 2)] xs.toList) : Calls Tryz.prog 3 xs W fun e w' => e = .returned (.bool true) ∧ Below W.heap.size W w' := by
  obtain ⟨ads, h1, h2, h3⟩ := errs_sents hL
  exact law_case_x fit h1 h2 h3 errs_all errs_lt (by kernel_rfl) hk (FnsOk.cons (hT.ok fit) (q2_ok)) hv ⟨_, Tryz.func3, rfl⟩ run1
noncomputable def p8 : Pur := ([.agg [I 2, I 0, I 0, I 0, U 0]], .inil, 1048576)
theorem p8_run : ranPure (evCall (cxX Tryz.prog bad [] [] [(117, isFn 272)]) 1000 60 54 p8.1 ⟨.lf, p8.2.2⟩) p8.2.1 = true := by kernel_rfl
theorem p8_ok {σ : Nat → Int} {W0 : World} : PureOk Tryz.prog 511 σ W0 54 p8 := pure_ok fit (Known2.nil σ) (FnsOk.cons (ext_is) (FnsOk.nil)) p8_run
theorem run2 : isTrue (evCall (cxX Tryz.prog bad [((-9223372036854775808), 9223372036854775807), (0, 4294967295), (0, 4294967295)] [] ((9, numExtE [(0, 15, .lit 2)]) :: (54, pureFn [p8, p0, p7]) :: q2)) 1000 60 3 [.int .i64 (.var 0), .int .u32 (.var 1), .int .u32 (.var 2)] (sentH 272 9 errTab)) = true := by kernel_rfl
theorem case2 {σ : Nat → Int} {W : World} (hL : laidMetH Tryz.prog laidErrs W) (hk : Known2 σ [((-9223372036854775808), 9223372036854775807), (0, 4294967295), (0, 4294967295)] []) (hT : TabOk Tryz.prog bad 9 σ [(0, 15, .lit 2)]) {xs : Array Value} (hv : ∀ ρ, VRs σ ρ [.int .i64 (.var 0), .int .u32 (.var 1), .int .u32 (.var 2)] xs.toList) : Calls Tryz.prog 3 xs W fun e w' => e = .returned (.bool true) ∧ Below W.heap.size W w' := by
  obtain ⟨ads, h1, h2, h3⟩ := errs_sents hL
  exact law_case_x fit h1 h2 h3 errs_all errs_lt (by kernel_rfl) hk (FnsOk.cons (hT.ok fit) (FnsOk.cons (pure_fn_ok (all_cons (p8_ok) (all_cons (p0_ok) (all_cons (p7_ok) (all_nil))))) (q2_ok))) hv ⟨_, Tryz.func3, rfl⟩ run2
noncomputable def p9 : Pur := ([.agg [I 3, I 0, I 0, I 0, U 0]], .inil, 1048576)
theorem p9_run : ranPure (evCall (cxX Tryz.prog bad [] [] [(117, isFn 272)]) 1000 60 54 p9.1 ⟨.lf, p9.2.2⟩) p9.2.1 = true := by kernel_rfl
theorem p9_ok {σ : Nat → Int} {W0 : World} : PureOk Tryz.prog 511 σ W0 54 p9 := pure_ok fit (Known2.nil σ) (FnsOk.cons (ext_is) (FnsOk.nil)) p9_run
theorem run3 : isTrue (evCall (cxX Tryz.prog bad [((-9223372036854775808), 9223372036854775807), (0, 4294967295), (0, 4294967295)] [] ((9, numExtE [(0, 15, .lit 3)]) :: (54, pureFn [p9, p0, p7]) :: q2)) 1000 60 3 [.int .i64 (.var 0), .int .u32 (.var 1), .int .u32 (.var 2)] (sentH 272 9 errTab)) = true := by kernel_rfl
theorem case3 {σ : Nat → Int} {W : World} (hL : laidMetH Tryz.prog laidErrs W) (hk : Known2 σ [((-9223372036854775808), 9223372036854775807), (0, 4294967295), (0, 4294967295)] []) (hT : TabOk Tryz.prog bad 9 σ [(0, 15, .lit 3)]) {xs : Array Value} (hv : ∀ ρ, VRs σ ρ [.int .i64 (.var 0), .int .u32 (.var 1), .int .u32 (.var 2)] xs.toList) : Calls Tryz.prog 3 xs W fun e w' => e = .returned (.bool true) ∧ Below W.heap.size W w' := by
  obtain ⟨ads, h1, h2, h3⟩ := errs_sents hL
  exact law_case_x fit h1 h2 h3 errs_all errs_lt (by kernel_rfl) hk (FnsOk.cons (hT.ok fit) (FnsOk.cons (pure_fn_ok (all_cons (p9_ok) (all_cons (p0_ok) (all_cons (p7_ok) (all_nil))))) (q2_ok))) hv ⟨_, Tryz.func3, rfl⟩ run3
noncomputable def p10 : Pur := ([.agg [I 4, I 0, I 0, I 0, U 0]], .inil, 1048576)
theorem p10_run : ranPure (evCall (cxX Tryz.prog bad [] [] [(117, isFn 272)]) 1000 60 54 p10.1 ⟨.lf, p10.2.2⟩) p10.2.1 = true := by kernel_rfl
theorem p10_ok {σ : Nat → Int} {W0 : World} : PureOk Tryz.prog 511 σ W0 54 p10 := pure_ok fit (Known2.nil σ) (FnsOk.cons (ext_is) (FnsOk.nil)) p10_run
theorem run4 : isTrue (evCall (cxX Tryz.prog bad [((-9223372036854775808), 9223372036854775807), (0, 4294967295), (0, 4294967295)] [] ((9, numExtE [(0, 15, .lit 4)]) :: (54, pureFn [p10, p0, p7]) :: q2)) 1000 60 3 [.int .i64 (.var 0), .int .u32 (.var 1), .int .u32 (.var 2)] (sentH 272 9 errTab)) = true := by kernel_rfl
theorem case4 {σ : Nat → Int} {W : World} (hL : laidMetH Tryz.prog laidErrs W) (hk : Known2 σ [((-9223372036854775808), 9223372036854775807), (0, 4294967295), (0, 4294967295)] []) (hT : TabOk Tryz.prog bad 9 σ [(0, 15, .lit 4)]) {xs : Array Value} (hv : ∀ ρ, VRs σ ρ [.int .i64 (.var 0), .int .u32 (.var 1), .int .u32 (.var 2)] xs.toList) : Calls Tryz.prog 3 xs W fun e w' => e = .returned (.bool true) ∧ Below W.heap.size W w' := by
  obtain ⟨ads, h1, h2, h3⟩ := errs_sents hL
  exact law_case_x fit h1 h2 h3 errs_all errs_lt (by kernel_rfl) hk (FnsOk.cons (hT.ok fit) (FnsOk.cons (pure_fn_ok (all_cons (p10_ok) (all_cons (p0_ok) (all_cons (p7_ok) (all_nil))))) (q2_ok))) hv ⟨_, Tryz.func3, rfl⟩ run4
theorem run5 : isTrue (evCall (cxX Tryz.prog bad [((-9223372036854775808), 9223372036854775807), (0, 4294967295), (0, 4294967295)] [] ((9, numExtE [(0, 15, .lit 5)]) :: q1)) 1000 60 3 [.int .i64 (.var 0), .int .u32 (.var 1), .int .u32 (.var 2)] (sentH 272 9 errTab)) = true := by kernel_rfl
theorem case5 {σ : Nat → Int} {W : World} (hL : laidMetH Tryz.prog laidErrs W) (hk : Known2 σ [((-9223372036854775808), 9223372036854775807), (0, 4294967295), (0, 4294967295)] []) (hT : TabOk Tryz.prog bad 9 σ [(0, 15, .lit 5)]) {xs : Array Value} (hv : ∀ ρ, VRs σ ρ [.int .i64 (.var 0), .int .u32 (.var 1), .int .u32 (.var 2)] xs.toList) : Calls Tryz.prog 3 xs W fun e w' => e = .returned (.bool true) ∧ Below W.heap.size W w' := by
  obtain ⟨ads, h1, h2, h3⟩ := errs_sents hL
  exact law_case_x fit h1 h2 h3 errs_all errs_lt (by kernel_rfl) hk (FnsOk.cons (hT.ok fit) (q1_ok)) hv ⟨_, Tryz.func3, rfl⟩ run5
theorem run6 : isTrue (evCall (cxX Tryz.prog bad [((-9223372036854775808), 9223372036854775807), (0, 4294967295), (0, 4294967295)] [] ((9, numExtE [(0, 15, .lit 6)]) :: q1)) 1000 60 3 [.int .i64 (.var 0), .int .u32 (.var 1), .int .u32 (.var 2)] (sentH 272 9 errTab)) = true := by kernel_rfl
theorem case6 {σ : Nat → Int} {W : World} (hL : laidMetH Tryz.prog laidErrs W) (hk : Known2 σ [((-9223372036854775808), 9223372036854775807), (0, 4294967295), (0, 4294967295)] []) (hT : TabOk Tryz.prog bad 9 σ [(0, 15, .lit 6)]) {xs : Array Value} (hv : ∀ ρ, VRs σ ρ [.int .i64 (.var 0), .int .u32 (.var 1), .int .u32 (.var 2)] xs.toList) : Calls Tryz.prog 3 xs W fun e w' => e = .returned (.bool true) ∧ Below W.heap.size W w' := by
  obtain ⟨ads, h1, h2, h3⟩ := errs_sents hL
  exact law_case_x fit h1 h2 h3 errs_all errs_lt (by kernel_rfl) hk (FnsOk.cons (hT.ok fit) (q1_ok)) hv ⟨_, Tryz.func3, rfl⟩ run6
noncomputable def p11 : Pur := ([.agg [I 7, I 0, I 0, I 0, U 0]], .inil, 1048576)
theorem p11_run : ranPure (evCall (cxX Tryz.prog bad [] [] [(117, isFn 272)]) 1000 60 54 p11.1 ⟨.lf, p11.2.2⟩) p11.2.1 = true := by kernel_rfl
theorem p11_ok {σ : Nat → Int} {W0 : World} : PureOk Tryz.prog 511 σ W0 54 p11 := pure_ok fit (Known2.nil σ) (FnsOk.cons (ext_is) (FnsOk.nil)) p11_run
theorem run7 : isTrue (evCall (cxX Tryz.prog bad [((-9223372036854775808), 9223372036854775807), (0, 4294967295), (0, 4294967295)] [] ((9, numExtE [(0, 15, .lit 7)]) :: (54, pureFn [p11, p0, p7]) :: q2)) 1000 60 3 [.int .i64 (.var 0), .int .u32 (.var 1), .int .u32 (.var 2)] (sentH 272 9 errTab)) = true := by kernel_rfl
theorem case7 {σ : Nat → Int} {W : World} (hL : laidMetH Tryz.prog laidErrs W) (hk : Known2 σ [((-9223372036854775808), 9223372036854775807), (0, 4294967295), (0, 4294967295)] []) (hT : TabOk Tryz.prog bad 9 σ [(0, 15, .lit 7)]) {xs : Array Value} (hv : ∀ ρ, VRs σ ρ [.int .i64 (.var 0), .int .u32 (.var 1), .int .u32 (.var 2)] xs.toList) : Calls Tryz.prog 3 xs W fun e w' => e = .returned (.bool true) ∧ Below W.heap.size W w' := by
  obtain ⟨ads, h1, h2, h3⟩ := errs_sents hL
  exact law_case_x fit h1 h2 h3 errs_all errs_lt (by kernel_rfl) hk (FnsOk.cons (hT.ok fit) (FnsOk.cons (pure_fn_ok (all_cons (p11_ok) (all_cons (p0_ok) (all_cons (p7_ok) (all_nil))))) (q2_ok))) hv ⟨_, Tryz.func3, rfl⟩ run7
noncomputable def p12 : Pur := ([.agg [I 8, I 0, I 0, I 0, U 0]], .inil, 1048576)
theorem p12_run : ranPure (evCall (cxX Tryz.prog bad [] [] [(117, isFn 272)]) 1000 60 54 p12.1 ⟨.lf, p12.2.2⟩) p12.2.1 = true := by kernel_rfl
theorem p12_ok {σ : Nat → Int} {W0 : World} : PureOk Tryz.prog 511 σ W0 54 p12 := pure_ok fit (Known2.nil σ) (FnsOk.cons (ext_is) (FnsOk.nil)) p12_run
theorem run8 : isTrue (evCall (cxX Tryz.prog bad [((-9223372036854775808), 9223372036854775807), (0, 4294967295), (0, 4294967295)] [] ((9, numExtE [(0, 15, .lit 8)]) :: (54, pureFn [p12, p0, p7]) :: q2)) 1000 60 3 [.int .i64 (.var 0), .int .u32 (.var 1), .int .u32 (.var 2)] (sentH 272 9 errTab)) = true := by kernel_rfl
theorem case8 {σ : Nat → Int} {W : World} (hL : laidMetH Tryz.prog laidErrs W) (hk : Known2 σ [((-9223372036854775808), 9223372036854775807), (0, 4294967295), (0, 4294967295)] []) (hT : TabOk Tryz.prog bad 9 σ [(0, 15, .lit 8)]) {xs : Array Value} (hv : ∀ ρ, VRs σ ρ [.int .i64 (.var 0), .int .u32 (.var 1), .int .u32 (.var 2)] xs.toList) : Calls Tryz.prog 3 xs W fun e w' => e = .returned (.bool true) ∧ Below W.heap.size W w' := by
  obtain ⟨ads, h1, h2, h3⟩ := errs_sents hL
  exact law_case_x fit h1 h2 h3 errs_all errs_lt (by kernel_rfl) hk (FnsOk.cons (hT.ok fit) (FnsOk.cons (pure_fn_ok (all_cons (p12_ok) (all_cons (p0_ok) (all_cons (p7_ok) (all_nil))))) (q2_ok))) hv ⟨_, Tryz.func3, rfl⟩ run8
noncomputable def p13 : Pur := ([.agg [I 9, I 0, I 0, I 0, U 0]], .inil, 1048576)
theorem p13_run : ranPure (evCall (cxX Tryz.prog bad [] [] [(117, isFn 272)]) 1000 60 54 p13.1 ⟨.lf, p13.2.2⟩) p13.2.1 = true := by kernel_rfl
theorem p13_ok {σ : Nat → Int} {W0 : World} : PureOk Tryz.prog 511 σ W0 54 p13 := pure_ok fit (Known2.nil σ) (FnsOk.cons (ext_is) (FnsOk.nil)) p13_run
theorem run9 : isTrue (evCall (cxX Tryz.prog bad [((-9223372036854775808), 9223372036854775807), (0, 4294967295), (0, 4294967295)] [] ((9, numExtE [(0, 15, .lit 9)]) :: (54, pureFn [p13, p0, p7]) :: q2)) 1000 60 3 [.int .i64 (.var 0), .int .u32 (.var 1), .int .u32 (.var 2)] (sentH 272 9 errTab)) = true := by kernel_rfl
theorem case9 {σ : Nat → Int} {W : World} (hL : laidMetH Tryz.prog laidErrs W) (hk : Known2 σ [((-9223372036854775808), 9223372036854775807), (0, 4294967295), (0, 4294967295)] []) (hT : TabOk Tryz.prog bad 9 σ [(0, 15, .lit 9)]) {xs : Array Value} (hv : ∀ ρ, VRs σ ρ [.int .i64 (.var 0), .int .u32 (.var 1), .int .u32 (.var 2)] xs.toList) : Calls Tryz.prog 3 xs W fun e w' => e = .returned (.bool true) ∧ Below W.heap.size W w' := by
  obtain ⟨ads, h1, h2, h3⟩ := errs_sents hL
  exact law_case_x fit h1 h2 h3 errs_all errs_lt (by kernel_rfl) hk (FnsOk.cons (hT.ok fit) (FnsOk.cons (pure_fn_ok (all_cons (p13_ok) (all_cons (p0_ok) (all_cons (p7_ok) (all_nil))))) (q2_ok))) hv ⟨_, Tryz.func3, rfl⟩ run9
noncomputable def p14 : Pur := ([.agg [I 10, I 0, I 0, I 0, U 0]], .inil, 1048576)
theorem p14_run : ranPure (evCall (cxX Tryz.prog bad [] [] [(117, isFn 272)]) 1000 60 54 p14.1 ⟨.lf, p14.2.2⟩) p14.2.1 = true := by kernel_rfl
theorem p14_ok {σ : Nat → Int} {W0 : World} : PureOk Tryz.prog 511 σ W0 54 p14 := pure_ok fit (Known2.nil σ) (FnsOk.cons (ext_is) (FnsOk.nil)) p14_run
theorem run10 : isTrue (evCall (cxX Tryz.prog bad [((-9223372036854775808), 9223372036854775807), (0, 4294967295), (0, 4294967295)] [] ((9, numExtE [(0, 15, .lit 10)]) :: (54, pureFn [p14, p0, p7]) :: q2)) 1000 60 3 [.int .i64 (.var 0), .int .u32 (.var 1), .int .u32 (.var 2)] (sentH 272 9 errTab)) = true := by kernel_rfl
theorem case10 {σ : Nat → Int} {W : World} (hL : laidMetH Tryz.prog laidErrs W) (hk : Known2 σ [((-9223372036854775808), 9223372036854775807), (0, 4294967295), (0, 4294967295)] []) (hT : TabOk Tryz.prog bad 9 σ [(0, 15, .lit 10)]) {xs : Array Value} (hv : ∀ ρ, VRs σ ρ [.int .i64 (.var 0), .int .u32 (.var 1), .int .u32 (.var 2)] xs.toList) : Calls Tryz.prog 3 xs W fun e w' => e = .returned (.bool true) ∧ Below W.heap.size W w' := by
  obtain ⟨ads, h1, h2, h3⟩ := errs_sents hL
  exact law_case_x fit h1 h2 h3 errs_all errs_lt (by kernel_rfl) hk (FnsOk.cons (hT.ok fit) (FnsOk.cons (pure_fn_ok (all_cons (p14_ok) (all_cons (p0_ok) (all_cons (p7_ok) (all_nil))))) (q2_ok))) hv ⟨_, Tryz.func3, rfl⟩ run10
noncomputable def p15 : Pur := ([.agg [I 11, I 0, I 0, I 0, U 0]], .inil, 1048576)
theorem p15_run : ranPure (evCall (cxX Tryz.prog bad [] [] [(117, isFn 272)]) 1000 60 54 p15.1 ⟨.lf, p15.2.2⟩) p15.2.1 = true := by kernel_rfl
theorem p15_ok {σ : Nat → Int} {W0 : World} : PureOk Tryz.prog 511 σ W0 54 p15 := pure_ok fit (Known2.nil σ) (FnsOk.cons (ext_is) (FnsOk.nil)) p15_run
theorem run11 : isTrue (evCall (cxX Tryz.prog bad [((-9223372036854775808), 9223372036854775807), (0, 4294967295), (0, 4294967295)] [] ((9, numExtE [(0, 15, .lit 11)]) :: (54, pureFn [p15, p0, p7]) :: q2)) 1000 60 3 [.int .i64 (.var 0), .int .u32 (.var 1), .int .u32 (.var 2)] (sentH 272 9 errTab)) = true := by kernel_rfl
theorem case11 {σ : Nat → Int} {W : World} (hL : laidMetH Tryz.prog laidErrs W) (hk : Known2 σ [((-9223372036854775808), 9223372036854775807), (0, 4294967295), (0, 4294967295)] []) (hT : TabOk Tryz.prog bad 9 σ [(0, 15, .lit 11)]) {xs : Array Value} (hv : ∀ ρ, VRs σ ρ [.int .i64 (.var 0), .int .u32 (.var 1), .int .u32 (.var 2)] xs.toList) : Calls Tryz.prog 3 xs W fun e w' => e = .returned (.bool true) ∧ Below W.heap.size W w' := by
  obtain ⟨ads, h1, h2, h3⟩ := errs_sents hL
  exact law_case_x fit h1 h2 h3 errs_all errs_lt (by kernel_rfl) hk (FnsOk.cons (hT.ok fit) (FnsOk.cons (pure_fn_ok (all_cons (p15_ok) (all_cons (p0_ok) (all_cons (p7_ok) (all_nil))))) (q2_ok))) hv ⟨_, Tryz.func3, rfl⟩ run11
noncomputable def p16 : Pur := ([.agg [I 12, I 0, I 0, I 0, U 0]], .inil, 1048576)
theorem p16_run : ranPure (evCall (cxX Tryz.prog bad [] [] [(117, isFn 272)]) 1000 60 54 p16.1 ⟨.lf, p16.2.2⟩) p16.2.1 = true := by kernel_rfl
theorem p16_ok {σ : Nat → Int} {W0 : World} : PureOk Tryz.prog 511 σ W0 54 p16 := pure_ok fit (Known2.nil σ) (FnsOk.cons (ext_is) (FnsOk.nil)) p16_run
theorem run12 : isTrue (evCall (cxX Tryz.prog bad [((-9223372036854775808), 9223372036854775807), (0, 4294967295), (0, 4294967295)] [] ((9, numExtE [(0, 15, .lit 12)]) :: (54, pureFn [p16, p0, p7]) :: q2)) 1000 60 3 [.int .i64 (.var 0), .int .u32 (.var 1), .int .u32 (.var 2)] (sentH 272 9 errTab)) = true := by kernel_rfl
theorem case12 {σ : Nat → Int} {W : World} (hL : laidMetH Tryz.prog laidErrs W) (hk : Known2 σ [((-9223372036854775808), 9223372036854775807), (0, 4294967295), (0, 4294967295)] []) (hT : TabOk Tryz.prog bad 9 σ [(0, 15, .lit 12)]) {xs : Array Value} (hv : ∀ ρ, VRs σ ρ [.int .i64 (.var 0), .int .u32 (.var 1), .int .u32 (.var 2)] xs.toList) : Calls Tryz.prog 3 xs W fun e w' => e = .returned (.bool true) ∧ Below W.heap.size W w' := by
  obtain ⟨ads, h1, h2, h3⟩ := errs_sents hL
  exact law_case_x fit h1 h2 h3 errs_all errs_lt (by kernel_rfl) hk (FnsOk.cons (hT.ok fit) (FnsOk.cons (pure_fn_ok (all_cons (p16_ok) (all_cons (p0_ok) (all_cons (p7_ok) (all_nil))))) (q2_ok))) hv ⟨_, Tryz.func3, rfl⟩ run12
noncomputable def p17 : Pur := ([.agg [I 13, I 0, I 0, I 0, U 0]], .inil, 1048576)
theorem p17_run : ranPure (evCall (cxX Tryz.prog bad [] [] [(117, isFn 272)]) 1000 60 54 p17.1 ⟨.lf, p17.2.2⟩) p17.2.1 = true := by kernel_rfl
theorem p17_ok {σ : Nat → Int} {W0 : World} : PureOk Tryz.prog 511 σ W0 54 p17 := pure_ok fit (Known2.nil σ) (FnsOk.cons (ext_is) (FnsOk.nil)) p17_run
theorem run13 : isTrue (evCall (cxX Tryz.prog bad [((-9223372036854775808), 9223372036854775807), (0, 4294967295), (0, 4294967295)] [] ((9, numExtE [(0, 15, .lit 13)]) :: (54, pureFn [p17, p0, p7]) :: q2)) 1000 60 3 [.int .i64 (.var 0), .int .u32 (.var 1), .int .u32 (.var 2)] (sentH 272 9 errTab)) = true := by kernel_rfl
theorem case13 {σ : Nat → Int} {W : World} (hL : laidMetH Tryz.prog laidErrs W) (hk : Known2 σ [((-9223372036854775808), 9223372036854775807), (0, 4294967295), (0, 4294967295)] []) (hT : TabOk Tryz.prog bad 9 σ [(0, 15, .lit 13)]) {xs : Array Value} (hv : ∀ ρ, VRs σ ρ [.int .i64 (.var 0), .int .u32 (.var 1), .int .u32 (.var 2)] xs.toList) : Calls Tryz.prog 3 xs W fun e w' => e = .returned (.bool true) ∧ Below W.heap.size W w' := by
  obtain ⟨ads, h1, h2, h3⟩ := errs_sents hL
  exact law_case_x fit h1 h2 h3 errs_all errs_lt (by kernel_rfl) hk (FnsOk.cons (hT.ok fit) (FnsOk.cons (pure_fn_ok (all_cons (p17_ok) (all_cons (p0_ok) (all_cons (p7_ok) (all_nil))))) (q2_ok))) hv ⟨_, Tryz.func3, rfl⟩ run13
noncomputable def p18 : Pur := ([.agg [I 14, I 0, I 0, I 0, U 0]], .inil, 1048576)
theorem p18_run : ranPure (evCall (cxX Tryz.prog bad [] [] [(117, isFn 272)]) 1000 60 54 p18.1 ⟨.lf, p18.2.2⟩) p18.2.1 = true := by kernel_rfl
theorem p18_ok {σ : Nat → Int} {W0 : World} : PureOk Tryz.prog 511 σ W0 54 p18 := pure_ok fit (Known2.nil σ) (FnsOk.cons (ext_is) (FnsOk.nil)) p18_run
theorem run14 : isTrue (evCall (cxX Tryz.prog bad [((-9223372036854775808), 9223372036854775807), (0, 4294967295), (0, 4294967295)] [] ((9, numExtE [(0, 15, .lit 14)]) :: (54, pureFn [p18, p0, p7]) :: q2)) 1000 60 3 [.int .i64 (.var 0), .int .u32 (.var 1), .int .u32 (.var 2)] (sentH 272 9 errTab)) = true := by kernel_rfl
theorem case14 {σ : Nat → Int} {W : World} (hL : laidMetH Tryz.prog laidErrs W) (hk : Known2 σ [((-9223372036854775808), 9223372036854775807), (0, 4294967295), (0, 4294967295)] []) (hT : TabOk Tryz.prog bad 9 σ [(0, 15, .lit 14)]) {xs : Array Value} (hv : ∀ ρ, VRs σ ρ [.int .i64 (.var 0), .int .u32 (.var 1), .int .u32 (.var 2)] xs.toList) : Calls Tryz.prog 3 xs W fun e w' => e = .returned (.bool true) ∧ Below W.heap.size W w' := by
  obtain ⟨ads, h1, h2, h3⟩ := errs_sents hL
  exact law_case_x fit h1 h2 h3 errs_all errs_lt (by kernel_rfl) hk (FnsOk.cons (hT.ok fit) (FnsOk.cons (pure_fn_ok (all_cons (p18_ok) (all_cons (p0_ok) (all_cons (p7_ok) (all_nil))))) (q2_ok))) hv ⟨_, Tryz.func3, rfl⟩ run14
end Go.Proofs.YtalmhgaomgkdbaaGreatDoor.objectKinds
