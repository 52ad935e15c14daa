/- gateStalls: calls that are run once, and the runs of the cases (part 0). -/
import Derived.Test.YtalmhgaomgkdbabGreatDoorEvGtF
set_option linter.unusedVariables false
set_option maxRecDepth 10000000
namespace Go.Proofs.YtalmhgaomgkdbabGreatDoor.gateStalls
open Tk
open Go.RowKit
noncomputable def h0 : H := sentH 320 12 errTab
noncomputable def p0 : Pur := ([.agg [I 0, I 0, I 0, I 0, U 0]], .inil, 1048576)
theorem p0_run : ranPure (evCall (cxX Tryz.prog bad [] [] [(166, isFn 320)]) 1000 60 67 p0.1 ⟨.lf, p0.2.2⟩) p0.2.1 = true := by kernel_rfl
theorem p0_ok {σ : Nat → Int} {W0 : World} : PureOk Tryz.prog 511 σ W0 67 p0 := pure_ok fit (Known2.nil σ) (FnsOk.cons (ext_is) (FnsOk.nil)) p0_run
noncomputable def p1 : Pur := ([.agg [I 1, I 0, I 0, I 0, U 8]], .inil, 1048576)
theorem p1_run : ranPure (evCall (cxX Tryz.prog bad [] [] [(166, isFn 320)]) 1000 60 67 p1.1 ⟨.lf, p1.2.2⟩) p1.2.1 = true := by kernel_rfl
theorem p1_ok {σ : Nat → Int} {W0 : World} : PureOk Tryz.prog 511 σ W0 67 p1 := pure_ok fit (Known2.nil σ) (FnsOk.cons (ext_is) (FnsOk.nil)) p1_run
noncomputable def p2 : Pur := ([], bT, 262144)
theorem p2_run : ranPure (evCall (cxX Tryz.prog bad [] [] [(67, pureFn [p0, p1]), (166, isFn 320)]) 1000 60 26 p2.1 ⟨.lf, p2.2.2⟩) p2.2.1 = true := by kernel_rfl
theorem p2_ok {σ : Nat → Int} {W0 : World} : PureOk Tryz.prog 511 σ W0 26 p2 := pure_ok fit (Known2.nil σ) (FnsOk.cons (pure_fn_ok (all_cons (p0_ok) (all_cons (p1_ok) (all_nil)))) (FnsOk.cons (ext_is) (FnsOk.nil))) p2_run
noncomputable def h1 : H := hUpd h0 368 [] [(62, .map [(.agg [I 4, I 0], .agg [I 0, I 0], 0), (.agg [I 4, I 1], .agg [I 0, I 0], 1), (.agg [I 4, I 2], .agg [I 0, I 0], 2), (.agg [I 4, I 3], .agg [I 0, I 0], 3)] 4),
  (46, .cells 1 ([[.snil]]) false),
  (30, .cells 2 ([[.ptr 25 0, .ptr 29 0]]) false),
  (54, .cells 1 ([[.ptr 37 0], [.ptr 40 0], [.ptr 43 0], [.ptr 46 0], [.ptr 49 0], [.ptr 52 0]]) false),
  (22, .cells 3 (rp 12 ([bF, I 0, bF]) ([])) false),
  (58, .cells 2 ([[.ptr 56 0, .slice 57 0 8 8 2 true]]) false),
  (26, .cells 3 (rp 12 ([bF, I 0, bF]) ([])) false),
  (66, .cells 31 (rp 4 ((bF) :: rp 4 (I 0) ((U 0) :: rp 4 (I 0) ((U 0) :: rp 4 (I 0) ((U 0) :: rp 4 (I 0) ((U 0) :: rp 4 (I 0) ((U 0) :: rp 4 (I 0) ([U 0]))))))) ([])) false),
  (34, .cells 1 ([[.slice 33 0 6 6 3 true]]) false),
  (60, .cells 1 ([[.slice 59 0 6 6 3 true]]) false),
  (28, .cells 32 (rp 12 (rp 32 (U 0) ([])) ([])) false),
  (52, .cells 1 ([[.snil]]) false),
  (68, .cells 1 ([[.snil]]) false),
  (36, .cells 3 ([[.ptr 34 0, .slice 35 0 6 6 107 true, .slice 54 0 6 6 1 false]]) false),
  (56, .cells 1 ([[.slice 55 0 8 8 3 true]]) false),
  (40, .cells 1 ([[.snil]]) false),
  (24, .cells 80 (rp 12 (rp 4 (I 0) ((U 0) :: rp 4 (I 0) ((U 0) :: rp 4 (I 0) ((U 0) :: rp 4 (I 0) ((U 0) :: rp 4 (I 0) ((U 0) :: rp 4 (I 0) ((U 0) :: rp 4 (I 0) ((U 0) :: rp 4 (I 0) ((U 0) :: rp 4 (I 0) ((U 0) :: rp 4 (I 0) ((U 0) :: rp 4 (I 0) ((U 0) :: rp 4 (I 0) ((U 0) :: rp 4 (I 0) ((U 0) :: rp 4 (I 0) ((U 0) :: rp 4 (I 0) ((U 0) :: rp 4 (I 0) ([U 0]))))))))))))))))) ([])) false),
  (64, .cells 3 (rp 4 ([bF, I 0, bF]) ([])) false),
  (32, .cells 3 ([[.ptr 30 0, I 16, .ptr 31 0]]) false),
  (61, .cells 3 ([IZ (-1), I 30, I 4] :: rp 5 ([I 0, I 0, I 0]) ([])) false),
  (29, .cells 2 ([[.ptr 27 0, .slice 28 0 12 12 32 true]]) false),
  (69, .cells 9 ([[.ptr 32 0, .ptr 36 0, .ptr 58 0, .ptr 63 0, .ptr 67 0, .ptr 68 0, .snil, .snil, I 0]]) false),
  (37, .cells 1 ([[.snil]]) false),
  (57, .cells 2 (rp 8 ([I 0, I 0]) ([])) false),
  (25, .cells 2 ([[.ptr 23 0, .slice 24 0 12 12 80 true]]) false),
  (49, .cells 1 ([[.snil]]) false),
  (65, .cells 1 ([[.slice 64 0 4 4 3 true]]) false),
  (33, .cells 3 (rp 4 ([bT, I 0, bF]) ([[bF, I 0, bF], [bF, I 0, bF]])) false),
  (59, .cells 3 ([bT, I 0, bF] :: rp 5 ([bF, I 0, bF]) ([])) false),
  (43, .cells 1 ([[.snil]]) false),
  (27, .cells 1 ([[.slice 26 0 12 12 3 true]]) false),
  (67, .cells 2 ([[.ptr 65 0, .slice 66 0 4 4 31 true]]) false),
  (35, .cells 107 ([rp 9 (U 0) ((I 3) :: rp 5 (I 0) ((U 0) :: rp 4 (I 0) ((U 0) :: rp 4 (I 0) ((U 0) :: rp 4 (I 0) ((U 0) :: rp 4 (I 0) ((U 0) :: rp 4 (I 0) ((U 0) :: rp 4 (I 0) ((U 0) :: rp 4 (I 0) ((U 0) :: rp 4 (I 0) ((U 0) :: rp 4 (I 0) ((U 0) :: rp 4 (I 0) ((U 0) :: rp 4 (I 0) ((U 0) :: rp 4 (I 0) ((U 0) :: rp 4 (I 0) ((U 0) :: rp 4 (I 0) ((U 0) :: rp 4 (I 0) ((U 0) :: rp 4 (I 0) ((U 0) :: rp 4 (I 0) ((U 0) :: rp 4 (I 0) ([U 0, I 0])))))))))))))))))))), rp 9 (U 0) ((I 1) :: rp 5 (I 0) ((U 0) :: rp 4 (I 0) ((U 0) :: rp 4 (I 0) ((U 0) :: rp 4 (I 0) ((U 0) :: rp 4 (I 0) ((U 0) :: rp 4 (I 0) ((U 0) :: rp 4 (I 0) ((U 0) :: rp 4 (I 0) ((U 0) :: rp 4 (I 0) ((U 0) :: rp 4 (I 0) ((U 0) :: rp 4 (I 0) ((U 0) :: rp 4 (I 0) ((U 0) :: rp 4 (I 0) ((U 0) :: rp 4 (I 0) ((U 0) :: rp 4 (I 0) ((U 0) :: rp 4 (I 0) ((U 0) :: rp 4 (I 0) ((U 0) :: rp 4 (I 0) ((U 0) :: rp 4 (I 0) ([U 0, I 0])))))))))))))))))))), rp 9 (U 0) ((I 1) :: rp 5 (I 0) ((U 0) :: rp 4 (I 0) ((U 0) :: rp 4 (I 0) ((U 0) :: rp 4 (I 0) ((U 0) :: rp 4 (I 0) ((U 0) :: rp 4 (I 0) ((U 0) :: rp 4 (I 0) ((U 0) :: rp 4 (I 0) ((U 0) :: rp 4 (I 0) ((U 0) :: rp 4 (I 0) ((U 0) :: rp 4 (I 0) ((U 0) :: rp 4 (I 0) ((U 0) :: rp 4 (I 0) ((U 0) :: rp 4 (I 0) ((U 0) :: rp 4 (I 0) ((U 0) :: rp 4 (I 0) ((U 0) :: rp 4 (I 0) ((U 0) :: rp 4 (I 0) ((U 0) :: rp 4 (I 0) ([U 0, I 0])))))))))))))))))))), rp 9 (U 0) ((I 1) :: rp 5 (I 0) ((U 0) :: rp 4 (I 0) ((U 0) :: rp 4 (I 0) ((U 0) :: rp 4 (I 0) ((U 0) :: rp 4 (I 0) ((U 0) :: rp 4 (I 0) ((U 0) :: rp 4 (I 0) ((U 0) :: rp 4 (I 0) ((U 0) :: rp 4 (I 0) ((U 0) :: rp 4 (I 0) ((U 0) :: rp 4 (I 0) ((U 0) :: rp 4 (I 0) ((U 0) :: rp 4 (I 0) ((U 0) :: rp 4 (I 0) ((U 0) :: rp 4 (I 0) ((U 0) :: rp 4 (I 0) ((U 0) :: rp 4 (I 0) ((U 0) :: rp 4 (I 0) ((U 0) :: rp 4 (I 0) ([U 0, I 0])))))))))))))))))))), rp 9 (U 0) (rp 6 (I 0) ((U 0) :: rp 4 (I 0) ((U 0) :: rp 4 (I 0) ((U 0) :: rp 4 (I 0) ((U 0) :: rp 4 (I 0) ((U 0) :: rp 4 (I 0) ((U 0) :: rp 4 (I 0) ((U 0) :: rp 4 (I 0) ((U 0) :: rp 4 (I 0) ((U 0) :: rp 4 (I 0) ((U 0) :: rp 4 (I 0) ((U 0) :: rp 4 (I 0) ((U 0) :: rp 4 (I 0) ((U 0) :: rp 4 (I 0) ((U 0) :: rp 4 (I 0) ((U 0) :: rp 4 (I 0) ((U 0) :: rp 4 (I 0) ((U 0) :: rp 4 (I 0) ((U 0) :: rp 4 (I 0) ([U 0, I 0])))))))))))))))))))), rp 9 (U 0) (rp 6 (I 0) ((U 0) :: rp 4 (I 0) ((U 0) :: rp 4 (I 0) ((U 0) :: rp 4 (I 0) ((U 0) :: rp 4 (I 0) ((U 0) :: rp 4 (I 0) ((U 0) :: rp 4 (I 0) ((U 0) :: rp 4 (I 0) ((U 0) :: rp 4 (I 0) ((U 0) :: rp 4 (I 0) ((U 0) :: rp 4 (I 0) ((U 0) :: rp 4 (I 0) ((U 0) :: rp 4 (I 0) ((U 0) :: rp 4 (I 0) ((U 0) :: rp 4 (I 0) ((U 0) :: rp 4 (I 0) ((U 0) :: rp 4 (I 0) ((U 0) :: rp 4 (I 0) ((U 0) :: rp 4 (I 0) ([U 0, I 0]))))))))))))))))))))]) false),
  (55, .cells 3 (rp 8 ([bF, I 0, bF]) ([])) false),
  (23, .cells 1 ([[.slice 22 0 12 12 3 true]]) false),
  (63, .cells 5 ([[.ptr 60 0, .slice 61 0 6 6 3 true, .map 62, .ptr 32 0, .ptr 36 0]]) false),
  (31, .cells 3 ([[I 16, .snil, I 0]]) false)] []
noncomputable def m3 : Memo := ⟨[], h0, .ptr 69 0, h1⟩
noncomputable def q0 : Fns := [(67, pureFn [p0]), (166, isFn 320)]
theorem q0_ok {σ : Nat → Int} {W0 : World} : FnsOk Tryz.prog 511 σ W0 q0 := FnsOk.cons (pure_fn_ok (all_cons (p0_ok) (all_nil))) (FnsOk.cons (ext_is) (FnsOk.nil))
theorem m3_run : ranTo (evCall (cxX Tryz.prog bad [] [] q0) 1000 60 28 m3.args m3.h) m3.v m3.h' = true := by kernel_rfl
theorem m3_ok {σ : Nat → Int} {W0 : World} : MemoOk Tryz.prog 511 σ W0 28 m3 := memo_ok fit (Known2.nil σ) (q0_ok) m3_run
noncomputable def p4 : Pur := ([.agg [I 5, I 0, I 0, I 0, U 4]], .inil, 1048576)
theorem p4_run : ranPure (evCall (cxX Tryz.prog bad [] [] [(166, isFn 320)]) 1000 60 67 p4.1 ⟨.lf, p4.2.2⟩) p4.2.1 = true := by kernel_rfl
theorem p4_ok {σ : Nat → Int} {W0 : World} : PureOk Tryz.prog 511 σ W0 67 p4 := pure_ok fit (Known2.nil σ) (FnsOk.cons (ext_is) (FnsOk.nil)) p4_run
noncomputable def h2 : H := hUpc h1 421 [] [] [] [(35, 1, 8, U 9), (35, 1, 9, I 3)]
noncomputable def h3 : H := hUpc h2 574 [] [(512, .cells 1 ([[I 1]]) false)] [(37, 0, [.slice 512 0 1 1 1 false])] [(35, 1, 8, U 8)]
noncomputable def m5 : Memo := ⟨[.ptr 69 0, I 1, I 0, .agg [I 5, I 0, I 0, I 0, U 4], .agg [U 0, U 0, U 0, U 0, I 0, I 0, I 0, I 0, U 0, I 0, I 0, I 0, I 0, U 0, I 0, I 0, I 0, I 0, U 0]], h2, .tuple [.agg [I 2, I 0, U 0, U 0, U 0, U 0, I 0, I 0, I 0, I 0, U 0, I 0, I 0, I 0, I 0, U 0, I 0, I 0, I 0, I 0, U 0], .inil], h3⟩
theorem m5_run : ranTo (evCall (cxX Tryz.prog bad [] [] [(67, pureFn [p0, p4]), (166, isFn 320)]) 1000 60 31 m5.args m5.h) m5.v m5.h' = true := by kernel_rfl
theorem m5_ok {σ : Nat → Int} {W0 : World} : MemoOk Tryz.prog 511 σ W0 31 m5 := memo_ok fit (Known2.nil σ) (FnsOk.cons (pure_fn_ok (all_cons (p0_ok) (all_cons (p4_ok) (all_nil)))) (FnsOk.cons (ext_is) (FnsOk.nil))) m5_run
noncomputable def h4 : H := hUpd h3 590 [] [] []
noncomputable def h5 : H := hUpc h3 799 [] [(798, .cells 1 ([[I 1]]) false)] [(68, 0, [.slice 798 0 1 1 1 false]),
  (512, 0, [I 0]),
  (37, 0, [.slice 512 0 0 1 1 false])] [(35, 0, 9, I 1)]
noncomputable def m6 : Memo := ⟨[.ptr 69 0, I 0, I 1, .agg [I 0, I 0, I 0, I 0, U 0], .agg [U 0, U 0, U 0, U 0, I 0, I 0, I 0, I 0, U 0, I 0, I 0, I 0, I 0, U 0, I 0, I 0, I 0, I 0, U 0]], h4, .tuple [.agg [I 0, IZ (-1), U 1, U 0, U 0, U 0, I 0, I 0, I 0, I 0, U 0, I 0, I 0, I 0, I 0, U 0, I 0, I 0, I 0, I 0, U 0], .inil], h5⟩
theorem m6_run : ranTo (evCall (cxX Tryz.prog bad [] [] q0) 1000 60 31 m6.args m6.h) m6.v m6.h' = true := by kernel_rfl
theorem m6_ok {σ : Nat → Int} {W0 : World} : MemoOk Tryz.prog 511 σ W0 31 m6 := memo_ok fit (Known2.nil σ) (q0_ok) m6_run
noncomputable def q1 : Fns := [(26, pureFn [p2]), (28, frameFn [m3]), (67, pureFn [p0]), (166, isFn 320)]
theorem q1_ok {σ : Nat → Int} {W0 : World} : FnsOk Tryz.prog 511 σ W0 q1 := FnsOk.cons (pure_fn_ok (all_cons (p2_ok) (all_nil))) (FnsOk.cons (frame_fn_ok (all_cons (m3_ok) (all_nil))) (FnsOk.cons (pure_fn_ok (all_cons (p0_ok) (all_nil))) (FnsOk.cons (ext_is) (FnsOk.nil))))
theorem run0 : isTrue (evCall (cxX Tryz.prog bad [] [] ((27, numExtE [(0, 3, .lit 0), (1, 3, .lit 0)]) :: (31, frameFn [m5, m6]) :: q1)) 1000 60 5 [.int .i64 (.var 0), .int .i64 (.var 1)] (sentH 320 12 errTab)) = true := by kernel_rfl
theorem case0 {σ : Nat → Int} {W : World} (hL : laidMetH Tryz.prog laidErrs W) (hk : Known2 σ [] []) (hT : TabOk Tryz.prog bad 27 σ [(0, 3, .lit 0), (1, 3, .lit 0)]) {xs : Array Value} (hv : ∀ ρ, VRs σ ρ [.int .i64 (.var 0), .int .i64 (.var 1)] xs.toList) : Calls Tryz.prog 5 xs W fun e w' => e = .returned (.bool true) ∧ Below W.heap.size W w' := by
  obtain ⟨ads, h1, h2, h3⟩ := errs_sents hL
  exact law_case_x fit h1 h2 h3 errs_all errs_lt (by kernel_rfl) hk (FnsOk.cons (hT.ok fit) (FnsOk.cons (frame_fn_ok (all_cons (m5_ok) (all_cons (m6_ok) (all_nil)))) (q1_ok))) hv ⟨_, Tryz.func5, rfl⟩ run0
noncomputable def m7 : Memo := ⟨[.ptr 69 0, I 1, I 1, .agg [I 5, I 0, I 0, I 0, U 4], .agg [U 0, U 0, U 0, U 0, I 0, I 0, I 0, I 0, U 0, I 0, I 0, I 0, I 0, U 0, I 0, I 0, I 0, I 0, U 0]], h2, .tuple [.agg [I 2, I 0, U 0, U 0, U 0, U 0, I 0, I 0, I 0, I 0, U 0, I 0, I 0, I 0, I 0, U 0, I 0, I 0, I 0, I 0, U 0], .inil], h3⟩
theorem m7_run : ranTo (evCall (cxX Tryz.prog bad [] [] [(67, pureFn [p0, p4]), (166, isFn 320)]) 1000 60 31 m7.args m7.h) m7.v m7.h' = true := by kernel_rfl
theorem m7_ok {σ : Nat → Int} {W0 : World} : MemoOk Tryz.prog 511 σ W0 31 m7 := memo_ok fit (Known2.nil σ) (FnsOk.cons (pure_fn_ok (all_cons (p0_ok) (all_cons (p4_ok) (all_nil)))) (FnsOk.cons (ext_is) (FnsOk.nil))) m7_run
theorem run1 : isTrue (evCall (cxX Tryz.prog bad [] [] ((27, numExtE [(0, 3, .lit 0), (1, 3, .lit 1)]) :: (31, frameFn [m7, m6]) :: q1)) 1000 60 5 [.int .i64 (.var 0), .int .i64 (.var 1)] (sentH 320 12 errTab)) = true := by kernel_rfl
theorem case1 {σ : Nat → Int} {W : World} (hL : laidMetH Tryz.prog laidErrs W) (hk : Known2 σ [] []) (hT : TabOk Tryz.prog bad 27 σ [(0, 3, .lit 0), (1, 3, .lit 1)]) {xs : Array Value} (hv : ∀ ρ, VRs σ ρ [.int .i64 (.var 0), .int .i64 (.var 1)] xs.toList) : Calls Tryz.prog 5 xs W fun e w' => e = .returned (.bool true) ∧ Below W.heap.size W w' := by
  obtain ⟨ads, h1, h2, h3⟩ := errs_sents hL
  exact law_case_x fit h1 h2 h3 errs_all errs_lt (by kernel_rfl) hk (FnsOk.cons (hT.ok fit) (FnsOk.cons (frame_fn_ok (all_cons (m7_ok) (all_cons (m6_ok) (all_nil)))) (q1_ok))) hv ⟨_, Tryz.func5, rfl⟩ run1
noncomputable def m8 : Memo := ⟨[.ptr 69 0, I 1, I 2, .agg [I 5, I 0, I 0, I 0, U 4], .agg [U 0, U 0, U 0, U 0, I 0, I 0, I 0, I 0, U 0, I 0, I 0, I 0, I 0, U 0, I 0, I 0, I 0, I 0, U 0]], h2, .tuple [.agg [I 2, I 0, U 0, U 0, U 0, U 0, I 0, I 0, I 0, I 0, U 0, I 0, I 0, I 0, I 0, U 0, I 0, I 0, I 0, I 0, U 0], .inil], h3⟩
theorem m8_run : ranTo (evCall (cxX Tryz.prog bad [] [] [(67, pureFn [p0, p4]), (166, isFn 320)]) 1000 60 31 m8.args m8.h) m8.v m8.h' = true := by kernel_rfl
theorem m8_ok {σ : Nat → Int} {W0 : World} : MemoOk Tryz.prog 511 σ W0 31 m8 := memo_ok fit (Known2.nil σ) (FnsOk.cons (pure_fn_ok (all_cons (p0_ok) (all_cons (p4_ok) (all_nil)))) (FnsOk.cons (ext_is) (FnsOk.nil))) m8_run
theorem run2 : isTrue (evCall (cxX Tryz.prog bad [] [] ((27, numExtE [(0, 3, .lit 0), (1, 3, .lit 2)]) :: (31, frameFn [m8, m6]) :: q1)) 1000 60 5 [.int .i64 (.var 0), .int .i64 (.var 1)] (sentH 320 12 errTab)) = true := by kernel_rfl
theorem case2 {σ : Nat → Int} {W : World} (hL : laidMetH Tryz.prog laidErrs W) (hk : Known2 σ [] []) (hT : TabOk Tryz.prog bad 27 σ [(0, 3, .lit 0), (1, 3, .lit 2)]) {xs : Array Value} (hv : ∀ ρ, VRs σ ρ [.int .i64 (.var 0), .int .i64 (.var 1)] xs.toList) : Calls Tryz.prog 5 xs W fun e w' => e = .returned (.bool true) ∧ Below W.heap.size W w' := by
  obtain ⟨ads, h1, h2, h3⟩ := errs_sents hL
  exact law_case_x fit h1 h2 h3 errs_all errs_lt (by kernel_rfl) hk (FnsOk.cons (hT.ok fit) (FnsOk.cons (frame_fn_ok (all_cons (m8_ok) (all_cons (m6_ok) (all_nil)))) (q1_ok))) hv ⟨_, Tryz.func5, rfl⟩ run2
noncomputable def h6 : H := hUpc h3 629 [] [] [] [(35, 2, 8, U 9), (35, 2, 9, I 3)]
noncomputable def h7 : H := hUpc h6 782 [512] [(720, .cells 1 ([[I 1], [I 2]]) false)] [(37, 0, [.slice 720 0 2 2 1 false])] [(35, 2, 8, U 8)]
noncomputable def m9 : Memo := ⟨[.ptr 69 0, I 2, I 0, .agg [I 5, I 0, I 0, I 0, U 4], .agg [U 0, U 0, U 0, U 0, I 0, I 0, I 0, I 0, U 0, I 0, I 0, I 0, I 0, U 0, I 0, I 0, I 0, I 0, U 0]], h6, .tuple [.agg [I 2, I 0, U 0, U 0, U 0, U 0, I 0, I 0, I 0, I 0, U 0, I 0, I 0, I 0, I 0, U 0, I 0, I 0, I 0, I 0, U 0], .inil], h7⟩
theorem m9_run : ranTo (evCall (cxX Tryz.prog bad [] [] [(67, pureFn [p0, p4]), (166, isFn 320)]) 1000 60 31 m9.args m9.h) m9.v m9.h' = true := by kernel_rfl
theorem m9_ok {σ : Nat → Int} {W0 : World} : MemoOk Tryz.prog 511 σ W0 31 m9 := memo_ok fit (Known2.nil σ) (FnsOk.cons (pure_fn_ok (all_cons (p0_ok) (all_cons (p4_ok) (all_nil)))) (FnsOk.cons (ext_is) (FnsOk.nil))) m9_run
noncomputable def h8 : H := hUpd h7 808 [] [] []
noncomputable def h9 : H := hUpc h7 1030 [] [(1029, .cells 1 ([[I 1], [I 2]]) false)] [(68, 0, [.slice 1029 0 2 2 1 false]),
  (720, 0, [I 0]),
  (720, 1, [I 0]),
  (37, 0, [.slice 720 0 0 2 1 false])] [(35, 0, 9, I 1)]
noncomputable def m10 : Memo := ⟨[.ptr 69 0, I 0, I 1, .agg [I 0, I 0, I 0, I 0, U 0], .agg [U 0, U 0, U 0, U 0, I 0, I 0, I 0, I 0, U 0, I 0, I 0, I 0, I 0, U 0, I 0, I 0, I 0, I 0, U 0]], h8, .tuple [.agg [I 0, IZ (-1), U 1, U 0, U 0, U 0, I 0, I 0, I 0, I 0, U 0, I 0, I 0, I 0, I 0, U 0, I 0, I 0, I 0, I 0, U 0], .inil], h9⟩
theorem m10_run : ranTo (evCall (cxX Tryz.prog bad [] [] q0) 1000 60 31 m10.args m10.h) m10.v m10.h' = true := by kernel_rfl
theorem m10_ok {σ : Nat → Int} {W0 : World} : MemoOk Tryz.prog 511 σ W0 31 m10 := memo_ok fit (Known2.nil σ) (q0_ok) m10_run
theorem run3 : isTrue (evCall (cxX Tryz.prog bad [] [] ((27, numExtE [(0, 3, .lit 1), (1, 3, .lit 0)]) :: (31, frameFn [m5, m9, m10]) :: q1)) 1000 60 5 [.int .i64 (.var 0), .int .i64 (.var 1)] (sentH 320 12 errTab)) = true := by kernel_rfl
theorem case3 {σ : Nat → Int} {W : World} (hL : laidMetH Tryz.prog laidErrs W) (hk : Known2 σ [] []) (hT : TabOk Tryz.prog bad 27 σ [(0, 3, .lit 1), (1, 3, .lit 0)]) {xs : Array Value} (hv : ∀ ρ, VRs σ ρ [.int .i64 (.var 0), .int .i64 (.var 1)] xs.toList) : Calls Tryz.prog 5 xs W fun e w' => e = .returned (.bool true) ∧ Below W.heap.size W w' := by
  obtain ⟨ads, h1, h2, h3⟩ := errs_sents hL
  exact law_case_x fit h1 h2 h3 errs_all errs_lt (by kernel_rfl) hk (FnsOk.cons (hT.ok fit) (FnsOk.cons (frame_fn_ok (all_cons (m5_ok) (all_cons (m9_ok) (all_cons (m10_ok) (all_nil))))) (q1_ok))) hv ⟨_, Tryz.func5, rfl⟩ run3
noncomputable def m11 : Memo := ⟨[.ptr 69 0, I 2, I 1, .agg [I 5, I 0, I 0, I 0, U 4], .agg [U 0, U 0, U 0, U 0, I 0, I 0, I 0, I 0, U 0, I 0, I 0, I 0, I 0, U 0, I 0, I 0, I 0, I 0, U 0]], h6, .tuple [.agg [I 2, I 0, U 0, U 0, U 0, U 0, I 0, I 0, I 0, I 0, U 0, I 0, I 0, I 0, I 0, U 0, I 0, I 0, I 0, I 0, U 0], .inil], h7⟩
theorem m11_run : ranTo (evCall (cxX Tryz.prog bad [] [] [(67, pureFn [p0, p4]), (166, isFn 320)]) 1000 60 31 m11.args m11.h) m11.v m11.h' = true := by kernel_rfl
theorem m11_ok {σ : Nat → Int} {W0 : World} : MemoOk Tryz.prog 511 σ W0 31 m11 := memo_ok fit (Known2.nil σ) (FnsOk.cons (pure_fn_ok (all_cons (p0_ok) (all_cons (p4_ok) (all_nil)))) (FnsOk.cons (ext_is) (FnsOk.nil))) m11_run
theorem run4 : isTrue (evCall (cxX Tryz.prog bad [] [] ((27, numExtE [(0, 3, .lit 1), (1, 3, .lit 1)]) :: (31, frameFn [m7, m11, m10]) :: q1)) 1000 60 5 [.int .i64 (.var 0), .int .i64 (.var 1)] (sentH 320 12 errTab)) = true := by kernel_rfl
theorem case4 {σ : Nat → Int} {W : World} (hL : laidMetH Tryz.prog laidErrs W) (hk : Known2 σ [] []) (hT : TabOk Tryz.prog bad 27 σ [(0, 3, .lit 1), (1, 3, .lit 1)]) {xs : Array Value} (hv : ∀ ρ, VRs σ ρ [.int .i64 (.var 0), .int .i64 (.var 1)] xs.toList) : Calls Tryz.prog 5 xs W fun e w' => e = .returned (.bool true) ∧ Below W.heap.size W w' := by
  obtain ⟨ads, h1, h2, h3⟩ := errs_sents hL
  exact law_case_x fit h1 h2 h3 errs_all errs_lt (by kernel_rfl) hk (FnsOk.cons (hT.ok fit) (FnsOk.cons (frame_fn_ok (all_cons (m7_ok) (all_cons (m11_ok) (all_cons (m10_ok) (all_nil))))) (q1_ok))) hv ⟨_, Tryz.func5, rfl⟩ run4
noncomputable def m12 : Memo := ⟨[.ptr 69 0, I 2, I 2, .agg [I 5, I 0, I 0, I 0, U 4], .agg [U 0, U 0, U 0, U 0, I 0, I 0, I 0, I 0, U 0, I 0, I 0, I 0, I 0, U 0, I 0, I 0, I 0, I 0, U 0]], h6, .tuple [.agg [I 2, I 0, U 0, U 0, U 0, U 0, I 0, I 0, I 0, I 0, U 0, I 0, I 0, I 0, I 0, U 0, I 0, I 0, I 0, I 0, U 0], .inil], h7⟩
theorem m12_run : ranTo (evCall (cxX Tryz.prog bad [] [] [(67, pureFn [p0, p4]), (166, isFn 320)]) 1000 60 31 m12.args m12.h) m12.v m12.h' = true := by kernel_rfl
theorem m12_ok {σ : Nat → Int} {W0 : World} : MemoOk Tryz.prog 511 σ W0 31 m12 := memo_ok fit (Known2.nil σ) (FnsOk.cons (pure_fn_ok (all_cons (p0_ok) (all_cons (p4_ok) (all_nil)))) (FnsOk.cons (ext_is) (FnsOk.nil))) m12_run
theorem run5 : isTrue (evCall (cxX Tryz.prog bad [] [] ((27, numExtE [(0, 3, .lit 1), (1, 3, .lit 2)]) :: (31, frameFn [m8, m12, m10]) :: q1)) 1000 60 5 [.int .i64 (.var 0), .int .i64 (.var 1)] (sentH 320 12 errTab)) = true := by kernel_rfl
theorem case5 {σ : Nat → Int} {W : World} (hL : laidMetH Tryz.prog laidErrs W) (hk : Known2 σ [] []) (hT : TabOk Tryz.prog bad 27 σ [(0, 3, .lit 1), (1, 3, .lit 2)]) {xs : Array Value} (hv : ∀ ρ, VRs σ ρ [.int .i64 (.var 0), .int .i64 (.var 1)] xs.toList) : Calls Tryz.prog 5 xs W fun e w' => e = .returned (.bool true) ∧ Below W.heap.size W w' := by
  obtain ⟨ads, h1, h2, h3⟩ := errs_sents hL
  exact law_case_x fit h1 h2 h3 errs_all errs_lt (by kernel_rfl) hk (FnsOk.cons (hT.ok fit) (FnsOk.cons (frame_fn_ok (all_cons (m8_ok) (all_cons (m12_ok) (all_cons (m10_ok) (all_nil))))) (q1_ok))) hv ⟨_, Tryz.func5, rfl⟩ run5
noncomputable def h10 : H := hUpc h7 837 [] [] [] [(35, 3, 8, U 9), (35, 3, 9, I 3)]
noncomputable def h11 : H := hUpc h10 990 [720] [(928, .cells 1 ([[I 1], [I 2], [I 3]]) false)] [(37, 0, [.slice 928 0 3 3 1 false])] [(35, 3, 8, U 8)]
noncomputable def m13 : Memo := ⟨[.ptr 69 0, I 3, I 0, .agg [I 5, I 0, I 0, I 0, U 4], .agg [U 0, U 0, U 0, U 0, I 0, I 0, I 0, I 0, U 0, I 0, I 0, I 0, I 0, U 0, I 0, I 0, I 0, I 0, U 0]], h10, .tuple [.agg [I 2, I 0, U 0, U 0, U 0, U 0, I 0, I 0, I 0, I 0, U 0, I 0, I 0, I 0, I 0, U 0, I 0, I 0, I 0, I 0, U 0], .inil], h11⟩
theorem m13_run : ranTo (evCall (cxX Tryz.prog bad [] [] [(67, pureFn [p0, p4]), (166, isFn 320)]) 1000 60 31 m13.args m13.h) m13.v m13.h' = true := by kernel_rfl
theorem m13_ok {σ : Nat → Int} {W0 : World} : MemoOk Tryz.prog 511 σ W0 31 m13 := memo_ok fit (Known2.nil σ) (FnsOk.cons (pure_fn_ok (all_cons (p0_ok) (all_cons (p4_ok) (all_nil)))) (FnsOk.cons (ext_is) (FnsOk.nil))) m13_run
noncomputable def h12 : H := hUpd h11 1026 [] [] []
noncomputable def h13 : H := hUpc h11 1261 [] [(1260, .cells 1 ([[I 1], [I 2], [I 3]]) false)] [(68, 0, [.slice 1260 0 3 3 1 false]),
  (928, 0, [I 0]),
  (928, 1, [I 0]),
  (928, 2, [I 0]),
  (37, 0, [.slice 928 0 0 3 1 false])] [(35, 0, 9, I 1)]
noncomputable def m14 : Memo := ⟨[.ptr 69 0, I 0, I 1, .agg [I 0, I 0, I 0, I 0, U 0], .agg [U 0, U 0, U 0, U 0, I 0, I 0, I 0, I 0, U 0, I 0, I 0, I 0, I 0, U 0, I 0, I 0, I 0, I 0, U 0]], h12, .tuple [.agg [I 0, IZ (-1), U 1, U 0, U 0, U 0, I 0, I 0, I 0, I 0, U 0, I 0, I 0, I 0, I 0, U 0, I 0, I 0, I 0, I 0, U 0], .inil], h13⟩
theorem m14_run : ranTo (evCall (cxX Tryz.prog bad [] [] q0) 1000 60 31 m14.args m14.h) m14.v m14.h' = true := by kernel_rfl
theorem m14_ok {σ : Nat → Int} {W0 : World} : MemoOk Tryz.prog 511 σ W0 31 m14 := memo_ok fit (Known2.nil σ) (q0_ok) m14_run
noncomputable def l0 : List (Memo) := m14 :: m13 :: m9 :: m5 :: []
theorem l0_ok {σ : Nat → Int} {W0 : World} : ∀ x ∈ l0, MemoOk Tryz.prog 511 σ W0 31 x := all_cons m14_ok (all_cons m13_ok (all_cons m9_ok (all_cons m5_ok all_nil)))
theorem run6 : isTrue (evCall (cxX Tryz.prog bad [] [] ((27, numExtE [(0, 3, .lit 2), (1, 3, .lit 0)]) :: (31, frameFn l0) :: q1)) 1000 60 5 [.int .i64 (.var 0), .int .i64 (.var 1)] (sentH 320 12 errTab)) = true := by kernel_rfl
theorem case6 {σ : Nat → Int} {W : World} (hL : laidMetH Tryz.prog laidErrs W) (hk : Known2 σ [] []) (hT : TabOk Tryz.prog bad 27 σ [(0, 3, .lit 2), (1, 3, .lit 0)]) {xs : Array Value} (hv : ∀ ρ, VRs σ ρ [.int .i64 (.var 0), .int .i64 (.var 1)] xs.toList) : Calls Tryz.prog 5 xs W fun e w' => e = .returned (.bool true) ∧ Below W.heap.size W w' := by
  obtain ⟨ads, h1, h2, h3⟩ := errs_sents hL
  exact law_case_x fit h1 h2 h3 errs_all errs_lt (by kernel_rfl) hk (FnsOk.cons (hT.ok fit) (FnsOk.cons (frame_fn_ok (l0_ok)) (q1_ok))) hv ⟨_, Tryz.func5, rfl⟩ run6
noncomputable def m15 : Memo := ⟨[.ptr 69 0, I 3, I 1, .agg [I 5, I 0, I 0, I 0, U 4], .agg [U 0, U 0, U 0, U 0, I 0, I 0, I 0, I 0, U 0, I 0, I 0, I 0, I 0, U 0, I 0, I 0, I 0, I 0, U 0]], h10, .tuple [.agg [I 2, I 0, U 0, U 0, U 0, U 0, I 0, I 0, I 0, I 0, U 0, I 0, I 0, I 0, I 0, U 0, I 0, I 0, I 0, I 0, U 0], .inil], h11⟩
theorem m15_run : ranTo (evCall (cxX Tryz.prog bad [] [] [(67, pureFn [p0, p4]), (166, isFn 320)]) 1000 60 31 m15.args m15.h) m15.v m15.h' = true := by kernel_rfl
theorem m15_ok {σ : Nat → Int} {W0 : World} : MemoOk Tryz.prog 511 σ W0 31 m15 := memo_ok fit (Known2.nil σ) (FnsOk.cons (pure_fn_ok (all_cons (p0_ok) (all_cons (p4_ok) (all_nil)))) (FnsOk.cons (ext_is) (FnsOk.nil))) m15_run
noncomputable def l1 : List (Memo) := m14 :: m15 :: m11 :: m7 :: []
theorem l1_ok {σ : Nat → Int} {W0 : World} : ∀ x ∈ l1, MemoOk Tryz.prog 511 σ W0 31 x := all_cons m14_ok (all_cons m15_ok (all_cons m11_ok (all_cons m7_ok all_nil)))
theorem run7 : isTrue (evCall (cxX Tryz.prog bad [] [] ((27, numExtE [(0, 3, .lit 2), (1, 3, .lit 1)]) :: (31, frameFn l1) :: q1)) 1000 60 5 [.int .i64 (.var 0), .int .i64 (.var 1)] (sentH 320 12 errTab)) = true := by kernel_rfl
theorem case7 {σ : Nat → Int} {W : World} (hL : laidMetH Tryz.prog laidErrs W) (hk : Known2 σ [] []) (hT : TabOk Tryz.prog bad 27 σ [(0, 3, .lit 2), (1, 3, .lit 1)]) {xs : Array Value} (hv : ∀ ρ, VRs σ ρ [.int .i64 (.var 0), .int .i64 (.var 1)] xs.toList) : Calls Tryz.prog 5 xs W fun e w' => e = .returned (.bool true) ∧ Below W.heap.size W w' := by
  obtain ⟨ads, h1, h2, h3⟩ := errs_sents hL
  exact law_case_x fit h1 h2 h3 errs_all errs_lt (by kernel_rfl) hk (FnsOk.cons (hT.ok fit) (FnsOk.cons (frame_fn_ok (l1_ok)) (q1_ok))) hv ⟨_, Tryz.func5, rfl⟩ run7
noncomputable def m16 : Memo := ⟨[.ptr 69 0, I 3, I 2, .agg [I 5, I 0, I 0, I 0, U 4], .agg [U 0, U 0, U 0, U 0, I 0, I 0, I 0, I 0, U 0, I 0, I 0, I 0, I 0, U 0, I 0, I 0, I 0, I 0, U 0]], h10, .tuple [.agg [I 2, I 0, U 0, U 0, U 0, U 0, I 0, I 0, I 0, I 0, U 0, I 0, I 0, I 0, I 0, U 0, I 0, I 0, I 0, I 0, U 0], .inil], h11⟩
theorem m16_run : ranTo (evCall (cxX Tryz.prog bad [] [] [(67, pureFn [p0, p4]), (166, isFn 320)]) 1000 60 31 m16.args m16.h) m16.v m16.h' = true := by kernel_rfl
theorem m16_ok {σ : Nat → Int} {W0 : World} : MemoOk Tryz.prog 511 σ W0 31 m16 := memo_ok fit (Known2.nil σ) (FnsOk.cons (pure_fn_ok (all_cons (p0_ok) (all_cons (p4_ok) (all_nil)))) (FnsOk.cons (ext_is) (FnsOk.nil))) m16_run
noncomputable def l2 : List (Memo) := m14 :: m16 :: m12 :: m8 :: []
theorem l2_ok {σ : Nat → Int} {W0 : World} : ∀ x ∈ l2, MemoOk Tryz.prog 511 σ W0 31 x := all_cons m14_ok (all_cons m16_ok (all_cons m12_ok (all_cons m8_ok all_nil)))
theorem run8 : isTrue (evCall (cxX Tryz.prog bad [] [] ((27, numExtE [(0, 3, .lit 2), (1, 3, .lit 2)]) :: (31, frameFn l2) :: q1)) 1000 60 5 [.int .i64 (.var 0), .int .i64 (.var 1)] (sentH 320 12 errTab)) = true := by kernel_rfl
theorem case8 {σ : Nat → Int} {W : World} (hL : laidMetH Tryz.prog laidErrs W) (hk : Known2 σ [] []) (hT : TabOk Tryz.prog bad 27 σ [(0, 3, .lit 2), (1, 3, .lit 2)]) {xs : Array Value} (hv : ∀ ρ, VRs σ ρ [.int .i64 (.var 0), .int .i64 (.var 1)] xs.toList) : Calls Tryz.prog 5 xs W fun e w' => e = .returned (.bool true) ∧ Below W.heap.size W w' := by
  obtain ⟨ads, h1, h2, h3⟩ := errs_sents hL
  exact law_case_x fit h1 h2 h3 errs_all errs_lt (by kernel_rfl) hk (FnsOk.cons (hT.ok fit) (FnsOk.cons (frame_fn_ok (l2_ok)) (q1_ok))) hv ⟨_, Tryz.func5, rfl⟩ run8
end Go.Proofs.YtalmhgaomgkdbabGreatDoor.gateStalls
