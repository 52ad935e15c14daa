/- gateStates: calls that are run once, and the runs of the cases (part 0). -/
import Derived.Test.YtalmhgaomgkdbabGreatDoorEvGsF
set_option linter.unusedVariables false
set_option maxRecDepth 10000000
namespace Go.Proofs.YtalmhgaomgkdbabGreatDoor.gateStates
open Tk
open Go.RowKit
noncomputable def h0 : H := sentH 320 12 errTab
noncomputable def p0 : Pur := ([.agg [I 0, I 0, I 0, I 0, U 0]], .inil, 1048576)
theorem p0_run : ranPure (evCall (cxX Tryz.prog bad [] [] [(166, isFn 320)]) 1000 60 67 p0.1 ⟨.lf, p0.2.2⟩) p0.2.1 = true := by kernel_rfl
theorem p0_ok {σ : Nat → Int} {W0 : World} : PureOk Tryz.prog 4095 σ W0 67 p0 := pure_ok fit (Known2.nil σ) (FnsOk.cons (ext_is) (FnsOk.nil)) p0_run
noncomputable def p1 : Pur := ([.agg [I 1, I 0, I 0, I 0, U 8]], .inil, 1048576)
theorem p1_run : ranPure (evCall (cxX Tryz.prog bad [] [] [(166, isFn 320)]) 1000 60 67 p1.1 ⟨.lf, p1.2.2⟩) p1.2.1 = true := by kernel_rfl
theorem p1_ok {σ : Nat → Int} {W0 : World} : PureOk Tryz.prog 4095 σ W0 67 p1 := pure_ok fit (Known2.nil σ) (FnsOk.cons (ext_is) (FnsOk.nil)) p1_run
noncomputable def p2 : Pur := ([], bT, 262144)
theorem p2_run : ranPure (evCall (cxX Tryz.prog bad [] [] [(67, pureFn [p0, p1]), (166, isFn 320)]) 1000 60 26 p2.1 ⟨.lf, p2.2.2⟩) p2.2.1 = true := by kernel_rfl
theorem p2_ok {σ : Nat → Int} {W0 : World} : PureOk Tryz.prog 4095 σ W0 26 p2 := pure_ok fit (Known2.nil σ) (FnsOk.cons (pure_fn_ok (all_cons (p0_ok) (all_cons (p1_ok) (all_nil)))) (FnsOk.cons (ext_is) (FnsOk.nil))) p2_run
noncomputable def h1 : H := hUpd h0 371 [] [(62, .cells 3 ([bT, I 0, bF] :: rp 5 ([bF, I 0, bF]) ([])) false),
  (46, .cells 1 ([[.snil]]) false),
  (30, .cells 1 ([[.slice 29 0 12 12 3 true]]) false),
  (70, .cells 2 ([[.ptr 68 0, .slice 69 0 4 4 31 true]]) false),
  (38, .cells 107 ([rp 9 (U 0) ((I 3) :: rp 5 (I 0) ((U 0) :: rp 4 (I 0) ((U 0) :: rp 4 (I 0) ((U 0) :: rp 4 (I 0) ((U 0) :: rp 4 (I 0) ((U 0) :: rp 4 (I 0) ((U 0) :: rp 4 (I 0) ((U 0) :: rp 4 (I 0) ((U 0) :: rp 4 (I 0) ((U 0) :: rp 4 (I 0) ((U 0) :: rp 4 (I 0) ((U 0) :: rp 4 (I 0) ((U 0) :: rp 4 (I 0) ((U 0) :: rp 4 (I 0) ((U 0) :: rp 4 (I 0) ((U 0) :: rp 4 (I 0) ((U 0) :: rp 4 (I 0) ((U 0) :: rp 4 (I 0) ((U 0) :: rp 4 (I 0) ([U 0, I 0])))))))))))))))))))), rp 9 (U 0) ((I 1) :: rp 5 (I 0) ((U 0) :: rp 4 (I 0) ((U 0) :: rp 4 (I 0) ((U 0) :: rp 4 (I 0) ((U 0) :: rp 4 (I 0) ((U 0) :: rp 4 (I 0) ((U 0) :: rp 4 (I 0) ((U 0) :: rp 4 (I 0) ((U 0) :: rp 4 (I 0) ((U 0) :: rp 4 (I 0) ((U 0) :: rp 4 (I 0) ((U 0) :: rp 4 (I 0) ((U 0) :: rp 4 (I 0) ((U 0) :: rp 4 (I 0) ((U 0) :: rp 4 (I 0) ((U 0) :: rp 4 (I 0) ((U 0) :: rp 4 (I 0) ((U 0) :: rp 4 (I 0) ((U 0) :: rp 4 (I 0) ([U 0, I 0])))))))))))))))))))), rp 9 (U 0) ((I 1) :: rp 5 (I 0) ((U 0) :: rp 4 (I 0) ((U 0) :: rp 4 (I 0) ((U 0) :: rp 4 (I 0) ((U 0) :: rp 4 (I 0) ((U 0) :: rp 4 (I 0) ((U 0) :: rp 4 (I 0) ((U 0) :: rp 4 (I 0) ((U 0) :: rp 4 (I 0) ((U 0) :: rp 4 (I 0) ((U 0) :: rp 4 (I 0) ((U 0) :: rp 4 (I 0) ((U 0) :: rp 4 (I 0) ((U 0) :: rp 4 (I 0) ((U 0) :: rp 4 (I 0) ((U 0) :: rp 4 (I 0) ((U 0) :: rp 4 (I 0) ((U 0) :: rp 4 (I 0) ((U 0) :: rp 4 (I 0) ([U 0, I 0])))))))))))))))))))), rp 9 (U 0) ((I 1) :: rp 5 (I 0) ((U 0) :: rp 4 (I 0) ((U 0) :: rp 4 (I 0) ((U 0) :: rp 4 (I 0) ((U 0) :: rp 4 (I 0) ((U 0) :: rp 4 (I 0) ((U 0) :: rp 4 (I 0) ((U 0) :: rp 4 (I 0) ((U 0) :: rp 4 (I 0) ((U 0) :: rp 4 (I 0) ((U 0) :: rp 4 (I 0) ((U 0) :: rp 4 (I 0) ((U 0) :: rp 4 (I 0) ((U 0) :: rp 4 (I 0) ((U 0) :: rp 4 (I 0) ((U 0) :: rp 4 (I 0) ((U 0) :: rp 4 (I 0) ((U 0) :: rp 4 (I 0) ((U 0) :: rp 4 (I 0) ([U 0, I 0])))))))))))))))))))), rp 9 (U 0) (rp 6 (I 0) ((U 0) :: rp 4 (I 0) ((U 0) :: rp 4 (I 0) ((U 0) :: rp 4 (I 0) ((U 0) :: rp 4 (I 0) ((U 0) :: rp 4 (I 0) ((U 0) :: rp 4 (I 0) ((U 0) :: rp 4 (I 0) ((U 0) :: rp 4 (I 0) ((U 0) :: rp 4 (I 0) ((U 0) :: rp 4 (I 0) ((U 0) :: rp 4 (I 0) ((U 0) :: rp 4 (I 0) ((U 0) :: rp 4 (I 0) ((U 0) :: rp 4 (I 0) ((U 0) :: rp 4 (I 0) ((U 0) :: rp 4 (I 0) ((U 0) :: rp 4 (I 0) ((U 0) :: rp 4 (I 0) ([U 0, I 0])))))))))))))))))))), rp 9 (U 0) (rp 6 (I 0) ((U 0) :: rp 4 (I 0) ((U 0) :: rp 4 (I 0) ((U 0) :: rp 4 (I 0) ((U 0) :: rp 4 (I 0) ((U 0) :: rp 4 (I 0) ((U 0) :: rp 4 (I 0) ((U 0) :: rp 4 (I 0) ((U 0) :: rp 4 (I 0) ((U 0) :: rp 4 (I 0) ((U 0) :: rp 4 (I 0) ((U 0) :: rp 4 (I 0) ((U 0) :: rp 4 (I 0) ((U 0) :: rp 4 (I 0) ((U 0) :: rp 4 (I 0) ((U 0) :: rp 4 (I 0) ((U 0) :: rp 4 (I 0) ((U 0) :: rp 4 (I 0) ((U 0) :: rp 4 (I 0) ([U 0, I 0]))))))))))))))))))))]) false),
  (58, .cells 3 (rp 8 ([bF, I 0, bF]) ([])) false),
  (26, .cells 1 ([[.slice 25 0 12 12 3 true]]) false),
  (66, .cells 5 ([[.ptr 63 0, .slice 64 0 6 6 3 true, .map 65, .ptr 35 0, .ptr 39 0]]) false),
  (34, .cells 3 ([[I 16, .snil, I 0]]) false),
  (60, .cells 2 (rp 8 ([I 0, I 0]) ([])) false),
  (28, .cells 2 ([[.ptr 26 0, .slice 27 0 12 12 80 true]]) false),
  (52, .cells 1 ([[.snil]]) false),
  (68, .cells 1 ([[.slice 67 0 4 4 3 true]]) false),
  (36, .cells 3 (rp 4 ([bT, I 0, bF]) ([[bF, I 0, bF], [bF, I 0, bF]])) false),
  (72, .cells 9 ([[.ptr 35 0, .ptr 39 0, .ptr 61 0, .ptr 66 0, .ptr 70 0, .ptr 71 0, .snil, .snil, I 0]]) false),
  (40, .cells 1 ([[.snil]]) false),
  (64, .cells 3 ([IZ (-1), I 30, I 4] :: rp 5 ([I 0, I 0, I 0]) ([])) false),
  (32, .cells 2 ([[.ptr 30 0, .slice 31 0 12 12 32 true]]) false),
  (61, .cells 2 ([[.ptr 59 0, .slice 60 0 8 8 2 true]]) false),
  (29, .cells 3 (rp 12 ([bF, I 0, bF]) ([])) false),
  (69, .cells 31 (rp 4 ((bF) :: rp 4 (I 0) ((U 0) :: rp 4 (I 0) ((U 0) :: rp 4 (I 0) ((U 0) :: rp 4 (I 0) ((U 0) :: rp 4 (I 0) ((U 0) :: rp 4 (I 0) ([U 0]))))))) ([])) false),
  (37, .cells 1 ([[.slice 36 0 6 6 3 true]]) false),
  (57, .cells 1 ([[.ptr 40 0], [.ptr 43 0], [.ptr 46 0], [.ptr 49 0], [.ptr 52 0], [.ptr 55 0]]) false),
  (25, .cells 3 (rp 12 ([bF, I 0, bF]) ([])) false),
  (49, .cells 1 ([[.snil]]) false),
  (65, .map [(.agg [I 4, I 0], .agg [I 0, I 0], 0), (.agg [I 4, I 1], .agg [I 0, I 0], 1), (.agg [I 4, I 2], .agg [I 0, I 0], 2), (.agg [I 4, I 3], .agg [I 0, I 0], 3)] 4),
  (33, .cells 2 ([[.ptr 28 0, .ptr 32 0]]) false),
  (59, .cells 1 ([[.slice 58 0 8 8 3 true]]) false),
  (43, .cells 1 ([[.snil]]) false),
  (27, .cells 80 (rp 12 (rp 4 (I 0) ((U 0) :: rp 4 (I 0) ((U 0) :: rp 4 (I 0) ((U 0) :: rp 4 (I 0) ((U 0) :: rp 4 (I 0) ((U 0) :: rp 4 (I 0) ((U 0) :: rp 4 (I 0) ((U 0) :: rp 4 (I 0) ((U 0) :: rp 4 (I 0) ((U 0) :: rp 4 (I 0) ((U 0) :: rp 4 (I 0) ((U 0) :: rp 4 (I 0) ((U 0) :: rp 4 (I 0) ((U 0) :: rp 4 (I 0) ((U 0) :: rp 4 (I 0) ((U 0) :: rp 4 (I 0) ([U 0]))))))))))))))))) ([])) false),
  (67, .cells 3 (rp 4 ([bF, I 0, bF]) ([])) false),
  (35, .cells 3 ([[.ptr 33 0, I 16, .ptr 34 0]]) false),
  (55, .cells 1 ([[.snil]]) false),
  (71, .cells 1 ([[.snil]]) false),
  (39, .cells 3 ([[.ptr 37 0, .slice 38 0 6 6 107 true, .slice 57 0 6 6 1 false]]) false),
  (63, .cells 1 ([[.slice 62 0 6 6 3 true]]) false),
  (31, .cells 32 (rp 12 (rp 32 (U 0) ([])) ([])) false)] []
noncomputable def m3 : Memo := ⟨[], h0, .ptr 72 0, h1⟩
noncomputable def q0 : Fns := [(67, pureFn [p0]), (166, isFn 320)]
theorem q0_ok {σ : Nat → Int} {W0 : World} : FnsOk Tryz.prog 4095 σ W0 q0 := FnsOk.cons (pure_fn_ok (all_cons (p0_ok) (all_nil))) (FnsOk.cons (ext_is) (FnsOk.nil))
theorem m3_run : ranTo (evCall (cxX Tryz.prog bad [] [] q0) 1000 60 28 m3.args m3.h) m3.v m3.h' = true := by kernel_rfl
theorem m3_ok {σ : Nat → Int} {W0 : World} : MemoOk Tryz.prog 4095 σ W0 28 m3 := memo_ok fit (Known2.nil σ) (q0_ok) m3_run
noncomputable def h2 : H := hUpd h1 421 [] [] []
noncomputable def h3 : H := hUpd h1 430 [] [] []
noncomputable def m4 : Memo := ⟨[.ptr 72 0, I 2, I 2, .agg [I 14, I 0, I 0, I 0, U 0], .agg [U 0, U 0, U 0, U 0, I 0, I 0, I 0, I 0, U 0, I 0, I 0, I 0, I 0, U 0, I 0, I 0, I 0, I 0, U 0]], h2, .tuple [.agg [I 0, I 0, U 0, U 0, U 0, U 0, I 0, I 0, I 0, I 0, U 0, I 0, I 0, I 0, I 0, U 0, I 0, I 0, I 0, I 0, U 0], .iface 320 (.ptr 20 0)], h3⟩
theorem m4_run : ranTo (evCall (cxX Tryz.prog bad [] [] [(166, isFn 320)]) 1000 60 31 m4.args m4.h) m4.v m4.h' = true := by kernel_rfl
theorem m4_ok {σ : Nat → Int} {W0 : World} : MemoOk Tryz.prog 4095 σ W0 31 m4 := memo_ok fit (Known2.nil σ) (FnsOk.cons (ext_is) (FnsOk.nil)) m4_run
noncomputable def h4 : H := hUpd h1 431 [] [] []
noncomputable def h5 : H := hUpd h1 440 [] [] []
noncomputable def m5 : Memo := ⟨[.ptr 72 0, I 0, .int .i64 (.var 1), .agg [I 0, I 0, I 0, I 0, U 0], .agg [U 0, U 0, U 0, U 0, I 0, I 0, I 0, I 0, U 0, I 0, I 0, I 0, I 0, U 0, I 0, I 0, I 0, I 0, U 0]], h4, .tuple [.agg [I 0, I 0, U 0, U 0, U 0, U 0, I 0, I 0, I 0, I 0, U 0, I 0, I 0, I 0, I 0, U 0, I 0, I 0, I 0, I 0, U 0], .iface 320 (.ptr 14 0)], h5⟩
theorem m5_run : ranTo (evCall (cxX Tryz.prog bad [((-9223372036854775808), 9223372036854775807), ((-9223372036854775808), (-1))] [] [(166, isFn 320)]) 1000 60 31 m5.args m5.h) m5.v m5.h' = true := by kernel_rfl
theorem m5_ok {σ : Nat → Int} {W0 : World} (hk : Known2 σ [((-9223372036854775808), 9223372036854775807), ((-9223372036854775808), (-1))] []) : MemoOk Tryz.prog 4095 σ W0 31 m5 := memo_ok fit hk (FnsOk.cons (ext_is) (FnsOk.nil)) m5_run
noncomputable def h6 : H := hUpd h1 441 [] [] []
noncomputable def h7 : H := hUpd h1 450 [] [] []
noncomputable def m6 : Memo := ⟨[.ptr 72 0, I 5, I 0, .agg [I 0, I 0, I 0, I 0, U 0], .agg [U 0, U 0, U 0, U 0, I 0, I 0, I 0, I 0, U 0, I 0, I 0, I 0, I 0, U 0, I 0, I 0, I 0, I 0, U 0]], h6, .tuple [.agg [I 0, I 0, U 0, U 0, U 0, U 0, I 0, I 0, I 0, I 0, U 0, I 0, I 0, I 0, I 0, U 0, I 0, I 0, I 0, I 0, U 0], .iface 320 (.ptr 16 0)], h7⟩
theorem m6_run : ranTo (evCall (cxX Tryz.prog bad [] [] [(166, isFn 320)]) 1000 60 31 m6.args m6.h) m6.v m6.h' = true := by kernel_rfl
theorem m6_ok {σ : Nat → Int} {W0 : World} : MemoOk Tryz.prog 4095 σ W0 31 m6 := memo_ok fit (Known2.nil σ) (FnsOk.cons (ext_is) (FnsOk.nil)) m6_run
noncomputable def p7 : Pur := ([.agg [I 5, I 3, I 0, I 0, U 0]], .inil, 1048576)
theorem p7_run : ranPure (evCall (cxX Tryz.prog bad [] [] [(166, isFn 320)]) 1000 60 67 p7.1 ⟨.lf, p7.2.2⟩) p7.2.1 = true := by kernel_rfl
theorem p7_ok {σ : Nat → Int} {W0 : World} : PureOk Tryz.prog 4095 σ W0 67 p7 := pure_ok fit (Known2.nil σ) (FnsOk.cons (ext_is) (FnsOk.nil)) p7_run
noncomputable def h8 : H := hUpc h1 539 [] [] [] [(38, 3, 9, I 3)]
noncomputable def h9 : H := hUpc h1 672 [] [] [] [(38, 3, 8, U 4294967295), (38, 3, 9, I 4)]
noncomputable def m8 : Memo := ⟨[.ptr 72 0, I 3, I 0, .agg [I 5, I 3, I 0, I 0, U 0], .agg [U 0, U 0, U 0, U 0, I 0, I 0, I 0, I 0, U 0, I 0, I 0, I 0, I 0, U 0, I 0, I 0, I 0, I 0, U 0]], h8, .tuple [.agg [I 2, I 3, U 0, U 0, U 0, U 0, I 0, I 0, I 0, I 0, U 0, I 0, I 0, I 0, I 0, U 0, I 0, I 0, I 0, I 0, U 0], .inil], h9⟩
theorem m8_run : ranTo (evCall (cxX Tryz.prog bad [] [] [(67, pureFn [p0, p7]), (166, isFn 320)]) 1000 60 31 m8.args m8.h) m8.v m8.h' = true := by kernel_rfl
theorem m8_ok {σ : Nat → Int} {W0 : World} : MemoOk Tryz.prog 4095 σ W0 31 m8 := memo_ok fit (Known2.nil σ) (FnsOk.cons (pure_fn_ok (all_cons (p0_ok) (all_cons (p7_ok) (all_nil)))) (FnsOk.cons (ext_is) (FnsOk.nil))) m8_run
noncomputable def q1 : Fns := [(26, pureFn [p2]), (28, frameFn [m3]), (67, pureFn [p0]), (166, isFn 320)]
theorem q1_ok {σ : Nat → Int} {W0 : World} : FnsOk Tryz.prog 4095 σ W0 q1 := FnsOk.cons (pure_fn_ok (all_cons (p2_ok) (all_nil))) (FnsOk.cons (frame_fn_ok (all_cons (m3_ok) (all_nil))) (FnsOk.cons (pure_fn_ok (all_cons (p0_ok) (all_nil))) (FnsOk.cons (ext_is) (FnsOk.nil))))
theorem run0 : isTrue (evCall (cxX Tryz.prog bad [((-9223372036854775808), 9223372036854775807), ((-9223372036854775808), (-1))] [] ((27, numExtE [(0, 4, .lit 0)]) :: (31, frameFn [m4, m5, m6, m8]) :: q1)) 1000 60 6 [.int .i64 (.var 0), .int .i64 (.var 1)] (sentH 320 12 errTab)) = true := by kernel_rfl
theorem case0 {σ : Nat → Int} {W : World} (hL : laidMetH Tryz.prog laidErrs W) (hk : Known2 σ [((-9223372036854775808), 9223372036854775807), ((-9223372036854775808), (-1))] []) (hT : TabOk Tryz.prog bad 27 σ [(0, 4, .lit 0)]) {xs : Array Value} (hv : ∀ ρ, VRs σ ρ [.int .i64 (.var 0), .int .i64 (.var 1)] xs.toList) : Calls Tryz.prog 6 xs W fun e w' => e = .returned (.bool true) ∧ Below W.heap.size W w' := by
  obtain ⟨ads, h1, h2, h3⟩ := errs_sents hL
  exact law_case_x fit h1 h2 h3 errs_all errs_lt (by kernel_rfl) hk (FnsOk.cons (hT.ok fit) (FnsOk.cons (frame_fn_ok (all_cons (m4_ok) (all_cons (m5_ok hk) (all_cons (m6_ok) (all_cons (m8_ok) (all_nil)))))) (q1_ok))) hv ⟨_, Tryz.func6, rfl⟩ run0
noncomputable def h10 : H := hUpc h1 653 [] [(652, .cells 1 ([[I 0]]) false)] [(71, 0, [.slice 652 0 1 1 1 false])] [(38, 0, 0, U 1)]
noncomputable def m9 : Memo := ⟨[.ptr 72 0, I 0, .int .i64 (.var 1), .agg [I 0, I 0, I 0, I 0, U 0], .agg [U 0, U 0, U 0, U 0, I 0, I 0, I 0, I 0, U 0, I 0, I 0, I 0, I 0, U 0, I 0, I 0, I 0, I 0, U 0]], h4, .tuple [.agg [I 0, IZ (-1), U 1, U 0, U 0, U 0, I 0, I 0, I 0, I 0, U 0, I 0, I 0, I 0, I 0, U 0, I 0, I 0, I 0, I 0, U 0], .inil], h10⟩
theorem m9_run : ranTo (evCall (cxX Tryz.prog bad [((-9223372036854775808), 9223372036854775807), (0, 0)] [(true, .var 1, .lit 0, true), (true, .var 1, .lit 1, false), (true, .var 1, .lit 2, false), (true, .var 1, .lit 3, false)] q0) 1000 60 31 m9.args m9.h) m9.v m9.h' = true := by kernel_rfl
theorem m9_ok {σ : Nat → Int} {W0 : World} (hk : Known2 σ [((-9223372036854775808), 9223372036854775807), (0, 0)] [(true, .var 1, .lit 0, true), (true, .var 1, .lit 1, false), (true, .var 1, .lit 2, false), (true, .var 1, .lit 3, false)]) : MemoOk Tryz.prog 4095 σ W0 31 m9 := memo_ok fit hk (q0_ok) m9_run
noncomputable def h11 : H := hUpd h10 654 [] [] []
noncomputable def h12 : H := hUpd h10 663 [] [] []
noncomputable def m10 : Memo := ⟨[.ptr 72 0, I 5, I 0, .agg [I 0, I 0, I 0, I 0, U 0], .agg [U 0, U 0, U 0, U 0, I 0, I 0, I 0, I 0, U 0, I 0, I 0, I 0, I 0, U 0, I 0, I 0, I 0, I 0, U 0]], h11, .tuple [.agg [I 0, I 0, U 0, U 0, U 0, U 0, I 0, I 0, I 0, I 0, U 0, I 0, I 0, I 0, I 0, U 0, I 0, I 0, I 0, I 0, U 0], .iface 320 (.ptr 16 0)], h12⟩
theorem m10_run : ranTo (evCall (cxX Tryz.prog bad [] [] [(166, isFn 320)]) 1000 60 31 m10.args m10.h) m10.v m10.h' = true := by kernel_rfl
theorem m10_ok {σ : Nat → Int} {W0 : World} : MemoOk Tryz.prog 4095 σ W0 31 m10 := memo_ok fit (Known2.nil σ) (FnsOk.cons (ext_is) (FnsOk.nil)) m10_run
noncomputable def h13 : H := hUpc h10 740 [] [] [] [(38, 3, 9, I 3)]
noncomputable def h14 : H := hUpc h10 873 [] [] [] [(38, 3, 8, U 4294967295), (38, 3, 9, I 4)]
noncomputable def m11 : Memo := ⟨[.ptr 72 0, I 3, I 0, .agg [I 5, I 3, I 0, I 0, U 0], .agg [U 0, U 0, U 0, U 0, I 0, I 0, I 0, I 0, U 0, I 0, I 0, I 0, I 0, U 0, I 0, I 0, I 0, I 0, U 0]], h13, .tuple [.agg [I 2, I 3, U 0, U 0, U 0, U 0, I 0, I 0, I 0, I 0, U 0, I 0, I 0, I 0, I 0, U 0, I 0, I 0, I 0, I 0, U 0], .inil], h14⟩
theorem m11_run : ranTo (evCall (cxX Tryz.prog bad [] [] [(67, pureFn [p0, p7]), (166, isFn 320)]) 1000 60 31 m11.args m11.h) m11.v m11.h' = true := by kernel_rfl
theorem m11_ok {σ : Nat → Int} {W0 : World} : MemoOk Tryz.prog 4095 σ W0 31 m11 := memo_ok fit (Known2.nil σ) (FnsOk.cons (pure_fn_ok (all_cons (p0_ok) (all_cons (p7_ok) (all_nil)))) (FnsOk.cons (ext_is) (FnsOk.nil))) m11_run
theorem run1 : isTrue (evCall (cxX Tryz.prog bad [((-9223372036854775808), 9223372036854775807), (0, 0)] [(true, .var 1, .lit 0, true), (true, .var 1, .lit 1, false), (true, .var 1, .lit 2, false), (true, .var 1, .lit 3, false)] ((27, numExtE [(0, 4, .lit 0)]) :: (31, frameFn [m4, m9, m10, m11]) :: q1)) 1000 60 6 [.int .i64 (.var 0), .int .i64 (.var 1)] (sentH 320 12 errTab)) = true := by kernel_rfl
theorem case1 {σ : Nat → Int} {W : World} (hL : laidMetH Tryz.prog laidErrs W) (hk : Known2 σ [((-9223372036854775808), 9223372036854775807), (0, 0)] [(true, .var 1, .lit 0, true), (true, .var 1, .lit 1, false), (true, .var 1, .lit 2, false), (true, .var 1, .lit 3, false)]) (hT : TabOk Tryz.prog bad 27 σ [(0, 4, .lit 0)]) {xs : Array Value} (hv : ∀ ρ, VRs σ ρ [.int .i64 (.var 0), .int .i64 (.var 1)] xs.toList) : Calls Tryz.prog 6 xs W fun e w' => e = .returned (.bool true) ∧ Below W.heap.size W w' := by
  obtain ⟨ads, h1, h2, h3⟩ := errs_sents hL
  exact law_case_x fit h1 h2 h3 errs_all errs_lt (by kernel_rfl) hk (FnsOk.cons (hT.ok fit) (FnsOk.cons (frame_fn_ok (all_cons (m4_ok) (all_cons (m9_ok hk) (all_cons (m10_ok) (all_cons (m11_ok) (all_nil)))))) (q1_ok))) hv ⟨_, Tryz.func6, rfl⟩ run1
noncomputable def h15 : H := hUpc h1 625 [] [] [] [(38, 0, 9, I 1)]
noncomputable def m12 : Memo := ⟨[.ptr 72 0, I 0, .int .i64 (.var 1), .agg [I 0, I 0, I 0, I 0, U 0], .agg [U 0, U 0, U 0, U 0, I 0, I 0, I 0, I 0, U 0, I 0, I 0, I 0, I 0, U 0, I 0, I 0, I 0, I 0, U 0]], h4, .tuple [.agg [I 0, IZ (-1), U 1, U 0, U 0, U 0, I 0, I 0, I 0, I 0, U 0, I 0, I 0, I 0, I 0, U 0, I 0, I 0, I 0, I 0, U 0], .inil], h15⟩
theorem m12_run : ranTo (evCall (cxX Tryz.prog bad [((-9223372036854775808), 9223372036854775807), (1, 1)] [(true, .var 1, .lit 0, false), (true, .var 1, .lit 1, true), (true, .var 1, .lit 2, false), (true, .var 1, .lit 3, false)] q0) 1000 60 31 m12.args m12.h) m12.v m12.h' = true := by kernel_rfl
theorem m12_ok {σ : Nat → Int} {W0 : World} (hk : Known2 σ [((-9223372036854775808), 9223372036854775807), (1, 1)] [(true, .var 1, .lit 0, false), (true, .var 1, .lit 1, true), (true, .var 1, .lit 2, false), (true, .var 1, .lit 3, false)]) : MemoOk Tryz.prog 4095 σ W0 31 m12 := memo_ok fit hk (q0_ok) m12_run
noncomputable def h16 : H := hUpd h15 626 [] [] []
noncomputable def h17 : H := hUpd h15 635 [] [] []
noncomputable def m13 : Memo := ⟨[.ptr 72 0, I 5, I 0, .agg [I 0, I 0, I 0, I 0, U 0], .agg [U 0, U 0, U 0, U 0, I 0, I 0, I 0, I 0, U 0, I 0, I 0, I 0, I 0, U 0, I 0, I 0, I 0, I 0, U 0]], h16, .tuple [.agg [I 0, I 0, U 0, U 0, U 0, U 0, I 0, I 0, I 0, I 0, U 0, I 0, I 0, I 0, I 0, U 0, I 0, I 0, I 0, I 0, U 0], .iface 320 (.ptr 16 0)], h17⟩
theorem m13_run : ranTo (evCall (cxX Tryz.prog bad [] [] [(166, isFn 320)]) 1000 60 31 m13.args m13.h) m13.v m13.h' = true := by kernel_rfl
theorem m13_ok {σ : Nat → Int} {W0 : World} : MemoOk Tryz.prog 4095 σ W0 31 m13 := memo_ok fit (Known2.nil σ) (FnsOk.cons (ext_is) (FnsOk.nil)) m13_run
noncomputable def h18 : H := hUpc h8 712 [] [] [] [(38, 0, 9, I 1)]
noncomputable def h19 : H := hUpc h9 845 [] [] [] [(38, 0, 9, I 1)]
noncomputable def m14 : Memo := ⟨[.ptr 72 0, I 3, I 0, .agg [I 5, I 3, I 0, I 0, U 0], .agg [U 0, U 0, U 0, U 0, I 0, I 0, I 0, I 0, U 0, I 0, I 0, I 0, I 0, U 0, I 0, I 0, I 0, I 0, U 0]], h18, .tuple [.agg [I 2, I 3, U 0, U 0, U 0, U 0, I 0, I 0, I 0, I 0, U 0, I 0, I 0, I 0, I 0, U 0, I 0, I 0, I 0, I 0, U 0], .inil], h19⟩
theorem m14_run : ranTo (evCall (cxX Tryz.prog bad [] [] [(67, pureFn [p0, p7]), (166, isFn 320)]) 1000 60 31 m14.args m14.h) m14.v m14.h' = true := by kernel_rfl
theorem m14_ok {σ : Nat → Int} {W0 : World} : MemoOk Tryz.prog 4095 σ W0 31 m14 := memo_ok fit (Known2.nil σ) (FnsOk.cons (pure_fn_ok (all_cons (p0_ok) (all_cons (p7_ok) (all_nil)))) (FnsOk.cons (ext_is) (FnsOk.nil))) m14_run
theorem run2 : isTrue (evCall (cxX Tryz.prog bad [((-9223372036854775808), 9223372036854775807), (1, 1)] [(true, .var 1, .lit 0, false), (true, .var 1, .lit 1, true), (true, .var 1, .lit 2, false), (true, .var 1, .lit 3, false)] ((27, numExtE [(0, 4, .lit 0)]) :: (31, frameFn [m4, m12, m13, m14]) :: q1)) 1000 60 6 [.int .i64 (.var 0), .int .i64 (.var 1)] (sentH 320 12 errTab)) = true := by kernel_rfl
theorem case2 {σ : Nat → Int} {W : World} (hL : laidMetH Tryz.prog laidErrs W) (hk : Known2 σ [((-9223372036854775808), 9223372036854775807), (1, 1)] [(true, .var 1, .lit 0, false), (true, .var 1, .lit 1, true), (true, .var 1, .lit 2, false), (true, .var 1, .lit 3, false)]) (hT : TabOk Tryz.prog bad 27 σ [(0, 4, .lit 0)]) {xs : Array Value} (hv : ∀ ρ, VRs σ ρ [.int .i64 (.var 0), .int .i64 (.var 1)] xs.toList) : Calls Tryz.prog 6 xs W fun e w' => e = .returned (.bool true) ∧ Below W.heap.size W w' := by
  obtain ⟨ads, h1, h2, h3⟩ := errs_sents hL
  exact law_case_x fit h1 h2 h3 errs_all errs_lt (by kernel_rfl) hk (FnsOk.cons (hT.ok fit) (FnsOk.cons (frame_fn_ok (all_cons (m4_ok) (all_cons (m12_ok hk) (all_cons (m13_ok) (all_cons (m14_ok) (all_nil)))))) (q1_ok))) hv ⟨_, Tryz.func6, rfl⟩ run2
noncomputable def h20 : H := hUpd h1 577 [] [(576, .cells 1 ([[I 0]]) false)] [(71, 0, [.slice 576 0 1 1 1 false])]
noncomputable def m15 : Memo := ⟨[.ptr 72 0, I 0, .int .i64 (.var 1), .agg [I 0, I 0, I 0, I 0, U 0], .agg [U 0, U 0, U 0, U 0, I 0, I 0, I 0, I 0, U 0, I 0, I 0, I 0, I 0, U 0, I 0, I 0, I 0, I 0, U 0]], h4, .tuple [.agg [I 0, IZ (-1), U 1, U 0, U 0, U 0, I 0, I 0, I 0, I 0, U 0, I 0, I 0, I 0, I 0, U 0, I 0, I 0, I 0, I 0, U 0], .inil], h20⟩
theorem m15_run : ranTo (evCall (cxX Tryz.prog bad [((-9223372036854775808), 9223372036854775807), (2, 2)] [(true, .var 1, .lit 0, false), (true, .var 1, .lit 1, false), (true, .var 1, .lit 2, true), (true, .var 1, .lit 3, false)] q0) 1000 60 31 m15.args m15.h) m15.v m15.h' = true := by kernel_rfl
theorem m15_ok {σ : Nat → Int} {W0 : World} (hk : Known2 σ [((-9223372036854775808), 9223372036854775807), (2, 2)] [(true, .var 1, .lit 0, false), (true, .var 1, .lit 1, false), (true, .var 1, .lit 2, true), (true, .var 1, .lit 3, false)]) : MemoOk Tryz.prog 4095 σ W0 31 m15 := memo_ok fit hk (q0_ok) m15_run
noncomputable def h21 : H := hUpd h20 578 [] [] []
noncomputable def h22 : H := hUpd h20 587 [] [] []
noncomputable def m16 : Memo := ⟨[.ptr 72 0, I 5, I 0, .agg [I 0, I 0, I 0, I 0, U 0], .agg [U 0, U 0, U 0, U 0, I 0, I 0, I 0, I 0, U 0, I 0, I 0, I 0, I 0, U 0, I 0, I 0, I 0, I 0, U 0]], h21, .tuple [.agg [I 0, I 0, U 0, U 0, U 0, U 0, I 0, I 0, I 0, I 0, U 0, I 0, I 0, I 0, I 0, U 0, I 0, I 0, I 0, I 0, U 0], .iface 320 (.ptr 16 0)], h22⟩
theorem m16_run : ranTo (evCall (cxX Tryz.prog bad [] [] [(166, isFn 320)]) 1000 60 31 m16.args m16.h) m16.v m16.h' = true := by kernel_rfl
theorem m16_ok {σ : Nat → Int} {W0 : World} : MemoOk Tryz.prog 4095 σ W0 31 m16 := memo_ok fit (Known2.nil σ) (FnsOk.cons (ext_is) (FnsOk.nil)) m16_run
noncomputable def h23 : H := hUpc h20 664 [] [] [] [(38, 3, 9, I 3)]
noncomputable def h24 : H := hUpc h20 797 [] [] [] [(38, 3, 8, U 4294967295), (38, 3, 9, I 4)]
noncomputable def m17 : Memo := ⟨[.ptr 72 0, I 3, I 0, .agg [I 5, I 3, I 0, I 0, U 0], .agg [U 0, U 0, U 0, U 0, I 0, I 0, I 0, I 0, U 0, I 0, I 0, I 0, I 0, U 0, I 0, I 0, I 0, I 0, U 0]], h23, .tuple [.agg [I 2, I 3, U 0, U 0, U 0, U 0, I 0, I 0, I 0, I 0, U 0, I 0, I 0, I 0, I 0, U 0, I 0, I 0, I 0, I 0, U 0], .inil], h24⟩
theorem m17_run : ranTo (evCall (cxX Tryz.prog bad [] [] [(67, pureFn [p0, p7]), (166, isFn 320)]) 1000 60 31 m17.args m17.h) m17.v m17.h' = true := by kernel_rfl
theorem m17_ok {σ : Nat → Int} {W0 : World} : MemoOk Tryz.prog 4095 σ W0 31 m17 := memo_ok fit (Known2.nil σ) (FnsOk.cons (pure_fn_ok (all_cons (p0_ok) (all_cons (p7_ok) (all_nil)))) (FnsOk.cons (ext_is) (FnsOk.nil))) m17_run
theorem run3 : isTrue (evCall (cxX Tryz.prog bad [((-9223372036854775808), 9223372036854775807), (2, 2)] [(true, .var 1, .lit 0, false), (true, .var 1, .lit 1, false), (true, .var 1, .lit 2, true), (true, .var 1, .lit 3, false)] ((27, numExtE [(0, 4, .lit 0)]) :: (31, frameFn [m4, m15, m16, m17]) :: q1)) 1000 60 6 [.int .i64 (.var 0), .int .i64 (.var 1)] (sentH 320 12 errTab)) = true := by kernel_rfl
theorem case3 {σ : Nat → Int} {W : World} (hL : laidMetH Tryz.prog laidErrs W) (hk : Known2 σ [((-9223372036854775808), 9223372036854775807), (2, 2)] [(true, .var 1, .lit 0, false), (true, .var 1, .lit 1, false), (true, .var 1, .lit 2, true), (true, .var 1, .lit 3, false)]) (hT : TabOk Tryz.prog bad 27 σ [(0, 4, .lit 0)]) {xs : Array Value} (hv : ∀ ρ, VRs σ ρ [.int .i64 (.var 0), .int .i64 (.var 1)] xs.toList) : Calls Tryz.prog 6 xs W fun e w' => e = .returned (.bool true) ∧ Below W.heap.size W w' := by
  obtain ⟨ads, h1, h2, h3⟩ := errs_sents hL
  exact law_case_x fit h1 h2 h3 errs_all errs_lt (by kernel_rfl) hk (FnsOk.cons (hT.ok fit) (FnsOk.cons (frame_fn_ok (all_cons (m4_ok) (all_cons (m15_ok hk) (all_cons (m16_ok) (all_cons (m17_ok) (all_nil)))))) (q1_ok))) hv ⟨_, Tryz.func6, rfl⟩ run3
noncomputable def m18 : Memo := ⟨[.ptr 72 0, I 0, .int .i64 (.var 1), .agg [I 0, I 0, I 0, I 0, U 0], .agg [U 0, U 0, U 0, U 0, I 0, I 0, I 0, I 0, U 0, I 0, I 0, I 0, I 0, U 0, I 0, I 0, I 0, I 0, U 0]], h4, .tuple [.agg [I 0, I 0, U 0, U 0, U 0, U 0, I 0, I 0, I 0, I 0, U 0, I 0, I 0, I 0, I 0, U 0, I 0, I 0, I 0, I 0, U 0], .iface 320 (.ptr 14 0)], h5⟩
theorem m18_run : ranTo (evCall (cxX Tryz.prog bad [((-9223372036854775808), 9223372036854775807), (3, 9223372036854775807)] [] [(166, isFn 320)]) 1000 60 31 m18.args m18.h) m18.v m18.h' = true := by kernel_rfl
theorem m18_ok {σ : Nat → Int} {W0 : World} (hk : Known2 σ [((-9223372036854775808), 9223372036854775807), (3, 9223372036854775807)] []) : MemoOk Tryz.prog 4095 σ W0 31 m18 := memo_ok fit hk (FnsOk.cons (ext_is) (FnsOk.nil)) m18_run
theorem run4 : isTrue (evCall (cxX Tryz.prog bad [((-9223372036854775808), 9223372036854775807), (3, 9223372036854775807)] [] ((27, numExtE [(0, 4, .lit 0)]) :: (31, frameFn [m4, m18, m6, m8]) :: q1)) 1000 60 6 [.int .i64 (.var 0), .int .i64 (.var 1)] (sentH 320 12 errTab)) = true := by kernel_rfl
theorem case4 {σ : Nat → Int} {W : World} (hL : laidMetH Tryz.prog laidErrs W) (hk : Known2 σ [((-9223372036854775808), 9223372036854775807), (3, 9223372036854775807)] []) (hT : TabOk Tryz.prog bad 27 σ [(0, 4, .lit 0)]) {xs : Array Value} (hv : ∀ ρ, VRs σ ρ [.int .i64 (.var 0), .int .i64 (.var 1)] xs.toList) : Calls Tryz.prog 6 xs W fun e w' => e = .returned (.bool true) ∧ Below W.heap.size W w' := by
  obtain ⟨ads, h1, h2, h3⟩ := errs_sents hL
  exact law_case_x fit h1 h2 h3 errs_all errs_lt (by kernel_rfl) hk (FnsOk.cons (hT.ok fit) (FnsOk.cons (frame_fn_ok (all_cons (m4_ok) (all_cons (m18_ok hk) (all_cons (m6_ok) (all_cons (m8_ok) (all_nil)))))) (q1_ok))) hv ⟨_, Tryz.func6, rfl⟩ run4
noncomputable def h25 : H := hUpc h1 421 [] [] [] [(38, 2, 9, I 2)]
noncomputable def h26 : H := hUpd h25 430 [] [] []
noncomputable def m19 : Memo := ⟨[.ptr 72 0, I 2, I 2, .agg [I 14, I 0, I 0, I 0, U 0], .agg [U 0, U 0, U 0, U 0, I 0, I 0, I 0, I 0, U 0, I 0, I 0, I 0, I 0, U 0, I 0, I 0, I 0, I 0, U 0]], h25, .tuple [.agg [I 0, I 0, U 0, U 0, U 0, U 0, I 0, I 0, I 0, I 0, U 0, I 0, I 0, I 0, I 0, U 0, I 0, I 0, I 0, I 0, U 0], .iface 320 (.ptr 20 0)], h26⟩
theorem m19_run : ranTo (evCall (cxX Tryz.prog bad [] [] [(166, isFn 320)]) 1000 60 31 m19.args m19.h) m19.v m19.h' = true := by kernel_rfl
theorem m19_ok {σ : Nat → Int} {W0 : World} : MemoOk Tryz.prog 4095 σ W0 31 m19 := memo_ok fit (Known2.nil σ) (FnsOk.cons (ext_is) (FnsOk.nil)) m19_run
noncomputable def h27 : H := hUpd h25 431 [] [] []
noncomputable def h28 : H := hUpd h25 440 [] [] []
noncomputable def m20 : Memo := ⟨[.ptr 72 0, I 0, .int .i64 (.var 1), .agg [I 0, I 0, I 0, I 0, U 0], .agg [U 0, U 0, U 0, U 0, I 0, I 0, I 0, I 0, U 0, I 0, I 0, I 0, I 0, U 0, I 0, I 0, I 0, I 0, U 0]], h27, .tuple [.agg [I 0, I 0, U 0, U 0, U 0, U 0, I 0, I 0, I 0, I 0, U 0, I 0, I 0, I 0, I 0, U 0, I 0, I 0, I 0, I 0, U 0], .iface 320 (.ptr 14 0)], h28⟩
theorem m20_run : ranTo (evCall (cxX Tryz.prog bad [((-9223372036854775808), 9223372036854775807), ((-9223372036854775808), (-1))] [] [(166, isFn 320)]) 1000 60 31 m20.args m20.h) m20.v m20.h' = true := by kernel_rfl
theorem m20_ok {σ : Nat → Int} {W0 : World} (hk : Known2 σ [((-9223372036854775808), 9223372036854775807), ((-9223372036854775808), (-1))] []) : MemoOk Tryz.prog 4095 σ W0 31 m20 := memo_ok fit hk (FnsOk.cons (ext_is) (FnsOk.nil)) m20_run
noncomputable def h29 : H := hUpd h25 441 [] [] []
noncomputable def h30 : H := hUpd h25 450 [] [] []
noncomputable def m21 : Memo := ⟨[.ptr 72 0, I 5, I 0, .agg [I 0, I 0, I 0, I 0, U 0], .agg [U 0, U 0, U 0, U 0, I 0, I 0, I 0, I 0, U 0, I 0, I 0, I 0, I 0, U 0, I 0, I 0, I 0, I 0, U 0]], h29, .tuple [.agg [I 0, I 0, U 0, U 0, U 0, U 0, I 0, I 0, I 0, I 0, U 0, I 0, I 0, I 0, I 0, U 0, I 0, I 0, I 0, I 0, U 0], .iface 320 (.ptr 16 0)], h30⟩
theorem m21_run : ranTo (evCall (cxX Tryz.prog bad [] [] [(166, isFn 320)]) 1000 60 31 m21.args m21.h) m21.v m21.h' = true := by kernel_rfl
theorem m21_ok {σ : Nat → Int} {W0 : World} : MemoOk Tryz.prog 4095 σ W0 31 m21 := memo_ok fit (Known2.nil σ) (FnsOk.cons (ext_is) (FnsOk.nil)) m21_run
noncomputable def h31 : H := hUpc h8 539 [] [] [] [(38, 2, 9, I 2)]
noncomputable def h32 : H := hUpc h9 672 [] [] [] [(38, 2, 9, I 2)]
noncomputable def m22 : Memo := ⟨[.ptr 72 0, I 3, I 0, .agg [I 5, I 3, I 0, I 0, U 0], .agg [U 0, U 0, U 0, U 0, I 0, I 0, I 0, I 0, U 0, I 0, I 0, I 0, I 0, U 0, I 0, I 0, I 0, I 0, U 0]], h31, .tuple [.agg [I 2, I 3, U 0, U 0, U 0, U 0, I 0, I 0, I 0, I 0, U 0, I 0, I 0, I 0, I 0, U 0, I 0, I 0, I 0, I 0, U 0], .inil], h32⟩
theorem m22_run : ranTo (evCall (cxX Tryz.prog bad [] [] [(67, pureFn [p0, p7]), (166, isFn 320)]) 1000 60 31 m22.args m22.h) m22.v m22.h' = true := by kernel_rfl
theorem m22_ok {σ : Nat → Int} {W0 : World} : MemoOk Tryz.prog 4095 σ W0 31 m22 := memo_ok fit (Known2.nil σ) (FnsOk.cons (pure_fn_ok (all_cons (p0_ok) (all_cons (p7_ok) (all_nil)))) (FnsOk.cons (ext_is) (FnsOk.nil))) m22_run
theorem run5 : isTrue (evCall (cxX Tryz.prog bad [((-9223372036854775808), 9223372036854775807), ((-9223372036854775808), (-1))] [] ((27, numExtE [(0, 4, .lit 1)]) :: (31, frameFn [m19, m20, m21, m22]) :: q1)) 1000 60 6 [.int .i64 (.var 0), .int .i64 (.var 1)] (sentH 320 12 errTab)) = true := by kernel_rfl
theorem case5 {σ : Nat → Int} {W : World} (hL : laidMetH Tryz.prog laidErrs W) (hk : Known2 σ [((-9223372036854775808), 9223372036854775807), ((-9223372036854775808), (-1))] []) (hT : TabOk Tryz.prog bad 27 σ [(0, 4, .lit 1)]) {xs : Array Value} (hv : ∀ ρ, VRs σ ρ [.int .i64 (.var 0), .int .i64 (.var 1)] xs.toList) : Calls Tryz.prog 6 xs W fun e w' => e = .returned (.bool true) ∧ Below W.heap.size W w' := by
  obtain ⟨ads, h1, h2, h3⟩ := errs_sents hL
  exact law_case_x fit h1 h2 h3 errs_all errs_lt (by kernel_rfl) hk (FnsOk.cons (hT.ok fit) (FnsOk.cons (frame_fn_ok (all_cons (m19_ok) (all_cons (m20_ok hk) (all_cons (m21_ok) (all_cons (m22_ok) (all_nil)))))) (q1_ok))) hv ⟨_, Tryz.func6, rfl⟩ run5
noncomputable def h33 : H := hUpc h10 653 [] [] [] [(38, 2, 9, I 2)]
noncomputable def m23 : Memo := ⟨[.ptr 72 0, I 0, .int .i64 (.var 1), .agg [I 0, I 0, I 0, I 0, U 0], .agg [U 0, U 0, U 0, U 0, I 0, I 0, I 0, I 0, U 0, I 0, I 0, I 0, I 0, U 0, I 0, I 0, I 0, I 0, U 0]], h27, .tuple [.agg [I 0, IZ (-1), U 1, U 0, U 0, U 0, I 0, I 0, I 0, I 0, U 0, I 0, I 0, I 0, I 0, U 0, I 0, I 0, I 0, I 0, U 0], .inil], h33⟩
theorem m23_run : ranTo (evCall (cxX Tryz.prog bad [((-9223372036854775808), 9223372036854775807), (0, 0)] [(true, .var 1, .lit 0, true), (true, .var 1, .lit 1, false), (true, .var 1, .lit 2, false), (true, .var 1, .lit 3, false)] q0) 1000 60 31 m23.args m23.h) m23.v m23.h' = true := by kernel_rfl
theorem m23_ok {σ : Nat → Int} {W0 : World} (hk : Known2 σ [((-9223372036854775808), 9223372036854775807), (0, 0)] [(true, .var 1, .lit 0, true), (true, .var 1, .lit 1, false), (true, .var 1, .lit 2, false), (true, .var 1, .lit 3, false)]) : MemoOk Tryz.prog 4095 σ W0 31 m23 := memo_ok fit hk (q0_ok) m23_run
noncomputable def h34 : H := hUpd h33 654 [] [] []
noncomputable def h35 : H := hUpd h33 663 [] [] []
noncomputable def m24 : Memo := ⟨[.ptr 72 0, I 5, I 0, .agg [I 0, I 0, I 0, I 0, U 0], .agg [U 0, U 0, U 0, U 0, I 0, I 0, I 0, I 0, U 0, I 0, I 0, I 0, I 0, U 0, I 0, I 0, I 0, I 0, U 0]], h34, .tuple [.agg [I 0, I 0, U 0, U 0, U 0, U 0, I 0, I 0, I 0, I 0, U 0, I 0, I 0, I 0, I 0, U 0, I 0, I 0, I 0, I 0, U 0], .iface 320 (.ptr 16 0)], h35⟩
theorem m24_run : ranTo (evCall (cxX Tryz.prog bad [] [] [(166, isFn 320)]) 1000 60 31 m24.args m24.h) m24.v m24.h' = true := by kernel_rfl
theorem m24_ok {σ : Nat → Int} {W0 : World} : MemoOk Tryz.prog 4095 σ W0 31 m24 := memo_ok fit (Known2.nil σ) (FnsOk.cons (ext_is) (FnsOk.nil)) m24_run
noncomputable def h36 : H := hUpc h13 740 [] [] [] [(38, 2, 9, I 2)]
noncomputable def h37 : H := hUpc h14 873 [] [] [] [(38, 2, 9, I 2)]
noncomputable def m25 : Memo := ⟨[.ptr 72 0, I 3, I 0, .agg [I 5, I 3, I 0, I 0, U 0], .agg [U 0, U 0, U 0, U 0, I 0, I 0, I 0, I 0, U 0, I 0, I 0, I 0, I 0, U 0, I 0, I 0, I 0, I 0, U 0]], h36, .tuple [.agg [I 2, I 3, U 0, U 0, U 0, U 0, I 0, I 0, I 0, I 0, U 0, I 0, I 0, I 0, I 0, U 0, I 0, I 0, I 0, I 0, U 0], .inil], h37⟩
theorem m25_run : ranTo (evCall (cxX Tryz.prog bad [] [] [(67, pureFn [p0, p7]), (166, isFn 320)]) 1000 60 31 m25.args m25.h) m25.v m25.h' = true := by kernel_rfl
theorem m25_ok {σ : Nat → Int} {W0 : World} : MemoOk Tryz.prog 4095 σ W0 31 m25 := memo_ok fit (Known2.nil σ) (FnsOk.cons (pure_fn_ok (all_cons (p0_ok) (all_cons (p7_ok) (all_nil)))) (FnsOk.cons (ext_is) (FnsOk.nil))) m25_run
theorem run6 : isTrue (evCall (cxX Tryz.prog bad [((-9223372036854775808), 9223372036854775807), (0, 0)] [(true, .var 1, .lit 0, true), (true, .var 1, .lit 1, false), (true, .var 1, .lit 2, false), (true, .var 1, .lit 3, false)] ((27, numExtE [(0, 4, .lit 1)]) :: (31, frameFn [m19, m23, m24, m25]) :: q1)) 1000 60 6 [.int .i64 (.var 0), .int .i64 (.var 1)] (sentH 320 12 errTab)) = true := by kernel_rfl
theorem case6 {σ : Nat → Int} {W : World} (hL : laidMetH Tryz.prog laidErrs W) (hk : Known2 σ [((-9223372036854775808), 9223372036854775807), (0, 0)] [(true, .var 1, .lit 0, true), (true, .var 1, .lit 1, false), (true, .var 1, .lit 2, false), (true, .var 1, .lit 3, false)]) (hT : TabOk Tryz.prog bad 27 σ [(0, 4, .lit 1)]) {xs : Array Value} (hv : ∀ ρ, VRs σ ρ [.int .i64 (.var 0), .int .i64 (.var 1)] xs.toList) : Calls Tryz.prog 6 xs W fun e w' => e = .returned (.bool true) ∧ Below W.heap.size W w' := by
  obtain ⟨ads, h1, h2, h3⟩ := errs_sents hL
  exact law_case_x fit h1 h2 h3 errs_all errs_lt (by kernel_rfl) hk (FnsOk.cons (hT.ok fit) (FnsOk.cons (frame_fn_ok (all_cons (m19_ok) (all_cons (m23_ok hk) (all_cons (m24_ok) (all_cons (m25_ok) (all_nil)))))) (q1_ok))) hv ⟨_, Tryz.func6, rfl⟩ run6
noncomputable def h38 : H := hUpc h15 625 [] [] [] [(38, 2, 9, I 2)]
noncomputable def m26 : Memo := ⟨[.ptr 72 0, I 0, .int .i64 (.var 1), .agg [I 0, I 0, I 0, I 0, U 0], .agg [U 0, U 0, U 0, U 0, I 0, I 0, I 0, I 0, U 0, I 0, I 0, I 0, I 0, U 0, I 0, I 0, I 0, I 0, U 0]], h27, .tuple [.agg [I 0, IZ (-1), U 1, U 0, U 0, U 0, I 0, I 0, I 0, I 0, U 0, I 0, I 0, I 0, I 0, U 0, I 0, I 0, I 0, I 0, U 0], .inil], h38⟩
theorem m26_run : ranTo (evCall (cxX Tryz.prog bad [((-9223372036854775808), 9223372036854775807), (1, 1)] [(true, .var 1, .lit 0, false), (true, .var 1, .lit 1, true), (true, .var 1, .lit 2, false), (true, .var 1, .lit 3, false)] q0) 1000 60 31 m26.args m26.h) m26.v m26.h' = true := by kernel_rfl
theorem m26_ok {σ : Nat → Int} {W0 : World} (hk : Known2 σ [((-9223372036854775808), 9223372036854775807), (1, 1)] [(true, .var 1, .lit 0, false), (true, .var 1, .lit 1, true), (true, .var 1, .lit 2, false), (true, .var 1, .lit 3, false)]) : MemoOk Tryz.prog 4095 σ W0 31 m26 := memo_ok fit hk (q0_ok) m26_run
noncomputable def h39 : H := hUpd h38 626 [] [] []
noncomputable def h40 : H := hUpd h38 635 [] [] []
noncomputable def m27 : Memo := ⟨[.ptr 72 0, I 5, I 0, .agg [I 0, I 0, I 0, I 0, U 0], .agg [U 0, U 0, U 0, U 0, I 0, I 0, I 0, I 0, U 0, I 0, I 0, I 0, I 0, U 0, I 0, I 0, I 0, I 0, U 0]], h39, .tuple [.agg [I 0, I 0, U 0, U 0, U 0, U 0, I 0, I 0, I 0, I 0, U 0, I 0, I 0, I 0, I 0, U 0, I 0, I 0, I 0, I 0, U 0], .iface 320 (.ptr 16 0)], h40⟩
theorem m27_run : ranTo (evCall (cxX Tryz.prog bad [] [] [(166, isFn 320)]) 1000 60 31 m27.args m27.h) m27.v m27.h' = true := by kernel_rfl
theorem m27_ok {σ : Nat → Int} {W0 : World} : MemoOk Tryz.prog 4095 σ W0 31 m27 := memo_ok fit (Known2.nil σ) (FnsOk.cons (ext_is) (FnsOk.nil)) m27_run
noncomputable def h41 : H := hUpc h18 712 [] [] [] [(38, 2, 9, I 2)]
noncomputable def h42 : H := hUpc h19 845 [] [] [] [(38, 2, 9, I 2)]
noncomputable def m28 : Memo := ⟨[.ptr 72 0, I 3, I 0, .agg [I 5, I 3, I 0, I 0, U 0], .agg [U 0, U 0, U 0, U 0, I 0, I 0, I 0, I 0, U 0, I 0, I 0, I 0, I 0, U 0, I 0, I 0, I 0, I 0, U 0]], h41, .tuple [.agg [I 2, I 3, U 0, U 0, U 0, U 0, I 0, I 0, I 0, I 0, U 0, I 0, I 0, I 0, I 0, U 0, I 0, I 0, I 0, I 0, U 0], .inil], h42⟩
theorem m28_run : ranTo (evCall (cxX Tryz.prog bad [] [] [(67, pureFn [p0, p7]), (166, isFn 320)]) 1000 60 31 m28.args m28.h) m28.v m28.h' = true := by kernel_rfl
theorem m28_ok {σ : Nat → Int} {W0 : World} : MemoOk Tryz.prog 4095 σ W0 31 m28 := memo_ok fit (Known2.nil σ) (FnsOk.cons (pure_fn_ok (all_cons (p0_ok) (all_cons (p7_ok) (all_nil)))) (FnsOk.cons (ext_is) (FnsOk.nil))) m28_run
theorem run7 : isTrue (evCall (cxX Tryz.prog bad [((-9223372036854775808), 9223372036854775807), (1, 1)] [(true, .var 1, .lit 0, false), (true, .var 1, .lit 1, true), (true, .var 1, .lit 2, false), (true, .var 1, .lit 3, false)] ((27, numExtE [(0, 4, .lit 1)]) :: (31, frameFn [m19, m26, m27, m28]) :: q1)) 1000 60 6 [.int .i64 (.var 0), .int .i64 (.var 1)] (sentH 320 12 errTab)) = true := by kernel_rfl
theorem case7 {σ : Nat → Int} {W : World} (hL : laidMetH Tryz.prog laidErrs W) (hk : Known2 σ [((-9223372036854775808), 9223372036854775807), (1, 1)] [(true, .var 1, .lit 0, false), (true, .var 1, .lit 1, true), (true, .var 1, .lit 2, false), (true, .var 1, .lit 3, false)]) (hT : TabOk Tryz.prog bad 27 σ [(0, 4, .lit 1)]) {xs : Array Value} (hv : ∀ ρ, VRs σ ρ [.int .i64 (.var 0), .int .i64 (.var 1)] xs.toList) : Calls Tryz.prog 6 xs W fun e w' => e = .returned (.bool true) ∧ Below W.heap.size W w' := by
  obtain ⟨ads, h1, h2, h3⟩ := errs_sents hL
  exact law_case_x fit h1 h2 h3 errs_all errs_lt (by kernel_rfl) hk (FnsOk.cons (hT.ok fit) (FnsOk.cons (frame_fn_ok (all_cons (m19_ok) (all_cons (m26_ok hk) (all_cons (m27_ok) (all_cons (m28_ok) (all_nil)))))) (q1_ok))) hv ⟨_, Tryz.func6, rfl⟩ run7
noncomputable def h43 : H := hUpc h20 577 [] [] [] [(38, 2, 9, I 2)]
noncomputable def m29 : Memo := ⟨[.ptr 72 0, I 0, .int .i64 (.var 1), .agg [I 0, I 0, I 0, I 0, U 0], .agg [U 0, U 0, U 0, U 0, I 0, I 0, I 0, I 0, U 0, I 0, I 0, I 0, I 0, U 0, I 0, I 0, I 0, I 0, U 0]], h27, .tuple [.agg [I 0, IZ (-1), U 1, U 0, U 0, U 0, I 0, I 0, I 0, I 0, U 0, I 0, I 0, I 0, I 0, U 0, I 0, I 0, I 0, I 0, U 0], .inil], h43⟩
theorem m29_run : ranTo (evCall (cxX Tryz.prog bad [((-9223372036854775808), 9223372036854775807), (2, 2)] [(true, .var 1, .lit 0, false), (true, .var 1, .lit 1, false), (true, .var 1, .lit 2, true), (true, .var 1, .lit 3, false)] q0) 1000 60 31 m29.args m29.h) m29.v m29.h' = true := by kernel_rfl
theorem m29_ok {σ : Nat → Int} {W0 : World} (hk : Known2 σ [((-9223372036854775808), 9223372036854775807), (2, 2)] [(true, .var 1, .lit 0, false), (true, .var 1, .lit 1, false), (true, .var 1, .lit 2, true), (true, .var 1, .lit 3, false)]) : MemoOk Tryz.prog 4095 σ W0 31 m29 := memo_ok fit hk (q0_ok) m29_run
noncomputable def h44 : H := hUpd h43 578 [] [] []
noncomputable def h45 : H := hUpd h43 587 [] [] []
noncomputable def m30 : Memo := ⟨[.ptr 72 0, I 5, I 0, .agg [I 0, I 0, I 0, I 0, U 0], .agg [U 0, U 0, U 0, U 0, I 0, I 0, I 0, I 0, U 0, I 0, I 0, I 0, I 0, U 0, I 0, I 0, I 0, I 0, U 0]], h44, .tuple [.agg [I 0, I 0, U 0, U 0, U 0, U 0, I 0, I 0, I 0, I 0, U 0, I 0, I 0, I 0, I 0, U 0, I 0, I 0, I 0, I 0, U 0], .iface 320 (.ptr 16 0)], h45⟩
theorem m30_run : ranTo (evCall (cxX Tryz.prog bad [] [] [(166, isFn 320)]) 1000 60 31 m30.args m30.h) m30.v m30.h' = true := by kernel_rfl
theorem m30_ok {σ : Nat → Int} {W0 : World} : MemoOk Tryz.prog 4095 σ W0 31 m30 := memo_ok fit (Known2.nil σ) (FnsOk.cons (ext_is) (FnsOk.nil)) m30_run
noncomputable def h46 : H := hUpc h23 664 [] [] [] [(38, 2, 9, I 2)]
noncomputable def h47 : H := hUpc h24 797 [] [] [] [(38, 2, 9, I 2)]
noncomputable def m31 : Memo := ⟨[.ptr 72 0, I 3, I 0, .agg [I 5, I 3, I 0, I 0, U 0], .agg [U 0, U 0, U 0, U 0, I 0, I 0, I 0, I 0, U 0, I 0, I 0, I 0, I 0, U 0, I 0, I 0, I 0, I 0, U 0]], h46, .tuple [.agg [I 2, I 3, U 0, U 0, U 0, U 0, I 0, I 0, I 0, I 0, U 0, I 0, I 0, I 0, I 0, U 0, I 0, I 0, I 0, I 0, U 0], .inil], h47⟩
theorem m31_run : ranTo (evCall (cxX Tryz.prog bad [] [] [(67, pureFn [p0, p7]), (166, isFn 320)]) 1000 60 31 m31.args m31.h) m31.v m31.h' = true := by kernel_rfl
theorem m31_ok {σ : Nat → Int} {W0 : World} : MemoOk Tryz.prog 4095 σ W0 31 m31 := memo_ok fit (Known2.nil σ) (FnsOk.cons (pure_fn_ok (all_cons (p0_ok) (all_cons (p7_ok) (all_nil)))) (FnsOk.cons (ext_is) (FnsOk.nil))) m31_run
theorem run8 : isTrue (evCall (cxX Tryz.prog bad [((-9223372036854775808), 9223372036854775807), (2, 2)] [(true, .var 1, .lit 0, false), (true, .var 1, .lit 1, false), (true, .var 1, .lit 2, true), (true, .var 1, .lit 3, false)] ((27, numExtE [(0, 4, .lit 1)]) :: (31, frameFn [m19, m29, m30, m31]) :: q1)) 1000 60 6 [.int .i64 (.var 0), .int .i64 (.var 1)] (sentH 320 12 errTab)) = true := by kernel_rfl
theorem case8 {σ : Nat → Int} {W : World} (hL : laidMetH Tryz.prog laidErrs W) (hk : Known2 σ [((-9223372036854775808), 9223372036854775807), (2, 2)] [(true, .var 1, .lit 0, false), (true, .var 1, .lit 1, false), (true, .var 1, .lit 2, true), (true, .var 1, .lit 3, false)]) (hT : TabOk Tryz.prog bad 27 σ [(0, 4, .lit 1)]) {xs : Array Value} (hv : ∀ ρ, VRs σ ρ [.int .i64 (.var 0), .int .i64 (.var 1)] xs.toList) : Calls Tryz.prog 6 xs W fun e w' => e = .returned (.bool true) ∧ Below W.heap.size W w' := by
  obtain ⟨ads, h1, h2, h3⟩ := errs_sents hL
  exact law_case_x fit h1 h2 h3 errs_all errs_lt (by kernel_rfl) hk (FnsOk.cons (hT.ok fit) (FnsOk.cons (frame_fn_ok (all_cons (m19_ok) (all_cons (m29_ok hk) (all_cons (m30_ok) (all_cons (m31_ok) (all_nil)))))) (q1_ok))) hv ⟨_, Tryz.func6, rfl⟩ run8
noncomputable def m32 : Memo := ⟨[.ptr 72 0, I 0, .int .i64 (.var 1), .agg [I 0, I 0, I 0, I 0, U 0], .agg [U 0, U 0, U 0, U 0, I 0, I 0, I 0, I 0, U 0, I 0, I 0, I 0, I 0, U 0, I 0, I 0, I 0, I 0, U 0]], h27, .tuple [.agg [I 0, I 0, U 0, U 0, U 0, U 0, I 0, I 0, I 0, I 0, U 0, I 0, I 0, I 0, I 0, U 0, I 0, I 0, I 0, I 0, U 0], .iface 320 (.ptr 14 0)], h28⟩
theorem m32_run : ranTo (evCall (cxX Tryz.prog bad [((-9223372036854775808), 9223372036854775807), (3, 9223372036854775807)] [] [(166, isFn 320)]) 1000 60 31 m32.args m32.h) m32.v m32.h' = true := by kernel_rfl
theorem m32_ok {σ : Nat → Int} {W0 : World} (hk : Known2 σ [((-9223372036854775808), 9223372036854775807), (3, 9223372036854775807)] []) : MemoOk Tryz.prog 4095 σ W0 31 m32 := memo_ok fit hk (FnsOk.cons (ext_is) (FnsOk.nil)) m32_run
theorem run9 : isTrue (evCall (cxX Tryz.prog bad [((-9223372036854775808), 9223372036854775807), (3, 9223372036854775807)] [] ((27, numExtE [(0, 4, .lit 1)]) :: (31, frameFn [m19, m32, m21, m22]) :: q1)) 1000 60 6 [.int .i64 (.var 0), .int .i64 (.var 1)] (sentH 320 12 errTab)) = true := by kernel_rfl
theorem case9 {σ : Nat → Int} {W : World} (hL : laidMetH Tryz.prog laidErrs W) (hk : Known2 σ [((-9223372036854775808), 9223372036854775807), (3, 9223372036854775807)] []) (hT : TabOk Tryz.prog bad 27 σ [(0, 4, .lit 1)]) {xs : Array Value} (hv : ∀ ρ, VRs σ ρ [.int .i64 (.var 0), .int .i64 (.var 1)] xs.toList) : Calls Tryz.prog 6 xs W fun e w' => e = .returned (.bool true) ∧ Below W.heap.size W w' := by
  obtain ⟨ads, h1, h2, h3⟩ := errs_sents hL
  exact law_case_x fit h1 h2 h3 errs_all errs_lt (by kernel_rfl) hk (FnsOk.cons (hT.ok fit) (FnsOk.cons (frame_fn_ok (all_cons (m19_ok) (all_cons (m32_ok hk) (all_cons (m21_ok) (all_cons (m22_ok) (all_nil)))))) (q1_ok))) hv ⟨_, Tryz.func6, rfl⟩ run9
noncomputable def p33 : Pur := ([.agg [I 14, I 0, I 0, I 0, U 0]], .inil, 1048576)
theorem p33_run : ranPure (evCall (cxX Tryz.prog bad [] [] [(166, isFn 320)]) 1000 60 67 p33.1 ⟨.lf, p33.2.2⟩) p33.2.1 = true := by kernel_rfl
theorem p33_ok {σ : Nat → Int} {W0 : World} : PureOk Tryz.prog 4095 σ W0 67 p33 := pure_ok fit (Known2.nil σ) (FnsOk.cons (ext_is) (FnsOk.nil)) p33_run
noncomputable def h48 : H := hUpc h25 421 [] [] [] [(38, 2, 9, I 3)]
noncomputable def h49 : H := hUpd h48 568 [] [(567, .cells 1 ([[I 2]]) false)] [(71, 0, [.slice 567 0 1 1 1 false])]
noncomputable def m34 : Memo := ⟨[.ptr 72 0, I 2, I 2, .agg [I 14, I 0, I 0, I 0, U 0], .agg [U 0, U 0, U 0, U 0, I 0, I 0, I 0, I 0, U 0, I 0, I 0, I 0, I 0, U 0, I 0, I 0, I 0, I 0, U 0]], h48, .tuple [.agg [I 0, IZ (-1), U 0, U 0, U 0, U 0, I 0, I 0, I 0, I 0, U 0, I 0, I 0, I 0, I 0, U 0, I 0, I 0, I 0, I 0, U 0], .inil], h49⟩
theorem m34_run : ranTo (evCall (cxX Tryz.prog bad [] [] [(67, pureFn [p0, p33]), (166, isFn 320)]) 1000 60 31 m34.args m34.h) m34.v m34.h' = true := by kernel_rfl
theorem m34_ok {σ : Nat → Int} {W0 : World} : MemoOk Tryz.prog 4095 σ W0 31 m34 := memo_ok fit (Known2.nil σ) (FnsOk.cons (pure_fn_ok (all_cons (p0_ok) (all_cons (p33_ok) (all_nil)))) (FnsOk.cons (ext_is) (FnsOk.nil))) m34_run
noncomputable def h50 : H := hUpd h49 569 [] [] []
noncomputable def h51 : H := hUpd h49 578 [] [] []
noncomputable def m35 : Memo := ⟨[.ptr 72 0, I 0, .int .i64 (.var 1), .agg [I 0, I 0, I 0, I 0, U 0], .agg [U 0, U 0, U 0, U 0, I 0, I 0, I 0, I 0, U 0, I 0, I 0, I 0, I 0, U 0, I 0, I 0, I 0, I 0, U 0]], h50, .tuple [.agg [I 0, I 0, U 0, U 0, U 0, U 0, I 0, I 0, I 0, I 0, U 0, I 0, I 0, I 0, I 0, U 0, I 0, I 0, I 0, I 0, U 0], .iface 320 (.ptr 14 0)], h51⟩
theorem m35_run : ranTo (evCall (cxX Tryz.prog bad [((-9223372036854775808), 9223372036854775807), ((-9223372036854775808), (-1))] [] [(166, isFn 320)]) 1000 60 31 m35.args m35.h) m35.v m35.h' = true := by kernel_rfl
theorem m35_ok {σ : Nat → Int} {W0 : World} (hk : Known2 σ [((-9223372036854775808), 9223372036854775807), ((-9223372036854775808), (-1))] []) : MemoOk Tryz.prog 4095 σ W0 31 m35 := memo_ok fit hk (FnsOk.cons (ext_is) (FnsOk.nil)) m35_run
noncomputable def h52 : H := hUpd h49 579 [] [] []
noncomputable def h53 : H := hUpd h49 588 [] [] []
noncomputable def m36 : Memo := ⟨[.ptr 72 0, I 5, I 0, .agg [I 0, I 0, I 0, I 0, U 0], .agg [U 0, U 0, U 0, U 0, I 0, I 0, I 0, I 0, U 0, I 0, I 0, I 0, I 0, U 0, I 0, I 0, I 0, I 0, U 0]], h52, .tuple [.agg [I 0, I 0, U 0, U 0, U 0, U 0, I 0, I 0, I 0, I 0, U 0, I 0, I 0, I 0, I 0, U 0, I 0, I 0, I 0, I 0, U 0], .iface 320 (.ptr 16 0)], h53⟩
theorem m36_run : ranTo (evCall (cxX Tryz.prog bad [] [] [(166, isFn 320)]) 1000 60 31 m36.args m36.h) m36.v m36.h' = true := by kernel_rfl
theorem m36_ok {σ : Nat → Int} {W0 : World} : MemoOk Tryz.prog 4095 σ W0 31 m36 := memo_ok fit (Known2.nil σ) (FnsOk.cons (ext_is) (FnsOk.nil)) m36_run
noncomputable def h54 : H := hUpc h49 665 [] [] [] [(38, 3, 9, I 3)]
noncomputable def h55 : H := hUpc h49 798 [] [] [] [(38, 3, 8, U 4294967295), (38, 3, 9, I 4)]
noncomputable def m37 : Memo := ⟨[.ptr 72 0, I 3, I 0, .agg [I 5, I 3, I 0, I 0, U 0], .agg [U 0, U 0, U 0, U 0, I 0, I 0, I 0, I 0, U 0, I 0, I 0, I 0, I 0, U 0, I 0, I 0, I 0, I 0, U 0]], h54, .tuple [.agg [I 2, I 3, U 0, U 0, U 0, U 0, I 0, I 0, I 0, I 0, U 0, I 0, I 0, I 0, I 0, U 0, I 0, I 0, I 0, I 0, U 0], .inil], h55⟩
theorem m37_run : ranTo (evCall (cxX Tryz.prog bad [] [] [(67, pureFn [p0, p7]), (166, isFn 320)]) 1000 60 31 m37.args m37.h) m37.v m37.h' = true := by kernel_rfl
theorem m37_ok {σ : Nat → Int} {W0 : World} : MemoOk Tryz.prog 4095 σ W0 31 m37 := memo_ok fit (Known2.nil σ) (FnsOk.cons (pure_fn_ok (all_cons (p0_ok) (all_cons (p7_ok) (all_nil)))) (FnsOk.cons (ext_is) (FnsOk.nil))) m37_run
theorem run10 : isTrue (evCall (cxX Tryz.prog bad [((-9223372036854775808), 9223372036854775807), ((-9223372036854775808), (-1))] [] ((27, numExtE [(0, 4, .lit 2)]) :: (31, frameFn [m34, m35, m36, m37]) :: q1)) 1000 60 6 [.int .i64 (.var 0), .int .i64 (.var 1)] (sentH 320 12 errTab)) = true := by kernel_rfl
theorem case10 {σ : Nat → Int} {W : World} (hL : laidMetH Tryz.prog laidErrs W) (hk : Known2 σ [((-9223372036854775808), 9223372036854775807), ((-9223372036854775808), (-1))] []) (hT : TabOk Tryz.prog bad 27 σ [(0, 4, .lit 2)]) {xs : Array Value} (hv : ∀ ρ, VRs σ ρ [.int .i64 (.var 0), .int .i64 (.var 1)] xs.toList) : Calls Tryz.prog 6 xs W fun e w' => e = .returned (.bool true) ∧ Below W.heap.size W w' := by
  obtain ⟨ads, h1, h2, h3⟩ := errs_sents hL
  exact law_case_x fit h1 h2 h3 errs_all errs_lt (by kernel_rfl) hk (FnsOk.cons (hT.ok fit) (FnsOk.cons (frame_fn_ok (all_cons (m34_ok) (all_cons (m35_ok hk) (all_cons (m36_ok) (all_cons (m37_ok) (all_nil)))))) (q1_ok))) hv ⟨_, Tryz.func6, rfl⟩ run10
noncomputable def h56 : H := hUpc h48 791 [] [(790, .cells 1 ([[I 2], [I 0]]) false)] [(71, 0, [.slice 790 0 2 2 1 false])] [(38, 0, 0, U 1)]
noncomputable def m38 : Memo := ⟨[.ptr 72 0, I 0, .int .i64 (.var 1), .agg [I 0, I 0, I 0, I 0, U 0], .agg [U 0, U 0, U 0, U 0, I 0, I 0, I 0, I 0, U 0, I 0, I 0, I 0, I 0, U 0, I 0, I 0, I 0, I 0, U 0]], h50, .tuple [.agg [I 0, IZ (-1), U 1, U 0, U 0, U 0, I 0, I 0, I 0, I 0, U 0, I 0, I 0, I 0, I 0, U 0, I 0, I 0, I 0, I 0, U 0], .inil], h56⟩
theorem m38_run : ranTo (evCall (cxX Tryz.prog bad [((-9223372036854775808), 9223372036854775807), (0, 0)] [(true, .var 1, .lit 0, true), (true, .var 1, .lit 1, false), (true, .var 1, .lit 2, false), (true, .var 1, .lit 3, false)] q0) 1000 60 31 m38.args m38.h) m38.v m38.h' = true := by kernel_rfl
theorem m38_ok {σ : Nat → Int} {W0 : World} (hk : Known2 σ [((-9223372036854775808), 9223372036854775807), (0, 0)] [(true, .var 1, .lit 0, true), (true, .var 1, .lit 1, false), (true, .var 1, .lit 2, false), (true, .var 1, .lit 3, false)]) : MemoOk Tryz.prog 4095 σ W0 31 m38 := memo_ok fit hk (q0_ok) m38_run
noncomputable def h57 : H := hUpd h56 792 [] [] []
noncomputable def h58 : H := hUpd h56 801 [] [] []
noncomputable def m39 : Memo := ⟨[.ptr 72 0, I 5, I 0, .agg [I 0, I 0, I 0, I 0, U 0], .agg [U 0, U 0, U 0, U 0, I 0, I 0, I 0, I 0, U 0, I 0, I 0, I 0, I 0, U 0, I 0, I 0, I 0, I 0, U 0]], h57, .tuple [.agg [I 0, I 0, U 0, U 0, U 0, U 0, I 0, I 0, I 0, I 0, U 0, I 0, I 0, I 0, I 0, U 0, I 0, I 0, I 0, I 0, U 0], .iface 320 (.ptr 16 0)], h58⟩
theorem m39_run : ranTo (evCall (cxX Tryz.prog bad [] [] [(166, isFn 320)]) 1000 60 31 m39.args m39.h) m39.v m39.h' = true := by kernel_rfl
theorem m39_ok {σ : Nat → Int} {W0 : World} : MemoOk Tryz.prog 4095 σ W0 31 m39 := memo_ok fit (Known2.nil σ) (FnsOk.cons (ext_is) (FnsOk.nil)) m39_run
noncomputable def h59 : H := hUpc h56 866 [] [] [] [(38, 3, 9, I 3)]
noncomputable def h60 : H := hUpc h56 999 [] [] [] [(38, 3, 8, U 4294967295), (38, 3, 9, I 4)]
noncomputable def m40 : Memo := ⟨[.ptr 72 0, I 3, I 0, .agg [I 5, I 3, I 0, I 0, U 0], .agg [U 0, U 0, U 0, U 0, I 0, I 0, I 0, I 0, U 0, I 0, I 0, I 0, I 0, U 0, I 0, I 0, I 0, I 0, U 0]], h59, .tuple [.agg [I 2, I 3, U 0, U 0, U 0, U 0, I 0, I 0, I 0, I 0, U 0, I 0, I 0, I 0, I 0, U 0, I 0, I 0, I 0, I 0, U 0], .inil], h60⟩
theorem m40_run : ranTo (evCall (cxX Tryz.prog bad [] [] [(67, pureFn [p0, p7]), (166, isFn 320)]) 1000 60 31 m40.args m40.h) m40.v m40.h' = true := by kernel_rfl
theorem m40_ok {σ : Nat → Int} {W0 : World} : MemoOk Tryz.prog 4095 σ W0 31 m40 := memo_ok fit (Known2.nil σ) (FnsOk.cons (pure_fn_ok (all_cons (p0_ok) (all_cons (p7_ok) (all_nil)))) (FnsOk.cons (ext_is) (FnsOk.nil))) m40_run
theorem run11 : isTrue (evCall (cxX Tryz.prog bad [((-9223372036854775808), 9223372036854775807), (0, 0)] [(true, .var 1, .lit 0, true), (true, .var 1, .lit 1, false), (true, .var 1, .lit 2, false), (true, .var 1, .lit 3, false)] ((27, numExtE [(0, 4, .lit 2)]) :: (31, frameFn [m34, m38, m39, m40]) :: q1)) 1000 60 6 [.int .i64 (.var 0), .int .i64 (.var 1)] (sentH 320 12 errTab)) = true := by kernel_rfl
theorem case11 {σ : Nat → Int} {W : World} (hL : laidMetH Tryz.prog laidErrs W) (hk : Known2 σ [((-9223372036854775808), 9223372036854775807), (0, 0)] [(true, .var 1, .lit 0, true), (true, .var 1, .lit 1, false), (true, .var 1, .lit 2, false), (true, .var 1, .lit 3, false)]) (hT : TabOk Tryz.prog bad 27 σ [(0, 4, .lit 2)]) {xs : Array Value} (hv : ∀ ρ, VRs σ ρ [.int .i64 (.var 0), .int .i64 (.var 1)] xs.toList) : Calls Tryz.prog 6 xs W fun e w' => e = .returned (.bool true) ∧ Below W.heap.size W w' := by
  obtain ⟨ads, h1, h2, h3⟩ := errs_sents hL
  exact law_case_x fit h1 h2 h3 errs_all errs_lt (by kernel_rfl) hk (FnsOk.cons (hT.ok fit) (FnsOk.cons (frame_fn_ok (all_cons (m34_ok) (all_cons (m38_ok hk) (all_cons (m39_ok) (all_cons (m40_ok) (all_nil)))))) (q1_ok))) hv ⟨_, Tryz.func6, rfl⟩ run11
noncomputable def h61 : H := hUpc h49 763 [] [] [] [(38, 0, 9, I 1)]
noncomputable def m41 : Memo := ⟨[.ptr 72 0, I 0, .int .i64 (.var 1), .agg [I 0, I 0, I 0, I 0, U 0], .agg [U 0, U 0, U 0, U 0, I 0, I 0, I 0, I 0, U 0, I 0, I 0, I 0, I 0, U 0, I 0, I 0, I 0, I 0, U 0]], h50, .tuple [.agg [I 0, IZ (-1), U 1, U 0, U 0, U 0, I 0, I 0, I 0, I 0, U 0, I 0, I 0, I 0, I 0, U 0, I 0, I 0, I 0, I 0, U 0], .inil], h61⟩
theorem m41_run : ranTo (evCall (cxX Tryz.prog bad [((-9223372036854775808), 9223372036854775807), (1, 1)] [(true, .var 1, .lit 0, false), (true, .var 1, .lit 1, true), (true, .var 1, .lit 2, false), (true, .var 1, .lit 3, false)] q0) 1000 60 31 m41.args m41.h) m41.v m41.h' = true := by kernel_rfl
theorem m41_ok {σ : Nat → Int} {W0 : World} (hk : Known2 σ [((-9223372036854775808), 9223372036854775807), (1, 1)] [(true, .var 1, .lit 0, false), (true, .var 1, .lit 1, true), (true, .var 1, .lit 2, false), (true, .var 1, .lit 3, false)]) : MemoOk Tryz.prog 4095 σ W0 31 m41 := memo_ok fit hk (q0_ok) m41_run
noncomputable def h62 : H := hUpd h61 764 [] [] []
noncomputable def h63 : H := hUpd h61 773 [] [] []
noncomputable def m42 : Memo := ⟨[.ptr 72 0, I 5, I 0, .agg [I 0, I 0, I 0, I 0, U 0], .agg [U 0, U 0, U 0, U 0, I 0, I 0, I 0, I 0, U 0, I 0, I 0, I 0, I 0, U 0, I 0, I 0, I 0, I 0, U 0]], h62, .tuple [.agg [I 0, I 0, U 0, U 0, U 0, U 0, I 0, I 0, I 0, I 0, U 0, I 0, I 0, I 0, I 0, U 0, I 0, I 0, I 0, I 0, U 0], .iface 320 (.ptr 16 0)], h63⟩
theorem m42_run : ranTo (evCall (cxX Tryz.prog bad [] [] [(166, isFn 320)]) 1000 60 31 m42.args m42.h) m42.v m42.h' = true := by kernel_rfl
theorem m42_ok {σ : Nat → Int} {W0 : World} : MemoOk Tryz.prog 4095 σ W0 31 m42 := memo_ok fit (Known2.nil σ) (FnsOk.cons (ext_is) (FnsOk.nil)) m42_run
noncomputable def h64 : H := hUpc h54 838 [] [] [] [(38, 0, 9, I 1)]
noncomputable def h65 : H := hUpc h55 971 [] [] [] [(38, 0, 9, I 1)]
noncomputable def m43 : Memo := ⟨[.ptr 72 0, I 3, I 0, .agg [I 5, I 3, I 0, I 0, U 0], .agg [U 0, U 0, U 0, U 0, I 0, I 0, I 0, I 0, U 0, I 0, I 0, I 0, I 0, U 0, I 0, I 0, I 0, I 0, U 0]], h64, .tuple [.agg [I 2, I 3, U 0, U 0, U 0, U 0, I 0, I 0, I 0, I 0, U 0, I 0, I 0, I 0, I 0, U 0, I 0, I 0, I 0, I 0, U 0], .inil], h65⟩
theorem m43_run : ranTo (evCall (cxX Tryz.prog bad [] [] [(67, pureFn [p0, p7]), (166, isFn 320)]) 1000 60 31 m43.args m43.h) m43.v m43.h' = true := by kernel_rfl
theorem m43_ok {σ : Nat → Int} {W0 : World} : MemoOk Tryz.prog 4095 σ W0 31 m43 := memo_ok fit (Known2.nil σ) (FnsOk.cons (pure_fn_ok (all_cons (p0_ok) (all_cons (p7_ok) (all_nil)))) (FnsOk.cons (ext_is) (FnsOk.nil))) m43_run
theorem run12 : isTrue (evCall (cxX Tryz.prog bad [((-9223372036854775808), 9223372036854775807), (1, 1)] [(true, .var 1, .lit 0, false), (true, .var 1, .lit 1, true), (true, .var 1, .lit 2, false), (true, .var 1, .lit 3, false)] ((27, numExtE [(0, 4, .lit 2)]) :: (31, frameFn [m34, m41, m42, m43]) :: q1)) 1000 60 6 [.int .i64 (.var 0), .int .i64 (.var 1)] (sentH 320 12 errTab)) = true := by kernel_rfl
theorem case12 {σ : Nat → Int} {W : World} (hL : laidMetH Tryz.prog laidErrs W) (hk : Known2 σ [((-9223372036854775808), 9223372036854775807), (1, 1)] [(true, .var 1, .lit 0, false), (true, .var 1, .lit 1, true), (true, .var 1, .lit 2, false), (true, .var 1, .lit 3, false)]) (hT : TabOk Tryz.prog bad 27 σ [(0, 4, .lit 2)]) {xs : Array Value} (hv : ∀ ρ, VRs σ ρ [.int .i64 (.var 0), .int .i64 (.var 1)] xs.toList) : Calls Tryz.prog 6 xs W fun e w' => e = .returned (.bool true) ∧ Below W.heap.size W w' := by
  obtain ⟨ads, h1, h2, h3⟩ := errs_sents hL
  exact law_case_x fit h1 h2 h3 errs_all errs_lt (by kernel_rfl) hk (FnsOk.cons (hT.ok fit) (FnsOk.cons (frame_fn_ok (all_cons (m34_ok) (all_cons (m41_ok hk) (all_cons (m42_ok) (all_cons (m43_ok) (all_nil)))))) (q1_ok))) hv ⟨_, Tryz.func6, rfl⟩ run12
noncomputable def h66 : H := hUpd h48 715 [] [(714, .cells 1 ([[I 2], [I 0]]) false)] [(71, 0, [.slice 714 0 2 2 1 false])]
noncomputable def m44 : Memo := ⟨[.ptr 72 0, I 0, .int .i64 (.var 1), .agg [I 0, I 0, I 0, I 0, U 0], .agg [U 0, U 0, U 0, U 0, I 0, I 0, I 0, I 0, U 0, I 0, I 0, I 0, I 0, U 0, I 0, I 0, I 0, I 0, U 0]], h50, .tuple [.agg [I 0, IZ (-1), U 1, U 0, U 0, U 0, I 0, I 0, I 0, I 0, U 0, I 0, I 0, I 0, I 0, U 0, I 0, I 0, I 0, I 0, U 0], .inil], h66⟩
theorem m44_run : ranTo (evCall (cxX Tryz.prog bad [((-9223372036854775808), 9223372036854775807), (2, 2)] [(true, .var 1, .lit 0, false), (true, .var 1, .lit 1, false), (true, .var 1, .lit 2, true), (true, .var 1, .lit 3, false)] q0) 1000 60 31 m44.args m44.h) m44.v m44.h' = true := by kernel_rfl
theorem m44_ok {σ : Nat → Int} {W0 : World} (hk : Known2 σ [((-9223372036854775808), 9223372036854775807), (2, 2)] [(true, .var 1, .lit 0, false), (true, .var 1, .lit 1, false), (true, .var 1, .lit 2, true), (true, .var 1, .lit 3, false)]) : MemoOk Tryz.prog 4095 σ W0 31 m44 := memo_ok fit hk (q0_ok) m44_run
noncomputable def h67 : H := hUpd h66 716 [] [] []
noncomputable def h68 : H := hUpd h66 725 [] [] []
noncomputable def m45 : Memo := ⟨[.ptr 72 0, I 5, I 0, .agg [I 0, I 0, I 0, I 0, U 0], .agg [U 0, U 0, U 0, U 0, I 0, I 0, I 0, I 0, U 0, I 0, I 0, I 0, I 0, U 0, I 0, I 0, I 0, I 0, U 0]], h67, .tuple [.agg [I 0, I 0, U 0, U 0, U 0, U 0, I 0, I 0, I 0, I 0, U 0, I 0, I 0, I 0, I 0, U 0, I 0, I 0, I 0, I 0, U 0], .iface 320 (.ptr 16 0)], h68⟩
theorem m45_run : ranTo (evCall (cxX Tryz.prog bad [] [] [(166, isFn 320)]) 1000 60 31 m45.args m45.h) m45.v m45.h' = true := by kernel_rfl
theorem m45_ok {σ : Nat → Int} {W0 : World} : MemoOk Tryz.prog 4095 σ W0 31 m45 := memo_ok fit (Known2.nil σ) (FnsOk.cons (ext_is) (FnsOk.nil)) m45_run
noncomputable def h69 : H := hUpc h66 790 [] [] [] [(38, 3, 9, I 3)]
noncomputable def h70 : H := hUpc h66 923 [] [] [] [(38, 3, 8, U 4294967295), (38, 3, 9, I 4)]
noncomputable def m46 : Memo := ⟨[.ptr 72 0, I 3, I 0, .agg [I 5, I 3, I 0, I 0, U 0], .agg [U 0, U 0, U 0, U 0, I 0, I 0, I 0, I 0, U 0, I 0, I 0, I 0, I 0, U 0, I 0, I 0, I 0, I 0, U 0]], h69, .tuple [.agg [I 2, I 3, U 0, U 0, U 0, U 0, I 0, I 0, I 0, I 0, U 0, I 0, I 0, I 0, I 0, U 0, I 0, I 0, I 0, I 0, U 0], .inil], h70⟩
theorem m46_run : ranTo (evCall (cxX Tryz.prog bad [] [] [(67, pureFn [p0, p7]), (166, isFn 320)]) 1000 60 31 m46.args m46.h) m46.v m46.h' = true := by kernel_rfl
theorem m46_ok {σ : Nat → Int} {W0 : World} : MemoOk Tryz.prog 4095 σ W0 31 m46 := memo_ok fit (Known2.nil σ) (FnsOk.cons (pure_fn_ok (all_cons (p0_ok) (all_cons (p7_ok) (all_nil)))) (FnsOk.cons (ext_is) (FnsOk.nil))) m46_run
theorem run13 : isTrue (evCall (cxX Tryz.prog bad [((-9223372036854775808), 9223372036854775807), (2, 2)] [(true, .var 1, .lit 0, false), (true, .var 1, .lit 1, false), (true, .var 1, .lit 2, true), (true, .var 1, .lit 3, false)] ((27, numExtE [(0, 4, .lit 2)]) :: (31, frameFn [m34, m44, m45, m46]) :: q1)) 1000 60 6 [.int .i64 (.var 0), .int .i64 (.var 1)] (sentH 320 12 errTab)) = true := by kernel_rfl
theorem case13 {σ : Nat → Int} {W : World} (hL : laidMetH Tryz.prog laidErrs W) (hk : Known2 σ [((-9223372036854775808), 9223372036854775807), (2, 2)] [(true, .var 1, .lit 0, false), (true, .var 1, .lit 1, false), (true, .var 1, .lit 2, true), (true, .var 1, .lit 3, false)]) (hT : TabOk Tryz.prog bad 27 σ [(0, 4, .lit 2)]) {xs : Array Value} (hv : ∀ ρ, VRs σ ρ [.int .i64 (.var 0), .int .i64 (.var 1)] xs.toList) : Calls Tryz.prog 6 xs W fun e w' => e = .returned (.bool true) ∧ Below W.heap.size W w' := by
  obtain ⟨ads, h1, h2, h3⟩ := errs_sents hL
  exact law_case_x fit h1 h2 h3 errs_all errs_lt (by kernel_rfl) hk (FnsOk.cons (hT.ok fit) (FnsOk.cons (frame_fn_ok (all_cons (m34_ok) (all_cons (m44_ok hk) (all_cons (m45_ok) (all_cons (m46_ok) (all_nil)))))) (q1_ok))) hv ⟨_, Tryz.func6, rfl⟩ run13
noncomputable def m47 : Memo := ⟨[.ptr 72 0, I 0, .int .i64 (.var 1), .agg [I 0, I 0, I 0, I 0, U 0], .agg [U 0, U 0, U 0, U 0, I 0, I 0, I 0, I 0, U 0, I 0, I 0, I 0, I 0, U 0, I 0, I 0, I 0, I 0, U 0]], h50, .tuple [.agg [I 0, I 0, U 0, U 0, U 0, U 0, I 0, I 0, I 0, I 0, U 0, I 0, I 0, I 0, I 0, U 0, I 0, I 0, I 0, I 0, U 0], .iface 320 (.ptr 14 0)], h51⟩
theorem m47_run : ranTo (evCall (cxX Tryz.prog bad [((-9223372036854775808), 9223372036854775807), (3, 9223372036854775807)] [] [(166, isFn 320)]) 1000 60 31 m47.args m47.h) m47.v m47.h' = true := by kernel_rfl
theorem m47_ok {σ : Nat → Int} {W0 : World} (hk : Known2 σ [((-9223372036854775808), 9223372036854775807), (3, 9223372036854775807)] []) : MemoOk Tryz.prog 4095 σ W0 31 m47 := memo_ok fit hk (FnsOk.cons (ext_is) (FnsOk.nil)) m47_run
theorem run14 : isTrue (evCall (cxX Tryz.prog bad [((-9223372036854775808), 9223372036854775807), (3, 9223372036854775807)] [] ((27, numExtE [(0, 4, .lit 2)]) :: (31, frameFn [m34, m47, m36, m37]) :: q1)) 1000 60 6 [.int .i64 (.var 0), .int .i64 (.var 1)] (sentH 320 12 errTab)) = true := by kernel_rfl
theorem case14 {σ : Nat → Int} {W : World} (hL : laidMetH Tryz.prog laidErrs W) (hk : Known2 σ [((-9223372036854775808), 9223372036854775807), (3, 9223372036854775807)] []) (hT : TabOk Tryz.prog bad 27 σ [(0, 4, .lit 2)]) {xs : Array Value} (hv : ∀ ρ, VRs σ ρ [.int .i64 (.var 0), .int .i64 (.var 1)] xs.toList) : Calls Tryz.prog 6 xs W fun e w' => e = .returned (.bool true) ∧ Below W.heap.size W w' := by
  obtain ⟨ads, h1, h2, h3⟩ := errs_sents hL
  exact law_case_x fit h1 h2 h3 errs_all errs_lt (by kernel_rfl) hk (FnsOk.cons (hT.ok fit) (FnsOk.cons (frame_fn_ok (all_cons (m34_ok) (all_cons (m47_ok hk) (all_cons (m36_ok) (all_cons (m37_ok) (all_nil)))))) (q1_ok))) hv ⟨_, Tryz.func6, rfl⟩ run14
noncomputable def h71 : H := hUpc h48 421 [] [] [] [(38, 2, 9, I 4)]
noncomputable def h72 : H := hUpd h71 430 [] [] []
noncomputable def m48 : Memo := ⟨[.ptr 72 0, I 2, I 2, .agg [I 14, I 0, I 0, I 0, U 0], .agg [U 0, U 0, U 0, U 0, I 0, I 0, I 0, I 0, U 0, I 0, I 0, I 0, I 0, U 0, I 0, I 0, I 0, I 0, U 0]], h71, .tuple [.agg [I 0, I 0, U 0, U 0, U 0, U 0, I 0, I 0, I 0, I 0, U 0, I 0, I 0, I 0, I 0, U 0, I 0, I 0, I 0, I 0, U 0], .iface 320 (.ptr 20 0)], h72⟩
theorem m48_run : ranTo (evCall (cxX Tryz.prog bad [] [] [(166, isFn 320)]) 1000 60 31 m48.args m48.h) m48.v m48.h' = true := by kernel_rfl
theorem m48_ok {σ : Nat → Int} {W0 : World} : MemoOk Tryz.prog 4095 σ W0 31 m48 := memo_ok fit (Known2.nil σ) (FnsOk.cons (ext_is) (FnsOk.nil)) m48_run
noncomputable def h73 : H := hUpd h71 431 [] [] []
noncomputable def h74 : H := hUpd h71 440 [] [] []
noncomputable def m49 : Memo := ⟨[.ptr 72 0, I 0, .int .i64 (.var 1), .agg [I 0, I 0, I 0, I 0, U 0], .agg [U 0, U 0, U 0, U 0, I 0, I 0, I 0, I 0, U 0, I 0, I 0, I 0, I 0, U 0, I 0, I 0, I 0, I 0, U 0]], h73, .tuple [.agg [I 0, I 0, U 0, U 0, U 0, U 0, I 0, I 0, I 0, I 0, U 0, I 0, I 0, I 0, I 0, U 0, I 0, I 0, I 0, I 0, U 0], .iface 320 (.ptr 14 0)], h74⟩
theorem m49_run : ranTo (evCall (cxX Tryz.prog bad [((-9223372036854775808), 9223372036854775807), ((-9223372036854775808), (-1))] [] [(166, isFn 320)]) 1000 60 31 m49.args m49.h) m49.v m49.h' = true := by kernel_rfl
theorem m49_ok {σ : Nat → Int} {W0 : World} (hk : Known2 σ [((-9223372036854775808), 9223372036854775807), ((-9223372036854775808), (-1))] []) : MemoOk Tryz.prog 4095 σ W0 31 m49 := memo_ok fit hk (FnsOk.cons (ext_is) (FnsOk.nil)) m49_run
noncomputable def h75 : H := hUpd h71 441 [] [] []
noncomputable def h76 : H := hUpd h71 450 [] [] []
noncomputable def m50 : Memo := ⟨[.ptr 72 0, I 5, I 0, .agg [I 0, I 0, I 0, I 0, U 0], .agg [U 0, U 0, U 0, U 0, I 0, I 0, I 0, I 0, U 0, I 0, I 0, I 0, I 0, U 0, I 0, I 0, I 0, I 0, U 0]], h75, .tuple [.agg [I 0, I 0, U 0, U 0, U 0, U 0, I 0, I 0, I 0, I 0, U 0, I 0, I 0, I 0, I 0, U 0, I 0, I 0, I 0, I 0, U 0], .iface 320 (.ptr 16 0)], h76⟩
theorem m50_run : ranTo (evCall (cxX Tryz.prog bad [] [] [(166, isFn 320)]) 1000 60 31 m50.args m50.h) m50.v m50.h' = true := by kernel_rfl
theorem m50_ok {σ : Nat → Int} {W0 : World} : MemoOk Tryz.prog 4095 σ W0 31 m50 := memo_ok fit (Known2.nil σ) (FnsOk.cons (ext_is) (FnsOk.nil)) m50_run
noncomputable def h77 : H := hUpc h71 539 [] [] [] [(38, 3, 9, I 3)]
noncomputable def h78 : H := hUpc h47 672 [576] [] [(71, 0, [.snil])] [(38, 2, 9, I 4)]
noncomputable def m51 : Memo := ⟨[.ptr 72 0, I 3, I 0, .agg [I 5, I 3, I 0, I 0, U 0], .agg [U 0, U 0, U 0, U 0, I 0, I 0, I 0, I 0, U 0, I 0, I 0, I 0, I 0, U 0, I 0, I 0, I 0, I 0, U 0]], h77, .tuple [.agg [I 2, I 3, U 0, U 0, U 0, U 0, I 0, I 0, I 0, I 0, U 0, I 0, I 0, I 0, I 0, U 0, I 0, I 0, I 0, I 0, U 0], .inil], h78⟩
theorem m51_run : ranTo (evCall (cxX Tryz.prog bad [] [] [(67, pureFn [p0, p7]), (166, isFn 320)]) 1000 60 31 m51.args m51.h) m51.v m51.h' = true := by kernel_rfl
theorem m51_ok {σ : Nat → Int} {W0 : World} : MemoOk Tryz.prog 4095 σ W0 31 m51 := memo_ok fit (Known2.nil σ) (FnsOk.cons (pure_fn_ok (all_cons (p0_ok) (all_cons (p7_ok) (all_nil)))) (FnsOk.cons (ext_is) (FnsOk.nil))) m51_run
theorem run15 : isTrue (evCall (cxX Tryz.prog bad [((-9223372036854775808), 9223372036854775807), ((-9223372036854775808), (-1))] [] ((27, numExtE [(0, 4, .lit 3)]) :: (31, frameFn [m48, m49, m50, m51]) :: q1)) 1000 60 6 [.int .i64 (.var 0), .int .i64 (.var 1)] (sentH 320 12 errTab)) = true := by kernel_rfl
theorem case15 {σ : Nat → Int} {W : World} (hL : laidMetH Tryz.prog laidErrs W) (hk : Known2 σ [((-9223372036854775808), 9223372036854775807), ((-9223372036854775808), (-1))] []) (hT : TabOk Tryz.prog bad 27 σ [(0, 4, .lit 3)]) {xs : Array Value} (hv : ∀ ρ, VRs σ ρ [.int .i64 (.var 0), .int .i64 (.var 1)] xs.toList) : Calls Tryz.prog 6 xs W fun e w' => e = .returned (.bool true) ∧ Below W.heap.size W w' := by
  obtain ⟨ads, h1, h2, h3⟩ := errs_sents hL
  exact law_case_x fit h1 h2 h3 errs_all errs_lt (by kernel_rfl) hk (FnsOk.cons (hT.ok fit) (FnsOk.cons (frame_fn_ok (all_cons (m48_ok) (all_cons (m49_ok hk) (all_cons (m50_ok) (all_cons (m51_ok) (all_nil)))))) (q1_ok))) hv ⟨_, Tryz.func6, rfl⟩ run15
noncomputable def h79 : H := hUpc h71 653 [] [(652, .cells 1 ([[I 0]]) false)] [(71, 0, [.slice 652 0 1 1 1 false])] [(38, 0, 0, U 1)]
noncomputable def m52 : Memo := ⟨[.ptr 72 0, I 0, .int .i64 (.var 1), .agg [I 0, I 0, I 0, I 0, U 0], .agg [U 0, U 0, U 0, U 0, I 0, I 0, I 0, I 0, U 0, I 0, I 0, I 0, I 0, U 0, I 0, I 0, I 0, I 0, U 0]], h73, .tuple [.agg [I 0, IZ (-1), U 1, U 0, U 0, U 0, I 0, I 0, I 0, I 0, U 0, I 0, I 0, I 0, I 0, U 0, I 0, I 0, I 0, I 0, U 0], .inil], h79⟩
theorem m52_run : ranTo (evCall (cxX Tryz.prog bad [((-9223372036854775808), 9223372036854775807), (0, 0)] [(true, .var 1, .lit 0, true), (true, .var 1, .lit 1, false), (true, .var 1, .lit 2, false), (true, .var 1, .lit 3, false)] q0) 1000 60 31 m52.args m52.h) m52.v m52.h' = true := by kernel_rfl
theorem m52_ok {σ : Nat → Int} {W0 : World} (hk : Known2 σ [((-9223372036854775808), 9223372036854775807), (0, 0)] [(true, .var 1, .lit 0, true), (true, .var 1, .lit 1, false), (true, .var 1, .lit 2, false), (true, .var 1, .lit 3, false)]) : MemoOk Tryz.prog 4095 σ W0 31 m52 := memo_ok fit hk (q0_ok) m52_run
noncomputable def h80 : H := hUpd h79 654 [] [] []
noncomputable def h81 : H := hUpd h79 663 [] [] []
noncomputable def m53 : Memo := ⟨[.ptr 72 0, I 5, I 0, .agg [I 0, I 0, I 0, I 0, U 0], .agg [U 0, U 0, U 0, U 0, I 0, I 0, I 0, I 0, U 0, I 0, I 0, I 0, I 0, U 0, I 0, I 0, I 0, I 0, U 0]], h80, .tuple [.agg [I 0, I 0, U 0, U 0, U 0, U 0, I 0, I 0, I 0, I 0, U 0, I 0, I 0, I 0, I 0, U 0, I 0, I 0, I 0, I 0, U 0], .iface 320 (.ptr 16 0)], h81⟩
theorem m53_run : ranTo (evCall (cxX Tryz.prog bad [] [] [(166, isFn 320)]) 1000 60 31 m53.args m53.h) m53.v m53.h' = true := by kernel_rfl
theorem m53_ok {σ : Nat → Int} {W0 : World} : MemoOk Tryz.prog 4095 σ W0 31 m53 := memo_ok fit (Known2.nil σ) (FnsOk.cons (ext_is) (FnsOk.nil)) m53_run
noncomputable def h82 : H := hUpc h79 740 [] [] [] [(38, 3, 9, I 3)]
noncomputable def h83 : H := hUpc h79 873 [] [] [] [(38, 3, 8, U 4294967295), (38, 3, 9, I 4)]
noncomputable def m54 : Memo := ⟨[.ptr 72 0, I 3, I 0, .agg [I 5, I 3, I 0, I 0, U 0], .agg [U 0, U 0, U 0, U 0, I 0, I 0, I 0, I 0, U 0, I 0, I 0, I 0, I 0, U 0, I 0, I 0, I 0, I 0, U 0]], h82, .tuple [.agg [I 2, I 3, U 0, U 0, U 0, U 0, I 0, I 0, I 0, I 0, U 0, I 0, I 0, I 0, I 0, U 0, I 0, I 0, I 0, I 0, U 0], .inil], h83⟩
theorem m54_run : ranTo (evCall (cxX Tryz.prog bad [] [] [(67, pureFn [p0, p7]), (166, isFn 320)]) 1000 60 31 m54.args m54.h) m54.v m54.h' = true := by kernel_rfl
theorem m54_ok {σ : Nat → Int} {W0 : World} : MemoOk Tryz.prog 4095 σ W0 31 m54 := memo_ok fit (Known2.nil σ) (FnsOk.cons (pure_fn_ok (all_cons (p0_ok) (all_cons (p7_ok) (all_nil)))) (FnsOk.cons (ext_is) (FnsOk.nil))) m54_run
theorem run16 : isTrue (evCall (cxX Tryz.prog bad [((-9223372036854775808), 9223372036854775807), (0, 0)] [(true, .var 1, .lit 0, true), (true, .var 1, .lit 1, false), (true, .var 1, .lit 2, false), (true, .var 1, .lit 3, false)] ((27, numExtE [(0, 4, .lit 3)]) :: (31, frameFn [m48, m52, m53, m54]) :: q1)) 1000 60 6 [.int .i64 (.var 0), .int .i64 (.var 1)] (sentH 320 12 errTab)) = true := by kernel_rfl
theorem case16 {σ : Nat → Int} {W : World} (hL : laidMetH Tryz.prog laidErrs W) (hk : Known2 σ [((-9223372036854775808), 9223372036854775807), (0, 0)] [(true, .var 1, .lit 0, true), (true, .var 1, .lit 1, false), (true, .var 1, .lit 2, false), (true, .var 1, .lit 3, false)]) (hT : TabOk Tryz.prog bad 27 σ [(0, 4, .lit 3)]) {xs : Array Value} (hv : ∀ ρ, VRs σ ρ [.int .i64 (.var 0), .int .i64 (.var 1)] xs.toList) : Calls Tryz.prog 6 xs W fun e w' => e = .returned (.bool true) ∧ Below W.heap.size W w' := by
  obtain ⟨ads, h1, h2, h3⟩ := errs_sents hL
  exact law_case_x fit h1 h2 h3 errs_all errs_lt (by kernel_rfl) hk (FnsOk.cons (hT.ok fit) (FnsOk.cons (frame_fn_ok (all_cons (m48_ok) (all_cons (m52_ok hk) (all_cons (m53_ok) (all_cons (m54_ok) (all_nil)))))) (q1_ok))) hv ⟨_, Tryz.func6, rfl⟩ run16
noncomputable def h84 : H := hUpc h71 625 [] [] [] [(38, 0, 9, I 1)]
noncomputable def m55 : Memo := ⟨[.ptr 72 0, I 0, .int .i64 (.var 1), .agg [I 0, I 0, I 0, I 0, U 0], .agg [U 0, U 0, U 0, U 0, I 0, I 0, I 0, I 0, U 0, I 0, I 0, I 0, I 0, U 0, I 0, I 0, I 0, I 0, U 0]], h73, .tuple [.agg [I 0, IZ (-1), U 1, U 0, U 0, U 0, I 0, I 0, I 0, I 0, U 0, I 0, I 0, I 0, I 0, U 0, I 0, I 0, I 0, I 0, U 0], .inil], h84⟩
theorem m55_run : ranTo (evCall (cxX Tryz.prog bad [((-9223372036854775808), 9223372036854775807), (1, 1)] [(true, .var 1, .lit 0, false), (true, .var 1, .lit 1, true), (true, .var 1, .lit 2, false), (true, .var 1, .lit 3, false)] q0) 1000 60 31 m55.args m55.h) m55.v m55.h' = true := by kernel_rfl
theorem m55_ok {σ : Nat → Int} {W0 : World} (hk : Known2 σ [((-9223372036854775808), 9223372036854775807), (1, 1)] [(true, .var 1, .lit 0, false), (true, .var 1, .lit 1, true), (true, .var 1, .lit 2, false), (true, .var 1, .lit 3, false)]) : MemoOk Tryz.prog 4095 σ W0 31 m55 := memo_ok fit hk (q0_ok) m55_run
noncomputable def h85 : H := hUpd h84 626 [] [] []
noncomputable def h86 : H := hUpd h84 635 [] [] []
noncomputable def m56 : Memo := ⟨[.ptr 72 0, I 5, I 0, .agg [I 0, I 0, I 0, I 0, U 0], .agg [U 0, U 0, U 0, U 0, I 0, I 0, I 0, I 0, U 0, I 0, I 0, I 0, I 0, U 0, I 0, I 0, I 0, I 0, U 0]], h85, .tuple [.agg [I 0, I 0, U 0, U 0, U 0, U 0, I 0, I 0, I 0, I 0, U 0, I 0, I 0, I 0, I 0, U 0, I 0, I 0, I 0, I 0, U 0], .iface 320 (.ptr 16 0)], h86⟩
theorem m56_run : ranTo (evCall (cxX Tryz.prog bad [] [] [(166, isFn 320)]) 1000 60 31 m56.args m56.h) m56.v m56.h' = true := by kernel_rfl
theorem m56_ok {σ : Nat → Int} {W0 : World} : MemoOk Tryz.prog 4095 σ W0 31 m56 := memo_ok fit (Known2.nil σ) (FnsOk.cons (ext_is) (FnsOk.nil)) m56_run
noncomputable def h87 : H := hUpc h77 712 [] [] [] [(38, 0, 9, I 1)]
noncomputable def h88 : H := hUpc h78 845 [] [] [] [(38, 0, 9, I 1)]
noncomputable def m57 : Memo := ⟨[.ptr 72 0, I 3, I 0, .agg [I 5, I 3, I 0, I 0, U 0], .agg [U 0, U 0, U 0, U 0, I 0, I 0, I 0, I 0, U 0, I 0, I 0, I 0, I 0, U 0, I 0, I 0, I 0, I 0, U 0]], h87, .tuple [.agg [I 2, I 3, U 0, U 0, U 0, U 0, I 0, I 0, I 0, I 0, U 0, I 0, I 0, I 0, I 0, U 0, I 0, I 0, I 0, I 0, U 0], .inil], h88⟩
theorem m57_run : ranTo (evCall (cxX Tryz.prog bad [] [] [(67, pureFn [p0, p7]), (166, isFn 320)]) 1000 60 31 m57.args m57.h) m57.v m57.h' = true := by kernel_rfl
theorem m57_ok {σ : Nat → Int} {W0 : World} : MemoOk Tryz.prog 4095 σ W0 31 m57 := memo_ok fit (Known2.nil σ) (FnsOk.cons (pure_fn_ok (all_cons (p0_ok) (all_cons (p7_ok) (all_nil)))) (FnsOk.cons (ext_is) (FnsOk.nil))) m57_run
theorem run17 : isTrue (evCall (cxX Tryz.prog bad [((-9223372036854775808), 9223372036854775807), (1, 1)] [(true, .var 1, .lit 0, false), (true, .var 1, .lit 1, true), (true, .var 1, .lit 2, false), (true, .var 1, .lit 3, false)] ((27, numExtE [(0, 4, .lit 3)]) :: (31, frameFn [m48, m55, m56, m57]) :: q1)) 1000 60 6 [.int .i64 (.var 0), .int .i64 (.var 1)] (sentH 320 12 errTab)) = true := by kernel_rfl
theorem case17 {σ : Nat → Int} {W : World} (hL : laidMetH Tryz.prog laidErrs W) (hk : Known2 σ [((-9223372036854775808), 9223372036854775807), (1, 1)] [(true, .var 1, .lit 0, false), (true, .var 1, .lit 1, true), (true, .var 1, .lit 2, false), (true, .var 1, .lit 3, false)]) (hT : TabOk Tryz.prog bad 27 σ [(0, 4, .lit 3)]) {xs : Array Value} (hv : ∀ ρ, VRs σ ρ [.int .i64 (.var 0), .int .i64 (.var 1)] xs.toList) : Calls Tryz.prog 6 xs W fun e w' => e = .returned (.bool true) ∧ Below W.heap.size W w' := by
  obtain ⟨ads, h1, h2, h3⟩ := errs_sents hL
  exact law_case_x fit h1 h2 h3 errs_all errs_lt (by kernel_rfl) hk (FnsOk.cons (hT.ok fit) (FnsOk.cons (frame_fn_ok (all_cons (m48_ok) (all_cons (m55_ok hk) (all_cons (m56_ok) (all_cons (m57_ok) (all_nil)))))) (q1_ok))) hv ⟨_, Tryz.func6, rfl⟩ run17
noncomputable def h89 : H := hUpd h71 577 [] [(576, .cells 1 ([[I 0]]) false)] [(71, 0, [.slice 576 0 1 1 1 false])]
noncomputable def m58 : Memo := ⟨[.ptr 72 0, I 0, .int .i64 (.var 1), .agg [I 0, I 0, I 0, I 0, U 0], .agg [U 0, U 0, U 0, U 0, I 0, I 0, I 0, I 0, U 0, I 0, I 0, I 0, I 0, U 0, I 0, I 0, I 0, I 0, U 0]], h73, .tuple [.agg [I 0, IZ (-1), U 1, U 0, U 0, U 0, I 0, I 0, I 0, I 0, U 0, I 0, I 0, I 0, I 0, U 0, I 0, I 0, I 0, I 0, U 0], .inil], h89⟩
theorem m58_run : ranTo (evCall (cxX Tryz.prog bad [((-9223372036854775808), 9223372036854775807), (2, 2)] [(true, .var 1, .lit 0, false), (true, .var 1, .lit 1, false), (true, .var 1, .lit 2, true), (true, .var 1, .lit 3, false)] q0) 1000 60 31 m58.args m58.h) m58.v m58.h' = true := by kernel_rfl
theorem m58_ok {σ : Nat → Int} {W0 : World} (hk : Known2 σ [((-9223372036854775808), 9223372036854775807), (2, 2)] [(true, .var 1, .lit 0, false), (true, .var 1, .lit 1, false), (true, .var 1, .lit 2, true), (true, .var 1, .lit 3, false)]) : MemoOk Tryz.prog 4095 σ W0 31 m58 := memo_ok fit hk (q0_ok) m58_run
noncomputable def h90 : H := hUpd h89 578 [] [] []
noncomputable def h91 : H := hUpd h89 587 [] [] []
noncomputable def m59 : Memo := ⟨[.ptr 72 0, I 5, I 0, .agg [I 0, I 0, I 0, I 0, U 0], .agg [U 0, U 0, U 0, U 0, I 0, I 0, I 0, I 0, U 0, I 0, I 0, I 0, I 0, U 0, I 0, I 0, I 0, I 0, U 0]], h90, .tuple [.agg [I 0, I 0, U 0, U 0, U 0, U 0, I 0, I 0, I 0, I 0, U 0, I 0, I 0, I 0, I 0, U 0, I 0, I 0, I 0, I 0, U 0], .iface 320 (.ptr 16 0)], h91⟩
theorem m59_run : ranTo (evCall (cxX Tryz.prog bad [] [] [(166, isFn 320)]) 1000 60 31 m59.args m59.h) m59.v m59.h' = true := by kernel_rfl
theorem m59_ok {σ : Nat → Int} {W0 : World} : MemoOk Tryz.prog 4095 σ W0 31 m59 := memo_ok fit (Known2.nil σ) (FnsOk.cons (ext_is) (FnsOk.nil)) m59_run
noncomputable def h92 : H := hUpc h89 664 [] [] [] [(38, 3, 9, I 3)]
noncomputable def h93 : H := hUpc h89 797 [] [] [] [(38, 3, 8, U 4294967295), (38, 3, 9, I 4)]
noncomputable def m60 : Memo := ⟨[.ptr 72 0, I 3, I 0, .agg [I 5, I 3, I 0, I 0, U 0], .agg [U 0, U 0, U 0, U 0, I 0, I 0, I 0, I 0, U 0, I 0, I 0, I 0, I 0, U 0, I 0, I 0, I 0, I 0, U 0]], h92, .tuple [.agg [I 2, I 3, U 0, U 0, U 0, U 0, I 0, I 0, I 0, I 0, U 0, I 0, I 0, I 0, I 0, U 0, I 0, I 0, I 0, I 0, U 0], .inil], h93⟩
theorem m60_run : ranTo (evCall (cxX Tryz.prog bad [] [] [(67, pureFn [p0, p7]), (166, isFn 320)]) 1000 60 31 m60.args m60.h) m60.v m60.h' = true := by kernel_rfl
theorem m60_ok {σ : Nat → Int} {W0 : World} : MemoOk Tryz.prog 4095 σ W0 31 m60 := memo_ok fit (Known2.nil σ) (FnsOk.cons (pure_fn_ok (all_cons (p0_ok) (all_cons (p7_ok) (all_nil)))) (FnsOk.cons (ext_is) (FnsOk.nil))) m60_run
theorem run18 : isTrue (evCall (cxX Tryz.prog bad [((-9223372036854775808), 9223372036854775807), (2, 2)] [(true, .var 1, .lit 0, false), (true, .var 1, .lit 1, false), (true, .var 1, .lit 2, true), (true, .var 1, .lit 3, false)] ((27, numExtE [(0, 4, .lit 3)]) :: (31, frameFn [m48, m58, m59, m60]) :: q1)) 1000 60 6 [.int .i64 (.var 0), .int .i64 (.var 1)] (sentH 320 12 errTab)) = true := by kernel_rfl
theorem case18 {σ : Nat → Int} {W : World} (hL : laidMetH Tryz.prog laidErrs W) (hk : Known2 σ [((-9223372036854775808), 9223372036854775807), (2, 2)] [(true, .var 1, .lit 0, false), (true, .var 1, .lit 1, false), (true, .var 1, .lit 2, true), (true, .var 1, .lit 3, false)]) (hT : TabOk Tryz.prog bad 27 σ [(0, 4, .lit 3)]) {xs : Array Value} (hv : ∀ ρ, VRs σ ρ [.int .i64 (.var 0), .int .i64 (.var 1)] xs.toList) : Calls Tryz.prog 6 xs W fun e w' => e = .returned (.bool true) ∧ Below W.heap.size W w' := by
  obtain ⟨ads, h1, h2, h3⟩ := errs_sents hL
  exact law_case_x fit h1 h2 h3 errs_all errs_lt (by kernel_rfl) hk (FnsOk.cons (hT.ok fit) (FnsOk.cons (frame_fn_ok (all_cons (m48_ok) (all_cons (m58_ok hk) (all_cons (m59_ok) (all_cons (m60_ok) (all_nil)))))) (q1_ok))) hv ⟨_, Tryz.func6, rfl⟩ run18
noncomputable def m61 : Memo := ⟨[.ptr 72 0, I 0, .int .i64 (.var 1), .agg [I 0, I 0, I 0, I 0, U 0], .agg [U 0, U 0, U 0, U 0, I 0, I 0, I 0, I 0, U 0, I 0, I 0, I 0, I 0, U 0, I 0, I 0, I 0, I 0, U 0]], h73, .tuple [.agg [I 0, I 0, U 0, U 0, U 0, U 0, I 0, I 0, I 0, I 0, U 0, I 0, I 0, I 0, I 0, U 0, I 0, I 0, I 0, I 0, U 0], .iface 320 (.ptr 14 0)], h74⟩
theorem m61_run : ranTo (evCall (cxX Tryz.prog bad [((-9223372036854775808), 9223372036854775807), (3, 9223372036854775807)] [] [(166, isFn 320)]) 1000 60 31 m61.args m61.h) m61.v m61.h' = true := by kernel_rfl
theorem m61_ok {σ : Nat → Int} {W0 : World} (hk : Known2 σ [((-9223372036854775808), 9223372036854775807), (3, 9223372036854775807)] []) : MemoOk Tryz.prog 4095 σ W0 31 m61 := memo_ok fit hk (FnsOk.cons (ext_is) (FnsOk.nil)) m61_run
theorem run19 : isTrue (evCall (cxX Tryz.prog bad [((-9223372036854775808), 9223372036854775807), (3, 9223372036854775807)] [] ((27, numExtE [(0, 4, .lit 3)]) :: (31, frameFn [m48, m61, m50, m51]) :: q1)) 1000 60 6 [.int .i64 (.var 0), .int .i64 (.var 1)] (sentH 320 12 errTab)) = true := by kernel_rfl
theorem case19 {σ : Nat → Int} {W : World} (hL : laidMetH Tryz.prog laidErrs W) (hk : Known2 σ [((-9223372036854775808), 9223372036854775807), (3, 9223372036854775807)] []) (hT : TabOk Tryz.prog bad 27 σ [(0, 4, .lit 3)]) {xs : Array Value} (hv : ∀ ρ, VRs σ ρ [.int .i64 (.var 0), .int .i64 (.var 1)] xs.toList) : Calls Tryz.prog 6 xs W fun e w' => e = .returned (.bool true) ∧ Below W.heap.size W w' := by
  obtain ⟨ads, h1, h2, h3⟩ := errs_sents hL
  exact law_case_x fit h1 h2 h3 errs_all errs_lt (by kernel_rfl) hk (FnsOk.cons (hT.ok fit) (FnsOk.cons (frame_fn_ok (all_cons (m48_ok) (all_cons (m61_ok hk) (all_cons (m50_ok) (all_cons (m51_ok) (all_nil)))))) (q1_ok))) hv ⟨_, Tryz.func6, rfl⟩ run19
end Go.Proofs.YtalmhgaomgkdbabGreatDoor.gateStates
