/- objectFactories: calls that are run once, and the runs of the cases (part 0). -/
import Derived.Test.YtalmhgaomgkdbabGreatDoorEvOfF
set_option linter.unusedVariables false
set_option maxRecDepth 10000000
namespace Go.Proofs.YtalmhgaomgkdbabGreatDoor.objectFactories
open Tk
open Go.RowKit
noncomputable def h0 : H := sentH 320 12 errTab
noncomputable def p0 : Pur := ([.agg [I 0, I 0, I 0, I 0, U 0]], .inil, 1048576)
theorem p0_run : ranPure (evCall (cxX Tryz.prog bad [] [] [(166, isFn 320)]) 1000 60 67 p0.1 ⟨.lf, p0.2.2⟩) p0.2.1 = true := by kernel_rfl
theorem p0_ok {σ : Nat → Int} {W0 : World} (hL : L0 W0) : PureOk Tryz.prog 511 σ W0 67 p0 := pure_ok fit (Known2.nil σ) (FnsOk.cons (ext_is hL) (FnsOk.nil)) p0_run
noncomputable def q0 : Fns := [(67, pureFn [p0]), (166, isFn 320)]
theorem q0_ok {σ : Nat → Int} {W0 : World} (hL : L0 W0) : FnsOk Tryz.prog 511 σ W0 q0 := FnsOk.cons (pure_fn_ok (all_cons (p0_ok hL) (all_nil))) (FnsOk.cons (ext_is hL) (FnsOk.nil))
noncomputable def p1 : Pur := ([], bT, 262144)
theorem p1_run : ranPure (evCall (cxX Tryz.prog bad [] [] q0) 1000 60 7 p1.1 ⟨.lf, p1.2.2⟩) p1.2.1 = true := by kernel_rfl
theorem p1_ok {σ : Nat → Int} {W0 : World} (hL : L0 W0) : PureOk Tryz.prog 511 σ W0 7 p1 := pure_ok fit (Known2.nil σ) ((q0_ok hL)) p1_run
noncomputable def h1 : H := hUpd h0 173 [] [(62, .map [] 0),
  (46, .cells 1 ([[.snil]]) false),
  (30, .cells 2 ([[.ptr 25 0, .ptr 29 0]]) false),
  (54, .cells 1 ([[.ptr 37 0], [.ptr 40 0], [.ptr 43 0], [.ptr 46 0], [.ptr 49 0], [.ptr 52 0]]) false),
  (166, .cells 16 ([[.slice 93 0 12 12 4 false, .slice 117 0 12 12 4 false, .slice 129 0 6 6 4 false, .slice 145 0 8 8 4 false, .slice 157 0 6 6 4 false, .slice 165 0 4 4 4 false, .slice 167 0 12 12 80 true, .slice 168 0 12 12 32 true, .slice 169 0 6 6 108 true, .slice 170 0 8 8 2 true, .slice 171 0 6 6 3 true, .slice 172 0 4 4 31 true, .snil, .snil, .snil, I 0]]) false),
  (22, .cells 3 (rp 12 ([bF, I 0, bF]) ([])) false),
  (58, .cells 2 ([[.ptr 56 0, .slice 57 0 8 8 2 true]]) false),
  (170, .cells 2 (rp 8 ([I 0, I 0]) ([])) false),
  (26, .cells 3 (rp 12 ([bF, I 0, bF]) ([])) false),
  (66, .cells 31 (rp 4 ((bF) :: rp 4 (I 0) ((U 0) :: rp 4 (I 0) ((U 0) :: rp 4 (I 0) ((U 0) :: rp 4 (I 0) ((U 0) :: rp 4 (I 0) ((U 0) :: rp 4 (I 0) ([U 0]))))))) ([])) false),
  (34, .cells 1 ([[.slice 33 0 6 6 3 true]]) false),
  (60, .cells 1 ([[.slice 59 0 6 6 3 true]]) false),
  (172, .cells 31 (rp 4 ((bF) :: rp 4 (I 0) ((U 0) :: rp 4 (I 0) ((U 0) :: rp 4 (I 0) ((U 0) :: rp 4 (I 0) ((U 0) :: rp 4 (I 0) ((U 0) :: rp 4 (I 0) ([U 0]))))))) ([])) false),
  (28, .cells 32 (rp 12 (rp 32 (U 0) ([])) ([])) false),
  (52, .cells 1 ([[.snil]]) false),
  (68, .cells 1 ([[.snil]]) false),
  (36, .cells 3 ([[.ptr 34 0, .slice 35 0 6 6 107 true, .slice 54 0 6 6 1 false]]) false),
  (56, .cells 1 ([[.slice 55 0 8 8 3 true]]) false),
  (168, .cells 32 (rp 12 (rp 32 (U 0) ([])) ([])) false),
  (40, .cells 1 ([[.snil]]) false),
  (24, .cells 80 (rp 12 (rp 4 (I 0) ((U 0) :: rp 4 (I 0) ((U 0) :: rp 4 (I 0) ((U 0) :: rp 4 (I 0) ((U 0) :: rp 4 (I 0) ((U 0) :: rp 4 (I 0) ((U 0) :: rp 4 (I 0) ((U 0) :: rp 4 (I 0) ((U 0) :: rp 4 (I 0) ((U 0) :: rp 4 (I 0) ((U 0) :: rp 4 (I 0) ((U 0) :: rp 4 (I 0) ((U 0) :: rp 4 (I 0) ((U 0) :: rp 4 (I 0) ((U 0) :: rp 4 (I 0) ((U 0) :: rp 4 (I 0) ([U 0]))))))))))))))))) ([])) false),
  (64, .cells 3 (rp 4 ([bF, I 0, bF]) ([])) false),
  (32, .cells 3 ([[.ptr 30 0, I 16, .ptr 31 0]]) false),
  (157, .cells 4 (rp 6 ([bF, bF, I 0, IZ (-1)]) ([])) false),
  (93, .cells 4 (rp 12 ([bF, bF, I 0, IZ (-1)]) ([])) false),
  (61, .cells 3 (rp 6 ([I 0, I 0, I 0]) ([])) false),
  (29, .cells 2 ([[.ptr 27 0, .slice 28 0 12 12 32 true]]) false),
  (117, .cells 4 (rp 12 ([bF, bF, I 0, IZ (-1)]) ([])) false),
  (165, .cells 4 (rp 4 ([bF, bF, I 0, IZ (-1)]) ([])) false),
  (69, .cells 9 ([[.ptr 32 0, .ptr 36 0, .ptr 58 0, .ptr 63 0, .ptr 67 0, .ptr 68 0, .snil, .snil, I 0]]) false),
  (37, .cells 1 ([[.snil]]) false),
  (57, .cells 2 (rp 8 ([I 0, I 0]) ([])) false),
  (169, .cells 108 (rp 6 (rp 9 (U 0) (rp 6 (I 0) ((U 0) :: rp 4 (I 0) ((U 0) :: rp 4 (I 0) ((U 0) :: rp 4 (I 0) ((U 0) :: rp 4 (I 0) ((U 0) :: rp 4 (I 0) ((U 0) :: rp 4 (I 0) ((U 0) :: rp 4 (I 0) ((U 0) :: rp 4 (I 0) ((U 0) :: rp 4 (I 0) ((U 0) :: rp 4 (I 0) ((U 0) :: rp 4 (I 0) ((U 0) :: rp 4 (I 0) ((U 0) :: rp 4 (I 0) ((U 0) :: rp 4 (I 0) ((U 0) :: rp 4 (I 0) ((U 0) :: rp 4 (I 0) ((U 0) :: rp 4 (I 0) ((U 0) :: rp 4 (I 0) ([U 0, I 0, .snil]))))))))))))))))))))) ([])) false),
  (25, .cells 2 ([[.ptr 23 0, .slice 24 0 12 12 80 true]]) false),
  (145, .cells 4 (rp 8 ([bF, bF, I 0, IZ (-1)]) ([])) false),
  (49, .cells 1 ([[.snil]]) false),
  (129, .cells 4 (rp 6 ([bF, bF, I 0, IZ (-1)]) ([])) false),
  (65, .cells 1 ([[.slice 64 0 4 4 3 true]]) false),
  (33, .cells 3 (rp 6 ([bF, I 0, bF]) ([])) false),
  (59, .cells 3 (rp 6 ([bF, I 0, bF]) ([])) false),
  (171, .cells 3 (rp 6 ([I 0, I 0, I 0]) ([])) false),
  (43, .cells 1 ([[.snil]]) false),
  (27, .cells 1 ([[.slice 26 0 12 12 3 true]]) false),
  (67, .cells 2 ([[.ptr 65 0, .slice 66 0 4 4 31 true]]) false),
  (35, .cells 107 (rp 6 (rp 9 (U 0) (rp 6 (I 0) ((U 0) :: rp 4 (I 0) ((U 0) :: rp 4 (I 0) ((U 0) :: rp 4 (I 0) ((U 0) :: rp 4 (I 0) ((U 0) :: rp 4 (I 0) ((U 0) :: rp 4 (I 0) ((U 0) :: rp 4 (I 0) ((U 0) :: rp 4 (I 0) ((U 0) :: rp 4 (I 0) ((U 0) :: rp 4 (I 0) ((U 0) :: rp 4 (I 0) ((U 0) :: rp 4 (I 0) ((U 0) :: rp 4 (I 0) ((U 0) :: rp 4 (I 0) ((U 0) :: rp 4 (I 0) ((U 0) :: rp 4 (I 0) ((U 0) :: rp 4 (I 0) ((U 0) :: rp 4 (I 0) ([U 0, I 0]))))))))))))))))))))) ([])) false),
  (55, .cells 3 (rp 8 ([bF, I 0, bF]) ([])) false),
  (167, .cells 80 (rp 12 (rp 4 (I 0) ((U 0) :: rp 4 (I 0) ((U 0) :: rp 4 (I 0) ((U 0) :: rp 4 (I 0) ((U 0) :: rp 4 (I 0) ((U 0) :: rp 4 (I 0) ((U 0) :: rp 4 (I 0) ((U 0) :: rp 4 (I 0) ((U 0) :: rp 4 (I 0) ((U 0) :: rp 4 (I 0) ((U 0) :: rp 4 (I 0) ((U 0) :: rp 4 (I 0) ((U 0) :: rp 4 (I 0) ((U 0) :: rp 4 (I 0) ((U 0) :: rp 4 (I 0) ((U 0) :: rp 4 (I 0) ([U 0]))))))))))))))))) ([])) false),
  (23, .cells 1 ([[.slice 22 0 12 12 3 true]]) false),
  (63, .cells 5 ([[.ptr 60 0, .slice 61 0 6 6 3 true, .map 62, .ptr 32 0, .ptr 36 0]]) false),
  (31, .cells 3 ([[I 16, .snil, I 0]]) false)] []
noncomputable def m2 : Memo := ⟨[], h0, .tuple [.ptr 69 0, .ptr 166 0], h1⟩
theorem m2_run : ranTo (evCall (cxX Tryz.prog bad [] [] [(166, isFn 320)]) 1000 60 8 m2.args m2.h) m2.v m2.h' = true := by kernel_rfl
theorem m2_ok {σ : Nat → Int} {W0 : World} (hL : L0 W0) : MemoOk Tryz.prog 511 σ W0 8 m2 := memo_ok fit (Known2.nil σ) (FnsOk.cons (ext_is hL) (FnsOk.nil)) m2_run
noncomputable def p3 : Pur := ([.agg [I 8, I 0, I 0, I 0, U 0]], .inil, 1048576)
theorem p3_run : ranPure (evCall (cxX Tryz.prog bad [] [] [(166, isFn 320)]) 1000 60 67 p3.1 ⟨.lf, p3.2.2⟩) p3.2.1 = true := by kernel_rfl
theorem p3_ok {σ : Nat → Int} {W0 : World} (hL : L0 W0) : PureOk Tryz.prog 511 σ W0 67 p3 := pure_ok fit (Known2.nil σ) (FnsOk.cons (ext_is hL) (FnsOk.nil)) p3_run
noncomputable def h2 : H := hUpd h1 220 [166, 170, 172, 168, 157, 93, 117, 165, 169, 145, 129, 171, 167] [] [(61, 0, [IZ (-1), I 30, I 0]),
  (57, 0, [IZ (-1), I 50]),
  (59, 0, [bT, I 0, bF]),
  (55, 0, [bT, I 0, bF])]
noncomputable def h3 : H := hUpd h2 323 [] [(62, .map [(.agg [I 3, I 0], .agg [I 0, I 0], 0)] 1)] [(26, 0, [bT, I 0, bF]),
  (61, 0, [IZ (-1), I 30, I 1])]
noncomputable def m4 : Memo := ⟨[.ptr 69 0, .agg [I 8, I 0, I 0, I 0, U 0], .agg [U 1, U 0, U 0, U 0, I 0, I 0, I 0, I 0, U 0, I 0, I 0, I 0, I 0, U 0, I 0, I 0, I 0, I 0, U 0]], h2, .tuple [.agg [U 0, U 0, U 0, U 0, I 3, I 0, I 0, I 0, U 0, I 0, I 0, I 0, I 0, U 0, I 0, I 0, I 0, I 0, U 0], bT], h3⟩
theorem m4_run : ranTo (evCall (cxX Tryz.prog bad [] [] [(67, pureFn [p3, p0]), (166, isFn 320)]) 1000 60 13 m4.args m4.h) m4.v m4.h' = true := by kernel_rfl
theorem m4_ok {σ : Nat → Int} {W0 : World} (hL : L0 W0) : MemoOk Tryz.prog 511 σ W0 13 m4 := memo_ok fit (Known2.nil σ) (FnsOk.cons (pure_fn_ok (all_cons (p3_ok hL) (all_cons (p0_ok hL) (all_nil)))) (FnsOk.cons (ext_is hL) (FnsOk.nil))) m4_run
noncomputable def p5 : Pur := ([.agg [I 11, I 0, I 0, I 0, U 0]], .inil, 1048576)
theorem p5_run : ranPure (evCall (cxX Tryz.prog bad [] [] [(166, isFn 320)]) 1000 60 67 p5.1 ⟨.lf, p5.2.2⟩) p5.2.1 = true := by kernel_rfl
theorem p5_ok {σ : Nat → Int} {W0 : World} (hL : L0 W0) : PureOk Tryz.prog 511 σ W0 67 p5 := pure_ok fit (Known2.nil σ) (FnsOk.cons (ext_is hL) (FnsOk.nil)) p5_run
noncomputable def h4 : H := hUpc h3 343 [] [] [] [(28, 0, 3, .int .u32 (.var 1))]
noncomputable def h5 : H := hUpd h4 411 [] [] [(64, 0, [bT, I 0, bF])]
noncomputable def m6 : Memo := ⟨[.ptr 69 0, .agg [I 11, I 0, I 0, I 0, U 0], .agg [U 0, U 0, U 0, U 0, I 0, I 0, I 0, I 0, U 0, I 0, I 0, I 0, I 0, U 0, I 0, I 0, I 0, I 0, U 0]], h4, .tuple [.agg [U 0, U 0, U 0, U 0, I 10, I 0, I 0, I 0, U 0, I 0, I 0, I 0, I 0, U 0, I 0, I 0, I 0, I 0, U 0], bT], h5⟩
theorem m6_run : ranTo (evCall (cxX Tryz.prog bad [] [] [(67, pureFn [p5, p0]), (166, isFn 320)]) 1000 60 13 m6.args m6.h) m6.v m6.h' = true := by kernel_rfl
theorem m6_ok {σ : Nat → Int} {W0 : World} (hL : L0 W0) : MemoOk Tryz.prog 511 σ W0 13 m6 := memo_ok fit (Known2.nil σ) (FnsOk.cons (pure_fn_ok (all_cons (p5_ok hL) (all_cons (p0_ok hL) (all_nil)))) (FnsOk.cons (ext_is hL) (FnsOk.nil))) m6_run
noncomputable def p7 : Pur := ([.agg [I 10, I 0, I 0, I 0, U 0]], .inil, 1048576)
theorem p7_run : ranPure (evCall (cxX Tryz.prog bad [] [] [(166, isFn 320)]) 1000 60 67 p7.1 ⟨.lf, p7.2.2⟩) p7.2.1 = true := by kernel_rfl
theorem p7_ok {σ : Nat → Int} {W0 : World} (hL : L0 W0) : PureOk Tryz.prog 511 σ W0 67 p7 := pure_ok fit (Known2.nil σ) (FnsOk.cons (ext_is hL) (FnsOk.nil)) p7_run
noncomputable def p8 : Pur := ([.agg [I 3, I 0, I 0, I 5, U 0]], .inil, 1048576)
theorem p8_run : ranPure (evCall (cxX Tryz.prog bad [] [] [(166, isFn 320)]) 1000 60 67 p8.1 ⟨.lf, p8.2.2⟩) p8.2.1 = true := by kernel_rfl
theorem p8_ok {σ : Nat → Int} {W0 : World} (hL : L0 W0) : PureOk Tryz.prog 511 σ W0 67 p8 := pure_ok fit (Known2.nil σ) (FnsOk.cons (ext_is hL) (FnsOk.nil)) p8_run
noncomputable def h6 : H := hUpd h5 425 [] [] []
noncomputable def h7 : H := hUpc h5 528 [] [] [] [(66, 0, 1, I 3), (66, 0, 4, I 5)]
noncomputable def m9 : Memo := ⟨[.ptr 69 0, .agg [I 10, I 0, I 0, I 0, U 0], .agg [U 0, U 0, U 0, U 0, I 3, I 0, I 0, I 5, U 0, I 0, I 0, I 0, I 0, U 0, I 0, I 0, I 0, I 0, U 0]], h6, .tuple [.agg [U 0, U 0, U 0, U 0, I 0, I 0, I 0, I 0, U 0, I 0, I 0, I 0, I 0, U 0, I 0, I 0, I 0, I 0, U 0], bT], h7⟩
theorem m9_run : ranTo (evCall (cxX Tryz.prog bad [] [] [(67, pureFn [p7, p8, p0]), (166, isFn 320)]) 1000 60 13 m9.args m9.h) m9.v m9.h' = true := by kernel_rfl
theorem m9_ok {σ : Nat → Int} {W0 : World} (hL : L0 W0) : MemoOk Tryz.prog 511 σ W0 13 m9 := memo_ok fit (Known2.nil σ) (FnsOk.cons (pure_fn_ok (all_cons (p7_ok hL) (all_cons (p8_ok hL) (all_cons (p0_ok hL) (all_nil))))) (FnsOk.cons (ext_is hL) (FnsOk.nil))) m9_run
noncomputable def p10 : Pur := ([.agg [I 1, I 0, I 0, I 0, .int .u32 (.var 1)]], .inil, 1048576)
theorem p10_run : ranPure (evCall (cxX Tryz.prog bad [(0, 4294967295), (0, 4294967295)] [(true, .bop .rem .u32 (.var 0) (.lit 7), .lit 0, true)] [(166, isFn 320)]) 1000 60 67 p10.1 ⟨.lf, p10.2.2⟩) p10.2.1 = true := by kernel_rfl
theorem p10_ok {σ : Nat → Int} {W0 : World} (hL : L0 W0) (hk : Known2 σ [(0, 4294967295), (0, 4294967295)] [(true, .bop .rem .u32 (.var 0) (.lit 7), .lit 0, true)]) : PureOk Tryz.prog 511 σ W0 67 p10 := pure_ok fit hk (FnsOk.cons (ext_is hL) (FnsOk.nil)) p10_run
noncomputable def h8 : H := hUpd h7 533 [] [] []
noncomputable def h9 : H := hUpc h7 612 [] [] [] [(66, 0, 11, I 1), (66, 0, 15, .int .u32 (.var 1))]
noncomputable def m11 : Memo := ⟨[.ptr 69 0, .agg [I 10, I 0, I 0, I 0, U 0], .agg [U 0, U 2, U 0, U 0, I 1, I 0, I 0, I 0, .int .u32 (.var 1), I 0, I 0, I 0, I 0, U 0, I 0, I 0, I 0, I 0, U 0]], h8, .tuple [.agg [U 0, U 0, U 0, U 0, I 0, I 0, I 0, I 0, U 0, I 0, I 0, I 0, I 0, U 0, I 0, I 0, I 0, I 0, U 0], bT], h9⟩
theorem m11_run : ranTo (evCall (cxX Tryz.prog bad [(0, 4294967295), (0, 4294967295)] [(true, .bop .rem .u32 (.var 0) (.lit 7), .lit 0, true)] [(67, pureFn [p7, p10, p0]), (166, isFn 320)]) 1000 60 13 m11.args m11.h) m11.v m11.h' = true := by kernel_rfl
theorem m11_ok {σ : Nat → Int} {W0 : World} (hL : L0 W0) (hk : Known2 σ [(0, 4294967295), (0, 4294967295)] [(true, .bop .rem .u32 (.var 0) (.lit 7), .lit 0, true)]) : MemoOk Tryz.prog 511 σ W0 13 m11 := memo_ok fit hk (FnsOk.cons (pure_fn_ok (all_cons (p7_ok hL) (all_cons (p10_ok hL hk) (all_cons (p0_ok hL) (all_nil))))) (FnsOk.cons (ext_is hL) (FnsOk.nil))) m11_run
noncomputable def h10 : H := hUpd h9 617 [] [] []
noncomputable def h11 : H := hUpc h9 703 [] [] [] [(66, 0, 0, bT)]
noncomputable def m12 : Memo := ⟨[.ptr 69 0, .agg [I 10, I 0, I 0, I 0, U 0], .agg [U 1, U 0, U 0, U 0, I 0, I 0, I 0, I 0, U 0, I 0, I 0, I 0, I 0, U 0, I 0, I 0, I 0, I 0, U 0]], h10, .tuple [.agg [U 0, U 0, U 0, U 0, I 9, I 0, I 0, I 0, U 0, I 0, I 0, I 0, I 0, U 0, I 0, I 0, I 0, I 0, U 0], bT], h11⟩
theorem m12_run : ranTo (evCall (cxX Tryz.prog bad [] [] [(67, pureFn [p7, p0]), (166, isFn 320)]) 1000 60 13 m12.args m12.h) m12.v m12.h' = true := by kernel_rfl
theorem m12_ok {σ : Nat → Int} {W0 : World} (hL : L0 W0) : MemoOk Tryz.prog 511 σ W0 13 m12 := memo_ok fit (Known2.nil σ) (FnsOk.cons (pure_fn_ok (all_cons (p7_ok hL) (all_cons (p0_ok hL) (all_nil)))) (FnsOk.cons (ext_is hL) (FnsOk.nil))) m12_run
noncomputable def h12 : H := hUpd h11 709 [] [] []
noncomputable def h13 : H := hUpd h11 757 [] [] []
noncomputable def m13 : Memo := ⟨[.ptr 69 0, .agg [I 10, I 0, I 0, I 0, U 0], .agg [U 0, U 1, U 0, U 0, I 0, I 0, I 0, I 0, U 0, I 0, I 0, I 0, I 0, U 0, I 0, I 0, I 0, I 0, U 0]], h12, .tuple [.agg [U 1, U 0, U 0, U 0, I 0, I 0, I 0, I 0, U 0, I 0, I 0, I 0, I 0, U 0, I 0, I 0, I 0, I 0, U 0], bT], h13⟩
theorem m13_run : ranTo (evCall (cxX Tryz.prog bad [] [] [(67, pureFn [p7, p0]), (166, isFn 320)]) 1000 60 13 m13.args m13.h) m13.v m13.h' = true := by kernel_rfl
theorem m13_ok {σ : Nat → Int} {W0 : World} (hL : L0 W0) : MemoOk Tryz.prog 511 σ W0 13 m13 := memo_ok fit (Known2.nil σ) (FnsOk.cons (pure_fn_ok (all_cons (p7_ok hL) (all_cons (p0_ok hL) (all_nil)))) (FnsOk.cons (ext_is hL) (FnsOk.nil))) m13_run
noncomputable def p14 : Pur := ([.agg [I 9, I 0, I 0, I 0, U 0]], .inil, 1048576)
theorem p14_run : ranPure (evCall (cxX Tryz.prog bad [] [] [(166, isFn 320)]) 1000 60 67 p14.1 ⟨.lf, p14.2.2⟩) p14.2.1 = true := by kernel_rfl
theorem p14_ok {σ : Nat → Int} {W0 : World} (hL : L0 W0) : PureOk Tryz.prog 511 σ W0 67 p14 := pure_ok fit (Known2.nil σ) (FnsOk.cons (ext_is hL) (FnsOk.nil)) p14_run
noncomputable def h14 : H := hUpd h11 762 [] [] []
noncomputable def h15 : H := hUpd h11 964 [] [] []
noncomputable def m15 : Memo := ⟨[.ptr 69 0, .agg [I 9, I 0, I 0, I 0, U 0], .agg [U 0, U 0, U 0, U 0, I 0, I 0, I 0, I 0, U 0, I 0, I 0, I 0, I 0, U 0, I 0, I 0, I 0, I 0, U 0]], h14, .tuple [.agg [U 0, U 0, U 2, U 0, I 0, I 0, I 0, I 0, U 0, I 0, I 0, I 0, I 0, U 0, I 0, I 0, I 0, I 0, U 0], bT], h15⟩
theorem m15_run : ranTo (evCall (cxX Tryz.prog bad [] [] [(67, pureFn [p14, p0]), (166, isFn 320)]) 1000 60 13 m15.args m15.h) m15.v m15.h' = true := by kernel_rfl
theorem m15_ok {σ : Nat → Int} {W0 : World} (hL : L0 W0) : MemoOk Tryz.prog 511 σ W0 13 m15 := memo_ok fit (Known2.nil σ) (FnsOk.cons (pure_fn_ok (all_cons (p14_ok hL) (all_cons (p0_ok hL) (all_nil)))) (FnsOk.cons (ext_is hL) (FnsOk.nil))) m15_run
noncomputable def h16 : H := hUpd h11 970 [] [] []
noncomputable def h17 : H := hUpd h11 1060 [] [] [(59, 1, [bT, I 0, bF])]
noncomputable def m16 : Memo := ⟨[.ptr 69 0, .agg [I 8, I 0, I 0, I 0, U 0], .agg [U 2, U 0, U 0, U 0, I 0, I 0, I 0, I 0, U 0, I 0, I 0, I 0, I 0, U 0, I 0, I 0, I 0, I 0, U 0]], h16, .tuple [.agg [U 0, U 0, U 0, U 0, I 8, I 1, I 0, I 0, U 0, I 0, I 0, I 0, I 0, U 0, I 0, I 0, I 0, I 0, U 0], bT], h17⟩
theorem m16_run : ranTo (evCall (cxX Tryz.prog bad [] [] [(67, pureFn [p3, p0]), (166, isFn 320)]) 1000 60 13 m16.args m16.h) m16.v m16.h' = true := by kernel_rfl
theorem m16_ok {σ : Nat → Int} {W0 : World} (hL : L0 W0) : MemoOk Tryz.prog 511 σ W0 13 m16 := memo_ok fit (Known2.nil σ) (FnsOk.cons (pure_fn_ok (all_cons (p3_ok hL) (all_cons (p0_ok hL) (all_nil)))) (FnsOk.cons (ext_is hL) (FnsOk.nil))) m16_run
noncomputable def p17 : Pur := ([.agg [I 8, I 1, I 0, I 0, U 0]], .inil, 1048576)
theorem p17_run : ranPure (evCall (cxX Tryz.prog bad [] [] [(166, isFn 320)]) 1000 60 67 p17.1 ⟨.lf, p17.2.2⟩) p17.2.1 = true := by kernel_rfl
theorem p17_ok {σ : Nat → Int} {W0 : World} (hL : L0 W0) : PureOk Tryz.prog 511 σ W0 67 p17 := pure_ok fit (Known2.nil σ) (FnsOk.cons (ext_is hL) (FnsOk.nil)) p17_run
noncomputable def p18 : Pur := ([.agg [I 7, I 0, I 0, I 0, U 0]], .inil, 1048576)
theorem p18_run : ranPure (evCall (cxX Tryz.prog bad [] [] [(166, isFn 320)]) 1000 60 67 p18.1 ⟨.lf, p18.2.2⟩) p18.2.1 = true := by kernel_rfl
theorem p18_ok {σ : Nat → Int} {W0 : World} (hL : L0 W0) : PureOk Tryz.prog 511 σ W0 67 p18 := pure_ok fit (Known2.nil σ) (FnsOk.cons (ext_is hL) (FnsOk.nil)) p18_run
noncomputable def h18 : H := hUpd h17 1091 [] [] []
noncomputable def h19 : H := hUpd h17 1330 [] [] []
noncomputable def m19 : Memo := ⟨[.ptr 69 0, .agg [I 9, I 0, I 0, I 0, U 0], .agg [U 1, U 0, U 0, U 0, I 8, I 1, I 0, I 0, U 0, I 7, I 0, I 0, I 0, U 0, I 0, I 0, I 0, I 0, U 0]], h18, .tuple [.agg [U 6, U 0, U 0, U 0, I 0, I 0, I 0, I 0, U 0, I 0, I 0, I 0, I 0, U 0, I 0, I 0, I 0, I 0, U 0], bT], h19⟩
noncomputable def l0 : List (Pur) := p8 :: p0 :: p18 :: p17 :: p14 :: []
theorem l0_ok {σ : Nat → Int} {W0 : World} (hL : L0 W0) : ∀ x ∈ l0, PureOk Tryz.prog 511 σ W0 67 x := all_cons (p8_ok hL) (all_cons (p0_ok hL) (all_cons (p18_ok hL) (all_cons (p17_ok hL) (all_cons (p14_ok hL) (all_nil)))))
theorem m19_run : ranTo (evCall (cxX Tryz.prog bad [] [] [(67, pureFn l0), (166, isFn 320)]) 1000 60 13 m19.args m19.h) m19.v m19.h' = true := by kernel_rfl
theorem m19_ok {σ : Nat → Int} {W0 : World} (hL : L0 W0) : MemoOk Tryz.prog 511 σ W0 13 m19 := memo_ok fit (Known2.nil σ) (FnsOk.cons (pure_fn_ok (l0_ok hL)) (FnsOk.cons (ext_is hL) (FnsOk.nil))) m19_run
noncomputable def q1 : Fns := [(7, pureFn [p1]), (8, frameFn [m2]), (166, isFn 320)]
theorem q1_ok {σ : Nat → Int} {W0 : World} (hL : L0 W0) : FnsOk Tryz.prog 511 σ W0 q1 := FnsOk.cons (pure_fn_ok (all_cons (p1_ok hL) (all_nil))) (FnsOk.cons (frame_fn_ok (all_cons (m2_ok hL) (all_nil))) (FnsOk.cons (ext_is hL) (FnsOk.nil)))
theorem run0 : isTrue (evCall (cxX Tryz.prog bad [(0, 4294967295), (0, 4294967295)] [(true, .bop .rem .u32 (.var 0) (.lit 7), .lit 0, true)] ((13, frameFn [m4, m6, m9, m11, m12, m13, m15, m16, m19]) :: q1)) 1000 60 3 [.int .u32 (.var 0), .int .u32 (.var 1), bF] (sentH 320 12 errTab)) = true := by kernel_rfl
theorem case0 {σ : Nat → Int} {W : World} (hL : L0 W) (hk : Known2 σ [(0, 4294967295), (0, 4294967295)] [(true, .bop .rem .u32 (.var 0) (.lit 7), .lit 0, true)]) (hT : TabOk Tryz.prog bad 27 σ []) {xs : Array Value} (hv : ∀ ρ, VRs σ ρ [.int .u32 (.var 0), .int .u32 (.var 1), bF] xs.toList) : Calls Tryz.prog 3 xs W fun e w' => e = .returned (.bool true) ∧ Below W.heap.size W w' := by
  obtain ⟨ads, h1, h2, h3⟩ := errs_sents hL
  exact law_case_x fit h1 h2 h3 errs_all errs_lt (by kernel_rfl) hk (FnsOk.cons (frame_fn_ok (all_cons (m4_ok hL) (all_cons (m6_ok hL) (all_cons (m9_ok hL) (all_cons (m11_ok hL hk) (all_cons (m12_ok hL) (all_cons (m13_ok hL) (all_cons (m15_ok hL) (all_cons (m16_ok hL) (all_cons (m19_ok hL) (all_nil))))))))))) ((q1_ok hL))) hv ⟨_, Tryz.func3, rfl⟩ run0
noncomputable def p20 : Pur := ([.agg [I 1, I 0, I 0, I 0, .int .u32 (.var 1)]], .inil, 1048576)
theorem p20_run : ranPure (evCall (cxX Tryz.prog bad [(0, 4294967295), (0, 4294967295)] [(true, .bop .rem .u32 (.var 0) (.lit 7), .lit 1, true)] [(166, isFn 320)]) 1000 60 67 p20.1 ⟨.lf, p20.2.2⟩) p20.2.1 = true := by kernel_rfl
theorem p20_ok {σ : Nat → Int} {W0 : World} (hL : L0 W0) (hk : Known2 σ [(0, 4294967295), (0, 4294967295)] [(true, .bop .rem .u32 (.var 0) (.lit 7), .lit 1, true)]) : PureOk Tryz.prog 511 σ W0 67 p20 := pure_ok fit hk (FnsOk.cons (ext_is hL) (FnsOk.nil)) p20_run
noncomputable def m21 : Memo := ⟨[.ptr 69 0, .agg [I 10, I 0, I 0, I 0, U 0], .agg [U 0, U 2, U 0, U 0, I 1, I 0, I 0, I 0, .int .u32 (.var 1), I 0, I 0, I 0, I 0, U 0, I 0, I 0, I 0, I 0, U 0]], h8, .tuple [.agg [U 0, U 0, U 0, U 0, I 0, I 0, I 0, I 0, U 0, I 0, I 0, I 0, I 0, U 0, I 0, I 0, I 0, I 0, U 0], bT], h9⟩
theorem m21_run : ranTo (evCall (cxX Tryz.prog bad [(0, 4294967295), (0, 4294967295)] [(true, .bop .rem .u32 (.var 0) (.lit 7), .lit 1, true)] [(67, pureFn [p7, p20, p0]), (166, isFn 320)]) 1000 60 13 m21.args m21.h) m21.v m21.h' = true := by kernel_rfl
theorem m21_ok {σ : Nat → Int} {W0 : World} (hL : L0 W0) (hk : Known2 σ [(0, 4294967295), (0, 4294967295)] [(true, .bop .rem .u32 (.var 0) (.lit 7), .lit 1, true)]) : MemoOk Tryz.prog 511 σ W0 13 m21 := memo_ok fit hk (FnsOk.cons (pure_fn_ok (all_cons (p7_ok hL) (all_cons (p20_ok hL hk) (all_cons (p0_ok hL) (all_nil))))) (FnsOk.cons (ext_is hL) (FnsOk.nil))) m21_run
noncomputable def h20 : H := hUpd h17 1060 [] [] [(61, 1, [I 0, I 1, I 0])]
noncomputable def m22 : Memo := ⟨[.ptr 69 0, .agg [I 8, I 0, I 0, I 0, U 0], .agg [U 2, U 1, U 0, U 0, I 0, I 0, I 0, I 0, U 0, I 0, I 0, I 0, I 0, U 0, I 0, I 0, I 0, I 0, U 0]], h16, .tuple [.agg [U 0, U 0, U 0, U 0, I 8, I 1, I 0, I 0, U 0, I 0, I 0, I 0, I 0, U 0, I 0, I 0, I 0, I 0, U 0], bT], h20⟩
theorem m22_run : ranTo (evCall (cxX Tryz.prog bad [] [] [(67, pureFn [p3, p0]), (166, isFn 320)]) 1000 60 13 m22.args m22.h) m22.v m22.h' = true := by kernel_rfl
theorem m22_ok {σ : Nat → Int} {W0 : World} (hL : L0 W0) : MemoOk Tryz.prog 511 σ W0 13 m22 := memo_ok fit (Known2.nil σ) (FnsOk.cons (pure_fn_ok (all_cons (p3_ok hL) (all_cons (p0_ok hL) (all_nil)))) (FnsOk.cons (ext_is hL) (FnsOk.nil))) m22_run
noncomputable def h21 : H := hUpd h20 1091 [] [] []
noncomputable def h22 : H := hUpd h20 1330 [] [] []
noncomputable def m23 : Memo := ⟨[.ptr 69 0, .agg [I 9, I 0, I 0, I 0, U 0], .agg [U 1, U 0, U 0, U 0, I 8, I 1, I 0, I 0, U 0, I 7, I 0, I 0, I 0, U 0, I 0, I 0, I 0, I 0, U 0]], h21, .tuple [.agg [U 6, U 0, U 0, U 0, I 0, I 0, I 0, I 0, U 0, I 0, I 0, I 0, I 0, U 0, I 0, I 0, I 0, I 0, U 0], bT], h22⟩
theorem m23_run : ranTo (evCall (cxX Tryz.prog bad [] [] [(67, pureFn l0), (166, isFn 320)]) 1000 60 13 m23.args m23.h) m23.v m23.h' = true := by kernel_rfl
theorem m23_ok {σ : Nat → Int} {W0 : World} (hL : L0 W0) : MemoOk Tryz.prog 511 σ W0 13 m23 := memo_ok fit (Known2.nil σ) (FnsOk.cons (pure_fn_ok (l0_ok hL)) (FnsOk.cons (ext_is hL) (FnsOk.nil))) m23_run
theorem run1 : isTrue (evCall (cxX Tryz.prog bad [(0, 4294967295), (0, 4294967295)] [(true, .bop .rem .u32 (.var 0) (.lit 7), .lit 1, true)] ((13, frameFn [m4, m6, m9, m21, m12, m13, m15, m22, m23]) :: q1)) 1000 60 3 [.int .u32 (.var 0), .int .u32 (.var 1), bF] (sentH 320 12 errTab)) = true := by kernel_rfl
theorem case1 {σ : Nat → Int} {W : World} (hL : L0 W) (hk : Known2 σ [(0, 4294967295), (0, 4294967295)] [(true, .bop .rem .u32 (.var 0) (.lit 7), .lit 1, true)]) (hT : TabOk Tryz.prog bad 27 σ []) {xs : Array Value} (hv : ∀ ρ, VRs σ ρ [.int .u32 (.var 0), .int .u32 (.var 1), bF] xs.toList) : Calls Tryz.prog 3 xs W fun e w' => e = .returned (.bool true) ∧ Below W.heap.size W w' := by
  obtain ⟨ads, h1, h2, h3⟩ := errs_sents hL
  exact law_case_x fit h1 h2 h3 errs_all errs_lt (by kernel_rfl) hk (FnsOk.cons (frame_fn_ok (all_cons (m4_ok hL) (all_cons (m6_ok hL) (all_cons (m9_ok hL) (all_cons (m21_ok hL hk) (all_cons (m12_ok hL) (all_cons (m13_ok hL) (all_cons (m15_ok hL) (all_cons (m22_ok hL) (all_cons (m23_ok hL) (all_nil))))))))))) ((q1_ok hL))) hv ⟨_, Tryz.func3, rfl⟩ run1
noncomputable def p24 : Pur := ([.agg [I 1, I 0, I 0, I 0, .int .u32 (.var 1)]], .inil, 1048576)
theorem p24_run : ranPure (evCall (cxX Tryz.prog bad [(0, 4294967295), (0, 4294967295)] [(true, .bop .rem .u32 (.var 0) (.lit 7), .lit 2, true)] [(166, isFn 320)]) 1000 60 67 p24.1 ⟨.lf, p24.2.2⟩) p24.2.1 = true := by kernel_rfl
theorem p24_ok {σ : Nat → Int} {W0 : World} (hL : L0 W0) (hk : Known2 σ [(0, 4294967295), (0, 4294967295)] [(true, .bop .rem .u32 (.var 0) (.lit 7), .lit 2, true)]) : PureOk Tryz.prog 511 σ W0 67 p24 := pure_ok fit hk (FnsOk.cons (ext_is hL) (FnsOk.nil)) p24_run
noncomputable def m25 : Memo := ⟨[.ptr 69 0, .agg [I 10, I 0, I 0, I 0, U 0], .agg [U 0, U 2, U 0, U 0, I 1, I 0, I 0, I 0, .int .u32 (.var 1), I 0, I 0, I 0, I 0, U 0, I 0, I 0, I 0, I 0, U 0]], h8, .tuple [.agg [U 0, U 0, U 0, U 0, I 0, I 0, I 0, I 0, U 0, I 0, I 0, I 0, I 0, U 0, I 0, I 0, I 0, I 0, U 0], bT], h9⟩
theorem m25_run : ranTo (evCall (cxX Tryz.prog bad [(0, 4294967295), (0, 4294967295)] [(true, .bop .rem .u32 (.var 0) (.lit 7), .lit 2, true)] [(67, pureFn [p7, p24, p0]), (166, isFn 320)]) 1000 60 13 m25.args m25.h) m25.v m25.h' = true := by kernel_rfl
theorem m25_ok {σ : Nat → Int} {W0 : World} (hL : L0 W0) (hk : Known2 σ [(0, 4294967295), (0, 4294967295)] [(true, .bop .rem .u32 (.var 0) (.lit 7), .lit 2, true)]) : MemoOk Tryz.prog 511 σ W0 13 m25 := memo_ok fit hk (FnsOk.cons (pure_fn_ok (all_cons (p7_ok hL) (all_cons (p24_ok hL hk) (all_cons (p0_ok hL) (all_nil))))) (FnsOk.cons (ext_is hL) (FnsOk.nil))) m25_run
noncomputable def h23 : H := hUpd h17 1060 [] [] [(61, 1, [I 0, I 2, I 0])]
noncomputable def m26 : Memo := ⟨[.ptr 69 0, .agg [I 8, I 0, I 0, I 0, U 0], .agg [U 2, U 2, U 0, U 0, I 0, I 0, I 0, I 0, U 0, I 0, I 0, I 0, I 0, U 0, I 0, I 0, I 0, I 0, U 0]], h16, .tuple [.agg [U 0, U 0, U 0, U 0, I 8, I 1, I 0, I 0, U 0, I 0, I 0, I 0, I 0, U 0, I 0, I 0, I 0, I 0, U 0], bT], h23⟩
theorem m26_run : ranTo (evCall (cxX Tryz.prog bad [] [] [(67, pureFn [p3, p0]), (166, isFn 320)]) 1000 60 13 m26.args m26.h) m26.v m26.h' = true := by kernel_rfl
theorem m26_ok {σ : Nat → Int} {W0 : World} (hL : L0 W0) : MemoOk Tryz.prog 511 σ W0 13 m26 := memo_ok fit (Known2.nil σ) (FnsOk.cons (pure_fn_ok (all_cons (p3_ok hL) (all_cons (p0_ok hL) (all_nil)))) (FnsOk.cons (ext_is hL) (FnsOk.nil))) m26_run
noncomputable def h24 : H := hUpd h23 1091 [] [] []
noncomputable def h25 : H := hUpd h23 1330 [] [] []
noncomputable def m27 : Memo := ⟨[.ptr 69 0, .agg [I 9, I 0, I 0, I 0, U 0], .agg [U 1, U 0, U 0, U 0, I 8, I 1, I 0, I 0, U 0, I 7, I 0, I 0, I 0, U 0, I 0, I 0, I 0, I 0, U 0]], h24, .tuple [.agg [U 6, U 0, U 0, U 0, I 0, I 0, I 0, I 0, U 0, I 0, I 0, I 0, I 0, U 0, I 0, I 0, I 0, I 0, U 0], bT], h25⟩
theorem m27_run : ranTo (evCall (cxX Tryz.prog bad [] [] [(67, pureFn l0), (166, isFn 320)]) 1000 60 13 m27.args m27.h) m27.v m27.h' = true := by kernel_rfl
theorem m27_ok {σ : Nat → Int} {W0 : World} (hL : L0 W0) : MemoOk Tryz.prog 511 σ W0 13 m27 := memo_ok fit (Known2.nil σ) (FnsOk.cons (pure_fn_ok (l0_ok hL)) (FnsOk.cons (ext_is hL) (FnsOk.nil))) m27_run
theorem run2 : isTrue (evCall (cxX Tryz.prog bad [(0, 4294967295), (0, 4294967295)] [(true, .bop .rem .u32 (.var 0) (.lit 7), .lit 2, true)] ((13, frameFn [m4, m6, m9, m25, m12, m13, m15, m26, m27]) :: q1)) 1000 60 3 [.int .u32 (.var 0), .int .u32 (.var 1), bF] (sentH 320 12 errTab)) = true := by kernel_rfl
theorem case2 {σ : Nat → Int} {W : World} (hL : L0 W) (hk : Known2 σ [(0, 4294967295), (0, 4294967295)] [(true, .bop .rem .u32 (.var 0) (.lit 7), .lit 2, true)]) (hT : TabOk Tryz.prog bad 27 σ []) {xs : Array Value} (hv : ∀ ρ, VRs σ ρ [.int .u32 (.var 0), .int .u32 (.var 1), bF] xs.toList) : Calls Tryz.prog 3 xs W fun e w' => e = .returned (.bool true) ∧ Below W.heap.size W w' := by
  obtain ⟨ads, h1, h2, h3⟩ := errs_sents hL
  exact law_case_x fit h1 h2 h3 errs_all errs_lt (by kernel_rfl) hk (FnsOk.cons (frame_fn_ok (all_cons (m4_ok hL) (all_cons (m6_ok hL) (all_cons (m9_ok hL) (all_cons (m25_ok hL hk) (all_cons (m12_ok hL) (all_cons (m13_ok hL) (all_cons (m15_ok hL) (all_cons (m26_ok hL) (all_cons (m27_ok hL) (all_nil))))))))))) ((q1_ok hL))) hv ⟨_, Tryz.func3, rfl⟩ run2
noncomputable def p28 : Pur := ([.agg [I 1, I 0, I 0, I 0, .int .u32 (.var 1)]], .inil, 1048576)
theorem p28_run : ranPure (evCall (cxX Tryz.prog bad [(0, 4294967295), (0, 4294967295)] [(true, .bop .rem .u32 (.var 0) (.lit 7), .lit 3, true)] [(166, isFn 320)]) 1000 60 67 p28.1 ⟨.lf, p28.2.2⟩) p28.2.1 = true := by kernel_rfl
theorem p28_ok {σ : Nat → Int} {W0 : World} (hL : L0 W0) (hk : Known2 σ [(0, 4294967295), (0, 4294967295)] [(true, .bop .rem .u32 (.var 0) (.lit 7), .lit 3, true)]) : PureOk Tryz.prog 511 σ W0 67 p28 := pure_ok fit hk (FnsOk.cons (ext_is hL) (FnsOk.nil)) p28_run
noncomputable def m29 : Memo := ⟨[.ptr 69 0, .agg [I 10, I 0, I 0, I 0, U 0], .agg [U 0, U 2, U 0, U 0, I 1, I 0, I 0, I 0, .int .u32 (.var 1), I 0, I 0, I 0, I 0, U 0, I 0, I 0, I 0, I 0, U 0]], h8, .tuple [.agg [U 0, U 0, U 0, U 0, I 0, I 0, I 0, I 0, U 0, I 0, I 0, I 0, I 0, U 0, I 0, I 0, I 0, I 0, U 0], bT], h9⟩
theorem m29_run : ranTo (evCall (cxX Tryz.prog bad [(0, 4294967295), (0, 4294967295)] [(true, .bop .rem .u32 (.var 0) (.lit 7), .lit 3, true)] [(67, pureFn [p7, p28, p0]), (166, isFn 320)]) 1000 60 13 m29.args m29.h) m29.v m29.h' = true := by kernel_rfl
theorem m29_ok {σ : Nat → Int} {W0 : World} (hL : L0 W0) (hk : Known2 σ [(0, 4294967295), (0, 4294967295)] [(true, .bop .rem .u32 (.var 0) (.lit 7), .lit 3, true)]) : MemoOk Tryz.prog 511 σ W0 13 m29 := memo_ok fit hk (FnsOk.cons (pure_fn_ok (all_cons (p7_ok hL) (all_cons (p28_ok hL hk) (all_cons (p0_ok hL) (all_nil))))) (FnsOk.cons (ext_is hL) (FnsOk.nil))) m29_run
noncomputable def h26 : H := hUpd h17 1060 [] [] [(61, 1, [I 0, I 3, I 0])]
noncomputable def m30 : Memo := ⟨[.ptr 69 0, .agg [I 8, I 0, I 0, I 0, U 0], .agg [U 2, U 3, U 0, U 0, I 0, I 0, I 0, I 0, U 0, I 0, I 0, I 0, I 0, U 0, I 0, I 0, I 0, I 0, U 0]], h16, .tuple [.agg [U 0, U 0, U 0, U 0, I 8, I 1, I 0, I 0, U 0, I 0, I 0, I 0, I 0, U 0, I 0, I 0, I 0, I 0, U 0], bT], h26⟩
theorem m30_run : ranTo (evCall (cxX Tryz.prog bad [] [] [(67, pureFn [p3, p0]), (166, isFn 320)]) 1000 60 13 m30.args m30.h) m30.v m30.h' = true := by kernel_rfl
theorem m30_ok {σ : Nat → Int} {W0 : World} (hL : L0 W0) : MemoOk Tryz.prog 511 σ W0 13 m30 := memo_ok fit (Known2.nil σ) (FnsOk.cons (pure_fn_ok (all_cons (p3_ok hL) (all_cons (p0_ok hL) (all_nil)))) (FnsOk.cons (ext_is hL) (FnsOk.nil))) m30_run
noncomputable def h27 : H := hUpd h26 1091 [] [] []
noncomputable def h28 : H := hUpd h26 1330 [] [] []
noncomputable def m31 : Memo := ⟨[.ptr 69 0, .agg [I 9, I 0, I 0, I 0, U 0], .agg [U 1, U 0, U 0, U 0, I 8, I 1, I 0, I 0, U 0, I 7, I 0, I 0, I 0, U 0, I 0, I 0, I 0, I 0, U 0]], h27, .tuple [.agg [U 6, U 0, U 0, U 0, I 0, I 0, I 0, I 0, U 0, I 0, I 0, I 0, I 0, U 0, I 0, I 0, I 0, I 0, U 0], bT], h28⟩
theorem m31_run : ranTo (evCall (cxX Tryz.prog bad [] [] [(67, pureFn l0), (166, isFn 320)]) 1000 60 13 m31.args m31.h) m31.v m31.h' = true := by kernel_rfl
theorem m31_ok {σ : Nat → Int} {W0 : World} (hL : L0 W0) : MemoOk Tryz.prog 511 σ W0 13 m31 := memo_ok fit (Known2.nil σ) (FnsOk.cons (pure_fn_ok (l0_ok hL)) (FnsOk.cons (ext_is hL) (FnsOk.nil))) m31_run
theorem run3 : isTrue (evCall (cxX Tryz.prog bad [(0, 4294967295), (0, 4294967295)] [(true, .bop .rem .u32 (.var 0) (.lit 7), .lit 3, true)] ((13, frameFn [m4, m6, m9, m29, m12, m13, m15, m30, m31]) :: q1)) 1000 60 3 [.int .u32 (.var 0), .int .u32 (.var 1), bF] (sentH 320 12 errTab)) = true := by kernel_rfl
theorem case3 {σ : Nat → Int} {W : World} (hL : L0 W) (hk : Known2 σ [(0, 4294967295), (0, 4294967295)] [(true, .bop .rem .u32 (.var 0) (.lit 7), .lit 3, true)]) (hT : TabOk Tryz.prog bad 27 σ []) {xs : Array Value} (hv : ∀ ρ, VRs σ ρ [.int .u32 (.var 0), .int .u32 (.var 1), bF] xs.toList) : Calls Tryz.prog 3 xs W fun e w' => e = .returned (.bool true) ∧ Below W.heap.size W w' := by
  obtain ⟨ads, h1, h2, h3⟩ := errs_sents hL
  exact law_case_x fit h1 h2 h3 errs_all errs_lt (by kernel_rfl) hk (FnsOk.cons (frame_fn_ok (all_cons (m4_ok hL) (all_cons (m6_ok hL) (all_cons (m9_ok hL) (all_cons (m29_ok hL hk) (all_cons (m12_ok hL) (all_cons (m13_ok hL) (all_cons (m15_ok hL) (all_cons (m30_ok hL) (all_cons (m31_ok hL) (all_nil))))))))))) ((q1_ok hL))) hv ⟨_, Tryz.func3, rfl⟩ run3
noncomputable def p32 : Pur := ([.agg [I 1, I 0, I 0, I 0, .int .u32 (.var 1)]], .inil, 1048576)
theorem p32_run : ranPure (evCall (cxX Tryz.prog bad [(0, 4294967295), (0, 4294967295)] [(true, .bop .rem .u32 (.var 0) (.lit 7), .lit 4, true)] [(166, isFn 320)]) 1000 60 67 p32.1 ⟨.lf, p32.2.2⟩) p32.2.1 = true := by kernel_rfl
theorem p32_ok {σ : Nat → Int} {W0 : World} (hL : L0 W0) (hk : Known2 σ [(0, 4294967295), (0, 4294967295)] [(true, .bop .rem .u32 (.var 0) (.lit 7), .lit 4, true)]) : PureOk Tryz.prog 511 σ W0 67 p32 := pure_ok fit hk (FnsOk.cons (ext_is hL) (FnsOk.nil)) p32_run
noncomputable def m33 : Memo := ⟨[.ptr 69 0, .agg [I 10, I 0, I 0, I 0, U 0], .agg [U 0, U 2, U 0, U 0, I 1, I 0, I 0, I 0, .int .u32 (.var 1), I 0, I 0, I 0, I 0, U 0, I 0, I 0, I 0, I 0, U 0]], h8, .tuple [.agg [U 0, U 0, U 0, U 0, I 0, I 0, I 0, I 0, U 0, I 0, I 0, I 0, I 0, U 0, I 0, I 0, I 0, I 0, U 0], bT], h9⟩
theorem m33_run : ranTo (evCall (cxX Tryz.prog bad [(0, 4294967295), (0, 4294967295)] [(true, .bop .rem .u32 (.var 0) (.lit 7), .lit 4, true)] [(67, pureFn [p7, p32, p0]), (166, isFn 320)]) 1000 60 13 m33.args m33.h) m33.v m33.h' = true := by kernel_rfl
theorem m33_ok {σ : Nat → Int} {W0 : World} (hL : L0 W0) (hk : Known2 σ [(0, 4294967295), (0, 4294967295)] [(true, .bop .rem .u32 (.var 0) (.lit 7), .lit 4, true)]) : MemoOk Tryz.prog 511 σ W0 13 m33 := memo_ok fit hk (FnsOk.cons (pure_fn_ok (all_cons (p7_ok hL) (all_cons (p32_ok hL hk) (all_cons (p0_ok hL) (all_nil))))) (FnsOk.cons (ext_is hL) (FnsOk.nil))) m33_run
noncomputable def h29 : H := hUpd h17 1060 [] [] [(61, 1, [I 0, I 4, I 0])]
noncomputable def m34 : Memo := ⟨[.ptr 69 0, .agg [I 8, I 0, I 0, I 0, U 0], .agg [U 2, U 4, U 0, U 0, I 0, I 0, I 0, I 0, U 0, I 0, I 0, I 0, I 0, U 0, I 0, I 0, I 0, I 0, U 0]], h16, .tuple [.agg [U 0, U 0, U 0, U 0, I 8, I 1, I 0, I 0, U 0, I 0, I 0, I 0, I 0, U 0, I 0, I 0, I 0, I 0, U 0], bT], h29⟩
theorem m34_run : ranTo (evCall (cxX Tryz.prog bad [] [] [(67, pureFn [p3, p0]), (166, isFn 320)]) 1000 60 13 m34.args m34.h) m34.v m34.h' = true := by kernel_rfl
theorem m34_ok {σ : Nat → Int} {W0 : World} (hL : L0 W0) : MemoOk Tryz.prog 511 σ W0 13 m34 := memo_ok fit (Known2.nil σ) (FnsOk.cons (pure_fn_ok (all_cons (p3_ok hL) (all_cons (p0_ok hL) (all_nil)))) (FnsOk.cons (ext_is hL) (FnsOk.nil))) m34_run
noncomputable def p35 : Pur := ([.agg [I 3, I 1, I 0, I 0, U 0]], .inil, 1048576)
theorem p35_run : ranPure (evCall (cxX Tryz.prog bad [] [] [(166, isFn 320)]) 1000 60 67 p35.1 ⟨.lf, p35.2.2⟩) p35.2.1 = true := by kernel_rfl
theorem p35_ok {σ : Nat → Int} {W0 : World} (hL : L0 W0) : PureOk Tryz.prog 511 σ W0 67 p35 := pure_ok fit (Known2.nil σ) (FnsOk.cons (ext_is hL) (FnsOk.nil)) p35_run
noncomputable def p36 : Pur := ([.agg [I 3, I 2, I 0, I 0, U 0]], .inil, 1048576)
theorem p36_run : ranPure (evCall (cxX Tryz.prog bad [] [] [(166, isFn 320)]) 1000 60 67 p36.1 ⟨.lf, p36.2.2⟩) p36.2.1 = true := by kernel_rfl
theorem p36_ok {σ : Nat → Int} {W0 : World} (hL : L0 W0) : PureOk Tryz.prog 511 σ W0 67 p36 := pure_ok fit (Known2.nil σ) (FnsOk.cons (ext_is hL) (FnsOk.nil)) p36_run
noncomputable def p37 : Pur := ([.agg [I 2, I 0, I 0, I 0, U 1]], .inil, 1048576)
theorem p37_run : ranPure (evCall (cxX Tryz.prog bad [] [] [(166, isFn 320)]) 1000 60 67 p37.1 ⟨.lf, p37.2.2⟩) p37.2.1 = true := by kernel_rfl
theorem p37_ok {σ : Nat → Int} {W0 : World} (hL : L0 W0) : PureOk Tryz.prog 511 σ W0 67 p37 := pure_ok fit (Known2.nil σ) (FnsOk.cons (ext_is hL) (FnsOk.nil)) p37_run
noncomputable def h30 : H := hUpd h29 1091 [] [] []
noncomputable def h31 : H := hUpc h17 1880 [] [(62, .map [(.agg [I 3, I 0], .agg [I 0, I 0], 0), (.agg [I 3, I 1], .agg [I 1, I 0], 1), (.agg [I 3, I 2], .agg [I 1, I 0], 2), (.agg [I 2, I 0], .agg [I 1, I 0], 3), (.agg [I 4, I 0], .agg [I 1, I 0], 4)] 5)] [(22, 0, [bT, I 0, bF]),
  (26, 1, [bT, I 0, bF]),
  (26, 2, [bT, I 0, bF]),
  (61, 0, [IZ (-1), I 30, I 5]),
  (61, 1, [I 0, I 4, I 4]),
  (33, 0, [bT, I 0, bF])] [(28, 1, 3, .int .u32 (.var 1)), (24, 0, 0, I 3), (24, 0, 1, I 1), (24, 0, 5, I 3), (24, 0, 6, I 2), (35, 0, 9, I 1), (35, 0, 11, I 8), (35, 0, 12, I 1), (35, 0, 16, I 7), (35, 0, 26, I 1), (35, 0, 30, .int .u32 (.var 1)), (35, 0, 91, I 2), (35, 0, 95, U 1), (35, 0, 96, I 7)]
noncomputable def m38 : Memo := ⟨[.ptr 69 0, .agg [I 9, I 0, I 0, I 0, U 0], .agg [U 1, U 0, U 0, U 0, I 8, I 1, I 0, I 0, U 0, I 7, I 0, I 0, I 0, U 0, I 0, I 0, I 0, I 0, U 0]], h30, .tuple [.agg [U 0, U 0, U 0, U 0, I 5, I 0, I 0, I 0, U 0, I 0, I 0, I 0, I 0, U 0, I 0, I 0, I 0, I 0, U 0], bT], h31⟩
theorem m38_run : ranTo (evCall (cxX Tryz.prog bad [(0, 4294967295), (0, 4294967295)] [(true, .bop .rem .u32 (.var 0) (.lit 7), .lit 4, true)] [(67, pureFn [p14, p17, p18, p0, p8, p35, p36, p37, p32]), (166, isFn 320)]) 1000 60 13 m38.args m38.h) m38.v m38.h' = true := by kernel_rfl
theorem m38_ok {σ : Nat → Int} {W0 : World} (hL : L0 W0) (hk : Known2 σ [(0, 4294967295), (0, 4294967295)] [(true, .bop .rem .u32 (.var 0) (.lit 7), .lit 4, true)]) : MemoOk Tryz.prog 511 σ W0 13 m38 := memo_ok fit hk (FnsOk.cons (pure_fn_ok (all_cons (p14_ok hL) (all_cons (p17_ok hL) (all_cons (p18_ok hL) (all_cons (p0_ok hL) (all_cons (p8_ok hL) (all_cons (p35_ok hL) (all_cons (p36_ok hL) (all_cons (p37_ok hL) (all_cons (p32_ok hL hk) (all_nil))))))))))) (FnsOk.cons (ext_is hL) (FnsOk.nil))) m38_run
theorem run4 : isTrue (evCall (cxX Tryz.prog bad [(0, 4294967295), (0, 4294967295)] [(true, .bop .rem .u32 (.var 0) (.lit 7), .lit 4, true)] ((13, frameFn [m4, m6, m9, m33, m12, m13, m15, m34, m38]) :: q1)) 1000 60 3 [.int .u32 (.var 0), .int .u32 (.var 1), bF] (sentH 320 12 errTab)) = true := by kernel_rfl
theorem case4 {σ : Nat → Int} {W : World} (hL : L0 W) (hk : Known2 σ [(0, 4294967295), (0, 4294967295)] [(true, .bop .rem .u32 (.var 0) (.lit 7), .lit 4, true)]) (hT : TabOk Tryz.prog bad 27 σ []) {xs : Array Value} (hv : ∀ ρ, VRs σ ρ [.int .u32 (.var 0), .int .u32 (.var 1), bF] xs.toList) : Calls Tryz.prog 3 xs W fun e w' => e = .returned (.bool true) ∧ Below W.heap.size W w' := by
  obtain ⟨ads, h1, h2, h3⟩ := errs_sents hL
  exact law_case_x fit h1 h2 h3 errs_all errs_lt (by kernel_rfl) hk (FnsOk.cons (frame_fn_ok (all_cons (m4_ok hL) (all_cons (m6_ok hL) (all_cons (m9_ok hL) (all_cons (m33_ok hL hk) (all_cons (m12_ok hL) (all_cons (m13_ok hL) (all_cons (m15_ok hL) (all_cons (m34_ok hL) (all_cons (m38_ok hL hk) (all_nil))))))))))) ((q1_ok hL))) hv ⟨_, Tryz.func3, rfl⟩ run4
noncomputable def p39 : Pur := ([.agg [I 1, I 0, I 0, I 0, .int .u32 (.var 1)]], .inil, 1048576)
theorem p39_run : ranPure (evCall (cxX Tryz.prog bad [(0, 4294967295), (0, 4294967295)] [(true, .bop .rem .u32 (.var 0) (.lit 7), .lit 5, true)] [(166, isFn 320)]) 1000 60 67 p39.1 ⟨.lf, p39.2.2⟩) p39.2.1 = true := by kernel_rfl
theorem p39_ok {σ : Nat → Int} {W0 : World} (hL : L0 W0) (hk : Known2 σ [(0, 4294967295), (0, 4294967295)] [(true, .bop .rem .u32 (.var 0) (.lit 7), .lit 5, true)]) : PureOk Tryz.prog 511 σ W0 67 p39 := pure_ok fit hk (FnsOk.cons (ext_is hL) (FnsOk.nil)) p39_run
noncomputable def m40 : Memo := ⟨[.ptr 69 0, .agg [I 10, I 0, I 0, I 0, U 0], .agg [U 0, U 2, U 0, U 0, I 1, I 0, I 0, I 0, .int .u32 (.var 1), I 0, I 0, I 0, I 0, U 0, I 0, I 0, I 0, I 0, U 0]], h8, .tuple [.agg [U 0, U 0, U 0, U 0, I 0, I 0, I 0, I 0, U 0, I 0, I 0, I 0, I 0, U 0, I 0, I 0, I 0, I 0, U 0], bT], h9⟩
theorem m40_run : ranTo (evCall (cxX Tryz.prog bad [(0, 4294967295), (0, 4294967295)] [(true, .bop .rem .u32 (.var 0) (.lit 7), .lit 5, true)] [(67, pureFn [p7, p39, p0]), (166, isFn 320)]) 1000 60 13 m40.args m40.h) m40.v m40.h' = true := by kernel_rfl
theorem m40_ok {σ : Nat → Int} {W0 : World} (hL : L0 W0) (hk : Known2 σ [(0, 4294967295), (0, 4294967295)] [(true, .bop .rem .u32 (.var 0) (.lit 7), .lit 5, true)]) : MemoOk Tryz.prog 511 σ W0 13 m40 := memo_ok fit hk (FnsOk.cons (pure_fn_ok (all_cons (p7_ok hL) (all_cons (p39_ok hL hk) (all_cons (p0_ok hL) (all_nil))))) (FnsOk.cons (ext_is hL) (FnsOk.nil))) m40_run
noncomputable def h32 : H := hUpd h17 1060 [] [] [(61, 1, [I 0, I 5, I 0])]
noncomputable def m41 : Memo := ⟨[.ptr 69 0, .agg [I 8, I 0, I 0, I 0, U 0], .agg [U 2, U 5, U 0, U 0, I 0, I 0, I 0, I 0, U 0, I 0, I 0, I 0, I 0, U 0, I 0, I 0, I 0, I 0, U 0]], h16, .tuple [.agg [U 0, U 0, U 0, U 0, I 8, I 1, I 0, I 0, U 0, I 0, I 0, I 0, I 0, U 0, I 0, I 0, I 0, I 0, U 0], bT], h32⟩
theorem m41_run : ranTo (evCall (cxX Tryz.prog bad [] [] [(67, pureFn [p3, p0]), (166, isFn 320)]) 1000 60 13 m41.args m41.h) m41.v m41.h' = true := by kernel_rfl
theorem m41_ok {σ : Nat → Int} {W0 : World} (hL : L0 W0) : MemoOk Tryz.prog 511 σ W0 13 m41 := memo_ok fit (Known2.nil σ) (FnsOk.cons (pure_fn_ok (all_cons (p3_ok hL) (all_cons (p0_ok hL) (all_nil)))) (FnsOk.cons (ext_is hL) (FnsOk.nil))) m41_run
noncomputable def h33 : H := hUpd h32 1091 [] [] []
noncomputable def h34 : H := hUpd h31 1880 [] [] [(61, 1, [I 0, I 5, I 4])]
noncomputable def m42 : Memo := ⟨[.ptr 69 0, .agg [I 9, I 0, I 0, I 0, U 0], .agg [U 1, U 0, U 0, U 0, I 8, I 1, I 0, I 0, U 0, I 7, I 0, I 0, I 0, U 0, I 0, I 0, I 0, I 0, U 0]], h33, .tuple [.agg [U 0, U 0, U 0, U 0, I 5, I 0, I 0, I 0, U 0, I 0, I 0, I 0, I 0, U 0, I 0, I 0, I 0, I 0, U 0], bT], h34⟩
theorem m42_run : ranTo (evCall (cxX Tryz.prog bad [(0, 4294967295), (0, 4294967295)] [(true, .bop .rem .u32 (.var 0) (.lit 7), .lit 5, true)] [(67, pureFn [p14, p17, p18, p0, p8, p35, p36, p37, p39]), (166, isFn 320)]) 1000 60 13 m42.args m42.h) m42.v m42.h' = true := by kernel_rfl
theorem m42_ok {σ : Nat → Int} {W0 : World} (hL : L0 W0) (hk : Known2 σ [(0, 4294967295), (0, 4294967295)] [(true, .bop .rem .u32 (.var 0) (.lit 7), .lit 5, true)]) : MemoOk Tryz.prog 511 σ W0 13 m42 := memo_ok fit hk (FnsOk.cons (pure_fn_ok (all_cons (p14_ok hL) (all_cons (p17_ok hL) (all_cons (p18_ok hL) (all_cons (p0_ok hL) (all_cons (p8_ok hL) (all_cons (p35_ok hL) (all_cons (p36_ok hL) (all_cons (p37_ok hL) (all_cons (p39_ok hL hk) (all_nil))))))))))) (FnsOk.cons (ext_is hL) (FnsOk.nil))) m42_run
theorem run5 : isTrue (evCall (cxX Tryz.prog bad [(0, 4294967295), (0, 4294967295)] [(true, .bop .rem .u32 (.var 0) (.lit 7), .lit 5, true)] ((13, frameFn [m4, m6, m9, m40, m12, m13, m15, m41, m42]) :: q1)) 1000 60 3 [.int .u32 (.var 0), .int .u32 (.var 1), bF] (sentH 320 12 errTab)) = true := by kernel_rfl
theorem case5 {σ : Nat → Int} {W : World} (hL : L0 W) (hk : Known2 σ [(0, 4294967295), (0, 4294967295)] [(true, .bop .rem .u32 (.var 0) (.lit 7), .lit 5, true)]) (hT : TabOk Tryz.prog bad 27 σ []) {xs : Array Value} (hv : ∀ ρ, VRs σ ρ [.int .u32 (.var 0), .int .u32 (.var 1), bF] xs.toList) : Calls Tryz.prog 3 xs W fun e w' => e = .returned (.bool true) ∧ Below W.heap.size W w' := by
  obtain ⟨ads, h1, h2, h3⟩ := errs_sents hL
  exact law_case_x fit h1 h2 h3 errs_all errs_lt (by kernel_rfl) hk (FnsOk.cons (frame_fn_ok (all_cons (m4_ok hL) (all_cons (m6_ok hL) (all_cons (m9_ok hL) (all_cons (m40_ok hL hk) (all_cons (m12_ok hL) (all_cons (m13_ok hL) (all_cons (m15_ok hL) (all_cons (m41_ok hL) (all_cons (m42_ok hL hk) (all_nil))))))))))) ((q1_ok hL))) hv ⟨_, Tryz.func3, rfl⟩ run5
noncomputable def p43 : Pur := ([.agg [I 1, I 0, I 0, I 0, .int .u32 (.var 1)]], .inil, 1048576)
theorem p43_run : ranPure (evCall (cxX Tryz.prog bad [(0, 4294967295), (0, 4294967295)] [(true, .bop .rem .u32 (.var 0) (.lit 7), .lit 6, true)] [(166, isFn 320)]) 1000 60 67 p43.1 ⟨.lf, p43.2.2⟩) p43.2.1 = true := by kernel_rfl
theorem p43_ok {σ : Nat → Int} {W0 : World} (hL : L0 W0) (hk : Known2 σ [(0, 4294967295), (0, 4294967295)] [(true, .bop .rem .u32 (.var 0) (.lit 7), .lit 6, true)]) : PureOk Tryz.prog 511 σ W0 67 p43 := pure_ok fit hk (FnsOk.cons (ext_is hL) (FnsOk.nil)) p43_run
noncomputable def m44 : Memo := ⟨[.ptr 69 0, .agg [I 10, I 0, I 0, I 0, U 0], .agg [U 0, U 2, U 0, U 0, I 1, I 0, I 0, I 0, .int .u32 (.var 1), I 0, I 0, I 0, I 0, U 0, I 0, I 0, I 0, I 0, U 0]], h8, .tuple [.agg [U 0, U 0, U 0, U 0, I 0, I 0, I 0, I 0, U 0, I 0, I 0, I 0, I 0, U 0, I 0, I 0, I 0, I 0, U 0], bT], h9⟩
theorem m44_run : ranTo (evCall (cxX Tryz.prog bad [(0, 4294967295), (0, 4294967295)] [(true, .bop .rem .u32 (.var 0) (.lit 7), .lit 6, true)] [(67, pureFn [p7, p43, p0]), (166, isFn 320)]) 1000 60 13 m44.args m44.h) m44.v m44.h' = true := by kernel_rfl
theorem m44_ok {σ : Nat → Int} {W0 : World} (hL : L0 W0) (hk : Known2 σ [(0, 4294967295), (0, 4294967295)] [(true, .bop .rem .u32 (.var 0) (.lit 7), .lit 6, true)]) : MemoOk Tryz.prog 511 σ W0 13 m44 := memo_ok fit hk (FnsOk.cons (pure_fn_ok (all_cons (p7_ok hL) (all_cons (p43_ok hL hk) (all_cons (p0_ok hL) (all_nil))))) (FnsOk.cons (ext_is hL) (FnsOk.nil))) m44_run
noncomputable def h35 : H := hUpd h17 1060 [] [] [(61, 1, [I 0, I 6, I 0])]
noncomputable def m45 : Memo := ⟨[.ptr 69 0, .agg [I 8, I 0, I 0, I 0, U 0], .agg [U 2, U 6, U 0, U 0, I 0, I 0, I 0, I 0, U 0, I 0, I 0, I 0, I 0, U 0, I 0, I 0, I 0, I 0, U 0]], h16, .tuple [.agg [U 0, U 0, U 0, U 0, I 8, I 1, I 0, I 0, U 0, I 0, I 0, I 0, I 0, U 0, I 0, I 0, I 0, I 0, U 0], bT], h35⟩
theorem m45_run : ranTo (evCall (cxX Tryz.prog bad [] [] [(67, pureFn [p3, p0]), (166, isFn 320)]) 1000 60 13 m45.args m45.h) m45.v m45.h' = true := by kernel_rfl
theorem m45_ok {σ : Nat → Int} {W0 : World} (hL : L0 W0) : MemoOk Tryz.prog 511 σ W0 13 m45 := memo_ok fit (Known2.nil σ) (FnsOk.cons (pure_fn_ok (all_cons (p3_ok hL) (all_cons (p0_ok hL) (all_nil)))) (FnsOk.cons (ext_is hL) (FnsOk.nil))) m45_run
noncomputable def h36 : H := hUpd h35 1091 [] [] []
noncomputable def h37 : H := hUpd h31 1880 [] [] [(61, 1, [I 0, I 6, I 4])]
noncomputable def m46 : Memo := ⟨[.ptr 69 0, .agg [I 9, I 0, I 0, I 0, U 0], .agg [U 1, U 0, U 0, U 0, I 8, I 1, I 0, I 0, U 0, I 7, I 0, I 0, I 0, U 0, I 0, I 0, I 0, I 0, U 0]], h36, .tuple [.agg [U 0, U 0, U 0, U 0, I 5, I 0, I 0, I 0, U 0, I 0, I 0, I 0, I 0, U 0, I 0, I 0, I 0, I 0, U 0], bT], h37⟩
theorem m46_run : ranTo (evCall (cxX Tryz.prog bad [(0, 4294967295), (0, 4294967295)] [(true, .bop .rem .u32 (.var 0) (.lit 7), .lit 6, true)] [(67, pureFn [p14, p17, p18, p0, p8, p35, p36, p37, p43]), (166, isFn 320)]) 1000 60 13 m46.args m46.h) m46.v m46.h' = true := by kernel_rfl
theorem m46_ok {σ : Nat → Int} {W0 : World} (hL : L0 W0) (hk : Known2 σ [(0, 4294967295), (0, 4294967295)] [(true, .bop .rem .u32 (.var 0) (.lit 7), .lit 6, true)]) : MemoOk Tryz.prog 511 σ W0 13 m46 := memo_ok fit hk (FnsOk.cons (pure_fn_ok (all_cons (p14_ok hL) (all_cons (p17_ok hL) (all_cons (p18_ok hL) (all_cons (p0_ok hL) (all_cons (p8_ok hL) (all_cons (p35_ok hL) (all_cons (p36_ok hL) (all_cons (p37_ok hL) (all_cons (p43_ok hL hk) (all_nil))))))))))) (FnsOk.cons (ext_is hL) (FnsOk.nil))) m46_run
theorem run6 : isTrue (evCall (cxX Tryz.prog bad [(0, 4294967295), (0, 4294967295)] [(true, .bop .rem .u32 (.var 0) (.lit 7), .lit 6, true)] ((13, frameFn [m4, m6, m9, m44, m12, m13, m15, m45, m46]) :: q1)) 1000 60 3 [.int .u32 (.var 0), .int .u32 (.var 1), bF] (sentH 320 12 errTab)) = true := by kernel_rfl
theorem case6 {σ : Nat → Int} {W : World} (hL : L0 W) (hk : Known2 σ [(0, 4294967295), (0, 4294967295)] [(true, .bop .rem .u32 (.var 0) (.lit 7), .lit 6, true)]) (hT : TabOk Tryz.prog bad 27 σ []) {xs : Array Value} (hv : ∀ ρ, VRs σ ρ [.int .u32 (.var 0), .int .u32 (.var 1), bF] xs.toList) : Calls Tryz.prog 3 xs W fun e w' => e = .returned (.bool true) ∧ Below W.heap.size W w' := by
  obtain ⟨ads, h1, h2, h3⟩ := errs_sents hL
  exact law_case_x fit h1 h2 h3 errs_all errs_lt (by kernel_rfl) hk (FnsOk.cons (frame_fn_ok (all_cons (m4_ok hL) (all_cons (m6_ok hL) (all_cons (m9_ok hL) (all_cons (m44_ok hL hk) (all_cons (m12_ok hL) (all_cons (m13_ok hL) (all_cons (m15_ok hL) (all_cons (m45_ok hL) (all_cons (m46_ok hL hk) (all_nil))))))))))) ((q1_ok hL))) hv ⟨_, Tryz.func3, rfl⟩ run6
noncomputable def h38 : H := hUpc h9 709 [] [] [] [(66, 0, 16, I 8)]
noncomputable def m47 : Memo := ⟨[.ptr 69 0, .agg [I 10, I 0, I 0, I 0, U 0], .agg [U 0, U 3, U 0, U 0, I 8, I 0, I 0, I 0, U 0, I 0, I 0, I 0, I 0, U 0, I 0, I 0, I 0, I 0, U 0]], h10, .tuple [.agg [U 0, U 0, U 0, U 0, I 0, I 0, I 0, I 0, U 0, I 0, I 0, I 0, I 0, U 0, I 0, I 0, I 0, I 0, U 0], bT], h38⟩
theorem m47_run : ranTo (evCall (cxX Tryz.prog bad [] [] [(67, pureFn [p7, p3, p0]), (166, isFn 320)]) 1000 60 13 m47.args m47.h) m47.v m47.h' = true := by kernel_rfl
theorem m47_ok {σ : Nat → Int} {W0 : World} (hL : L0 W0) : MemoOk Tryz.prog 511 σ W0 13 m47 := memo_ok fit (Known2.nil σ) (FnsOk.cons (pure_fn_ok (all_cons (p7_ok hL) (all_cons (p3_ok hL) (all_cons (p0_ok hL) (all_nil))))) (FnsOk.cons (ext_is hL) (FnsOk.nil))) m47_run
noncomputable def h39 : H := hUpd h38 714 [] [] []
noncomputable def h40 : H := hUpc h38 800 [] [] [] [(66, 0, 0, bT)]
noncomputable def m48 : Memo := ⟨[.ptr 69 0, .agg [I 10, I 0, I 0, I 0, U 0], .agg [U 1, U 0, U 0, U 0, I 0, I 0, I 0, I 0, U 0, I 0, I 0, I 0, I 0, U 0, I 0, I 0, I 0, I 0, U 0]], h39, .tuple [.agg [U 0, U 0, U 0, U 0, I 9, I 0, I 0, I 0, U 0, I 0, I 0, I 0, I 0, U 0, I 0, I 0, I 0, I 0, U 0], bT], h40⟩
theorem m48_run : ranTo (evCall (cxX Tryz.prog bad [] [] [(67, pureFn [p7, p0]), (166, isFn 320)]) 1000 60 13 m48.args m48.h) m48.v m48.h' = true := by kernel_rfl
theorem m48_ok {σ : Nat → Int} {W0 : World} (hL : L0 W0) : MemoOk Tryz.prog 511 σ W0 13 m48 := memo_ok fit (Known2.nil σ) (FnsOk.cons (pure_fn_ok (all_cons (p7_ok hL) (all_cons (p0_ok hL) (all_nil)))) (FnsOk.cons (ext_is hL) (FnsOk.nil))) m48_run
noncomputable def h41 : H := hUpd h40 806 [] [] []
noncomputable def h42 : H := hUpd h40 854 [] [] []
noncomputable def m49 : Memo := ⟨[.ptr 69 0, .agg [I 10, I 0, I 0, I 0, U 0], .agg [U 0, U 1, U 0, U 0, I 0, I 0, I 0, I 0, U 0, I 0, I 0, I 0, I 0, U 0, I 0, I 0, I 0, I 0, U 0]], h41, .tuple [.agg [U 1, U 0, U 0, U 0, I 0, I 0, I 0, I 0, U 0, I 0, I 0, I 0, I 0, U 0, I 0, I 0, I 0, I 0, U 0], bT], h42⟩
theorem m49_run : ranTo (evCall (cxX Tryz.prog bad [] [] [(67, pureFn [p7, p0]), (166, isFn 320)]) 1000 60 13 m49.args m49.h) m49.v m49.h' = true := by kernel_rfl
theorem m49_ok {σ : Nat → Int} {W0 : World} (hL : L0 W0) : MemoOk Tryz.prog 511 σ W0 13 m49 := memo_ok fit (Known2.nil σ) (FnsOk.cons (pure_fn_ok (all_cons (p7_ok hL) (all_cons (p0_ok hL) (all_nil)))) (FnsOk.cons (ext_is hL) (FnsOk.nil))) m49_run
noncomputable def h43 : H := hUpd h40 859 [] [] []
noncomputable def h44 : H := hUpd h40 1064 [] [] []
noncomputable def m50 : Memo := ⟨[.ptr 69 0, .agg [I 9, I 0, I 0, I 0, U 0], .agg [U 0, U 0, U 0, U 0, I 0, I 0, I 0, I 0, U 0, I 0, I 0, I 0, I 0, U 0, I 0, I 0, I 0, I 0, U 0]], h43, .tuple [.agg [U 0, U 1, U 3, U 0, I 0, I 0, I 0, I 0, U 0, I 0, I 0, I 0, I 0, U 0, I 0, I 0, I 0, I 0, U 0], bT], h44⟩
theorem m50_run : ranTo (evCall (cxX Tryz.prog bad [] [] [(67, pureFn [p14, p0]), (166, isFn 320)]) 1000 60 13 m50.args m50.h) m50.v m50.h' = true := by kernel_rfl
theorem m50_ok {σ : Nat → Int} {W0 : World} (hL : L0 W0) : MemoOk Tryz.prog 511 σ W0 13 m50 := memo_ok fit (Known2.nil σ) (FnsOk.cons (pure_fn_ok (all_cons (p14_ok hL) (all_cons (p0_ok hL) (all_nil)))) (FnsOk.cons (ext_is hL) (FnsOk.nil))) m50_run
noncomputable def h45 : H := hUpd h40 1070 [] [] []
noncomputable def h46 : H := hUpd h40 1160 [] [] [(59, 1, [bT, I 0, bF])]
noncomputable def m51 : Memo := ⟨[.ptr 69 0, .agg [I 8, I 0, I 0, I 0, U 0], .agg [U 2, U 0, U 0, U 0, I 0, I 0, I 0, I 0, U 0, I 0, I 0, I 0, I 0, U 0, I 0, I 0, I 0, I 0, U 0]], h45, .tuple [.agg [U 0, U 0, U 0, U 0, I 8, I 1, I 0, I 0, U 0, I 0, I 0, I 0, I 0, U 0, I 0, I 0, I 0, I 0, U 0], bT], h46⟩
theorem m51_run : ranTo (evCall (cxX Tryz.prog bad [] [] [(67, pureFn [p3, p0]), (166, isFn 320)]) 1000 60 13 m51.args m51.h) m51.v m51.h' = true := by kernel_rfl
theorem m51_ok {σ : Nat → Int} {W0 : World} (hL : L0 W0) : MemoOk Tryz.prog 511 σ W0 13 m51 := memo_ok fit (Known2.nil σ) (FnsOk.cons (pure_fn_ok (all_cons (p3_ok hL) (all_cons (p0_ok hL) (all_nil)))) (FnsOk.cons (ext_is hL) (FnsOk.nil))) m51_run
noncomputable def h47 : H := hUpd h46 1191 [] [] []
noncomputable def h48 : H := hUpd h46 1430 [] [] []
noncomputable def m52 : Memo := ⟨[.ptr 69 0, .agg [I 9, I 0, I 0, I 0, U 0], .agg [U 1, U 0, U 0, U 0, I 8, I 1, I 0, I 0, U 0, I 7, I 0, I 0, I 0, U 0, I 0, I 0, I 0, I 0, U 0]], h47, .tuple [.agg [U 6, U 0, U 0, U 0, I 0, I 0, I 0, I 0, U 0, I 0, I 0, I 0, I 0, U 0, I 0, I 0, I 0, I 0, U 0], bT], h48⟩
theorem m52_run : ranTo (evCall (cxX Tryz.prog bad [] [] [(67, pureFn l0), (166, isFn 320)]) 1000 60 13 m52.args m52.h) m52.v m52.h' = true := by kernel_rfl
theorem m52_ok {σ : Nat → Int} {W0 : World} (hL : L0 W0) : MemoOk Tryz.prog 511 σ W0 13 m52 := memo_ok fit (Known2.nil σ) (FnsOk.cons (pure_fn_ok (l0_ok hL)) (FnsOk.cons (ext_is hL) (FnsOk.nil))) m52_run
theorem run7 : isTrue (evCall (cxX Tryz.prog bad [(0, 4294967295), (0, 4294967295)] [(true, .bop .rem .u32 (.var 0) (.lit 7), .lit 0, true)] ((13, frameFn [m4, m6, m9, m11, m47, m48, m49, m50, m51, m52]) :: q1)) 1000 60 3 [.int .u32 (.var 0), .int .u32 (.var 1), bT] (sentH 320 12 errTab)) = true := by kernel_rfl
theorem case7 {σ : Nat → Int} {W : World} (hL : L0 W) (hk : Known2 σ [(0, 4294967295), (0, 4294967295)] [(true, .bop .rem .u32 (.var 0) (.lit 7), .lit 0, true)]) (hT : TabOk Tryz.prog bad 27 σ []) {xs : Array Value} (hv : ∀ ρ, VRs σ ρ [.int .u32 (.var 0), .int .u32 (.var 1), bT] xs.toList) : Calls Tryz.prog 3 xs W fun e w' => e = .returned (.bool true) ∧ Below W.heap.size W w' := by
  obtain ⟨ads, h1, h2, h3⟩ := errs_sents hL
  exact law_case_x fit h1 h2 h3 errs_all errs_lt (by kernel_rfl) hk (FnsOk.cons (frame_fn_ok (all_cons (m4_ok hL) (all_cons (m6_ok hL) (all_cons (m9_ok hL) (all_cons (m11_ok hL hk) (all_cons (m47_ok hL) (all_cons (m48_ok hL) (all_cons (m49_ok hL) (all_cons (m50_ok hL) (all_cons (m51_ok hL) (all_cons (m52_ok hL) (all_nil)))))))))))) ((q1_ok hL))) hv ⟨_, Tryz.func3, rfl⟩ run7
noncomputable def h49 : H := hUpd h46 1160 [] [] [(61, 1, [I 0, I 1, I 0])]
noncomputable def m53 : Memo := ⟨[.ptr 69 0, .agg [I 8, I 0, I 0, I 0, U 0], .agg [U 2, U 1, U 0, U 0, I 0, I 0, I 0, I 0, U 0, I 0, I 0, I 0, I 0, U 0, I 0, I 0, I 0, I 0, U 0]], h45, .tuple [.agg [U 0, U 0, U 0, U 0, I 8, I 1, I 0, I 0, U 0, I 0, I 0, I 0, I 0, U 0, I 0, I 0, I 0, I 0, U 0], bT], h49⟩
theorem m53_run : ranTo (evCall (cxX Tryz.prog bad [] [] [(67, pureFn [p3, p0]), (166, isFn 320)]) 1000 60 13 m53.args m53.h) m53.v m53.h' = true := by kernel_rfl
theorem m53_ok {σ : Nat → Int} {W0 : World} (hL : L0 W0) : MemoOk Tryz.prog 511 σ W0 13 m53 := memo_ok fit (Known2.nil σ) (FnsOk.cons (pure_fn_ok (all_cons (p3_ok hL) (all_cons (p0_ok hL) (all_nil)))) (FnsOk.cons (ext_is hL) (FnsOk.nil))) m53_run
noncomputable def h50 : H := hUpd h49 1191 [] [] []
noncomputable def h51 : H := hUpd h49 1430 [] [] []
noncomputable def m54 : Memo := ⟨[.ptr 69 0, .agg [I 9, I 0, I 0, I 0, U 0], .agg [U 1, U 0, U 0, U 0, I 8, I 1, I 0, I 0, U 0, I 7, I 0, I 0, I 0, U 0, I 0, I 0, I 0, I 0, U 0]], h50, .tuple [.agg [U 6, U 0, U 0, U 0, I 0, I 0, I 0, I 0, U 0, I 0, I 0, I 0, I 0, U 0, I 0, I 0, I 0, I 0, U 0], bT], h51⟩
theorem m54_run : ranTo (evCall (cxX Tryz.prog bad [] [] [(67, pureFn l0), (166, isFn 320)]) 1000 60 13 m54.args m54.h) m54.v m54.h' = true := by kernel_rfl
theorem m54_ok {σ : Nat → Int} {W0 : World} (hL : L0 W0) : MemoOk Tryz.prog 511 σ W0 13 m54 := memo_ok fit (Known2.nil σ) (FnsOk.cons (pure_fn_ok (l0_ok hL)) (FnsOk.cons (ext_is hL) (FnsOk.nil))) m54_run
theorem run8 : isTrue (evCall (cxX Tryz.prog bad [(0, 4294967295), (0, 4294967295)] [(true, .bop .rem .u32 (.var 0) (.lit 7), .lit 1, true)] ((13, frameFn [m4, m6, m9, m21, m47, m48, m49, m50, m53, m54]) :: q1)) 1000 60 3 [.int .u32 (.var 0), .int .u32 (.var 1), bT] (sentH 320 12 errTab)) = true := by kernel_rfl
theorem case8 {σ : Nat → Int} {W : World} (hL : L0 W) (hk : Known2 σ [(0, 4294967295), (0, 4294967295)] [(true, .bop .rem .u32 (.var 0) (.lit 7), .lit 1, true)]) (hT : TabOk Tryz.prog bad 27 σ []) {xs : Array Value} (hv : ∀ ρ, VRs σ ρ [.int .u32 (.var 0), .int .u32 (.var 1), bT] xs.toList) : Calls Tryz.prog 3 xs W fun e w' => e = .returned (.bool true) ∧ Below W.heap.size W w' := by
  obtain ⟨ads, h1, h2, h3⟩ := errs_sents hL
  exact law_case_x fit h1 h2 h3 errs_all errs_lt (by kernel_rfl) hk (FnsOk.cons (frame_fn_ok (all_cons (m4_ok hL) (all_cons (m6_ok hL) (all_cons (m9_ok hL) (all_cons (m21_ok hL hk) (all_cons (m47_ok hL) (all_cons (m48_ok hL) (all_cons (m49_ok hL) (all_cons (m50_ok hL) (all_cons (m53_ok hL) (all_cons (m54_ok hL) (all_nil)))))))))))) ((q1_ok hL))) hv ⟨_, Tryz.func3, rfl⟩ run8
noncomputable def h52 : H := hUpd h46 1160 [] [] [(61, 1, [I 0, I 2, I 0])]
noncomputable def m55 : Memo := ⟨[.ptr 69 0, .agg [I 8, I 0, I 0, I 0, U 0], .agg [U 2, U 2, U 0, U 0, I 0, I 0, I 0, I 0, U 0, I 0, I 0, I 0, I 0, U 0, I 0, I 0, I 0, I 0, U 0]], h45, .tuple [.agg [U 0, U 0, U 0, U 0, I 8, I 1, I 0, I 0, U 0, I 0, I 0, I 0, I 0, U 0, I 0, I 0, I 0, I 0, U 0], bT], h52⟩
theorem m55_run : ranTo (evCall (cxX Tryz.prog bad [] [] [(67, pureFn [p3, p0]), (166, isFn 320)]) 1000 60 13 m55.args m55.h) m55.v m55.h' = true := by kernel_rfl
theorem m55_ok {σ : Nat → Int} {W0 : World} (hL : L0 W0) : MemoOk Tryz.prog 511 σ W0 13 m55 := memo_ok fit (Known2.nil σ) (FnsOk.cons (pure_fn_ok (all_cons (p3_ok hL) (all_cons (p0_ok hL) (all_nil)))) (FnsOk.cons (ext_is hL) (FnsOk.nil))) m55_run
noncomputable def h53 : H := hUpd h52 1191 [] [] []
noncomputable def h54 : H := hUpd h52 1430 [] [] []
noncomputable def m56 : Memo := ⟨[.ptr 69 0, .agg [I 9, I 0, I 0, I 0, U 0], .agg [U 1, U 0, U 0, U 0, I 8, I 1, I 0, I 0, U 0, I 7, I 0, I 0, I 0, U 0, I 0, I 0, I 0, I 0, U 0]], h53, .tuple [.agg [U 6, U 0, U 0, U 0, I 0, I 0, I 0, I 0, U 0, I 0, I 0, I 0, I 0, U 0, I 0, I 0, I 0, I 0, U 0], bT], h54⟩
theorem m56_run : ranTo (evCall (cxX Tryz.prog bad [] [] [(67, pureFn l0), (166, isFn 320)]) 1000 60 13 m56.args m56.h) m56.v m56.h' = true := by kernel_rfl
theorem m56_ok {σ : Nat → Int} {W0 : World} (hL : L0 W0) : MemoOk Tryz.prog 511 σ W0 13 m56 := memo_ok fit (Known2.nil σ) (FnsOk.cons (pure_fn_ok (l0_ok hL)) (FnsOk.cons (ext_is hL) (FnsOk.nil))) m56_run
theorem run9 : isTrue (evCall (cxX Tryz.prog bad [(0, 4294967295), (0, 4294967295)] [(true, .bop .rem .u32 (.var 0) (.lit 7), .lit 2, true)] ((13, frameFn [m4, m6, m9, m25, m47, m48, m49, m50, m55, m56]) :: q1)) 1000 60 3 [.int .u32 (.var 0), .int .u32 (.var 1), bT] (sentH 320 12 errTab)) = true := by kernel_rfl
theorem case9 {σ : Nat → Int} {W : World} (hL : L0 W) (hk : Known2 σ [(0, 4294967295), (0, 4294967295)] [(true, .bop .rem .u32 (.var 0) (.lit 7), .lit 2, true)]) (hT : TabOk Tryz.prog bad 27 σ []) {xs : Array Value} (hv : ∀ ρ, VRs σ ρ [.int .u32 (.var 0), .int .u32 (.var 1), bT] xs.toList) : Calls Tryz.prog 3 xs W fun e w' => e = .returned (.bool true) ∧ Below W.heap.size W w' := by
  obtain ⟨ads, h1, h2, h3⟩ := errs_sents hL
  exact law_case_x fit h1 h2 h3 errs_all errs_lt (by kernel_rfl) hk (FnsOk.cons (frame_fn_ok (all_cons (m4_ok hL) (all_cons (m6_ok hL) (all_cons (m9_ok hL) (all_cons (m25_ok hL hk) (all_cons (m47_ok hL) (all_cons (m48_ok hL) (all_cons (m49_ok hL) (all_cons (m50_ok hL) (all_cons (m55_ok hL) (all_cons (m56_ok hL) (all_nil)))))))))))) ((q1_ok hL))) hv ⟨_, Tryz.func3, rfl⟩ run9
noncomputable def h55 : H := hUpd h46 1160 [] [] [(61, 1, [I 0, I 3, I 0])]
noncomputable def m57 : Memo := ⟨[.ptr 69 0, .agg [I 8, I 0, I 0, I 0, U 0], .agg [U 2, U 3, U 0, U 0, I 0, I 0, I 0, I 0, U 0, I 0, I 0, I 0, I 0, U 0, I 0, I 0, I 0, I 0, U 0]], h45, .tuple [.agg [U 0, U 0, U 0, U 0, I 8, I 1, I 0, I 0, U 0, I 0, I 0, I 0, I 0, U 0, I 0, I 0, I 0, I 0, U 0], bT], h55⟩
theorem m57_run : ranTo (evCall (cxX Tryz.prog bad [] [] [(67, pureFn [p3, p0]), (166, isFn 320)]) 1000 60 13 m57.args m57.h) m57.v m57.h' = true := by kernel_rfl
theorem m57_ok {σ : Nat → Int} {W0 : World} (hL : L0 W0) : MemoOk Tryz.prog 511 σ W0 13 m57 := memo_ok fit (Known2.nil σ) (FnsOk.cons (pure_fn_ok (all_cons (p3_ok hL) (all_cons (p0_ok hL) (all_nil)))) (FnsOk.cons (ext_is hL) (FnsOk.nil))) m57_run
noncomputable def h56 : H := hUpd h55 1191 [] [] []
noncomputable def h57 : H := hUpd h55 1430 [] [] []
noncomputable def m58 : Memo := ⟨[.ptr 69 0, .agg [I 9, I 0, I 0, I 0, U 0], .agg [U 1, U 0, U 0, U 0, I 8, I 1, I 0, I 0, U 0, I 7, I 0, I 0, I 0, U 0, I 0, I 0, I 0, I 0, U 0]], h56, .tuple [.agg [U 6, U 0, U 0, U 0, I 0, I 0, I 0, I 0, U 0, I 0, I 0, I 0, I 0, U 0, I 0, I 0, I 0, I 0, U 0], bT], h57⟩
theorem m58_run : ranTo (evCall (cxX Tryz.prog bad [] [] [(67, pureFn l0), (166, isFn 320)]) 1000 60 13 m58.args m58.h) m58.v m58.h' = true := by kernel_rfl
theorem m58_ok {σ : Nat → Int} {W0 : World} (hL : L0 W0) : MemoOk Tryz.prog 511 σ W0 13 m58 := memo_ok fit (Known2.nil σ) (FnsOk.cons (pure_fn_ok (l0_ok hL)) (FnsOk.cons (ext_is hL) (FnsOk.nil))) m58_run
theorem run10 : isTrue (evCall (cxX Tryz.prog bad [(0, 4294967295), (0, 4294967295)] [(true, .bop .rem .u32 (.var 0) (.lit 7), .lit 3, true)] ((13, frameFn [m4, m6, m9, m29, m47, m48, m49, m50, m57, m58]) :: q1)) 1000 60 3 [.int .u32 (.var 0), .int .u32 (.var 1), bT] (sentH 320 12 errTab)) = true := by kernel_rfl
theorem case10 {σ : Nat → Int} {W : World} (hL : L0 W) (hk : Known2 σ [(0, 4294967295), (0, 4294967295)] [(true, .bop .rem .u32 (.var 0) (.lit 7), .lit 3, true)]) (hT : TabOk Tryz.prog bad 27 σ []) {xs : Array Value} (hv : ∀ ρ, VRs σ ρ [.int .u32 (.var 0), .int .u32 (.var 1), bT] xs.toList) : Calls Tryz.prog 3 xs W fun e w' => e = .returned (.bool true) ∧ Below W.heap.size W w' := by
  obtain ⟨ads, h1, h2, h3⟩ := errs_sents hL
  exact law_case_x fit h1 h2 h3 errs_all errs_lt (by kernel_rfl) hk (FnsOk.cons (frame_fn_ok (all_cons (m4_ok hL) (all_cons (m6_ok hL) (all_cons (m9_ok hL) (all_cons (m29_ok hL hk) (all_cons (m47_ok hL) (all_cons (m48_ok hL) (all_cons (m49_ok hL) (all_cons (m50_ok hL) (all_cons (m57_ok hL) (all_cons (m58_ok hL) (all_nil)))))))))))) ((q1_ok hL))) hv ⟨_, Tryz.func3, rfl⟩ run10
noncomputable def h58 : H := hUpd h46 1160 [] [] [(61, 1, [I 0, I 4, I 0])]
noncomputable def m59 : Memo := ⟨[.ptr 69 0, .agg [I 8, I 0, I 0, I 0, U 0], .agg [U 2, U 4, U 0, U 0, I 0, I 0, I 0, I 0, U 0, I 0, I 0, I 0, I 0, U 0, I 0, I 0, I 0, I 0, U 0]], h45, .tuple [.agg [U 0, U 0, U 0, U 0, I 8, I 1, I 0, I 0, U 0, I 0, I 0, I 0, I 0, U 0, I 0, I 0, I 0, I 0, U 0], bT], h58⟩
theorem m59_run : ranTo (evCall (cxX Tryz.prog bad [] [] [(67, pureFn [p3, p0]), (166, isFn 320)]) 1000 60 13 m59.args m59.h) m59.v m59.h' = true := by kernel_rfl
theorem m59_ok {σ : Nat → Int} {W0 : World} (hL : L0 W0) : MemoOk Tryz.prog 511 σ W0 13 m59 := memo_ok fit (Known2.nil σ) (FnsOk.cons (pure_fn_ok (all_cons (p3_ok hL) (all_cons (p0_ok hL) (all_nil)))) (FnsOk.cons (ext_is hL) (FnsOk.nil))) m59_run
noncomputable def h59 : H := hUpd h58 1191 [] [] []
noncomputable def h60 : H := hUpc h31 1993 [] [] [] [(66, 0, 16, I 8), (35, 0, 31, I 8)]
noncomputable def m60 : Memo := ⟨[.ptr 69 0, .agg [I 9, I 0, I 0, I 0, U 0], .agg [U 1, U 0, U 0, U 0, I 8, I 1, I 0, I 0, U 0, I 7, I 0, I 0, I 0, U 0, I 0, I 0, I 0, I 0, U 0]], h59, .tuple [.agg [U 0, U 0, U 0, U 0, I 5, I 0, I 0, I 0, U 0, I 0, I 0, I 0, I 0, U 0, I 0, I 0, I 0, I 0, U 0], bT], h60⟩
theorem m60_run : ranTo (evCall (cxX Tryz.prog bad [(0, 4294967295), (0, 4294967295)] [(true, .bop .rem .u32 (.var 0) (.lit 7), .lit 4, true)] [(67, pureFn [p14, p17, p18, p0, p8, p35, p36, p37, p32, p3]), (166, isFn 320)]) 1000 60 13 m60.args m60.h) m60.v m60.h' = true := by kernel_rfl
theorem m60_ok {σ : Nat → Int} {W0 : World} (hL : L0 W0) (hk : Known2 σ [(0, 4294967295), (0, 4294967295)] [(true, .bop .rem .u32 (.var 0) (.lit 7), .lit 4, true)]) : MemoOk Tryz.prog 511 σ W0 13 m60 := memo_ok fit hk (FnsOk.cons (pure_fn_ok (all_cons (p14_ok hL) (all_cons (p17_ok hL) (all_cons (p18_ok hL) (all_cons (p0_ok hL) (all_cons (p8_ok hL) (all_cons (p35_ok hL) (all_cons (p36_ok hL) (all_cons (p37_ok hL) (all_cons (p32_ok hL hk) (all_cons (p3_ok hL) (all_nil)))))))))))) (FnsOk.cons (ext_is hL) (FnsOk.nil))) m60_run
theorem run11 : isTrue (evCall (cxX Tryz.prog bad [(0, 4294967295), (0, 4294967295)] [(true, .bop .rem .u32 (.var 0) (.lit 7), .lit 4, true)] ((13, frameFn [m4, m6, m9, m33, m47, m48, m49, m50, m59, m60]) :: q1)) 1000 60 3 [.int .u32 (.var 0), .int .u32 (.var 1), bT] (sentH 320 12 errTab)) = true := by kernel_rfl
theorem case11 {σ : Nat → Int} {W : World} (hL : L0 W) (hk : Known2 σ [(0, 4294967295), (0, 4294967295)] [(true, .bop .rem .u32 (.var 0) (.lit 7), .lit 4, true)]) (hT : TabOk Tryz.prog bad 27 σ []) {xs : Array Value} (hv : ∀ ρ, VRs σ ρ [.int .u32 (.var 0), .int .u32 (.var 1), bT] xs.toList) : Calls Tryz.prog 3 xs W fun e w' => e = .returned (.bool true) ∧ Below W.heap.size W w' := by
  obtain ⟨ads, h1, h2, h3⟩ := errs_sents hL
  exact law_case_x fit h1 h2 h3 errs_all errs_lt (by kernel_rfl) hk (FnsOk.cons (frame_fn_ok (all_cons (m4_ok hL) (all_cons (m6_ok hL) (all_cons (m9_ok hL) (all_cons (m33_ok hL hk) (all_cons (m47_ok hL) (all_cons (m48_ok hL) (all_cons (m49_ok hL) (all_cons (m50_ok hL) (all_cons (m59_ok hL) (all_cons (m60_ok hL hk) (all_nil)))))))))))) ((q1_ok hL))) hv ⟨_, Tryz.func3, rfl⟩ run11
noncomputable def h61 : H := hUpd h46 1160 [] [] [(61, 1, [I 0, I 5, I 0])]
noncomputable def m61 : Memo := ⟨[.ptr 69 0, .agg [I 8, I 0, I 0, I 0, U 0], .agg [U 2, U 5, U 0, U 0, I 0, I 0, I 0, I 0, U 0, I 0, I 0, I 0, I 0, U 0, I 0, I 0, I 0, I 0, U 0]], h45, .tuple [.agg [U 0, U 0, U 0, U 0, I 8, I 1, I 0, I 0, U 0, I 0, I 0, I 0, I 0, U 0, I 0, I 0, I 0, I 0, U 0], bT], h61⟩
theorem m61_run : ranTo (evCall (cxX Tryz.prog bad [] [] [(67, pureFn [p3, p0]), (166, isFn 320)]) 1000 60 13 m61.args m61.h) m61.v m61.h' = true := by kernel_rfl
theorem m61_ok {σ : Nat → Int} {W0 : World} (hL : L0 W0) : MemoOk Tryz.prog 511 σ W0 13 m61 := memo_ok fit (Known2.nil σ) (FnsOk.cons (pure_fn_ok (all_cons (p3_ok hL) (all_cons (p0_ok hL) (all_nil)))) (FnsOk.cons (ext_is hL) (FnsOk.nil))) m61_run
noncomputable def h62 : H := hUpd h61 1191 [] [] []
noncomputable def h63 : H := hUpd h60 1993 [] [] [(61, 1, [I 0, I 5, I 4])]
noncomputable def m62 : Memo := ⟨[.ptr 69 0, .agg [I 9, I 0, I 0, I 0, U 0], .agg [U 1, U 0, U 0, U 0, I 8, I 1, I 0, I 0, U 0, I 7, I 0, I 0, I 0, U 0, I 0, I 0, I 0, I 0, U 0]], h62, .tuple [.agg [U 0, U 0, U 0, U 0, I 5, I 0, I 0, I 0, U 0, I 0, I 0, I 0, I 0, U 0, I 0, I 0, I 0, I 0, U 0], bT], h63⟩
theorem m62_run : ranTo (evCall (cxX Tryz.prog bad [(0, 4294967295), (0, 4294967295)] [(true, .bop .rem .u32 (.var 0) (.lit 7), .lit 5, true)] [(67, pureFn [p14, p17, p18, p0, p8, p35, p36, p37, p39, p3]), (166, isFn 320)]) 1000 60 13 m62.args m62.h) m62.v m62.h' = true := by kernel_rfl
theorem m62_ok {σ : Nat → Int} {W0 : World} (hL : L0 W0) (hk : Known2 σ [(0, 4294967295), (0, 4294967295)] [(true, .bop .rem .u32 (.var 0) (.lit 7), .lit 5, true)]) : MemoOk Tryz.prog 511 σ W0 13 m62 := memo_ok fit hk (FnsOk.cons (pure_fn_ok (all_cons (p14_ok hL) (all_cons (p17_ok hL) (all_cons (p18_ok hL) (all_cons (p0_ok hL) (all_cons (p8_ok hL) (all_cons (p35_ok hL) (all_cons (p36_ok hL) (all_cons (p37_ok hL) (all_cons (p39_ok hL hk) (all_cons (p3_ok hL) (all_nil)))))))))))) (FnsOk.cons (ext_is hL) (FnsOk.nil))) m62_run
theorem run12 : isTrue (evCall (cxX Tryz.prog bad [(0, 4294967295), (0, 4294967295)] [(true, .bop .rem .u32 (.var 0) (.lit 7), .lit 5, true)] ((13, frameFn [m4, m6, m9, m40, m47, m48, m49, m50, m61, m62]) :: q1)) 1000 60 3 [.int .u32 (.var 0), .int .u32 (.var 1), bT] (sentH 320 12 errTab)) = true := by kernel_rfl
theorem case12 {σ : Nat → Int} {W : World} (hL : L0 W) (hk : Known2 σ [(0, 4294967295), (0, 4294967295)] [(true, .bop .rem .u32 (.var 0) (.lit 7), .lit 5, true)]) (hT : TabOk Tryz.prog bad 27 σ []) {xs : Array Value} (hv : ∀ ρ, VRs σ ρ [.int .u32 (.var 0), .int .u32 (.var 1), bT] xs.toList) : Calls Tryz.prog 3 xs W fun e w' => e = .returned (.bool true) ∧ Below W.heap.size W w' := by
  obtain ⟨ads, h1, h2, h3⟩ := errs_sents hL
  exact law_case_x fit h1 h2 h3 errs_all errs_lt (by kernel_rfl) hk (FnsOk.cons (frame_fn_ok (all_cons (m4_ok hL) (all_cons (m6_ok hL) (all_cons (m9_ok hL) (all_cons (m40_ok hL hk) (all_cons (m47_ok hL) (all_cons (m48_ok hL) (all_cons (m49_ok hL) (all_cons (m50_ok hL) (all_cons (m61_ok hL) (all_cons (m62_ok hL hk) (all_nil)))))))))))) ((q1_ok hL))) hv ⟨_, Tryz.func3, rfl⟩ run12
noncomputable def h64 : H := hUpd h46 1160 [] [] [(61, 1, [I 0, I 6, I 0])]
noncomputable def m63 : Memo := ⟨[.ptr 69 0, .agg [I 8, I 0, I 0, I 0, U 0], .agg [U 2, U 6, U 0, U 0, I 0, I 0, I 0, I 0, U 0, I 0, I 0, I 0, I 0, U 0, I 0, I 0, I 0, I 0, U 0]], h45, .tuple [.agg [U 0, U 0, U 0, U 0, I 8, I 1, I 0, I 0, U 0, I 0, I 0, I 0, I 0, U 0, I 0, I 0, I 0, I 0, U 0], bT], h64⟩
theorem m63_run : ranTo (evCall (cxX Tryz.prog bad [] [] [(67, pureFn [p3, p0]), (166, isFn 320)]) 1000 60 13 m63.args m63.h) m63.v m63.h' = true := by kernel_rfl
theorem m63_ok {σ : Nat → Int} {W0 : World} (hL : L0 W0) : MemoOk Tryz.prog 511 σ W0 13 m63 := memo_ok fit (Known2.nil σ) (FnsOk.cons (pure_fn_ok (all_cons (p3_ok hL) (all_cons (p0_ok hL) (all_nil)))) (FnsOk.cons (ext_is hL) (FnsOk.nil))) m63_run
noncomputable def h65 : H := hUpd h64 1191 [] [] []
noncomputable def h66 : H := hUpd h60 1993 [] [] [(61, 1, [I 0, I 6, I 4])]
noncomputable def m64 : Memo := ⟨[.ptr 69 0, .agg [I 9, I 0, I 0, I 0, U 0], .agg [U 1, U 0, U 0, U 0, I 8, I 1, I 0, I 0, U 0, I 7, I 0, I 0, I 0, U 0, I 0, I 0, I 0, I 0, U 0]], h65, .tuple [.agg [U 0, U 0, U 0, U 0, I 5, I 0, I 0, I 0, U 0, I 0, I 0, I 0, I 0, U 0, I 0, I 0, I 0, I 0, U 0], bT], h66⟩
theorem m64_run : ranTo (evCall (cxX Tryz.prog bad [(0, 4294967295), (0, 4294967295)] [(true, .bop .rem .u32 (.var 0) (.lit 7), .lit 6, true)] [(67, pureFn [p14, p17, p18, p0, p8, p35, p36, p37, p43, p3]), (166, isFn 320)]) 1000 60 13 m64.args m64.h) m64.v m64.h' = true := by kernel_rfl
theorem m64_ok {σ : Nat → Int} {W0 : World} (hL : L0 W0) (hk : Known2 σ [(0, 4294967295), (0, 4294967295)] [(true, .bop .rem .u32 (.var 0) (.lit 7), .lit 6, true)]) : MemoOk Tryz.prog 511 σ W0 13 m64 := memo_ok fit hk (FnsOk.cons (pure_fn_ok (all_cons (p14_ok hL) (all_cons (p17_ok hL) (all_cons (p18_ok hL) (all_cons (p0_ok hL) (all_cons (p8_ok hL) (all_cons (p35_ok hL) (all_cons (p36_ok hL) (all_cons (p37_ok hL) (all_cons (p43_ok hL hk) (all_cons (p3_ok hL) (all_nil)))))))))))) (FnsOk.cons (ext_is hL) (FnsOk.nil))) m64_run
theorem run13 : isTrue (evCall (cxX Tryz.prog bad [(0, 4294967295), (0, 4294967295)] [(true, .bop .rem .u32 (.var 0) (.lit 7), .lit 6, true)] ((13, frameFn [m4, m6, m9, m44, m47, m48, m49, m50, m63, m64]) :: q1)) 1000 60 3 [.int .u32 (.var 0), .int .u32 (.var 1), bT] (sentH 320 12 errTab)) = true := by kernel_rfl
theorem case13 {σ : Nat → Int} {W : World} (hL : L0 W) (hk : Known2 σ [(0, 4294967295), (0, 4294967295)] [(true, .bop .rem .u32 (.var 0) (.lit 7), .lit 6, true)]) (hT : TabOk Tryz.prog bad 27 σ []) {xs : Array Value} (hv : ∀ ρ, VRs σ ρ [.int .u32 (.var 0), .int .u32 (.var 1), bT] xs.toList) : Calls Tryz.prog 3 xs W fun e w' => e = .returned (.bool true) ∧ Below W.heap.size W w' := by
  obtain ⟨ads, h1, h2, h3⟩ := errs_sents hL
  exact law_case_x fit h1 h2 h3 errs_all errs_lt (by kernel_rfl) hk (FnsOk.cons (frame_fn_ok (all_cons (m4_ok hL) (all_cons (m6_ok hL) (all_cons (m9_ok hL) (all_cons (m44_ok hL hk) (all_cons (m47_ok hL) (all_cons (m48_ok hL) (all_cons (m49_ok hL) (all_cons (m50_ok hL) (all_cons (m63_ok hL) (all_cons (m64_ok hL hk) (all_nil)))))))))))) ((q1_ok hL))) hv ⟨_, Tryz.func3, rfl⟩ run13
end Go.Proofs.YtalmhgaomgkdbabGreatDoor.objectFactories
