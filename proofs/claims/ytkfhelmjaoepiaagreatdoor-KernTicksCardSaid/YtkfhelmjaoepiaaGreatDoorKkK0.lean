/- kernTicks: calls that are run once, and the runs of the cases (part 0). -/
import Derived.Test.YtkfhelmjaoepiaaGreatDoorEvKkF
set_option linter.unusedVariables false
set_option maxRecDepth 10000000
namespace Go.Proofs.YtkfhelmjaoepiaaGreatDoor.kernTicks
open Tk
open Go.RowKit
noncomputable def h0 : H := sentH 325 10 errTab
noncomputable def p0 : Pur := ([], bT, 1048576)
theorem p0_run : ranPure (evCall (cxX Tryz.prog bad [] [] [(172, isFn 325)]) 1000 60 5 p0.1 ⟨.lf, p0.2.2⟩) p0.2.1 = true := by kernel_rfl
theorem p0_ok {σ : Nat → Int} {W0 : World} (hL : L0 W0) : PureOk Tryz.prog 1023 σ W0 5 p0 := pure_ok fit (Known2.nil σ) (FnsOk.cons (ext_is hL) (FnsOk.nil)) p0_run
noncomputable def h1 : H := hUpd h0 172 [] [(62, .cells 5 ([[.ptr 59 0, .slice 60 0 6 6 3 true, .map 61, .ptr 31 0, .ptr 35 0]]) false),
  (30, .cells 3 ([[I 16, .snil, I 0]]) false),
  (54, .cells 3 (rp 8 ([bF, I 0, bF]) ([])) false),
  (166, .cells 80 (rp 12 (rp 4 (I 0) ((U 0) :: rp 4 (I 0) ((U 0) :: rp 4 (I 0) ((U 0) :: rp 4 (I 0) ((U 0) :: rp 4 (I 0) ((U 0) :: rp 4 (I 0) ((U 0) :: rp 4 (I 0) ((U 0) :: rp 4 (I 0) ((U 0) :: rp 4 (I 0) ((U 0) :: rp 4 (I 0) ((U 0) :: rp 4 (I 0) ((U 0) :: rp 4 (I 0) ((U 0) :: rp 4 (I 0) ((U 0) :: rp 4 (I 0) ((U 0) :: rp 4 (I 0) ((U 0) :: rp 4 (I 0) ([U 0]))))))))))))))))) ([])) false),
  (22, .cells 1 ([[.slice 21 0 12 12 3 true]]) false),
  (58, .cells 3 (rp 6 ([bF, I 0, bF]) ([])) false),
  (170, .cells 3 (rp 6 ([I 0, I 0, I 0]) ([])) false),
  (42, .cells 1 ([[.snil]]) false),
  (26, .cells 1 ([[.slice 25 0 12 12 3 true]]) false),
  (66, .cells 2 ([[.ptr 64 0, .slice 65 0 4 4 31 true]]) false),
  (34, .cells 107 (rp 6 (rp 9 (U 0) (rp 6 (I 0) ((U 0) :: rp 4 (I 0) ((U 0) :: rp 4 (I 0) ((U 0) :: rp 4 (I 0) ((U 0) :: rp 4 (I 0) ((U 0) :: rp 4 (I 0) ((U 0) :: rp 4 (I 0) ((U 0) :: rp 4 (I 0) ((U 0) :: rp 4 (I 0) ((U 0) :: rp 4 (I 0) ((U 0) :: rp 4 (I 0) ((U 0) :: rp 4 (I 0) ((U 0) :: rp 4 (I 0) ((U 0) :: rp 4 (I 0) ((U 0) :: rp 4 (I 0) ((U 0) :: rp 4 (I 0) ((U 0) :: rp 4 (I 0) ((U 0) :: rp 4 (I 0) ((U 0) :: rp 4 (I 0) ([U 0, I 0]))))))))))))))))))))) ([])) false),
  (156, .cells 4 (rp 6 ([bF, bF, I 0, IZ (-1)]) ([])) false),
  (92, .cells 4 (rp 12 ([bF, bF, I 0, IZ (-1)]) ([])) false),
  (60, .cells 3 (rp 6 ([I 0, I 0, I 0]) ([])) false),
  (28, .cells 2 ([[.ptr 26 0, .slice 27 0 12 12 32 true]]) false),
  (116, .cells 4 (rp 12 ([bF, bF, I 0, IZ (-1)]) ([])) false),
  (164, .cells 4 (rp 4 ([bF, bF, I 0, IZ (-1)]) ([])) false),
  (68, .cells 9 ([[.ptr 31 0, .ptr 35 0, .ptr 57 0, .ptr 62 0, .ptr 66 0, .ptr 67 0, .snil, .snil, I 0]]) false),
  (36, .cells 1 ([[.snil]]) false),
  (56, .cells 2 (rp 8 ([I 0, I 0]) ([])) false),
  (168, .cells 108 (rp 6 (rp 9 (U 0) (rp 6 (I 0) ((U 0) :: rp 4 (I 0) ((U 0) :: rp 4 (I 0) ((U 0) :: rp 4 (I 0) ((U 0) :: rp 4 (I 0) ((U 0) :: rp 4 (I 0) ((U 0) :: rp 4 (I 0) ((U 0) :: rp 4 (I 0) ((U 0) :: rp 4 (I 0) ((U 0) :: rp 4 (I 0) ((U 0) :: rp 4 (I 0) ((U 0) :: rp 4 (I 0) ((U 0) :: rp 4 (I 0) ((U 0) :: rp 4 (I 0) ((U 0) :: rp 4 (I 0) ((U 0) :: rp 4 (I 0) ((U 0) :: rp 4 (I 0) ((U 0) :: rp 4 (I 0) ((U 0) :: rp 4 (I 0) ([U 0, I 0, .snil]))))))))))))))))))))) ([])) false),
  (24, .cells 2 ([[.ptr 22 0, .slice 23 0 12 12 80 true]]) false),
  (144, .cells 4 (rp 8 ([bF, bF, I 0, IZ (-1)]) ([])) false),
  (48, .cells 1 ([[.snil]]) false),
  (128, .cells 4 (rp 6 ([bF, bF, I 0, IZ (-1)]) ([])) false),
  (64, .cells 1 ([[.slice 63 0 4 4 3 true]]) false),
  (32, .cells 3 (rp 6 ([bF, I 0, bF]) ([])) false),
  (61, .map [] 0),
  (45, .cells 1 ([[.snil]]) false),
  (29, .cells 2 ([[.ptr 24 0, .ptr 28 0]]) false),
  (53, .cells 1 ([[.ptr 36 0], [.ptr 39 0], [.ptr 42 0], [.ptr 45 0], [.ptr 48 0], [.ptr 51 0]]) false),
  (165, .cells 16 ([[.slice 92 0 12 12 4 false, .slice 116 0 12 12 4 false, .slice 128 0 6 6 4 false, .slice 144 0 8 8 4 false, .slice 156 0 6 6 4 false, .slice 164 0 4 4 4 false, .slice 166 0 12 12 80 true, .slice 167 0 12 12 32 true, .slice 168 0 6 6 108 true, .slice 169 0 8 8 2 true, .slice 170 0 6 6 3 true, .slice 171 0 4 4 31 true, .snil, .snil, .snil, I 0]]) false),
  (21, .cells 3 (rp 12 ([bF, I 0, bF]) ([])) false),
  (57, .cells 2 ([[.ptr 55 0, .slice 56 0 8 8 2 true]]) false),
  (169, .cells 2 (rp 8 ([I 0, I 0]) ([])) false),
  (25, .cells 3 (rp 12 ([bF, I 0, bF]) ([])) false),
  (65, .cells 31 (rp 4 ((bF) :: rp 4 (I 0) ((U 0) :: rp 4 (I 0) ((U 0) :: rp 4 (I 0) ((U 0) :: rp 4 (I 0) ((U 0) :: rp 4 (I 0) ((U 0) :: rp 4 (I 0) ([U 0]))))))) ([])) false),
  (33, .cells 1 ([[.slice 32 0 6 6 3 true]]) false),
  (59, .cells 1 ([[.slice 58 0 6 6 3 true]]) false),
  (171, .cells 31 (rp 4 ((bF) :: rp 4 (I 0) ((U 0) :: rp 4 (I 0) ((U 0) :: rp 4 (I 0) ((U 0) :: rp 4 (I 0) ((U 0) :: rp 4 (I 0) ((U 0) :: rp 4 (I 0) ([U 0]))))))) ([])) false),
  (27, .cells 32 (rp 12 (rp 32 (U 0) ([])) ([])) false),
  (51, .cells 1 ([[.snil]]) false),
  (67, .cells 1 ([[.snil]]) false),
  (35, .cells 3 ([[.ptr 33 0, .slice 34 0 6 6 107 true, .slice 53 0 6 6 1 false]]) false),
  (55, .cells 1 ([[.slice 54 0 8 8 3 true]]) false),
  (167, .cells 32 (rp 12 (rp 32 (U 0) ([])) ([])) false),
  (39, .cells 1 ([[.snil]]) false),
  (23, .cells 80 (rp 12 (rp 4 (I 0) ((U 0) :: rp 4 (I 0) ((U 0) :: rp 4 (I 0) ((U 0) :: rp 4 (I 0) ((U 0) :: rp 4 (I 0) ((U 0) :: rp 4 (I 0) ((U 0) :: rp 4 (I 0) ((U 0) :: rp 4 (I 0) ((U 0) :: rp 4 (I 0) ((U 0) :: rp 4 (I 0) ((U 0) :: rp 4 (I 0) ((U 0) :: rp 4 (I 0) ((U 0) :: rp 4 (I 0) ((U 0) :: rp 4 (I 0) ((U 0) :: rp 4 (I 0) ((U 0) :: rp 4 (I 0) ([U 0]))))))))))))))))) ([])) false),
  (63, .cells 3 (rp 4 ([bF, I 0, bF]) ([])) false),
  (31, .cells 3 ([[.ptr 29 0, I 16, .ptr 30 0]]) false)] []
noncomputable def m1 : Memo := ⟨[], h0, .tuple [.ptr 68 0, .ptr 165 0], h1⟩
theorem m1_run : ranTo (evCall (cxX Tryz.prog bad [] [] [(172, isFn 325)]) 1000 60 7 m1.args m1.h) m1.v m1.h' = true := by kernel_rfl
theorem m1_ok {σ : Nat → Int} {W0 : World} (hL : L0 W0) : MemoOk Tryz.prog 1023 σ W0 7 m1 := memo_ok fit (Known2.nil σ) (FnsOk.cons (ext_is hL) (FnsOk.nil)) m1_run
noncomputable def p2 : Pur := ([.agg [I 0, I 0, I 0, I 0, U 0]], .inil, 1048576)
theorem p2_run : ranPure (evCall (cxX Tryz.prog bad [] [] [(172, isFn 325)]) 1000 60 51 p2.1 ⟨.lf, p2.2.2⟩) p2.2.1 = true := by kernel_rfl
theorem p2_ok {σ : Nat → Int} {W0 : World} (hL : L0 W0) : PureOk Tryz.prog 1023 σ W0 51 p2 := pure_ok fit (Known2.nil σ) (FnsOk.cons (ext_is hL) (FnsOk.nil)) p2_run
noncomputable def p3 : Pur := ([.agg [I 3, I 0, I 0, I 0, U 0]], .inil, 1048576)
theorem p3_run : ranPure (evCall (cxX Tryz.prog bad [] [] [(172, isFn 325)]) 1000 60 51 p3.1 ⟨.lf, p3.2.2⟩) p3.2.1 = true := by kernel_rfl
theorem p3_ok {σ : Nat → Int} {W0 : World} (hL : L0 W0) : PureOk Tryz.prog 1023 σ W0 51 p3 := pure_ok fit (Known2.nil σ) (FnsOk.cons (ext_is hL) (FnsOk.nil)) p3_run
noncomputable def p4 : Pur := ([.agg [I 7, I 0, I 0, I 0, U 0]], .inil, 1048576)
theorem p4_run : ranPure (evCall (cxX Tryz.prog bad [] [] [(172, isFn 325)]) 1000 60 51 p4.1 ⟨.lf, p4.2.2⟩) p4.2.1 = true := by kernel_rfl
theorem p4_ok {σ : Nat → Int} {W0 : World} (hL : L0 W0) : PureOk Tryz.prog 1023 σ W0 51 p4 := pure_ok fit (Known2.nil σ) (FnsOk.cons (ext_is hL) (FnsOk.nil)) p4_run
noncomputable def h2 : H := hUpd h1 181 [166, 170, 156, 92, 116, 164, 168, 144, 128, 165, 169, 171, 167] [(180, .cells 1 ([[U 201326592], [U 67108864]]) false)] [(58, 0, [bT, I 0, bF]),
  (60, 0, [IZ (-1), I 30, I 0])]
noncomputable def h3 : H := hUpc h2 512 [] [(61, .map [(.agg [I 3, I 0], .agg [I 0, I 0], 0), (.agg [I 4, I 0], .agg [I 0, I 0], 1)] 2),
  (365, .cells 1 ([[I 0]]) false)] [(54, 0, [bT, I 0, bF]),
  (60, 0, [IZ (-1), I 30, I 2]),
  (56, 0, [IZ (-1), .int .i64 (.var 2)]),
  (32, 0, [bT, I 0, bF]),
  (25, 0, [bT, I 0, bF]),
  (67, 0, [.slice 365 0 1 1 1 false])] [(34, 0, 9, I 3), (34, 0, 91, I 3), (34, 0, 96, I 7), (27, 0, 0, U 201326592), (27, 0, 1, U 67108864)]
noncomputable def m5 : Memo := ⟨[.ptr 68 0, .int .i64 (.var 2), .slice 180 0 2 2 1 true], h2, I 0, h3⟩
theorem m5_run : ranTo (evCall (cxX Tryz.prog bad [((-9223372036854775808), 9223372036854775807), ((-9223372036854775808), 9223372036854775807), (0, 29), (0, 39)] [] [(51, pureFn [p2, p3, p4]), (172, isFn 325)]) 1000 60 9 m5.args m5.h) m5.v m5.h' = true := by kernel_rfl
theorem m5_ok {σ : Nat → Int} {W0 : World} (hL : L0 W0) (hk : Known2 σ [((-9223372036854775808), 9223372036854775807), ((-9223372036854775808), 9223372036854775807), (0, 29), (0, 39)] []) : MemoOk Tryz.prog 1023 σ W0 9 m5 := memo_ok fit hk (FnsOk.cons (pure_fn_ok (all_cons (p2_ok hL) (all_cons (p3_ok hL) (all_cons (p4_ok hL) (all_nil))))) (FnsOk.cons (ext_is hL) (FnsOk.nil))) m5_run
noncomputable def h4 : H := hUpd h3 512 [180, 65, 27, 23] [] []
noncomputable def h5 : H := hUpc h4 630 [] [] [(67, 0, [.slice 365 0 0 1 1 false])] [(34, 0, 9, I 4), (34, 0, 10, I 6), (68, 0, 8, I 1)]
noncomputable def m6 : Memo := ⟨[.ptr 68 0, I 0], h4, .agg [I 0, I 5, I 0, U 0, I 0, U 0, IZ (-1), I 6], h5⟩
theorem m6_run : ranTo (evCall (cxX Tryz.prog bad [((-9223372036854775808), 9223372036854775807), ((-9223372036854775808), 9223372036854775807), (0, 0), (0, 39)] [] [(51, pureFn [p4, p2, p3]), (172, isFn 325)]) 1000 60 10 m6.args m6.h) m6.v m6.h' = true := by kernel_rfl
theorem m6_ok {σ : Nat → Int} {W0 : World} (hL : L0 W0) (hk : Known2 σ [((-9223372036854775808), 9223372036854775807), ((-9223372036854775808), 9223372036854775807), (0, 0), (0, 39)] []) : MemoOk Tryz.prog 1023 σ W0 10 m6 := memo_ok fit hk (FnsOk.cons (pure_fn_ok (all_cons (p4_ok hL) (all_cons (p2_ok hL) (all_cons (p3_ok hL) (all_nil))))) (FnsOk.cons (ext_is hL) (FnsOk.nil))) m6_run
noncomputable def h6 : H := hUpd h5 631 [34, 56] [] []
noncomputable def h7 : H := hUpc h6 632 [] [] [] [(68, 0, 8, I 2)]
noncomputable def m7 : Memo := ⟨[.ptr 68 0, I 1], h6, .agg [IZ (-1), I 0, I 0, U 0, I 0, U 0, IZ (-1), I 0], h7⟩
theorem m7_run : ranTo (evCall (cxX Tryz.prog bad [] [] [(172, isFn 325)]) 1000 60 10 m7.args m7.h) m7.v m7.h' = true := by kernel_rfl
theorem m7_ok {σ : Nat → Int} {W0 : World} (hL : L0 W0) : MemoOk Tryz.prog 1023 σ W0 10 m7 := memo_ok fit (Known2.nil σ) (FnsOk.cons (ext_is hL) (FnsOk.nil)) m7_run
noncomputable def h8 : H := hUpd h7 633 [] [] []
noncomputable def h9 : H := hUpc h6 634 [] [] [] [(68, 0, 8, I 3)]
noncomputable def m8 : Memo := ⟨[.ptr 68 0, I 2], h8, .agg [IZ (-1), I 0, I 0, U 0, I 0, U 0, IZ (-1), I 0], h9⟩
theorem m8_run : ranTo (evCall (cxX Tryz.prog bad [] [] [(172, isFn 325)]) 1000 60 10 m8.args m8.h) m8.v m8.h' = true := by kernel_rfl
theorem m8_ok {σ : Nat → Int} {W0 : World} (hL : L0 W0) : MemoOk Tryz.prog 1023 σ W0 10 m8 := memo_ok fit (Known2.nil σ) (FnsOk.cons (ext_is hL) (FnsOk.nil)) m8_run
noncomputable def h10 : H := hUpd h9 635 [] [] []
noncomputable def h11 : H := hUpc h6 636 [] [] [] [(68, 0, 8, I 4)]
noncomputable def m9 : Memo := ⟨[.ptr 68 0, I 3], h10, .agg [IZ (-1), I 0, I 0, U 0, I 0, U 0, IZ (-1), I 0], h11⟩
theorem m9_run : ranTo (evCall (cxX Tryz.prog bad [] [] [(172, isFn 325)]) 1000 60 10 m9.args m9.h) m9.v m9.h' = true := by kernel_rfl
theorem m9_ok {σ : Nat → Int} {W0 : World} (hL : L0 W0) : MemoOk Tryz.prog 1023 σ W0 10 m9 := memo_ok fit (Known2.nil σ) (FnsOk.cons (ext_is hL) (FnsOk.nil)) m9_run
noncomputable def h12 : H := hUpd h11 637 [] [] []
noncomputable def h13 : H := hUpc h6 638 [] [] [] [(68, 0, 8, I 5)]
noncomputable def m10 : Memo := ⟨[.ptr 68 0, I 4], h12, .agg [IZ (-1), I 0, I 0, U 0, I 0, U 0, IZ (-1), I 0], h13⟩
theorem m10_run : ranTo (evCall (cxX Tryz.prog bad [] [] [(172, isFn 325)]) 1000 60 10 m10.args m10.h) m10.v m10.h' = true := by kernel_rfl
theorem m10_ok {σ : Nat → Int} {W0 : World} (hL : L0 W0) : MemoOk Tryz.prog 1023 σ W0 10 m10 := memo_ok fit (Known2.nil σ) (FnsOk.cons (ext_is hL) (FnsOk.nil)) m10_run
noncomputable def h14 : H := hUpd h13 639 [] [] []
noncomputable def h15 : H := hUpc h6 640 [] [] [] [(68, 0, 8, I 6)]
noncomputable def m11 : Memo := ⟨[.ptr 68 0, I 5], h14, .agg [IZ (-1), I 0, I 0, U 0, I 0, U 0, IZ (-1), I 0], h15⟩
theorem m11_run : ranTo (evCall (cxX Tryz.prog bad [] [] [(172, isFn 325)]) 1000 60 10 m11.args m11.h) m11.v m11.h' = true := by kernel_rfl
theorem m11_ok {σ : Nat → Int} {W0 : World} (hL : L0 W0) : MemoOk Tryz.prog 1023 σ W0 10 m11 := memo_ok fit (Known2.nil σ) (FnsOk.cons (ext_is hL) (FnsOk.nil)) m11_run
noncomputable def h16 : H := hUpd h15 641 [] [] []
noncomputable def h17 : H := hUpc h6 642 [] [] [] [(68, 0, 8, I 7)]
noncomputable def m12 : Memo := ⟨[.ptr 68 0, I 6], h16, .agg [IZ (-1), I 0, I 0, U 0, I 0, U 0, IZ (-1), I 0], h17⟩
theorem m12_run : ranTo (evCall (cxX Tryz.prog bad [] [] [(172, isFn 325)]) 1000 60 10 m12.args m12.h) m12.v m12.h' = true := by kernel_rfl
theorem m12_ok {σ : Nat → Int} {W0 : World} (hL : L0 W0) : MemoOk Tryz.prog 1023 σ W0 10 m12 := memo_ok fit (Known2.nil σ) (FnsOk.cons (ext_is hL) (FnsOk.nil)) m12_run
noncomputable def h18 : H := hUpd h17 643 [] [] []
noncomputable def h19 : H := hUpc h6 644 [] [] [] [(68, 0, 8, I 8)]
noncomputable def m13 : Memo := ⟨[.ptr 68 0, I 7], h18, .agg [IZ (-1), I 0, I 0, U 0, I 0, U 0, IZ (-1), I 0], h19⟩
theorem m13_run : ranTo (evCall (cxX Tryz.prog bad [] [] [(172, isFn 325)]) 1000 60 10 m13.args m13.h) m13.v m13.h' = true := by kernel_rfl
theorem m13_ok {σ : Nat → Int} {W0 : World} (hL : L0 W0) : MemoOk Tryz.prog 1023 σ W0 10 m13 := memo_ok fit (Known2.nil σ) (FnsOk.cons (ext_is hL) (FnsOk.nil)) m13_run
noncomputable def h20 : H := hUpd h19 645 [] [] []
noncomputable def h21 : H := hUpc h6 646 [] [] [] [(68, 0, 8, I 9)]
noncomputable def m14 : Memo := ⟨[.ptr 68 0, I 8], h20, .agg [IZ (-1), I 0, I 0, U 0, I 0, U 0, IZ (-1), I 0], h21⟩
theorem m14_run : ranTo (evCall (cxX Tryz.prog bad [] [] [(172, isFn 325)]) 1000 60 10 m14.args m14.h) m14.v m14.h' = true := by kernel_rfl
theorem m14_ok {σ : Nat → Int} {W0 : World} (hL : L0 W0) : MemoOk Tryz.prog 1023 σ W0 10 m14 := memo_ok fit (Known2.nil σ) (FnsOk.cons (ext_is hL) (FnsOk.nil)) m14_run
noncomputable def h22 : H := hUpd h21 647 [] [] []
noncomputable def h23 : H := hUpc h6 648 [] [] [] [(68, 0, 8, I 10)]
noncomputable def m15 : Memo := ⟨[.ptr 68 0, I 9], h22, .agg [IZ (-1), I 0, I 0, U 0, I 0, U 0, IZ (-1), I 0], h23⟩
theorem m15_run : ranTo (evCall (cxX Tryz.prog bad [] [] [(172, isFn 325)]) 1000 60 10 m15.args m15.h) m15.v m15.h' = true := by kernel_rfl
theorem m15_ok {σ : Nat → Int} {W0 : World} (hL : L0 W0) : MemoOk Tryz.prog 1023 σ W0 10 m15 := memo_ok fit (Known2.nil σ) (FnsOk.cons (ext_is hL) (FnsOk.nil)) m15_run
noncomputable def h24 : H := hUpd h23 649 [] [] []
noncomputable def h25 : H := hUpc h6 650 [] [] [] [(68, 0, 8, I 11)]
noncomputable def m16 : Memo := ⟨[.ptr 68 0, I 10], h24, .agg [IZ (-1), I 0, I 0, U 0, I 0, U 0, IZ (-1), I 0], h25⟩
theorem m16_run : ranTo (evCall (cxX Tryz.prog bad [] [] [(172, isFn 325)]) 1000 60 10 m16.args m16.h) m16.v m16.h' = true := by kernel_rfl
theorem m16_ok {σ : Nat → Int} {W0 : World} (hL : L0 W0) : MemoOk Tryz.prog 1023 σ W0 10 m16 := memo_ok fit (Known2.nil σ) (FnsOk.cons (ext_is hL) (FnsOk.nil)) m16_run
noncomputable def h26 : H := hUpd h25 651 [] [] []
noncomputable def h27 : H := hUpc h6 652 [] [] [] [(68, 0, 8, I 12)]
noncomputable def m17 : Memo := ⟨[.ptr 68 0, I 11], h26, .agg [IZ (-1), I 0, I 0, U 0, I 0, U 0, IZ (-1), I 0], h27⟩
theorem m17_run : ranTo (evCall (cxX Tryz.prog bad [] [] [(172, isFn 325)]) 1000 60 10 m17.args m17.h) m17.v m17.h' = true := by kernel_rfl
theorem m17_ok {σ : Nat → Int} {W0 : World} (hL : L0 W0) : MemoOk Tryz.prog 1023 σ W0 10 m17 := memo_ok fit (Known2.nil σ) (FnsOk.cons (ext_is hL) (FnsOk.nil)) m17_run
noncomputable def h28 : H := hUpd h27 653 [] [] []
noncomputable def h29 : H := hUpc h6 654 [] [] [] [(68, 0, 8, I 13)]
noncomputable def m18 : Memo := ⟨[.ptr 68 0, I 12], h28, .agg [IZ (-1), I 0, I 0, U 0, I 0, U 0, IZ (-1), I 0], h29⟩
theorem m18_run : ranTo (evCall (cxX Tryz.prog bad [] [] [(172, isFn 325)]) 1000 60 10 m18.args m18.h) m18.v m18.h' = true := by kernel_rfl
theorem m18_ok {σ : Nat → Int} {W0 : World} (hL : L0 W0) : MemoOk Tryz.prog 1023 σ W0 10 m18 := memo_ok fit (Known2.nil σ) (FnsOk.cons (ext_is hL) (FnsOk.nil)) m18_run
noncomputable def h30 : H := hUpd h29 655 [] [] []
noncomputable def h31 : H := hUpc h6 656 [] [] [] [(68, 0, 8, I 14)]
noncomputable def m19 : Memo := ⟨[.ptr 68 0, I 13], h30, .agg [IZ (-1), I 0, I 0, U 0, I 0, U 0, IZ (-1), I 0], h31⟩
theorem m19_run : ranTo (evCall (cxX Tryz.prog bad [] [] [(172, isFn 325)]) 1000 60 10 m19.args m19.h) m19.v m19.h' = true := by kernel_rfl
theorem m19_ok {σ : Nat → Int} {W0 : World} (hL : L0 W0) : MemoOk Tryz.prog 1023 σ W0 10 m19 := memo_ok fit (Known2.nil σ) (FnsOk.cons (ext_is hL) (FnsOk.nil)) m19_run
noncomputable def h32 : H := hUpd h31 657 [] [] []
noncomputable def h33 : H := hUpc h6 658 [] [] [] [(68, 0, 8, I 15)]
noncomputable def m20 : Memo := ⟨[.ptr 68 0, I 14], h32, .agg [IZ (-1), I 0, I 0, U 0, I 0, U 0, IZ (-1), I 0], h33⟩
theorem m20_run : ranTo (evCall (cxX Tryz.prog bad [] [] [(172, isFn 325)]) 1000 60 10 m20.args m20.h) m20.v m20.h' = true := by kernel_rfl
theorem m20_ok {σ : Nat → Int} {W0 : World} (hL : L0 W0) : MemoOk Tryz.prog 1023 σ W0 10 m20 := memo_ok fit (Known2.nil σ) (FnsOk.cons (ext_is hL) (FnsOk.nil)) m20_run
noncomputable def h34 : H := hUpd h33 659 [] [] []
noncomputable def h35 : H := hUpc h6 660 [] [] [] [(68, 0, 8, I 16)]
noncomputable def m21 : Memo := ⟨[.ptr 68 0, I 15], h34, .agg [IZ (-1), I 0, I 0, U 0, I 0, U 0, IZ (-1), I 0], h35⟩
theorem m21_run : ranTo (evCall (cxX Tryz.prog bad [] [] [(172, isFn 325)]) 1000 60 10 m21.args m21.h) m21.v m21.h' = true := by kernel_rfl
theorem m21_ok {σ : Nat → Int} {W0 : World} (hL : L0 W0) : MemoOk Tryz.prog 1023 σ W0 10 m21 := memo_ok fit (Known2.nil σ) (FnsOk.cons (ext_is hL) (FnsOk.nil)) m21_run
noncomputable def h36 : H := hUpd h35 661 [] [] []
noncomputable def h37 : H := hUpc h6 662 [] [] [] [(68, 0, 8, I 17)]
noncomputable def m22 : Memo := ⟨[.ptr 68 0, I 16], h36, .agg [IZ (-1), I 0, I 0, U 0, I 0, U 0, IZ (-1), I 0], h37⟩
theorem m22_run : ranTo (evCall (cxX Tryz.prog bad [] [] [(172, isFn 325)]) 1000 60 10 m22.args m22.h) m22.v m22.h' = true := by kernel_rfl
theorem m22_ok {σ : Nat → Int} {W0 : World} (hL : L0 W0) : MemoOk Tryz.prog 1023 σ W0 10 m22 := memo_ok fit (Known2.nil σ) (FnsOk.cons (ext_is hL) (FnsOk.nil)) m22_run
noncomputable def h38 : H := hUpd h37 663 [] [] []
noncomputable def h39 : H := hUpc h6 664 [] [] [] [(68, 0, 8, I 18)]
noncomputable def m23 : Memo := ⟨[.ptr 68 0, I 17], h38, .agg [IZ (-1), I 0, I 0, U 0, I 0, U 0, IZ (-1), I 0], h39⟩
theorem m23_run : ranTo (evCall (cxX Tryz.prog bad [] [] [(172, isFn 325)]) 1000 60 10 m23.args m23.h) m23.v m23.h' = true := by kernel_rfl
theorem m23_ok {σ : Nat → Int} {W0 : World} (hL : L0 W0) : MemoOk Tryz.prog 1023 σ W0 10 m23 := memo_ok fit (Known2.nil σ) (FnsOk.cons (ext_is hL) (FnsOk.nil)) m23_run
noncomputable def h40 : H := hUpd h39 665 [] [] []
noncomputable def h41 : H := hUpc h6 666 [] [] [] [(68, 0, 8, I 19)]
noncomputable def m24 : Memo := ⟨[.ptr 68 0, I 18], h40, .agg [IZ (-1), I 0, I 0, U 0, I 0, U 0, IZ (-1), I 0], h41⟩
theorem m24_run : ranTo (evCall (cxX Tryz.prog bad [] [] [(172, isFn 325)]) 1000 60 10 m24.args m24.h) m24.v m24.h' = true := by kernel_rfl
theorem m24_ok {σ : Nat → Int} {W0 : World} (hL : L0 W0) : MemoOk Tryz.prog 1023 σ W0 10 m24 := memo_ok fit (Known2.nil σ) (FnsOk.cons (ext_is hL) (FnsOk.nil)) m24_run
noncomputable def h42 : H := hUpd h41 667 [] [] []
noncomputable def h43 : H := hUpc h6 668 [] [] [] [(68, 0, 8, I 20)]
noncomputable def m25 : Memo := ⟨[.ptr 68 0, I 19], h42, .agg [IZ (-1), I 0, I 0, U 0, I 0, U 0, IZ (-1), I 0], h43⟩
theorem m25_run : ranTo (evCall (cxX Tryz.prog bad [] [] [(172, isFn 325)]) 1000 60 10 m25.args m25.h) m25.v m25.h' = true := by kernel_rfl
theorem m25_ok {σ : Nat → Int} {W0 : World} (hL : L0 W0) : MemoOk Tryz.prog 1023 σ W0 10 m25 := memo_ok fit (Known2.nil σ) (FnsOk.cons (ext_is hL) (FnsOk.nil)) m25_run
noncomputable def h44 : H := hUpd h43 669 [] [] []
noncomputable def h45 : H := hUpc h6 670 [] [] [] [(68, 0, 8, I 21)]
noncomputable def m26 : Memo := ⟨[.ptr 68 0, I 20], h44, .agg [IZ (-1), I 0, I 0, U 0, I 0, U 0, IZ (-1), I 0], h45⟩
theorem m26_run : ranTo (evCall (cxX Tryz.prog bad [] [] [(172, isFn 325)]) 1000 60 10 m26.args m26.h) m26.v m26.h' = true := by kernel_rfl
theorem m26_ok {σ : Nat → Int} {W0 : World} (hL : L0 W0) : MemoOk Tryz.prog 1023 σ W0 10 m26 := memo_ok fit (Known2.nil σ) (FnsOk.cons (ext_is hL) (FnsOk.nil)) m26_run
noncomputable def h46 : H := hUpd h45 671 [] [] []
noncomputable def h47 : H := hUpc h7 672 [] [] [] [(68, 0, 8, I 22)]
noncomputable def m27 : Memo := ⟨[.ptr 68 0, I 21], h46, .agg [IZ (-1), I 0, I 0, U 0, I 0, U 0, IZ (-1), I 0], h47⟩
theorem m27_run : ranTo (evCall (cxX Tryz.prog bad [] [] [(172, isFn 325)]) 1000 60 10 m27.args m27.h) m27.v m27.h' = true := by kernel_rfl
theorem m27_ok {σ : Nat → Int} {W0 : World} (hL : L0 W0) : MemoOk Tryz.prog 1023 σ W0 10 m27 := memo_ok fit (Known2.nil σ) (FnsOk.cons (ext_is hL) (FnsOk.nil)) m27_run
noncomputable def h48 : H := hUpd h47 673 [] [] []
noncomputable def h49 : H := hUpc h9 674 [] [] [] [(68, 0, 8, I 23)]
noncomputable def m28 : Memo := ⟨[.ptr 68 0, I 22], h48, .agg [IZ (-1), I 0, I 0, U 0, I 0, U 0, IZ (-1), I 0], h49⟩
theorem m28_run : ranTo (evCall (cxX Tryz.prog bad [] [] [(172, isFn 325)]) 1000 60 10 m28.args m28.h) m28.v m28.h' = true := by kernel_rfl
theorem m28_ok {σ : Nat → Int} {W0 : World} (hL : L0 W0) : MemoOk Tryz.prog 1023 σ W0 10 m28 := memo_ok fit (Known2.nil σ) (FnsOk.cons (ext_is hL) (FnsOk.nil)) m28_run
noncomputable def h50 : H := hUpd h49 675 [] [] []
noncomputable def h51 : H := hUpc h11 676 [] [] [] [(68, 0, 8, I 24)]
noncomputable def m29 : Memo := ⟨[.ptr 68 0, I 23], h50, .agg [IZ (-1), I 0, I 0, U 0, I 0, U 0, IZ (-1), I 0], h51⟩
theorem m29_run : ranTo (evCall (cxX Tryz.prog bad [] [] [(172, isFn 325)]) 1000 60 10 m29.args m29.h) m29.v m29.h' = true := by kernel_rfl
theorem m29_ok {σ : Nat → Int} {W0 : World} (hL : L0 W0) : MemoOk Tryz.prog 1023 σ W0 10 m29 := memo_ok fit (Known2.nil σ) (FnsOk.cons (ext_is hL) (FnsOk.nil)) m29_run
noncomputable def h52 : H := hUpd h51 677 [] [] []
noncomputable def h53 : H := hUpc h13 678 [] [] [] [(68, 0, 8, I 25)]
noncomputable def m30 : Memo := ⟨[.ptr 68 0, I 24], h52, .agg [IZ (-1), I 0, I 0, U 0, I 0, U 0, IZ (-1), I 0], h53⟩
theorem m30_run : ranTo (evCall (cxX Tryz.prog bad [] [] [(172, isFn 325)]) 1000 60 10 m30.args m30.h) m30.v m30.h' = true := by kernel_rfl
theorem m30_ok {σ : Nat → Int} {W0 : World} (hL : L0 W0) : MemoOk Tryz.prog 1023 σ W0 10 m30 := memo_ok fit (Known2.nil σ) (FnsOk.cons (ext_is hL) (FnsOk.nil)) m30_run
noncomputable def h54 : H := hUpd h53 679 [] [] []
noncomputable def h55 : H := hUpc h15 680 [] [] [] [(68, 0, 8, I 26)]
noncomputable def m31 : Memo := ⟨[.ptr 68 0, I 25], h54, .agg [IZ (-1), I 0, I 0, U 0, I 0, U 0, IZ (-1), I 0], h55⟩
theorem m31_run : ranTo (evCall (cxX Tryz.prog bad [] [] [(172, isFn 325)]) 1000 60 10 m31.args m31.h) m31.v m31.h' = true := by kernel_rfl
theorem m31_ok {σ : Nat → Int} {W0 : World} (hL : L0 W0) : MemoOk Tryz.prog 1023 σ W0 10 m31 := memo_ok fit (Known2.nil σ) (FnsOk.cons (ext_is hL) (FnsOk.nil)) m31_run
noncomputable def h56 : H := hUpd h55 681 [] [] []
noncomputable def h57 : H := hUpc h17 682 [] [] [] [(68, 0, 8, I 27)]
noncomputable def m32 : Memo := ⟨[.ptr 68 0, I 26], h56, .agg [IZ (-1), I 0, I 0, U 0, I 0, U 0, IZ (-1), I 0], h57⟩
theorem m32_run : ranTo (evCall (cxX Tryz.prog bad [] [] [(172, isFn 325)]) 1000 60 10 m32.args m32.h) m32.v m32.h' = true := by kernel_rfl
theorem m32_ok {σ : Nat → Int} {W0 : World} (hL : L0 W0) : MemoOk Tryz.prog 1023 σ W0 10 m32 := memo_ok fit (Known2.nil σ) (FnsOk.cons (ext_is hL) (FnsOk.nil)) m32_run
noncomputable def h58 : H := hUpd h57 683 [] [] []
noncomputable def h59 : H := hUpc h19 684 [] [] [] [(68, 0, 8, I 28)]
noncomputable def m33 : Memo := ⟨[.ptr 68 0, I 27], h58, .agg [IZ (-1), I 0, I 0, U 0, I 0, U 0, IZ (-1), I 0], h59⟩
theorem m33_run : ranTo (evCall (cxX Tryz.prog bad [] [] [(172, isFn 325)]) 1000 60 10 m33.args m33.h) m33.v m33.h' = true := by kernel_rfl
theorem m33_ok {σ : Nat → Int} {W0 : World} (hL : L0 W0) : MemoOk Tryz.prog 1023 σ W0 10 m33 := memo_ok fit (Known2.nil σ) (FnsOk.cons (ext_is hL) (FnsOk.nil)) m33_run
noncomputable def h60 : H := hUpd h59 685 [] [] []
noncomputable def h61 : H := hUpc h21 686 [] [] [] [(68, 0, 8, I 29)]
noncomputable def m34 : Memo := ⟨[.ptr 68 0, I 28], h60, .agg [IZ (-1), I 0, I 0, U 0, I 0, U 0, IZ (-1), I 0], h61⟩
theorem m34_run : ranTo (evCall (cxX Tryz.prog bad [] [] [(172, isFn 325)]) 1000 60 10 m34.args m34.h) m34.v m34.h' = true := by kernel_rfl
theorem m34_ok {σ : Nat → Int} {W0 : World} (hL : L0 W0) : MemoOk Tryz.prog 1023 σ W0 10 m34 := memo_ok fit (Known2.nil σ) (FnsOk.cons (ext_is hL) (FnsOk.nil)) m34_run
noncomputable def h62 : H := hUpd h61 687 [] [] []
noncomputable def h63 : H := hUpc h23 688 [] [] [] [(68, 0, 8, I 30)]
noncomputable def m35 : Memo := ⟨[.ptr 68 0, I 29], h62, .agg [IZ (-1), I 0, I 0, U 0, I 0, U 0, IZ (-1), I 0], h63⟩
theorem m35_run : ranTo (evCall (cxX Tryz.prog bad [] [] [(172, isFn 325)]) 1000 60 10 m35.args m35.h) m35.v m35.h' = true := by kernel_rfl
theorem m35_ok {σ : Nat → Int} {W0 : World} (hL : L0 W0) : MemoOk Tryz.prog 1023 σ W0 10 m35 := memo_ok fit (Known2.nil σ) (FnsOk.cons (ext_is hL) (FnsOk.nil)) m35_run
noncomputable def h64 : H := hUpd h63 689 [] [] []
noncomputable def h65 : H := hUpc h25 690 [] [] [] [(68, 0, 8, I 31)]
noncomputable def m36 : Memo := ⟨[.ptr 68 0, I 30], h64, .agg [IZ (-1), I 0, I 0, U 0, I 0, U 0, IZ (-1), I 0], h65⟩
theorem m36_run : ranTo (evCall (cxX Tryz.prog bad [] [] [(172, isFn 325)]) 1000 60 10 m36.args m36.h) m36.v m36.h' = true := by kernel_rfl
theorem m36_ok {σ : Nat → Int} {W0 : World} (hL : L0 W0) : MemoOk Tryz.prog 1023 σ W0 10 m36 := memo_ok fit (Known2.nil σ) (FnsOk.cons (ext_is hL) (FnsOk.nil)) m36_run
noncomputable def h66 : H := hUpd h65 691 [] [] []
noncomputable def h67 : H := hUpc h27 692 [] [] [] [(68, 0, 8, I 32)]
noncomputable def m37 : Memo := ⟨[.ptr 68 0, I 31], h66, .agg [IZ (-1), I 0, I 0, U 0, I 0, U 0, IZ (-1), I 0], h67⟩
theorem m37_run : ranTo (evCall (cxX Tryz.prog bad [] [] [(172, isFn 325)]) 1000 60 10 m37.args m37.h) m37.v m37.h' = true := by kernel_rfl
theorem m37_ok {σ : Nat → Int} {W0 : World} (hL : L0 W0) : MemoOk Tryz.prog 1023 σ W0 10 m37 := memo_ok fit (Known2.nil σ) (FnsOk.cons (ext_is hL) (FnsOk.nil)) m37_run
noncomputable def h68 : H := hUpd h67 693 [] [] []
noncomputable def h69 : H := hUpc h29 694 [] [] [] [(68, 0, 8, I 33)]
noncomputable def m38 : Memo := ⟨[.ptr 68 0, I 32], h68, .agg [IZ (-1), I 0, I 0, U 0, I 0, U 0, IZ (-1), I 0], h69⟩
theorem m38_run : ranTo (evCall (cxX Tryz.prog bad [] [] [(172, isFn 325)]) 1000 60 10 m38.args m38.h) m38.v m38.h' = true := by kernel_rfl
theorem m38_ok {σ : Nat → Int} {W0 : World} (hL : L0 W0) : MemoOk Tryz.prog 1023 σ W0 10 m38 := memo_ok fit (Known2.nil σ) (FnsOk.cons (ext_is hL) (FnsOk.nil)) m38_run
noncomputable def h70 : H := hUpd h69 695 [] [] []
noncomputable def h71 : H := hUpc h31 696 [] [] [] [(68, 0, 8, I 34)]
noncomputable def m39 : Memo := ⟨[.ptr 68 0, I 33], h70, .agg [IZ (-1), I 0, I 0, U 0, I 0, U 0, IZ (-1), I 0], h71⟩
theorem m39_run : ranTo (evCall (cxX Tryz.prog bad [] [] [(172, isFn 325)]) 1000 60 10 m39.args m39.h) m39.v m39.h' = true := by kernel_rfl
theorem m39_ok {σ : Nat → Int} {W0 : World} (hL : L0 W0) : MemoOk Tryz.prog 1023 σ W0 10 m39 := memo_ok fit (Known2.nil σ) (FnsOk.cons (ext_is hL) (FnsOk.nil)) m39_run
noncomputable def h72 : H := hUpd h71 697 [] [] []
noncomputable def h73 : H := hUpc h33 698 [] [] [] [(68, 0, 8, I 35)]
noncomputable def m40 : Memo := ⟨[.ptr 68 0, I 34], h72, .agg [IZ (-1), I 0, I 0, U 0, I 0, U 0, IZ (-1), I 0], h73⟩
theorem m40_run : ranTo (evCall (cxX Tryz.prog bad [] [] [(172, isFn 325)]) 1000 60 10 m40.args m40.h) m40.v m40.h' = true := by kernel_rfl
theorem m40_ok {σ : Nat → Int} {W0 : World} (hL : L0 W0) : MemoOk Tryz.prog 1023 σ W0 10 m40 := memo_ok fit (Known2.nil σ) (FnsOk.cons (ext_is hL) (FnsOk.nil)) m40_run
noncomputable def h74 : H := hUpd h73 699 [] [] []
noncomputable def h75 : H := hUpc h35 700 [] [] [] [(68, 0, 8, I 36)]
noncomputable def m41 : Memo := ⟨[.ptr 68 0, I 35], h74, .agg [IZ (-1), I 0, I 0, U 0, I 0, U 0, IZ (-1), I 0], h75⟩
theorem m41_run : ranTo (evCall (cxX Tryz.prog bad [] [] [(172, isFn 325)]) 1000 60 10 m41.args m41.h) m41.v m41.h' = true := by kernel_rfl
theorem m41_ok {σ : Nat → Int} {W0 : World} (hL : L0 W0) : MemoOk Tryz.prog 1023 σ W0 10 m41 := memo_ok fit (Known2.nil σ) (FnsOk.cons (ext_is hL) (FnsOk.nil)) m41_run
noncomputable def h76 : H := hUpd h75 701 [] [] []
noncomputable def h77 : H := hUpc h37 702 [] [] [] [(68, 0, 8, I 37)]
noncomputable def m42 : Memo := ⟨[.ptr 68 0, I 36], h76, .agg [IZ (-1), I 0, I 0, U 0, I 0, U 0, IZ (-1), I 0], h77⟩
theorem m42_run : ranTo (evCall (cxX Tryz.prog bad [] [] [(172, isFn 325)]) 1000 60 10 m42.args m42.h) m42.v m42.h' = true := by kernel_rfl
theorem m42_ok {σ : Nat → Int} {W0 : World} (hL : L0 W0) : MemoOk Tryz.prog 1023 σ W0 10 m42 := memo_ok fit (Known2.nil σ) (FnsOk.cons (ext_is hL) (FnsOk.nil)) m42_run
noncomputable def h78 : H := hUpd h77 703 [] [] []
noncomputable def h79 : H := hUpc h39 704 [] [] [] [(68, 0, 8, I 38)]
noncomputable def m43 : Memo := ⟨[.ptr 68 0, I 37], h78, .agg [IZ (-1), I 0, I 0, U 0, I 0, U 0, IZ (-1), I 0], h79⟩
theorem m43_run : ranTo (evCall (cxX Tryz.prog bad [] [] [(172, isFn 325)]) 1000 60 10 m43.args m43.h) m43.v m43.h' = true := by kernel_rfl
theorem m43_ok {σ : Nat → Int} {W0 : World} (hL : L0 W0) : MemoOk Tryz.prog 1023 σ W0 10 m43 := memo_ok fit (Known2.nil σ) (FnsOk.cons (ext_is hL) (FnsOk.nil)) m43_run
noncomputable def h80 : H := hUpd h79 705 [] [] []
noncomputable def h81 : H := hUpc h41 706 [] [] [] [(68, 0, 8, I 39)]
noncomputable def m44 : Memo := ⟨[.ptr 68 0, I 38], h80, .agg [IZ (-1), I 0, I 0, U 0, I 0, U 0, IZ (-1), I 0], h81⟩
theorem m44_run : ranTo (evCall (cxX Tryz.prog bad [] [] [(172, isFn 325)]) 1000 60 10 m44.args m44.h) m44.v m44.h' = true := by kernel_rfl
theorem m44_ok {σ : Nat → Int} {W0 : World} (hL : L0 W0) : MemoOk Tryz.prog 1023 σ W0 10 m44 := memo_ok fit (Known2.nil σ) (FnsOk.cons (ext_is hL) (FnsOk.nil)) m44_run
noncomputable def q0 : Fns := [(5, pureFn [p0]), (7, frameFn [m1]), (172, isFn 325)]
theorem q0_ok {σ : Nat → Int} {W0 : World} (hL : L0 W0) : FnsOk Tryz.prog 1023 σ W0 q0 := FnsOk.cons (pure_fn_ok (all_cons (p0_ok hL) (all_nil))) (FnsOk.cons (frame_fn_ok (all_cons (m1_ok hL) (all_nil))) (FnsOk.cons (ext_is hL) (FnsOk.nil)))
theorem run0 : lawF Tryz.prog bad [] ((6, numExtE [(0, 30, .var 2), (1, 40, .var 3)]) :: (9, frameFn [m5]) :: (10, frameFn [m6, m7, m8, m9, m10, m11, m12, m13, m14, m15, m16, m17, m18, m19, m20, m21, m22, m23, m24, m25, m26, m27, m28, m29, m30, m31, m32, m33, m34, m35, m36, m37, m38, m39, m40, m41, m42, m43, m44]) :: q0) 1000 60 4 [.int .i64 (.var 0), .int .i64 (.var 1)] [((-9223372036854775808), 9223372036854775807), ((-9223372036854775808), 9223372036854775807), (0, 0), (0, 39)] (peels 39 3) (sentH 325 10 errTab) = true := by kernel_rfl
theorem case0 {σ : Nat → Int} {W : World} (hL : L0 W) (hk : Known2 σ [((-9223372036854775808), 9223372036854775807), ((-9223372036854775808), 9223372036854775807), (0, 0), (0, 39)] []) (hT : TabOk Tryz.prog bad 6 σ [(0, 30, .var 2), (1, 40, .var 3)]) {xs : Array Value} (hv : ∀ ρ, VRs σ ρ [.int .i64 (.var 0), .int .i64 (.var 1)] xs.toList) : Calls Tryz.prog 4 xs W fun e w' => e = .returned (.bool true) ∧ Below W.heap.size W w' := by
  obtain ⟨ads, h1, h2, h3⟩ := errs_sents hL
  exact law_case_f fit h1 h2 h3 errs_all errs_lt (by kernel_rfl) hk (FnsOk.cons (hT.ok fit) (FnsOk.cons (frame_fn_ok (all_cons (m5_ok hL (hk.relax (r' := [((-9223372036854775808), 9223372036854775807), ((-9223372036854775808), 9223372036854775807), (0, 29), (0, 39)]) (by kernel_rfl))) (all_nil))) (FnsOk.cons (frame_fn_ok (all_cons (m6_ok hL hk) (all_cons (m7_ok hL) (all_cons (m8_ok hL) (all_cons (m9_ok hL) (all_cons (m10_ok hL) (all_cons (m11_ok hL) (all_cons (m12_ok hL) (all_cons (m13_ok hL) (all_cons (m14_ok hL) (all_cons (m15_ok hL) (all_cons (m16_ok hL) (all_cons (m17_ok hL) (all_cons (m18_ok hL) (all_cons (m19_ok hL) (all_cons (m20_ok hL) (all_cons (m21_ok hL) (all_cons (m22_ok hL) (all_cons (m23_ok hL) (all_cons (m24_ok hL) (all_cons (m25_ok hL) (all_cons (m26_ok hL) (all_cons (m27_ok hL) (all_cons (m28_ok hL) (all_cons (m29_ok hL) (all_cons (m30_ok hL) (all_cons (m31_ok hL) (all_cons (m32_ok hL) (all_cons (m33_ok hL) (all_cons (m34_ok hL) (all_cons (m35_ok hL) (all_cons (m36_ok hL) (all_cons (m37_ok hL) (all_cons (m38_ok hL) (all_cons (m39_ok hL) (all_cons (m40_ok hL) (all_cons (m41_ok hL) (all_cons (m42_ok hL) (all_cons (m43_ok hL) (all_cons (m44_ok hL) (all_nil))))))))))))))))))))))))))))))))))))))))) ((q0_ok hL))))) hv run0
noncomputable def h82 : H := hUpc h42 512 [] [(34, .cells 107 ((rp 9 (U 0) ((I 3) :: rp 5 (I 0) ((U 0) :: rp 4 (I 0) ((U 0) :: rp 4 (I 0) ((U 0) :: rp 4 (I 0) ((U 0) :: rp 4 (I 0) ((U 0) :: rp 4 (I 0) ((U 0) :: rp 4 (I 0) ((U 0) :: rp 4 (I 0) ((U 0) :: rp 4 (I 0) ((U 0) :: rp 4 (I 0) ((U 0) :: rp 4 (I 0) ((U 0) :: rp 4 (I 0) ((U 0) :: rp 4 (I 0) ((U 0) :: rp 4 (I 0) ((U 0) :: rp 4 (I 0) ((U 0) :: rp 4 (I 0) ((U 0) :: (I 3) :: (I 0) :: (I 0) :: (I 0) :: (U 0) :: (I 7) :: (I 0) :: (I 0) :: (I 0) :: (U 0) :: rp 4 (I 0) ([U 0, I 0]))))))))))))))))))) :: rp 5 (rp 9 (U 0) (rp 6 (I 0) ((U 0) :: rp 4 (I 0) ((U 0) :: rp 4 (I 0) ((U 0) :: rp 4 (I 0) ((U 0) :: rp 4 (I 0) ((U 0) :: rp 4 (I 0) ((U 0) :: rp 4 (I 0) ((U 0) :: rp 4 (I 0) ((U 0) :: rp 4 (I 0) ((U 0) :: rp 4 (I 0) ((U 0) :: rp 4 (I 0) ((U 0) :: rp 4 (I 0) ((U 0) :: rp 4 (I 0) ((U 0) :: rp 4 (I 0) ((U 0) :: rp 4 (I 0) ((U 0) :: rp 4 (I 0) ((U 0) :: rp 4 (I 0) ((U 0) :: rp 4 (I 0) ((U 0) :: rp 4 (I 0) ([U 0, I 0]))))))))))))))))))))) ([])) false),
  (56, .cells 2 ([IZ (-1), .int .i64 (.var 2)] :: rp 7 ([I 0, I 0]) ([])) false),
  (27, .cells 32 (((U 201326592) :: (U 67108864) :: rp 30 (U 0) ([])) :: rp 11 (rp 32 (U 0) ([])) ([])) false)] [(67, 0, [.slice 365 0 1 1 1 false])] [(68, 0, 8, I 0)]
noncomputable def h83 : H := hUpc h82 749 [] [(663, .cells 10 ([[I 3, I 0, I 0, I 0, U 0, U 0, .snil, I 0, I 0, bF]]) false)] [(30, 0, [I 16, .slice 663 0 1 1 10 false, I 0]),
  (56, 0, [IZ (-1), .int .i64 (.sub (.var 2) (.lit 1))])] [(34, 0, 8, U 1), (68, 0, 8, I 1)]
noncomputable def m45 : Memo := ⟨[.ptr 68 0, I 0], h82, .agg [I 0, I 3, I 0, U 0, I 0, U 0, IZ (-1), I 0], h83⟩
theorem m45_run : ranTo (evCall (cxX Tryz.prog bad [((-9223372036854775808), 9223372036854775807), ((-9223372036854775808), 9223372036854775807), (1, 29), (0, 39)] [] [(51, pureFn [p4, p2, p3]), (172, isFn 325)]) 1000 60 10 m45.args m45.h) m45.v m45.h' = true := by kernel_rfl
theorem m45_ok {σ : Nat → Int} {W0 : World} (hL : L0 W0) (hk : Known2 σ [((-9223372036854775808), 9223372036854775807), ((-9223372036854775808), 9223372036854775807), (1, 29), (0, 39)] []) : MemoOk Tryz.prog 1023 σ W0 10 m45 := memo_ok fit hk (FnsOk.cons (pure_fn_ok (all_cons (p4_ok hL) (all_cons (p2_ok hL) (all_cons (p3_ok hL) (all_nil))))) (FnsOk.cons (ext_is hL) (FnsOk.nil))) m45_run
noncomputable def h84 : H := hUpd h83 750 [27] [] []
noncomputable def h85 : H := hUpc h84 868 [] [] [(67, 0, [.slice 365 0 0 1 1 false])] [(34, 0, 9, I 4), (34, 0, 10, I 6), (68, 0, 8, I 2)]
noncomputable def m46 : Memo := ⟨[.ptr 68 0, I 1], h84, .agg [I 0, I 5, I 0, U 0, I 0, U 0, IZ (-1), I 6], h85⟩
theorem m46_run : ranTo (evCall (cxX Tryz.prog bad [((-9223372036854775808), 9223372036854775807), ((-9223372036854775808), 9223372036854775807), (1, 1), (0, 39)] [] [(51, pureFn [p4, p2, p3]), (172, isFn 325)]) 1000 60 10 m46.args m46.h) m46.v m46.h' = true := by kernel_rfl
theorem m46_ok {σ : Nat → Int} {W0 : World} (hL : L0 W0) (hk : Known2 σ [((-9223372036854775808), 9223372036854775807), ((-9223372036854775808), 9223372036854775807), (1, 1), (0, 39)] []) : MemoOk Tryz.prog 1023 σ W0 10 m46 := memo_ok fit hk (FnsOk.cons (pure_fn_ok (all_cons (p4_ok hL) (all_cons (p2_ok hL) (all_cons (p3_ok hL) (all_nil))))) (FnsOk.cons (ext_is hL) (FnsOk.nil))) m46_run
noncomputable def h86 : H := hUpd h85 869 [34, 56] [] []
noncomputable def h87 : H := hUpc h86 870 [] [] [] [(68, 0, 8, I 3)]
noncomputable def m47 : Memo := ⟨[.ptr 68 0, I 2], h86, .agg [IZ (-1), I 0, I 0, U 0, I 0, U 0, IZ (-1), I 0], h87⟩
theorem m47_run : ranTo (evCall (cxX Tryz.prog bad [] [] [(172, isFn 325)]) 1000 60 10 m47.args m47.h) m47.v m47.h' = true := by kernel_rfl
theorem m47_ok {σ : Nat → Int} {W0 : World} (hL : L0 W0) : MemoOk Tryz.prog 1023 σ W0 10 m47 := memo_ok fit (Known2.nil σ) (FnsOk.cons (ext_is hL) (FnsOk.nil)) m47_run
noncomputable def h88 : H := hUpd h87 871 [] [] []
noncomputable def h89 : H := hUpc h86 872 [] [] [] [(68, 0, 8, I 4)]
noncomputable def m48 : Memo := ⟨[.ptr 68 0, I 3], h88, .agg [IZ (-1), I 0, I 0, U 0, I 0, U 0, IZ (-1), I 0], h89⟩
theorem m48_run : ranTo (evCall (cxX Tryz.prog bad [] [] [(172, isFn 325)]) 1000 60 10 m48.args m48.h) m48.v m48.h' = true := by kernel_rfl
theorem m48_ok {σ : Nat → Int} {W0 : World} (hL : L0 W0) : MemoOk Tryz.prog 1023 σ W0 10 m48 := memo_ok fit (Known2.nil σ) (FnsOk.cons (ext_is hL) (FnsOk.nil)) m48_run
noncomputable def h90 : H := hUpd h89 873 [] [] []
noncomputable def h91 : H := hUpc h86 874 [] [] [] [(68, 0, 8, I 5)]
noncomputable def m49 : Memo := ⟨[.ptr 68 0, I 4], h90, .agg [IZ (-1), I 0, I 0, U 0, I 0, U 0, IZ (-1), I 0], h91⟩
theorem m49_run : ranTo (evCall (cxX Tryz.prog bad [] [] [(172, isFn 325)]) 1000 60 10 m49.args m49.h) m49.v m49.h' = true := by kernel_rfl
theorem m49_ok {σ : Nat → Int} {W0 : World} (hL : L0 W0) : MemoOk Tryz.prog 1023 σ W0 10 m49 := memo_ok fit (Known2.nil σ) (FnsOk.cons (ext_is hL) (FnsOk.nil)) m49_run
noncomputable def h92 : H := hUpd h91 875 [] [] []
noncomputable def h93 : H := hUpc h86 876 [] [] [] [(68, 0, 8, I 6)]
noncomputable def m50 : Memo := ⟨[.ptr 68 0, I 5], h92, .agg [IZ (-1), I 0, I 0, U 0, I 0, U 0, IZ (-1), I 0], h93⟩
theorem m50_run : ranTo (evCall (cxX Tryz.prog bad [] [] [(172, isFn 325)]) 1000 60 10 m50.args m50.h) m50.v m50.h' = true := by kernel_rfl
theorem m50_ok {σ : Nat → Int} {W0 : World} (hL : L0 W0) : MemoOk Tryz.prog 1023 σ W0 10 m50 := memo_ok fit (Known2.nil σ) (FnsOk.cons (ext_is hL) (FnsOk.nil)) m50_run
noncomputable def h94 : H := hUpd h93 877 [] [] []
noncomputable def h95 : H := hUpc h86 878 [] [] [] [(68, 0, 8, I 7)]
noncomputable def m51 : Memo := ⟨[.ptr 68 0, I 6], h94, .agg [IZ (-1), I 0, I 0, U 0, I 0, U 0, IZ (-1), I 0], h95⟩
theorem m51_run : ranTo (evCall (cxX Tryz.prog bad [] [] [(172, isFn 325)]) 1000 60 10 m51.args m51.h) m51.v m51.h' = true := by kernel_rfl
theorem m51_ok {σ : Nat → Int} {W0 : World} (hL : L0 W0) : MemoOk Tryz.prog 1023 σ W0 10 m51 := memo_ok fit (Known2.nil σ) (FnsOk.cons (ext_is hL) (FnsOk.nil)) m51_run
noncomputable def h96 : H := hUpd h95 879 [] [] []
noncomputable def h97 : H := hUpc h86 880 [] [] [] [(68, 0, 8, I 8)]
noncomputable def m52 : Memo := ⟨[.ptr 68 0, I 7], h96, .agg [IZ (-1), I 0, I 0, U 0, I 0, U 0, IZ (-1), I 0], h97⟩
theorem m52_run : ranTo (evCall (cxX Tryz.prog bad [] [] [(172, isFn 325)]) 1000 60 10 m52.args m52.h) m52.v m52.h' = true := by kernel_rfl
theorem m52_ok {σ : Nat → Int} {W0 : World} (hL : L0 W0) : MemoOk Tryz.prog 1023 σ W0 10 m52 := memo_ok fit (Known2.nil σ) (FnsOk.cons (ext_is hL) (FnsOk.nil)) m52_run
noncomputable def h98 : H := hUpd h97 881 [] [] []
noncomputable def h99 : H := hUpc h86 882 [] [] [] [(68, 0, 8, I 9)]
noncomputable def m53 : Memo := ⟨[.ptr 68 0, I 8], h98, .agg [IZ (-1), I 0, I 0, U 0, I 0, U 0, IZ (-1), I 0], h99⟩
theorem m53_run : ranTo (evCall (cxX Tryz.prog bad [] [] [(172, isFn 325)]) 1000 60 10 m53.args m53.h) m53.v m53.h' = true := by kernel_rfl
theorem m53_ok {σ : Nat → Int} {W0 : World} (hL : L0 W0) : MemoOk Tryz.prog 1023 σ W0 10 m53 := memo_ok fit (Known2.nil σ) (FnsOk.cons (ext_is hL) (FnsOk.nil)) m53_run
noncomputable def h100 : H := hUpd h99 883 [] [] []
noncomputable def h101 : H := hUpc h86 884 [] [] [] [(68, 0, 8, I 10)]
noncomputable def m54 : Memo := ⟨[.ptr 68 0, I 9], h100, .agg [IZ (-1), I 0, I 0, U 0, I 0, U 0, IZ (-1), I 0], h101⟩
theorem m54_run : ranTo (evCall (cxX Tryz.prog bad [] [] [(172, isFn 325)]) 1000 60 10 m54.args m54.h) m54.v m54.h' = true := by kernel_rfl
theorem m54_ok {σ : Nat → Int} {W0 : World} (hL : L0 W0) : MemoOk Tryz.prog 1023 σ W0 10 m54 := memo_ok fit (Known2.nil σ) (FnsOk.cons (ext_is hL) (FnsOk.nil)) m54_run
noncomputable def h102 : H := hUpd h101 885 [] [] []
noncomputable def h103 : H := hUpc h86 886 [] [] [] [(68, 0, 8, I 11)]
noncomputable def m55 : Memo := ⟨[.ptr 68 0, I 10], h102, .agg [IZ (-1), I 0, I 0, U 0, I 0, U 0, IZ (-1), I 0], h103⟩
theorem m55_run : ranTo (evCall (cxX Tryz.prog bad [] [] [(172, isFn 325)]) 1000 60 10 m55.args m55.h) m55.v m55.h' = true := by kernel_rfl
theorem m55_ok {σ : Nat → Int} {W0 : World} (hL : L0 W0) : MemoOk Tryz.prog 1023 σ W0 10 m55 := memo_ok fit (Known2.nil σ) (FnsOk.cons (ext_is hL) (FnsOk.nil)) m55_run
noncomputable def h104 : H := hUpd h103 887 [] [] []
noncomputable def h105 : H := hUpc h86 888 [] [] [] [(68, 0, 8, I 12)]
noncomputable def m56 : Memo := ⟨[.ptr 68 0, I 11], h104, .agg [IZ (-1), I 0, I 0, U 0, I 0, U 0, IZ (-1), I 0], h105⟩
theorem m56_run : ranTo (evCall (cxX Tryz.prog bad [] [] [(172, isFn 325)]) 1000 60 10 m56.args m56.h) m56.v m56.h' = true := by kernel_rfl
theorem m56_ok {σ : Nat → Int} {W0 : World} (hL : L0 W0) : MemoOk Tryz.prog 1023 σ W0 10 m56 := memo_ok fit (Known2.nil σ) (FnsOk.cons (ext_is hL) (FnsOk.nil)) m56_run
noncomputable def h106 : H := hUpd h105 889 [] [] []
noncomputable def h107 : H := hUpc h86 890 [] [] [] [(68, 0, 8, I 13)]
noncomputable def m57 : Memo := ⟨[.ptr 68 0, I 12], h106, .agg [IZ (-1), I 0, I 0, U 0, I 0, U 0, IZ (-1), I 0], h107⟩
theorem m57_run : ranTo (evCall (cxX Tryz.prog bad [] [] [(172, isFn 325)]) 1000 60 10 m57.args m57.h) m57.v m57.h' = true := by kernel_rfl
theorem m57_ok {σ : Nat → Int} {W0 : World} (hL : L0 W0) : MemoOk Tryz.prog 1023 σ W0 10 m57 := memo_ok fit (Known2.nil σ) (FnsOk.cons (ext_is hL) (FnsOk.nil)) m57_run
noncomputable def h108 : H := hUpd h107 891 [] [] []
noncomputable def h109 : H := hUpc h86 892 [] [] [] [(68, 0, 8, I 14)]
noncomputable def m58 : Memo := ⟨[.ptr 68 0, I 13], h108, .agg [IZ (-1), I 0, I 0, U 0, I 0, U 0, IZ (-1), I 0], h109⟩
theorem m58_run : ranTo (evCall (cxX Tryz.prog bad [] [] [(172, isFn 325)]) 1000 60 10 m58.args m58.h) m58.v m58.h' = true := by kernel_rfl
theorem m58_ok {σ : Nat → Int} {W0 : World} (hL : L0 W0) : MemoOk Tryz.prog 1023 σ W0 10 m58 := memo_ok fit (Known2.nil σ) (FnsOk.cons (ext_is hL) (FnsOk.nil)) m58_run
noncomputable def h110 : H := hUpd h109 893 [] [] []
noncomputable def h111 : H := hUpc h86 894 [] [] [] [(68, 0, 8, I 15)]
noncomputable def m59 : Memo := ⟨[.ptr 68 0, I 14], h110, .agg [IZ (-1), I 0, I 0, U 0, I 0, U 0, IZ (-1), I 0], h111⟩
theorem m59_run : ranTo (evCall (cxX Tryz.prog bad [] [] [(172, isFn 325)]) 1000 60 10 m59.args m59.h) m59.v m59.h' = true := by kernel_rfl
theorem m59_ok {σ : Nat → Int} {W0 : World} (hL : L0 W0) : MemoOk Tryz.prog 1023 σ W0 10 m59 := memo_ok fit (Known2.nil σ) (FnsOk.cons (ext_is hL) (FnsOk.nil)) m59_run
noncomputable def h112 : H := hUpd h111 895 [] [] []
noncomputable def h113 : H := hUpc h86 896 [] [] [] [(68, 0, 8, I 16)]
noncomputable def m60 : Memo := ⟨[.ptr 68 0, I 15], h112, .agg [IZ (-1), I 0, I 0, U 0, I 0, U 0, IZ (-1), I 0], h113⟩
theorem m60_run : ranTo (evCall (cxX Tryz.prog bad [] [] [(172, isFn 325)]) 1000 60 10 m60.args m60.h) m60.v m60.h' = true := by kernel_rfl
theorem m60_ok {σ : Nat → Int} {W0 : World} (hL : L0 W0) : MemoOk Tryz.prog 1023 σ W0 10 m60 := memo_ok fit (Known2.nil σ) (FnsOk.cons (ext_is hL) (FnsOk.nil)) m60_run
noncomputable def h114 : H := hUpd h113 897 [] [] []
noncomputable def h115 : H := hUpc h86 898 [] [] [] [(68, 0, 8, I 17)]
noncomputable def m61 : Memo := ⟨[.ptr 68 0, I 16], h114, .agg [IZ (-1), I 0, I 0, U 0, I 0, U 0, IZ (-1), I 0], h115⟩
theorem m61_run : ranTo (evCall (cxX Tryz.prog bad [] [] [(172, isFn 325)]) 1000 60 10 m61.args m61.h) m61.v m61.h' = true := by kernel_rfl
theorem m61_ok {σ : Nat → Int} {W0 : World} (hL : L0 W0) : MemoOk Tryz.prog 1023 σ W0 10 m61 := memo_ok fit (Known2.nil σ) (FnsOk.cons (ext_is hL) (FnsOk.nil)) m61_run
noncomputable def h116 : H := hUpd h115 899 [] [] []
noncomputable def h117 : H := hUpc h86 900 [] [] [] [(68, 0, 8, I 18)]
noncomputable def m62 : Memo := ⟨[.ptr 68 0, I 17], h116, .agg [IZ (-1), I 0, I 0, U 0, I 0, U 0, IZ (-1), I 0], h117⟩
theorem m62_run : ranTo (evCall (cxX Tryz.prog bad [] [] [(172, isFn 325)]) 1000 60 10 m62.args m62.h) m62.v m62.h' = true := by kernel_rfl
theorem m62_ok {σ : Nat → Int} {W0 : World} (hL : L0 W0) : MemoOk Tryz.prog 1023 σ W0 10 m62 := memo_ok fit (Known2.nil σ) (FnsOk.cons (ext_is hL) (FnsOk.nil)) m62_run
noncomputable def h118 : H := hUpd h117 901 [] [] []
noncomputable def h119 : H := hUpc h86 902 [] [] [] [(68, 0, 8, I 19)]
noncomputable def m63 : Memo := ⟨[.ptr 68 0, I 18], h118, .agg [IZ (-1), I 0, I 0, U 0, I 0, U 0, IZ (-1), I 0], h119⟩
theorem m63_run : ranTo (evCall (cxX Tryz.prog bad [] [] [(172, isFn 325)]) 1000 60 10 m63.args m63.h) m63.v m63.h' = true := by kernel_rfl
theorem m63_ok {σ : Nat → Int} {W0 : World} (hL : L0 W0) : MemoOk Tryz.prog 1023 σ W0 10 m63 := memo_ok fit (Known2.nil σ) (FnsOk.cons (ext_is hL) (FnsOk.nil)) m63_run
noncomputable def h120 : H := hUpd h119 903 [] [] []
noncomputable def h121 : H := hUpc h86 904 [] [] [] [(68, 0, 8, I 20)]
noncomputable def m64 : Memo := ⟨[.ptr 68 0, I 19], h120, .agg [IZ (-1), I 0, I 0, U 0, I 0, U 0, IZ (-1), I 0], h121⟩
theorem m64_run : ranTo (evCall (cxX Tryz.prog bad [] [] [(172, isFn 325)]) 1000 60 10 m64.args m64.h) m64.v m64.h' = true := by kernel_rfl
theorem m64_ok {σ : Nat → Int} {W0 : World} (hL : L0 W0) : MemoOk Tryz.prog 1023 σ W0 10 m64 := memo_ok fit (Known2.nil σ) (FnsOk.cons (ext_is hL) (FnsOk.nil)) m64_run
noncomputable def h122 : H := hUpd h121 905 [] [] []
noncomputable def h123 : H := hUpc h86 906 [] [] [] [(68, 0, 8, I 21)]
noncomputable def m65 : Memo := ⟨[.ptr 68 0, I 20], h122, .agg [IZ (-1), I 0, I 0, U 0, I 0, U 0, IZ (-1), I 0], h123⟩
theorem m65_run : ranTo (evCall (cxX Tryz.prog bad [] [] [(172, isFn 325)]) 1000 60 10 m65.args m65.h) m65.v m65.h' = true := by kernel_rfl
theorem m65_ok {σ : Nat → Int} {W0 : World} (hL : L0 W0) : MemoOk Tryz.prog 1023 σ W0 10 m65 := memo_ok fit (Known2.nil σ) (FnsOk.cons (ext_is hL) (FnsOk.nil)) m65_run
noncomputable def h124 : H := hUpd h123 907 [] [] []
noncomputable def h125 : H := hUpc h86 908 [] [] [] [(68, 0, 8, I 22)]
noncomputable def m66 : Memo := ⟨[.ptr 68 0, I 21], h124, .agg [IZ (-1), I 0, I 0, U 0, I 0, U 0, IZ (-1), I 0], h125⟩
theorem m66_run : ranTo (evCall (cxX Tryz.prog bad [] [] [(172, isFn 325)]) 1000 60 10 m66.args m66.h) m66.v m66.h' = true := by kernel_rfl
theorem m66_ok {σ : Nat → Int} {W0 : World} (hL : L0 W0) : MemoOk Tryz.prog 1023 σ W0 10 m66 := memo_ok fit (Known2.nil σ) (FnsOk.cons (ext_is hL) (FnsOk.nil)) m66_run
noncomputable def h126 : H := hUpd h125 909 [] [] []
noncomputable def h127 : H := hUpc h87 910 [] [] [] [(68, 0, 8, I 23)]
noncomputable def m67 : Memo := ⟨[.ptr 68 0, I 22], h126, .agg [IZ (-1), I 0, I 0, U 0, I 0, U 0, IZ (-1), I 0], h127⟩
theorem m67_run : ranTo (evCall (cxX Tryz.prog bad [] [] [(172, isFn 325)]) 1000 60 10 m67.args m67.h) m67.v m67.h' = true := by kernel_rfl
theorem m67_ok {σ : Nat → Int} {W0 : World} (hL : L0 W0) : MemoOk Tryz.prog 1023 σ W0 10 m67 := memo_ok fit (Known2.nil σ) (FnsOk.cons (ext_is hL) (FnsOk.nil)) m67_run
noncomputable def h128 : H := hUpd h127 911 [] [] []
noncomputable def h129 : H := hUpc h89 912 [] [] [] [(68, 0, 8, I 24)]
noncomputable def m68 : Memo := ⟨[.ptr 68 0, I 23], h128, .agg [IZ (-1), I 0, I 0, U 0, I 0, U 0, IZ (-1), I 0], h129⟩
theorem m68_run : ranTo (evCall (cxX Tryz.prog bad [] [] [(172, isFn 325)]) 1000 60 10 m68.args m68.h) m68.v m68.h' = true := by kernel_rfl
theorem m68_ok {σ : Nat → Int} {W0 : World} (hL : L0 W0) : MemoOk Tryz.prog 1023 σ W0 10 m68 := memo_ok fit (Known2.nil σ) (FnsOk.cons (ext_is hL) (FnsOk.nil)) m68_run
noncomputable def h130 : H := hUpd h129 913 [] [] []
noncomputable def h131 : H := hUpc h91 914 [] [] [] [(68, 0, 8, I 25)]
noncomputable def m69 : Memo := ⟨[.ptr 68 0, I 24], h130, .agg [IZ (-1), I 0, I 0, U 0, I 0, U 0, IZ (-1), I 0], h131⟩
theorem m69_run : ranTo (evCall (cxX Tryz.prog bad [] [] [(172, isFn 325)]) 1000 60 10 m69.args m69.h) m69.v m69.h' = true := by kernel_rfl
theorem m69_ok {σ : Nat → Int} {W0 : World} (hL : L0 W0) : MemoOk Tryz.prog 1023 σ W0 10 m69 := memo_ok fit (Known2.nil σ) (FnsOk.cons (ext_is hL) (FnsOk.nil)) m69_run
noncomputable def h132 : H := hUpd h131 915 [] [] []
noncomputable def h133 : H := hUpc h93 916 [] [] [] [(68, 0, 8, I 26)]
noncomputable def m70 : Memo := ⟨[.ptr 68 0, I 25], h132, .agg [IZ (-1), I 0, I 0, U 0, I 0, U 0, IZ (-1), I 0], h133⟩
theorem m70_run : ranTo (evCall (cxX Tryz.prog bad [] [] [(172, isFn 325)]) 1000 60 10 m70.args m70.h) m70.v m70.h' = true := by kernel_rfl
theorem m70_ok {σ : Nat → Int} {W0 : World} (hL : L0 W0) : MemoOk Tryz.prog 1023 σ W0 10 m70 := memo_ok fit (Known2.nil σ) (FnsOk.cons (ext_is hL) (FnsOk.nil)) m70_run
noncomputable def h134 : H := hUpd h133 917 [] [] []
noncomputable def h135 : H := hUpc h95 918 [] [] [] [(68, 0, 8, I 27)]
noncomputable def m71 : Memo := ⟨[.ptr 68 0, I 26], h134, .agg [IZ (-1), I 0, I 0, U 0, I 0, U 0, IZ (-1), I 0], h135⟩
theorem m71_run : ranTo (evCall (cxX Tryz.prog bad [] [] [(172, isFn 325)]) 1000 60 10 m71.args m71.h) m71.v m71.h' = true := by kernel_rfl
theorem m71_ok {σ : Nat → Int} {W0 : World} (hL : L0 W0) : MemoOk Tryz.prog 1023 σ W0 10 m71 := memo_ok fit (Known2.nil σ) (FnsOk.cons (ext_is hL) (FnsOk.nil)) m71_run
noncomputable def h136 : H := hUpd h135 919 [] [] []
noncomputable def h137 : H := hUpc h97 920 [] [] [] [(68, 0, 8, I 28)]
noncomputable def m72 : Memo := ⟨[.ptr 68 0, I 27], h136, .agg [IZ (-1), I 0, I 0, U 0, I 0, U 0, IZ (-1), I 0], h137⟩
theorem m72_run : ranTo (evCall (cxX Tryz.prog bad [] [] [(172, isFn 325)]) 1000 60 10 m72.args m72.h) m72.v m72.h' = true := by kernel_rfl
theorem m72_ok {σ : Nat → Int} {W0 : World} (hL : L0 W0) : MemoOk Tryz.prog 1023 σ W0 10 m72 := memo_ok fit (Known2.nil σ) (FnsOk.cons (ext_is hL) (FnsOk.nil)) m72_run
noncomputable def h138 : H := hUpd h137 921 [] [] []
noncomputable def h139 : H := hUpc h99 922 [] [] [] [(68, 0, 8, I 29)]
noncomputable def m73 : Memo := ⟨[.ptr 68 0, I 28], h138, .agg [IZ (-1), I 0, I 0, U 0, I 0, U 0, IZ (-1), I 0], h139⟩
theorem m73_run : ranTo (evCall (cxX Tryz.prog bad [] [] [(172, isFn 325)]) 1000 60 10 m73.args m73.h) m73.v m73.h' = true := by kernel_rfl
theorem m73_ok {σ : Nat → Int} {W0 : World} (hL : L0 W0) : MemoOk Tryz.prog 1023 σ W0 10 m73 := memo_ok fit (Known2.nil σ) (FnsOk.cons (ext_is hL) (FnsOk.nil)) m73_run
noncomputable def h140 : H := hUpd h139 923 [] [] []
noncomputable def h141 : H := hUpc h101 924 [] [] [] [(68, 0, 8, I 30)]
noncomputable def m74 : Memo := ⟨[.ptr 68 0, I 29], h140, .agg [IZ (-1), I 0, I 0, U 0, I 0, U 0, IZ (-1), I 0], h141⟩
theorem m74_run : ranTo (evCall (cxX Tryz.prog bad [] [] [(172, isFn 325)]) 1000 60 10 m74.args m74.h) m74.v m74.h' = true := by kernel_rfl
theorem m74_ok {σ : Nat → Int} {W0 : World} (hL : L0 W0) : MemoOk Tryz.prog 1023 σ W0 10 m74 := memo_ok fit (Known2.nil σ) (FnsOk.cons (ext_is hL) (FnsOk.nil)) m74_run
noncomputable def h142 : H := hUpd h141 925 [] [] []
noncomputable def h143 : H := hUpc h103 926 [] [] [] [(68, 0, 8, I 31)]
noncomputable def m75 : Memo := ⟨[.ptr 68 0, I 30], h142, .agg [IZ (-1), I 0, I 0, U 0, I 0, U 0, IZ (-1), I 0], h143⟩
theorem m75_run : ranTo (evCall (cxX Tryz.prog bad [] [] [(172, isFn 325)]) 1000 60 10 m75.args m75.h) m75.v m75.h' = true := by kernel_rfl
theorem m75_ok {σ : Nat → Int} {W0 : World} (hL : L0 W0) : MemoOk Tryz.prog 1023 σ W0 10 m75 := memo_ok fit (Known2.nil σ) (FnsOk.cons (ext_is hL) (FnsOk.nil)) m75_run
noncomputable def h144 : H := hUpd h143 927 [] [] []
noncomputable def h145 : H := hUpc h105 928 [] [] [] [(68, 0, 8, I 32)]
noncomputable def m76 : Memo := ⟨[.ptr 68 0, I 31], h144, .agg [IZ (-1), I 0, I 0, U 0, I 0, U 0, IZ (-1), I 0], h145⟩
theorem m76_run : ranTo (evCall (cxX Tryz.prog bad [] [] [(172, isFn 325)]) 1000 60 10 m76.args m76.h) m76.v m76.h' = true := by kernel_rfl
theorem m76_ok {σ : Nat → Int} {W0 : World} (hL : L0 W0) : MemoOk Tryz.prog 1023 σ W0 10 m76 := memo_ok fit (Known2.nil σ) (FnsOk.cons (ext_is hL) (FnsOk.nil)) m76_run
noncomputable def h146 : H := hUpd h145 929 [] [] []
noncomputable def h147 : H := hUpc h107 930 [] [] [] [(68, 0, 8, I 33)]
noncomputable def m77 : Memo := ⟨[.ptr 68 0, I 32], h146, .agg [IZ (-1), I 0, I 0, U 0, I 0, U 0, IZ (-1), I 0], h147⟩
theorem m77_run : ranTo (evCall (cxX Tryz.prog bad [] [] [(172, isFn 325)]) 1000 60 10 m77.args m77.h) m77.v m77.h' = true := by kernel_rfl
theorem m77_ok {σ : Nat → Int} {W0 : World} (hL : L0 W0) : MemoOk Tryz.prog 1023 σ W0 10 m77 := memo_ok fit (Known2.nil σ) (FnsOk.cons (ext_is hL) (FnsOk.nil)) m77_run
noncomputable def h148 : H := hUpd h147 931 [] [] []
noncomputable def h149 : H := hUpc h109 932 [] [] [] [(68, 0, 8, I 34)]
noncomputable def m78 : Memo := ⟨[.ptr 68 0, I 33], h148, .agg [IZ (-1), I 0, I 0, U 0, I 0, U 0, IZ (-1), I 0], h149⟩
theorem m78_run : ranTo (evCall (cxX Tryz.prog bad [] [] [(172, isFn 325)]) 1000 60 10 m78.args m78.h) m78.v m78.h' = true := by kernel_rfl
theorem m78_ok {σ : Nat → Int} {W0 : World} (hL : L0 W0) : MemoOk Tryz.prog 1023 σ W0 10 m78 := memo_ok fit (Known2.nil σ) (FnsOk.cons (ext_is hL) (FnsOk.nil)) m78_run
noncomputable def h150 : H := hUpd h149 933 [] [] []
noncomputable def h151 : H := hUpc h111 934 [] [] [] [(68, 0, 8, I 35)]
noncomputable def m79 : Memo := ⟨[.ptr 68 0, I 34], h150, .agg [IZ (-1), I 0, I 0, U 0, I 0, U 0, IZ (-1), I 0], h151⟩
theorem m79_run : ranTo (evCall (cxX Tryz.prog bad [] [] [(172, isFn 325)]) 1000 60 10 m79.args m79.h) m79.v m79.h' = true := by kernel_rfl
theorem m79_ok {σ : Nat → Int} {W0 : World} (hL : L0 W0) : MemoOk Tryz.prog 1023 σ W0 10 m79 := memo_ok fit (Known2.nil σ) (FnsOk.cons (ext_is hL) (FnsOk.nil)) m79_run
noncomputable def h152 : H := hUpd h151 935 [] [] []
noncomputable def h153 : H := hUpc h113 936 [] [] [] [(68, 0, 8, I 36)]
noncomputable def m80 : Memo := ⟨[.ptr 68 0, I 35], h152, .agg [IZ (-1), I 0, I 0, U 0, I 0, U 0, IZ (-1), I 0], h153⟩
theorem m80_run : ranTo (evCall (cxX Tryz.prog bad [] [] [(172, isFn 325)]) 1000 60 10 m80.args m80.h) m80.v m80.h' = true := by kernel_rfl
theorem m80_ok {σ : Nat → Int} {W0 : World} (hL : L0 W0) : MemoOk Tryz.prog 1023 σ W0 10 m80 := memo_ok fit (Known2.nil σ) (FnsOk.cons (ext_is hL) (FnsOk.nil)) m80_run
noncomputable def h154 : H := hUpd h153 937 [] [] []
noncomputable def h155 : H := hUpc h115 938 [] [] [] [(68, 0, 8, I 37)]
noncomputable def m81 : Memo := ⟨[.ptr 68 0, I 36], h154, .agg [IZ (-1), I 0, I 0, U 0, I 0, U 0, IZ (-1), I 0], h155⟩
theorem m81_run : ranTo (evCall (cxX Tryz.prog bad [] [] [(172, isFn 325)]) 1000 60 10 m81.args m81.h) m81.v m81.h' = true := by kernel_rfl
theorem m81_ok {σ : Nat → Int} {W0 : World} (hL : L0 W0) : MemoOk Tryz.prog 1023 σ W0 10 m81 := memo_ok fit (Known2.nil σ) (FnsOk.cons (ext_is hL) (FnsOk.nil)) m81_run
noncomputable def h156 : H := hUpd h155 939 [] [] []
noncomputable def h157 : H := hUpc h117 940 [] [] [] [(68, 0, 8, I 38)]
noncomputable def m82 : Memo := ⟨[.ptr 68 0, I 37], h156, .agg [IZ (-1), I 0, I 0, U 0, I 0, U 0, IZ (-1), I 0], h157⟩
theorem m82_run : ranTo (evCall (cxX Tryz.prog bad [] [] [(172, isFn 325)]) 1000 60 10 m82.args m82.h) m82.v m82.h' = true := by kernel_rfl
theorem m82_ok {σ : Nat → Int} {W0 : World} (hL : L0 W0) : MemoOk Tryz.prog 1023 σ W0 10 m82 := memo_ok fit (Known2.nil σ) (FnsOk.cons (ext_is hL) (FnsOk.nil)) m82_run
noncomputable def h158 : H := hUpd h157 941 [] [] []
noncomputable def h159 : H := hUpc h119 942 [] [] [] [(68, 0, 8, I 39)]
noncomputable def m83 : Memo := ⟨[.ptr 68 0, I 38], h158, .agg [IZ (-1), I 0, I 0, U 0, I 0, U 0, IZ (-1), I 0], h159⟩
theorem m83_run : ranTo (evCall (cxX Tryz.prog bad [] [] [(172, isFn 325)]) 1000 60 10 m83.args m83.h) m83.v m83.h' = true := by kernel_rfl
theorem m83_ok {σ : Nat → Int} {W0 : World} (hL : L0 W0) : MemoOk Tryz.prog 1023 σ W0 10 m83 := memo_ok fit (Known2.nil σ) (FnsOk.cons (ext_is hL) (FnsOk.nil)) m83_run
theorem run1 : lawF Tryz.prog bad [] ((6, numExtE [(0, 30, .var 2), (1, 40, .var 3)]) :: (9, frameFn [m5]) :: (10, frameFn [m45, m46, m47, m48, m49, m50, m51, m52, m53, m54, m55, m56, m57, m58, m59, m60, m61, m62, m63, m64, m65, m66, m67, m68, m69, m70, m71, m72, m73, m74, m75, m76, m77, m78, m79, m80, m81, m82, m83]) :: q0) 1000 60 4 [.int .i64 (.var 0), .int .i64 (.var 1)] [((-9223372036854775808), 9223372036854775807), ((-9223372036854775808), 9223372036854775807), (1, 1), (0, 39)] (peels 39 3) (sentH 325 10 errTab) = true := by kernel_rfl
theorem case1 {σ : Nat → Int} {W : World} (hL : L0 W) (hk : Known2 σ [((-9223372036854775808), 9223372036854775807), ((-9223372036854775808), 9223372036854775807), (1, 1), (0, 39)] []) (hT : TabOk Tryz.prog bad 6 σ [(0, 30, .var 2), (1, 40, .var 3)]) {xs : Array Value} (hv : ∀ ρ, VRs σ ρ [.int .i64 (.var 0), .int .i64 (.var 1)] xs.toList) : Calls Tryz.prog 4 xs W fun e w' => e = .returned (.bool true) ∧ Below W.heap.size W w' := by
  obtain ⟨ads, h1, h2, h3⟩ := errs_sents hL
  exact law_case_f fit h1 h2 h3 errs_all errs_lt (by kernel_rfl) hk (FnsOk.cons (hT.ok fit) (FnsOk.cons (frame_fn_ok (all_cons (m5_ok hL (hk.relax (r' := [((-9223372036854775808), 9223372036854775807), ((-9223372036854775808), 9223372036854775807), (0, 29), (0, 39)]) (by kernel_rfl))) (all_nil))) (FnsOk.cons (frame_fn_ok (all_cons (m45_ok hL (hk.relax (r' := [((-9223372036854775808), 9223372036854775807), ((-9223372036854775808), 9223372036854775807), (1, 29), (0, 39)]) (by kernel_rfl))) (all_cons (m46_ok hL hk) (all_cons (m47_ok hL) (all_cons (m48_ok hL) (all_cons (m49_ok hL) (all_cons (m50_ok hL) (all_cons (m51_ok hL) (all_cons (m52_ok hL) (all_cons (m53_ok hL) (all_cons (m54_ok hL) (all_cons (m55_ok hL) (all_cons (m56_ok hL) (all_cons (m57_ok hL) (all_cons (m58_ok hL) (all_cons (m59_ok hL) (all_cons (m60_ok hL) (all_cons (m61_ok hL) (all_cons (m62_ok hL) (all_cons (m63_ok hL) (all_cons (m64_ok hL) (all_cons (m65_ok hL) (all_cons (m66_ok hL) (all_cons (m67_ok hL) (all_cons (m68_ok hL) (all_cons (m69_ok hL) (all_cons (m70_ok hL) (all_cons (m71_ok hL) (all_cons (m72_ok hL) (all_cons (m73_ok hL) (all_cons (m74_ok hL) (all_cons (m75_ok hL) (all_cons (m76_ok hL) (all_cons (m77_ok hL) (all_cons (m78_ok hL) (all_cons (m79_ok hL) (all_cons (m80_ok hL) (all_cons (m81_ok hL) (all_cons (m82_ok hL) (all_cons (m83_ok hL) (all_nil))))))))))))))))))))))))))))))))))))))))) ((q0_ok hL))))) hv run1
noncomputable def h160 : H := hUpc h120 750 [] [(34, .cells 107 ((rp 8 (U 0) ((U 1) :: (I 3) :: rp 5 (I 0) ((U 0) :: rp 4 (I 0) ((U 0) :: rp 4 (I 0) ((U 0) :: rp 4 (I 0) ((U 0) :: rp 4 (I 0) ((U 0) :: rp 4 (I 0) ((U 0) :: rp 4 (I 0) ((U 0) :: rp 4 (I 0) ((U 0) :: rp 4 (I 0) ((U 0) :: rp 4 (I 0) ((U 0) :: rp 4 (I 0) ((U 0) :: rp 4 (I 0) ((U 0) :: rp 4 (I 0) ((U 0) :: rp 4 (I 0) ((U 0) :: rp 4 (I 0) ((U 0) :: rp 4 (I 0) ((U 0) :: (I 3) :: (I 0) :: (I 0) :: (I 0) :: (U 0) :: (I 7) :: (I 0) :: (I 0) :: (I 0) :: (U 0) :: rp 4 (I 0) ([U 0, I 0]))))))))))))))))))) :: rp 5 (rp 9 (U 0) (rp 6 (I 0) ((U 0) :: rp 4 (I 0) ((U 0) :: rp 4 (I 0) ((U 0) :: rp 4 (I 0) ((U 0) :: rp 4 (I 0) ((U 0) :: rp 4 (I 0) ((U 0) :: rp 4 (I 0) ((U 0) :: rp 4 (I 0) ((U 0) :: rp 4 (I 0) ((U 0) :: rp 4 (I 0) ((U 0) :: rp 4 (I 0) ((U 0) :: rp 4 (I 0) ((U 0) :: rp 4 (I 0) ((U 0) :: rp 4 (I 0) ((U 0) :: rp 4 (I 0) ((U 0) :: rp 4 (I 0) ((U 0) :: rp 4 (I 0) ((U 0) :: rp 4 (I 0) ((U 0) :: rp 4 (I 0) ([U 0, I 0]))))))))))))))))))))) ([])) false),
  (56, .cells 2 ([IZ (-1), .int .i64 (.sub (.var 2) (.lit 1))] :: rp 7 ([I 0, I 0]) ([])) false),
  (27, .cells 32 (((U 201326592) :: (U 67108864) :: rp 30 (U 0) ([])) :: rp 11 (rp 32 (U 0) ([])) ([])) false)] [(67, 0, [.slice 365 0 1 1 1 false])] [(68, 0, 8, I 1)]
noncomputable def h161 : H := hUpc h160 919 [] [] [(30, 0, [I 16, .slice 663 0 1 1 10 false, I 1]),
  (56, 0, [IZ (-1), .int .i64 (.sub (.var 2) (.lit 2))])] [(34, 0, 8, U 0), (68, 0, 8, I 2)]
noncomputable def m84 : Memo := ⟨[.ptr 68 0, I 1], h160, .agg [I 0, I 1, I 0, U 0, I 0, U 0, IZ (-1), I 0], h161⟩
theorem m84_run : ranTo (evCall (cxX Tryz.prog bad [((-9223372036854775808), 9223372036854775807), ((-9223372036854775808), 9223372036854775807), (2, 29), (0, 39)] [] [(51, pureFn [p4, p2, p3]), (172, isFn 325)]) 1000 60 10 m84.args m84.h) m84.v m84.h' = true := by kernel_rfl
theorem m84_ok {σ : Nat → Int} {W0 : World} (hL : L0 W0) (hk : Known2 σ [((-9223372036854775808), 9223372036854775807), ((-9223372036854775808), 9223372036854775807), (2, 29), (0, 39)] []) : MemoOk Tryz.prog 1023 σ W0 10 m84 := memo_ok fit hk (FnsOk.cons (pure_fn_ok (all_cons (p4_ok hL) (all_cons (p2_ok hL) (all_cons (p3_ok hL) (all_nil))))) (FnsOk.cons (ext_is hL) (FnsOk.nil))) m84_run
noncomputable def h162 : H := hUpd h161 920 [27] [] []
noncomputable def h163 : H := hUpc h162 1038 [] [] [(67, 0, [.slice 365 0 0 1 1 false])] [(34, 0, 9, I 4), (34, 0, 10, I 6), (68, 0, 8, I 3)]
noncomputable def m85 : Memo := ⟨[.ptr 68 0, I 2], h162, .agg [I 0, I 5, I 0, U 0, I 0, U 0, IZ (-1), I 6], h163⟩
theorem m85_run : ranTo (evCall (cxX Tryz.prog bad [((-9223372036854775808), 9223372036854775807), ((-9223372036854775808), 9223372036854775807), (2, 2), (0, 39)] [] [(51, pureFn [p4, p2, p3]), (172, isFn 325)]) 1000 60 10 m85.args m85.h) m85.v m85.h' = true := by kernel_rfl
theorem m85_ok {σ : Nat → Int} {W0 : World} (hL : L0 W0) (hk : Known2 σ [((-9223372036854775808), 9223372036854775807), ((-9223372036854775808), 9223372036854775807), (2, 2), (0, 39)] []) : MemoOk Tryz.prog 1023 σ W0 10 m85 := memo_ok fit hk (FnsOk.cons (pure_fn_ok (all_cons (p4_ok hL) (all_cons (p2_ok hL) (all_cons (p3_ok hL) (all_nil))))) (FnsOk.cons (ext_is hL) (FnsOk.nil))) m85_run
noncomputable def h164 : H := hUpd h163 1039 [34, 56] [] []
noncomputable def h165 : H := hUpc h164 1040 [] [] [] [(68, 0, 8, I 4)]
noncomputable def m86 : Memo := ⟨[.ptr 68 0, I 3], h164, .agg [IZ (-1), I 0, I 0, U 0, I 0, U 0, IZ (-1), I 0], h165⟩
theorem m86_run : ranTo (evCall (cxX Tryz.prog bad [] [] [(172, isFn 325)]) 1000 60 10 m86.args m86.h) m86.v m86.h' = true := by kernel_rfl
theorem m86_ok {σ : Nat → Int} {W0 : World} (hL : L0 W0) : MemoOk Tryz.prog 1023 σ W0 10 m86 := memo_ok fit (Known2.nil σ) (FnsOk.cons (ext_is hL) (FnsOk.nil)) m86_run
noncomputable def h166 : H := hUpd h165 1041 [] [] []
noncomputable def h167 : H := hUpc h164 1042 [] [] [] [(68, 0, 8, I 5)]
noncomputable def m87 : Memo := ⟨[.ptr 68 0, I 4], h166, .agg [IZ (-1), I 0, I 0, U 0, I 0, U 0, IZ (-1), I 0], h167⟩
theorem m87_run : ranTo (evCall (cxX Tryz.prog bad [] [] [(172, isFn 325)]) 1000 60 10 m87.args m87.h) m87.v m87.h' = true := by kernel_rfl
theorem m87_ok {σ : Nat → Int} {W0 : World} (hL : L0 W0) : MemoOk Tryz.prog 1023 σ W0 10 m87 := memo_ok fit (Known2.nil σ) (FnsOk.cons (ext_is hL) (FnsOk.nil)) m87_run
noncomputable def h168 : H := hUpd h167 1043 [] [] []
noncomputable def h169 : H := hUpc h164 1044 [] [] [] [(68, 0, 8, I 6)]
noncomputable def m88 : Memo := ⟨[.ptr 68 0, I 5], h168, .agg [IZ (-1), I 0, I 0, U 0, I 0, U 0, IZ (-1), I 0], h169⟩
theorem m88_run : ranTo (evCall (cxX Tryz.prog bad [] [] [(172, isFn 325)]) 1000 60 10 m88.args m88.h) m88.v m88.h' = true := by kernel_rfl
theorem m88_ok {σ : Nat → Int} {W0 : World} (hL : L0 W0) : MemoOk Tryz.prog 1023 σ W0 10 m88 := memo_ok fit (Known2.nil σ) (FnsOk.cons (ext_is hL) (FnsOk.nil)) m88_run
noncomputable def h170 : H := hUpd h169 1045 [] [] []
noncomputable def h171 : H := hUpc h164 1046 [] [] [] [(68, 0, 8, I 7)]
noncomputable def m89 : Memo := ⟨[.ptr 68 0, I 6], h170, .agg [IZ (-1), I 0, I 0, U 0, I 0, U 0, IZ (-1), I 0], h171⟩
theorem m89_run : ranTo (evCall (cxX Tryz.prog bad [] [] [(172, isFn 325)]) 1000 60 10 m89.args m89.h) m89.v m89.h' = true := by kernel_rfl
theorem m89_ok {σ : Nat → Int} {W0 : World} (hL : L0 W0) : MemoOk Tryz.prog 1023 σ W0 10 m89 := memo_ok fit (Known2.nil σ) (FnsOk.cons (ext_is hL) (FnsOk.nil)) m89_run
noncomputable def h172 : H := hUpd h171 1047 [] [] []
noncomputable def h173 : H := hUpc h164 1048 [] [] [] [(68, 0, 8, I 8)]
noncomputable def m90 : Memo := ⟨[.ptr 68 0, I 7], h172, .agg [IZ (-1), I 0, I 0, U 0, I 0, U 0, IZ (-1), I 0], h173⟩
theorem m90_run : ranTo (evCall (cxX Tryz.prog bad [] [] [(172, isFn 325)]) 1000 60 10 m90.args m90.h) m90.v m90.h' = true := by kernel_rfl
theorem m90_ok {σ : Nat → Int} {W0 : World} (hL : L0 W0) : MemoOk Tryz.prog 1023 σ W0 10 m90 := memo_ok fit (Known2.nil σ) (FnsOk.cons (ext_is hL) (FnsOk.nil)) m90_run
noncomputable def h174 : H := hUpd h173 1049 [] [] []
noncomputable def h175 : H := hUpc h164 1050 [] [] [] [(68, 0, 8, I 9)]
noncomputable def m91 : Memo := ⟨[.ptr 68 0, I 8], h174, .agg [IZ (-1), I 0, I 0, U 0, I 0, U 0, IZ (-1), I 0], h175⟩
theorem m91_run : ranTo (evCall (cxX Tryz.prog bad [] [] [(172, isFn 325)]) 1000 60 10 m91.args m91.h) m91.v m91.h' = true := by kernel_rfl
theorem m91_ok {σ : Nat → Int} {W0 : World} (hL : L0 W0) : MemoOk Tryz.prog 1023 σ W0 10 m91 := memo_ok fit (Known2.nil σ) (FnsOk.cons (ext_is hL) (FnsOk.nil)) m91_run
noncomputable def h176 : H := hUpd h175 1051 [] [] []
noncomputable def h177 : H := hUpc h164 1052 [] [] [] [(68, 0, 8, I 10)]
noncomputable def m92 : Memo := ⟨[.ptr 68 0, I 9], h176, .agg [IZ (-1), I 0, I 0, U 0, I 0, U 0, IZ (-1), I 0], h177⟩
theorem m92_run : ranTo (evCall (cxX Tryz.prog bad [] [] [(172, isFn 325)]) 1000 60 10 m92.args m92.h) m92.v m92.h' = true := by kernel_rfl
theorem m92_ok {σ : Nat → Int} {W0 : World} (hL : L0 W0) : MemoOk Tryz.prog 1023 σ W0 10 m92 := memo_ok fit (Known2.nil σ) (FnsOk.cons (ext_is hL) (FnsOk.nil)) m92_run
noncomputable def h178 : H := hUpd h177 1053 [] [] []
noncomputable def h179 : H := hUpc h164 1054 [] [] [] [(68, 0, 8, I 11)]
noncomputable def m93 : Memo := ⟨[.ptr 68 0, I 10], h178, .agg [IZ (-1), I 0, I 0, U 0, I 0, U 0, IZ (-1), I 0], h179⟩
theorem m93_run : ranTo (evCall (cxX Tryz.prog bad [] [] [(172, isFn 325)]) 1000 60 10 m93.args m93.h) m93.v m93.h' = true := by kernel_rfl
theorem m93_ok {σ : Nat → Int} {W0 : World} (hL : L0 W0) : MemoOk Tryz.prog 1023 σ W0 10 m93 := memo_ok fit (Known2.nil σ) (FnsOk.cons (ext_is hL) (FnsOk.nil)) m93_run
noncomputable def h180 : H := hUpd h179 1055 [] [] []
noncomputable def h181 : H := hUpc h164 1056 [] [] [] [(68, 0, 8, I 12)]
noncomputable def m94 : Memo := ⟨[.ptr 68 0, I 11], h180, .agg [IZ (-1), I 0, I 0, U 0, I 0, U 0, IZ (-1), I 0], h181⟩
theorem m94_run : ranTo (evCall (cxX Tryz.prog bad [] [] [(172, isFn 325)]) 1000 60 10 m94.args m94.h) m94.v m94.h' = true := by kernel_rfl
theorem m94_ok {σ : Nat → Int} {W0 : World} (hL : L0 W0) : MemoOk Tryz.prog 1023 σ W0 10 m94 := memo_ok fit (Known2.nil σ) (FnsOk.cons (ext_is hL) (FnsOk.nil)) m94_run
noncomputable def h182 : H := hUpd h181 1057 [] [] []
noncomputable def h183 : H := hUpc h164 1058 [] [] [] [(68, 0, 8, I 13)]
noncomputable def m95 : Memo := ⟨[.ptr 68 0, I 12], h182, .agg [IZ (-1), I 0, I 0, U 0, I 0, U 0, IZ (-1), I 0], h183⟩
theorem m95_run : ranTo (evCall (cxX Tryz.prog bad [] [] [(172, isFn 325)]) 1000 60 10 m95.args m95.h) m95.v m95.h' = true := by kernel_rfl
theorem m95_ok {σ : Nat → Int} {W0 : World} (hL : L0 W0) : MemoOk Tryz.prog 1023 σ W0 10 m95 := memo_ok fit (Known2.nil σ) (FnsOk.cons (ext_is hL) (FnsOk.nil)) m95_run
noncomputable def h184 : H := hUpd h183 1059 [] [] []
noncomputable def h185 : H := hUpc h164 1060 [] [] [] [(68, 0, 8, I 14)]
noncomputable def m96 : Memo := ⟨[.ptr 68 0, I 13], h184, .agg [IZ (-1), I 0, I 0, U 0, I 0, U 0, IZ (-1), I 0], h185⟩
theorem m96_run : ranTo (evCall (cxX Tryz.prog bad [] [] [(172, isFn 325)]) 1000 60 10 m96.args m96.h) m96.v m96.h' = true := by kernel_rfl
theorem m96_ok {σ : Nat → Int} {W0 : World} (hL : L0 W0) : MemoOk Tryz.prog 1023 σ W0 10 m96 := memo_ok fit (Known2.nil σ) (FnsOk.cons (ext_is hL) (FnsOk.nil)) m96_run
noncomputable def h186 : H := hUpd h185 1061 [] [] []
noncomputable def h187 : H := hUpc h164 1062 [] [] [] [(68, 0, 8, I 15)]
noncomputable def m97 : Memo := ⟨[.ptr 68 0, I 14], h186, .agg [IZ (-1), I 0, I 0, U 0, I 0, U 0, IZ (-1), I 0], h187⟩
theorem m97_run : ranTo (evCall (cxX Tryz.prog bad [] [] [(172, isFn 325)]) 1000 60 10 m97.args m97.h) m97.v m97.h' = true := by kernel_rfl
theorem m97_ok {σ : Nat → Int} {W0 : World} (hL : L0 W0) : MemoOk Tryz.prog 1023 σ W0 10 m97 := memo_ok fit (Known2.nil σ) (FnsOk.cons (ext_is hL) (FnsOk.nil)) m97_run
noncomputable def h188 : H := hUpd h187 1063 [] [] []
noncomputable def h189 : H := hUpc h164 1064 [] [] [] [(68, 0, 8, I 16)]
noncomputable def m98 : Memo := ⟨[.ptr 68 0, I 15], h188, .agg [IZ (-1), I 0, I 0, U 0, I 0, U 0, IZ (-1), I 0], h189⟩
theorem m98_run : ranTo (evCall (cxX Tryz.prog bad [] [] [(172, isFn 325)]) 1000 60 10 m98.args m98.h) m98.v m98.h' = true := by kernel_rfl
theorem m98_ok {σ : Nat → Int} {W0 : World} (hL : L0 W0) : MemoOk Tryz.prog 1023 σ W0 10 m98 := memo_ok fit (Known2.nil σ) (FnsOk.cons (ext_is hL) (FnsOk.nil)) m98_run
noncomputable def h190 : H := hUpd h189 1065 [] [] []
noncomputable def h191 : H := hUpc h164 1066 [] [] [] [(68, 0, 8, I 17)]
noncomputable def m99 : Memo := ⟨[.ptr 68 0, I 16], h190, .agg [IZ (-1), I 0, I 0, U 0, I 0, U 0, IZ (-1), I 0], h191⟩
theorem m99_run : ranTo (evCall (cxX Tryz.prog bad [] [] [(172, isFn 325)]) 1000 60 10 m99.args m99.h) m99.v m99.h' = true := by kernel_rfl
theorem m99_ok {σ : Nat → Int} {W0 : World} (hL : L0 W0) : MemoOk Tryz.prog 1023 σ W0 10 m99 := memo_ok fit (Known2.nil σ) (FnsOk.cons (ext_is hL) (FnsOk.nil)) m99_run
noncomputable def h192 : H := hUpd h191 1067 [] [] []
noncomputable def h193 : H := hUpc h164 1068 [] [] [] [(68, 0, 8, I 18)]
noncomputable def m100 : Memo := ⟨[.ptr 68 0, I 17], h192, .agg [IZ (-1), I 0, I 0, U 0, I 0, U 0, IZ (-1), I 0], h193⟩
theorem m100_run : ranTo (evCall (cxX Tryz.prog bad [] [] [(172, isFn 325)]) 1000 60 10 m100.args m100.h) m100.v m100.h' = true := by kernel_rfl
theorem m100_ok {σ : Nat → Int} {W0 : World} (hL : L0 W0) : MemoOk Tryz.prog 1023 σ W0 10 m100 := memo_ok fit (Known2.nil σ) (FnsOk.cons (ext_is hL) (FnsOk.nil)) m100_run
noncomputable def h194 : H := hUpd h193 1069 [] [] []
noncomputable def h195 : H := hUpc h164 1070 [] [] [] [(68, 0, 8, I 19)]
noncomputable def m101 : Memo := ⟨[.ptr 68 0, I 18], h194, .agg [IZ (-1), I 0, I 0, U 0, I 0, U 0, IZ (-1), I 0], h195⟩
theorem m101_run : ranTo (evCall (cxX Tryz.prog bad [] [] [(172, isFn 325)]) 1000 60 10 m101.args m101.h) m101.v m101.h' = true := by kernel_rfl
theorem m101_ok {σ : Nat → Int} {W0 : World} (hL : L0 W0) : MemoOk Tryz.prog 1023 σ W0 10 m101 := memo_ok fit (Known2.nil σ) (FnsOk.cons (ext_is hL) (FnsOk.nil)) m101_run
noncomputable def h196 : H := hUpd h195 1071 [] [] []
noncomputable def h197 : H := hUpc h164 1072 [] [] [] [(68, 0, 8, I 20)]
noncomputable def m102 : Memo := ⟨[.ptr 68 0, I 19], h196, .agg [IZ (-1), I 0, I 0, U 0, I 0, U 0, IZ (-1), I 0], h197⟩
theorem m102_run : ranTo (evCall (cxX Tryz.prog bad [] [] [(172, isFn 325)]) 1000 60 10 m102.args m102.h) m102.v m102.h' = true := by kernel_rfl
theorem m102_ok {σ : Nat → Int} {W0 : World} (hL : L0 W0) : MemoOk Tryz.prog 1023 σ W0 10 m102 := memo_ok fit (Known2.nil σ) (FnsOk.cons (ext_is hL) (FnsOk.nil)) m102_run
noncomputable def h198 : H := hUpd h197 1073 [] [] []
noncomputable def h199 : H := hUpc h164 1074 [] [] [] [(68, 0, 8, I 21)]
noncomputable def m103 : Memo := ⟨[.ptr 68 0, I 20], h198, .agg [IZ (-1), I 0, I 0, U 0, I 0, U 0, IZ (-1), I 0], h199⟩
theorem m103_run : ranTo (evCall (cxX Tryz.prog bad [] [] [(172, isFn 325)]) 1000 60 10 m103.args m103.h) m103.v m103.h' = true := by kernel_rfl
theorem m103_ok {σ : Nat → Int} {W0 : World} (hL : L0 W0) : MemoOk Tryz.prog 1023 σ W0 10 m103 := memo_ok fit (Known2.nil σ) (FnsOk.cons (ext_is hL) (FnsOk.nil)) m103_run
noncomputable def h200 : H := hUpd h199 1075 [] [] []
noncomputable def h201 : H := hUpc h164 1076 [] [] [] [(68, 0, 8, I 22)]
noncomputable def m104 : Memo := ⟨[.ptr 68 0, I 21], h200, .agg [IZ (-1), I 0, I 0, U 0, I 0, U 0, IZ (-1), I 0], h201⟩
theorem m104_run : ranTo (evCall (cxX Tryz.prog bad [] [] [(172, isFn 325)]) 1000 60 10 m104.args m104.h) m104.v m104.h' = true := by kernel_rfl
theorem m104_ok {σ : Nat → Int} {W0 : World} (hL : L0 W0) : MemoOk Tryz.prog 1023 σ W0 10 m104 := memo_ok fit (Known2.nil σ) (FnsOk.cons (ext_is hL) (FnsOk.nil)) m104_run
noncomputable def h202 : H := hUpd h201 1077 [] [] []
noncomputable def h203 : H := hUpc h164 1078 [] [] [] [(68, 0, 8, I 23)]
noncomputable def m105 : Memo := ⟨[.ptr 68 0, I 22], h202, .agg [IZ (-1), I 0, I 0, U 0, I 0, U 0, IZ (-1), I 0], h203⟩
theorem m105_run : ranTo (evCall (cxX Tryz.prog bad [] [] [(172, isFn 325)]) 1000 60 10 m105.args m105.h) m105.v m105.h' = true := by kernel_rfl
theorem m105_ok {σ : Nat → Int} {W0 : World} (hL : L0 W0) : MemoOk Tryz.prog 1023 σ W0 10 m105 := memo_ok fit (Known2.nil σ) (FnsOk.cons (ext_is hL) (FnsOk.nil)) m105_run
noncomputable def h204 : H := hUpd h203 1079 [] [] []
noncomputable def h205 : H := hUpc h165 1080 [] [] [] [(68, 0, 8, I 24)]
noncomputable def m106 : Memo := ⟨[.ptr 68 0, I 23], h204, .agg [IZ (-1), I 0, I 0, U 0, I 0, U 0, IZ (-1), I 0], h205⟩
theorem m106_run : ranTo (evCall (cxX Tryz.prog bad [] [] [(172, isFn 325)]) 1000 60 10 m106.args m106.h) m106.v m106.h' = true := by kernel_rfl
theorem m106_ok {σ : Nat → Int} {W0 : World} (hL : L0 W0) : MemoOk Tryz.prog 1023 σ W0 10 m106 := memo_ok fit (Known2.nil σ) (FnsOk.cons (ext_is hL) (FnsOk.nil)) m106_run
noncomputable def h206 : H := hUpd h205 1081 [] [] []
noncomputable def h207 : H := hUpc h167 1082 [] [] [] [(68, 0, 8, I 25)]
noncomputable def m107 : Memo := ⟨[.ptr 68 0, I 24], h206, .agg [IZ (-1), I 0, I 0, U 0, I 0, U 0, IZ (-1), I 0], h207⟩
theorem m107_run : ranTo (evCall (cxX Tryz.prog bad [] [] [(172, isFn 325)]) 1000 60 10 m107.args m107.h) m107.v m107.h' = true := by kernel_rfl
theorem m107_ok {σ : Nat → Int} {W0 : World} (hL : L0 W0) : MemoOk Tryz.prog 1023 σ W0 10 m107 := memo_ok fit (Known2.nil σ) (FnsOk.cons (ext_is hL) (FnsOk.nil)) m107_run
noncomputable def h208 : H := hUpd h207 1083 [] [] []
noncomputable def h209 : H := hUpc h169 1084 [] [] [] [(68, 0, 8, I 26)]
noncomputable def m108 : Memo := ⟨[.ptr 68 0, I 25], h208, .agg [IZ (-1), I 0, I 0, U 0, I 0, U 0, IZ (-1), I 0], h209⟩
theorem m108_run : ranTo (evCall (cxX Tryz.prog bad [] [] [(172, isFn 325)]) 1000 60 10 m108.args m108.h) m108.v m108.h' = true := by kernel_rfl
theorem m108_ok {σ : Nat → Int} {W0 : World} (hL : L0 W0) : MemoOk Tryz.prog 1023 σ W0 10 m108 := memo_ok fit (Known2.nil σ) (FnsOk.cons (ext_is hL) (FnsOk.nil)) m108_run
noncomputable def h210 : H := hUpd h209 1085 [] [] []
noncomputable def h211 : H := hUpc h171 1086 [] [] [] [(68, 0, 8, I 27)]
noncomputable def m109 : Memo := ⟨[.ptr 68 0, I 26], h210, .agg [IZ (-1), I 0, I 0, U 0, I 0, U 0, IZ (-1), I 0], h211⟩
theorem m109_run : ranTo (evCall (cxX Tryz.prog bad [] [] [(172, isFn 325)]) 1000 60 10 m109.args m109.h) m109.v m109.h' = true := by kernel_rfl
theorem m109_ok {σ : Nat → Int} {W0 : World} (hL : L0 W0) : MemoOk Tryz.prog 1023 σ W0 10 m109 := memo_ok fit (Known2.nil σ) (FnsOk.cons (ext_is hL) (FnsOk.nil)) m109_run
noncomputable def h212 : H := hUpd h211 1087 [] [] []
noncomputable def h213 : H := hUpc h173 1088 [] [] [] [(68, 0, 8, I 28)]
noncomputable def m110 : Memo := ⟨[.ptr 68 0, I 27], h212, .agg [IZ (-1), I 0, I 0, U 0, I 0, U 0, IZ (-1), I 0], h213⟩
theorem m110_run : ranTo (evCall (cxX Tryz.prog bad [] [] [(172, isFn 325)]) 1000 60 10 m110.args m110.h) m110.v m110.h' = true := by kernel_rfl
theorem m110_ok {σ : Nat → Int} {W0 : World} (hL : L0 W0) : MemoOk Tryz.prog 1023 σ W0 10 m110 := memo_ok fit (Known2.nil σ) (FnsOk.cons (ext_is hL) (FnsOk.nil)) m110_run
noncomputable def h214 : H := hUpd h213 1089 [] [] []
noncomputable def h215 : H := hUpc h175 1090 [] [] [] [(68, 0, 8, I 29)]
noncomputable def m111 : Memo := ⟨[.ptr 68 0, I 28], h214, .agg [IZ (-1), I 0, I 0, U 0, I 0, U 0, IZ (-1), I 0], h215⟩
theorem m111_run : ranTo (evCall (cxX Tryz.prog bad [] [] [(172, isFn 325)]) 1000 60 10 m111.args m111.h) m111.v m111.h' = true := by kernel_rfl
theorem m111_ok {σ : Nat → Int} {W0 : World} (hL : L0 W0) : MemoOk Tryz.prog 1023 σ W0 10 m111 := memo_ok fit (Known2.nil σ) (FnsOk.cons (ext_is hL) (FnsOk.nil)) m111_run
noncomputable def h216 : H := hUpd h215 1091 [] [] []
noncomputable def h217 : H := hUpc h177 1092 [] [] [] [(68, 0, 8, I 30)]
noncomputable def m112 : Memo := ⟨[.ptr 68 0, I 29], h216, .agg [IZ (-1), I 0, I 0, U 0, I 0, U 0, IZ (-1), I 0], h217⟩
theorem m112_run : ranTo (evCall (cxX Tryz.prog bad [] [] [(172, isFn 325)]) 1000 60 10 m112.args m112.h) m112.v m112.h' = true := by kernel_rfl
theorem m112_ok {σ : Nat → Int} {W0 : World} (hL : L0 W0) : MemoOk Tryz.prog 1023 σ W0 10 m112 := memo_ok fit (Known2.nil σ) (FnsOk.cons (ext_is hL) (FnsOk.nil)) m112_run
noncomputable def h218 : H := hUpd h217 1093 [] [] []
noncomputable def h219 : H := hUpc h179 1094 [] [] [] [(68, 0, 8, I 31)]
noncomputable def m113 : Memo := ⟨[.ptr 68 0, I 30], h218, .agg [IZ (-1), I 0, I 0, U 0, I 0, U 0, IZ (-1), I 0], h219⟩
theorem m113_run : ranTo (evCall (cxX Tryz.prog bad [] [] [(172, isFn 325)]) 1000 60 10 m113.args m113.h) m113.v m113.h' = true := by kernel_rfl
theorem m113_ok {σ : Nat → Int} {W0 : World} (hL : L0 W0) : MemoOk Tryz.prog 1023 σ W0 10 m113 := memo_ok fit (Known2.nil σ) (FnsOk.cons (ext_is hL) (FnsOk.nil)) m113_run
noncomputable def h220 : H := hUpd h219 1095 [] [] []
noncomputable def h221 : H := hUpc h181 1096 [] [] [] [(68, 0, 8, I 32)]
noncomputable def m114 : Memo := ⟨[.ptr 68 0, I 31], h220, .agg [IZ (-1), I 0, I 0, U 0, I 0, U 0, IZ (-1), I 0], h221⟩
theorem m114_run : ranTo (evCall (cxX Tryz.prog bad [] [] [(172, isFn 325)]) 1000 60 10 m114.args m114.h) m114.v m114.h' = true := by kernel_rfl
theorem m114_ok {σ : Nat → Int} {W0 : World} (hL : L0 W0) : MemoOk Tryz.prog 1023 σ W0 10 m114 := memo_ok fit (Known2.nil σ) (FnsOk.cons (ext_is hL) (FnsOk.nil)) m114_run
noncomputable def h222 : H := hUpd h221 1097 [] [] []
noncomputable def h223 : H := hUpc h183 1098 [] [] [] [(68, 0, 8, I 33)]
noncomputable def m115 : Memo := ⟨[.ptr 68 0, I 32], h222, .agg [IZ (-1), I 0, I 0, U 0, I 0, U 0, IZ (-1), I 0], h223⟩
theorem m115_run : ranTo (evCall (cxX Tryz.prog bad [] [] [(172, isFn 325)]) 1000 60 10 m115.args m115.h) m115.v m115.h' = true := by kernel_rfl
theorem m115_ok {σ : Nat → Int} {W0 : World} (hL : L0 W0) : MemoOk Tryz.prog 1023 σ W0 10 m115 := memo_ok fit (Known2.nil σ) (FnsOk.cons (ext_is hL) (FnsOk.nil)) m115_run
noncomputable def h224 : H := hUpd h223 1099 [] [] []
noncomputable def h225 : H := hUpc h185 1100 [] [] [] [(68, 0, 8, I 34)]
noncomputable def m116 : Memo := ⟨[.ptr 68 0, I 33], h224, .agg [IZ (-1), I 0, I 0, U 0, I 0, U 0, IZ (-1), I 0], h225⟩
theorem m116_run : ranTo (evCall (cxX Tryz.prog bad [] [] [(172, isFn 325)]) 1000 60 10 m116.args m116.h) m116.v m116.h' = true := by kernel_rfl
theorem m116_ok {σ : Nat → Int} {W0 : World} (hL : L0 W0) : MemoOk Tryz.prog 1023 σ W0 10 m116 := memo_ok fit (Known2.nil σ) (FnsOk.cons (ext_is hL) (FnsOk.nil)) m116_run
noncomputable def h226 : H := hUpd h225 1101 [] [] []
noncomputable def h227 : H := hUpc h187 1102 [] [] [] [(68, 0, 8, I 35)]
noncomputable def m117 : Memo := ⟨[.ptr 68 0, I 34], h226, .agg [IZ (-1), I 0, I 0, U 0, I 0, U 0, IZ (-1), I 0], h227⟩
theorem m117_run : ranTo (evCall (cxX Tryz.prog bad [] [] [(172, isFn 325)]) 1000 60 10 m117.args m117.h) m117.v m117.h' = true := by kernel_rfl
theorem m117_ok {σ : Nat → Int} {W0 : World} (hL : L0 W0) : MemoOk Tryz.prog 1023 σ W0 10 m117 := memo_ok fit (Known2.nil σ) (FnsOk.cons (ext_is hL) (FnsOk.nil)) m117_run
noncomputable def h228 : H := hUpd h227 1103 [] [] []
noncomputable def h229 : H := hUpc h189 1104 [] [] [] [(68, 0, 8, I 36)]
noncomputable def m118 : Memo := ⟨[.ptr 68 0, I 35], h228, .agg [IZ (-1), I 0, I 0, U 0, I 0, U 0, IZ (-1), I 0], h229⟩
theorem m118_run : ranTo (evCall (cxX Tryz.prog bad [] [] [(172, isFn 325)]) 1000 60 10 m118.args m118.h) m118.v m118.h' = true := by kernel_rfl
theorem m118_ok {σ : Nat → Int} {W0 : World} (hL : L0 W0) : MemoOk Tryz.prog 1023 σ W0 10 m118 := memo_ok fit (Known2.nil σ) (FnsOk.cons (ext_is hL) (FnsOk.nil)) m118_run
noncomputable def h230 : H := hUpd h229 1105 [] [] []
noncomputable def h231 : H := hUpc h191 1106 [] [] [] [(68, 0, 8, I 37)]
noncomputable def m119 : Memo := ⟨[.ptr 68 0, I 36], h230, .agg [IZ (-1), I 0, I 0, U 0, I 0, U 0, IZ (-1), I 0], h231⟩
theorem m119_run : ranTo (evCall (cxX Tryz.prog bad [] [] [(172, isFn 325)]) 1000 60 10 m119.args m119.h) m119.v m119.h' = true := by kernel_rfl
theorem m119_ok {σ : Nat → Int} {W0 : World} (hL : L0 W0) : MemoOk Tryz.prog 1023 σ W0 10 m119 := memo_ok fit (Known2.nil σ) (FnsOk.cons (ext_is hL) (FnsOk.nil)) m119_run
noncomputable def h232 : H := hUpd h231 1107 [] [] []
noncomputable def h233 : H := hUpc h193 1108 [] [] [] [(68, 0, 8, I 38)]
noncomputable def m120 : Memo := ⟨[.ptr 68 0, I 37], h232, .agg [IZ (-1), I 0, I 0, U 0, I 0, U 0, IZ (-1), I 0], h233⟩
theorem m120_run : ranTo (evCall (cxX Tryz.prog bad [] [] [(172, isFn 325)]) 1000 60 10 m120.args m120.h) m120.v m120.h' = true := by kernel_rfl
theorem m120_ok {σ : Nat → Int} {W0 : World} (hL : L0 W0) : MemoOk Tryz.prog 1023 σ W0 10 m120 := memo_ok fit (Known2.nil σ) (FnsOk.cons (ext_is hL) (FnsOk.nil)) m120_run
noncomputable def h234 : H := hUpd h233 1109 [] [] []
noncomputable def h235 : H := hUpc h195 1110 [] [] [] [(68, 0, 8, I 39)]
noncomputable def m121 : Memo := ⟨[.ptr 68 0, I 38], h234, .agg [IZ (-1), I 0, I 0, U 0, I 0, U 0, IZ (-1), I 0], h235⟩
theorem m121_run : ranTo (evCall (cxX Tryz.prog bad [] [] [(172, isFn 325)]) 1000 60 10 m121.args m121.h) m121.v m121.h' = true := by kernel_rfl
theorem m121_ok {σ : Nat → Int} {W0 : World} (hL : L0 W0) : MemoOk Tryz.prog 1023 σ W0 10 m121 := memo_ok fit (Known2.nil σ) (FnsOk.cons (ext_is hL) (FnsOk.nil)) m121_run
theorem run2 : lawF Tryz.prog bad [] ((6, numExtE [(0, 30, .var 2), (1, 40, .var 3)]) :: (9, frameFn [m5]) :: (10, frameFn [m45, m84, m85, m86, m87, m88, m89, m90, m91, m92, m93, m94, m95, m96, m97, m98, m99, m100, m101, m102, m103, m104, m105, m106, m107, m108, m109, m110, m111, m112, m113, m114, m115, m116, m117, m118, m119, m120, m121]) :: q0) 1000 60 4 [.int .i64 (.var 0), .int .i64 (.var 1)] [((-9223372036854775808), 9223372036854775807), ((-9223372036854775808), 9223372036854775807), (2, 2), (0, 39)] (peels 39 3) (sentH 325 10 errTab) = true := by kernel_rfl
theorem case2 {σ : Nat → Int} {W : World} (hL : L0 W) (hk : Known2 σ [((-9223372036854775808), 9223372036854775807), ((-9223372036854775808), 9223372036854775807), (2, 2), (0, 39)] []) (hT : TabOk Tryz.prog bad 6 σ [(0, 30, .var 2), (1, 40, .var 3)]) {xs : Array Value} (hv : ∀ ρ, VRs σ ρ [.int .i64 (.var 0), .int .i64 (.var 1)] xs.toList) : Calls Tryz.prog 4 xs W fun e w' => e = .returned (.bool true) ∧ Below W.heap.size W w' := by
  obtain ⟨ads, h1, h2, h3⟩ := errs_sents hL
  exact law_case_f fit h1 h2 h3 errs_all errs_lt (by kernel_rfl) hk (FnsOk.cons (hT.ok fit) (FnsOk.cons (frame_fn_ok (all_cons (m5_ok hL (hk.relax (r' := [((-9223372036854775808), 9223372036854775807), ((-9223372036854775808), 9223372036854775807), (0, 29), (0, 39)]) (by kernel_rfl))) (all_nil))) (FnsOk.cons (frame_fn_ok (all_cons (m45_ok hL (hk.relax (r' := [((-9223372036854775808), 9223372036854775807), ((-9223372036854775808), 9223372036854775807), (1, 29), (0, 39)]) (by kernel_rfl))) (all_cons (m84_ok hL (hk.relax (r' := [((-9223372036854775808), 9223372036854775807), ((-9223372036854775808), 9223372036854775807), (2, 29), (0, 39)]) (by kernel_rfl))) (all_cons (m85_ok hL hk) (all_cons (m86_ok hL) (all_cons (m87_ok hL) (all_cons (m88_ok hL) (all_cons (m89_ok hL) (all_cons (m90_ok hL) (all_cons (m91_ok hL) (all_cons (m92_ok hL) (all_cons (m93_ok hL) (all_cons (m94_ok hL) (all_cons (m95_ok hL) (all_cons (m96_ok hL) (all_cons (m97_ok hL) (all_cons (m98_ok hL) (all_cons (m99_ok hL) (all_cons (m100_ok hL) (all_cons (m101_ok hL) (all_cons (m102_ok hL) (all_cons (m103_ok hL) (all_cons (m104_ok hL) (all_cons (m105_ok hL) (all_cons (m106_ok hL) (all_cons (m107_ok hL) (all_cons (m108_ok hL) (all_cons (m109_ok hL) (all_cons (m110_ok hL) (all_cons (m111_ok hL) (all_cons (m112_ok hL) (all_cons (m113_ok hL) (all_cons (m114_ok hL) (all_cons (m115_ok hL) (all_cons (m116_ok hL) (all_cons (m117_ok hL) (all_cons (m118_ok hL) (all_cons (m119_ok hL) (all_cons (m120_ok hL) (all_cons (m121_ok hL) (all_nil))))))))))))))))))))))))))))))))))))))))) ((q0_ok hL))))) hv run2
noncomputable def h236 : H := hUpc h196 920 [] [(34, .cells 107 ((rp 9 (U 0) ((I 3) :: rp 5 (I 0) ((U 0) :: rp 4 (I 0) ((U 0) :: rp 4 (I 0) ((U 0) :: rp 4 (I 0) ((U 0) :: rp 4 (I 0) ((U 0) :: rp 4 (I 0) ((U 0) :: rp 4 (I 0) ((U 0) :: rp 4 (I 0) ((U 0) :: rp 4 (I 0) ((U 0) :: rp 4 (I 0) ((U 0) :: rp 4 (I 0) ((U 0) :: rp 4 (I 0) ((U 0) :: rp 4 (I 0) ((U 0) :: rp 4 (I 0) ((U 0) :: rp 4 (I 0) ((U 0) :: rp 4 (I 0) ((U 0) :: (I 3) :: (I 0) :: (I 0) :: (I 0) :: (U 0) :: (I 7) :: (I 0) :: (I 0) :: (I 0) :: (U 0) :: rp 4 (I 0) ([U 0, I 0]))))))))))))))))))) :: rp 5 (rp 9 (U 0) (rp 6 (I 0) ((U 0) :: rp 4 (I 0) ((U 0) :: rp 4 (I 0) ((U 0) :: rp 4 (I 0) ((U 0) :: rp 4 (I 0) ((U 0) :: rp 4 (I 0) ((U 0) :: rp 4 (I 0) ((U 0) :: rp 4 (I 0) ((U 0) :: rp 4 (I 0) ((U 0) :: rp 4 (I 0) ((U 0) :: rp 4 (I 0) ((U 0) :: rp 4 (I 0) ((U 0) :: rp 4 (I 0) ((U 0) :: rp 4 (I 0) ((U 0) :: rp 4 (I 0) ((U 0) :: rp 4 (I 0) ((U 0) :: rp 4 (I 0) ((U 0) :: rp 4 (I 0) ((U 0) :: rp 4 (I 0) ([U 0, I 0]))))))))))))))))))))) ([])) false),
  (56, .cells 2 ([IZ (-1), .int .i64 (.sub (.var 2) (.lit 2))] :: rp 7 ([I 0, I 0]) ([])) false),
  (27, .cells 32 (((U 201326592) :: (U 67108864) :: rp 30 (U 0) ([])) :: rp 11 (rp 32 (U 0) ([])) ([])) false)] [(67, 0, [.slice 365 0 1 1 1 false])] [(68, 0, 8, I 2)]
noncomputable def h237 : H := hUpc h236 1089 [] [] [(30, 0, [I 16, .slice 663 0 1 1 10 false, I 2]),
  (56, 0, [IZ (-1), .int .i64 (.sub (.var 2) (.lit 3))])] [(34, 0, 8, U 1), (68, 0, 8, I 3)]
noncomputable def m122 : Memo := ⟨[.ptr 68 0, I 2], h236, .agg [I 0, I 3, I 0, U 0, I 0, U 0, IZ (-1), I 0], h237⟩
theorem m122_run : ranTo (evCall (cxX Tryz.prog bad [((-9223372036854775808), 9223372036854775807), ((-9223372036854775808), 9223372036854775807), (3, 29), (0, 39)] [] [(51, pureFn [p4, p2, p3]), (172, isFn 325)]) 1000 60 10 m122.args m122.h) m122.v m122.h' = true := by kernel_rfl
theorem m122_ok {σ : Nat → Int} {W0 : World} (hL : L0 W0) (hk : Known2 σ [((-9223372036854775808), 9223372036854775807), ((-9223372036854775808), 9223372036854775807), (3, 29), (0, 39)] []) : MemoOk Tryz.prog 1023 σ W0 10 m122 := memo_ok fit hk (FnsOk.cons (pure_fn_ok (all_cons (p4_ok hL) (all_cons (p2_ok hL) (all_cons (p3_ok hL) (all_nil))))) (FnsOk.cons (ext_is hL) (FnsOk.nil))) m122_run
noncomputable def h238 : H := hUpd h237 1090 [27] [] []
noncomputable def h239 : H := hUpc h238 1208 [] [] [(67, 0, [.slice 365 0 0 1 1 false])] [(34, 0, 9, I 4), (34, 0, 10, I 6), (68, 0, 8, I 4)]
noncomputable def m123 : Memo := ⟨[.ptr 68 0, I 3], h238, .agg [I 0, I 5, I 0, U 0, I 0, U 0, IZ (-1), I 6], h239⟩
theorem m123_run : ranTo (evCall (cxX Tryz.prog bad [((-9223372036854775808), 9223372036854775807), ((-9223372036854775808), 9223372036854775807), (3, 3), (0, 39)] [] [(51, pureFn [p4, p2, p3]), (172, isFn 325)]) 1000 60 10 m123.args m123.h) m123.v m123.h' = true := by kernel_rfl
theorem m123_ok {σ : Nat → Int} {W0 : World} (hL : L0 W0) (hk : Known2 σ [((-9223372036854775808), 9223372036854775807), ((-9223372036854775808), 9223372036854775807), (3, 3), (0, 39)] []) : MemoOk Tryz.prog 1023 σ W0 10 m123 := memo_ok fit hk (FnsOk.cons (pure_fn_ok (all_cons (p4_ok hL) (all_cons (p2_ok hL) (all_cons (p3_ok hL) (all_nil))))) (FnsOk.cons (ext_is hL) (FnsOk.nil))) m123_run
noncomputable def h240 : H := hUpd h239 1209 [34, 56] [] []
noncomputable def h241 : H := hUpc h240 1210 [] [] [] [(68, 0, 8, I 5)]
noncomputable def m124 : Memo := ⟨[.ptr 68 0, I 4], h240, .agg [IZ (-1), I 0, I 0, U 0, I 0, U 0, IZ (-1), I 0], h241⟩
theorem m124_run : ranTo (evCall (cxX Tryz.prog bad [] [] [(172, isFn 325)]) 1000 60 10 m124.args m124.h) m124.v m124.h' = true := by kernel_rfl
theorem m124_ok {σ : Nat → Int} {W0 : World} (hL : L0 W0) : MemoOk Tryz.prog 1023 σ W0 10 m124 := memo_ok fit (Known2.nil σ) (FnsOk.cons (ext_is hL) (FnsOk.nil)) m124_run
noncomputable def h242 : H := hUpd h241 1211 [] [] []
noncomputable def h243 : H := hUpc h240 1212 [] [] [] [(68, 0, 8, I 6)]
noncomputable def m125 : Memo := ⟨[.ptr 68 0, I 5], h242, .agg [IZ (-1), I 0, I 0, U 0, I 0, U 0, IZ (-1), I 0], h243⟩
theorem m125_run : ranTo (evCall (cxX Tryz.prog bad [] [] [(172, isFn 325)]) 1000 60 10 m125.args m125.h) m125.v m125.h' = true := by kernel_rfl
theorem m125_ok {σ : Nat → Int} {W0 : World} (hL : L0 W0) : MemoOk Tryz.prog 1023 σ W0 10 m125 := memo_ok fit (Known2.nil σ) (FnsOk.cons (ext_is hL) (FnsOk.nil)) m125_run
noncomputable def h244 : H := hUpd h243 1213 [] [] []
noncomputable def h245 : H := hUpc h240 1214 [] [] [] [(68, 0, 8, I 7)]
noncomputable def m126 : Memo := ⟨[.ptr 68 0, I 6], h244, .agg [IZ (-1), I 0, I 0, U 0, I 0, U 0, IZ (-1), I 0], h245⟩
theorem m126_run : ranTo (evCall (cxX Tryz.prog bad [] [] [(172, isFn 325)]) 1000 60 10 m126.args m126.h) m126.v m126.h' = true := by kernel_rfl
theorem m126_ok {σ : Nat → Int} {W0 : World} (hL : L0 W0) : MemoOk Tryz.prog 1023 σ W0 10 m126 := memo_ok fit (Known2.nil σ) (FnsOk.cons (ext_is hL) (FnsOk.nil)) m126_run
noncomputable def h246 : H := hUpd h245 1215 [] [] []
noncomputable def h247 : H := hUpc h240 1216 [] [] [] [(68, 0, 8, I 8)]
noncomputable def m127 : Memo := ⟨[.ptr 68 0, I 7], h246, .agg [IZ (-1), I 0, I 0, U 0, I 0, U 0, IZ (-1), I 0], h247⟩
theorem m127_run : ranTo (evCall (cxX Tryz.prog bad [] [] [(172, isFn 325)]) 1000 60 10 m127.args m127.h) m127.v m127.h' = true := by kernel_rfl
theorem m127_ok {σ : Nat → Int} {W0 : World} (hL : L0 W0) : MemoOk Tryz.prog 1023 σ W0 10 m127 := memo_ok fit (Known2.nil σ) (FnsOk.cons (ext_is hL) (FnsOk.nil)) m127_run
noncomputable def h248 : H := hUpd h247 1217 [] [] []
noncomputable def h249 : H := hUpc h240 1218 [] [] [] [(68, 0, 8, I 9)]
noncomputable def m128 : Memo := ⟨[.ptr 68 0, I 8], h248, .agg [IZ (-1), I 0, I 0, U 0, I 0, U 0, IZ (-1), I 0], h249⟩
theorem m128_run : ranTo (evCall (cxX Tryz.prog bad [] [] [(172, isFn 325)]) 1000 60 10 m128.args m128.h) m128.v m128.h' = true := by kernel_rfl
theorem m128_ok {σ : Nat → Int} {W0 : World} (hL : L0 W0) : MemoOk Tryz.prog 1023 σ W0 10 m128 := memo_ok fit (Known2.nil σ) (FnsOk.cons (ext_is hL) (FnsOk.nil)) m128_run
noncomputable def h250 : H := hUpd h249 1219 [] [] []
noncomputable def h251 : H := hUpc h240 1220 [] [] [] [(68, 0, 8, I 10)]
noncomputable def m129 : Memo := ⟨[.ptr 68 0, I 9], h250, .agg [IZ (-1), I 0, I 0, U 0, I 0, U 0, IZ (-1), I 0], h251⟩
theorem m129_run : ranTo (evCall (cxX Tryz.prog bad [] [] [(172, isFn 325)]) 1000 60 10 m129.args m129.h) m129.v m129.h' = true := by kernel_rfl
theorem m129_ok {σ : Nat → Int} {W0 : World} (hL : L0 W0) : MemoOk Tryz.prog 1023 σ W0 10 m129 := memo_ok fit (Known2.nil σ) (FnsOk.cons (ext_is hL) (FnsOk.nil)) m129_run
noncomputable def h252 : H := hUpd h251 1221 [] [] []
noncomputable def h253 : H := hUpc h240 1222 [] [] [] [(68, 0, 8, I 11)]
noncomputable def m130 : Memo := ⟨[.ptr 68 0, I 10], h252, .agg [IZ (-1), I 0, I 0, U 0, I 0, U 0, IZ (-1), I 0], h253⟩
theorem m130_run : ranTo (evCall (cxX Tryz.prog bad [] [] [(172, isFn 325)]) 1000 60 10 m130.args m130.h) m130.v m130.h' = true := by kernel_rfl
theorem m130_ok {σ : Nat → Int} {W0 : World} (hL : L0 W0) : MemoOk Tryz.prog 1023 σ W0 10 m130 := memo_ok fit (Known2.nil σ) (FnsOk.cons (ext_is hL) (FnsOk.nil)) m130_run
noncomputable def h254 : H := hUpd h253 1223 [] [] []
noncomputable def h255 : H := hUpc h240 1224 [] [] [] [(68, 0, 8, I 12)]
noncomputable def m131 : Memo := ⟨[.ptr 68 0, I 11], h254, .agg [IZ (-1), I 0, I 0, U 0, I 0, U 0, IZ (-1), I 0], h255⟩
theorem m131_run : ranTo (evCall (cxX Tryz.prog bad [] [] [(172, isFn 325)]) 1000 60 10 m131.args m131.h) m131.v m131.h' = true := by kernel_rfl
theorem m131_ok {σ : Nat → Int} {W0 : World} (hL : L0 W0) : MemoOk Tryz.prog 1023 σ W0 10 m131 := memo_ok fit (Known2.nil σ) (FnsOk.cons (ext_is hL) (FnsOk.nil)) m131_run
noncomputable def h256 : H := hUpd h255 1225 [] [] []
noncomputable def h257 : H := hUpc h240 1226 [] [] [] [(68, 0, 8, I 13)]
noncomputable def m132 : Memo := ⟨[.ptr 68 0, I 12], h256, .agg [IZ (-1), I 0, I 0, U 0, I 0, U 0, IZ (-1), I 0], h257⟩
theorem m132_run : ranTo (evCall (cxX Tryz.prog bad [] [] [(172, isFn 325)]) 1000 60 10 m132.args m132.h) m132.v m132.h' = true := by kernel_rfl
theorem m132_ok {σ : Nat → Int} {W0 : World} (hL : L0 W0) : MemoOk Tryz.prog 1023 σ W0 10 m132 := memo_ok fit (Known2.nil σ) (FnsOk.cons (ext_is hL) (FnsOk.nil)) m132_run
noncomputable def h258 : H := hUpd h257 1227 [] [] []
noncomputable def h259 : H := hUpc h240 1228 [] [] [] [(68, 0, 8, I 14)]
noncomputable def m133 : Memo := ⟨[.ptr 68 0, I 13], h258, .agg [IZ (-1), I 0, I 0, U 0, I 0, U 0, IZ (-1), I 0], h259⟩
theorem m133_run : ranTo (evCall (cxX Tryz.prog bad [] [] [(172, isFn 325)]) 1000 60 10 m133.args m133.h) m133.v m133.h' = true := by kernel_rfl
theorem m133_ok {σ : Nat → Int} {W0 : World} (hL : L0 W0) : MemoOk Tryz.prog 1023 σ W0 10 m133 := memo_ok fit (Known2.nil σ) (FnsOk.cons (ext_is hL) (FnsOk.nil)) m133_run
noncomputable def h260 : H := hUpd h259 1229 [] [] []
noncomputable def h261 : H := hUpc h240 1230 [] [] [] [(68, 0, 8, I 15)]
noncomputable def m134 : Memo := ⟨[.ptr 68 0, I 14], h260, .agg [IZ (-1), I 0, I 0, U 0, I 0, U 0, IZ (-1), I 0], h261⟩
theorem m134_run : ranTo (evCall (cxX Tryz.prog bad [] [] [(172, isFn 325)]) 1000 60 10 m134.args m134.h) m134.v m134.h' = true := by kernel_rfl
theorem m134_ok {σ : Nat → Int} {W0 : World} (hL : L0 W0) : MemoOk Tryz.prog 1023 σ W0 10 m134 := memo_ok fit (Known2.nil σ) (FnsOk.cons (ext_is hL) (FnsOk.nil)) m134_run
noncomputable def h262 : H := hUpd h261 1231 [] [] []
noncomputable def h263 : H := hUpc h240 1232 [] [] [] [(68, 0, 8, I 16)]
noncomputable def m135 : Memo := ⟨[.ptr 68 0, I 15], h262, .agg [IZ (-1), I 0, I 0, U 0, I 0, U 0, IZ (-1), I 0], h263⟩
theorem m135_run : ranTo (evCall (cxX Tryz.prog bad [] [] [(172, isFn 325)]) 1000 60 10 m135.args m135.h) m135.v m135.h' = true := by kernel_rfl
theorem m135_ok {σ : Nat → Int} {W0 : World} (hL : L0 W0) : MemoOk Tryz.prog 1023 σ W0 10 m135 := memo_ok fit (Known2.nil σ) (FnsOk.cons (ext_is hL) (FnsOk.nil)) m135_run
noncomputable def h264 : H := hUpd h263 1233 [] [] []
noncomputable def h265 : H := hUpc h240 1234 [] [] [] [(68, 0, 8, I 17)]
noncomputable def m136 : Memo := ⟨[.ptr 68 0, I 16], h264, .agg [IZ (-1), I 0, I 0, U 0, I 0, U 0, IZ (-1), I 0], h265⟩
theorem m136_run : ranTo (evCall (cxX Tryz.prog bad [] [] [(172, isFn 325)]) 1000 60 10 m136.args m136.h) m136.v m136.h' = true := by kernel_rfl
theorem m136_ok {σ : Nat → Int} {W0 : World} (hL : L0 W0) : MemoOk Tryz.prog 1023 σ W0 10 m136 := memo_ok fit (Known2.nil σ) (FnsOk.cons (ext_is hL) (FnsOk.nil)) m136_run
noncomputable def h266 : H := hUpd h265 1235 [] [] []
noncomputable def h267 : H := hUpc h240 1236 [] [] [] [(68, 0, 8, I 18)]
noncomputable def m137 : Memo := ⟨[.ptr 68 0, I 17], h266, .agg [IZ (-1), I 0, I 0, U 0, I 0, U 0, IZ (-1), I 0], h267⟩
theorem m137_run : ranTo (evCall (cxX Tryz.prog bad [] [] [(172, isFn 325)]) 1000 60 10 m137.args m137.h) m137.v m137.h' = true := by kernel_rfl
theorem m137_ok {σ : Nat → Int} {W0 : World} (hL : L0 W0) : MemoOk Tryz.prog 1023 σ W0 10 m137 := memo_ok fit (Known2.nil σ) (FnsOk.cons (ext_is hL) (FnsOk.nil)) m137_run
noncomputable def h268 : H := hUpd h267 1237 [] [] []
noncomputable def h269 : H := hUpc h240 1238 [] [] [] [(68, 0, 8, I 19)]
noncomputable def m138 : Memo := ⟨[.ptr 68 0, I 18], h268, .agg [IZ (-1), I 0, I 0, U 0, I 0, U 0, IZ (-1), I 0], h269⟩
theorem m138_run : ranTo (evCall (cxX Tryz.prog bad [] [] [(172, isFn 325)]) 1000 60 10 m138.args m138.h) m138.v m138.h' = true := by kernel_rfl
theorem m138_ok {σ : Nat → Int} {W0 : World} (hL : L0 W0) : MemoOk Tryz.prog 1023 σ W0 10 m138 := memo_ok fit (Known2.nil σ) (FnsOk.cons (ext_is hL) (FnsOk.nil)) m138_run
noncomputable def h270 : H := hUpd h269 1239 [] [] []
noncomputable def h271 : H := hUpc h240 1240 [] [] [] [(68, 0, 8, I 20)]
noncomputable def m139 : Memo := ⟨[.ptr 68 0, I 19], h270, .agg [IZ (-1), I 0, I 0, U 0, I 0, U 0, IZ (-1), I 0], h271⟩
theorem m139_run : ranTo (evCall (cxX Tryz.prog bad [] [] [(172, isFn 325)]) 1000 60 10 m139.args m139.h) m139.v m139.h' = true := by kernel_rfl
theorem m139_ok {σ : Nat → Int} {W0 : World} (hL : L0 W0) : MemoOk Tryz.prog 1023 σ W0 10 m139 := memo_ok fit (Known2.nil σ) (FnsOk.cons (ext_is hL) (FnsOk.nil)) m139_run
noncomputable def h272 : H := hUpd h271 1241 [] [] []
noncomputable def h273 : H := hUpc h240 1242 [] [] [] [(68, 0, 8, I 21)]
noncomputable def m140 : Memo := ⟨[.ptr 68 0, I 20], h272, .agg [IZ (-1), I 0, I 0, U 0, I 0, U 0, IZ (-1), I 0], h273⟩
theorem m140_run : ranTo (evCall (cxX Tryz.prog bad [] [] [(172, isFn 325)]) 1000 60 10 m140.args m140.h) m140.v m140.h' = true := by kernel_rfl
theorem m140_ok {σ : Nat → Int} {W0 : World} (hL : L0 W0) : MemoOk Tryz.prog 1023 σ W0 10 m140 := memo_ok fit (Known2.nil σ) (FnsOk.cons (ext_is hL) (FnsOk.nil)) m140_run
noncomputable def h274 : H := hUpd h273 1243 [] [] []
noncomputable def h275 : H := hUpc h240 1244 [] [] [] [(68, 0, 8, I 22)]
noncomputable def m141 : Memo := ⟨[.ptr 68 0, I 21], h274, .agg [IZ (-1), I 0, I 0, U 0, I 0, U 0, IZ (-1), I 0], h275⟩
theorem m141_run : ranTo (evCall (cxX Tryz.prog bad [] [] [(172, isFn 325)]) 1000 60 10 m141.args m141.h) m141.v m141.h' = true := by kernel_rfl
theorem m141_ok {σ : Nat → Int} {W0 : World} (hL : L0 W0) : MemoOk Tryz.prog 1023 σ W0 10 m141 := memo_ok fit (Known2.nil σ) (FnsOk.cons (ext_is hL) (FnsOk.nil)) m141_run
noncomputable def h276 : H := hUpd h275 1245 [] [] []
noncomputable def h277 : H := hUpc h240 1246 [] [] [] [(68, 0, 8, I 23)]
noncomputable def m142 : Memo := ⟨[.ptr 68 0, I 22], h276, .agg [IZ (-1), I 0, I 0, U 0, I 0, U 0, IZ (-1), I 0], h277⟩
theorem m142_run : ranTo (evCall (cxX Tryz.prog bad [] [] [(172, isFn 325)]) 1000 60 10 m142.args m142.h) m142.v m142.h' = true := by kernel_rfl
theorem m142_ok {σ : Nat → Int} {W0 : World} (hL : L0 W0) : MemoOk Tryz.prog 1023 σ W0 10 m142 := memo_ok fit (Known2.nil σ) (FnsOk.cons (ext_is hL) (FnsOk.nil)) m142_run
noncomputable def h278 : H := hUpd h277 1247 [] [] []
noncomputable def h279 : H := hUpc h240 1248 [] [] [] [(68, 0, 8, I 24)]
noncomputable def m143 : Memo := ⟨[.ptr 68 0, I 23], h278, .agg [IZ (-1), I 0, I 0, U 0, I 0, U 0, IZ (-1), I 0], h279⟩
theorem m143_run : ranTo (evCall (cxX Tryz.prog bad [] [] [(172, isFn 325)]) 1000 60 10 m143.args m143.h) m143.v m143.h' = true := by kernel_rfl
theorem m143_ok {σ : Nat → Int} {W0 : World} (hL : L0 W0) : MemoOk Tryz.prog 1023 σ W0 10 m143 := memo_ok fit (Known2.nil σ) (FnsOk.cons (ext_is hL) (FnsOk.nil)) m143_run
noncomputable def h280 : H := hUpd h279 1249 [] [] []
noncomputable def h281 : H := hUpc h241 1250 [] [] [] [(68, 0, 8, I 25)]
noncomputable def m144 : Memo := ⟨[.ptr 68 0, I 24], h280, .agg [IZ (-1), I 0, I 0, U 0, I 0, U 0, IZ (-1), I 0], h281⟩
theorem m144_run : ranTo (evCall (cxX Tryz.prog bad [] [] [(172, isFn 325)]) 1000 60 10 m144.args m144.h) m144.v m144.h' = true := by kernel_rfl
theorem m144_ok {σ : Nat → Int} {W0 : World} (hL : L0 W0) : MemoOk Tryz.prog 1023 σ W0 10 m144 := memo_ok fit (Known2.nil σ) (FnsOk.cons (ext_is hL) (FnsOk.nil)) m144_run
noncomputable def h282 : H := hUpd h281 1251 [] [] []
noncomputable def h283 : H := hUpc h243 1252 [] [] [] [(68, 0, 8, I 26)]
noncomputable def m145 : Memo := ⟨[.ptr 68 0, I 25], h282, .agg [IZ (-1), I 0, I 0, U 0, I 0, U 0, IZ (-1), I 0], h283⟩
theorem m145_run : ranTo (evCall (cxX Tryz.prog bad [] [] [(172, isFn 325)]) 1000 60 10 m145.args m145.h) m145.v m145.h' = true := by kernel_rfl
theorem m145_ok {σ : Nat → Int} {W0 : World} (hL : L0 W0) : MemoOk Tryz.prog 1023 σ W0 10 m145 := memo_ok fit (Known2.nil σ) (FnsOk.cons (ext_is hL) (FnsOk.nil)) m145_run
noncomputable def h284 : H := hUpd h283 1253 [] [] []
noncomputable def h285 : H := hUpc h245 1254 [] [] [] [(68, 0, 8, I 27)]
noncomputable def m146 : Memo := ⟨[.ptr 68 0, I 26], h284, .agg [IZ (-1), I 0, I 0, U 0, I 0, U 0, IZ (-1), I 0], h285⟩
theorem m146_run : ranTo (evCall (cxX Tryz.prog bad [] [] [(172, isFn 325)]) 1000 60 10 m146.args m146.h) m146.v m146.h' = true := by kernel_rfl
theorem m146_ok {σ : Nat → Int} {W0 : World} (hL : L0 W0) : MemoOk Tryz.prog 1023 σ W0 10 m146 := memo_ok fit (Known2.nil σ) (FnsOk.cons (ext_is hL) (FnsOk.nil)) m146_run
noncomputable def h286 : H := hUpd h285 1255 [] [] []
noncomputable def h287 : H := hUpc h247 1256 [] [] [] [(68, 0, 8, I 28)]
noncomputable def m147 : Memo := ⟨[.ptr 68 0, I 27], h286, .agg [IZ (-1), I 0, I 0, U 0, I 0, U 0, IZ (-1), I 0], h287⟩
theorem m147_run : ranTo (evCall (cxX Tryz.prog bad [] [] [(172, isFn 325)]) 1000 60 10 m147.args m147.h) m147.v m147.h' = true := by kernel_rfl
theorem m147_ok {σ : Nat → Int} {W0 : World} (hL : L0 W0) : MemoOk Tryz.prog 1023 σ W0 10 m147 := memo_ok fit (Known2.nil σ) (FnsOk.cons (ext_is hL) (FnsOk.nil)) m147_run
noncomputable def h288 : H := hUpd h287 1257 [] [] []
noncomputable def h289 : H := hUpc h249 1258 [] [] [] [(68, 0, 8, I 29)]
noncomputable def m148 : Memo := ⟨[.ptr 68 0, I 28], h288, .agg [IZ (-1), I 0, I 0, U 0, I 0, U 0, IZ (-1), I 0], h289⟩
theorem m148_run : ranTo (evCall (cxX Tryz.prog bad [] [] [(172, isFn 325)]) 1000 60 10 m148.args m148.h) m148.v m148.h' = true := by kernel_rfl
theorem m148_ok {σ : Nat → Int} {W0 : World} (hL : L0 W0) : MemoOk Tryz.prog 1023 σ W0 10 m148 := memo_ok fit (Known2.nil σ) (FnsOk.cons (ext_is hL) (FnsOk.nil)) m148_run
noncomputable def h290 : H := hUpd h289 1259 [] [] []
noncomputable def h291 : H := hUpc h251 1260 [] [] [] [(68, 0, 8, I 30)]
noncomputable def m149 : Memo := ⟨[.ptr 68 0, I 29], h290, .agg [IZ (-1), I 0, I 0, U 0, I 0, U 0, IZ (-1), I 0], h291⟩
theorem m149_run : ranTo (evCall (cxX Tryz.prog bad [] [] [(172, isFn 325)]) 1000 60 10 m149.args m149.h) m149.v m149.h' = true := by kernel_rfl
theorem m149_ok {σ : Nat → Int} {W0 : World} (hL : L0 W0) : MemoOk Tryz.prog 1023 σ W0 10 m149 := memo_ok fit (Known2.nil σ) (FnsOk.cons (ext_is hL) (FnsOk.nil)) m149_run
noncomputable def h292 : H := hUpd h291 1261 [] [] []
noncomputable def h293 : H := hUpc h253 1262 [] [] [] [(68, 0, 8, I 31)]
noncomputable def m150 : Memo := ⟨[.ptr 68 0, I 30], h292, .agg [IZ (-1), I 0, I 0, U 0, I 0, U 0, IZ (-1), I 0], h293⟩
theorem m150_run : ranTo (evCall (cxX Tryz.prog bad [] [] [(172, isFn 325)]) 1000 60 10 m150.args m150.h) m150.v m150.h' = true := by kernel_rfl
theorem m150_ok {σ : Nat → Int} {W0 : World} (hL : L0 W0) : MemoOk Tryz.prog 1023 σ W0 10 m150 := memo_ok fit (Known2.nil σ) (FnsOk.cons (ext_is hL) (FnsOk.nil)) m150_run
noncomputable def h294 : H := hUpd h293 1263 [] [] []
noncomputable def h295 : H := hUpc h255 1264 [] [] [] [(68, 0, 8, I 32)]
noncomputable def m151 : Memo := ⟨[.ptr 68 0, I 31], h294, .agg [IZ (-1), I 0, I 0, U 0, I 0, U 0, IZ (-1), I 0], h295⟩
theorem m151_run : ranTo (evCall (cxX Tryz.prog bad [] [] [(172, isFn 325)]) 1000 60 10 m151.args m151.h) m151.v m151.h' = true := by kernel_rfl
theorem m151_ok {σ : Nat → Int} {W0 : World} (hL : L0 W0) : MemoOk Tryz.prog 1023 σ W0 10 m151 := memo_ok fit (Known2.nil σ) (FnsOk.cons (ext_is hL) (FnsOk.nil)) m151_run
noncomputable def h296 : H := hUpd h295 1265 [] [] []
noncomputable def h297 : H := hUpc h257 1266 [] [] [] [(68, 0, 8, I 33)]
noncomputable def m152 : Memo := ⟨[.ptr 68 0, I 32], h296, .agg [IZ (-1), I 0, I 0, U 0, I 0, U 0, IZ (-1), I 0], h297⟩
theorem m152_run : ranTo (evCall (cxX Tryz.prog bad [] [] [(172, isFn 325)]) 1000 60 10 m152.args m152.h) m152.v m152.h' = true := by kernel_rfl
theorem m152_ok {σ : Nat → Int} {W0 : World} (hL : L0 W0) : MemoOk Tryz.prog 1023 σ W0 10 m152 := memo_ok fit (Known2.nil σ) (FnsOk.cons (ext_is hL) (FnsOk.nil)) m152_run
noncomputable def h298 : H := hUpd h297 1267 [] [] []
noncomputable def h299 : H := hUpc h259 1268 [] [] [] [(68, 0, 8, I 34)]
noncomputable def m153 : Memo := ⟨[.ptr 68 0, I 33], h298, .agg [IZ (-1), I 0, I 0, U 0, I 0, U 0, IZ (-1), I 0], h299⟩
theorem m153_run : ranTo (evCall (cxX Tryz.prog bad [] [] [(172, isFn 325)]) 1000 60 10 m153.args m153.h) m153.v m153.h' = true := by kernel_rfl
theorem m153_ok {σ : Nat → Int} {W0 : World} (hL : L0 W0) : MemoOk Tryz.prog 1023 σ W0 10 m153 := memo_ok fit (Known2.nil σ) (FnsOk.cons (ext_is hL) (FnsOk.nil)) m153_run
noncomputable def h300 : H := hUpd h299 1269 [] [] []
noncomputable def h301 : H := hUpc h261 1270 [] [] [] [(68, 0, 8, I 35)]
noncomputable def m154 : Memo := ⟨[.ptr 68 0, I 34], h300, .agg [IZ (-1), I 0, I 0, U 0, I 0, U 0, IZ (-1), I 0], h301⟩
theorem m154_run : ranTo (evCall (cxX Tryz.prog bad [] [] [(172, isFn 325)]) 1000 60 10 m154.args m154.h) m154.v m154.h' = true := by kernel_rfl
theorem m154_ok {σ : Nat → Int} {W0 : World} (hL : L0 W0) : MemoOk Tryz.prog 1023 σ W0 10 m154 := memo_ok fit (Known2.nil σ) (FnsOk.cons (ext_is hL) (FnsOk.nil)) m154_run
noncomputable def h302 : H := hUpd h301 1271 [] [] []
noncomputable def h303 : H := hUpc h263 1272 [] [] [] [(68, 0, 8, I 36)]
noncomputable def m155 : Memo := ⟨[.ptr 68 0, I 35], h302, .agg [IZ (-1), I 0, I 0, U 0, I 0, U 0, IZ (-1), I 0], h303⟩
theorem m155_run : ranTo (evCall (cxX Tryz.prog bad [] [] [(172, isFn 325)]) 1000 60 10 m155.args m155.h) m155.v m155.h' = true := by kernel_rfl
theorem m155_ok {σ : Nat → Int} {W0 : World} (hL : L0 W0) : MemoOk Tryz.prog 1023 σ W0 10 m155 := memo_ok fit (Known2.nil σ) (FnsOk.cons (ext_is hL) (FnsOk.nil)) m155_run
noncomputable def h304 : H := hUpd h303 1273 [] [] []
noncomputable def h305 : H := hUpc h265 1274 [] [] [] [(68, 0, 8, I 37)]
noncomputable def m156 : Memo := ⟨[.ptr 68 0, I 36], h304, .agg [IZ (-1), I 0, I 0, U 0, I 0, U 0, IZ (-1), I 0], h305⟩
theorem m156_run : ranTo (evCall (cxX Tryz.prog bad [] [] [(172, isFn 325)]) 1000 60 10 m156.args m156.h) m156.v m156.h' = true := by kernel_rfl
theorem m156_ok {σ : Nat → Int} {W0 : World} (hL : L0 W0) : MemoOk Tryz.prog 1023 σ W0 10 m156 := memo_ok fit (Known2.nil σ) (FnsOk.cons (ext_is hL) (FnsOk.nil)) m156_run
noncomputable def h306 : H := hUpd h305 1275 [] [] []
noncomputable def h307 : H := hUpc h267 1276 [] [] [] [(68, 0, 8, I 38)]
noncomputable def m157 : Memo := ⟨[.ptr 68 0, I 37], h306, .agg [IZ (-1), I 0, I 0, U 0, I 0, U 0, IZ (-1), I 0], h307⟩
theorem m157_run : ranTo (evCall (cxX Tryz.prog bad [] [] [(172, isFn 325)]) 1000 60 10 m157.args m157.h) m157.v m157.h' = true := by kernel_rfl
theorem m157_ok {σ : Nat → Int} {W0 : World} (hL : L0 W0) : MemoOk Tryz.prog 1023 σ W0 10 m157 := memo_ok fit (Known2.nil σ) (FnsOk.cons (ext_is hL) (FnsOk.nil)) m157_run
noncomputable def h308 : H := hUpd h307 1277 [] [] []
noncomputable def h309 : H := hUpc h269 1278 [] [] [] [(68, 0, 8, I 39)]
noncomputable def m158 : Memo := ⟨[.ptr 68 0, I 38], h308, .agg [IZ (-1), I 0, I 0, U 0, I 0, U 0, IZ (-1), I 0], h309⟩
theorem m158_run : ranTo (evCall (cxX Tryz.prog bad [] [] [(172, isFn 325)]) 1000 60 10 m158.args m158.h) m158.v m158.h' = true := by kernel_rfl
theorem m158_ok {σ : Nat → Int} {W0 : World} (hL : L0 W0) : MemoOk Tryz.prog 1023 σ W0 10 m158 := memo_ok fit (Known2.nil σ) (FnsOk.cons (ext_is hL) (FnsOk.nil)) m158_run
theorem run3 : lawF Tryz.prog bad [] ((6, numExtE [(0, 30, .var 2), (1, 40, .var 3)]) :: (9, frameFn [m5]) :: (10, frameFn [m45, m84, m122, m123, m124, m125, m126, m127, m128, m129, m130, m131, m132, m133, m134, m135, m136, m137, m138, m139, m140, m141, m142, m143, m144, m145, m146, m147, m148, m149, m150, m151, m152, m153, m154, m155, m156, m157, m158]) :: q0) 1000 60 4 [.int .i64 (.var 0), .int .i64 (.var 1)] [((-9223372036854775808), 9223372036854775807), ((-9223372036854775808), 9223372036854775807), (3, 3), (0, 39)] (peels 39 3) (sentH 325 10 errTab) = true := by kernel_rfl
theorem case3 {σ : Nat → Int} {W : World} (hL : L0 W) (hk : Known2 σ [((-9223372036854775808), 9223372036854775807), ((-9223372036854775808), 9223372036854775807), (3, 3), (0, 39)] []) (hT : TabOk Tryz.prog bad 6 σ [(0, 30, .var 2), (1, 40, .var 3)]) {xs : Array Value} (hv : ∀ ρ, VRs σ ρ [.int .i64 (.var 0), .int .i64 (.var 1)] xs.toList) : Calls Tryz.prog 4 xs W fun e w' => e = .returned (.bool true) ∧ Below W.heap.size W w' := by
  obtain ⟨ads, h1, h2, h3⟩ := errs_sents hL
  exact law_case_f fit h1 h2 h3 errs_all errs_lt (by kernel_rfl) hk (FnsOk.cons (hT.ok fit) (FnsOk.cons (frame_fn_ok (all_cons (m5_ok hL (hk.relax (r' := [((-9223372036854775808), 9223372036854775807), ((-9223372036854775808), 9223372036854775807), (0, 29), (0, 39)]) (by kernel_rfl))) (all_nil))) (FnsOk.cons (frame_fn_ok (all_cons (m45_ok hL (hk.relax (r' := [((-9223372036854775808), 9223372036854775807), ((-9223372036854775808), 9223372036854775807), (1, 29), (0, 39)]) (by kernel_rfl))) (all_cons (m84_ok hL (hk.relax (r' := [((-9223372036854775808), 9223372036854775807), ((-9223372036854775808), 9223372036854775807), (2, 29), (0, 39)]) (by kernel_rfl))) (all_cons (m122_ok hL (hk.relax (r' := [((-9223372036854775808), 9223372036854775807), ((-9223372036854775808), 9223372036854775807), (3, 29), (0, 39)]) (by kernel_rfl))) (all_cons (m123_ok hL hk) (all_cons (m124_ok hL) (all_cons (m125_ok hL) (all_cons (m126_ok hL) (all_cons (m127_ok hL) (all_cons (m128_ok hL) (all_cons (m129_ok hL) (all_cons (m130_ok hL) (all_cons (m131_ok hL) (all_cons (m132_ok hL) (all_cons (m133_ok hL) (all_cons (m134_ok hL) (all_cons (m135_ok hL) (all_cons (m136_ok hL) (all_cons (m137_ok hL) (all_cons (m138_ok hL) (all_cons (m139_ok hL) (all_cons (m140_ok hL) (all_cons (m141_ok hL) (all_cons (m142_ok hL) (all_cons (m143_ok hL) (all_cons (m144_ok hL) (all_cons (m145_ok hL) (all_cons (m146_ok hL) (all_cons (m147_ok hL) (all_cons (m148_ok hL) (all_cons (m149_ok hL) (all_cons (m150_ok hL) (all_cons (m151_ok hL) (all_cons (m152_ok hL) (all_cons (m153_ok hL) (all_cons (m154_ok hL) (all_cons (m155_ok hL) (all_cons (m156_ok hL) (all_cons (m157_ok hL) (all_cons (m158_ok hL) (all_nil))))))))))))))))))))))))))))))))))))))))) ((q0_ok hL))))) hv run3
noncomputable def h310 : H := hUpc h270 1090 [] [(34, .cells 107 ((rp 8 (U 0) ((U 1) :: (I 3) :: rp 5 (I 0) ((U 0) :: rp 4 (I 0) ((U 0) :: rp 4 (I 0) ((U 0) :: rp 4 (I 0) ((U 0) :: rp 4 (I 0) ((U 0) :: rp 4 (I 0) ((U 0) :: rp 4 (I 0) ((U 0) :: rp 4 (I 0) ((U 0) :: rp 4 (I 0) ((U 0) :: rp 4 (I 0) ((U 0) :: rp 4 (I 0) ((U 0) :: rp 4 (I 0) ((U 0) :: rp 4 (I 0) ((U 0) :: rp 4 (I 0) ((U 0) :: rp 4 (I 0) ((U 0) :: rp 4 (I 0) ((U 0) :: (I 3) :: (I 0) :: (I 0) :: (I 0) :: (U 0) :: (I 7) :: (I 0) :: (I 0) :: (I 0) :: (U 0) :: rp 4 (I 0) ([U 0, I 0]))))))))))))))))))) :: rp 5 (rp 9 (U 0) (rp 6 (I 0) ((U 0) :: rp 4 (I 0) ((U 0) :: rp 4 (I 0) ((U 0) :: rp 4 (I 0) ((U 0) :: rp 4 (I 0) ((U 0) :: rp 4 (I 0) ((U 0) :: rp 4 (I 0) ((U 0) :: rp 4 (I 0) ((U 0) :: rp 4 (I 0) ((U 0) :: rp 4 (I 0) ((U 0) :: rp 4 (I 0) ((U 0) :: rp 4 (I 0) ((U 0) :: rp 4 (I 0) ((U 0) :: rp 4 (I 0) ((U 0) :: rp 4 (I 0) ((U 0) :: rp 4 (I 0) ((U 0) :: rp 4 (I 0) ((U 0) :: rp 4 (I 0) ((U 0) :: rp 4 (I 0) ([U 0, I 0]))))))))))))))))))))) ([])) false),
  (56, .cells 2 ([IZ (-1), .int .i64 (.sub (.var 2) (.lit 3))] :: rp 7 ([I 0, I 0]) ([])) false),
  (27, .cells 32 (((U 201326592) :: (U 67108864) :: rp 30 (U 0) ([])) :: rp 11 (rp 32 (U 0) ([])) ([])) false)] [(67, 0, [.slice 365 0 1 1 1 false])] [(68, 0, 8, I 3)]
noncomputable def h311 : H := hUpc h310 1259 [] [] [(30, 0, [I 16, .slice 663 0 1 1 10 false, I 3]),
  (56, 0, [IZ (-1), .int .i64 (.sub (.var 2) (.lit 4))])] [(34, 0, 8, U 0), (68, 0, 8, I 4)]
noncomputable def m159 : Memo := ⟨[.ptr 68 0, I 3], h310, .agg [I 0, I 1, I 0, U 0, I 0, U 0, IZ (-1), I 0], h311⟩
theorem m159_run : ranTo (evCall (cxX Tryz.prog bad [((-9223372036854775808), 9223372036854775807), ((-9223372036854775808), 9223372036854775807), (4, 29), (0, 39)] [] [(51, pureFn [p4, p2, p3]), (172, isFn 325)]) 1000 60 10 m159.args m159.h) m159.v m159.h' = true := by kernel_rfl
theorem m159_ok {σ : Nat → Int} {W0 : World} (hL : L0 W0) (hk : Known2 σ [((-9223372036854775808), 9223372036854775807), ((-9223372036854775808), 9223372036854775807), (4, 29), (0, 39)] []) : MemoOk Tryz.prog 1023 σ W0 10 m159 := memo_ok fit hk (FnsOk.cons (pure_fn_ok (all_cons (p4_ok hL) (all_cons (p2_ok hL) (all_cons (p3_ok hL) (all_nil))))) (FnsOk.cons (ext_is hL) (FnsOk.nil))) m159_run
noncomputable def h312 : H := hUpd h311 1260 [27] [] []
noncomputable def h313 : H := hUpc h312 1378 [] [] [(67, 0, [.slice 365 0 0 1 1 false])] [(34, 0, 9, I 4), (34, 0, 10, I 6), (68, 0, 8, I 5)]
noncomputable def m160 : Memo := ⟨[.ptr 68 0, I 4], h312, .agg [I 0, I 5, I 0, U 0, I 0, U 0, IZ (-1), I 6], h313⟩
theorem m160_run : ranTo (evCall (cxX Tryz.prog bad [((-9223372036854775808), 9223372036854775807), ((-9223372036854775808), 9223372036854775807), (4, 4), (0, 39)] [] [(51, pureFn [p4, p2, p3]), (172, isFn 325)]) 1000 60 10 m160.args m160.h) m160.v m160.h' = true := by kernel_rfl
theorem m160_ok {σ : Nat → Int} {W0 : World} (hL : L0 W0) (hk : Known2 σ [((-9223372036854775808), 9223372036854775807), ((-9223372036854775808), 9223372036854775807), (4, 4), (0, 39)] []) : MemoOk Tryz.prog 1023 σ W0 10 m160 := memo_ok fit hk (FnsOk.cons (pure_fn_ok (all_cons (p4_ok hL) (all_cons (p2_ok hL) (all_cons (p3_ok hL) (all_nil))))) (FnsOk.cons (ext_is hL) (FnsOk.nil))) m160_run
noncomputable def h314 : H := hUpd h313 1379 [34, 56] [] []
noncomputable def h315 : H := hUpc h314 1380 [] [] [] [(68, 0, 8, I 6)]
noncomputable def m161 : Memo := ⟨[.ptr 68 0, I 5], h314, .agg [IZ (-1), I 0, I 0, U 0, I 0, U 0, IZ (-1), I 0], h315⟩
theorem m161_run : ranTo (evCall (cxX Tryz.prog bad [] [] [(172, isFn 325)]) 1000 60 10 m161.args m161.h) m161.v m161.h' = true := by kernel_rfl
theorem m161_ok {σ : Nat → Int} {W0 : World} (hL : L0 W0) : MemoOk Tryz.prog 1023 σ W0 10 m161 := memo_ok fit (Known2.nil σ) (FnsOk.cons (ext_is hL) (FnsOk.nil)) m161_run
noncomputable def h316 : H := hUpd h315 1381 [] [] []
noncomputable def h317 : H := hUpc h314 1382 [] [] [] [(68, 0, 8, I 7)]
noncomputable def m162 : Memo := ⟨[.ptr 68 0, I 6], h316, .agg [IZ (-1), I 0, I 0, U 0, I 0, U 0, IZ (-1), I 0], h317⟩
theorem m162_run : ranTo (evCall (cxX Tryz.prog bad [] [] [(172, isFn 325)]) 1000 60 10 m162.args m162.h) m162.v m162.h' = true := by kernel_rfl
theorem m162_ok {σ : Nat → Int} {W0 : World} (hL : L0 W0) : MemoOk Tryz.prog 1023 σ W0 10 m162 := memo_ok fit (Known2.nil σ) (FnsOk.cons (ext_is hL) (FnsOk.nil)) m162_run
noncomputable def h318 : H := hUpd h317 1383 [] [] []
noncomputable def h319 : H := hUpc h314 1384 [] [] [] [(68, 0, 8, I 8)]
noncomputable def m163 : Memo := ⟨[.ptr 68 0, I 7], h318, .agg [IZ (-1), I 0, I 0, U 0, I 0, U 0, IZ (-1), I 0], h319⟩
theorem m163_run : ranTo (evCall (cxX Tryz.prog bad [] [] [(172, isFn 325)]) 1000 60 10 m163.args m163.h) m163.v m163.h' = true := by kernel_rfl
theorem m163_ok {σ : Nat → Int} {W0 : World} (hL : L0 W0) : MemoOk Tryz.prog 1023 σ W0 10 m163 := memo_ok fit (Known2.nil σ) (FnsOk.cons (ext_is hL) (FnsOk.nil)) m163_run
noncomputable def h320 : H := hUpd h319 1385 [] [] []
noncomputable def h321 : H := hUpc h314 1386 [] [] [] [(68, 0, 8, I 9)]
noncomputable def m164 : Memo := ⟨[.ptr 68 0, I 8], h320, .agg [IZ (-1), I 0, I 0, U 0, I 0, U 0, IZ (-1), I 0], h321⟩
theorem m164_run : ranTo (evCall (cxX Tryz.prog bad [] [] [(172, isFn 325)]) 1000 60 10 m164.args m164.h) m164.v m164.h' = true := by kernel_rfl
theorem m164_ok {σ : Nat → Int} {W0 : World} (hL : L0 W0) : MemoOk Tryz.prog 1023 σ W0 10 m164 := memo_ok fit (Known2.nil σ) (FnsOk.cons (ext_is hL) (FnsOk.nil)) m164_run
noncomputable def h322 : H := hUpd h321 1387 [] [] []
noncomputable def h323 : H := hUpc h314 1388 [] [] [] [(68, 0, 8, I 10)]
noncomputable def m165 : Memo := ⟨[.ptr 68 0, I 9], h322, .agg [IZ (-1), I 0, I 0, U 0, I 0, U 0, IZ (-1), I 0], h323⟩
theorem m165_run : ranTo (evCall (cxX Tryz.prog bad [] [] [(172, isFn 325)]) 1000 60 10 m165.args m165.h) m165.v m165.h' = true := by kernel_rfl
theorem m165_ok {σ : Nat → Int} {W0 : World} (hL : L0 W0) : MemoOk Tryz.prog 1023 σ W0 10 m165 := memo_ok fit (Known2.nil σ) (FnsOk.cons (ext_is hL) (FnsOk.nil)) m165_run
noncomputable def h324 : H := hUpd h323 1389 [] [] []
noncomputable def h325 : H := hUpc h314 1390 [] [] [] [(68, 0, 8, I 11)]
noncomputable def m166 : Memo := ⟨[.ptr 68 0, I 10], h324, .agg [IZ (-1), I 0, I 0, U 0, I 0, U 0, IZ (-1), I 0], h325⟩
theorem m166_run : ranTo (evCall (cxX Tryz.prog bad [] [] [(172, isFn 325)]) 1000 60 10 m166.args m166.h) m166.v m166.h' = true := by kernel_rfl
theorem m166_ok {σ : Nat → Int} {W0 : World} (hL : L0 W0) : MemoOk Tryz.prog 1023 σ W0 10 m166 := memo_ok fit (Known2.nil σ) (FnsOk.cons (ext_is hL) (FnsOk.nil)) m166_run
noncomputable def h326 : H := hUpd h325 1391 [] [] []
noncomputable def h327 : H := hUpc h314 1392 [] [] [] [(68, 0, 8, I 12)]
noncomputable def m167 : Memo := ⟨[.ptr 68 0, I 11], h326, .agg [IZ (-1), I 0, I 0, U 0, I 0, U 0, IZ (-1), I 0], h327⟩
theorem m167_run : ranTo (evCall (cxX Tryz.prog bad [] [] [(172, isFn 325)]) 1000 60 10 m167.args m167.h) m167.v m167.h' = true := by kernel_rfl
theorem m167_ok {σ : Nat → Int} {W0 : World} (hL : L0 W0) : MemoOk Tryz.prog 1023 σ W0 10 m167 := memo_ok fit (Known2.nil σ) (FnsOk.cons (ext_is hL) (FnsOk.nil)) m167_run
noncomputable def h328 : H := hUpd h327 1393 [] [] []
noncomputable def h329 : H := hUpc h314 1394 [] [] [] [(68, 0, 8, I 13)]
noncomputable def m168 : Memo := ⟨[.ptr 68 0, I 12], h328, .agg [IZ (-1), I 0, I 0, U 0, I 0, U 0, IZ (-1), I 0], h329⟩
theorem m168_run : ranTo (evCall (cxX Tryz.prog bad [] [] [(172, isFn 325)]) 1000 60 10 m168.args m168.h) m168.v m168.h' = true := by kernel_rfl
theorem m168_ok {σ : Nat → Int} {W0 : World} (hL : L0 W0) : MemoOk Tryz.prog 1023 σ W0 10 m168 := memo_ok fit (Known2.nil σ) (FnsOk.cons (ext_is hL) (FnsOk.nil)) m168_run
noncomputable def h330 : H := hUpd h329 1395 [] [] []
noncomputable def h331 : H := hUpc h314 1396 [] [] [] [(68, 0, 8, I 14)]
noncomputable def m169 : Memo := ⟨[.ptr 68 0, I 13], h330, .agg [IZ (-1), I 0, I 0, U 0, I 0, U 0, IZ (-1), I 0], h331⟩
theorem m169_run : ranTo (evCall (cxX Tryz.prog bad [] [] [(172, isFn 325)]) 1000 60 10 m169.args m169.h) m169.v m169.h' = true := by kernel_rfl
theorem m169_ok {σ : Nat → Int} {W0 : World} (hL : L0 W0) : MemoOk Tryz.prog 1023 σ W0 10 m169 := memo_ok fit (Known2.nil σ) (FnsOk.cons (ext_is hL) (FnsOk.nil)) m169_run
noncomputable def h332 : H := hUpd h331 1397 [] [] []
noncomputable def h333 : H := hUpc h314 1398 [] [] [] [(68, 0, 8, I 15)]
noncomputable def m170 : Memo := ⟨[.ptr 68 0, I 14], h332, .agg [IZ (-1), I 0, I 0, U 0, I 0, U 0, IZ (-1), I 0], h333⟩
theorem m170_run : ranTo (evCall (cxX Tryz.prog bad [] [] [(172, isFn 325)]) 1000 60 10 m170.args m170.h) m170.v m170.h' = true := by kernel_rfl
theorem m170_ok {σ : Nat → Int} {W0 : World} (hL : L0 W0) : MemoOk Tryz.prog 1023 σ W0 10 m170 := memo_ok fit (Known2.nil σ) (FnsOk.cons (ext_is hL) (FnsOk.nil)) m170_run
noncomputable def h334 : H := hUpd h333 1399 [] [] []
noncomputable def h335 : H := hUpc h314 1400 [] [] [] [(68, 0, 8, I 16)]
noncomputable def m171 : Memo := ⟨[.ptr 68 0, I 15], h334, .agg [IZ (-1), I 0, I 0, U 0, I 0, U 0, IZ (-1), I 0], h335⟩
theorem m171_run : ranTo (evCall (cxX Tryz.prog bad [] [] [(172, isFn 325)]) 1000 60 10 m171.args m171.h) m171.v m171.h' = true := by kernel_rfl
theorem m171_ok {σ : Nat → Int} {W0 : World} (hL : L0 W0) : MemoOk Tryz.prog 1023 σ W0 10 m171 := memo_ok fit (Known2.nil σ) (FnsOk.cons (ext_is hL) (FnsOk.nil)) m171_run
noncomputable def h336 : H := hUpd h335 1401 [] [] []
noncomputable def h337 : H := hUpc h314 1402 [] [] [] [(68, 0, 8, I 17)]
noncomputable def m172 : Memo := ⟨[.ptr 68 0, I 16], h336, .agg [IZ (-1), I 0, I 0, U 0, I 0, U 0, IZ (-1), I 0], h337⟩
theorem m172_run : ranTo (evCall (cxX Tryz.prog bad [] [] [(172, isFn 325)]) 1000 60 10 m172.args m172.h) m172.v m172.h' = true := by kernel_rfl
theorem m172_ok {σ : Nat → Int} {W0 : World} (hL : L0 W0) : MemoOk Tryz.prog 1023 σ W0 10 m172 := memo_ok fit (Known2.nil σ) (FnsOk.cons (ext_is hL) (FnsOk.nil)) m172_run
noncomputable def h338 : H := hUpd h337 1403 [] [] []
noncomputable def h339 : H := hUpc h314 1404 [] [] [] [(68, 0, 8, I 18)]
noncomputable def m173 : Memo := ⟨[.ptr 68 0, I 17], h338, .agg [IZ (-1), I 0, I 0, U 0, I 0, U 0, IZ (-1), I 0], h339⟩
theorem m173_run : ranTo (evCall (cxX Tryz.prog bad [] [] [(172, isFn 325)]) 1000 60 10 m173.args m173.h) m173.v m173.h' = true := by kernel_rfl
theorem m173_ok {σ : Nat → Int} {W0 : World} (hL : L0 W0) : MemoOk Tryz.prog 1023 σ W0 10 m173 := memo_ok fit (Known2.nil σ) (FnsOk.cons (ext_is hL) (FnsOk.nil)) m173_run
noncomputable def h340 : H := hUpd h339 1405 [] [] []
noncomputable def h341 : H := hUpc h314 1406 [] [] [] [(68, 0, 8, I 19)]
noncomputable def m174 : Memo := ⟨[.ptr 68 0, I 18], h340, .agg [IZ (-1), I 0, I 0, U 0, I 0, U 0, IZ (-1), I 0], h341⟩
theorem m174_run : ranTo (evCall (cxX Tryz.prog bad [] [] [(172, isFn 325)]) 1000 60 10 m174.args m174.h) m174.v m174.h' = true := by kernel_rfl
theorem m174_ok {σ : Nat → Int} {W0 : World} (hL : L0 W0) : MemoOk Tryz.prog 1023 σ W0 10 m174 := memo_ok fit (Known2.nil σ) (FnsOk.cons (ext_is hL) (FnsOk.nil)) m174_run
noncomputable def h342 : H := hUpd h341 1407 [] [] []
noncomputable def h343 : H := hUpc h314 1408 [] [] [] [(68, 0, 8, I 20)]
noncomputable def m175 : Memo := ⟨[.ptr 68 0, I 19], h342, .agg [IZ (-1), I 0, I 0, U 0, I 0, U 0, IZ (-1), I 0], h343⟩
theorem m175_run : ranTo (evCall (cxX Tryz.prog bad [] [] [(172, isFn 325)]) 1000 60 10 m175.args m175.h) m175.v m175.h' = true := by kernel_rfl
theorem m175_ok {σ : Nat → Int} {W0 : World} (hL : L0 W0) : MemoOk Tryz.prog 1023 σ W0 10 m175 := memo_ok fit (Known2.nil σ) (FnsOk.cons (ext_is hL) (FnsOk.nil)) m175_run
noncomputable def h344 : H := hUpd h343 1409 [] [] []
noncomputable def h345 : H := hUpc h314 1410 [] [] [] [(68, 0, 8, I 21)]
noncomputable def m176 : Memo := ⟨[.ptr 68 0, I 20], h344, .agg [IZ (-1), I 0, I 0, U 0, I 0, U 0, IZ (-1), I 0], h345⟩
theorem m176_run : ranTo (evCall (cxX Tryz.prog bad [] [] [(172, isFn 325)]) 1000 60 10 m176.args m176.h) m176.v m176.h' = true := by kernel_rfl
theorem m176_ok {σ : Nat → Int} {W0 : World} (hL : L0 W0) : MemoOk Tryz.prog 1023 σ W0 10 m176 := memo_ok fit (Known2.nil σ) (FnsOk.cons (ext_is hL) (FnsOk.nil)) m176_run
noncomputable def h346 : H := hUpd h345 1411 [] [] []
noncomputable def h347 : H := hUpc h314 1412 [] [] [] [(68, 0, 8, I 22)]
noncomputable def m177 : Memo := ⟨[.ptr 68 0, I 21], h346, .agg [IZ (-1), I 0, I 0, U 0, I 0, U 0, IZ (-1), I 0], h347⟩
theorem m177_run : ranTo (evCall (cxX Tryz.prog bad [] [] [(172, isFn 325)]) 1000 60 10 m177.args m177.h) m177.v m177.h' = true := by kernel_rfl
theorem m177_ok {σ : Nat → Int} {W0 : World} (hL : L0 W0) : MemoOk Tryz.prog 1023 σ W0 10 m177 := memo_ok fit (Known2.nil σ) (FnsOk.cons (ext_is hL) (FnsOk.nil)) m177_run
noncomputable def h348 : H := hUpd h347 1413 [] [] []
noncomputable def h349 : H := hUpc h314 1414 [] [] [] [(68, 0, 8, I 23)]
noncomputable def m178 : Memo := ⟨[.ptr 68 0, I 22], h348, .agg [IZ (-1), I 0, I 0, U 0, I 0, U 0, IZ (-1), I 0], h349⟩
theorem m178_run : ranTo (evCall (cxX Tryz.prog bad [] [] [(172, isFn 325)]) 1000 60 10 m178.args m178.h) m178.v m178.h' = true := by kernel_rfl
theorem m178_ok {σ : Nat → Int} {W0 : World} (hL : L0 W0) : MemoOk Tryz.prog 1023 σ W0 10 m178 := memo_ok fit (Known2.nil σ) (FnsOk.cons (ext_is hL) (FnsOk.nil)) m178_run
noncomputable def h350 : H := hUpd h349 1415 [] [] []
noncomputable def h351 : H := hUpc h314 1416 [] [] [] [(68, 0, 8, I 24)]
noncomputable def m179 : Memo := ⟨[.ptr 68 0, I 23], h350, .agg [IZ (-1), I 0, I 0, U 0, I 0, U 0, IZ (-1), I 0], h351⟩
theorem m179_run : ranTo (evCall (cxX Tryz.prog bad [] [] [(172, isFn 325)]) 1000 60 10 m179.args m179.h) m179.v m179.h' = true := by kernel_rfl
theorem m179_ok {σ : Nat → Int} {W0 : World} (hL : L0 W0) : MemoOk Tryz.prog 1023 σ W0 10 m179 := memo_ok fit (Known2.nil σ) (FnsOk.cons (ext_is hL) (FnsOk.nil)) m179_run
noncomputable def h352 : H := hUpd h351 1417 [] [] []
noncomputable def h353 : H := hUpc h314 1418 [] [] [] [(68, 0, 8, I 25)]
noncomputable def m180 : Memo := ⟨[.ptr 68 0, I 24], h352, .agg [IZ (-1), I 0, I 0, U 0, I 0, U 0, IZ (-1), I 0], h353⟩
theorem m180_run : ranTo (evCall (cxX Tryz.prog bad [] [] [(172, isFn 325)]) 1000 60 10 m180.args m180.h) m180.v m180.h' = true := by kernel_rfl
theorem m180_ok {σ : Nat → Int} {W0 : World} (hL : L0 W0) : MemoOk Tryz.prog 1023 σ W0 10 m180 := memo_ok fit (Known2.nil σ) (FnsOk.cons (ext_is hL) (FnsOk.nil)) m180_run
noncomputable def h354 : H := hUpd h353 1419 [] [] []
noncomputable def h355 : H := hUpc h315 1420 [] [] [] [(68, 0, 8, I 26)]
noncomputable def m181 : Memo := ⟨[.ptr 68 0, I 25], h354, .agg [IZ (-1), I 0, I 0, U 0, I 0, U 0, IZ (-1), I 0], h355⟩
theorem m181_run : ranTo (evCall (cxX Tryz.prog bad [] [] [(172, isFn 325)]) 1000 60 10 m181.args m181.h) m181.v m181.h' = true := by kernel_rfl
theorem m181_ok {σ : Nat → Int} {W0 : World} (hL : L0 W0) : MemoOk Tryz.prog 1023 σ W0 10 m181 := memo_ok fit (Known2.nil σ) (FnsOk.cons (ext_is hL) (FnsOk.nil)) m181_run
noncomputable def h356 : H := hUpd h355 1421 [] [] []
noncomputable def h357 : H := hUpc h317 1422 [] [] [] [(68, 0, 8, I 27)]
noncomputable def m182 : Memo := ⟨[.ptr 68 0, I 26], h356, .agg [IZ (-1), I 0, I 0, U 0, I 0, U 0, IZ (-1), I 0], h357⟩
theorem m182_run : ranTo (evCall (cxX Tryz.prog bad [] [] [(172, isFn 325)]) 1000 60 10 m182.args m182.h) m182.v m182.h' = true := by kernel_rfl
theorem m182_ok {σ : Nat → Int} {W0 : World} (hL : L0 W0) : MemoOk Tryz.prog 1023 σ W0 10 m182 := memo_ok fit (Known2.nil σ) (FnsOk.cons (ext_is hL) (FnsOk.nil)) m182_run
noncomputable def h358 : H := hUpd h357 1423 [] [] []
noncomputable def h359 : H := hUpc h319 1424 [] [] [] [(68, 0, 8, I 28)]
noncomputable def m183 : Memo := ⟨[.ptr 68 0, I 27], h358, .agg [IZ (-1), I 0, I 0, U 0, I 0, U 0, IZ (-1), I 0], h359⟩
theorem m183_run : ranTo (evCall (cxX Tryz.prog bad [] [] [(172, isFn 325)]) 1000 60 10 m183.args m183.h) m183.v m183.h' = true := by kernel_rfl
theorem m183_ok {σ : Nat → Int} {W0 : World} (hL : L0 W0) : MemoOk Tryz.prog 1023 σ W0 10 m183 := memo_ok fit (Known2.nil σ) (FnsOk.cons (ext_is hL) (FnsOk.nil)) m183_run
noncomputable def h360 : H := hUpd h359 1425 [] [] []
noncomputable def h361 : H := hUpc h321 1426 [] [] [] [(68, 0, 8, I 29)]
noncomputable def m184 : Memo := ⟨[.ptr 68 0, I 28], h360, .agg [IZ (-1), I 0, I 0, U 0, I 0, U 0, IZ (-1), I 0], h361⟩
theorem m184_run : ranTo (evCall (cxX Tryz.prog bad [] [] [(172, isFn 325)]) 1000 60 10 m184.args m184.h) m184.v m184.h' = true := by kernel_rfl
theorem m184_ok {σ : Nat → Int} {W0 : World} (hL : L0 W0) : MemoOk Tryz.prog 1023 σ W0 10 m184 := memo_ok fit (Known2.nil σ) (FnsOk.cons (ext_is hL) (FnsOk.nil)) m184_run
noncomputable def h362 : H := hUpd h361 1427 [] [] []
noncomputable def h363 : H := hUpc h323 1428 [] [] [] [(68, 0, 8, I 30)]
noncomputable def m185 : Memo := ⟨[.ptr 68 0, I 29], h362, .agg [IZ (-1), I 0, I 0, U 0, I 0, U 0, IZ (-1), I 0], h363⟩
theorem m185_run : ranTo (evCall (cxX Tryz.prog bad [] [] [(172, isFn 325)]) 1000 60 10 m185.args m185.h) m185.v m185.h' = true := by kernel_rfl
theorem m185_ok {σ : Nat → Int} {W0 : World} (hL : L0 W0) : MemoOk Tryz.prog 1023 σ W0 10 m185 := memo_ok fit (Known2.nil σ) (FnsOk.cons (ext_is hL) (FnsOk.nil)) m185_run
noncomputable def h364 : H := hUpd h363 1429 [] [] []
noncomputable def h365 : H := hUpc h325 1430 [] [] [] [(68, 0, 8, I 31)]
noncomputable def m186 : Memo := ⟨[.ptr 68 0, I 30], h364, .agg [IZ (-1), I 0, I 0, U 0, I 0, U 0, IZ (-1), I 0], h365⟩
theorem m186_run : ranTo (evCall (cxX Tryz.prog bad [] [] [(172, isFn 325)]) 1000 60 10 m186.args m186.h) m186.v m186.h' = true := by kernel_rfl
theorem m186_ok {σ : Nat → Int} {W0 : World} (hL : L0 W0) : MemoOk Tryz.prog 1023 σ W0 10 m186 := memo_ok fit (Known2.nil σ) (FnsOk.cons (ext_is hL) (FnsOk.nil)) m186_run
noncomputable def h366 : H := hUpd h365 1431 [] [] []
noncomputable def h367 : H := hUpc h327 1432 [] [] [] [(68, 0, 8, I 32)]
noncomputable def m187 : Memo := ⟨[.ptr 68 0, I 31], h366, .agg [IZ (-1), I 0, I 0, U 0, I 0, U 0, IZ (-1), I 0], h367⟩
theorem m187_run : ranTo (evCall (cxX Tryz.prog bad [] [] [(172, isFn 325)]) 1000 60 10 m187.args m187.h) m187.v m187.h' = true := by kernel_rfl
theorem m187_ok {σ : Nat → Int} {W0 : World} (hL : L0 W0) : MemoOk Tryz.prog 1023 σ W0 10 m187 := memo_ok fit (Known2.nil σ) (FnsOk.cons (ext_is hL) (FnsOk.nil)) m187_run
noncomputable def h368 : H := hUpd h367 1433 [] [] []
noncomputable def h369 : H := hUpc h329 1434 [] [] [] [(68, 0, 8, I 33)]
noncomputable def m188 : Memo := ⟨[.ptr 68 0, I 32], h368, .agg [IZ (-1), I 0, I 0, U 0, I 0, U 0, IZ (-1), I 0], h369⟩
theorem m188_run : ranTo (evCall (cxX Tryz.prog bad [] [] [(172, isFn 325)]) 1000 60 10 m188.args m188.h) m188.v m188.h' = true := by kernel_rfl
theorem m188_ok {σ : Nat → Int} {W0 : World} (hL : L0 W0) : MemoOk Tryz.prog 1023 σ W0 10 m188 := memo_ok fit (Known2.nil σ) (FnsOk.cons (ext_is hL) (FnsOk.nil)) m188_run
noncomputable def h370 : H := hUpd h369 1435 [] [] []
noncomputable def h371 : H := hUpc h331 1436 [] [] [] [(68, 0, 8, I 34)]
noncomputable def m189 : Memo := ⟨[.ptr 68 0, I 33], h370, .agg [IZ (-1), I 0, I 0, U 0, I 0, U 0, IZ (-1), I 0], h371⟩
theorem m189_run : ranTo (evCall (cxX Tryz.prog bad [] [] [(172, isFn 325)]) 1000 60 10 m189.args m189.h) m189.v m189.h' = true := by kernel_rfl
theorem m189_ok {σ : Nat → Int} {W0 : World} (hL : L0 W0) : MemoOk Tryz.prog 1023 σ W0 10 m189 := memo_ok fit (Known2.nil σ) (FnsOk.cons (ext_is hL) (FnsOk.nil)) m189_run
noncomputable def h372 : H := hUpd h371 1437 [] [] []
noncomputable def h373 : H := hUpc h333 1438 [] [] [] [(68, 0, 8, I 35)]
noncomputable def m190 : Memo := ⟨[.ptr 68 0, I 34], h372, .agg [IZ (-1), I 0, I 0, U 0, I 0, U 0, IZ (-1), I 0], h373⟩
theorem m190_run : ranTo (evCall (cxX Tryz.prog bad [] [] [(172, isFn 325)]) 1000 60 10 m190.args m190.h) m190.v m190.h' = true := by kernel_rfl
theorem m190_ok {σ : Nat → Int} {W0 : World} (hL : L0 W0) : MemoOk Tryz.prog 1023 σ W0 10 m190 := memo_ok fit (Known2.nil σ) (FnsOk.cons (ext_is hL) (FnsOk.nil)) m190_run
noncomputable def h374 : H := hUpd h373 1439 [] [] []
noncomputable def h375 : H := hUpc h335 1440 [] [] [] [(68, 0, 8, I 36)]
noncomputable def m191 : Memo := ⟨[.ptr 68 0, I 35], h374, .agg [IZ (-1), I 0, I 0, U 0, I 0, U 0, IZ (-1), I 0], h375⟩
theorem m191_run : ranTo (evCall (cxX Tryz.prog bad [] [] [(172, isFn 325)]) 1000 60 10 m191.args m191.h) m191.v m191.h' = true := by kernel_rfl
theorem m191_ok {σ : Nat → Int} {W0 : World} (hL : L0 W0) : MemoOk Tryz.prog 1023 σ W0 10 m191 := memo_ok fit (Known2.nil σ) (FnsOk.cons (ext_is hL) (FnsOk.nil)) m191_run
noncomputable def h376 : H := hUpd h375 1441 [] [] []
noncomputable def h377 : H := hUpc h337 1442 [] [] [] [(68, 0, 8, I 37)]
noncomputable def m192 : Memo := ⟨[.ptr 68 0, I 36], h376, .agg [IZ (-1), I 0, I 0, U 0, I 0, U 0, IZ (-1), I 0], h377⟩
theorem m192_run : ranTo (evCall (cxX Tryz.prog bad [] [] [(172, isFn 325)]) 1000 60 10 m192.args m192.h) m192.v m192.h' = true := by kernel_rfl
theorem m192_ok {σ : Nat → Int} {W0 : World} (hL : L0 W0) : MemoOk Tryz.prog 1023 σ W0 10 m192 := memo_ok fit (Known2.nil σ) (FnsOk.cons (ext_is hL) (FnsOk.nil)) m192_run
noncomputable def h378 : H := hUpd h377 1443 [] [] []
noncomputable def h379 : H := hUpc h339 1444 [] [] [] [(68, 0, 8, I 38)]
noncomputable def m193 : Memo := ⟨[.ptr 68 0, I 37], h378, .agg [IZ (-1), I 0, I 0, U 0, I 0, U 0, IZ (-1), I 0], h379⟩
theorem m193_run : ranTo (evCall (cxX Tryz.prog bad [] [] [(172, isFn 325)]) 1000 60 10 m193.args m193.h) m193.v m193.h' = true := by kernel_rfl
theorem m193_ok {σ : Nat → Int} {W0 : World} (hL : L0 W0) : MemoOk Tryz.prog 1023 σ W0 10 m193 := memo_ok fit (Known2.nil σ) (FnsOk.cons (ext_is hL) (FnsOk.nil)) m193_run
noncomputable def h380 : H := hUpd h379 1445 [] [] []
noncomputable def h381 : H := hUpc h341 1446 [] [] [] [(68, 0, 8, I 39)]
noncomputable def m194 : Memo := ⟨[.ptr 68 0, I 38], h380, .agg [IZ (-1), I 0, I 0, U 0, I 0, U 0, IZ (-1), I 0], h381⟩
theorem m194_run : ranTo (evCall (cxX Tryz.prog bad [] [] [(172, isFn 325)]) 1000 60 10 m194.args m194.h) m194.v m194.h' = true := by kernel_rfl
theorem m194_ok {σ : Nat → Int} {W0 : World} (hL : L0 W0) : MemoOk Tryz.prog 1023 σ W0 10 m194 := memo_ok fit (Known2.nil σ) (FnsOk.cons (ext_is hL) (FnsOk.nil)) m194_run
theorem run4 : lawF Tryz.prog bad [] ((6, numExtE [(0, 30, .var 2), (1, 40, .var 3)]) :: (9, frameFn [m5]) :: (10, frameFn [m45, m84, m122, m159, m160, m161, m162, m163, m164, m165, m166, m167, m168, m169, m170, m171, m172, m173, m174, m175, m176, m177, m178, m179, m180, m181, m182, m183, m184, m185, m186, m187, m188, m189, m190, m191, m192, m193, m194]) :: q0) 1000 60 4 [.int .i64 (.var 0), .int .i64 (.var 1)] [((-9223372036854775808), 9223372036854775807), ((-9223372036854775808), 9223372036854775807), (4, 4), (0, 39)] (peels 39 3) (sentH 325 10 errTab) = true := by kernel_rfl
theorem case4 {σ : Nat → Int} {W : World} (hL : L0 W) (hk : Known2 σ [((-9223372036854775808), 9223372036854775807), ((-9223372036854775808), 9223372036854775807), (4, 4), (0, 39)] []) (hT : TabOk Tryz.prog bad 6 σ [(0, 30, .var 2), (1, 40, .var 3)]) {xs : Array Value} (hv : ∀ ρ, VRs σ ρ [.int .i64 (.var 0), .int .i64 (.var 1)] xs.toList) : Calls Tryz.prog 4 xs W fun e w' => e = .returned (.bool true) ∧ Below W.heap.size W w' := by
  obtain ⟨ads, h1, h2, h3⟩ := errs_sents hL
  exact law_case_f fit h1 h2 h3 errs_all errs_lt (by kernel_rfl) hk (FnsOk.cons (hT.ok fit) (FnsOk.cons (frame_fn_ok (all_cons (m5_ok hL (hk.relax (r' := [((-9223372036854775808), 9223372036854775807), ((-9223372036854775808), 9223372036854775807), (0, 29), (0, 39)]) (by kernel_rfl))) (all_nil))) (FnsOk.cons (frame_fn_ok (all_cons (m45_ok hL (hk.relax (r' := [((-9223372036854775808), 9223372036854775807), ((-9223372036854775808), 9223372036854775807), (1, 29), (0, 39)]) (by kernel_rfl))) (all_cons (m84_ok hL (hk.relax (r' := [((-9223372036854775808), 9223372036854775807), ((-9223372036854775808), 9223372036854775807), (2, 29), (0, 39)]) (by kernel_rfl))) (all_cons (m122_ok hL (hk.relax (r' := [((-9223372036854775808), 9223372036854775807), ((-9223372036854775808), 9223372036854775807), (3, 29), (0, 39)]) (by kernel_rfl))) (all_cons (m159_ok hL (hk.relax (r' := [((-9223372036854775808), 9223372036854775807), ((-9223372036854775808), 9223372036854775807), (4, 29), (0, 39)]) (by kernel_rfl))) (all_cons (m160_ok hL hk) (all_cons (m161_ok hL) (all_cons (m162_ok hL) (all_cons (m163_ok hL) (all_cons (m164_ok hL) (all_cons (m165_ok hL) (all_cons (m166_ok hL) (all_cons (m167_ok hL) (all_cons (m168_ok hL) (all_cons (m169_ok hL) (all_cons (m170_ok hL) (all_cons (m171_ok hL) (all_cons (m172_ok hL) (all_cons (m173_ok hL) (all_cons (m174_ok hL) (all_cons (m175_ok hL) (all_cons (m176_ok hL) (all_cons (m177_ok hL) (all_cons (m178_ok hL) (all_cons (m179_ok hL) (all_cons (m180_ok hL) (all_cons (m181_ok hL) (all_cons (m182_ok hL) (all_cons (m183_ok hL) (all_cons (m184_ok hL) (all_cons (m185_ok hL) (all_cons (m186_ok hL) (all_cons (m187_ok hL) (all_cons (m188_ok hL) (all_cons (m189_ok hL) (all_cons (m190_ok hL) (all_cons (m191_ok hL) (all_cons (m192_ok hL) (all_cons (m193_ok hL) (all_cons (m194_ok hL) (all_nil))))))))))))))))))))))))))))))))))))))))) ((q0_ok hL))))) hv run4
noncomputable def h382 : H := hUpc h342 1260 [] [(34, .cells 107 ((rp 9 (U 0) ((I 3) :: rp 5 (I 0) ((U 0) :: rp 4 (I 0) ((U 0) :: rp 4 (I 0) ((U 0) :: rp 4 (I 0) ((U 0) :: rp 4 (I 0) ((U 0) :: rp 4 (I 0) ((U 0) :: rp 4 (I 0) ((U 0) :: rp 4 (I 0) ((U 0) :: rp 4 (I 0) ((U 0) :: rp 4 (I 0) ((U 0) :: rp 4 (I 0) ((U 0) :: rp 4 (I 0) ((U 0) :: rp 4 (I 0) ((U 0) :: rp 4 (I 0) ((U 0) :: rp 4 (I 0) ((U 0) :: rp 4 (I 0) ((U 0) :: (I 3) :: (I 0) :: (I 0) :: (I 0) :: (U 0) :: (I 7) :: (I 0) :: (I 0) :: (I 0) :: (U 0) :: rp 4 (I 0) ([U 0, I 0]))))))))))))))))))) :: rp 5 (rp 9 (U 0) (rp 6 (I 0) ((U 0) :: rp 4 (I 0) ((U 0) :: rp 4 (I 0) ((U 0) :: rp 4 (I 0) ((U 0) :: rp 4 (I 0) ((U 0) :: rp 4 (I 0) ((U 0) :: rp 4 (I 0) ((U 0) :: rp 4 (I 0) ((U 0) :: rp 4 (I 0) ((U 0) :: rp 4 (I 0) ((U 0) :: rp 4 (I 0) ((U 0) :: rp 4 (I 0) ((U 0) :: rp 4 (I 0) ((U 0) :: rp 4 (I 0) ((U 0) :: rp 4 (I 0) ((U 0) :: rp 4 (I 0) ((U 0) :: rp 4 (I 0) ((U 0) :: rp 4 (I 0) ((U 0) :: rp 4 (I 0) ([U 0, I 0]))))))))))))))))))))) ([])) false),
  (56, .cells 2 ([IZ (-1), .int .i64 (.sub (.var 2) (.lit 4))] :: rp 7 ([I 0, I 0]) ([])) false),
  (27, .cells 32 (((U 201326592) :: (U 67108864) :: rp 30 (U 0) ([])) :: rp 11 (rp 32 (U 0) ([])) ([])) false)] [(67, 0, [.slice 365 0 1 1 1 false])] [(68, 0, 8, I 4)]
noncomputable def h383 : H := hUpc h382 1429 [] [] [(30, 0, [I 16, .slice 663 0 1 1 10 false, I 4]),
  (56, 0, [IZ (-1), .int .i64 (.sub (.var 2) (.lit 5))])] [(34, 0, 8, U 1), (68, 0, 8, I 5)]
noncomputable def m195 : Memo := ⟨[.ptr 68 0, I 4], h382, .agg [I 0, I 3, I 0, U 0, I 0, U 0, IZ (-1), I 0], h383⟩
theorem m195_run : ranTo (evCall (cxX Tryz.prog bad [((-9223372036854775808), 9223372036854775807), ((-9223372036854775808), 9223372036854775807), (5, 29), (0, 39)] [] [(51, pureFn [p4, p2, p3]), (172, isFn 325)]) 1000 60 10 m195.args m195.h) m195.v m195.h' = true := by kernel_rfl
theorem m195_ok {σ : Nat → Int} {W0 : World} (hL : L0 W0) (hk : Known2 σ [((-9223372036854775808), 9223372036854775807), ((-9223372036854775808), 9223372036854775807), (5, 29), (0, 39)] []) : MemoOk Tryz.prog 1023 σ W0 10 m195 := memo_ok fit hk (FnsOk.cons (pure_fn_ok (all_cons (p4_ok hL) (all_cons (p2_ok hL) (all_cons (p3_ok hL) (all_nil))))) (FnsOk.cons (ext_is hL) (FnsOk.nil))) m195_run
noncomputable def h384 : H := hUpd h383 1430 [27] [] []
noncomputable def h385 : H := hUpc h384 1548 [] [] [(67, 0, [.slice 365 0 0 1 1 false])] [(34, 0, 9, I 4), (34, 0, 10, I 6), (68, 0, 8, I 6)]
noncomputable def m196 : Memo := ⟨[.ptr 68 0, I 5], h384, .agg [I 0, I 5, I 0, U 0, I 0, U 0, IZ (-1), I 6], h385⟩
theorem m196_run : ranTo (evCall (cxX Tryz.prog bad [((-9223372036854775808), 9223372036854775807), ((-9223372036854775808), 9223372036854775807), (5, 5), (0, 39)] [] [(51, pureFn [p4, p2, p3]), (172, isFn 325)]) 1000 60 10 m196.args m196.h) m196.v m196.h' = true := by kernel_rfl
theorem m196_ok {σ : Nat → Int} {W0 : World} (hL : L0 W0) (hk : Known2 σ [((-9223372036854775808), 9223372036854775807), ((-9223372036854775808), 9223372036854775807), (5, 5), (0, 39)] []) : MemoOk Tryz.prog 1023 σ W0 10 m196 := memo_ok fit hk (FnsOk.cons (pure_fn_ok (all_cons (p4_ok hL) (all_cons (p2_ok hL) (all_cons (p3_ok hL) (all_nil))))) (FnsOk.cons (ext_is hL) (FnsOk.nil))) m196_run
noncomputable def h386 : H := hUpd h385 1549 [34, 56] [] []
noncomputable def h387 : H := hUpc h386 1550 [] [] [] [(68, 0, 8, I 7)]
noncomputable def m197 : Memo := ⟨[.ptr 68 0, I 6], h386, .agg [IZ (-1), I 0, I 0, U 0, I 0, U 0, IZ (-1), I 0], h387⟩
theorem m197_run : ranTo (evCall (cxX Tryz.prog bad [] [] [(172, isFn 325)]) 1000 60 10 m197.args m197.h) m197.v m197.h' = true := by kernel_rfl
theorem m197_ok {σ : Nat → Int} {W0 : World} (hL : L0 W0) : MemoOk Tryz.prog 1023 σ W0 10 m197 := memo_ok fit (Known2.nil σ) (FnsOk.cons (ext_is hL) (FnsOk.nil)) m197_run
noncomputable def h388 : H := hUpd h387 1551 [] [] []
noncomputable def h389 : H := hUpc h386 1552 [] [] [] [(68, 0, 8, I 8)]
noncomputable def m198 : Memo := ⟨[.ptr 68 0, I 7], h388, .agg [IZ (-1), I 0, I 0, U 0, I 0, U 0, IZ (-1), I 0], h389⟩
theorem m198_run : ranTo (evCall (cxX Tryz.prog bad [] [] [(172, isFn 325)]) 1000 60 10 m198.args m198.h) m198.v m198.h' = true := by kernel_rfl
theorem m198_ok {σ : Nat → Int} {W0 : World} (hL : L0 W0) : MemoOk Tryz.prog 1023 σ W0 10 m198 := memo_ok fit (Known2.nil σ) (FnsOk.cons (ext_is hL) (FnsOk.nil)) m198_run
noncomputable def h390 : H := hUpd h389 1553 [] [] []
noncomputable def h391 : H := hUpc h386 1554 [] [] [] [(68, 0, 8, I 9)]
noncomputable def m199 : Memo := ⟨[.ptr 68 0, I 8], h390, .agg [IZ (-1), I 0, I 0, U 0, I 0, U 0, IZ (-1), I 0], h391⟩
theorem m199_run : ranTo (evCall (cxX Tryz.prog bad [] [] [(172, isFn 325)]) 1000 60 10 m199.args m199.h) m199.v m199.h' = true := by kernel_rfl
theorem m199_ok {σ : Nat → Int} {W0 : World} (hL : L0 W0) : MemoOk Tryz.prog 1023 σ W0 10 m199 := memo_ok fit (Known2.nil σ) (FnsOk.cons (ext_is hL) (FnsOk.nil)) m199_run
noncomputable def h392 : H := hUpd h391 1555 [] [] []
noncomputable def h393 : H := hUpc h386 1556 [] [] [] [(68, 0, 8, I 10)]
noncomputable def m200 : Memo := ⟨[.ptr 68 0, I 9], h392, .agg [IZ (-1), I 0, I 0, U 0, I 0, U 0, IZ (-1), I 0], h393⟩
theorem m200_run : ranTo (evCall (cxX Tryz.prog bad [] [] [(172, isFn 325)]) 1000 60 10 m200.args m200.h) m200.v m200.h' = true := by kernel_rfl
theorem m200_ok {σ : Nat → Int} {W0 : World} (hL : L0 W0) : MemoOk Tryz.prog 1023 σ W0 10 m200 := memo_ok fit (Known2.nil σ) (FnsOk.cons (ext_is hL) (FnsOk.nil)) m200_run
noncomputable def h394 : H := hUpd h393 1557 [] [] []
noncomputable def h395 : H := hUpc h386 1558 [] [] [] [(68, 0, 8, I 11)]
noncomputable def m201 : Memo := ⟨[.ptr 68 0, I 10], h394, .agg [IZ (-1), I 0, I 0, U 0, I 0, U 0, IZ (-1), I 0], h395⟩
theorem m201_run : ranTo (evCall (cxX Tryz.prog bad [] [] [(172, isFn 325)]) 1000 60 10 m201.args m201.h) m201.v m201.h' = true := by kernel_rfl
theorem m201_ok {σ : Nat → Int} {W0 : World} (hL : L0 W0) : MemoOk Tryz.prog 1023 σ W0 10 m201 := memo_ok fit (Known2.nil σ) (FnsOk.cons (ext_is hL) (FnsOk.nil)) m201_run
noncomputable def h396 : H := hUpd h395 1559 [] [] []
noncomputable def h397 : H := hUpc h386 1560 [] [] [] [(68, 0, 8, I 12)]
noncomputable def m202 : Memo := ⟨[.ptr 68 0, I 11], h396, .agg [IZ (-1), I 0, I 0, U 0, I 0, U 0, IZ (-1), I 0], h397⟩
theorem m202_run : ranTo (evCall (cxX Tryz.prog bad [] [] [(172, isFn 325)]) 1000 60 10 m202.args m202.h) m202.v m202.h' = true := by kernel_rfl
theorem m202_ok {σ : Nat → Int} {W0 : World} (hL : L0 W0) : MemoOk Tryz.prog 1023 σ W0 10 m202 := memo_ok fit (Known2.nil σ) (FnsOk.cons (ext_is hL) (FnsOk.nil)) m202_run
noncomputable def h398 : H := hUpd h397 1561 [] [] []
noncomputable def h399 : H := hUpc h386 1562 [] [] [] [(68, 0, 8, I 13)]
noncomputable def m203 : Memo := ⟨[.ptr 68 0, I 12], h398, .agg [IZ (-1), I 0, I 0, U 0, I 0, U 0, IZ (-1), I 0], h399⟩
theorem m203_run : ranTo (evCall (cxX Tryz.prog bad [] [] [(172, isFn 325)]) 1000 60 10 m203.args m203.h) m203.v m203.h' = true := by kernel_rfl
theorem m203_ok {σ : Nat → Int} {W0 : World} (hL : L0 W0) : MemoOk Tryz.prog 1023 σ W0 10 m203 := memo_ok fit (Known2.nil σ) (FnsOk.cons (ext_is hL) (FnsOk.nil)) m203_run
noncomputable def h400 : H := hUpd h399 1563 [] [] []
noncomputable def h401 : H := hUpc h386 1564 [] [] [] [(68, 0, 8, I 14)]
noncomputable def m204 : Memo := ⟨[.ptr 68 0, I 13], h400, .agg [IZ (-1), I 0, I 0, U 0, I 0, U 0, IZ (-1), I 0], h401⟩
theorem m204_run : ranTo (evCall (cxX Tryz.prog bad [] [] [(172, isFn 325)]) 1000 60 10 m204.args m204.h) m204.v m204.h' = true := by kernel_rfl
theorem m204_ok {σ : Nat → Int} {W0 : World} (hL : L0 W0) : MemoOk Tryz.prog 1023 σ W0 10 m204 := memo_ok fit (Known2.nil σ) (FnsOk.cons (ext_is hL) (FnsOk.nil)) m204_run
noncomputable def h402 : H := hUpd h401 1565 [] [] []
noncomputable def h403 : H := hUpc h386 1566 [] [] [] [(68, 0, 8, I 15)]
noncomputable def m205 : Memo := ⟨[.ptr 68 0, I 14], h402, .agg [IZ (-1), I 0, I 0, U 0, I 0, U 0, IZ (-1), I 0], h403⟩
theorem m205_run : ranTo (evCall (cxX Tryz.prog bad [] [] [(172, isFn 325)]) 1000 60 10 m205.args m205.h) m205.v m205.h' = true := by kernel_rfl
theorem m205_ok {σ : Nat → Int} {W0 : World} (hL : L0 W0) : MemoOk Tryz.prog 1023 σ W0 10 m205 := memo_ok fit (Known2.nil σ) (FnsOk.cons (ext_is hL) (FnsOk.nil)) m205_run
noncomputable def h404 : H := hUpd h403 1567 [] [] []
noncomputable def h405 : H := hUpc h386 1568 [] [] [] [(68, 0, 8, I 16)]
noncomputable def m206 : Memo := ⟨[.ptr 68 0, I 15], h404, .agg [IZ (-1), I 0, I 0, U 0, I 0, U 0, IZ (-1), I 0], h405⟩
theorem m206_run : ranTo (evCall (cxX Tryz.prog bad [] [] [(172, isFn 325)]) 1000 60 10 m206.args m206.h) m206.v m206.h' = true := by kernel_rfl
theorem m206_ok {σ : Nat → Int} {W0 : World} (hL : L0 W0) : MemoOk Tryz.prog 1023 σ W0 10 m206 := memo_ok fit (Known2.nil σ) (FnsOk.cons (ext_is hL) (FnsOk.nil)) m206_run
noncomputable def h406 : H := hUpd h405 1569 [] [] []
noncomputable def h407 : H := hUpc h386 1570 [] [] [] [(68, 0, 8, I 17)]
noncomputable def m207 : Memo := ⟨[.ptr 68 0, I 16], h406, .agg [IZ (-1), I 0, I 0, U 0, I 0, U 0, IZ (-1), I 0], h407⟩
theorem m207_run : ranTo (evCall (cxX Tryz.prog bad [] [] [(172, isFn 325)]) 1000 60 10 m207.args m207.h) m207.v m207.h' = true := by kernel_rfl
theorem m207_ok {σ : Nat → Int} {W0 : World} (hL : L0 W0) : MemoOk Tryz.prog 1023 σ W0 10 m207 := memo_ok fit (Known2.nil σ) (FnsOk.cons (ext_is hL) (FnsOk.nil)) m207_run
noncomputable def h408 : H := hUpd h407 1571 [] [] []
noncomputable def h409 : H := hUpc h386 1572 [] [] [] [(68, 0, 8, I 18)]
noncomputable def m208 : Memo := ⟨[.ptr 68 0, I 17], h408, .agg [IZ (-1), I 0, I 0, U 0, I 0, U 0, IZ (-1), I 0], h409⟩
theorem m208_run : ranTo (evCall (cxX Tryz.prog bad [] [] [(172, isFn 325)]) 1000 60 10 m208.args m208.h) m208.v m208.h' = true := by kernel_rfl
theorem m208_ok {σ : Nat → Int} {W0 : World} (hL : L0 W0) : MemoOk Tryz.prog 1023 σ W0 10 m208 := memo_ok fit (Known2.nil σ) (FnsOk.cons (ext_is hL) (FnsOk.nil)) m208_run
noncomputable def h410 : H := hUpd h409 1573 [] [] []
noncomputable def h411 : H := hUpc h386 1574 [] [] [] [(68, 0, 8, I 19)]
noncomputable def m209 : Memo := ⟨[.ptr 68 0, I 18], h410, .agg [IZ (-1), I 0, I 0, U 0, I 0, U 0, IZ (-1), I 0], h411⟩
theorem m209_run : ranTo (evCall (cxX Tryz.prog bad [] [] [(172, isFn 325)]) 1000 60 10 m209.args m209.h) m209.v m209.h' = true := by kernel_rfl
theorem m209_ok {σ : Nat → Int} {W0 : World} (hL : L0 W0) : MemoOk Tryz.prog 1023 σ W0 10 m209 := memo_ok fit (Known2.nil σ) (FnsOk.cons (ext_is hL) (FnsOk.nil)) m209_run
noncomputable def h412 : H := hUpd h411 1575 [] [] []
noncomputable def h413 : H := hUpc h386 1576 [] [] [] [(68, 0, 8, I 20)]
noncomputable def m210 : Memo := ⟨[.ptr 68 0, I 19], h412, .agg [IZ (-1), I 0, I 0, U 0, I 0, U 0, IZ (-1), I 0], h413⟩
theorem m210_run : ranTo (evCall (cxX Tryz.prog bad [] [] [(172, isFn 325)]) 1000 60 10 m210.args m210.h) m210.v m210.h' = true := by kernel_rfl
theorem m210_ok {σ : Nat → Int} {W0 : World} (hL : L0 W0) : MemoOk Tryz.prog 1023 σ W0 10 m210 := memo_ok fit (Known2.nil σ) (FnsOk.cons (ext_is hL) (FnsOk.nil)) m210_run
noncomputable def h414 : H := hUpd h413 1577 [] [] []
noncomputable def h415 : H := hUpc h386 1578 [] [] [] [(68, 0, 8, I 21)]
noncomputable def m211 : Memo := ⟨[.ptr 68 0, I 20], h414, .agg [IZ (-1), I 0, I 0, U 0, I 0, U 0, IZ (-1), I 0], h415⟩
theorem m211_run : ranTo (evCall (cxX Tryz.prog bad [] [] [(172, isFn 325)]) 1000 60 10 m211.args m211.h) m211.v m211.h' = true := by kernel_rfl
theorem m211_ok {σ : Nat → Int} {W0 : World} (hL : L0 W0) : MemoOk Tryz.prog 1023 σ W0 10 m211 := memo_ok fit (Known2.nil σ) (FnsOk.cons (ext_is hL) (FnsOk.nil)) m211_run
noncomputable def h416 : H := hUpd h415 1579 [] [] []
noncomputable def h417 : H := hUpc h386 1580 [] [] [] [(68, 0, 8, I 22)]
noncomputable def m212 : Memo := ⟨[.ptr 68 0, I 21], h416, .agg [IZ (-1), I 0, I 0, U 0, I 0, U 0, IZ (-1), I 0], h417⟩
theorem m212_run : ranTo (evCall (cxX Tryz.prog bad [] [] [(172, isFn 325)]) 1000 60 10 m212.args m212.h) m212.v m212.h' = true := by kernel_rfl
theorem m212_ok {σ : Nat → Int} {W0 : World} (hL : L0 W0) : MemoOk Tryz.prog 1023 σ W0 10 m212 := memo_ok fit (Known2.nil σ) (FnsOk.cons (ext_is hL) (FnsOk.nil)) m212_run
noncomputable def h418 : H := hUpd h417 1581 [] [] []
noncomputable def h419 : H := hUpc h386 1582 [] [] [] [(68, 0, 8, I 23)]
noncomputable def m213 : Memo := ⟨[.ptr 68 0, I 22], h418, .agg [IZ (-1), I 0, I 0, U 0, I 0, U 0, IZ (-1), I 0], h419⟩
theorem m213_run : ranTo (evCall (cxX Tryz.prog bad [] [] [(172, isFn 325)]) 1000 60 10 m213.args m213.h) m213.v m213.h' = true := by kernel_rfl
theorem m213_ok {σ : Nat → Int} {W0 : World} (hL : L0 W0) : MemoOk Tryz.prog 1023 σ W0 10 m213 := memo_ok fit (Known2.nil σ) (FnsOk.cons (ext_is hL) (FnsOk.nil)) m213_run
noncomputable def h420 : H := hUpd h419 1583 [] [] []
noncomputable def h421 : H := hUpc h386 1584 [] [] [] [(68, 0, 8, I 24)]
noncomputable def m214 : Memo := ⟨[.ptr 68 0, I 23], h420, .agg [IZ (-1), I 0, I 0, U 0, I 0, U 0, IZ (-1), I 0], h421⟩
theorem m214_run : ranTo (evCall (cxX Tryz.prog bad [] [] [(172, isFn 325)]) 1000 60 10 m214.args m214.h) m214.v m214.h' = true := by kernel_rfl
theorem m214_ok {σ : Nat → Int} {W0 : World} (hL : L0 W0) : MemoOk Tryz.prog 1023 σ W0 10 m214 := memo_ok fit (Known2.nil σ) (FnsOk.cons (ext_is hL) (FnsOk.nil)) m214_run
noncomputable def h422 : H := hUpd h421 1585 [] [] []
noncomputable def h423 : H := hUpc h386 1586 [] [] [] [(68, 0, 8, I 25)]
noncomputable def m215 : Memo := ⟨[.ptr 68 0, I 24], h422, .agg [IZ (-1), I 0, I 0, U 0, I 0, U 0, IZ (-1), I 0], h423⟩
theorem m215_run : ranTo (evCall (cxX Tryz.prog bad [] [] [(172, isFn 325)]) 1000 60 10 m215.args m215.h) m215.v m215.h' = true := by kernel_rfl
theorem m215_ok {σ : Nat → Int} {W0 : World} (hL : L0 W0) : MemoOk Tryz.prog 1023 σ W0 10 m215 := memo_ok fit (Known2.nil σ) (FnsOk.cons (ext_is hL) (FnsOk.nil)) m215_run
noncomputable def h424 : H := hUpd h423 1587 [] [] []
noncomputable def h425 : H := hUpc h386 1588 [] [] [] [(68, 0, 8, I 26)]
noncomputable def m216 : Memo := ⟨[.ptr 68 0, I 25], h424, .agg [IZ (-1), I 0, I 0, U 0, I 0, U 0, IZ (-1), I 0], h425⟩
theorem m216_run : ranTo (evCall (cxX Tryz.prog bad [] [] [(172, isFn 325)]) 1000 60 10 m216.args m216.h) m216.v m216.h' = true := by kernel_rfl
theorem m216_ok {σ : Nat → Int} {W0 : World} (hL : L0 W0) : MemoOk Tryz.prog 1023 σ W0 10 m216 := memo_ok fit (Known2.nil σ) (FnsOk.cons (ext_is hL) (FnsOk.nil)) m216_run
noncomputable def h426 : H := hUpd h425 1589 [] [] []
noncomputable def h427 : H := hUpc h387 1590 [] [] [] [(68, 0, 8, I 27)]
noncomputable def m217 : Memo := ⟨[.ptr 68 0, I 26], h426, .agg [IZ (-1), I 0, I 0, U 0, I 0, U 0, IZ (-1), I 0], h427⟩
theorem m217_run : ranTo (evCall (cxX Tryz.prog bad [] [] [(172, isFn 325)]) 1000 60 10 m217.args m217.h) m217.v m217.h' = true := by kernel_rfl
theorem m217_ok {σ : Nat → Int} {W0 : World} (hL : L0 W0) : MemoOk Tryz.prog 1023 σ W0 10 m217 := memo_ok fit (Known2.nil σ) (FnsOk.cons (ext_is hL) (FnsOk.nil)) m217_run
noncomputable def h428 : H := hUpd h427 1591 [] [] []
noncomputable def h429 : H := hUpc h389 1592 [] [] [] [(68, 0, 8, I 28)]
noncomputable def m218 : Memo := ⟨[.ptr 68 0, I 27], h428, .agg [IZ (-1), I 0, I 0, U 0, I 0, U 0, IZ (-1), I 0], h429⟩
theorem m218_run : ranTo (evCall (cxX Tryz.prog bad [] [] [(172, isFn 325)]) 1000 60 10 m218.args m218.h) m218.v m218.h' = true := by kernel_rfl
theorem m218_ok {σ : Nat → Int} {W0 : World} (hL : L0 W0) : MemoOk Tryz.prog 1023 σ W0 10 m218 := memo_ok fit (Known2.nil σ) (FnsOk.cons (ext_is hL) (FnsOk.nil)) m218_run
noncomputable def h430 : H := hUpd h429 1593 [] [] []
noncomputable def h431 : H := hUpc h391 1594 [] [] [] [(68, 0, 8, I 29)]
noncomputable def m219 : Memo := ⟨[.ptr 68 0, I 28], h430, .agg [IZ (-1), I 0, I 0, U 0, I 0, U 0, IZ (-1), I 0], h431⟩
theorem m219_run : ranTo (evCall (cxX Tryz.prog bad [] [] [(172, isFn 325)]) 1000 60 10 m219.args m219.h) m219.v m219.h' = true := by kernel_rfl
theorem m219_ok {σ : Nat → Int} {W0 : World} (hL : L0 W0) : MemoOk Tryz.prog 1023 σ W0 10 m219 := memo_ok fit (Known2.nil σ) (FnsOk.cons (ext_is hL) (FnsOk.nil)) m219_run
noncomputable def h432 : H := hUpd h431 1595 [] [] []
noncomputable def h433 : H := hUpc h393 1596 [] [] [] [(68, 0, 8, I 30)]
noncomputable def m220 : Memo := ⟨[.ptr 68 0, I 29], h432, .agg [IZ (-1), I 0, I 0, U 0, I 0, U 0, IZ (-1), I 0], h433⟩
theorem m220_run : ranTo (evCall (cxX Tryz.prog bad [] [] [(172, isFn 325)]) 1000 60 10 m220.args m220.h) m220.v m220.h' = true := by kernel_rfl
theorem m220_ok {σ : Nat → Int} {W0 : World} (hL : L0 W0) : MemoOk Tryz.prog 1023 σ W0 10 m220 := memo_ok fit (Known2.nil σ) (FnsOk.cons (ext_is hL) (FnsOk.nil)) m220_run
noncomputable def h434 : H := hUpd h433 1597 [] [] []
noncomputable def h435 : H := hUpc h395 1598 [] [] [] [(68, 0, 8, I 31)]
noncomputable def m221 : Memo := ⟨[.ptr 68 0, I 30], h434, .agg [IZ (-1), I 0, I 0, U 0, I 0, U 0, IZ (-1), I 0], h435⟩
theorem m221_run : ranTo (evCall (cxX Tryz.prog bad [] [] [(172, isFn 325)]) 1000 60 10 m221.args m221.h) m221.v m221.h' = true := by kernel_rfl
theorem m221_ok {σ : Nat → Int} {W0 : World} (hL : L0 W0) : MemoOk Tryz.prog 1023 σ W0 10 m221 := memo_ok fit (Known2.nil σ) (FnsOk.cons (ext_is hL) (FnsOk.nil)) m221_run
noncomputable def h436 : H := hUpd h435 1599 [] [] []
noncomputable def h437 : H := hUpc h397 1600 [] [] [] [(68, 0, 8, I 32)]
noncomputable def m222 : Memo := ⟨[.ptr 68 0, I 31], h436, .agg [IZ (-1), I 0, I 0, U 0, I 0, U 0, IZ (-1), I 0], h437⟩
theorem m222_run : ranTo (evCall (cxX Tryz.prog bad [] [] [(172, isFn 325)]) 1000 60 10 m222.args m222.h) m222.v m222.h' = true := by kernel_rfl
theorem m222_ok {σ : Nat → Int} {W0 : World} (hL : L0 W0) : MemoOk Tryz.prog 1023 σ W0 10 m222 := memo_ok fit (Known2.nil σ) (FnsOk.cons (ext_is hL) (FnsOk.nil)) m222_run
noncomputable def h438 : H := hUpd h437 1601 [] [] []
noncomputable def h439 : H := hUpc h399 1602 [] [] [] [(68, 0, 8, I 33)]
noncomputable def m223 : Memo := ⟨[.ptr 68 0, I 32], h438, .agg [IZ (-1), I 0, I 0, U 0, I 0, U 0, IZ (-1), I 0], h439⟩
theorem m223_run : ranTo (evCall (cxX Tryz.prog bad [] [] [(172, isFn 325)]) 1000 60 10 m223.args m223.h) m223.v m223.h' = true := by kernel_rfl
theorem m223_ok {σ : Nat → Int} {W0 : World} (hL : L0 W0) : MemoOk Tryz.prog 1023 σ W0 10 m223 := memo_ok fit (Known2.nil σ) (FnsOk.cons (ext_is hL) (FnsOk.nil)) m223_run
noncomputable def h440 : H := hUpd h439 1603 [] [] []
noncomputable def h441 : H := hUpc h401 1604 [] [] [] [(68, 0, 8, I 34)]
noncomputable def m224 : Memo := ⟨[.ptr 68 0, I 33], h440, .agg [IZ (-1), I 0, I 0, U 0, I 0, U 0, IZ (-1), I 0], h441⟩
theorem m224_run : ranTo (evCall (cxX Tryz.prog bad [] [] [(172, isFn 325)]) 1000 60 10 m224.args m224.h) m224.v m224.h' = true := by kernel_rfl
theorem m224_ok {σ : Nat → Int} {W0 : World} (hL : L0 W0) : MemoOk Tryz.prog 1023 σ W0 10 m224 := memo_ok fit (Known2.nil σ) (FnsOk.cons (ext_is hL) (FnsOk.nil)) m224_run
noncomputable def h442 : H := hUpd h441 1605 [] [] []
noncomputable def h443 : H := hUpc h403 1606 [] [] [] [(68, 0, 8, I 35)]
noncomputable def m225 : Memo := ⟨[.ptr 68 0, I 34], h442, .agg [IZ (-1), I 0, I 0, U 0, I 0, U 0, IZ (-1), I 0], h443⟩
theorem m225_run : ranTo (evCall (cxX Tryz.prog bad [] [] [(172, isFn 325)]) 1000 60 10 m225.args m225.h) m225.v m225.h' = true := by kernel_rfl
theorem m225_ok {σ : Nat → Int} {W0 : World} (hL : L0 W0) : MemoOk Tryz.prog 1023 σ W0 10 m225 := memo_ok fit (Known2.nil σ) (FnsOk.cons (ext_is hL) (FnsOk.nil)) m225_run
noncomputable def h444 : H := hUpd h443 1607 [] [] []
noncomputable def h445 : H := hUpc h405 1608 [] [] [] [(68, 0, 8, I 36)]
noncomputable def m226 : Memo := ⟨[.ptr 68 0, I 35], h444, .agg [IZ (-1), I 0, I 0, U 0, I 0, U 0, IZ (-1), I 0], h445⟩
theorem m226_run : ranTo (evCall (cxX Tryz.prog bad [] [] [(172, isFn 325)]) 1000 60 10 m226.args m226.h) m226.v m226.h' = true := by kernel_rfl
theorem m226_ok {σ : Nat → Int} {W0 : World} (hL : L0 W0) : MemoOk Tryz.prog 1023 σ W0 10 m226 := memo_ok fit (Known2.nil σ) (FnsOk.cons (ext_is hL) (FnsOk.nil)) m226_run
noncomputable def h446 : H := hUpd h445 1609 [] [] []
noncomputable def h447 : H := hUpc h407 1610 [] [] [] [(68, 0, 8, I 37)]
noncomputable def m227 : Memo := ⟨[.ptr 68 0, I 36], h446, .agg [IZ (-1), I 0, I 0, U 0, I 0, U 0, IZ (-1), I 0], h447⟩
theorem m227_run : ranTo (evCall (cxX Tryz.prog bad [] [] [(172, isFn 325)]) 1000 60 10 m227.args m227.h) m227.v m227.h' = true := by kernel_rfl
theorem m227_ok {σ : Nat → Int} {W0 : World} (hL : L0 W0) : MemoOk Tryz.prog 1023 σ W0 10 m227 := memo_ok fit (Known2.nil σ) (FnsOk.cons (ext_is hL) (FnsOk.nil)) m227_run
noncomputable def h448 : H := hUpd h447 1611 [] [] []
noncomputable def h449 : H := hUpc h409 1612 [] [] [] [(68, 0, 8, I 38)]
noncomputable def m228 : Memo := ⟨[.ptr 68 0, I 37], h448, .agg [IZ (-1), I 0, I 0, U 0, I 0, U 0, IZ (-1), I 0], h449⟩
theorem m228_run : ranTo (evCall (cxX Tryz.prog bad [] [] [(172, isFn 325)]) 1000 60 10 m228.args m228.h) m228.v m228.h' = true := by kernel_rfl
theorem m228_ok {σ : Nat → Int} {W0 : World} (hL : L0 W0) : MemoOk Tryz.prog 1023 σ W0 10 m228 := memo_ok fit (Known2.nil σ) (FnsOk.cons (ext_is hL) (FnsOk.nil)) m228_run
noncomputable def h450 : H := hUpd h449 1613 [] [] []
noncomputable def h451 : H := hUpc h411 1614 [] [] [] [(68, 0, 8, I 39)]
noncomputable def m229 : Memo := ⟨[.ptr 68 0, I 38], h450, .agg [IZ (-1), I 0, I 0, U 0, I 0, U 0, IZ (-1), I 0], h451⟩
theorem m229_run : ranTo (evCall (cxX Tryz.prog bad [] [] [(172, isFn 325)]) 1000 60 10 m229.args m229.h) m229.v m229.h' = true := by kernel_rfl
theorem m229_ok {σ : Nat → Int} {W0 : World} (hL : L0 W0) : MemoOk Tryz.prog 1023 σ W0 10 m229 := memo_ok fit (Known2.nil σ) (FnsOk.cons (ext_is hL) (FnsOk.nil)) m229_run
theorem run5 : lawF Tryz.prog bad [] ((6, numExtE [(0, 30, .var 2), (1, 40, .var 3)]) :: (9, frameFn [m5]) :: (10, frameFn [m45, m84, m122, m159, m195, m196, m197, m198, m199, m200, m201, m202, m203, m204, m205, m206, m207, m208, m209, m210, m211, m212, m213, m214, m215, m216, m217, m218, m219, m220, m221, m222, m223, m224, m225, m226, m227, m228, m229]) :: q0) 1000 60 4 [.int .i64 (.var 0), .int .i64 (.var 1)] [((-9223372036854775808), 9223372036854775807), ((-9223372036854775808), 9223372036854775807), (5, 5), (0, 39)] (peels 39 3) (sentH 325 10 errTab) = true := by kernel_rfl
theorem case5 {σ : Nat → Int} {W : World} (hL : L0 W) (hk : Known2 σ [((-9223372036854775808), 9223372036854775807), ((-9223372036854775808), 9223372036854775807), (5, 5), (0, 39)] []) (hT : TabOk Tryz.prog bad 6 σ [(0, 30, .var 2), (1, 40, .var 3)]) {xs : Array Value} (hv : ∀ ρ, VRs σ ρ [.int .i64 (.var 0), .int .i64 (.var 1)] xs.toList) : Calls Tryz.prog 4 xs W fun e w' => e = .returned (.bool true) ∧ Below W.heap.size W w' := by
  obtain ⟨ads, h1, h2, h3⟩ := errs_sents hL
  exact law_case_f fit h1 h2 h3 errs_all errs_lt (by kernel_rfl) hk (FnsOk.cons (hT.ok fit) (FnsOk.cons (frame_fn_ok (all_cons (m5_ok hL (hk.relax (r' := [((-9223372036854775808), 9223372036854775807), ((-9223372036854775808), 9223372036854775807), (0, 29), (0, 39)]) (by kernel_rfl))) (all_nil))) (FnsOk.cons (frame_fn_ok (all_cons (m45_ok hL (hk.relax (r' := [((-9223372036854775808), 9223372036854775807), ((-9223372036854775808), 9223372036854775807), (1, 29), (0, 39)]) (by kernel_rfl))) (all_cons (m84_ok hL (hk.relax (r' := [((-9223372036854775808), 9223372036854775807), ((-9223372036854775808), 9223372036854775807), (2, 29), (0, 39)]) (by kernel_rfl))) (all_cons (m122_ok hL (hk.relax (r' := [((-9223372036854775808), 9223372036854775807), ((-9223372036854775808), 9223372036854775807), (3, 29), (0, 39)]) (by kernel_rfl))) (all_cons (m159_ok hL (hk.relax (r' := [((-9223372036854775808), 9223372036854775807), ((-9223372036854775808), 9223372036854775807), (4, 29), (0, 39)]) (by kernel_rfl))) (all_cons (m195_ok hL (hk.relax (r' := [((-9223372036854775808), 9223372036854775807), ((-9223372036854775808), 9223372036854775807), (5, 29), (0, 39)]) (by kernel_rfl))) (all_cons (m196_ok hL hk) (all_cons (m197_ok hL) (all_cons (m198_ok hL) (all_cons (m199_ok hL) (all_cons (m200_ok hL) (all_cons (m201_ok hL) (all_cons (m202_ok hL) (all_cons (m203_ok hL) (all_cons (m204_ok hL) (all_cons (m205_ok hL) (all_cons (m206_ok hL) (all_cons (m207_ok hL) (all_cons (m208_ok hL) (all_cons (m209_ok hL) (all_cons (m210_ok hL) (all_cons (m211_ok hL) (all_cons (m212_ok hL) (all_cons (m213_ok hL) (all_cons (m214_ok hL) (all_cons (m215_ok hL) (all_cons (m216_ok hL) (all_cons (m217_ok hL) (all_cons (m218_ok hL) (all_cons (m219_ok hL) (all_cons (m220_ok hL) (all_cons (m221_ok hL) (all_cons (m222_ok hL) (all_cons (m223_ok hL) (all_cons (m224_ok hL) (all_cons (m225_ok hL) (all_cons (m226_ok hL) (all_cons (m227_ok hL) (all_cons (m228_ok hL) (all_cons (m229_ok hL) (all_nil))))))))))))))))))))))))))))))))))))))))) ((q0_ok hL))))) hv run5
noncomputable def h452 : H := hUpc h412 1430 [] [(34, .cells 107 ((rp 8 (U 0) ((U 1) :: (I 3) :: rp 5 (I 0) ((U 0) :: rp 4 (I 0) ((U 0) :: rp 4 (I 0) ((U 0) :: rp 4 (I 0) ((U 0) :: rp 4 (I 0) ((U 0) :: rp 4 (I 0) ((U 0) :: rp 4 (I 0) ((U 0) :: rp 4 (I 0) ((U 0) :: rp 4 (I 0) ((U 0) :: rp 4 (I 0) ((U 0) :: rp 4 (I 0) ((U 0) :: rp 4 (I 0) ((U 0) :: rp 4 (I 0) ((U 0) :: rp 4 (I 0) ((U 0) :: rp 4 (I 0) ((U 0) :: rp 4 (I 0) ((U 0) :: (I 3) :: (I 0) :: (I 0) :: (I 0) :: (U 0) :: (I 7) :: (I 0) :: (I 0) :: (I 0) :: (U 0) :: rp 4 (I 0) ([U 0, I 0]))))))))))))))))))) :: rp 5 (rp 9 (U 0) (rp 6 (I 0) ((U 0) :: rp 4 (I 0) ((U 0) :: rp 4 (I 0) ((U 0) :: rp 4 (I 0) ((U 0) :: rp 4 (I 0) ((U 0) :: rp 4 (I 0) ((U 0) :: rp 4 (I 0) ((U 0) :: rp 4 (I 0) ((U 0) :: rp 4 (I 0) ((U 0) :: rp 4 (I 0) ((U 0) :: rp 4 (I 0) ((U 0) :: rp 4 (I 0) ((U 0) :: rp 4 (I 0) ((U 0) :: rp 4 (I 0) ((U 0) :: rp 4 (I 0) ((U 0) :: rp 4 (I 0) ((U 0) :: rp 4 (I 0) ((U 0) :: rp 4 (I 0) ((U 0) :: rp 4 (I 0) ([U 0, I 0]))))))))))))))))))))) ([])) false),
  (56, .cells 2 ([IZ (-1), .int .i64 (.sub (.var 2) (.lit 5))] :: rp 7 ([I 0, I 0]) ([])) false),
  (27, .cells 32 (((U 201326592) :: (U 67108864) :: rp 30 (U 0) ([])) :: rp 11 (rp 32 (U 0) ([])) ([])) false)] [(67, 0, [.slice 365 0 1 1 1 false])] [(68, 0, 8, I 5)]
noncomputable def h453 : H := hUpc h452 1599 [] [] [(30, 0, [I 16, .slice 663 0 1 1 10 false, I 5]),
  (56, 0, [IZ (-1), .int .i64 (.sub (.var 2) (.lit 6))])] [(34, 0, 8, U 0), (68, 0, 8, I 6)]
noncomputable def m230 : Memo := ⟨[.ptr 68 0, I 5], h452, .agg [I 0, I 1, I 0, U 0, I 0, U 0, IZ (-1), I 0], h453⟩
theorem m230_run : ranTo (evCall (cxX Tryz.prog bad [((-9223372036854775808), 9223372036854775807), ((-9223372036854775808), 9223372036854775807), (6, 29), (0, 39)] [] [(51, pureFn [p4, p2, p3]), (172, isFn 325)]) 1000 60 10 m230.args m230.h) m230.v m230.h' = true := by kernel_rfl
theorem m230_ok {σ : Nat → Int} {W0 : World} (hL : L0 W0) (hk : Known2 σ [((-9223372036854775808), 9223372036854775807), ((-9223372036854775808), 9223372036854775807), (6, 29), (0, 39)] []) : MemoOk Tryz.prog 1023 σ W0 10 m230 := memo_ok fit hk (FnsOk.cons (pure_fn_ok (all_cons (p4_ok hL) (all_cons (p2_ok hL) (all_cons (p3_ok hL) (all_nil))))) (FnsOk.cons (ext_is hL) (FnsOk.nil))) m230_run
noncomputable def h454 : H := hUpd h453 1600 [27] [] []
noncomputable def h455 : H := hUpc h454 1718 [] [] [(67, 0, [.slice 365 0 0 1 1 false])] [(34, 0, 9, I 4), (34, 0, 10, I 6), (68, 0, 8, I 7)]
noncomputable def m231 : Memo := ⟨[.ptr 68 0, I 6], h454, .agg [I 0, I 5, I 0, U 0, I 0, U 0, IZ (-1), I 6], h455⟩
theorem m231_run : ranTo (evCall (cxX Tryz.prog bad [((-9223372036854775808), 9223372036854775807), ((-9223372036854775808), 9223372036854775807), (6, 6), (0, 39)] [] [(51, pureFn [p4, p2, p3]), (172, isFn 325)]) 1000 60 10 m231.args m231.h) m231.v m231.h' = true := by kernel_rfl
theorem m231_ok {σ : Nat → Int} {W0 : World} (hL : L0 W0) (hk : Known2 σ [((-9223372036854775808), 9223372036854775807), ((-9223372036854775808), 9223372036854775807), (6, 6), (0, 39)] []) : MemoOk Tryz.prog 1023 σ W0 10 m231 := memo_ok fit hk (FnsOk.cons (pure_fn_ok (all_cons (p4_ok hL) (all_cons (p2_ok hL) (all_cons (p3_ok hL) (all_nil))))) (FnsOk.cons (ext_is hL) (FnsOk.nil))) m231_run
noncomputable def h456 : H := hUpd h455 1719 [34, 56] [] []
noncomputable def h457 : H := hUpc h456 1720 [] [] [] [(68, 0, 8, I 8)]
noncomputable def m232 : Memo := ⟨[.ptr 68 0, I 7], h456, .agg [IZ (-1), I 0, I 0, U 0, I 0, U 0, IZ (-1), I 0], h457⟩
theorem m232_run : ranTo (evCall (cxX Tryz.prog bad [] [] [(172, isFn 325)]) 1000 60 10 m232.args m232.h) m232.v m232.h' = true := by kernel_rfl
theorem m232_ok {σ : Nat → Int} {W0 : World} (hL : L0 W0) : MemoOk Tryz.prog 1023 σ W0 10 m232 := memo_ok fit (Known2.nil σ) (FnsOk.cons (ext_is hL) (FnsOk.nil)) m232_run
noncomputable def h458 : H := hUpd h457 1721 [] [] []
noncomputable def h459 : H := hUpc h456 1722 [] [] [] [(68, 0, 8, I 9)]
noncomputable def m233 : Memo := ⟨[.ptr 68 0, I 8], h458, .agg [IZ (-1), I 0, I 0, U 0, I 0, U 0, IZ (-1), I 0], h459⟩
theorem m233_run : ranTo (evCall (cxX Tryz.prog bad [] [] [(172, isFn 325)]) 1000 60 10 m233.args m233.h) m233.v m233.h' = true := by kernel_rfl
theorem m233_ok {σ : Nat → Int} {W0 : World} (hL : L0 W0) : MemoOk Tryz.prog 1023 σ W0 10 m233 := memo_ok fit (Known2.nil σ) (FnsOk.cons (ext_is hL) (FnsOk.nil)) m233_run
noncomputable def h460 : H := hUpd h459 1723 [] [] []
noncomputable def h461 : H := hUpc h456 1724 [] [] [] [(68, 0, 8, I 10)]
noncomputable def m234 : Memo := ⟨[.ptr 68 0, I 9], h460, .agg [IZ (-1), I 0, I 0, U 0, I 0, U 0, IZ (-1), I 0], h461⟩
theorem m234_run : ranTo (evCall (cxX Tryz.prog bad [] [] [(172, isFn 325)]) 1000 60 10 m234.args m234.h) m234.v m234.h' = true := by kernel_rfl
theorem m234_ok {σ : Nat → Int} {W0 : World} (hL : L0 W0) : MemoOk Tryz.prog 1023 σ W0 10 m234 := memo_ok fit (Known2.nil σ) (FnsOk.cons (ext_is hL) (FnsOk.nil)) m234_run
noncomputable def h462 : H := hUpd h461 1725 [] [] []
noncomputable def h463 : H := hUpc h456 1726 [] [] [] [(68, 0, 8, I 11)]
noncomputable def m235 : Memo := ⟨[.ptr 68 0, I 10], h462, .agg [IZ (-1), I 0, I 0, U 0, I 0, U 0, IZ (-1), I 0], h463⟩
theorem m235_run : ranTo (evCall (cxX Tryz.prog bad [] [] [(172, isFn 325)]) 1000 60 10 m235.args m235.h) m235.v m235.h' = true := by kernel_rfl
theorem m235_ok {σ : Nat → Int} {W0 : World} (hL : L0 W0) : MemoOk Tryz.prog 1023 σ W0 10 m235 := memo_ok fit (Known2.nil σ) (FnsOk.cons (ext_is hL) (FnsOk.nil)) m235_run
noncomputable def h464 : H := hUpd h463 1727 [] [] []
noncomputable def h465 : H := hUpc h456 1728 [] [] [] [(68, 0, 8, I 12)]
noncomputable def m236 : Memo := ⟨[.ptr 68 0, I 11], h464, .agg [IZ (-1), I 0, I 0, U 0, I 0, U 0, IZ (-1), I 0], h465⟩
theorem m236_run : ranTo (evCall (cxX Tryz.prog bad [] [] [(172, isFn 325)]) 1000 60 10 m236.args m236.h) m236.v m236.h' = true := by kernel_rfl
theorem m236_ok {σ : Nat → Int} {W0 : World} (hL : L0 W0) : MemoOk Tryz.prog 1023 σ W0 10 m236 := memo_ok fit (Known2.nil σ) (FnsOk.cons (ext_is hL) (FnsOk.nil)) m236_run
noncomputable def h466 : H := hUpd h465 1729 [] [] []
noncomputable def h467 : H := hUpc h456 1730 [] [] [] [(68, 0, 8, I 13)]
noncomputable def m237 : Memo := ⟨[.ptr 68 0, I 12], h466, .agg [IZ (-1), I 0, I 0, U 0, I 0, U 0, IZ (-1), I 0], h467⟩
theorem m237_run : ranTo (evCall (cxX Tryz.prog bad [] [] [(172, isFn 325)]) 1000 60 10 m237.args m237.h) m237.v m237.h' = true := by kernel_rfl
theorem m237_ok {σ : Nat → Int} {W0 : World} (hL : L0 W0) : MemoOk Tryz.prog 1023 σ W0 10 m237 := memo_ok fit (Known2.nil σ) (FnsOk.cons (ext_is hL) (FnsOk.nil)) m237_run
noncomputable def h468 : H := hUpd h467 1731 [] [] []
noncomputable def h469 : H := hUpc h456 1732 [] [] [] [(68, 0, 8, I 14)]
noncomputable def m238 : Memo := ⟨[.ptr 68 0, I 13], h468, .agg [IZ (-1), I 0, I 0, U 0, I 0, U 0, IZ (-1), I 0], h469⟩
theorem m238_run : ranTo (evCall (cxX Tryz.prog bad [] [] [(172, isFn 325)]) 1000 60 10 m238.args m238.h) m238.v m238.h' = true := by kernel_rfl
theorem m238_ok {σ : Nat → Int} {W0 : World} (hL : L0 W0) : MemoOk Tryz.prog 1023 σ W0 10 m238 := memo_ok fit (Known2.nil σ) (FnsOk.cons (ext_is hL) (FnsOk.nil)) m238_run
noncomputable def h470 : H := hUpd h469 1733 [] [] []
noncomputable def h471 : H := hUpc h456 1734 [] [] [] [(68, 0, 8, I 15)]
noncomputable def m239 : Memo := ⟨[.ptr 68 0, I 14], h470, .agg [IZ (-1), I 0, I 0, U 0, I 0, U 0, IZ (-1), I 0], h471⟩
theorem m239_run : ranTo (evCall (cxX Tryz.prog bad [] [] [(172, isFn 325)]) 1000 60 10 m239.args m239.h) m239.v m239.h' = true := by kernel_rfl
theorem m239_ok {σ : Nat → Int} {W0 : World} (hL : L0 W0) : MemoOk Tryz.prog 1023 σ W0 10 m239 := memo_ok fit (Known2.nil σ) (FnsOk.cons (ext_is hL) (FnsOk.nil)) m239_run
noncomputable def h472 : H := hUpd h471 1735 [] [] []
noncomputable def h473 : H := hUpc h456 1736 [] [] [] [(68, 0, 8, I 16)]
noncomputable def m240 : Memo := ⟨[.ptr 68 0, I 15], h472, .agg [IZ (-1), I 0, I 0, U 0, I 0, U 0, IZ (-1), I 0], h473⟩
theorem m240_run : ranTo (evCall (cxX Tryz.prog bad [] [] [(172, isFn 325)]) 1000 60 10 m240.args m240.h) m240.v m240.h' = true := by kernel_rfl
theorem m240_ok {σ : Nat → Int} {W0 : World} (hL : L0 W0) : MemoOk Tryz.prog 1023 σ W0 10 m240 := memo_ok fit (Known2.nil σ) (FnsOk.cons (ext_is hL) (FnsOk.nil)) m240_run
noncomputable def h474 : H := hUpd h473 1737 [] [] []
noncomputable def h475 : H := hUpc h456 1738 [] [] [] [(68, 0, 8, I 17)]
noncomputable def m241 : Memo := ⟨[.ptr 68 0, I 16], h474, .agg [IZ (-1), I 0, I 0, U 0, I 0, U 0, IZ (-1), I 0], h475⟩
theorem m241_run : ranTo (evCall (cxX Tryz.prog bad [] [] [(172, isFn 325)]) 1000 60 10 m241.args m241.h) m241.v m241.h' = true := by kernel_rfl
theorem m241_ok {σ : Nat → Int} {W0 : World} (hL : L0 W0) : MemoOk Tryz.prog 1023 σ W0 10 m241 := memo_ok fit (Known2.nil σ) (FnsOk.cons (ext_is hL) (FnsOk.nil)) m241_run
noncomputable def h476 : H := hUpd h475 1739 [] [] []
noncomputable def h477 : H := hUpc h456 1740 [] [] [] [(68, 0, 8, I 18)]
noncomputable def m242 : Memo := ⟨[.ptr 68 0, I 17], h476, .agg [IZ (-1), I 0, I 0, U 0, I 0, U 0, IZ (-1), I 0], h477⟩
theorem m242_run : ranTo (evCall (cxX Tryz.prog bad [] [] [(172, isFn 325)]) 1000 60 10 m242.args m242.h) m242.v m242.h' = true := by kernel_rfl
theorem m242_ok {σ : Nat → Int} {W0 : World} (hL : L0 W0) : MemoOk Tryz.prog 1023 σ W0 10 m242 := memo_ok fit (Known2.nil σ) (FnsOk.cons (ext_is hL) (FnsOk.nil)) m242_run
noncomputable def h478 : H := hUpd h477 1741 [] [] []
noncomputable def h479 : H := hUpc h456 1742 [] [] [] [(68, 0, 8, I 19)]
noncomputable def m243 : Memo := ⟨[.ptr 68 0, I 18], h478, .agg [IZ (-1), I 0, I 0, U 0, I 0, U 0, IZ (-1), I 0], h479⟩
theorem m243_run : ranTo (evCall (cxX Tryz.prog bad [] [] [(172, isFn 325)]) 1000 60 10 m243.args m243.h) m243.v m243.h' = true := by kernel_rfl
theorem m243_ok {σ : Nat → Int} {W0 : World} (hL : L0 W0) : MemoOk Tryz.prog 1023 σ W0 10 m243 := memo_ok fit (Known2.nil σ) (FnsOk.cons (ext_is hL) (FnsOk.nil)) m243_run
noncomputable def h480 : H := hUpd h479 1743 [] [] []
noncomputable def h481 : H := hUpc h456 1744 [] [] [] [(68, 0, 8, I 20)]
noncomputable def m244 : Memo := ⟨[.ptr 68 0, I 19], h480, .agg [IZ (-1), I 0, I 0, U 0, I 0, U 0, IZ (-1), I 0], h481⟩
theorem m244_run : ranTo (evCall (cxX Tryz.prog bad [] [] [(172, isFn 325)]) 1000 60 10 m244.args m244.h) m244.v m244.h' = true := by kernel_rfl
theorem m244_ok {σ : Nat → Int} {W0 : World} (hL : L0 W0) : MemoOk Tryz.prog 1023 σ W0 10 m244 := memo_ok fit (Known2.nil σ) (FnsOk.cons (ext_is hL) (FnsOk.nil)) m244_run
noncomputable def h482 : H := hUpd h481 1745 [] [] []
noncomputable def h483 : H := hUpc h456 1746 [] [] [] [(68, 0, 8, I 21)]
noncomputable def m245 : Memo := ⟨[.ptr 68 0, I 20], h482, .agg [IZ (-1), I 0, I 0, U 0, I 0, U 0, IZ (-1), I 0], h483⟩
theorem m245_run : ranTo (evCall (cxX Tryz.prog bad [] [] [(172, isFn 325)]) 1000 60 10 m245.args m245.h) m245.v m245.h' = true := by kernel_rfl
theorem m245_ok {σ : Nat → Int} {W0 : World} (hL : L0 W0) : MemoOk Tryz.prog 1023 σ W0 10 m245 := memo_ok fit (Known2.nil σ) (FnsOk.cons (ext_is hL) (FnsOk.nil)) m245_run
noncomputable def h484 : H := hUpd h483 1747 [] [] []
noncomputable def h485 : H := hUpc h456 1748 [] [] [] [(68, 0, 8, I 22)]
noncomputable def m246 : Memo := ⟨[.ptr 68 0, I 21], h484, .agg [IZ (-1), I 0, I 0, U 0, I 0, U 0, IZ (-1), I 0], h485⟩
theorem m246_run : ranTo (evCall (cxX Tryz.prog bad [] [] [(172, isFn 325)]) 1000 60 10 m246.args m246.h) m246.v m246.h' = true := by kernel_rfl
theorem m246_ok {σ : Nat → Int} {W0 : World} (hL : L0 W0) : MemoOk Tryz.prog 1023 σ W0 10 m246 := memo_ok fit (Known2.nil σ) (FnsOk.cons (ext_is hL) (FnsOk.nil)) m246_run
noncomputable def h486 : H := hUpd h485 1749 [] [] []
noncomputable def h487 : H := hUpc h456 1750 [] [] [] [(68, 0, 8, I 23)]
noncomputable def m247 : Memo := ⟨[.ptr 68 0, I 22], h486, .agg [IZ (-1), I 0, I 0, U 0, I 0, U 0, IZ (-1), I 0], h487⟩
theorem m247_run : ranTo (evCall (cxX Tryz.prog bad [] [] [(172, isFn 325)]) 1000 60 10 m247.args m247.h) m247.v m247.h' = true := by kernel_rfl
theorem m247_ok {σ : Nat → Int} {W0 : World} (hL : L0 W0) : MemoOk Tryz.prog 1023 σ W0 10 m247 := memo_ok fit (Known2.nil σ) (FnsOk.cons (ext_is hL) (FnsOk.nil)) m247_run
noncomputable def h488 : H := hUpd h487 1751 [] [] []
noncomputable def h489 : H := hUpc h456 1752 [] [] [] [(68, 0, 8, I 24)]
noncomputable def m248 : Memo := ⟨[.ptr 68 0, I 23], h488, .agg [IZ (-1), I 0, I 0, U 0, I 0, U 0, IZ (-1), I 0], h489⟩
theorem m248_run : ranTo (evCall (cxX Tryz.prog bad [] [] [(172, isFn 325)]) 1000 60 10 m248.args m248.h) m248.v m248.h' = true := by kernel_rfl
theorem m248_ok {σ : Nat → Int} {W0 : World} (hL : L0 W0) : MemoOk Tryz.prog 1023 σ W0 10 m248 := memo_ok fit (Known2.nil σ) (FnsOk.cons (ext_is hL) (FnsOk.nil)) m248_run
noncomputable def h490 : H := hUpd h489 1753 [] [] []
noncomputable def h491 : H := hUpc h456 1754 [] [] [] [(68, 0, 8, I 25)]
noncomputable def m249 : Memo := ⟨[.ptr 68 0, I 24], h490, .agg [IZ (-1), I 0, I 0, U 0, I 0, U 0, IZ (-1), I 0], h491⟩
theorem m249_run : ranTo (evCall (cxX Tryz.prog bad [] [] [(172, isFn 325)]) 1000 60 10 m249.args m249.h) m249.v m249.h' = true := by kernel_rfl
theorem m249_ok {σ : Nat → Int} {W0 : World} (hL : L0 W0) : MemoOk Tryz.prog 1023 σ W0 10 m249 := memo_ok fit (Known2.nil σ) (FnsOk.cons (ext_is hL) (FnsOk.nil)) m249_run
noncomputable def h492 : H := hUpd h491 1755 [] [] []
noncomputable def h493 : H := hUpc h456 1756 [] [] [] [(68, 0, 8, I 26)]
noncomputable def m250 : Memo := ⟨[.ptr 68 0, I 25], h492, .agg [IZ (-1), I 0, I 0, U 0, I 0, U 0, IZ (-1), I 0], h493⟩
theorem m250_run : ranTo (evCall (cxX Tryz.prog bad [] [] [(172, isFn 325)]) 1000 60 10 m250.args m250.h) m250.v m250.h' = true := by kernel_rfl
theorem m250_ok {σ : Nat → Int} {W0 : World} (hL : L0 W0) : MemoOk Tryz.prog 1023 σ W0 10 m250 := memo_ok fit (Known2.nil σ) (FnsOk.cons (ext_is hL) (FnsOk.nil)) m250_run
noncomputable def h494 : H := hUpd h493 1757 [] [] []
noncomputable def h495 : H := hUpc h456 1758 [] [] [] [(68, 0, 8, I 27)]
noncomputable def m251 : Memo := ⟨[.ptr 68 0, I 26], h494, .agg [IZ (-1), I 0, I 0, U 0, I 0, U 0, IZ (-1), I 0], h495⟩
theorem m251_run : ranTo (evCall (cxX Tryz.prog bad [] [] [(172, isFn 325)]) 1000 60 10 m251.args m251.h) m251.v m251.h' = true := by kernel_rfl
theorem m251_ok {σ : Nat → Int} {W0 : World} (hL : L0 W0) : MemoOk Tryz.prog 1023 σ W0 10 m251 := memo_ok fit (Known2.nil σ) (FnsOk.cons (ext_is hL) (FnsOk.nil)) m251_run
noncomputable def h496 : H := hUpd h495 1759 [] [] []
noncomputable def h497 : H := hUpc h457 1760 [] [] [] [(68, 0, 8, I 28)]
noncomputable def m252 : Memo := ⟨[.ptr 68 0, I 27], h496, .agg [IZ (-1), I 0, I 0, U 0, I 0, U 0, IZ (-1), I 0], h497⟩
theorem m252_run : ranTo (evCall (cxX Tryz.prog bad [] [] [(172, isFn 325)]) 1000 60 10 m252.args m252.h) m252.v m252.h' = true := by kernel_rfl
theorem m252_ok {σ : Nat → Int} {W0 : World} (hL : L0 W0) : MemoOk Tryz.prog 1023 σ W0 10 m252 := memo_ok fit (Known2.nil σ) (FnsOk.cons (ext_is hL) (FnsOk.nil)) m252_run
noncomputable def h498 : H := hUpd h497 1761 [] [] []
noncomputable def h499 : H := hUpc h459 1762 [] [] [] [(68, 0, 8, I 29)]
noncomputable def m253 : Memo := ⟨[.ptr 68 0, I 28], h498, .agg [IZ (-1), I 0, I 0, U 0, I 0, U 0, IZ (-1), I 0], h499⟩
theorem m253_run : ranTo (evCall (cxX Tryz.prog bad [] [] [(172, isFn 325)]) 1000 60 10 m253.args m253.h) m253.v m253.h' = true := by kernel_rfl
theorem m253_ok {σ : Nat → Int} {W0 : World} (hL : L0 W0) : MemoOk Tryz.prog 1023 σ W0 10 m253 := memo_ok fit (Known2.nil σ) (FnsOk.cons (ext_is hL) (FnsOk.nil)) m253_run
noncomputable def h500 : H := hUpd h499 1763 [] [] []
noncomputable def h501 : H := hUpc h461 1764 [] [] [] [(68, 0, 8, I 30)]
noncomputable def m254 : Memo := ⟨[.ptr 68 0, I 29], h500, .agg [IZ (-1), I 0, I 0, U 0, I 0, U 0, IZ (-1), I 0], h501⟩
theorem m254_run : ranTo (evCall (cxX Tryz.prog bad [] [] [(172, isFn 325)]) 1000 60 10 m254.args m254.h) m254.v m254.h' = true := by kernel_rfl
theorem m254_ok {σ : Nat → Int} {W0 : World} (hL : L0 W0) : MemoOk Tryz.prog 1023 σ W0 10 m254 := memo_ok fit (Known2.nil σ) (FnsOk.cons (ext_is hL) (FnsOk.nil)) m254_run
noncomputable def h502 : H := hUpd h501 1765 [] [] []
noncomputable def h503 : H := hUpc h463 1766 [] [] [] [(68, 0, 8, I 31)]
noncomputable def m255 : Memo := ⟨[.ptr 68 0, I 30], h502, .agg [IZ (-1), I 0, I 0, U 0, I 0, U 0, IZ (-1), I 0], h503⟩
theorem m255_run : ranTo (evCall (cxX Tryz.prog bad [] [] [(172, isFn 325)]) 1000 60 10 m255.args m255.h) m255.v m255.h' = true := by kernel_rfl
theorem m255_ok {σ : Nat → Int} {W0 : World} (hL : L0 W0) : MemoOk Tryz.prog 1023 σ W0 10 m255 := memo_ok fit (Known2.nil σ) (FnsOk.cons (ext_is hL) (FnsOk.nil)) m255_run
noncomputable def h504 : H := hUpd h503 1767 [] [] []
noncomputable def h505 : H := hUpc h465 1768 [] [] [] [(68, 0, 8, I 32)]
noncomputable def m256 : Memo := ⟨[.ptr 68 0, I 31], h504, .agg [IZ (-1), I 0, I 0, U 0, I 0, U 0, IZ (-1), I 0], h505⟩
theorem m256_run : ranTo (evCall (cxX Tryz.prog bad [] [] [(172, isFn 325)]) 1000 60 10 m256.args m256.h) m256.v m256.h' = true := by kernel_rfl
theorem m256_ok {σ : Nat → Int} {W0 : World} (hL : L0 W0) : MemoOk Tryz.prog 1023 σ W0 10 m256 := memo_ok fit (Known2.nil σ) (FnsOk.cons (ext_is hL) (FnsOk.nil)) m256_run
noncomputable def h506 : H := hUpd h505 1769 [] [] []
noncomputable def h507 : H := hUpc h467 1770 [] [] [] [(68, 0, 8, I 33)]
noncomputable def m257 : Memo := ⟨[.ptr 68 0, I 32], h506, .agg [IZ (-1), I 0, I 0, U 0, I 0, U 0, IZ (-1), I 0], h507⟩
theorem m257_run : ranTo (evCall (cxX Tryz.prog bad [] [] [(172, isFn 325)]) 1000 60 10 m257.args m257.h) m257.v m257.h' = true := by kernel_rfl
theorem m257_ok {σ : Nat → Int} {W0 : World} (hL : L0 W0) : MemoOk Tryz.prog 1023 σ W0 10 m257 := memo_ok fit (Known2.nil σ) (FnsOk.cons (ext_is hL) (FnsOk.nil)) m257_run
noncomputable def h508 : H := hUpd h507 1771 [] [] []
noncomputable def h509 : H := hUpc h469 1772 [] [] [] [(68, 0, 8, I 34)]
noncomputable def m258 : Memo := ⟨[.ptr 68 0, I 33], h508, .agg [IZ (-1), I 0, I 0, U 0, I 0, U 0, IZ (-1), I 0], h509⟩
theorem m258_run : ranTo (evCall (cxX Tryz.prog bad [] [] [(172, isFn 325)]) 1000 60 10 m258.args m258.h) m258.v m258.h' = true := by kernel_rfl
theorem m258_ok {σ : Nat → Int} {W0 : World} (hL : L0 W0) : MemoOk Tryz.prog 1023 σ W0 10 m258 := memo_ok fit (Known2.nil σ) (FnsOk.cons (ext_is hL) (FnsOk.nil)) m258_run
noncomputable def h510 : H := hUpd h509 1773 [] [] []
noncomputable def h511 : H := hUpc h471 1774 [] [] [] [(68, 0, 8, I 35)]
noncomputable def m259 : Memo := ⟨[.ptr 68 0, I 34], h510, .agg [IZ (-1), I 0, I 0, U 0, I 0, U 0, IZ (-1), I 0], h511⟩
theorem m259_run : ranTo (evCall (cxX Tryz.prog bad [] [] [(172, isFn 325)]) 1000 60 10 m259.args m259.h) m259.v m259.h' = true := by kernel_rfl
theorem m259_ok {σ : Nat → Int} {W0 : World} (hL : L0 W0) : MemoOk Tryz.prog 1023 σ W0 10 m259 := memo_ok fit (Known2.nil σ) (FnsOk.cons (ext_is hL) (FnsOk.nil)) m259_run
noncomputable def h512 : H := hUpd h511 1775 [] [] []
noncomputable def h513 : H := hUpc h473 1776 [] [] [] [(68, 0, 8, I 36)]
noncomputable def m260 : Memo := ⟨[.ptr 68 0, I 35], h512, .agg [IZ (-1), I 0, I 0, U 0, I 0, U 0, IZ (-1), I 0], h513⟩
theorem m260_run : ranTo (evCall (cxX Tryz.prog bad [] [] [(172, isFn 325)]) 1000 60 10 m260.args m260.h) m260.v m260.h' = true := by kernel_rfl
theorem m260_ok {σ : Nat → Int} {W0 : World} (hL : L0 W0) : MemoOk Tryz.prog 1023 σ W0 10 m260 := memo_ok fit (Known2.nil σ) (FnsOk.cons (ext_is hL) (FnsOk.nil)) m260_run
noncomputable def h514 : H := hUpd h513 1777 [] [] []
noncomputable def h515 : H := hUpc h475 1778 [] [] [] [(68, 0, 8, I 37)]
noncomputable def m261 : Memo := ⟨[.ptr 68 0, I 36], h514, .agg [IZ (-1), I 0, I 0, U 0, I 0, U 0, IZ (-1), I 0], h515⟩
theorem m261_run : ranTo (evCall (cxX Tryz.prog bad [] [] [(172, isFn 325)]) 1000 60 10 m261.args m261.h) m261.v m261.h' = true := by kernel_rfl
theorem m261_ok {σ : Nat → Int} {W0 : World} (hL : L0 W0) : MemoOk Tryz.prog 1023 σ W0 10 m261 := memo_ok fit (Known2.nil σ) (FnsOk.cons (ext_is hL) (FnsOk.nil)) m261_run
noncomputable def h516 : H := hUpd h515 1779 [] [] []
noncomputable def h517 : H := hUpc h477 1780 [] [] [] [(68, 0, 8, I 38)]
noncomputable def m262 : Memo := ⟨[.ptr 68 0, I 37], h516, .agg [IZ (-1), I 0, I 0, U 0, I 0, U 0, IZ (-1), I 0], h517⟩
theorem m262_run : ranTo (evCall (cxX Tryz.prog bad [] [] [(172, isFn 325)]) 1000 60 10 m262.args m262.h) m262.v m262.h' = true := by kernel_rfl
theorem m262_ok {σ : Nat → Int} {W0 : World} (hL : L0 W0) : MemoOk Tryz.prog 1023 σ W0 10 m262 := memo_ok fit (Known2.nil σ) (FnsOk.cons (ext_is hL) (FnsOk.nil)) m262_run
noncomputable def h518 : H := hUpd h517 1781 [] [] []
noncomputable def h519 : H := hUpc h479 1782 [] [] [] [(68, 0, 8, I 39)]
noncomputable def m263 : Memo := ⟨[.ptr 68 0, I 38], h518, .agg [IZ (-1), I 0, I 0, U 0, I 0, U 0, IZ (-1), I 0], h519⟩
theorem m263_run : ranTo (evCall (cxX Tryz.prog bad [] [] [(172, isFn 325)]) 1000 60 10 m263.args m263.h) m263.v m263.h' = true := by kernel_rfl
theorem m263_ok {σ : Nat → Int} {W0 : World} (hL : L0 W0) : MemoOk Tryz.prog 1023 σ W0 10 m263 := memo_ok fit (Known2.nil σ) (FnsOk.cons (ext_is hL) (FnsOk.nil)) m263_run
theorem run6 : lawF Tryz.prog bad [] ((6, numExtE [(0, 30, .var 2), (1, 40, .var 3)]) :: (9, frameFn [m5]) :: (10, frameFn [m45, m84, m122, m159, m195, m230, m231, m232, m233, m234, m235, m236, m237, m238, m239, m240, m241, m242, m243, m244, m245, m246, m247, m248, m249, m250, m251, m252, m253, m254, m255, m256, m257, m258, m259, m260, m261, m262, m263]) :: q0) 1000 60 4 [.int .i64 (.var 0), .int .i64 (.var 1)] [((-9223372036854775808), 9223372036854775807), ((-9223372036854775808), 9223372036854775807), (6, 6), (0, 39)] (peels 39 3) (sentH 325 10 errTab) = true := by kernel_rfl
theorem case6 {σ : Nat → Int} {W : World} (hL : L0 W) (hk : Known2 σ [((-9223372036854775808), 9223372036854775807), ((-9223372036854775808), 9223372036854775807), (6, 6), (0, 39)] []) (hT : TabOk Tryz.prog bad 6 σ [(0, 30, .var 2), (1, 40, .var 3)]) {xs : Array Value} (hv : ∀ ρ, VRs σ ρ [.int .i64 (.var 0), .int .i64 (.var 1)] xs.toList) : Calls Tryz.prog 4 xs W fun e w' => e = .returned (.bool true) ∧ Below W.heap.size W w' := by
  obtain ⟨ads, h1, h2, h3⟩ := errs_sents hL
  exact law_case_f fit h1 h2 h3 errs_all errs_lt (by kernel_rfl) hk (FnsOk.cons (hT.ok fit) (FnsOk.cons (frame_fn_ok (all_cons (m5_ok hL (hk.relax (r' := [((-9223372036854775808), 9223372036854775807), ((-9223372036854775808), 9223372036854775807), (0, 29), (0, 39)]) (by kernel_rfl))) (all_nil))) (FnsOk.cons (frame_fn_ok (all_cons (m45_ok hL (hk.relax (r' := [((-9223372036854775808), 9223372036854775807), ((-9223372036854775808), 9223372036854775807), (1, 29), (0, 39)]) (by kernel_rfl))) (all_cons (m84_ok hL (hk.relax (r' := [((-9223372036854775808), 9223372036854775807), ((-9223372036854775808), 9223372036854775807), (2, 29), (0, 39)]) (by kernel_rfl))) (all_cons (m122_ok hL (hk.relax (r' := [((-9223372036854775808), 9223372036854775807), ((-9223372036854775808), 9223372036854775807), (3, 29), (0, 39)]) (by kernel_rfl))) (all_cons (m159_ok hL (hk.relax (r' := [((-9223372036854775808), 9223372036854775807), ((-9223372036854775808), 9223372036854775807), (4, 29), (0, 39)]) (by kernel_rfl))) (all_cons (m195_ok hL (hk.relax (r' := [((-9223372036854775808), 9223372036854775807), ((-9223372036854775808), 9223372036854775807), (5, 29), (0, 39)]) (by kernel_rfl))) (all_cons (m230_ok hL (hk.relax (r' := [((-9223372036854775808), 9223372036854775807), ((-9223372036854775808), 9223372036854775807), (6, 29), (0, 39)]) (by kernel_rfl))) (all_cons (m231_ok hL hk) (all_cons (m232_ok hL) (all_cons (m233_ok hL) (all_cons (m234_ok hL) (all_cons (m235_ok hL) (all_cons (m236_ok hL) (all_cons (m237_ok hL) (all_cons (m238_ok hL) (all_cons (m239_ok hL) (all_cons (m240_ok hL) (all_cons (m241_ok hL) (all_cons (m242_ok hL) (all_cons (m243_ok hL) (all_cons (m244_ok hL) (all_cons (m245_ok hL) (all_cons (m246_ok hL) (all_cons (m247_ok hL) (all_cons (m248_ok hL) (all_cons (m249_ok hL) (all_cons (m250_ok hL) (all_cons (m251_ok hL) (all_cons (m252_ok hL) (all_cons (m253_ok hL) (all_cons (m254_ok hL) (all_cons (m255_ok hL) (all_cons (m256_ok hL) (all_cons (m257_ok hL) (all_cons (m258_ok hL) (all_cons (m259_ok hL) (all_cons (m260_ok hL) (all_cons (m261_ok hL) (all_cons (m262_ok hL) (all_cons (m263_ok hL) (all_nil))))))))))))))))))))))))))))))))))))))))) ((q0_ok hL))))) hv run6
noncomputable def h520 : H := hUpc h480 1600 [] [(34, .cells 107 ((rp 9 (U 0) ((I 3) :: rp 5 (I 0) ((U 0) :: rp 4 (I 0) ((U 0) :: rp 4 (I 0) ((U 0) :: rp 4 (I 0) ((U 0) :: rp 4 (I 0) ((U 0) :: rp 4 (I 0) ((U 0) :: rp 4 (I 0) ((U 0) :: rp 4 (I 0) ((U 0) :: rp 4 (I 0) ((U 0) :: rp 4 (I 0) ((U 0) :: rp 4 (I 0) ((U 0) :: rp 4 (I 0) ((U 0) :: rp 4 (I 0) ((U 0) :: rp 4 (I 0) ((U 0) :: rp 4 (I 0) ((U 0) :: rp 4 (I 0) ((U 0) :: (I 3) :: (I 0) :: (I 0) :: (I 0) :: (U 0) :: (I 7) :: (I 0) :: (I 0) :: (I 0) :: (U 0) :: rp 4 (I 0) ([U 0, I 0]))))))))))))))))))) :: rp 5 (rp 9 (U 0) (rp 6 (I 0) ((U 0) :: rp 4 (I 0) ((U 0) :: rp 4 (I 0) ((U 0) :: rp 4 (I 0) ((U 0) :: rp 4 (I 0) ((U 0) :: rp 4 (I 0) ((U 0) :: rp 4 (I 0) ((U 0) :: rp 4 (I 0) ((U 0) :: rp 4 (I 0) ((U 0) :: rp 4 (I 0) ((U 0) :: rp 4 (I 0) ((U 0) :: rp 4 (I 0) ((U 0) :: rp 4 (I 0) ((U 0) :: rp 4 (I 0) ((U 0) :: rp 4 (I 0) ((U 0) :: rp 4 (I 0) ((U 0) :: rp 4 (I 0) ((U 0) :: rp 4 (I 0) ((U 0) :: rp 4 (I 0) ([U 0, I 0]))))))))))))))))))))) ([])) false),
  (56, .cells 2 ([IZ (-1), .int .i64 (.sub (.var 2) (.lit 6))] :: rp 7 ([I 0, I 0]) ([])) false),
  (27, .cells 32 (((U 201326592) :: (U 67108864) :: rp 30 (U 0) ([])) :: rp 11 (rp 32 (U 0) ([])) ([])) false)] [(67, 0, [.slice 365 0 1 1 1 false])] [(68, 0, 8, I 6)]
noncomputable def h521 : H := hUpc h520 1769 [] [] [(30, 0, [I 16, .slice 663 0 1 1 10 false, I 6]),
  (56, 0, [IZ (-1), .int .i64 (.sub (.var 2) (.lit 7))])] [(34, 0, 8, U 1), (68, 0, 8, I 7)]
noncomputable def m264 : Memo := ⟨[.ptr 68 0, I 6], h520, .agg [I 0, I 3, I 0, U 0, I 0, U 0, IZ (-1), I 0], h521⟩
theorem m264_run : ranTo (evCall (cxX Tryz.prog bad [((-9223372036854775808), 9223372036854775807), ((-9223372036854775808), 9223372036854775807), (7, 29), (0, 39)] [] [(51, pureFn [p4, p2, p3]), (172, isFn 325)]) 1000 60 10 m264.args m264.h) m264.v m264.h' = true := by kernel_rfl
theorem m264_ok {σ : Nat → Int} {W0 : World} (hL : L0 W0) (hk : Known2 σ [((-9223372036854775808), 9223372036854775807), ((-9223372036854775808), 9223372036854775807), (7, 29), (0, 39)] []) : MemoOk Tryz.prog 1023 σ W0 10 m264 := memo_ok fit hk (FnsOk.cons (pure_fn_ok (all_cons (p4_ok hL) (all_cons (p2_ok hL) (all_cons (p3_ok hL) (all_nil))))) (FnsOk.cons (ext_is hL) (FnsOk.nil))) m264_run
noncomputable def h522 : H := hUpd h521 1770 [27] [] []
noncomputable def h523 : H := hUpc h522 1888 [] [] [(67, 0, [.slice 365 0 0 1 1 false])] [(34, 0, 9, I 4), (34, 0, 10, I 6), (68, 0, 8, I 8)]
noncomputable def m265 : Memo := ⟨[.ptr 68 0, I 7], h522, .agg [I 0, I 5, I 0, U 0, I 0, U 0, IZ (-1), I 6], h523⟩
theorem m265_run : ranTo (evCall (cxX Tryz.prog bad [((-9223372036854775808), 9223372036854775807), ((-9223372036854775808), 9223372036854775807), (7, 7), (0, 39)] [] [(51, pureFn [p4, p2, p3]), (172, isFn 325)]) 1000 60 10 m265.args m265.h) m265.v m265.h' = true := by kernel_rfl
theorem m265_ok {σ : Nat → Int} {W0 : World} (hL : L0 W0) (hk : Known2 σ [((-9223372036854775808), 9223372036854775807), ((-9223372036854775808), 9223372036854775807), (7, 7), (0, 39)] []) : MemoOk Tryz.prog 1023 σ W0 10 m265 := memo_ok fit hk (FnsOk.cons (pure_fn_ok (all_cons (p4_ok hL) (all_cons (p2_ok hL) (all_cons (p3_ok hL) (all_nil))))) (FnsOk.cons (ext_is hL) (FnsOk.nil))) m265_run
noncomputable def h524 : H := hUpd h523 1889 [34, 56] [] []
noncomputable def h525 : H := hUpc h524 1890 [] [] [] [(68, 0, 8, I 9)]
noncomputable def m266 : Memo := ⟨[.ptr 68 0, I 8], h524, .agg [IZ (-1), I 0, I 0, U 0, I 0, U 0, IZ (-1), I 0], h525⟩
theorem m266_run : ranTo (evCall (cxX Tryz.prog bad [] [] [(172, isFn 325)]) 1000 60 10 m266.args m266.h) m266.v m266.h' = true := by kernel_rfl
theorem m266_ok {σ : Nat → Int} {W0 : World} (hL : L0 W0) : MemoOk Tryz.prog 1023 σ W0 10 m266 := memo_ok fit (Known2.nil σ) (FnsOk.cons (ext_is hL) (FnsOk.nil)) m266_run
noncomputable def h526 : H := hUpd h525 1891 [] [] []
noncomputable def h527 : H := hUpc h524 1892 [] [] [] [(68, 0, 8, I 10)]
noncomputable def m267 : Memo := ⟨[.ptr 68 0, I 9], h526, .agg [IZ (-1), I 0, I 0, U 0, I 0, U 0, IZ (-1), I 0], h527⟩
theorem m267_run : ranTo (evCall (cxX Tryz.prog bad [] [] [(172, isFn 325)]) 1000 60 10 m267.args m267.h) m267.v m267.h' = true := by kernel_rfl
theorem m267_ok {σ : Nat → Int} {W0 : World} (hL : L0 W0) : MemoOk Tryz.prog 1023 σ W0 10 m267 := memo_ok fit (Known2.nil σ) (FnsOk.cons (ext_is hL) (FnsOk.nil)) m267_run
noncomputable def h528 : H := hUpd h527 1893 [] [] []
noncomputable def h529 : H := hUpc h524 1894 [] [] [] [(68, 0, 8, I 11)]
noncomputable def m268 : Memo := ⟨[.ptr 68 0, I 10], h528, .agg [IZ (-1), I 0, I 0, U 0, I 0, U 0, IZ (-1), I 0], h529⟩
theorem m268_run : ranTo (evCall (cxX Tryz.prog bad [] [] [(172, isFn 325)]) 1000 60 10 m268.args m268.h) m268.v m268.h' = true := by kernel_rfl
theorem m268_ok {σ : Nat → Int} {W0 : World} (hL : L0 W0) : MemoOk Tryz.prog 1023 σ W0 10 m268 := memo_ok fit (Known2.nil σ) (FnsOk.cons (ext_is hL) (FnsOk.nil)) m268_run
noncomputable def h530 : H := hUpd h529 1895 [] [] []
noncomputable def h531 : H := hUpc h524 1896 [] [] [] [(68, 0, 8, I 12)]
noncomputable def m269 : Memo := ⟨[.ptr 68 0, I 11], h530, .agg [IZ (-1), I 0, I 0, U 0, I 0, U 0, IZ (-1), I 0], h531⟩
theorem m269_run : ranTo (evCall (cxX Tryz.prog bad [] [] [(172, isFn 325)]) 1000 60 10 m269.args m269.h) m269.v m269.h' = true := by kernel_rfl
theorem m269_ok {σ : Nat → Int} {W0 : World} (hL : L0 W0) : MemoOk Tryz.prog 1023 σ W0 10 m269 := memo_ok fit (Known2.nil σ) (FnsOk.cons (ext_is hL) (FnsOk.nil)) m269_run
noncomputable def h532 : H := hUpd h531 1897 [] [] []
noncomputable def h533 : H := hUpc h524 1898 [] [] [] [(68, 0, 8, I 13)]
noncomputable def m270 : Memo := ⟨[.ptr 68 0, I 12], h532, .agg [IZ (-1), I 0, I 0, U 0, I 0, U 0, IZ (-1), I 0], h533⟩
theorem m270_run : ranTo (evCall (cxX Tryz.prog bad [] [] [(172, isFn 325)]) 1000 60 10 m270.args m270.h) m270.v m270.h' = true := by kernel_rfl
theorem m270_ok {σ : Nat → Int} {W0 : World} (hL : L0 W0) : MemoOk Tryz.prog 1023 σ W0 10 m270 := memo_ok fit (Known2.nil σ) (FnsOk.cons (ext_is hL) (FnsOk.nil)) m270_run
noncomputable def h534 : H := hUpd h533 1899 [] [] []
noncomputable def h535 : H := hUpc h524 1900 [] [] [] [(68, 0, 8, I 14)]
noncomputable def m271 : Memo := ⟨[.ptr 68 0, I 13], h534, .agg [IZ (-1), I 0, I 0, U 0, I 0, U 0, IZ (-1), I 0], h535⟩
theorem m271_run : ranTo (evCall (cxX Tryz.prog bad [] [] [(172, isFn 325)]) 1000 60 10 m271.args m271.h) m271.v m271.h' = true := by kernel_rfl
theorem m271_ok {σ : Nat → Int} {W0 : World} (hL : L0 W0) : MemoOk Tryz.prog 1023 σ W0 10 m271 := memo_ok fit (Known2.nil σ) (FnsOk.cons (ext_is hL) (FnsOk.nil)) m271_run
noncomputable def h536 : H := hUpd h535 1901 [] [] []
noncomputable def h537 : H := hUpc h524 1902 [] [] [] [(68, 0, 8, I 15)]
noncomputable def m272 : Memo := ⟨[.ptr 68 0, I 14], h536, .agg [IZ (-1), I 0, I 0, U 0, I 0, U 0, IZ (-1), I 0], h537⟩
theorem m272_run : ranTo (evCall (cxX Tryz.prog bad [] [] [(172, isFn 325)]) 1000 60 10 m272.args m272.h) m272.v m272.h' = true := by kernel_rfl
theorem m272_ok {σ : Nat → Int} {W0 : World} (hL : L0 W0) : MemoOk Tryz.prog 1023 σ W0 10 m272 := memo_ok fit (Known2.nil σ) (FnsOk.cons (ext_is hL) (FnsOk.nil)) m272_run
noncomputable def h538 : H := hUpd h537 1903 [] [] []
noncomputable def h539 : H := hUpc h524 1904 [] [] [] [(68, 0, 8, I 16)]
noncomputable def m273 : Memo := ⟨[.ptr 68 0, I 15], h538, .agg [IZ (-1), I 0, I 0, U 0, I 0, U 0, IZ (-1), I 0], h539⟩
theorem m273_run : ranTo (evCall (cxX Tryz.prog bad [] [] [(172, isFn 325)]) 1000 60 10 m273.args m273.h) m273.v m273.h' = true := by kernel_rfl
theorem m273_ok {σ : Nat → Int} {W0 : World} (hL : L0 W0) : MemoOk Tryz.prog 1023 σ W0 10 m273 := memo_ok fit (Known2.nil σ) (FnsOk.cons (ext_is hL) (FnsOk.nil)) m273_run
noncomputable def h540 : H := hUpd h539 1905 [] [] []
noncomputable def h541 : H := hUpc h524 1906 [] [] [] [(68, 0, 8, I 17)]
noncomputable def m274 : Memo := ⟨[.ptr 68 0, I 16], h540, .agg [IZ (-1), I 0, I 0, U 0, I 0, U 0, IZ (-1), I 0], h541⟩
theorem m274_run : ranTo (evCall (cxX Tryz.prog bad [] [] [(172, isFn 325)]) 1000 60 10 m274.args m274.h) m274.v m274.h' = true := by kernel_rfl
theorem m274_ok {σ : Nat → Int} {W0 : World} (hL : L0 W0) : MemoOk Tryz.prog 1023 σ W0 10 m274 := memo_ok fit (Known2.nil σ) (FnsOk.cons (ext_is hL) (FnsOk.nil)) m274_run
noncomputable def h542 : H := hUpd h541 1907 [] [] []
noncomputable def h543 : H := hUpc h524 1908 [] [] [] [(68, 0, 8, I 18)]
noncomputable def m275 : Memo := ⟨[.ptr 68 0, I 17], h542, .agg [IZ (-1), I 0, I 0, U 0, I 0, U 0, IZ (-1), I 0], h543⟩
theorem m275_run : ranTo (evCall (cxX Tryz.prog bad [] [] [(172, isFn 325)]) 1000 60 10 m275.args m275.h) m275.v m275.h' = true := by kernel_rfl
theorem m275_ok {σ : Nat → Int} {W0 : World} (hL : L0 W0) : MemoOk Tryz.prog 1023 σ W0 10 m275 := memo_ok fit (Known2.nil σ) (FnsOk.cons (ext_is hL) (FnsOk.nil)) m275_run
noncomputable def h544 : H := hUpd h543 1909 [] [] []
noncomputable def h545 : H := hUpc h524 1910 [] [] [] [(68, 0, 8, I 19)]
noncomputable def m276 : Memo := ⟨[.ptr 68 0, I 18], h544, .agg [IZ (-1), I 0, I 0, U 0, I 0, U 0, IZ (-1), I 0], h545⟩
theorem m276_run : ranTo (evCall (cxX Tryz.prog bad [] [] [(172, isFn 325)]) 1000 60 10 m276.args m276.h) m276.v m276.h' = true := by kernel_rfl
theorem m276_ok {σ : Nat → Int} {W0 : World} (hL : L0 W0) : MemoOk Tryz.prog 1023 σ W0 10 m276 := memo_ok fit (Known2.nil σ) (FnsOk.cons (ext_is hL) (FnsOk.nil)) m276_run
noncomputable def h546 : H := hUpd h545 1911 [] [] []
noncomputable def h547 : H := hUpc h524 1912 [] [] [] [(68, 0, 8, I 20)]
noncomputable def m277 : Memo := ⟨[.ptr 68 0, I 19], h546, .agg [IZ (-1), I 0, I 0, U 0, I 0, U 0, IZ (-1), I 0], h547⟩
theorem m277_run : ranTo (evCall (cxX Tryz.prog bad [] [] [(172, isFn 325)]) 1000 60 10 m277.args m277.h) m277.v m277.h' = true := by kernel_rfl
theorem m277_ok {σ : Nat → Int} {W0 : World} (hL : L0 W0) : MemoOk Tryz.prog 1023 σ W0 10 m277 := memo_ok fit (Known2.nil σ) (FnsOk.cons (ext_is hL) (FnsOk.nil)) m277_run
noncomputable def h548 : H := hUpd h547 1913 [] [] []
noncomputable def h549 : H := hUpc h524 1914 [] [] [] [(68, 0, 8, I 21)]
noncomputable def m278 : Memo := ⟨[.ptr 68 0, I 20], h548, .agg [IZ (-1), I 0, I 0, U 0, I 0, U 0, IZ (-1), I 0], h549⟩
theorem m278_run : ranTo (evCall (cxX Tryz.prog bad [] [] [(172, isFn 325)]) 1000 60 10 m278.args m278.h) m278.v m278.h' = true := by kernel_rfl
theorem m278_ok {σ : Nat → Int} {W0 : World} (hL : L0 W0) : MemoOk Tryz.prog 1023 σ W0 10 m278 := memo_ok fit (Known2.nil σ) (FnsOk.cons (ext_is hL) (FnsOk.nil)) m278_run
noncomputable def h550 : H := hUpd h549 1915 [] [] []
noncomputable def h551 : H := hUpc h524 1916 [] [] [] [(68, 0, 8, I 22)]
noncomputable def m279 : Memo := ⟨[.ptr 68 0, I 21], h550, .agg [IZ (-1), I 0, I 0, U 0, I 0, U 0, IZ (-1), I 0], h551⟩
theorem m279_run : ranTo (evCall (cxX Tryz.prog bad [] [] [(172, isFn 325)]) 1000 60 10 m279.args m279.h) m279.v m279.h' = true := by kernel_rfl
theorem m279_ok {σ : Nat → Int} {W0 : World} (hL : L0 W0) : MemoOk Tryz.prog 1023 σ W0 10 m279 := memo_ok fit (Known2.nil σ) (FnsOk.cons (ext_is hL) (FnsOk.nil)) m279_run
noncomputable def h552 : H := hUpd h551 1917 [] [] []
noncomputable def h553 : H := hUpc h524 1918 [] [] [] [(68, 0, 8, I 23)]
noncomputable def m280 : Memo := ⟨[.ptr 68 0, I 22], h552, .agg [IZ (-1), I 0, I 0, U 0, I 0, U 0, IZ (-1), I 0], h553⟩
theorem m280_run : ranTo (evCall (cxX Tryz.prog bad [] [] [(172, isFn 325)]) 1000 60 10 m280.args m280.h) m280.v m280.h' = true := by kernel_rfl
theorem m280_ok {σ : Nat → Int} {W0 : World} (hL : L0 W0) : MemoOk Tryz.prog 1023 σ W0 10 m280 := memo_ok fit (Known2.nil σ) (FnsOk.cons (ext_is hL) (FnsOk.nil)) m280_run
noncomputable def h554 : H := hUpd h553 1919 [] [] []
noncomputable def h555 : H := hUpc h524 1920 [] [] [] [(68, 0, 8, I 24)]
noncomputable def m281 : Memo := ⟨[.ptr 68 0, I 23], h554, .agg [IZ (-1), I 0, I 0, U 0, I 0, U 0, IZ (-1), I 0], h555⟩
theorem m281_run : ranTo (evCall (cxX Tryz.prog bad [] [] [(172, isFn 325)]) 1000 60 10 m281.args m281.h) m281.v m281.h' = true := by kernel_rfl
theorem m281_ok {σ : Nat → Int} {W0 : World} (hL : L0 W0) : MemoOk Tryz.prog 1023 σ W0 10 m281 := memo_ok fit (Known2.nil σ) (FnsOk.cons (ext_is hL) (FnsOk.nil)) m281_run
noncomputable def h556 : H := hUpd h555 1921 [] [] []
noncomputable def h557 : H := hUpc h524 1922 [] [] [] [(68, 0, 8, I 25)]
noncomputable def m282 : Memo := ⟨[.ptr 68 0, I 24], h556, .agg [IZ (-1), I 0, I 0, U 0, I 0, U 0, IZ (-1), I 0], h557⟩
theorem m282_run : ranTo (evCall (cxX Tryz.prog bad [] [] [(172, isFn 325)]) 1000 60 10 m282.args m282.h) m282.v m282.h' = true := by kernel_rfl
theorem m282_ok {σ : Nat → Int} {W0 : World} (hL : L0 W0) : MemoOk Tryz.prog 1023 σ W0 10 m282 := memo_ok fit (Known2.nil σ) (FnsOk.cons (ext_is hL) (FnsOk.nil)) m282_run
noncomputable def h558 : H := hUpd h557 1923 [] [] []
noncomputable def h559 : H := hUpc h524 1924 [] [] [] [(68, 0, 8, I 26)]
noncomputable def m283 : Memo := ⟨[.ptr 68 0, I 25], h558, .agg [IZ (-1), I 0, I 0, U 0, I 0, U 0, IZ (-1), I 0], h559⟩
theorem m283_run : ranTo (evCall (cxX Tryz.prog bad [] [] [(172, isFn 325)]) 1000 60 10 m283.args m283.h) m283.v m283.h' = true := by kernel_rfl
theorem m283_ok {σ : Nat → Int} {W0 : World} (hL : L0 W0) : MemoOk Tryz.prog 1023 σ W0 10 m283 := memo_ok fit (Known2.nil σ) (FnsOk.cons (ext_is hL) (FnsOk.nil)) m283_run
noncomputable def h560 : H := hUpd h559 1925 [] [] []
noncomputable def h561 : H := hUpc h524 1926 [] [] [] [(68, 0, 8, I 27)]
noncomputable def m284 : Memo := ⟨[.ptr 68 0, I 26], h560, .agg [IZ (-1), I 0, I 0, U 0, I 0, U 0, IZ (-1), I 0], h561⟩
theorem m284_run : ranTo (evCall (cxX Tryz.prog bad [] [] [(172, isFn 325)]) 1000 60 10 m284.args m284.h) m284.v m284.h' = true := by kernel_rfl
theorem m284_ok {σ : Nat → Int} {W0 : World} (hL : L0 W0) : MemoOk Tryz.prog 1023 σ W0 10 m284 := memo_ok fit (Known2.nil σ) (FnsOk.cons (ext_is hL) (FnsOk.nil)) m284_run
noncomputable def h562 : H := hUpd h561 1927 [] [] []
noncomputable def h563 : H := hUpc h524 1928 [] [] [] [(68, 0, 8, I 28)]
noncomputable def m285 : Memo := ⟨[.ptr 68 0, I 27], h562, .agg [IZ (-1), I 0, I 0, U 0, I 0, U 0, IZ (-1), I 0], h563⟩
theorem m285_run : ranTo (evCall (cxX Tryz.prog bad [] [] [(172, isFn 325)]) 1000 60 10 m285.args m285.h) m285.v m285.h' = true := by kernel_rfl
theorem m285_ok {σ : Nat → Int} {W0 : World} (hL : L0 W0) : MemoOk Tryz.prog 1023 σ W0 10 m285 := memo_ok fit (Known2.nil σ) (FnsOk.cons (ext_is hL) (FnsOk.nil)) m285_run
noncomputable def h564 : H := hUpd h563 1929 [] [] []
noncomputable def h565 : H := hUpc h525 1930 [] [] [] [(68, 0, 8, I 29)]
noncomputable def m286 : Memo := ⟨[.ptr 68 0, I 28], h564, .agg [IZ (-1), I 0, I 0, U 0, I 0, U 0, IZ (-1), I 0], h565⟩
theorem m286_run : ranTo (evCall (cxX Tryz.prog bad [] [] [(172, isFn 325)]) 1000 60 10 m286.args m286.h) m286.v m286.h' = true := by kernel_rfl
theorem m286_ok {σ : Nat → Int} {W0 : World} (hL : L0 W0) : MemoOk Tryz.prog 1023 σ W0 10 m286 := memo_ok fit (Known2.nil σ) (FnsOk.cons (ext_is hL) (FnsOk.nil)) m286_run
noncomputable def h566 : H := hUpd h565 1931 [] [] []
noncomputable def h567 : H := hUpc h527 1932 [] [] [] [(68, 0, 8, I 30)]
noncomputable def m287 : Memo := ⟨[.ptr 68 0, I 29], h566, .agg [IZ (-1), I 0, I 0, U 0, I 0, U 0, IZ (-1), I 0], h567⟩
theorem m287_run : ranTo (evCall (cxX Tryz.prog bad [] [] [(172, isFn 325)]) 1000 60 10 m287.args m287.h) m287.v m287.h' = true := by kernel_rfl
theorem m287_ok {σ : Nat → Int} {W0 : World} (hL : L0 W0) : MemoOk Tryz.prog 1023 σ W0 10 m287 := memo_ok fit (Known2.nil σ) (FnsOk.cons (ext_is hL) (FnsOk.nil)) m287_run
noncomputable def h568 : H := hUpd h567 1933 [] [] []
noncomputable def h569 : H := hUpc h529 1934 [] [] [] [(68, 0, 8, I 31)]
noncomputable def m288 : Memo := ⟨[.ptr 68 0, I 30], h568, .agg [IZ (-1), I 0, I 0, U 0, I 0, U 0, IZ (-1), I 0], h569⟩
theorem m288_run : ranTo (evCall (cxX Tryz.prog bad [] [] [(172, isFn 325)]) 1000 60 10 m288.args m288.h) m288.v m288.h' = true := by kernel_rfl
theorem m288_ok {σ : Nat → Int} {W0 : World} (hL : L0 W0) : MemoOk Tryz.prog 1023 σ W0 10 m288 := memo_ok fit (Known2.nil σ) (FnsOk.cons (ext_is hL) (FnsOk.nil)) m288_run
noncomputable def h570 : H := hUpd h569 1935 [] [] []
noncomputable def h571 : H := hUpc h531 1936 [] [] [] [(68, 0, 8, I 32)]
noncomputable def m289 : Memo := ⟨[.ptr 68 0, I 31], h570, .agg [IZ (-1), I 0, I 0, U 0, I 0, U 0, IZ (-1), I 0], h571⟩
theorem m289_run : ranTo (evCall (cxX Tryz.prog bad [] [] [(172, isFn 325)]) 1000 60 10 m289.args m289.h) m289.v m289.h' = true := by kernel_rfl
theorem m289_ok {σ : Nat → Int} {W0 : World} (hL : L0 W0) : MemoOk Tryz.prog 1023 σ W0 10 m289 := memo_ok fit (Known2.nil σ) (FnsOk.cons (ext_is hL) (FnsOk.nil)) m289_run
noncomputable def h572 : H := hUpd h571 1937 [] [] []
noncomputable def h573 : H := hUpc h533 1938 [] [] [] [(68, 0, 8, I 33)]
noncomputable def m290 : Memo := ⟨[.ptr 68 0, I 32], h572, .agg [IZ (-1), I 0, I 0, U 0, I 0, U 0, IZ (-1), I 0], h573⟩
theorem m290_run : ranTo (evCall (cxX Tryz.prog bad [] [] [(172, isFn 325)]) 1000 60 10 m290.args m290.h) m290.v m290.h' = true := by kernel_rfl
theorem m290_ok {σ : Nat → Int} {W0 : World} (hL : L0 W0) : MemoOk Tryz.prog 1023 σ W0 10 m290 := memo_ok fit (Known2.nil σ) (FnsOk.cons (ext_is hL) (FnsOk.nil)) m290_run
noncomputable def h574 : H := hUpd h573 1939 [] [] []
noncomputable def h575 : H := hUpc h535 1940 [] [] [] [(68, 0, 8, I 34)]
noncomputable def m291 : Memo := ⟨[.ptr 68 0, I 33], h574, .agg [IZ (-1), I 0, I 0, U 0, I 0, U 0, IZ (-1), I 0], h575⟩
theorem m291_run : ranTo (evCall (cxX Tryz.prog bad [] [] [(172, isFn 325)]) 1000 60 10 m291.args m291.h) m291.v m291.h' = true := by kernel_rfl
theorem m291_ok {σ : Nat → Int} {W0 : World} (hL : L0 W0) : MemoOk Tryz.prog 1023 σ W0 10 m291 := memo_ok fit (Known2.nil σ) (FnsOk.cons (ext_is hL) (FnsOk.nil)) m291_run
noncomputable def h576 : H := hUpd h575 1941 [] [] []
noncomputable def h577 : H := hUpc h537 1942 [] [] [] [(68, 0, 8, I 35)]
noncomputable def m292 : Memo := ⟨[.ptr 68 0, I 34], h576, .agg [IZ (-1), I 0, I 0, U 0, I 0, U 0, IZ (-1), I 0], h577⟩
theorem m292_run : ranTo (evCall (cxX Tryz.prog bad [] [] [(172, isFn 325)]) 1000 60 10 m292.args m292.h) m292.v m292.h' = true := by kernel_rfl
theorem m292_ok {σ : Nat → Int} {W0 : World} (hL : L0 W0) : MemoOk Tryz.prog 1023 σ W0 10 m292 := memo_ok fit (Known2.nil σ) (FnsOk.cons (ext_is hL) (FnsOk.nil)) m292_run
noncomputable def h578 : H := hUpd h577 1943 [] [] []
noncomputable def h579 : H := hUpc h539 1944 [] [] [] [(68, 0, 8, I 36)]
noncomputable def m293 : Memo := ⟨[.ptr 68 0, I 35], h578, .agg [IZ (-1), I 0, I 0, U 0, I 0, U 0, IZ (-1), I 0], h579⟩
theorem m293_run : ranTo (evCall (cxX Tryz.prog bad [] [] [(172, isFn 325)]) 1000 60 10 m293.args m293.h) m293.v m293.h' = true := by kernel_rfl
theorem m293_ok {σ : Nat → Int} {W0 : World} (hL : L0 W0) : MemoOk Tryz.prog 1023 σ W0 10 m293 := memo_ok fit (Known2.nil σ) (FnsOk.cons (ext_is hL) (FnsOk.nil)) m293_run
noncomputable def h580 : H := hUpd h579 1945 [] [] []
noncomputable def h581 : H := hUpc h541 1946 [] [] [] [(68, 0, 8, I 37)]
noncomputable def m294 : Memo := ⟨[.ptr 68 0, I 36], h580, .agg [IZ (-1), I 0, I 0, U 0, I 0, U 0, IZ (-1), I 0], h581⟩
theorem m294_run : ranTo (evCall (cxX Tryz.prog bad [] [] [(172, isFn 325)]) 1000 60 10 m294.args m294.h) m294.v m294.h' = true := by kernel_rfl
theorem m294_ok {σ : Nat → Int} {W0 : World} (hL : L0 W0) : MemoOk Tryz.prog 1023 σ W0 10 m294 := memo_ok fit (Known2.nil σ) (FnsOk.cons (ext_is hL) (FnsOk.nil)) m294_run
noncomputable def h582 : H := hUpd h581 1947 [] [] []
noncomputable def h583 : H := hUpc h543 1948 [] [] [] [(68, 0, 8, I 38)]
noncomputable def m295 : Memo := ⟨[.ptr 68 0, I 37], h582, .agg [IZ (-1), I 0, I 0, U 0, I 0, U 0, IZ (-1), I 0], h583⟩
theorem m295_run : ranTo (evCall (cxX Tryz.prog bad [] [] [(172, isFn 325)]) 1000 60 10 m295.args m295.h) m295.v m295.h' = true := by kernel_rfl
theorem m295_ok {σ : Nat → Int} {W0 : World} (hL : L0 W0) : MemoOk Tryz.prog 1023 σ W0 10 m295 := memo_ok fit (Known2.nil σ) (FnsOk.cons (ext_is hL) (FnsOk.nil)) m295_run
noncomputable def h584 : H := hUpd h583 1949 [] [] []
noncomputable def h585 : H := hUpc h545 1950 [] [] [] [(68, 0, 8, I 39)]
noncomputable def m296 : Memo := ⟨[.ptr 68 0, I 38], h584, .agg [IZ (-1), I 0, I 0, U 0, I 0, U 0, IZ (-1), I 0], h585⟩
theorem m296_run : ranTo (evCall (cxX Tryz.prog bad [] [] [(172, isFn 325)]) 1000 60 10 m296.args m296.h) m296.v m296.h' = true := by kernel_rfl
theorem m296_ok {σ : Nat → Int} {W0 : World} (hL : L0 W0) : MemoOk Tryz.prog 1023 σ W0 10 m296 := memo_ok fit (Known2.nil σ) (FnsOk.cons (ext_is hL) (FnsOk.nil)) m296_run
theorem run7 : lawF Tryz.prog bad [] ((6, numExtE [(0, 30, .var 2), (1, 40, .var 3)]) :: (9, frameFn [m5]) :: (10, frameFn [m45, m84, m122, m159, m195, m230, m264, m265, m266, m267, m268, m269, m270, m271, m272, m273, m274, m275, m276, m277, m278, m279, m280, m281, m282, m283, m284, m285, m286, m287, m288, m289, m290, m291, m292, m293, m294, m295, m296]) :: q0) 1000 60 4 [.int .i64 (.var 0), .int .i64 (.var 1)] [((-9223372036854775808), 9223372036854775807), ((-9223372036854775808), 9223372036854775807), (7, 7), (0, 39)] (peels 39 3) (sentH 325 10 errTab) = true := by kernel_rfl
theorem case7 {σ : Nat → Int} {W : World} (hL : L0 W) (hk : Known2 σ [((-9223372036854775808), 9223372036854775807), ((-9223372036854775808), 9223372036854775807), (7, 7), (0, 39)] []) (hT : TabOk Tryz.prog bad 6 σ [(0, 30, .var 2), (1, 40, .var 3)]) {xs : Array Value} (hv : ∀ ρ, VRs σ ρ [.int .i64 (.var 0), .int .i64 (.var 1)] xs.toList) : Calls Tryz.prog 4 xs W fun e w' => e = .returned (.bool true) ∧ Below W.heap.size W w' := by
  obtain ⟨ads, h1, h2, h3⟩ := errs_sents hL
  exact law_case_f fit h1 h2 h3 errs_all errs_lt (by kernel_rfl) hk (FnsOk.cons (hT.ok fit) (FnsOk.cons (frame_fn_ok (all_cons (m5_ok hL (hk.relax (r' := [((-9223372036854775808), 9223372036854775807), ((-9223372036854775808), 9223372036854775807), (0, 29), (0, 39)]) (by kernel_rfl))) (all_nil))) (FnsOk.cons (frame_fn_ok (all_cons (m45_ok hL (hk.relax (r' := [((-9223372036854775808), 9223372036854775807), ((-9223372036854775808), 9223372036854775807), (1, 29), (0, 39)]) (by kernel_rfl))) (all_cons (m84_ok hL (hk.relax (r' := [((-9223372036854775808), 9223372036854775807), ((-9223372036854775808), 9223372036854775807), (2, 29), (0, 39)]) (by kernel_rfl))) (all_cons (m122_ok hL (hk.relax (r' := [((-9223372036854775808), 9223372036854775807), ((-9223372036854775808), 9223372036854775807), (3, 29), (0, 39)]) (by kernel_rfl))) (all_cons (m159_ok hL (hk.relax (r' := [((-9223372036854775808), 9223372036854775807), ((-9223372036854775808), 9223372036854775807), (4, 29), (0, 39)]) (by kernel_rfl))) (all_cons (m195_ok hL (hk.relax (r' := [((-9223372036854775808), 9223372036854775807), ((-9223372036854775808), 9223372036854775807), (5, 29), (0, 39)]) (by kernel_rfl))) (all_cons (m230_ok hL (hk.relax (r' := [((-9223372036854775808), 9223372036854775807), ((-9223372036854775808), 9223372036854775807), (6, 29), (0, 39)]) (by kernel_rfl))) (all_cons (m264_ok hL (hk.relax (r' := [((-9223372036854775808), 9223372036854775807), ((-9223372036854775808), 9223372036854775807), (7, 29), (0, 39)]) (by kernel_rfl))) (all_cons (m265_ok hL hk) (all_cons (m266_ok hL) (all_cons (m267_ok hL) (all_cons (m268_ok hL) (all_cons (m269_ok hL) (all_cons (m270_ok hL) (all_cons (m271_ok hL) (all_cons (m272_ok hL) (all_cons (m273_ok hL) (all_cons (m274_ok hL) (all_cons (m275_ok hL) (all_cons (m276_ok hL) (all_cons (m277_ok hL) (all_cons (m278_ok hL) (all_cons (m279_ok hL) (all_cons (m280_ok hL) (all_cons (m281_ok hL) (all_cons (m282_ok hL) (all_cons (m283_ok hL) (all_cons (m284_ok hL) (all_cons (m285_ok hL) (all_cons (m286_ok hL) (all_cons (m287_ok hL) (all_cons (m288_ok hL) (all_cons (m289_ok hL) (all_cons (m290_ok hL) (all_cons (m291_ok hL) (all_cons (m292_ok hL) (all_cons (m293_ok hL) (all_cons (m294_ok hL) (all_cons (m295_ok hL) (all_cons (m296_ok hL) (all_nil))))))))))))))))))))))))))))))))))))))))) ((q0_ok hL))))) hv run7
noncomputable def h586 : H := hUpc h546 1770 [] [(34, .cells 107 ((rp 8 (U 0) ((U 1) :: (I 3) :: rp 5 (I 0) ((U 0) :: rp 4 (I 0) ((U 0) :: rp 4 (I 0) ((U 0) :: rp 4 (I 0) ((U 0) :: rp 4 (I 0) ((U 0) :: rp 4 (I 0) ((U 0) :: rp 4 (I 0) ((U 0) :: rp 4 (I 0) ((U 0) :: rp 4 (I 0) ((U 0) :: rp 4 (I 0) ((U 0) :: rp 4 (I 0) ((U 0) :: rp 4 (I 0) ((U 0) :: rp 4 (I 0) ((U 0) :: rp 4 (I 0) ((U 0) :: rp 4 (I 0) ((U 0) :: rp 4 (I 0) ((U 0) :: (I 3) :: (I 0) :: (I 0) :: (I 0) :: (U 0) :: (I 7) :: (I 0) :: (I 0) :: (I 0) :: (U 0) :: rp 4 (I 0) ([U 0, I 0]))))))))))))))))))) :: rp 5 (rp 9 (U 0) (rp 6 (I 0) ((U 0) :: rp 4 (I 0) ((U 0) :: rp 4 (I 0) ((U 0) :: rp 4 (I 0) ((U 0) :: rp 4 (I 0) ((U 0) :: rp 4 (I 0) ((U 0) :: rp 4 (I 0) ((U 0) :: rp 4 (I 0) ((U 0) :: rp 4 (I 0) ((U 0) :: rp 4 (I 0) ((U 0) :: rp 4 (I 0) ((U 0) :: rp 4 (I 0) ((U 0) :: rp 4 (I 0) ((U 0) :: rp 4 (I 0) ((U 0) :: rp 4 (I 0) ((U 0) :: rp 4 (I 0) ((U 0) :: rp 4 (I 0) ((U 0) :: rp 4 (I 0) ((U 0) :: rp 4 (I 0) ([U 0, I 0]))))))))))))))))))))) ([])) false),
  (56, .cells 2 ([IZ (-1), .int .i64 (.sub (.var 2) (.lit 7))] :: rp 7 ([I 0, I 0]) ([])) false),
  (27, .cells 32 (((U 201326592) :: (U 67108864) :: rp 30 (U 0) ([])) :: rp 11 (rp 32 (U 0) ([])) ([])) false)] [(67, 0, [.slice 365 0 1 1 1 false])] [(68, 0, 8, I 7)]
noncomputable def h587 : H := hUpc h586 1939 [] [] [(30, 0, [I 16, .slice 663 0 1 1 10 false, I 7]),
  (56, 0, [IZ (-1), .int .i64 (.sub (.var 2) (.lit 8))])] [(34, 0, 8, U 0), (68, 0, 8, I 8)]
noncomputable def m297 : Memo := ⟨[.ptr 68 0, I 7], h586, .agg [I 0, I 1, I 0, U 0, I 0, U 0, IZ (-1), I 0], h587⟩
theorem m297_run : ranTo (evCall (cxX Tryz.prog bad [((-9223372036854775808), 9223372036854775807), ((-9223372036854775808), 9223372036854775807), (8, 29), (0, 39)] [] [(51, pureFn [p4, p2, p3]), (172, isFn 325)]) 1000 60 10 m297.args m297.h) m297.v m297.h' = true := by kernel_rfl
theorem m297_ok {σ : Nat → Int} {W0 : World} (hL : L0 W0) (hk : Known2 σ [((-9223372036854775808), 9223372036854775807), ((-9223372036854775808), 9223372036854775807), (8, 29), (0, 39)] []) : MemoOk Tryz.prog 1023 σ W0 10 m297 := memo_ok fit hk (FnsOk.cons (pure_fn_ok (all_cons (p4_ok hL) (all_cons (p2_ok hL) (all_cons (p3_ok hL) (all_nil))))) (FnsOk.cons (ext_is hL) (FnsOk.nil))) m297_run
noncomputable def h588 : H := hUpd h587 1940 [27] [] []
noncomputable def h589 : H := hUpc h588 2058 [] [] [(67, 0, [.slice 365 0 0 1 1 false])] [(34, 0, 9, I 4), (34, 0, 10, I 6), (68, 0, 8, I 9)]
noncomputable def m298 : Memo := ⟨[.ptr 68 0, I 8], h588, .agg [I 0, I 5, I 0, U 0, I 0, U 0, IZ (-1), I 6], h589⟩
theorem m298_run : ranTo (evCall (cxX Tryz.prog bad [((-9223372036854775808), 9223372036854775807), ((-9223372036854775808), 9223372036854775807), (8, 8), (0, 39)] [] [(51, pureFn [p4, p2, p3]), (172, isFn 325)]) 1000 60 10 m298.args m298.h) m298.v m298.h' = true := by kernel_rfl
theorem m298_ok {σ : Nat → Int} {W0 : World} (hL : L0 W0) (hk : Known2 σ [((-9223372036854775808), 9223372036854775807), ((-9223372036854775808), 9223372036854775807), (8, 8), (0, 39)] []) : MemoOk Tryz.prog 1023 σ W0 10 m298 := memo_ok fit hk (FnsOk.cons (pure_fn_ok (all_cons (p4_ok hL) (all_cons (p2_ok hL) (all_cons (p3_ok hL) (all_nil))))) (FnsOk.cons (ext_is hL) (FnsOk.nil))) m298_run
noncomputable def h590 : H := hUpd h589 2059 [34, 56] [] []
noncomputable def h591 : H := hUpc h590 2060 [] [] [] [(68, 0, 8, I 10)]
noncomputable def m299 : Memo := ⟨[.ptr 68 0, I 9], h590, .agg [IZ (-1), I 0, I 0, U 0, I 0, U 0, IZ (-1), I 0], h591⟩
theorem m299_run : ranTo (evCall (cxX Tryz.prog bad [] [] [(172, isFn 325)]) 1000 60 10 m299.args m299.h) m299.v m299.h' = true := by kernel_rfl
theorem m299_ok {σ : Nat → Int} {W0 : World} (hL : L0 W0) : MemoOk Tryz.prog 1023 σ W0 10 m299 := memo_ok fit (Known2.nil σ) (FnsOk.cons (ext_is hL) (FnsOk.nil)) m299_run
noncomputable def h592 : H := hUpd h591 2061 [] [] []
noncomputable def h593 : H := hUpc h590 2062 [] [] [] [(68, 0, 8, I 11)]
noncomputable def m300 : Memo := ⟨[.ptr 68 0, I 10], h592, .agg [IZ (-1), I 0, I 0, U 0, I 0, U 0, IZ (-1), I 0], h593⟩
theorem m300_run : ranTo (evCall (cxX Tryz.prog bad [] [] [(172, isFn 325)]) 1000 60 10 m300.args m300.h) m300.v m300.h' = true := by kernel_rfl
theorem m300_ok {σ : Nat → Int} {W0 : World} (hL : L0 W0) : MemoOk Tryz.prog 1023 σ W0 10 m300 := memo_ok fit (Known2.nil σ) (FnsOk.cons (ext_is hL) (FnsOk.nil)) m300_run
noncomputable def h594 : H := hUpd h593 2063 [] [] []
noncomputable def h595 : H := hUpc h590 2064 [] [] [] [(68, 0, 8, I 12)]
noncomputable def m301 : Memo := ⟨[.ptr 68 0, I 11], h594, .agg [IZ (-1), I 0, I 0, U 0, I 0, U 0, IZ (-1), I 0], h595⟩
theorem m301_run : ranTo (evCall (cxX Tryz.prog bad [] [] [(172, isFn 325)]) 1000 60 10 m301.args m301.h) m301.v m301.h' = true := by kernel_rfl
theorem m301_ok {σ : Nat → Int} {W0 : World} (hL : L0 W0) : MemoOk Tryz.prog 1023 σ W0 10 m301 := memo_ok fit (Known2.nil σ) (FnsOk.cons (ext_is hL) (FnsOk.nil)) m301_run
noncomputable def h596 : H := hUpd h595 2065 [] [] []
noncomputable def h597 : H := hUpc h590 2066 [] [] [] [(68, 0, 8, I 13)]
noncomputable def m302 : Memo := ⟨[.ptr 68 0, I 12], h596, .agg [IZ (-1), I 0, I 0, U 0, I 0, U 0, IZ (-1), I 0], h597⟩
theorem m302_run : ranTo (evCall (cxX Tryz.prog bad [] [] [(172, isFn 325)]) 1000 60 10 m302.args m302.h) m302.v m302.h' = true := by kernel_rfl
theorem m302_ok {σ : Nat → Int} {W0 : World} (hL : L0 W0) : MemoOk Tryz.prog 1023 σ W0 10 m302 := memo_ok fit (Known2.nil σ) (FnsOk.cons (ext_is hL) (FnsOk.nil)) m302_run
noncomputable def h598 : H := hUpd h597 2067 [] [] []
noncomputable def h599 : H := hUpc h590 2068 [] [] [] [(68, 0, 8, I 14)]
noncomputable def m303 : Memo := ⟨[.ptr 68 0, I 13], h598, .agg [IZ (-1), I 0, I 0, U 0, I 0, U 0, IZ (-1), I 0], h599⟩
theorem m303_run : ranTo (evCall (cxX Tryz.prog bad [] [] [(172, isFn 325)]) 1000 60 10 m303.args m303.h) m303.v m303.h' = true := by kernel_rfl
theorem m303_ok {σ : Nat → Int} {W0 : World} (hL : L0 W0) : MemoOk Tryz.prog 1023 σ W0 10 m303 := memo_ok fit (Known2.nil σ) (FnsOk.cons (ext_is hL) (FnsOk.nil)) m303_run
noncomputable def h600 : H := hUpd h599 2069 [] [] []
noncomputable def h601 : H := hUpc h590 2070 [] [] [] [(68, 0, 8, I 15)]
noncomputable def m304 : Memo := ⟨[.ptr 68 0, I 14], h600, .agg [IZ (-1), I 0, I 0, U 0, I 0, U 0, IZ (-1), I 0], h601⟩
theorem m304_run : ranTo (evCall (cxX Tryz.prog bad [] [] [(172, isFn 325)]) 1000 60 10 m304.args m304.h) m304.v m304.h' = true := by kernel_rfl
theorem m304_ok {σ : Nat → Int} {W0 : World} (hL : L0 W0) : MemoOk Tryz.prog 1023 σ W0 10 m304 := memo_ok fit (Known2.nil σ) (FnsOk.cons (ext_is hL) (FnsOk.nil)) m304_run
noncomputable def h602 : H := hUpd h601 2071 [] [] []
noncomputable def h603 : H := hUpc h590 2072 [] [] [] [(68, 0, 8, I 16)]
noncomputable def m305 : Memo := ⟨[.ptr 68 0, I 15], h602, .agg [IZ (-1), I 0, I 0, U 0, I 0, U 0, IZ (-1), I 0], h603⟩
theorem m305_run : ranTo (evCall (cxX Tryz.prog bad [] [] [(172, isFn 325)]) 1000 60 10 m305.args m305.h) m305.v m305.h' = true := by kernel_rfl
theorem m305_ok {σ : Nat → Int} {W0 : World} (hL : L0 W0) : MemoOk Tryz.prog 1023 σ W0 10 m305 := memo_ok fit (Known2.nil σ) (FnsOk.cons (ext_is hL) (FnsOk.nil)) m305_run
noncomputable def h604 : H := hUpd h603 2073 [] [] []
noncomputable def h605 : H := hUpc h590 2074 [] [] [] [(68, 0, 8, I 17)]
noncomputable def m306 : Memo := ⟨[.ptr 68 0, I 16], h604, .agg [IZ (-1), I 0, I 0, U 0, I 0, U 0, IZ (-1), I 0], h605⟩
theorem m306_run : ranTo (evCall (cxX Tryz.prog bad [] [] [(172, isFn 325)]) 1000 60 10 m306.args m306.h) m306.v m306.h' = true := by kernel_rfl
theorem m306_ok {σ : Nat → Int} {W0 : World} (hL : L0 W0) : MemoOk Tryz.prog 1023 σ W0 10 m306 := memo_ok fit (Known2.nil σ) (FnsOk.cons (ext_is hL) (FnsOk.nil)) m306_run
noncomputable def h606 : H := hUpd h605 2075 [] [] []
noncomputable def h607 : H := hUpc h590 2076 [] [] [] [(68, 0, 8, I 18)]
noncomputable def m307 : Memo := ⟨[.ptr 68 0, I 17], h606, .agg [IZ (-1), I 0, I 0, U 0, I 0, U 0, IZ (-1), I 0], h607⟩
theorem m307_run : ranTo (evCall (cxX Tryz.prog bad [] [] [(172, isFn 325)]) 1000 60 10 m307.args m307.h) m307.v m307.h' = true := by kernel_rfl
theorem m307_ok {σ : Nat → Int} {W0 : World} (hL : L0 W0) : MemoOk Tryz.prog 1023 σ W0 10 m307 := memo_ok fit (Known2.nil σ) (FnsOk.cons (ext_is hL) (FnsOk.nil)) m307_run
noncomputable def h608 : H := hUpd h607 2077 [] [] []
noncomputable def h609 : H := hUpc h590 2078 [] [] [] [(68, 0, 8, I 19)]
noncomputable def m308 : Memo := ⟨[.ptr 68 0, I 18], h608, .agg [IZ (-1), I 0, I 0, U 0, I 0, U 0, IZ (-1), I 0], h609⟩
theorem m308_run : ranTo (evCall (cxX Tryz.prog bad [] [] [(172, isFn 325)]) 1000 60 10 m308.args m308.h) m308.v m308.h' = true := by kernel_rfl
theorem m308_ok {σ : Nat → Int} {W0 : World} (hL : L0 W0) : MemoOk Tryz.prog 1023 σ W0 10 m308 := memo_ok fit (Known2.nil σ) (FnsOk.cons (ext_is hL) (FnsOk.nil)) m308_run
noncomputable def h610 : H := hUpd h609 2079 [] [] []
noncomputable def h611 : H := hUpc h590 2080 [] [] [] [(68, 0, 8, I 20)]
noncomputable def m309 : Memo := ⟨[.ptr 68 0, I 19], h610, .agg [IZ (-1), I 0, I 0, U 0, I 0, U 0, IZ (-1), I 0], h611⟩
theorem m309_run : ranTo (evCall (cxX Tryz.prog bad [] [] [(172, isFn 325)]) 1000 60 10 m309.args m309.h) m309.v m309.h' = true := by kernel_rfl
theorem m309_ok {σ : Nat → Int} {W0 : World} (hL : L0 W0) : MemoOk Tryz.prog 1023 σ W0 10 m309 := memo_ok fit (Known2.nil σ) (FnsOk.cons (ext_is hL) (FnsOk.nil)) m309_run
noncomputable def h612 : H := hUpd h611 2081 [] [] []
noncomputable def h613 : H := hUpc h590 2082 [] [] [] [(68, 0, 8, I 21)]
noncomputable def m310 : Memo := ⟨[.ptr 68 0, I 20], h612, .agg [IZ (-1), I 0, I 0, U 0, I 0, U 0, IZ (-1), I 0], h613⟩
theorem m310_run : ranTo (evCall (cxX Tryz.prog bad [] [] [(172, isFn 325)]) 1000 60 10 m310.args m310.h) m310.v m310.h' = true := by kernel_rfl
theorem m310_ok {σ : Nat → Int} {W0 : World} (hL : L0 W0) : MemoOk Tryz.prog 1023 σ W0 10 m310 := memo_ok fit (Known2.nil σ) (FnsOk.cons (ext_is hL) (FnsOk.nil)) m310_run
noncomputable def h614 : H := hUpd h613 2083 [] [] []
noncomputable def h615 : H := hUpc h590 2084 [] [] [] [(68, 0, 8, I 22)]
noncomputable def m311 : Memo := ⟨[.ptr 68 0, I 21], h614, .agg [IZ (-1), I 0, I 0, U 0, I 0, U 0, IZ (-1), I 0], h615⟩
theorem m311_run : ranTo (evCall (cxX Tryz.prog bad [] [] [(172, isFn 325)]) 1000 60 10 m311.args m311.h) m311.v m311.h' = true := by kernel_rfl
theorem m311_ok {σ : Nat → Int} {W0 : World} (hL : L0 W0) : MemoOk Tryz.prog 1023 σ W0 10 m311 := memo_ok fit (Known2.nil σ) (FnsOk.cons (ext_is hL) (FnsOk.nil)) m311_run
noncomputable def h616 : H := hUpd h615 2085 [] [] []
noncomputable def h617 : H := hUpc h590 2086 [] [] [] [(68, 0, 8, I 23)]
noncomputable def m312 : Memo := ⟨[.ptr 68 0, I 22], h616, .agg [IZ (-1), I 0, I 0, U 0, I 0, U 0, IZ (-1), I 0], h617⟩
theorem m312_run : ranTo (evCall (cxX Tryz.prog bad [] [] [(172, isFn 325)]) 1000 60 10 m312.args m312.h) m312.v m312.h' = true := by kernel_rfl
theorem m312_ok {σ : Nat → Int} {W0 : World} (hL : L0 W0) : MemoOk Tryz.prog 1023 σ W0 10 m312 := memo_ok fit (Known2.nil σ) (FnsOk.cons (ext_is hL) (FnsOk.nil)) m312_run
noncomputable def h618 : H := hUpd h617 2087 [] [] []
noncomputable def h619 : H := hUpc h590 2088 [] [] [] [(68, 0, 8, I 24)]
noncomputable def m313 : Memo := ⟨[.ptr 68 0, I 23], h618, .agg [IZ (-1), I 0, I 0, U 0, I 0, U 0, IZ (-1), I 0], h619⟩
theorem m313_run : ranTo (evCall (cxX Tryz.prog bad [] [] [(172, isFn 325)]) 1000 60 10 m313.args m313.h) m313.v m313.h' = true := by kernel_rfl
theorem m313_ok {σ : Nat → Int} {W0 : World} (hL : L0 W0) : MemoOk Tryz.prog 1023 σ W0 10 m313 := memo_ok fit (Known2.nil σ) (FnsOk.cons (ext_is hL) (FnsOk.nil)) m313_run
noncomputable def h620 : H := hUpd h619 2089 [] [] []
noncomputable def h621 : H := hUpc h590 2090 [] [] [] [(68, 0, 8, I 25)]
noncomputable def m314 : Memo := ⟨[.ptr 68 0, I 24], h620, .agg [IZ (-1), I 0, I 0, U 0, I 0, U 0, IZ (-1), I 0], h621⟩
theorem m314_run : ranTo (evCall (cxX Tryz.prog bad [] [] [(172, isFn 325)]) 1000 60 10 m314.args m314.h) m314.v m314.h' = true := by kernel_rfl
theorem m314_ok {σ : Nat → Int} {W0 : World} (hL : L0 W0) : MemoOk Tryz.prog 1023 σ W0 10 m314 := memo_ok fit (Known2.nil σ) (FnsOk.cons (ext_is hL) (FnsOk.nil)) m314_run
noncomputable def h622 : H := hUpd h621 2091 [] [] []
noncomputable def h623 : H := hUpc h590 2092 [] [] [] [(68, 0, 8, I 26)]
noncomputable def m315 : Memo := ⟨[.ptr 68 0, I 25], h622, .agg [IZ (-1), I 0, I 0, U 0, I 0, U 0, IZ (-1), I 0], h623⟩
theorem m315_run : ranTo (evCall (cxX Tryz.prog bad [] [] [(172, isFn 325)]) 1000 60 10 m315.args m315.h) m315.v m315.h' = true := by kernel_rfl
theorem m315_ok {σ : Nat → Int} {W0 : World} (hL : L0 W0) : MemoOk Tryz.prog 1023 σ W0 10 m315 := memo_ok fit (Known2.nil σ) (FnsOk.cons (ext_is hL) (FnsOk.nil)) m315_run
noncomputable def h624 : H := hUpd h623 2093 [] [] []
noncomputable def h625 : H := hUpc h590 2094 [] [] [] [(68, 0, 8, I 27)]
noncomputable def m316 : Memo := ⟨[.ptr 68 0, I 26], h624, .agg [IZ (-1), I 0, I 0, U 0, I 0, U 0, IZ (-1), I 0], h625⟩
theorem m316_run : ranTo (evCall (cxX Tryz.prog bad [] [] [(172, isFn 325)]) 1000 60 10 m316.args m316.h) m316.v m316.h' = true := by kernel_rfl
theorem m316_ok {σ : Nat → Int} {W0 : World} (hL : L0 W0) : MemoOk Tryz.prog 1023 σ W0 10 m316 := memo_ok fit (Known2.nil σ) (FnsOk.cons (ext_is hL) (FnsOk.nil)) m316_run
noncomputable def h626 : H := hUpd h625 2095 [] [] []
noncomputable def h627 : H := hUpc h590 2096 [] [] [] [(68, 0, 8, I 28)]
noncomputable def m317 : Memo := ⟨[.ptr 68 0, I 27], h626, .agg [IZ (-1), I 0, I 0, U 0, I 0, U 0, IZ (-1), I 0], h627⟩
theorem m317_run : ranTo (evCall (cxX Tryz.prog bad [] [] [(172, isFn 325)]) 1000 60 10 m317.args m317.h) m317.v m317.h' = true := by kernel_rfl
theorem m317_ok {σ : Nat → Int} {W0 : World} (hL : L0 W0) : MemoOk Tryz.prog 1023 σ W0 10 m317 := memo_ok fit (Known2.nil σ) (FnsOk.cons (ext_is hL) (FnsOk.nil)) m317_run
noncomputable def h628 : H := hUpd h627 2097 [] [] []
noncomputable def h629 : H := hUpc h590 2098 [] [] [] [(68, 0, 8, I 29)]
noncomputable def m318 : Memo := ⟨[.ptr 68 0, I 28], h628, .agg [IZ (-1), I 0, I 0, U 0, I 0, U 0, IZ (-1), I 0], h629⟩
theorem m318_run : ranTo (evCall (cxX Tryz.prog bad [] [] [(172, isFn 325)]) 1000 60 10 m318.args m318.h) m318.v m318.h' = true := by kernel_rfl
theorem m318_ok {σ : Nat → Int} {W0 : World} (hL : L0 W0) : MemoOk Tryz.prog 1023 σ W0 10 m318 := memo_ok fit (Known2.nil σ) (FnsOk.cons (ext_is hL) (FnsOk.nil)) m318_run
noncomputable def h630 : H := hUpd h629 2099 [] [] []
noncomputable def h631 : H := hUpc h591 2100 [] [] [] [(68, 0, 8, I 30)]
noncomputable def m319 : Memo := ⟨[.ptr 68 0, I 29], h630, .agg [IZ (-1), I 0, I 0, U 0, I 0, U 0, IZ (-1), I 0], h631⟩
theorem m319_run : ranTo (evCall (cxX Tryz.prog bad [] [] [(172, isFn 325)]) 1000 60 10 m319.args m319.h) m319.v m319.h' = true := by kernel_rfl
theorem m319_ok {σ : Nat → Int} {W0 : World} (hL : L0 W0) : MemoOk Tryz.prog 1023 σ W0 10 m319 := memo_ok fit (Known2.nil σ) (FnsOk.cons (ext_is hL) (FnsOk.nil)) m319_run
noncomputable def h632 : H := hUpd h631 2101 [] [] []
noncomputable def h633 : H := hUpc h593 2102 [] [] [] [(68, 0, 8, I 31)]
noncomputable def m320 : Memo := ⟨[.ptr 68 0, I 30], h632, .agg [IZ (-1), I 0, I 0, U 0, I 0, U 0, IZ (-1), I 0], h633⟩
theorem m320_run : ranTo (evCall (cxX Tryz.prog bad [] [] [(172, isFn 325)]) 1000 60 10 m320.args m320.h) m320.v m320.h' = true := by kernel_rfl
theorem m320_ok {σ : Nat → Int} {W0 : World} (hL : L0 W0) : MemoOk Tryz.prog 1023 σ W0 10 m320 := memo_ok fit (Known2.nil σ) (FnsOk.cons (ext_is hL) (FnsOk.nil)) m320_run
noncomputable def h634 : H := hUpd h633 2103 [] [] []
noncomputable def h635 : H := hUpc h595 2104 [] [] [] [(68, 0, 8, I 32)]
noncomputable def m321 : Memo := ⟨[.ptr 68 0, I 31], h634, .agg [IZ (-1), I 0, I 0, U 0, I 0, U 0, IZ (-1), I 0], h635⟩
theorem m321_run : ranTo (evCall (cxX Tryz.prog bad [] [] [(172, isFn 325)]) 1000 60 10 m321.args m321.h) m321.v m321.h' = true := by kernel_rfl
theorem m321_ok {σ : Nat → Int} {W0 : World} (hL : L0 W0) : MemoOk Tryz.prog 1023 σ W0 10 m321 := memo_ok fit (Known2.nil σ) (FnsOk.cons (ext_is hL) (FnsOk.nil)) m321_run
noncomputable def h636 : H := hUpd h635 2105 [] [] []
noncomputable def h637 : H := hUpc h597 2106 [] [] [] [(68, 0, 8, I 33)]
noncomputable def m322 : Memo := ⟨[.ptr 68 0, I 32], h636, .agg [IZ (-1), I 0, I 0, U 0, I 0, U 0, IZ (-1), I 0], h637⟩
theorem m322_run : ranTo (evCall (cxX Tryz.prog bad [] [] [(172, isFn 325)]) 1000 60 10 m322.args m322.h) m322.v m322.h' = true := by kernel_rfl
theorem m322_ok {σ : Nat → Int} {W0 : World} (hL : L0 W0) : MemoOk Tryz.prog 1023 σ W0 10 m322 := memo_ok fit (Known2.nil σ) (FnsOk.cons (ext_is hL) (FnsOk.nil)) m322_run
noncomputable def h638 : H := hUpd h637 2107 [] [] []
noncomputable def h639 : H := hUpc h599 2108 [] [] [] [(68, 0, 8, I 34)]
noncomputable def m323 : Memo := ⟨[.ptr 68 0, I 33], h638, .agg [IZ (-1), I 0, I 0, U 0, I 0, U 0, IZ (-1), I 0], h639⟩
theorem m323_run : ranTo (evCall (cxX Tryz.prog bad [] [] [(172, isFn 325)]) 1000 60 10 m323.args m323.h) m323.v m323.h' = true := by kernel_rfl
theorem m323_ok {σ : Nat → Int} {W0 : World} (hL : L0 W0) : MemoOk Tryz.prog 1023 σ W0 10 m323 := memo_ok fit (Known2.nil σ) (FnsOk.cons (ext_is hL) (FnsOk.nil)) m323_run
noncomputable def h640 : H := hUpd h639 2109 [] [] []
noncomputable def h641 : H := hUpc h601 2110 [] [] [] [(68, 0, 8, I 35)]
noncomputable def m324 : Memo := ⟨[.ptr 68 0, I 34], h640, .agg [IZ (-1), I 0, I 0, U 0, I 0, U 0, IZ (-1), I 0], h641⟩
theorem m324_run : ranTo (evCall (cxX Tryz.prog bad [] [] [(172, isFn 325)]) 1000 60 10 m324.args m324.h) m324.v m324.h' = true := by kernel_rfl
theorem m324_ok {σ : Nat → Int} {W0 : World} (hL : L0 W0) : MemoOk Tryz.prog 1023 σ W0 10 m324 := memo_ok fit (Known2.nil σ) (FnsOk.cons (ext_is hL) (FnsOk.nil)) m324_run
noncomputable def h642 : H := hUpd h641 2111 [] [] []
noncomputable def h643 : H := hUpc h603 2112 [] [] [] [(68, 0, 8, I 36)]
noncomputable def m325 : Memo := ⟨[.ptr 68 0, I 35], h642, .agg [IZ (-1), I 0, I 0, U 0, I 0, U 0, IZ (-1), I 0], h643⟩
theorem m325_run : ranTo (evCall (cxX Tryz.prog bad [] [] [(172, isFn 325)]) 1000 60 10 m325.args m325.h) m325.v m325.h' = true := by kernel_rfl
theorem m325_ok {σ : Nat → Int} {W0 : World} (hL : L0 W0) : MemoOk Tryz.prog 1023 σ W0 10 m325 := memo_ok fit (Known2.nil σ) (FnsOk.cons (ext_is hL) (FnsOk.nil)) m325_run
noncomputable def h644 : H := hUpd h643 2113 [] [] []
noncomputable def h645 : H := hUpc h605 2114 [] [] [] [(68, 0, 8, I 37)]
noncomputable def m326 : Memo := ⟨[.ptr 68 0, I 36], h644, .agg [IZ (-1), I 0, I 0, U 0, I 0, U 0, IZ (-1), I 0], h645⟩
theorem m326_run : ranTo (evCall (cxX Tryz.prog bad [] [] [(172, isFn 325)]) 1000 60 10 m326.args m326.h) m326.v m326.h' = true := by kernel_rfl
theorem m326_ok {σ : Nat → Int} {W0 : World} (hL : L0 W0) : MemoOk Tryz.prog 1023 σ W0 10 m326 := memo_ok fit (Known2.nil σ) (FnsOk.cons (ext_is hL) (FnsOk.nil)) m326_run
noncomputable def h646 : H := hUpd h645 2115 [] [] []
noncomputable def h647 : H := hUpc h607 2116 [] [] [] [(68, 0, 8, I 38)]
noncomputable def m327 : Memo := ⟨[.ptr 68 0, I 37], h646, .agg [IZ (-1), I 0, I 0, U 0, I 0, U 0, IZ (-1), I 0], h647⟩
theorem m327_run : ranTo (evCall (cxX Tryz.prog bad [] [] [(172, isFn 325)]) 1000 60 10 m327.args m327.h) m327.v m327.h' = true := by kernel_rfl
theorem m327_ok {σ : Nat → Int} {W0 : World} (hL : L0 W0) : MemoOk Tryz.prog 1023 σ W0 10 m327 := memo_ok fit (Known2.nil σ) (FnsOk.cons (ext_is hL) (FnsOk.nil)) m327_run
noncomputable def h648 : H := hUpd h647 2117 [] [] []
noncomputable def h649 : H := hUpc h609 2118 [] [] [] [(68, 0, 8, I 39)]
noncomputable def m328 : Memo := ⟨[.ptr 68 0, I 38], h648, .agg [IZ (-1), I 0, I 0, U 0, I 0, U 0, IZ (-1), I 0], h649⟩
theorem m328_run : ranTo (evCall (cxX Tryz.prog bad [] [] [(172, isFn 325)]) 1000 60 10 m328.args m328.h) m328.v m328.h' = true := by kernel_rfl
theorem m328_ok {σ : Nat → Int} {W0 : World} (hL : L0 W0) : MemoOk Tryz.prog 1023 σ W0 10 m328 := memo_ok fit (Known2.nil σ) (FnsOk.cons (ext_is hL) (FnsOk.nil)) m328_run
theorem run8 : lawF Tryz.prog bad [] ((6, numExtE [(0, 30, .var 2), (1, 40, .var 3)]) :: (9, frameFn [m5]) :: (10, frameFn [m45, m84, m122, m159, m195, m230, m264, m297, m298, m299, m300, m301, m302, m303, m304, m305, m306, m307, m308, m309, m310, m311, m312, m313, m314, m315, m316, m317, m318, m319, m320, m321, m322, m323, m324, m325, m326, m327, m328]) :: q0) 1000 60 4 [.int .i64 (.var 0), .int .i64 (.var 1)] [((-9223372036854775808), 9223372036854775807), ((-9223372036854775808), 9223372036854775807), (8, 8), (0, 39)] (peels 39 3) (sentH 325 10 errTab) = true := by kernel_rfl
theorem case8 {σ : Nat → Int} {W : World} (hL : L0 W) (hk : Known2 σ [((-9223372036854775808), 9223372036854775807), ((-9223372036854775808), 9223372036854775807), (8, 8), (0, 39)] []) (hT : TabOk Tryz.prog bad 6 σ [(0, 30, .var 2), (1, 40, .var 3)]) {xs : Array Value} (hv : ∀ ρ, VRs σ ρ [.int .i64 (.var 0), .int .i64 (.var 1)] xs.toList) : Calls Tryz.prog 4 xs W fun e w' => e = .returned (.bool true) ∧ Below W.heap.size W w' := by
  obtain ⟨ads, h1, h2, h3⟩ := errs_sents hL
  exact law_case_f fit h1 h2 h3 errs_all errs_lt (by kernel_rfl) hk (FnsOk.cons (hT.ok fit) (FnsOk.cons (frame_fn_ok (all_cons (m5_ok hL (hk.relax (r' := [((-9223372036854775808), 9223372036854775807), ((-9223372036854775808), 9223372036854775807), (0, 29), (0, 39)]) (by kernel_rfl))) (all_nil))) (FnsOk.cons (frame_fn_ok (all_cons (m45_ok hL (hk.relax (r' := [((-9223372036854775808), 9223372036854775807), ((-9223372036854775808), 9223372036854775807), (1, 29), (0, 39)]) (by kernel_rfl))) (all_cons (m84_ok hL (hk.relax (r' := [((-9223372036854775808), 9223372036854775807), ((-9223372036854775808), 9223372036854775807), (2, 29), (0, 39)]) (by kernel_rfl))) (all_cons (m122_ok hL (hk.relax (r' := [((-9223372036854775808), 9223372036854775807), ((-9223372036854775808), 9223372036854775807), (3, 29), (0, 39)]) (by kernel_rfl))) (all_cons (m159_ok hL (hk.relax (r' := [((-9223372036854775808), 9223372036854775807), ((-9223372036854775808), 9223372036854775807), (4, 29), (0, 39)]) (by kernel_rfl))) (all_cons (m195_ok hL (hk.relax (r' := [((-9223372036854775808), 9223372036854775807), ((-9223372036854775808), 9223372036854775807), (5, 29), (0, 39)]) (by kernel_rfl))) (all_cons (m230_ok hL (hk.relax (r' := [((-9223372036854775808), 9223372036854775807), ((-9223372036854775808), 9223372036854775807), (6, 29), (0, 39)]) (by kernel_rfl))) (all_cons (m264_ok hL (hk.relax (r' := [((-9223372036854775808), 9223372036854775807), ((-9223372036854775808), 9223372036854775807), (7, 29), (0, 39)]) (by kernel_rfl))) (all_cons (m297_ok hL (hk.relax (r' := [((-9223372036854775808), 9223372036854775807), ((-9223372036854775808), 9223372036854775807), (8, 29), (0, 39)]) (by kernel_rfl))) (all_cons (m298_ok hL hk) (all_cons (m299_ok hL) (all_cons (m300_ok hL) (all_cons (m301_ok hL) (all_cons (m302_ok hL) (all_cons (m303_ok hL) (all_cons (m304_ok hL) (all_cons (m305_ok hL) (all_cons (m306_ok hL) (all_cons (m307_ok hL) (all_cons (m308_ok hL) (all_cons (m309_ok hL) (all_cons (m310_ok hL) (all_cons (m311_ok hL) (all_cons (m312_ok hL) (all_cons (m313_ok hL) (all_cons (m314_ok hL) (all_cons (m315_ok hL) (all_cons (m316_ok hL) (all_cons (m317_ok hL) (all_cons (m318_ok hL) (all_cons (m319_ok hL) (all_cons (m320_ok hL) (all_cons (m321_ok hL) (all_cons (m322_ok hL) (all_cons (m323_ok hL) (all_cons (m324_ok hL) (all_cons (m325_ok hL) (all_cons (m326_ok hL) (all_cons (m327_ok hL) (all_cons (m328_ok hL) (all_nil))))))))))))))))))))))))))))))))))))))))) ((q0_ok hL))))) hv run8
noncomputable def h650 : H := hUpc h610 1940 [] [(34, .cells 107 ((rp 9 (U 0) ((I 3) :: rp 5 (I 0) ((U 0) :: rp 4 (I 0) ((U 0) :: rp 4 (I 0) ((U 0) :: rp 4 (I 0) ((U 0) :: rp 4 (I 0) ((U 0) :: rp 4 (I 0) ((U 0) :: rp 4 (I 0) ((U 0) :: rp 4 (I 0) ((U 0) :: rp 4 (I 0) ((U 0) :: rp 4 (I 0) ((U 0) :: rp 4 (I 0) ((U 0) :: rp 4 (I 0) ((U 0) :: rp 4 (I 0) ((U 0) :: rp 4 (I 0) ((U 0) :: rp 4 (I 0) ((U 0) :: rp 4 (I 0) ((U 0) :: (I 3) :: (I 0) :: (I 0) :: (I 0) :: (U 0) :: (I 7) :: (I 0) :: (I 0) :: (I 0) :: (U 0) :: rp 4 (I 0) ([U 0, I 0]))))))))))))))))))) :: rp 5 (rp 9 (U 0) (rp 6 (I 0) ((U 0) :: rp 4 (I 0) ((U 0) :: rp 4 (I 0) ((U 0) :: rp 4 (I 0) ((U 0) :: rp 4 (I 0) ((U 0) :: rp 4 (I 0) ((U 0) :: rp 4 (I 0) ((U 0) :: rp 4 (I 0) ((U 0) :: rp 4 (I 0) ((U 0) :: rp 4 (I 0) ((U 0) :: rp 4 (I 0) ((U 0) :: rp 4 (I 0) ((U 0) :: rp 4 (I 0) ((U 0) :: rp 4 (I 0) ((U 0) :: rp 4 (I 0) ((U 0) :: rp 4 (I 0) ((U 0) :: rp 4 (I 0) ((U 0) :: rp 4 (I 0) ((U 0) :: rp 4 (I 0) ([U 0, I 0]))))))))))))))))))))) ([])) false),
  (56, .cells 2 ([IZ (-1), .int .i64 (.sub (.var 2) (.lit 8))] :: rp 7 ([I 0, I 0]) ([])) false),
  (27, .cells 32 (((U 201326592) :: (U 67108864) :: rp 30 (U 0) ([])) :: rp 11 (rp 32 (U 0) ([])) ([])) false)] [(67, 0, [.slice 365 0 1 1 1 false])] [(68, 0, 8, I 8)]
noncomputable def h651 : H := hUpc h650 2109 [] [] [(30, 0, [I 16, .slice 663 0 1 1 10 false, I 8]),
  (56, 0, [IZ (-1), .int .i64 (.sub (.var 2) (.lit 9))])] [(34, 0, 8, U 1), (68, 0, 8, I 9)]
noncomputable def m329 : Memo := ⟨[.ptr 68 0, I 8], h650, .agg [I 0, I 3, I 0, U 0, I 0, U 0, IZ (-1), I 0], h651⟩
theorem m329_run : ranTo (evCall (cxX Tryz.prog bad [((-9223372036854775808), 9223372036854775807), ((-9223372036854775808), 9223372036854775807), (9, 29), (0, 39)] [] [(51, pureFn [p4, p2, p3]), (172, isFn 325)]) 1000 60 10 m329.args m329.h) m329.v m329.h' = true := by kernel_rfl
theorem m329_ok {σ : Nat → Int} {W0 : World} (hL : L0 W0) (hk : Known2 σ [((-9223372036854775808), 9223372036854775807), ((-9223372036854775808), 9223372036854775807), (9, 29), (0, 39)] []) : MemoOk Tryz.prog 1023 σ W0 10 m329 := memo_ok fit hk (FnsOk.cons (pure_fn_ok (all_cons (p4_ok hL) (all_cons (p2_ok hL) (all_cons (p3_ok hL) (all_nil))))) (FnsOk.cons (ext_is hL) (FnsOk.nil))) m329_run
noncomputable def h652 : H := hUpd h651 2110 [27] [] []
noncomputable def h653 : H := hUpc h652 2228 [] [] [(67, 0, [.slice 365 0 0 1 1 false])] [(34, 0, 9, I 4), (34, 0, 10, I 6), (68, 0, 8, I 10)]
noncomputable def m330 : Memo := ⟨[.ptr 68 0, I 9], h652, .agg [I 0, I 5, I 0, U 0, I 0, U 0, IZ (-1), I 6], h653⟩
theorem m330_run : ranTo (evCall (cxX Tryz.prog bad [((-9223372036854775808), 9223372036854775807), ((-9223372036854775808), 9223372036854775807), (9, 9), (0, 39)] [] [(51, pureFn [p4, p2, p3]), (172, isFn 325)]) 1000 60 10 m330.args m330.h) m330.v m330.h' = true := by kernel_rfl
theorem m330_ok {σ : Nat → Int} {W0 : World} (hL : L0 W0) (hk : Known2 σ [((-9223372036854775808), 9223372036854775807), ((-9223372036854775808), 9223372036854775807), (9, 9), (0, 39)] []) : MemoOk Tryz.prog 1023 σ W0 10 m330 := memo_ok fit hk (FnsOk.cons (pure_fn_ok (all_cons (p4_ok hL) (all_cons (p2_ok hL) (all_cons (p3_ok hL) (all_nil))))) (FnsOk.cons (ext_is hL) (FnsOk.nil))) m330_run
noncomputable def h654 : H := hUpd h653 2229 [34, 56] [] []
noncomputable def h655 : H := hUpc h654 2230 [] [] [] [(68, 0, 8, I 11)]
noncomputable def m331 : Memo := ⟨[.ptr 68 0, I 10], h654, .agg [IZ (-1), I 0, I 0, U 0, I 0, U 0, IZ (-1), I 0], h655⟩
theorem m331_run : ranTo (evCall (cxX Tryz.prog bad [] [] [(172, isFn 325)]) 1000 60 10 m331.args m331.h) m331.v m331.h' = true := by kernel_rfl
theorem m331_ok {σ : Nat → Int} {W0 : World} (hL : L0 W0) : MemoOk Tryz.prog 1023 σ W0 10 m331 := memo_ok fit (Known2.nil σ) (FnsOk.cons (ext_is hL) (FnsOk.nil)) m331_run
noncomputable def h656 : H := hUpd h655 2231 [] [] []
noncomputable def h657 : H := hUpc h654 2232 [] [] [] [(68, 0, 8, I 12)]
noncomputable def m332 : Memo := ⟨[.ptr 68 0, I 11], h656, .agg [IZ (-1), I 0, I 0, U 0, I 0, U 0, IZ (-1), I 0], h657⟩
theorem m332_run : ranTo (evCall (cxX Tryz.prog bad [] [] [(172, isFn 325)]) 1000 60 10 m332.args m332.h) m332.v m332.h' = true := by kernel_rfl
theorem m332_ok {σ : Nat → Int} {W0 : World} (hL : L0 W0) : MemoOk Tryz.prog 1023 σ W0 10 m332 := memo_ok fit (Known2.nil σ) (FnsOk.cons (ext_is hL) (FnsOk.nil)) m332_run
noncomputable def h658 : H := hUpd h657 2233 [] [] []
noncomputable def h659 : H := hUpc h654 2234 [] [] [] [(68, 0, 8, I 13)]
noncomputable def m333 : Memo := ⟨[.ptr 68 0, I 12], h658, .agg [IZ (-1), I 0, I 0, U 0, I 0, U 0, IZ (-1), I 0], h659⟩
theorem m333_run : ranTo (evCall (cxX Tryz.prog bad [] [] [(172, isFn 325)]) 1000 60 10 m333.args m333.h) m333.v m333.h' = true := by kernel_rfl
theorem m333_ok {σ : Nat → Int} {W0 : World} (hL : L0 W0) : MemoOk Tryz.prog 1023 σ W0 10 m333 := memo_ok fit (Known2.nil σ) (FnsOk.cons (ext_is hL) (FnsOk.nil)) m333_run
noncomputable def h660 : H := hUpd h659 2235 [] [] []
noncomputable def h661 : H := hUpc h654 2236 [] [] [] [(68, 0, 8, I 14)]
noncomputable def m334 : Memo := ⟨[.ptr 68 0, I 13], h660, .agg [IZ (-1), I 0, I 0, U 0, I 0, U 0, IZ (-1), I 0], h661⟩
theorem m334_run : ranTo (evCall (cxX Tryz.prog bad [] [] [(172, isFn 325)]) 1000 60 10 m334.args m334.h) m334.v m334.h' = true := by kernel_rfl
theorem m334_ok {σ : Nat → Int} {W0 : World} (hL : L0 W0) : MemoOk Tryz.prog 1023 σ W0 10 m334 := memo_ok fit (Known2.nil σ) (FnsOk.cons (ext_is hL) (FnsOk.nil)) m334_run
noncomputable def h662 : H := hUpd h661 2237 [] [] []
noncomputable def h663 : H := hUpc h654 2238 [] [] [] [(68, 0, 8, I 15)]
noncomputable def m335 : Memo := ⟨[.ptr 68 0, I 14], h662, .agg [IZ (-1), I 0, I 0, U 0, I 0, U 0, IZ (-1), I 0], h663⟩
theorem m335_run : ranTo (evCall (cxX Tryz.prog bad [] [] [(172, isFn 325)]) 1000 60 10 m335.args m335.h) m335.v m335.h' = true := by kernel_rfl
theorem m335_ok {σ : Nat → Int} {W0 : World} (hL : L0 W0) : MemoOk Tryz.prog 1023 σ W0 10 m335 := memo_ok fit (Known2.nil σ) (FnsOk.cons (ext_is hL) (FnsOk.nil)) m335_run
noncomputable def h664 : H := hUpd h663 2239 [] [] []
noncomputable def h665 : H := hUpc h654 2240 [] [] [] [(68, 0, 8, I 16)]
noncomputable def m336 : Memo := ⟨[.ptr 68 0, I 15], h664, .agg [IZ (-1), I 0, I 0, U 0, I 0, U 0, IZ (-1), I 0], h665⟩
theorem m336_run : ranTo (evCall (cxX Tryz.prog bad [] [] [(172, isFn 325)]) 1000 60 10 m336.args m336.h) m336.v m336.h' = true := by kernel_rfl
theorem m336_ok {σ : Nat → Int} {W0 : World} (hL : L0 W0) : MemoOk Tryz.prog 1023 σ W0 10 m336 := memo_ok fit (Known2.nil σ) (FnsOk.cons (ext_is hL) (FnsOk.nil)) m336_run
noncomputable def h666 : H := hUpd h665 2241 [] [] []
noncomputable def h667 : H := hUpc h654 2242 [] [] [] [(68, 0, 8, I 17)]
noncomputable def m337 : Memo := ⟨[.ptr 68 0, I 16], h666, .agg [IZ (-1), I 0, I 0, U 0, I 0, U 0, IZ (-1), I 0], h667⟩
theorem m337_run : ranTo (evCall (cxX Tryz.prog bad [] [] [(172, isFn 325)]) 1000 60 10 m337.args m337.h) m337.v m337.h' = true := by kernel_rfl
theorem m337_ok {σ : Nat → Int} {W0 : World} (hL : L0 W0) : MemoOk Tryz.prog 1023 σ W0 10 m337 := memo_ok fit (Known2.nil σ) (FnsOk.cons (ext_is hL) (FnsOk.nil)) m337_run
noncomputable def h668 : H := hUpd h667 2243 [] [] []
noncomputable def h669 : H := hUpc h654 2244 [] [] [] [(68, 0, 8, I 18)]
noncomputable def m338 : Memo := ⟨[.ptr 68 0, I 17], h668, .agg [IZ (-1), I 0, I 0, U 0, I 0, U 0, IZ (-1), I 0], h669⟩
theorem m338_run : ranTo (evCall (cxX Tryz.prog bad [] [] [(172, isFn 325)]) 1000 60 10 m338.args m338.h) m338.v m338.h' = true := by kernel_rfl
theorem m338_ok {σ : Nat → Int} {W0 : World} (hL : L0 W0) : MemoOk Tryz.prog 1023 σ W0 10 m338 := memo_ok fit (Known2.nil σ) (FnsOk.cons (ext_is hL) (FnsOk.nil)) m338_run
noncomputable def h670 : H := hUpd h669 2245 [] [] []
noncomputable def h671 : H := hUpc h654 2246 [] [] [] [(68, 0, 8, I 19)]
noncomputable def m339 : Memo := ⟨[.ptr 68 0, I 18], h670, .agg [IZ (-1), I 0, I 0, U 0, I 0, U 0, IZ (-1), I 0], h671⟩
theorem m339_run : ranTo (evCall (cxX Tryz.prog bad [] [] [(172, isFn 325)]) 1000 60 10 m339.args m339.h) m339.v m339.h' = true := by kernel_rfl
theorem m339_ok {σ : Nat → Int} {W0 : World} (hL : L0 W0) : MemoOk Tryz.prog 1023 σ W0 10 m339 := memo_ok fit (Known2.nil σ) (FnsOk.cons (ext_is hL) (FnsOk.nil)) m339_run
noncomputable def h672 : H := hUpd h671 2247 [] [] []
noncomputable def h673 : H := hUpc h654 2248 [] [] [] [(68, 0, 8, I 20)]
noncomputable def m340 : Memo := ⟨[.ptr 68 0, I 19], h672, .agg [IZ (-1), I 0, I 0, U 0, I 0, U 0, IZ (-1), I 0], h673⟩
theorem m340_run : ranTo (evCall (cxX Tryz.prog bad [] [] [(172, isFn 325)]) 1000 60 10 m340.args m340.h) m340.v m340.h' = true := by kernel_rfl
theorem m340_ok {σ : Nat → Int} {W0 : World} (hL : L0 W0) : MemoOk Tryz.prog 1023 σ W0 10 m340 := memo_ok fit (Known2.nil σ) (FnsOk.cons (ext_is hL) (FnsOk.nil)) m340_run
noncomputable def h674 : H := hUpd h673 2249 [] [] []
noncomputable def h675 : H := hUpc h654 2250 [] [] [] [(68, 0, 8, I 21)]
noncomputable def m341 : Memo := ⟨[.ptr 68 0, I 20], h674, .agg [IZ (-1), I 0, I 0, U 0, I 0, U 0, IZ (-1), I 0], h675⟩
theorem m341_run : ranTo (evCall (cxX Tryz.prog bad [] [] [(172, isFn 325)]) 1000 60 10 m341.args m341.h) m341.v m341.h' = true := by kernel_rfl
theorem m341_ok {σ : Nat → Int} {W0 : World} (hL : L0 W0) : MemoOk Tryz.prog 1023 σ W0 10 m341 := memo_ok fit (Known2.nil σ) (FnsOk.cons (ext_is hL) (FnsOk.nil)) m341_run
noncomputable def h676 : H := hUpd h675 2251 [] [] []
noncomputable def h677 : H := hUpc h654 2252 [] [] [] [(68, 0, 8, I 22)]
noncomputable def m342 : Memo := ⟨[.ptr 68 0, I 21], h676, .agg [IZ (-1), I 0, I 0, U 0, I 0, U 0, IZ (-1), I 0], h677⟩
theorem m342_run : ranTo (evCall (cxX Tryz.prog bad [] [] [(172, isFn 325)]) 1000 60 10 m342.args m342.h) m342.v m342.h' = true := by kernel_rfl
theorem m342_ok {σ : Nat → Int} {W0 : World} (hL : L0 W0) : MemoOk Tryz.prog 1023 σ W0 10 m342 := memo_ok fit (Known2.nil σ) (FnsOk.cons (ext_is hL) (FnsOk.nil)) m342_run
noncomputable def h678 : H := hUpd h677 2253 [] [] []
noncomputable def h679 : H := hUpc h654 2254 [] [] [] [(68, 0, 8, I 23)]
noncomputable def m343 : Memo := ⟨[.ptr 68 0, I 22], h678, .agg [IZ (-1), I 0, I 0, U 0, I 0, U 0, IZ (-1), I 0], h679⟩
theorem m343_run : ranTo (evCall (cxX Tryz.prog bad [] [] [(172, isFn 325)]) 1000 60 10 m343.args m343.h) m343.v m343.h' = true := by kernel_rfl
theorem m343_ok {σ : Nat → Int} {W0 : World} (hL : L0 W0) : MemoOk Tryz.prog 1023 σ W0 10 m343 := memo_ok fit (Known2.nil σ) (FnsOk.cons (ext_is hL) (FnsOk.nil)) m343_run
noncomputable def h680 : H := hUpd h679 2255 [] [] []
noncomputable def h681 : H := hUpc h654 2256 [] [] [] [(68, 0, 8, I 24)]
noncomputable def m344 : Memo := ⟨[.ptr 68 0, I 23], h680, .agg [IZ (-1), I 0, I 0, U 0, I 0, U 0, IZ (-1), I 0], h681⟩
theorem m344_run : ranTo (evCall (cxX Tryz.prog bad [] [] [(172, isFn 325)]) 1000 60 10 m344.args m344.h) m344.v m344.h' = true := by kernel_rfl
theorem m344_ok {σ : Nat → Int} {W0 : World} (hL : L0 W0) : MemoOk Tryz.prog 1023 σ W0 10 m344 := memo_ok fit (Known2.nil σ) (FnsOk.cons (ext_is hL) (FnsOk.nil)) m344_run
noncomputable def h682 : H := hUpd h681 2257 [] [] []
noncomputable def h683 : H := hUpc h654 2258 [] [] [] [(68, 0, 8, I 25)]
noncomputable def m345 : Memo := ⟨[.ptr 68 0, I 24], h682, .agg [IZ (-1), I 0, I 0, U 0, I 0, U 0, IZ (-1), I 0], h683⟩
theorem m345_run : ranTo (evCall (cxX Tryz.prog bad [] [] [(172, isFn 325)]) 1000 60 10 m345.args m345.h) m345.v m345.h' = true := by kernel_rfl
theorem m345_ok {σ : Nat → Int} {W0 : World} (hL : L0 W0) : MemoOk Tryz.prog 1023 σ W0 10 m345 := memo_ok fit (Known2.nil σ) (FnsOk.cons (ext_is hL) (FnsOk.nil)) m345_run
noncomputable def h684 : H := hUpd h683 2259 [] [] []
noncomputable def h685 : H := hUpc h654 2260 [] [] [] [(68, 0, 8, I 26)]
noncomputable def m346 : Memo := ⟨[.ptr 68 0, I 25], h684, .agg [IZ (-1), I 0, I 0, U 0, I 0, U 0, IZ (-1), I 0], h685⟩
theorem m346_run : ranTo (evCall (cxX Tryz.prog bad [] [] [(172, isFn 325)]) 1000 60 10 m346.args m346.h) m346.v m346.h' = true := by kernel_rfl
theorem m346_ok {σ : Nat → Int} {W0 : World} (hL : L0 W0) : MemoOk Tryz.prog 1023 σ W0 10 m346 := memo_ok fit (Known2.nil σ) (FnsOk.cons (ext_is hL) (FnsOk.nil)) m346_run
noncomputable def h686 : H := hUpd h685 2261 [] [] []
noncomputable def h687 : H := hUpc h654 2262 [] [] [] [(68, 0, 8, I 27)]
noncomputable def m347 : Memo := ⟨[.ptr 68 0, I 26], h686, .agg [IZ (-1), I 0, I 0, U 0, I 0, U 0, IZ (-1), I 0], h687⟩
theorem m347_run : ranTo (evCall (cxX Tryz.prog bad [] [] [(172, isFn 325)]) 1000 60 10 m347.args m347.h) m347.v m347.h' = true := by kernel_rfl
theorem m347_ok {σ : Nat → Int} {W0 : World} (hL : L0 W0) : MemoOk Tryz.prog 1023 σ W0 10 m347 := memo_ok fit (Known2.nil σ) (FnsOk.cons (ext_is hL) (FnsOk.nil)) m347_run
noncomputable def h688 : H := hUpd h687 2263 [] [] []
noncomputable def h689 : H := hUpc h654 2264 [] [] [] [(68, 0, 8, I 28)]
noncomputable def m348 : Memo := ⟨[.ptr 68 0, I 27], h688, .agg [IZ (-1), I 0, I 0, U 0, I 0, U 0, IZ (-1), I 0], h689⟩
theorem m348_run : ranTo (evCall (cxX Tryz.prog bad [] [] [(172, isFn 325)]) 1000 60 10 m348.args m348.h) m348.v m348.h' = true := by kernel_rfl
theorem m348_ok {σ : Nat → Int} {W0 : World} (hL : L0 W0) : MemoOk Tryz.prog 1023 σ W0 10 m348 := memo_ok fit (Known2.nil σ) (FnsOk.cons (ext_is hL) (FnsOk.nil)) m348_run
noncomputable def h690 : H := hUpd h689 2265 [] [] []
noncomputable def h691 : H := hUpc h654 2266 [] [] [] [(68, 0, 8, I 29)]
noncomputable def m349 : Memo := ⟨[.ptr 68 0, I 28], h690, .agg [IZ (-1), I 0, I 0, U 0, I 0, U 0, IZ (-1), I 0], h691⟩
theorem m349_run : ranTo (evCall (cxX Tryz.prog bad [] [] [(172, isFn 325)]) 1000 60 10 m349.args m349.h) m349.v m349.h' = true := by kernel_rfl
theorem m349_ok {σ : Nat → Int} {W0 : World} (hL : L0 W0) : MemoOk Tryz.prog 1023 σ W0 10 m349 := memo_ok fit (Known2.nil σ) (FnsOk.cons (ext_is hL) (FnsOk.nil)) m349_run
noncomputable def h692 : H := hUpd h691 2267 [] [] []
noncomputable def h693 : H := hUpc h654 2268 [] [] [] [(68, 0, 8, I 30)]
noncomputable def m350 : Memo := ⟨[.ptr 68 0, I 29], h692, .agg [IZ (-1), I 0, I 0, U 0, I 0, U 0, IZ (-1), I 0], h693⟩
theorem m350_run : ranTo (evCall (cxX Tryz.prog bad [] [] [(172, isFn 325)]) 1000 60 10 m350.args m350.h) m350.v m350.h' = true := by kernel_rfl
theorem m350_ok {σ : Nat → Int} {W0 : World} (hL : L0 W0) : MemoOk Tryz.prog 1023 σ W0 10 m350 := memo_ok fit (Known2.nil σ) (FnsOk.cons (ext_is hL) (FnsOk.nil)) m350_run
noncomputable def h694 : H := hUpd h693 2269 [] [] []
noncomputable def h695 : H := hUpc h655 2270 [] [] [] [(68, 0, 8, I 31)]
noncomputable def m351 : Memo := ⟨[.ptr 68 0, I 30], h694, .agg [IZ (-1), I 0, I 0, U 0, I 0, U 0, IZ (-1), I 0], h695⟩
theorem m351_run : ranTo (evCall (cxX Tryz.prog bad [] [] [(172, isFn 325)]) 1000 60 10 m351.args m351.h) m351.v m351.h' = true := by kernel_rfl
theorem m351_ok {σ : Nat → Int} {W0 : World} (hL : L0 W0) : MemoOk Tryz.prog 1023 σ W0 10 m351 := memo_ok fit (Known2.nil σ) (FnsOk.cons (ext_is hL) (FnsOk.nil)) m351_run
noncomputable def h696 : H := hUpd h695 2271 [] [] []
noncomputable def h697 : H := hUpc h657 2272 [] [] [] [(68, 0, 8, I 32)]
noncomputable def m352 : Memo := ⟨[.ptr 68 0, I 31], h696, .agg [IZ (-1), I 0, I 0, U 0, I 0, U 0, IZ (-1), I 0], h697⟩
theorem m352_run : ranTo (evCall (cxX Tryz.prog bad [] [] [(172, isFn 325)]) 1000 60 10 m352.args m352.h) m352.v m352.h' = true := by kernel_rfl
theorem m352_ok {σ : Nat → Int} {W0 : World} (hL : L0 W0) : MemoOk Tryz.prog 1023 σ W0 10 m352 := memo_ok fit (Known2.nil σ) (FnsOk.cons (ext_is hL) (FnsOk.nil)) m352_run
noncomputable def h698 : H := hUpd h697 2273 [] [] []
noncomputable def h699 : H := hUpc h659 2274 [] [] [] [(68, 0, 8, I 33)]
noncomputable def m353 : Memo := ⟨[.ptr 68 0, I 32], h698, .agg [IZ (-1), I 0, I 0, U 0, I 0, U 0, IZ (-1), I 0], h699⟩
theorem m353_run : ranTo (evCall (cxX Tryz.prog bad [] [] [(172, isFn 325)]) 1000 60 10 m353.args m353.h) m353.v m353.h' = true := by kernel_rfl
theorem m353_ok {σ : Nat → Int} {W0 : World} (hL : L0 W0) : MemoOk Tryz.prog 1023 σ W0 10 m353 := memo_ok fit (Known2.nil σ) (FnsOk.cons (ext_is hL) (FnsOk.nil)) m353_run
noncomputable def h700 : H := hUpd h699 2275 [] [] []
noncomputable def h701 : H := hUpc h661 2276 [] [] [] [(68, 0, 8, I 34)]
noncomputable def m354 : Memo := ⟨[.ptr 68 0, I 33], h700, .agg [IZ (-1), I 0, I 0, U 0, I 0, U 0, IZ (-1), I 0], h701⟩
theorem m354_run : ranTo (evCall (cxX Tryz.prog bad [] [] [(172, isFn 325)]) 1000 60 10 m354.args m354.h) m354.v m354.h' = true := by kernel_rfl
theorem m354_ok {σ : Nat → Int} {W0 : World} (hL : L0 W0) : MemoOk Tryz.prog 1023 σ W0 10 m354 := memo_ok fit (Known2.nil σ) (FnsOk.cons (ext_is hL) (FnsOk.nil)) m354_run
noncomputable def h702 : H := hUpd h701 2277 [] [] []
noncomputable def h703 : H := hUpc h663 2278 [] [] [] [(68, 0, 8, I 35)]
noncomputable def m355 : Memo := ⟨[.ptr 68 0, I 34], h702, .agg [IZ (-1), I 0, I 0, U 0, I 0, U 0, IZ (-1), I 0], h703⟩
theorem m355_run : ranTo (evCall (cxX Tryz.prog bad [] [] [(172, isFn 325)]) 1000 60 10 m355.args m355.h) m355.v m355.h' = true := by kernel_rfl
theorem m355_ok {σ : Nat → Int} {W0 : World} (hL : L0 W0) : MemoOk Tryz.prog 1023 σ W0 10 m355 := memo_ok fit (Known2.nil σ) (FnsOk.cons (ext_is hL) (FnsOk.nil)) m355_run
noncomputable def h704 : H := hUpd h703 2279 [] [] []
noncomputable def h705 : H := hUpc h665 2280 [] [] [] [(68, 0, 8, I 36)]
noncomputable def m356 : Memo := ⟨[.ptr 68 0, I 35], h704, .agg [IZ (-1), I 0, I 0, U 0, I 0, U 0, IZ (-1), I 0], h705⟩
theorem m356_run : ranTo (evCall (cxX Tryz.prog bad [] [] [(172, isFn 325)]) 1000 60 10 m356.args m356.h) m356.v m356.h' = true := by kernel_rfl
theorem m356_ok {σ : Nat → Int} {W0 : World} (hL : L0 W0) : MemoOk Tryz.prog 1023 σ W0 10 m356 := memo_ok fit (Known2.nil σ) (FnsOk.cons (ext_is hL) (FnsOk.nil)) m356_run
noncomputable def h706 : H := hUpd h705 2281 [] [] []
noncomputable def h707 : H := hUpc h667 2282 [] [] [] [(68, 0, 8, I 37)]
noncomputable def m357 : Memo := ⟨[.ptr 68 0, I 36], h706, .agg [IZ (-1), I 0, I 0, U 0, I 0, U 0, IZ (-1), I 0], h707⟩
theorem m357_run : ranTo (evCall (cxX Tryz.prog bad [] [] [(172, isFn 325)]) 1000 60 10 m357.args m357.h) m357.v m357.h' = true := by kernel_rfl
theorem m357_ok {σ : Nat → Int} {W0 : World} (hL : L0 W0) : MemoOk Tryz.prog 1023 σ W0 10 m357 := memo_ok fit (Known2.nil σ) (FnsOk.cons (ext_is hL) (FnsOk.nil)) m357_run
noncomputable def h708 : H := hUpd h707 2283 [] [] []
noncomputable def h709 : H := hUpc h669 2284 [] [] [] [(68, 0, 8, I 38)]
noncomputable def m358 : Memo := ⟨[.ptr 68 0, I 37], h708, .agg [IZ (-1), I 0, I 0, U 0, I 0, U 0, IZ (-1), I 0], h709⟩
theorem m358_run : ranTo (evCall (cxX Tryz.prog bad [] [] [(172, isFn 325)]) 1000 60 10 m358.args m358.h) m358.v m358.h' = true := by kernel_rfl
theorem m358_ok {σ : Nat → Int} {W0 : World} (hL : L0 W0) : MemoOk Tryz.prog 1023 σ W0 10 m358 := memo_ok fit (Known2.nil σ) (FnsOk.cons (ext_is hL) (FnsOk.nil)) m358_run
end Go.Proofs.YtkfhelmjaoepiaaGreatDoor.kernTicks
