/- graphEdges: calls that are run once, and the runs of the cases (part 0). -/
import Derived.Test.YtalmhgaomgkdbaaDoorEvGeF
set_option linter.unusedVariables false
set_option maxRecDepth 10000000
namespace Go.Proofs.YtalmhgaomgkdbaaDoor.graphEdges
open Tk
open Go.RowKit
noncomputable def h0 : H := sentH 211 7 errTab
noncomputable def p0 : Pur := ([], bT, 1048576)
theorem p0_run : ranPure (evCall (cxX Tryd.prog bad [] [] []) 1000 60 22 p0.1 ⟨.lf, p0.2.2⟩) p0.2.1 = true := by kernel_rfl
theorem p0_ok {σ : Nat → Int} {W0 : World} : PureOk Tryd.prog 119 σ W0 22 p0 := pure_ok fit (Known2.nil σ) (FnsOk.nil) p0_run
noncomputable def h1 : H := hUpd h0 165 [] [(158, .cells 16 ([[.slice 85 0 12 12 4 false, .slice 109 0 12 12 4 false, .slice 121 0 6 6 4 false, .slice 137 0 8 8 4 false, .slice 149 0 6 6 4 false, .slice 157 0 4 4 4 false, .slice 159 0 12 12 80 true, .slice 160 0 12 12 32 true, .slice 161 0 6 6 108 true, .slice 162 0 8 8 2 true, .slice 163 0 6 6 3 true, .slice 164 0 4 4 31 true, .snil, .snil, .snil, I 0]]) false),
  (46, .cells 1 ([[.ptr 29 0], [.ptr 32 0], [.ptr 35 0], [.ptr 38 0], [.ptr 41 0], [.ptr 44 0]]) false),
  (54, .map [] 0),
  (38, .cells 1 ([[.snil]]) false),
  (22, .cells 2 ([[.ptr 17 0, .ptr 21 0]]) false),
  (14, .cells 3 (rp 12 ([bF, I 0, bF]) ([])) false),
  (58, .cells 31 (rp 4 ((bF) :: rp 4 (I 0) ((U 0) :: rp 4 (I 0) ((U 0) :: rp 4 (I 0) ((U 0) :: rp 4 (I 0) ((U 0) :: rp 4 (I 0) ((U 0) :: rp 4 (I 0) ([U 0]))))))) ([])) false),
  (26, .cells 1 ([[.slice 25 0 6 6 3 true]]) false),
  (50, .cells 2 ([[.ptr 48 0, .slice 49 0 8 8 2 true]]) false),
  (162, .cells 2 (rp 8 ([I 0, I 0]) ([])) false),
  (18, .cells 3 (rp 12 ([bF, I 0, bF]) ([])) false),
  (60, .cells 1 ([[.snil]]) false),
  (44, .cells 1 ([[.snil]]) false),
  (28, .cells 3 ([[.ptr 26 0, .slice 27 0 6 6 107 true, .slice 46 0 6 6 1 false]]) false),
  (52, .cells 1 ([[.slice 51 0 6 6 3 true]]) false),
  (164, .cells 31 (rp 4 ((bF) :: rp 4 (I 0) ((U 0) :: rp 4 (I 0) ((U 0) :: rp 4 (I 0) ((U 0) :: rp 4 (I 0) ((U 0) :: rp 4 (I 0) ((U 0) :: rp 4 (I 0) ([U 0]))))))) ([])) false),
  (20, .cells 32 (rp 12 (rp 32 (U 0) ([])) ([])) false),
  (56, .cells 3 (rp 4 ([bF, I 0, bF]) ([])) false),
  (24, .cells 3 ([[.ptr 22 0, I 16, .ptr 23 0]]) false),
  (48, .cells 1 ([[.slice 47 0 8 8 3 true]]) false),
  (160, .cells 32 (rp 12 (rp 32 (U 0) ([])) ([])) false),
  (32, .cells 1 ([[.snil]]) false),
  (16, .cells 80 (rp 12 (rp 4 (I 0) ((U 0) :: rp 4 (I 0) ((U 0) :: rp 4 (I 0) ((U 0) :: rp 4 (I 0) ((U 0) :: rp 4 (I 0) ((U 0) :: rp 4 (I 0) ((U 0) :: rp 4 (I 0) ((U 0) :: rp 4 (I 0) ((U 0) :: rp 4 (I 0) ((U 0) :: rp 4 (I 0) ((U 0) :: rp 4 (I 0) ((U 0) :: rp 4 (I 0) ((U 0) :: rp 4 (I 0) ((U 0) :: rp 4 (I 0) ((U 0) :: rp 4 (I 0) ((U 0) :: rp 4 (I 0) ([U 0]))))))))))))))))) ([])) false),
  (157, .cells 4 (rp 4 ([bF, bF, I 0, IZ (-1)]) ([])) false),
  (61, .cells 9 ([[.ptr 24 0, .ptr 28 0, .ptr 50 0, .ptr 55 0, .ptr 59 0, .ptr 60 0, .snil, .snil, I 0]]) false),
  (109, .cells 4 (rp 12 ([bF, bF, I 0, IZ (-1)]) ([])) false),
  (29, .cells 1 ([[.snil]]) false),
  (149, .cells 4 (rp 6 ([bF, bF, I 0, IZ (-1)]) ([])) false),
  (85, .cells 4 (rp 12 ([bF, bF, I 0, IZ (-1)]) ([])) false),
  (53, .cells 3 (rp 6 ([I 0, I 0, I 0]) ([])) false),
  (21, .cells 2 ([[.ptr 19 0, .slice 20 0 12 12 32 true]]) false),
  (121, .cells 4 (rp 6 ([bF, bF, I 0, IZ (-1)]) ([])) false),
  (57, .cells 1 ([[.slice 56 0 4 4 3 true]]) false),
  (137, .cells 4 (rp 8 ([bF, bF, I 0, IZ (-1)]) ([])) false),
  (41, .cells 1 ([[.snil]]) false),
  (25, .cells 3 (rp 6 ([bF, I 0, bF]) ([])) false),
  (49, .cells 2 (rp 8 ([I 0, I 0]) ([])) false),
  (161, .cells 108 (rp 6 (rp 9 (U 0) (rp 6 (I 0) ((U 0) :: rp 4 (I 0) ((U 0) :: rp 4 (I 0) ((U 0) :: rp 4 (I 0) ((U 0) :: rp 4 (I 0) ((U 0) :: rp 4 (I 0) ((U 0) :: rp 4 (I 0) ((U 0) :: rp 4 (I 0) ((U 0) :: rp 4 (I 0) ((U 0) :: rp 4 (I 0) ((U 0) :: rp 4 (I 0) ((U 0) :: rp 4 (I 0) ((U 0) :: rp 4 (I 0) ((U 0) :: rp 4 (I 0) ((U 0) :: rp 4 (I 0) ((U 0) :: rp 4 (I 0) ((U 0) :: rp 4 (I 0) ((U 0) :: rp 4 (I 0) ((U 0) :: rp 4 (I 0) ([U 0, I 0, .snil]))))))))))))))))))))) ([])) false),
  (17, .cells 2 ([[.ptr 15 0, .slice 16 0 12 12 80 true]]) false),
  (59, .cells 2 ([[.ptr 57 0, .slice 58 0 4 4 31 true]]) false),
  (27, .cells 107 (rp 6 (rp 9 (U 0) (rp 6 (I 0) ((U 0) :: rp 4 (I 0) ((U 0) :: rp 4 (I 0) ((U 0) :: rp 4 (I 0) ((U 0) :: rp 4 (I 0) ((U 0) :: rp 4 (I 0) ((U 0) :: rp 4 (I 0) ((U 0) :: rp 4 (I 0) ((U 0) :: rp 4 (I 0) ((U 0) :: rp 4 (I 0) ((U 0) :: rp 4 (I 0) ((U 0) :: rp 4 (I 0) ((U 0) :: rp 4 (I 0) ((U 0) :: rp 4 (I 0) ((U 0) :: rp 4 (I 0) ((U 0) :: rp 4 (I 0) ((U 0) :: rp 4 (I 0) ((U 0) :: rp 4 (I 0) ((U 0) :: rp 4 (I 0) ([U 0, I 0]))))))))))))))))))))) ([])) false),
  (51, .cells 3 (rp 6 ([bF, I 0, bF]) ([])) false),
  (163, .cells 3 (rp 6 ([I 0, I 0, I 0]) ([])) false),
  (35, .cells 1 ([[.snil]]) false),
  (19, .cells 1 ([[.slice 18 0 12 12 3 true]]) false),
  (55, .cells 5 ([[.ptr 52 0, .slice 53 0 6 6 3 true, .map 54, .ptr 24 0, .ptr 28 0]]) false),
  (23, .cells 3 ([[I 16, .snil, I 0]]) false),
  (47, .cells 3 (rp 8 ([bF, I 0, bF]) ([])) false),
  (159, .cells 80 (rp 12 (rp 4 (I 0) ((U 0) :: rp 4 (I 0) ((U 0) :: rp 4 (I 0) ((U 0) :: rp 4 (I 0) ((U 0) :: rp 4 (I 0) ((U 0) :: rp 4 (I 0) ((U 0) :: rp 4 (I 0) ((U 0) :: rp 4 (I 0) ((U 0) :: rp 4 (I 0) ((U 0) :: rp 4 (I 0) ((U 0) :: rp 4 (I 0) ((U 0) :: rp 4 (I 0) ((U 0) :: rp 4 (I 0) ((U 0) :: rp 4 (I 0) ((U 0) :: rp 4 (I 0) ((U 0) :: rp 4 (I 0) ([U 0]))))))))))))))))) ([])) false),
  (15, .cells 1 ([[.slice 14 0 12 12 3 true]]) false)] []
noncomputable def m1 : Memo := ⟨[], h0, .tuple [.ptr 61 0, .ptr 158 0], h1⟩
theorem m1_run : ranTo (evCall (cxX Tryd.prog bad [] [] []) 1000 60 6 m1.args m1.h) m1.v m1.h' = true := by kernel_rfl
theorem m1_ok {σ : Nat → Int} {W0 : World} : MemoOk Tryd.prog 119 σ W0 6 m1 := memo_ok fit (Known2.nil σ) (FnsOk.nil) m1_run
noncomputable def h2 : H := hUpd h1 165 [158, 58, 50, 162, 60, 164, 56, 48, 160, 157, 61, 109, 149, 85, 121, 57, 137, 49, 161, 59, 163, 47, 159] [] []
noncomputable def h3 : H := hUpd h2 173 [] [] [(53, 0, [IZ (-1), I 30, I 0]),
  (51, 0, [bT, I 0, bF])]
noncomputable def m2 : Memo := ⟨[.ptr 55 0, I 30], h2, .tuple [I 0, I 0, .inil], h3⟩
theorem m2_run : ranTo (evCall (cxX Tryd.prog bad [] [] []) 1000 60 7 m2.args m2.h) m2.v m2.h' = true := by kernel_rfl
theorem m2_ok {σ : Nat → Int} {W0 : World} : MemoOk Tryd.prog 119 σ W0 7 m2 := memo_ok fit (Known2.nil σ) (FnsOk.nil) m2_run
noncomputable def h4 : H := hUpd h3 183 [] [] [(53, 1, [I 0, I 20, I 0]),
  (51, 1, [bT, I 0, bF])]
noncomputable def m3 : Memo := ⟨[.ptr 55 0, I 0, I 20], h3, .tuple [I 1, I 0, .inil], h4⟩
theorem m3_run : ranTo (evCall (cxX Tryd.prog bad [] [] []) 1000 60 15 m3.args m3.h) m3.v m3.h' = true := by kernel_rfl
theorem m3_ok {σ : Nat → Int} {W0 : World} : MemoOk Tryd.prog 119 σ W0 15 m3 := memo_ok fit (Known2.nil σ) (FnsOk.nil) m3_run
noncomputable def h5 : H := hUpd h4 258 [] [(54, .map [(.agg [I 2, I 0], .agg [I 0, I 0], 0)] 1)] [(14, 0, [bT, I 0, bF]),
  (53, 0, [IZ (-1), I 30, I 1])]
noncomputable def m4 : Memo := ⟨[.ptr 55 0, I 0, .snil], h4, .tuple [I 0, I 0, .inil], h5⟩
theorem m4_run : ranTo (evCall (cxX Tryd.prog bad [] [] []) 1000 60 10 m4.args m4.h) m4.v m4.h' = true := by kernel_rfl
theorem m4_ok {σ : Nat → Int} {W0 : World} : MemoOk Tryd.prog 119 σ W0 10 m4 := memo_ok fit (Known2.nil σ) (FnsOk.nil) m4_run
noncomputable def h6 : H := hUpd h5 321 [] [(54, .map [(.agg [I 2, I 0], .agg [I 0, I 0], 0), (.agg [I 3, I 0], .agg [I 0, I 0], 1)] 2)] [(18, 0, [bT, I 0, bF]),
  (53, 0, [IZ (-1), I 30, I 2])]
noncomputable def m5 : Memo := ⟨[.ptr 55 0, I 0, .snil], h5, .tuple [I 0, I 0, .inil], h6⟩
theorem m5_run : ranTo (evCall (cxX Tryd.prog bad [] [] []) 1000 60 12 m5.args m5.h) m5.v m5.h' = true := by kernel_rfl
theorem m5_ok {σ : Nat → Int} {W0 : World} : MemoOk Tryd.prog 119 σ W0 12 m5 := memo_ok fit (Known2.nil σ) (FnsOk.nil) m5_run
noncomputable def h7 : H := hUpd h6 420 [] [(54, .map [(.agg [I 2, I 0], .agg [I 0, I 0], 0), (.agg [I 3, I 0], .agg [I 0, I 0], 1), (.agg [I 2, I 1], .agg [I 1, I 0], 2)] 3)] [(14, 1, [bT, I 0, bF]),
  (53, 0, [IZ (-1), I 30, I 3]),
  (53, 1, [I 0, I 20, I 1])]
noncomputable def m6 : Memo := ⟨[.ptr 55 0, I 1, .snil], h6, .tuple [I 1, I 0, .inil], h7⟩
theorem m6_run : ranTo (evCall (cxX Tryd.prog bad [] [] []) 1000 60 10 m6.args m6.h) m6.v m6.h' = true := by kernel_rfl
theorem m6_ok {σ : Nat → Int} {W0 : World} : MemoOk Tryd.prog 119 σ W0 10 m6 := memo_ok fit (Known2.nil σ) (FnsOk.nil) m6_run
noncomputable def h8 : H := hUpd h7 507 [] [(54, .map [(.agg [I 2, I 0], .agg [I 0, I 0], 0), (.agg [I 3, I 0], .agg [I 0, I 0], 1), (.agg [I 2, I 1], .agg [I 1, I 0], 2), (.agg [I 3, I 1], .agg [I 1, I 0], 3)] 4)] [(18, 1, [bT, I 0, bF]),
  (53, 0, [IZ (-1), I 30, I 4]),
  (53, 1, [I 0, I 20, I 2])]
noncomputable def m7 : Memo := ⟨[.ptr 55 0, I 1, .snil], h7, .tuple [I 1, I 0, .inil], h8⟩
theorem m7_run : ranTo (evCall (cxX Tryd.prog bad [] [] []) 1000 60 12 m7.args m7.h) m7.v m7.h' = true := by kernel_rfl
theorem m7_ok {σ : Nat → Int} {W0 : World} : MemoOk Tryd.prog 119 σ W0 12 m7 := memo_ok fit (Known2.nil σ) (FnsOk.nil) m7_run
noncomputable def p8 : Pur := ([.agg [I 3, I 1, I 0, I 0, U 0]], .inil, 1048576)
theorem p8_run : ranPure (evCall (cxX Tryd.prog bad [] [] []) 1000 60 51 p8.1 ⟨.lf, p8.2.2⟩) p8.2.1 = true := by kernel_rfl
theorem p8_ok {σ : Nat → Int} {W0 : World} : PureOk Tryd.prog 119 σ W0 51 p8 := pure_ok fit (Known2.nil σ) (FnsOk.nil) p8_run
noncomputable def p9 : Pur := ([.agg [I 2, I 1, I 0, I 0, U 0]], .inil, 1048576)
theorem p9_run : ranPure (evCall (cxX Tryd.prog bad [] [] []) 1000 60 51 p9.1 ⟨.lf, p9.2.2⟩) p9.2.1 = true := by kernel_rfl
theorem p9_ok {σ : Nat → Int} {W0 : World} : PureOk Tryd.prog 119 σ W0 51 p9 := pure_ok fit (Known2.nil σ) (FnsOk.nil) p9_run
noncomputable def p10 : Pur := ([.agg [I 3, I 0, I 0, I 5, U 0]], .inil, 1048576)
theorem p10_run : ranPure (evCall (cxX Tryd.prog bad [] [] []) 1000 60 51 p10.1 ⟨.lf, p10.2.2⟩) p10.2.1 = true := by kernel_rfl
theorem p10_ok {σ : Nat → Int} {W0 : World} : PureOk Tryd.prog 119 σ W0 51 p10 := pure_ok fit (Known2.nil σ) (FnsOk.nil) p10_run
noncomputable def p11 : Pur := ([.agg [I 3, I 0, I 0, I 0, U 0]], .inil, 1048576)
theorem p11_run : ranPure (evCall (cxX Tryd.prog bad [] [] []) 1000 60 51 p11.1 ⟨.lf, p11.2.2⟩) p11.2.1 = true := by kernel_rfl
theorem p11_ok {σ : Nat → Int} {W0 : World} : PureOk Tryd.prog 119 σ W0 51 p11 := pure_ok fit (Known2.nil σ) (FnsOk.nil) p11_run
noncomputable def h9 : H := hUpc h1 659 [158, 162, 164, 160, 157, 109, 149, 85, 121, 137, 161, 163, 159] [(54, .map [(.agg [I 2, I 0], .agg [I 0, I 0], 0), (.agg [I 3, I 0], .agg [I 0, I 0], 1), (.agg [I 2, I 1], .agg [I 1, I 0], 2), (.agg [I 3, I 1], .agg [I 1, I 0], 3)] 4)] [(14, 0, [bT, I 0, bF]),
  (14, 1, [bT, I 0, bF]),
  (18, 0, [bT, I 0, bF]),
  (18, 1, [bT, I 0, bF]),
  (53, 0, [IZ (-1), I 30, I 4]),
  (53, 1, [I 0, I 20, I 2]),
  (51, 0, [bT, I 0, bF]),
  (51, 1, [bT, I 0, bF])] [(16, 0, 0, I 3), (16, 1, 0, I 3), (16, 1, 1, I 1), (16, 1, 5, I 2), (16, 1, 6, I 1), (16, 1, 10, I 3), (16, 1, 13, I 5)]
noncomputable def h10 : H := hUpd h9 749 [] [(748, .cells 5 ([[I 2, I 1, I 0, I 0, U 0], [I 3, I 1, I 0, I 0, U 0]]) false)] []
noncomputable def m12 : Memo := ⟨[.ptr 61 0, I 1], h9, .slice 748 0 2 2 5 false, h10⟩
theorem m12_run : ranTo (evCall (cxX Tryd.prog bad [] [] []) 1000 60 27 m12.args m12.h) m12.v m12.h' = true := by kernel_rfl
theorem m12_ok {σ : Nat → Int} {W0 : World} : MemoOk Tryd.prog 119 σ W0 27 m12 := memo_ok fit (Known2.nil σ) (FnsOk.nil) m12_run
noncomputable def p13 : Pur := ([.agg [I 0, I 0, I 0, I 0, U 0]], .inil, 1048576)
theorem p13_run : ranPure (evCall (cxX Tryd.prog bad [] [] []) 1000 60 51 p13.1 ⟨.lf, p13.2.2⟩) p13.2.1 = true := by kernel_rfl
theorem p13_ok {σ : Nat → Int} {W0 : World} : PureOk Tryd.prog 119 σ W0 51 p13 := pure_ok fit (Known2.nil σ) (FnsOk.nil) p13_run
noncomputable def h11 : H := hUpd h9 658 [] [] []
noncomputable def h12 : H := hUpd h9 1074 [] [] []
noncomputable def m14 : Memo := ⟨[.ptr 61 0, I 1], h11, .snil, h12⟩
noncomputable def l0 : List (Pur) := p10 :: p9 :: p8 :: p13 :: p11 :: []
theorem l0_ok {σ : Nat → Int} {W0 : World} : ∀ x ∈ l0, PureOk Tryd.prog 119 σ W0 51 x := all_cons p10_ok (all_cons p9_ok (all_cons p8_ok (all_cons p13_ok (all_cons p11_ok all_nil))))
theorem m14_run : ranTo (evCall (cxX Tryd.prog bad [] [] [(51, pureFn l0), (27, frameFn [m12])]) 1000 60 25 m14.args m14.h) m14.v m14.h' = true := by kernel_rfl
theorem m14_ok {σ : Nat → Int} {W0 : World} : MemoOk Tryd.prog 119 σ W0 25 m14 := memo_ok fit (Known2.nil σ) (FnsOk.cons (pure_fn_ok (l0_ok)) (FnsOk.cons (frame_fn_ok (all_cons (m12_ok) (all_nil))) (FnsOk.nil))) m14_run
noncomputable def h13 : H := hUpd h9 1075 [] [] []
noncomputable def h14 : H := hUpd h9 1165 [] [(1164, .cells 5 ([[I 2, I 1, I 0, I 0, U 0], [I 3, I 1, I 0, I 0, U 0]]) false)] []
noncomputable def m15 : Memo := ⟨[.ptr 61 0, I 1], h13, .slice 1164 0 2 2 5 false, h14⟩
theorem m15_run : ranTo (evCall (cxX Tryd.prog bad [] [] []) 1000 60 27 m15.args m15.h) m15.v m15.h' = true := by kernel_rfl
theorem m15_ok {σ : Nat → Int} {W0 : World} : MemoOk Tryd.prog 119 σ W0 27 m15 := memo_ok fit (Known2.nil σ) (FnsOk.nil) m15_run
noncomputable def h15 : H := hUpd h9 1479 [] [] []
noncomputable def m16 : Memo := ⟨[.ptr 61 0, I 1], h12, .snil, h15⟩
theorem m16_run : ranTo (evCall (cxX Tryd.prog bad [] [] [(51, pureFn l0), (27, frameFn [m15])]) 1000 60 26 m16.args m16.h) m16.v m16.h' = true := by kernel_rfl
theorem m16_ok {σ : Nat → Int} {W0 : World} : MemoOk Tryd.prog 119 σ W0 26 m16 := memo_ok fit (Known2.nil σ) (FnsOk.cons (pure_fn_ok (l0_ok)) (FnsOk.cons (frame_fn_ok (all_cons (m15_ok) (all_nil))) (FnsOk.nil))) m16_run
noncomputable def h16 : H := hUpd h9 1569 [] [(1568, .cells 5 ([[I 2, I 1, I 0, I 0, U 0], [I 3, I 1, I 0, I 0, U 0]]) false)] []
noncomputable def m17 : Memo := ⟨[.ptr 61 0, I 1], h15, .slice 1568 0 2 2 5 false, h16⟩
theorem m17_run : ranTo (evCall (cxX Tryd.prog bad [] [] []) 1000 60 27 m17.args m17.h) m17.v m17.h' = true := by kernel_rfl
theorem m17_ok {σ : Nat → Int} {W0 : World} : MemoOk Tryd.prog 119 σ W0 27 m17 := memo_ok fit (Known2.nil σ) (FnsOk.nil) m17_run
noncomputable def h17 : H := hUpc h9 1606 [] [] [] [(16, 0, 25, I 2), (16, 0, 26, I 1)]
noncomputable def h18 : H := hUpd h17 1696 [] [(1695, .cells 5 ([[I 2, I 1, I 0, I 0, U 0], [I 3, I 1, I 0, I 0, U 0]]) false)] []
noncomputable def m18 : Memo := ⟨[.ptr 61 0, I 1], h17, .slice 1695 0 2 2 5 false, h18⟩
theorem m18_run : ranTo (evCall (cxX Tryd.prog bad [] [] []) 1000 60 27 m18.args m18.h) m18.v m18.h' = true := by kernel_rfl
theorem m18_ok {σ : Nat → Int} {W0 : World} : MemoOk Tryd.prog 119 σ W0 27 m18 := memo_ok fit (Known2.nil σ) (FnsOk.nil) m18_run
noncomputable def h19 : H := hUpd h17 1605 [] [] []
noncomputable def h20 : H := hUpd h17 2053 [] [(2040, .cells 5 ([[I 2, I 1, I 0, I 0, U 0]]) false)] []
noncomputable def m19 : Memo := ⟨[.ptr 61 0, I 1], h19, .slice 2040 0 1 1 5 false, h20⟩
noncomputable def l1 : List (Pur) := p10 :: p8 :: p9 :: p13 :: p11 :: []
theorem l1_ok {σ : Nat → Int} {W0 : World} : ∀ x ∈ l1, PureOk Tryd.prog 119 σ W0 51 x := all_cons p10_ok (all_cons p8_ok (all_cons p9_ok (all_cons p13_ok (all_cons p11_ok all_nil))))
theorem m19_run : ranTo (evCall (cxX Tryd.prog bad [] [] [(51, pureFn l1), (27, frameFn [m18])]) 1000 60 26 m19.args m19.h) m19.v m19.h' = true := by kernel_rfl
theorem m19_ok {σ : Nat → Int} {W0 : World} : MemoOk Tryd.prog 119 σ W0 26 m19 := memo_ok fit (Known2.nil σ) (FnsOk.cons (pure_fn_ok (l1_ok)) (FnsOk.cons (frame_fn_ok (all_cons (m18_ok) (all_nil))) (FnsOk.nil))) m19_run
noncomputable def h21 : H := hUpd h17 2080 [] [] []
noncomputable def h22 : H := hUpd h17 2170 [] [(2169, .cells 5 ([[I 2, I 1, I 0, I 0, U 0], [I 3, I 1, I 0, I 0, U 0]]) false)] []
noncomputable def m20 : Memo := ⟨[.ptr 61 0, I 1], h21, .slice 2169 0 2 2 5 false, h22⟩
theorem m20_run : ranTo (evCall (cxX Tryd.prog bad [] [] []) 1000 60 27 m20.args m20.h) m20.v m20.h' = true := by kernel_rfl
theorem m20_ok {σ : Nat → Int} {W0 : World} : MemoOk Tryd.prog 119 σ W0 27 m20 := memo_ok fit (Known2.nil σ) (FnsOk.nil) m20_run
noncomputable def h23 : H := hUpd h17 2079 [] [] []
noncomputable def h24 : H := hUpd h17 2525 [] [] []
noncomputable def m21 : Memo := ⟨[.ptr 61 0, I 1], h23, .snil, h24⟩
theorem m21_run : ranTo (evCall (cxX Tryd.prog bad [] [] [(51, pureFn l1), (27, frameFn [m20])]) 1000 60 25 m21.args m21.h) m21.v m21.h' = true := by kernel_rfl
theorem m21_ok {σ : Nat → Int} {W0 : World} : MemoOk Tryd.prog 119 σ W0 25 m21 := memo_ok fit (Known2.nil σ) (FnsOk.cons (pure_fn_ok (l1_ok)) (FnsOk.cons (frame_fn_ok (all_cons (m20_ok) (all_nil))) (FnsOk.nil))) m21_run
noncomputable def l2 : List (Pur) := p11 :: p10 :: p9 :: p8 :: []
theorem l2_ok {σ : Nat → Int} {W0 : World} : ∀ x ∈ l2, PureOk Tryd.prog 119 σ W0 51 x := all_cons p11_ok (all_cons p10_ok (all_cons p9_ok (all_cons p8_ok all_nil)))
noncomputable def q0 : Fns := [(22, pureFn [p0]), (6, frameFn [m1]), (7, frameFn [m2]), (15, frameFn [m3]), (27, frameFn [m17])]
theorem q0_ok {σ : Nat → Int} {W0 : World} : FnsOk Tryd.prog 119 σ W0 q0 := FnsOk.cons (pure_fn_ok (all_cons (p0_ok) (all_nil))) (FnsOk.cons (frame_fn_ok (all_cons (m1_ok) (all_nil))) (FnsOk.cons (frame_fn_ok (all_cons (m2_ok) (all_nil))) (FnsOk.cons (frame_fn_ok (all_cons (m3_ok) (all_nil))) (FnsOk.cons (frame_fn_ok (all_cons (m17_ok) (all_nil))) (FnsOk.nil)))))
theorem run0 : isTrue (evCall (cxX Tryd.prog bad [] [] ((9, numExtE [(0, 4, .lit 0), (1, 2, .lit 0)]) :: (51, pureFn l2) :: (10, frameFn [m4, m6]) :: (12, frameFn [m5, m7]) :: (25, frameFn [m14, m21]) :: (26, frameFn [m16, m19]) :: q0)) 1000 60 4 [.int .i64 (.var 0), .int .i64 (.var 1), bF] (sentH 211 7 errTab)) = true := by kernel_rfl
theorem case0 {σ : Nat → Int} {W : World} (hL : laidMetH Tryd.prog laidErrs W) (hk : Known2 σ [] []) (hT : TabOk Tryd.prog bad 9 σ [(0, 4, .lit 0), (1, 2, .lit 0)]) {xs : Array Value} (hv : ∀ ρ, VRs σ ρ [.int .i64 (.var 0), .int .i64 (.var 1), bF] xs.toList) : Calls Tryd.prog 4 xs W fun e w' => e = .returned (.bool true) ∧ Below W.heap.size W w' := by
  obtain ⟨ads, h1, h2, h3⟩ := errs_sents hL
  exact law_case_x fit h1 h2 h3 errs_all errs_lt (by kernel_rfl) hk (FnsOk.cons (hT.ok fit) (FnsOk.cons (pure_fn_ok (l2_ok)) (FnsOk.cons (frame_fn_ok (all_cons (m4_ok) (all_cons (m6_ok) (all_nil)))) (FnsOk.cons (frame_fn_ok (all_cons (m5_ok) (all_cons (m7_ok) (all_nil)))) (FnsOk.cons (frame_fn_ok (all_cons (m14_ok) (all_cons (m21_ok) (all_nil)))) (FnsOk.cons (frame_fn_ok (all_cons (m16_ok) (all_cons (m19_ok) (all_nil)))) (q0_ok))))))) hv ⟨_, Tryd.func4, rfl⟩ run0
noncomputable def p22 : Pur := ([.agg [I 2, I 0, I 0, I 0, U 0]], .inil, 1048576)
theorem p22_run : ranPure (evCall (cxX Tryd.prog bad [] [] []) 1000 60 51 p22.1 ⟨.lf, p22.2.2⟩) p22.2.1 = true := by kernel_rfl
theorem p22_ok {σ : Nat → Int} {W0 : World} : PureOk Tryd.prog 119 σ W0 51 p22 := pure_ok fit (Known2.nil σ) (FnsOk.nil) p22_run
noncomputable def h25 : H := hUpc h9 1607 [] [] [] [(16, 1, 25, I 2)]
noncomputable def h26 : H := hUpd h25 1697 [] [(1696, .cells 5 ([[I 2, I 1, I 0, I 0, U 0], [I 3, I 1, I 0, I 0, U 0]]) false)] []
noncomputable def m23 : Memo := ⟨[.ptr 61 0, I 1], h25, .slice 1696 0 2 2 5 false, h26⟩
theorem m23_run : ranTo (evCall (cxX Tryd.prog bad [] [] []) 1000 60 27 m23.args m23.h) m23.v m23.h' = true := by kernel_rfl
theorem m23_ok {σ : Nat → Int} {W0 : World} : MemoOk Tryd.prog 119 σ W0 27 m23 := memo_ok fit (Known2.nil σ) (FnsOk.nil) m23_run
noncomputable def h27 : H := hUpd h25 1606 [] [] []
noncomputable def h28 : H := hUpd h25 2065 [] [(2064, .cells 5 ([[I 2, I 0, I 0, I 0, U 0]]) false)] []
noncomputable def m24 : Memo := ⟨[.ptr 61 0, I 1], h27, .slice 2064 0 1 1 5 false, h28⟩
noncomputable def l3 : List (Pur) := p22 :: l0
theorem l3_ok {σ : Nat → Int} {W0 : World} : ∀ x ∈ l3, PureOk Tryd.prog 119 σ W0 51 x := all_cons p22_ok l0_ok
theorem m24_run : ranTo (evCall (cxX Tryd.prog bad [] [] [(51, pureFn l3), (27, frameFn [m23])]) 1000 60 25 m24.args m24.h) m24.v m24.h' = true := by kernel_rfl
theorem m24_ok {σ : Nat → Int} {W0 : World} : MemoOk Tryd.prog 119 σ W0 25 m24 := memo_ok fit (Known2.nil σ) (FnsOk.cons (pure_fn_ok (l3_ok)) (FnsOk.cons (frame_fn_ok (all_cons (m23_ok) (all_nil))) (FnsOk.nil))) m24_run
noncomputable def h29 : H := hUpd h25 2092 [] [] []
noncomputable def h30 : H := hUpd h25 2182 [] [(2181, .cells 5 ([[I 2, I 1, I 0, I 0, U 0], [I 3, I 1, I 0, I 0, U 0]]) false)] []
noncomputable def m25 : Memo := ⟨[.ptr 61 0, I 1], h29, .slice 2181 0 2 2 5 false, h30⟩
theorem m25_run : ranTo (evCall (cxX Tryd.prog bad [] [] []) 1000 60 27 m25.args m25.h) m25.v m25.h' = true := by kernel_rfl
theorem m25_ok {σ : Nat → Int} {W0 : World} : MemoOk Tryd.prog 119 σ W0 27 m25 := memo_ok fit (Known2.nil σ) (FnsOk.nil) m25_run
noncomputable def h31 : H := hUpd h25 2091 [] [] []
noncomputable def h32 : H := hUpd h25 2526 [] [] []
noncomputable def m26 : Memo := ⟨[.ptr 61 0, I 1], h31, .snil, h32⟩
theorem m26_run : ranTo (evCall (cxX Tryd.prog bad [] [] [(51, pureFn l3), (27, frameFn [m25])]) 1000 60 26 m26.args m26.h) m26.v m26.h' = true := by kernel_rfl
theorem m26_ok {σ : Nat → Int} {W0 : World} : MemoOk Tryd.prog 119 σ W0 26 m26 := memo_ok fit (Known2.nil σ) (FnsOk.cons (pure_fn_ok (l3_ok)) (FnsOk.cons (frame_fn_ok (all_cons (m25_ok) (all_nil))) (FnsOk.nil))) m26_run
noncomputable def l4 : List (Pur) := p22 :: l2
theorem l4_ok {σ : Nat → Int} {W0 : World} : ∀ x ∈ l4, PureOk Tryd.prog 119 σ W0 51 x := all_cons p22_ok l2_ok
theorem run1 : isTrue (evCall (cxX Tryd.prog bad [] [] ((9, numExtE [(0, 4, .lit 0), (1, 2, .lit 0)]) :: (51, pureFn l4) :: (10, frameFn [m4, m6]) :: (12, frameFn [m5, m7]) :: (25, frameFn [m14, m24]) :: (26, frameFn [m16, m26]) :: q0)) 1000 60 4 [.int .i64 (.var 0), .int .i64 (.var 1), bT] (sentH 211 7 errTab)) = true := by kernel_rfl
theorem case1 {σ : Nat → Int} {W : World} (hL : laidMetH Tryd.prog laidErrs W) (hk : Known2 σ [] []) (hT : TabOk Tryd.prog bad 9 σ [(0, 4, .lit 0), (1, 2, .lit 0)]) {xs : Array Value} (hv : ∀ ρ, VRs σ ρ [.int .i64 (.var 0), .int .i64 (.var 1), bT] xs.toList) : Calls Tryd.prog 4 xs W fun e w' => e = .returned (.bool true) ∧ Below W.heap.size W w' := by
  obtain ⟨ads, h1, h2, h3⟩ := errs_sents hL
  exact law_case_x fit h1 h2 h3 errs_all errs_lt (by kernel_rfl) hk (FnsOk.cons (hT.ok fit) (FnsOk.cons (pure_fn_ok (l4_ok)) (FnsOk.cons (frame_fn_ok (all_cons (m4_ok) (all_cons (m6_ok) (all_nil)))) (FnsOk.cons (frame_fn_ok (all_cons (m5_ok) (all_cons (m7_ok) (all_nil)))) (FnsOk.cons (frame_fn_ok (all_cons (m14_ok) (all_cons (m24_ok) (all_nil)))) (FnsOk.cons (frame_fn_ok (all_cons (m16_ok) (all_cons (m26_ok) (all_nil)))) (q0_ok))))))) hv ⟨_, Tryd.func4, rfl⟩ run1
noncomputable def h33 : H := hUpc h17 1606 [] [] [] [(16, 0, 25, I 3)]
noncomputable def h34 : H := hUpc h18 1696 [] [] [] [(16, 0, 25, I 3)]
noncomputable def m27 : Memo := ⟨[.ptr 61 0, I 1], h33, .slice 1695 0 2 2 5 false, h34⟩
theorem m27_run : ranTo (evCall (cxX Tryd.prog bad [] [] []) 1000 60 27 m27.args m27.h) m27.v m27.h' = true := by kernel_rfl
theorem m27_ok {σ : Nat → Int} {W0 : World} : MemoOk Tryd.prog 119 σ W0 27 m27 := memo_ok fit (Known2.nil σ) (FnsOk.nil) m27_run
noncomputable def h35 : H := hUpd h33 1605 [] [] []
noncomputable def h36 : H := hUpc h20 2053 [] [] [] [(2040, 0, 0, I 3), (16, 0, 25, I 3)]
noncomputable def m28 : Memo := ⟨[.ptr 61 0, I 1], h35, .slice 2040 0 1 1 5 false, h36⟩
theorem m28_run : ranTo (evCall (cxX Tryd.prog bad [] [] [(51, pureFn l0), (27, frameFn [m27])]) 1000 60 26 m28.args m28.h) m28.v m28.h' = true := by kernel_rfl
theorem m28_ok {σ : Nat → Int} {W0 : World} : MemoOk Tryd.prog 119 σ W0 26 m28 := memo_ok fit (Known2.nil σ) (FnsOk.cons (pure_fn_ok (l0_ok)) (FnsOk.cons (frame_fn_ok (all_cons (m27_ok) (all_nil))) (FnsOk.nil))) m28_run
noncomputable def h37 : H := hUpd h33 2080 [] [] []
noncomputable def h38 : H := hUpc h22 2170 [] [] [] [(16, 0, 25, I 3)]
noncomputable def m29 : Memo := ⟨[.ptr 61 0, I 1], h37, .slice 2169 0 2 2 5 false, h38⟩
theorem m29_run : ranTo (evCall (cxX Tryd.prog bad [] [] []) 1000 60 27 m29.args m29.h) m29.v m29.h' = true := by kernel_rfl
theorem m29_ok {σ : Nat → Int} {W0 : World} : MemoOk Tryd.prog 119 σ W0 27 m29 := memo_ok fit (Known2.nil σ) (FnsOk.nil) m29_run
noncomputable def h39 : H := hUpd h33 2079 [] [] []
noncomputable def h40 : H := hUpd h33 2525 [] [] []
noncomputable def m30 : Memo := ⟨[.ptr 61 0, I 1], h39, .snil, h40⟩
theorem m30_run : ranTo (evCall (cxX Tryd.prog bad [] [] [(51, pureFn l0), (27, frameFn [m29])]) 1000 60 25 m30.args m30.h) m30.v m30.h' = true := by kernel_rfl
theorem m30_ok {σ : Nat → Int} {W0 : World} : MemoOk Tryd.prog 119 σ W0 25 m30 := memo_ok fit (Known2.nil σ) (FnsOk.cons (pure_fn_ok (l0_ok)) (FnsOk.cons (frame_fn_ok (all_cons (m29_ok) (all_nil))) (FnsOk.nil))) m30_run
theorem run2 : isTrue (evCall (cxX Tryd.prog bad [] [] ((9, numExtE [(0, 4, .lit 0), (1, 2, .lit 1)]) :: (51, pureFn l2) :: (10, frameFn [m4, m6]) :: (12, frameFn [m5, m7]) :: (25, frameFn [m14, m30]) :: (26, frameFn [m16, m28]) :: q0)) 1000 60 4 [.int .i64 (.var 0), .int .i64 (.var 1), bF] (sentH 211 7 errTab)) = true := by kernel_rfl
theorem case2 {σ : Nat → Int} {W : World} (hL : laidMetH Tryd.prog laidErrs W) (hk : Known2 σ [] []) (hT : TabOk Tryd.prog bad 9 σ [(0, 4, .lit 0), (1, 2, .lit 1)]) {xs : Array Value} (hv : ∀ ρ, VRs σ ρ [.int .i64 (.var 0), .int .i64 (.var 1), bF] xs.toList) : Calls Tryd.prog 4 xs W fun e w' => e = .returned (.bool true) ∧ Below W.heap.size W w' := by
  obtain ⟨ads, h1, h2, h3⟩ := errs_sents hL
  exact law_case_x fit h1 h2 h3 errs_all errs_lt (by kernel_rfl) hk (FnsOk.cons (hT.ok fit) (FnsOk.cons (pure_fn_ok (l2_ok)) (FnsOk.cons (frame_fn_ok (all_cons (m4_ok) (all_cons (m6_ok) (all_nil)))) (FnsOk.cons (frame_fn_ok (all_cons (m5_ok) (all_cons (m7_ok) (all_nil)))) (FnsOk.cons (frame_fn_ok (all_cons (m14_ok) (all_cons (m30_ok) (all_nil)))) (FnsOk.cons (frame_fn_ok (all_cons (m16_ok) (all_cons (m28_ok) (all_nil)))) (q0_ok))))))) hv ⟨_, Tryd.func4, rfl⟩ run2
noncomputable def h41 : H := hUpc h9 1607 [] [] [] [(16, 1, 25, I 3)]
noncomputable def h42 : H := hUpc h26 1697 [] [] [] [(16, 1, 25, I 3)]
noncomputable def m31 : Memo := ⟨[.ptr 61 0, I 1], h41, .slice 1696 0 2 2 5 false, h42⟩
theorem m31_run : ranTo (evCall (cxX Tryd.prog bad [] [] []) 1000 60 27 m31.args m31.h) m31.v m31.h' = true := by kernel_rfl
theorem m31_ok {σ : Nat → Int} {W0 : World} : MemoOk Tryd.prog 119 σ W0 27 m31 := memo_ok fit (Known2.nil σ) (FnsOk.nil) m31_run
noncomputable def h43 : H := hUpd h41 1606 [] [] []
noncomputable def h44 : H := hUpc h28 2065 [] [] [] [(2064, 0, 0, I 3), (16, 1, 25, I 3)]
noncomputable def m32 : Memo := ⟨[.ptr 61 0, I 1], h43, .slice 2064 0 1 1 5 false, h44⟩
theorem m32_run : ranTo (evCall (cxX Tryd.prog bad [] [] [(51, pureFn l0), (27, frameFn [m31])]) 1000 60 25 m32.args m32.h) m32.v m32.h' = true := by kernel_rfl
theorem m32_ok {σ : Nat → Int} {W0 : World} : MemoOk Tryd.prog 119 σ W0 25 m32 := memo_ok fit (Known2.nil σ) (FnsOk.cons (pure_fn_ok (l0_ok)) (FnsOk.cons (frame_fn_ok (all_cons (m31_ok) (all_nil))) (FnsOk.nil))) m32_run
noncomputable def h45 : H := hUpd h41 2092 [] [] []
noncomputable def h46 : H := hUpc h30 2182 [] [] [] [(16, 1, 25, I 3)]
noncomputable def m33 : Memo := ⟨[.ptr 61 0, I 1], h45, .slice 2181 0 2 2 5 false, h46⟩
theorem m33_run : ranTo (evCall (cxX Tryd.prog bad [] [] []) 1000 60 27 m33.args m33.h) m33.v m33.h' = true := by kernel_rfl
theorem m33_ok {σ : Nat → Int} {W0 : World} : MemoOk Tryd.prog 119 σ W0 27 m33 := memo_ok fit (Known2.nil σ) (FnsOk.nil) m33_run
noncomputable def h47 : H := hUpd h41 2091 [] [] []
noncomputable def h48 : H := hUpd h41 2526 [] [] []
noncomputable def m34 : Memo := ⟨[.ptr 61 0, I 1], h47, .snil, h48⟩
theorem m34_run : ranTo (evCall (cxX Tryd.prog bad [] [] [(51, pureFn l0), (27, frameFn [m33])]) 1000 60 26 m34.args m34.h) m34.v m34.h' = true := by kernel_rfl
theorem m34_ok {σ : Nat → Int} {W0 : World} : MemoOk Tryd.prog 119 σ W0 26 m34 := memo_ok fit (Known2.nil σ) (FnsOk.cons (pure_fn_ok (l0_ok)) (FnsOk.cons (frame_fn_ok (all_cons (m33_ok) (all_nil))) (FnsOk.nil))) m34_run
theorem run3 : isTrue (evCall (cxX Tryd.prog bad [] [] ((9, numExtE [(0, 4, .lit 0), (1, 2, .lit 1)]) :: (51, pureFn l2) :: (10, frameFn [m4, m6]) :: (12, frameFn [m5, m7]) :: (25, frameFn [m14, m32]) :: (26, frameFn [m16, m34]) :: q0)) 1000 60 4 [.int .i64 (.var 0), .int .i64 (.var 1), bT] (sentH 211 7 errTab)) = true := by kernel_rfl
theorem case3 {σ : Nat → Int} {W : World} (hL : laidMetH Tryd.prog laidErrs W) (hk : Known2 σ [] []) (hT : TabOk Tryd.prog bad 9 σ [(0, 4, .lit 0), (1, 2, .lit 1)]) {xs : Array Value} (hv : ∀ ρ, VRs σ ρ [.int .i64 (.var 0), .int .i64 (.var 1), bT] xs.toList) : Calls Tryd.prog 4 xs W fun e w' => e = .returned (.bool true) ∧ Below W.heap.size W w' := by
  obtain ⟨ads, h1, h2, h3⟩ := errs_sents hL
  exact law_case_x fit h1 h2 h3 errs_all errs_lt (by kernel_rfl) hk (FnsOk.cons (hT.ok fit) (FnsOk.cons (pure_fn_ok (l2_ok)) (FnsOk.cons (frame_fn_ok (all_cons (m4_ok) (all_cons (m6_ok) (all_nil)))) (FnsOk.cons (frame_fn_ok (all_cons (m5_ok) (all_cons (m7_ok) (all_nil)))) (FnsOk.cons (frame_fn_ok (all_cons (m14_ok) (all_cons (m32_ok) (all_nil)))) (FnsOk.cons (frame_fn_ok (all_cons (m16_ok) (all_cons (m34_ok) (all_nil)))) (q0_ok))))))) hv ⟨_, Tryd.func4, rfl⟩ run3
noncomputable def h49 : H := hUpc h9 606 [58, 50, 60, 56, 48, 61, 57, 49, 59, 47] [(54, .map [(.agg [I 2, I 0], .agg [I 0, I 0], 0), (.agg [I 3, I 0], .agg [I 0, I 0], 1), (.agg [I 2, I 1], .agg [I 1, I 0], 2), (.agg [I 3, I 1], .agg [I 1, I 0], 3), (.agg [I 2, I 2], .agg [I 1, I 0], 4)] 5)] [(14, 2, [bT, I 0, bF]),
  (53, 0, [IZ (-1), I 30, I 5]),
  (53, 1, [I 0, I 20, I 3])] [(16, 0, 0, I 0), (16, 1, 0, I 0), (16, 1, 1, I 0), (16, 1, 5, I 0), (16, 1, 6, I 0), (16, 1, 10, I 0), (16, 1, 13, I 0)]
noncomputable def m35 : Memo := ⟨[.ptr 55 0, I 1, .snil], h8, .tuple [I 2, I 0, .inil], h49⟩
theorem m35_run : ranTo (evCall (cxX Tryd.prog bad [] [] []) 1000 60 10 m35.args m35.h) m35.v m35.h' = true := by kernel_rfl
theorem m35_ok {σ : Nat → Int} {W0 : World} : MemoOk Tryd.prog 119 σ W0 10 m35 := memo_ok fit (Known2.nil σ) (FnsOk.nil) m35_run
noncomputable def h50 : H := hUpd h49 693 [] [(54, .map [(.agg [I 2, I 0], .agg [I 0, I 0], 0), (.agg [I 3, I 0], .agg [I 0, I 0], 1), (.agg [I 2, I 1], .agg [I 1, I 0], 2), (.agg [I 3, I 1], .agg [I 1, I 0], 3), (.agg [I 2, I 2], .agg [I 1, I 0], 4), (.agg [I 3, I 2], .agg [I 1, I 0], 5)] 6)] [(18, 2, [bT, I 0, bF]),
  (53, 0, [IZ (-1), I 30, I 6]),
  (53, 1, [I 0, I 20, I 4])]
noncomputable def m36 : Memo := ⟨[.ptr 55 0, I 1, .snil], h49, .tuple [I 2, I 0, .inil], h50⟩
theorem m36_run : ranTo (evCall (cxX Tryd.prog bad [] [] []) 1000 60 12 m36.args m36.h) m36.v m36.h' = true := by kernel_rfl
theorem m36_ok {σ : Nat → Int} {W0 : World} : MemoOk Tryd.prog 119 σ W0 12 m36 := memo_ok fit (Known2.nil σ) (FnsOk.nil) m36_run
noncomputable def p37 : Pur := ([.agg [I 2, I 2, I 0, I 0, U 0]], .inil, 1048576)
theorem p37_run : ranPure (evCall (cxX Tryd.prog bad [] [] []) 1000 60 51 p37.1 ⟨.lf, p37.2.2⟩) p37.2.1 = true := by kernel_rfl
theorem p37_ok {σ : Nat → Int} {W0 : World} : PureOk Tryd.prog 119 σ W0 51 p37 := pure_ok fit (Known2.nil σ) (FnsOk.nil) p37_run
noncomputable def p38 : Pur := ([.agg [I 3, I 2, I 0, I 0, U 0]], .inil, 1048576)
theorem p38_run : ranPure (evCall (cxX Tryd.prog bad [] [] []) 1000 60 51 p38.1 ⟨.lf, p38.2.2⟩) p38.2.1 = true := by kernel_rfl
theorem p38_ok {σ : Nat → Int} {W0 : World} : PureOk Tryd.prog 119 σ W0 51 p38 := pure_ok fit (Known2.nil σ) (FnsOk.nil) p38_run
noncomputable def h51 : H := hUpc h11 961 [] [(54, .map [(.agg [I 2, I 0], .agg [I 0, I 0], 0), (.agg [I 3, I 0], .agg [I 0, I 0], 1), (.agg [I 2, I 1], .agg [I 1, I 0], 2), (.agg [I 3, I 1], .agg [I 1, I 0], 3), (.agg [I 2, I 2], .agg [I 1, I 0], 4), (.agg [I 3, I 2], .agg [I 1, I 0], 5)] 6)] [(14, 2, [bT, I 0, bF]),
  (18, 2, [bT, I 0, bF]),
  (53, 0, [IZ (-1), I 30, I 6]),
  (53, 1, [I 0, I 20, I 4])] [(16, 1, 6, I 2), (16, 2, 0, I 3), (16, 2, 1, I 2), (16, 2, 5, I 2), (16, 2, 6, I 1), (16, 2, 10, I 3), (16, 2, 13, I 5)]
noncomputable def h52 : H := hUpd h51 1055 [] [(1054, .cells 5 ([[I 2, I 1, I 0, I 0, U 0], [I 2, I 2, I 0, I 0, U 0], [I 3, I 1, I 0, I 0, U 0], [I 3, I 2, I 0, I 0, U 0]]) false)] []
noncomputable def m39 : Memo := ⟨[.ptr 61 0, I 1], h51, .slice 1054 0 4 4 5 false, h52⟩
theorem m39_run : ranTo (evCall (cxX Tryd.prog bad [] [] []) 1000 60 27 m39.args m39.h) m39.v m39.h' = true := by kernel_rfl
theorem m39_ok {σ : Nat → Int} {W0 : World} : MemoOk Tryd.prog 119 σ W0 27 m39 := memo_ok fit (Known2.nil σ) (FnsOk.nil) m39_run
noncomputable def h53 : H := hUpd h51 960 [] [] []
noncomputable def h54 : H := hUpd h51 1550 [] [] []
noncomputable def m40 : Memo := ⟨[.ptr 61 0, I 1], h53, .snil, h54⟩
noncomputable def l5 : List (Pur) := p9 :: p38 :: p10 :: p37 :: p8 :: p13 :: p11 :: []
theorem l5_ok {σ : Nat → Int} {W0 : World} : ∀ x ∈ l5, PureOk Tryd.prog 119 σ W0 51 x := all_cons p9_ok (all_cons p38_ok (all_cons p10_ok (all_cons p37_ok (all_cons p8_ok (all_cons p13_ok (all_cons p11_ok all_nil))))))
theorem m40_run : ranTo (evCall (cxX Tryd.prog bad [] [] [(51, pureFn l5), (27, frameFn [m39])]) 1000 60 25 m40.args m40.h) m40.v m40.h' = true := by kernel_rfl
theorem m40_ok {σ : Nat → Int} {W0 : World} : MemoOk Tryd.prog 119 σ W0 25 m40 := memo_ok fit (Known2.nil σ) (FnsOk.cons (pure_fn_ok (l5_ok)) (FnsOk.cons (frame_fn_ok (all_cons (m39_ok) (all_nil))) (FnsOk.nil))) m40_run
noncomputable def h55 : H := hUpd h51 1551 [] [] []
noncomputable def h56 : H := hUpd h51 1645 [] [(1644, .cells 5 ([[I 2, I 1, I 0, I 0, U 0], [I 2, I 2, I 0, I 0, U 0], [I 3, I 1, I 0, I 0, U 0], [I 3, I 2, I 0, I 0, U 0]]) false)] []
noncomputable def m41 : Memo := ⟨[.ptr 61 0, I 1], h55, .slice 1644 0 4 4 5 false, h56⟩
theorem m41_run : ranTo (evCall (cxX Tryd.prog bad [] [] []) 1000 60 27 m41.args m41.h) m41.v m41.h' = true := by kernel_rfl
theorem m41_ok {σ : Nat → Int} {W0 : World} : MemoOk Tryd.prog 119 σ W0 27 m41 := memo_ok fit (Known2.nil σ) (FnsOk.nil) m41_run
noncomputable def h57 : H := hUpd h51 2118 [] [] []
noncomputable def m42 : Memo := ⟨[.ptr 61 0, I 1], h54, .snil, h57⟩
theorem m42_run : ranTo (evCall (cxX Tryd.prog bad [] [] [(51, pureFn l5), (27, frameFn [m41])]) 1000 60 26 m42.args m42.h) m42.v m42.h' = true := by kernel_rfl
theorem m42_ok {σ : Nat → Int} {W0 : World} : MemoOk Tryd.prog 119 σ W0 26 m42 := memo_ok fit (Known2.nil σ) (FnsOk.cons (pure_fn_ok (l5_ok)) (FnsOk.cons (frame_fn_ok (all_cons (m41_ok) (all_nil))) (FnsOk.nil))) m42_run
noncomputable def h58 : H := hUpd h51 2212 [] [(2211, .cells 5 ([[I 2, I 1, I 0, I 0, U 0], [I 2, I 2, I 0, I 0, U 0], [I 3, I 1, I 0, I 0, U 0], [I 3, I 2, I 0, I 0, U 0]]) false)] []
noncomputable def m43 : Memo := ⟨[.ptr 61 0, I 1], h57, .slice 2211 0 4 4 5 false, h58⟩
theorem m43_run : ranTo (evCall (cxX Tryd.prog bad [] [] []) 1000 60 27 m43.args m43.h) m43.v m43.h' = true := by kernel_rfl
theorem m43_ok {σ : Nat → Int} {W0 : World} : MemoOk Tryd.prog 119 σ W0 27 m43 := memo_ok fit (Known2.nil σ) (FnsOk.nil) m43_run
noncomputable def h59 : H := hUpc h51 2249 [] [] [] [(16, 0, 25, I 2), (16, 0, 26, I 1)]
noncomputable def h60 : H := hUpd h59 2343 [] [(2342, .cells 5 ([[I 2, I 1, I 0, I 0, U 0], [I 2, I 2, I 0, I 0, U 0], [I 3, I 1, I 0, I 0, U 0], [I 3, I 2, I 0, I 0, U 0]]) false)] []
noncomputable def m44 : Memo := ⟨[.ptr 61 0, I 1], h59, .slice 2342 0 4 4 5 false, h60⟩
theorem m44_run : ranTo (evCall (cxX Tryd.prog bad [] [] []) 1000 60 27 m44.args m44.h) m44.v m44.h' = true := by kernel_rfl
theorem m44_ok {σ : Nat → Int} {W0 : World} : MemoOk Tryd.prog 119 σ W0 27 m44 := memo_ok fit (Known2.nil σ) (FnsOk.nil) m44_run
noncomputable def h61 : H := hUpd h59 2248 [] [] []
noncomputable def h62 : H := hUpd h59 2859 [] [(2834, .cells 5 ([[I 2, I 1, I 0, I 0, U 0]]) false)] []
noncomputable def m45 : Memo := ⟨[.ptr 61 0, I 1], h61, .slice 2834 0 1 1 5 false, h62⟩
noncomputable def l6 : List (Pur) := p38 :: p10 :: p37 :: p8 :: p9 :: p13 :: p11 :: []
theorem l6_ok {σ : Nat → Int} {W0 : World} : ∀ x ∈ l6, PureOk Tryd.prog 119 σ W0 51 x := all_cons p38_ok (all_cons p10_ok (all_cons p37_ok (all_cons p8_ok (all_cons p9_ok (all_cons p13_ok (all_cons p11_ok all_nil))))))
theorem m45_run : ranTo (evCall (cxX Tryd.prog bad [] [] [(51, pureFn l6), (27, frameFn [m44])]) 1000 60 26 m45.args m45.h) m45.v m45.h' = true := by kernel_rfl
theorem m45_ok {σ : Nat → Int} {W0 : World} : MemoOk Tryd.prog 119 σ W0 26 m45 := memo_ok fit (Known2.nil σ) (FnsOk.cons (pure_fn_ok (l6_ok)) (FnsOk.cons (frame_fn_ok (all_cons (m44_ok) (all_nil))) (FnsOk.nil))) m45_run
noncomputable def h63 : H := hUpd h59 2886 [] [] []
noncomputable def h64 : H := hUpd h59 2980 [] [(2979, .cells 5 ([[I 2, I 1, I 0, I 0, U 0], [I 2, I 2, I 0, I 0, U 0], [I 3, I 1, I 0, I 0, U 0], [I 3, I 2, I 0, I 0, U 0]]) false)] []
noncomputable def m46 : Memo := ⟨[.ptr 61 0, I 1], h63, .slice 2979 0 4 4 5 false, h64⟩
theorem m46_run : ranTo (evCall (cxX Tryd.prog bad [] [] []) 1000 60 27 m46.args m46.h) m46.v m46.h' = true := by kernel_rfl
theorem m46_ok {σ : Nat → Int} {W0 : World} : MemoOk Tryd.prog 119 σ W0 27 m46 := memo_ok fit (Known2.nil σ) (FnsOk.nil) m46_run
noncomputable def h65 : H := hUpd h59 2885 [] [] []
noncomputable def h66 : H := hUpd h59 3505 [] [] []
noncomputable def m47 : Memo := ⟨[.ptr 61 0, I 1], h65, .snil, h66⟩
theorem m47_run : ranTo (evCall (cxX Tryd.prog bad [] [] [(51, pureFn l6), (27, frameFn [m46])]) 1000 60 25 m47.args m47.h) m47.v m47.h' = true := by kernel_rfl
theorem m47_ok {σ : Nat → Int} {W0 : World} : MemoOk Tryd.prog 119 σ W0 25 m47 := memo_ok fit (Known2.nil σ) (FnsOk.cons (pure_fn_ok (l6_ok)) (FnsOk.cons (frame_fn_ok (all_cons (m46_ok) (all_nil))) (FnsOk.nil))) m47_run
noncomputable def l7 : List (Pur) := p11 :: p9 :: p38 :: p10 :: p37 :: p8 :: []
theorem l7_ok {σ : Nat → Int} {W0 : World} : ∀ x ∈ l7, PureOk Tryd.prog 119 σ W0 51 x := all_cons p11_ok (all_cons p9_ok (all_cons p38_ok (all_cons p10_ok (all_cons p37_ok (all_cons p8_ok all_nil)))))
noncomputable def q1 : Fns := [(22, pureFn [p0]), (6, frameFn [m1]), (7, frameFn [m2]), (15, frameFn [m3]), (27, frameFn [m43])]
theorem q1_ok {σ : Nat → Int} {W0 : World} : FnsOk Tryd.prog 119 σ W0 q1 := FnsOk.cons (pure_fn_ok (all_cons (p0_ok) (all_nil))) (FnsOk.cons (frame_fn_ok (all_cons (m1_ok) (all_nil))) (FnsOk.cons (frame_fn_ok (all_cons (m2_ok) (all_nil))) (FnsOk.cons (frame_fn_ok (all_cons (m3_ok) (all_nil))) (FnsOk.cons (frame_fn_ok (all_cons (m43_ok) (all_nil))) (FnsOk.nil)))))
theorem run4 : isTrue (evCall (cxX Tryd.prog bad [] [] ((9, numExtE [(0, 4, .lit 1), (1, 2, .lit 0)]) :: (51, pureFn l7) :: (10, frameFn [m4, m6, m35]) :: (12, frameFn [m5, m7, m36]) :: (25, frameFn [m40, m47]) :: (26, frameFn [m42, m45]) :: q1)) 1000 60 4 [.int .i64 (.var 0), .int .i64 (.var 1), bF] (sentH 211 7 errTab)) = true := by kernel_rfl
theorem case4 {σ : Nat → Int} {W : World} (hL : laidMetH Tryd.prog laidErrs W) (hk : Known2 σ [] []) (hT : TabOk Tryd.prog bad 9 σ [(0, 4, .lit 1), (1, 2, .lit 0)]) {xs : Array Value} (hv : ∀ ρ, VRs σ ρ [.int .i64 (.var 0), .int .i64 (.var 1), bF] xs.toList) : Calls Tryd.prog 4 xs W fun e w' => e = .returned (.bool true) ∧ Below W.heap.size W w' := by
  obtain ⟨ads, h1, h2, h3⟩ := errs_sents hL
  exact law_case_x fit h1 h2 h3 errs_all errs_lt (by kernel_rfl) hk (FnsOk.cons (hT.ok fit) (FnsOk.cons (pure_fn_ok (l7_ok)) (FnsOk.cons (frame_fn_ok (all_cons (m4_ok) (all_cons (m6_ok) (all_cons (m35_ok) (all_nil))))) (FnsOk.cons (frame_fn_ok (all_cons (m5_ok) (all_cons (m7_ok) (all_cons (m36_ok) (all_nil))))) (FnsOk.cons (frame_fn_ok (all_cons (m40_ok) (all_cons (m47_ok) (all_nil)))) (FnsOk.cons (frame_fn_ok (all_cons (m42_ok) (all_cons (m45_ok) (all_nil)))) (q1_ok))))))) hv ⟨_, Tryd.func4, rfl⟩ run4
noncomputable def h67 : H := hUpc h51 2250 [] [] [] [(16, 2, 25, I 2)]
noncomputable def h68 : H := hUpd h67 2344 [] [(2343, .cells 5 ([[I 2, I 1, I 0, I 0, U 0], [I 2, I 2, I 0, I 0, U 0], [I 3, I 1, I 0, I 0, U 0], [I 3, I 2, I 0, I 0, U 0]]) false)] []
noncomputable def m48 : Memo := ⟨[.ptr 61 0, I 1], h67, .slice 2343 0 4 4 5 false, h68⟩
theorem m48_run : ranTo (evCall (cxX Tryd.prog bad [] [] []) 1000 60 27 m48.args m48.h) m48.v m48.h' = true := by kernel_rfl
theorem m48_ok {σ : Nat → Int} {W0 : World} : MemoOk Tryd.prog 119 σ W0 27 m48 := memo_ok fit (Known2.nil σ) (FnsOk.nil) m48_run
noncomputable def h69 : H := hUpd h67 2249 [] [] []
noncomputable def h70 : H := hUpd h67 2882 [] [(2881, .cells 5 ([[I 2, I 0, I 0, I 0, U 0]]) false)] []
noncomputable def m49 : Memo := ⟨[.ptr 61 0, I 1], h69, .slice 2881 0 1 1 5 false, h70⟩
noncomputable def l8 : List (Pur) := p22 :: l5
theorem l8_ok {σ : Nat → Int} {W0 : World} : ∀ x ∈ l8, PureOk Tryd.prog 119 σ W0 51 x := all_cons p22_ok l5_ok
theorem m49_run : ranTo (evCall (cxX Tryd.prog bad [] [] [(51, pureFn l8), (27, frameFn [m48])]) 1000 60 25 m49.args m49.h) m49.v m49.h' = true := by kernel_rfl
theorem m49_ok {σ : Nat → Int} {W0 : World} : MemoOk Tryd.prog 119 σ W0 25 m49 := memo_ok fit (Known2.nil σ) (FnsOk.cons (pure_fn_ok (l8_ok)) (FnsOk.cons (frame_fn_ok (all_cons (m48_ok) (all_nil))) (FnsOk.nil))) m49_run
noncomputable def h71 : H := hUpd h67 2909 [] [] []
noncomputable def h72 : H := hUpd h67 3003 [] [(3002, .cells 5 ([[I 2, I 1, I 0, I 0, U 0], [I 2, I 2, I 0, I 0, U 0], [I 3, I 1, I 0, I 0, U 0], [I 3, I 2, I 0, I 0, U 0]]) false)] []
noncomputable def m50 : Memo := ⟨[.ptr 61 0, I 1], h71, .slice 3002 0 4 4 5 false, h72⟩
theorem m50_run : ranTo (evCall (cxX Tryd.prog bad [] [] []) 1000 60 27 m50.args m50.h) m50.v m50.h' = true := by kernel_rfl
theorem m50_ok {σ : Nat → Int} {W0 : World} : MemoOk Tryd.prog 119 σ W0 27 m50 := memo_ok fit (Known2.nil σ) (FnsOk.nil) m50_run
noncomputable def h73 : H := hUpd h67 2908 [] [] []
noncomputable def h74 : H := hUpd h67 3506 [] [] []
noncomputable def m51 : Memo := ⟨[.ptr 61 0, I 1], h73, .snil, h74⟩
theorem m51_run : ranTo (evCall (cxX Tryd.prog bad [] [] [(51, pureFn l8), (27, frameFn [m50])]) 1000 60 26 m51.args m51.h) m51.v m51.h' = true := by kernel_rfl
theorem m51_ok {σ : Nat → Int} {W0 : World} : MemoOk Tryd.prog 119 σ W0 26 m51 := memo_ok fit (Known2.nil σ) (FnsOk.cons (pure_fn_ok (l8_ok)) (FnsOk.cons (frame_fn_ok (all_cons (m50_ok) (all_nil))) (FnsOk.nil))) m51_run
noncomputable def l9 : List (Pur) := p22 :: l7
theorem l9_ok {σ : Nat → Int} {W0 : World} : ∀ x ∈ l9, PureOk Tryd.prog 119 σ W0 51 x := all_cons p22_ok l7_ok
theorem run5 : isTrue (evCall (cxX Tryd.prog bad [] [] ((9, numExtE [(0, 4, .lit 1), (1, 2, .lit 0)]) :: (51, pureFn l9) :: (10, frameFn [m4, m6, m35]) :: (12, frameFn [m5, m7, m36]) :: (25, frameFn [m40, m49]) :: (26, frameFn [m42, m51]) :: q1)) 1000 60 4 [.int .i64 (.var 0), .int .i64 (.var 1), bT] (sentH 211 7 errTab)) = true := by kernel_rfl
theorem case5 {σ : Nat → Int} {W : World} (hL : laidMetH Tryd.prog laidErrs W) (hk : Known2 σ [] []) (hT : TabOk Tryd.prog bad 9 σ [(0, 4, .lit 1), (1, 2, .lit 0)]) {xs : Array Value} (hv : ∀ ρ, VRs σ ρ [.int .i64 (.var 0), .int .i64 (.var 1), bT] xs.toList) : Calls Tryd.prog 4 xs W fun e w' => e = .returned (.bool true) ∧ Below W.heap.size W w' := by
  obtain ⟨ads, h1, h2, h3⟩ := errs_sents hL
  exact law_case_x fit h1 h2 h3 errs_all errs_lt (by kernel_rfl) hk (FnsOk.cons (hT.ok fit) (FnsOk.cons (pure_fn_ok (l9_ok)) (FnsOk.cons (frame_fn_ok (all_cons (m4_ok) (all_cons (m6_ok) (all_cons (m35_ok) (all_nil))))) (FnsOk.cons (frame_fn_ok (all_cons (m5_ok) (all_cons (m7_ok) (all_cons (m36_ok) (all_nil))))) (FnsOk.cons (frame_fn_ok (all_cons (m40_ok) (all_cons (m49_ok) (all_nil)))) (FnsOk.cons (frame_fn_ok (all_cons (m42_ok) (all_cons (m51_ok) (all_nil)))) (q1_ok))))))) hv ⟨_, Tryd.func4, rfl⟩ run5
noncomputable def h75 : H := hUpc h59 2249 [] [] [] [(16, 0, 25, I 3)]
noncomputable def h76 : H := hUpc h60 2343 [] [] [] [(16, 0, 25, I 3)]
noncomputable def m52 : Memo := ⟨[.ptr 61 0, I 1], h75, .slice 2342 0 4 4 5 false, h76⟩
theorem m52_run : ranTo (evCall (cxX Tryd.prog bad [] [] []) 1000 60 27 m52.args m52.h) m52.v m52.h' = true := by kernel_rfl
theorem m52_ok {σ : Nat → Int} {W0 : World} : MemoOk Tryd.prog 119 σ W0 27 m52 := memo_ok fit (Known2.nil σ) (FnsOk.nil) m52_run
noncomputable def h77 : H := hUpd h75 2248 [] [] []
noncomputable def h78 : H := hUpc h62 2859 [] [] [] [(2834, 0, 0, I 3), (16, 0, 25, I 3)]
noncomputable def m53 : Memo := ⟨[.ptr 61 0, I 1], h77, .slice 2834 0 1 1 5 false, h78⟩
theorem m53_run : ranTo (evCall (cxX Tryd.prog bad [] [] [(51, pureFn l5), (27, frameFn [m52])]) 1000 60 26 m53.args m53.h) m53.v m53.h' = true := by kernel_rfl
theorem m53_ok {σ : Nat → Int} {W0 : World} : MemoOk Tryd.prog 119 σ W0 26 m53 := memo_ok fit (Known2.nil σ) (FnsOk.cons (pure_fn_ok (l5_ok)) (FnsOk.cons (frame_fn_ok (all_cons (m52_ok) (all_nil))) (FnsOk.nil))) m53_run
noncomputable def h79 : H := hUpd h75 2886 [] [] []
noncomputable def h80 : H := hUpc h64 2980 [] [] [] [(16, 0, 25, I 3)]
noncomputable def m54 : Memo := ⟨[.ptr 61 0, I 1], h79, .slice 2979 0 4 4 5 false, h80⟩
theorem m54_run : ranTo (evCall (cxX Tryd.prog bad [] [] []) 1000 60 27 m54.args m54.h) m54.v m54.h' = true := by kernel_rfl
theorem m54_ok {σ : Nat → Int} {W0 : World} : MemoOk Tryd.prog 119 σ W0 27 m54 := memo_ok fit (Known2.nil σ) (FnsOk.nil) m54_run
noncomputable def h81 : H := hUpd h75 2885 [] [] []
noncomputable def h82 : H := hUpd h75 3505 [] [] []
noncomputable def m55 : Memo := ⟨[.ptr 61 0, I 1], h81, .snil, h82⟩
theorem m55_run : ranTo (evCall (cxX Tryd.prog bad [] [] [(51, pureFn l5), (27, frameFn [m54])]) 1000 60 25 m55.args m55.h) m55.v m55.h' = true := by kernel_rfl
theorem m55_ok {σ : Nat → Int} {W0 : World} : MemoOk Tryd.prog 119 σ W0 25 m55 := memo_ok fit (Known2.nil σ) (FnsOk.cons (pure_fn_ok (l5_ok)) (FnsOk.cons (frame_fn_ok (all_cons (m54_ok) (all_nil))) (FnsOk.nil))) m55_run
theorem run6 : isTrue (evCall (cxX Tryd.prog bad [] [] ((9, numExtE [(0, 4, .lit 1), (1, 2, .lit 1)]) :: (51, pureFn l7) :: (10, frameFn [m4, m6, m35]) :: (12, frameFn [m5, m7, m36]) :: (25, frameFn [m40, m55]) :: (26, frameFn [m42, m53]) :: q1)) 1000 60 4 [.int .i64 (.var 0), .int .i64 (.var 1), bF] (sentH 211 7 errTab)) = true := by kernel_rfl
theorem case6 {σ : Nat → Int} {W : World} (hL : laidMetH Tryd.prog laidErrs W) (hk : Known2 σ [] []) (hT : TabOk Tryd.prog bad 9 σ [(0, 4, .lit 1), (1, 2, .lit 1)]) {xs : Array Value} (hv : ∀ ρ, VRs σ ρ [.int .i64 (.var 0), .int .i64 (.var 1), bF] xs.toList) : Calls Tryd.prog 4 xs W fun e w' => e = .returned (.bool true) ∧ Below W.heap.size W w' := by
  obtain ⟨ads, h1, h2, h3⟩ := errs_sents hL
  exact law_case_x fit h1 h2 h3 errs_all errs_lt (by kernel_rfl) hk (FnsOk.cons (hT.ok fit) (FnsOk.cons (pure_fn_ok (l7_ok)) (FnsOk.cons (frame_fn_ok (all_cons (m4_ok) (all_cons (m6_ok) (all_cons (m35_ok) (all_nil))))) (FnsOk.cons (frame_fn_ok (all_cons (m5_ok) (all_cons (m7_ok) (all_cons (m36_ok) (all_nil))))) (FnsOk.cons (frame_fn_ok (all_cons (m40_ok) (all_cons (m55_ok) (all_nil)))) (FnsOk.cons (frame_fn_ok (all_cons (m42_ok) (all_cons (m53_ok) (all_nil)))) (q1_ok))))))) hv ⟨_, Tryd.func4, rfl⟩ run6
noncomputable def h83 : H := hUpc h51 2250 [] [] [] [(16, 2, 25, I 3)]
noncomputable def h84 : H := hUpc h68 2344 [] [] [] [(16, 2, 25, I 3)]
noncomputable def m56 : Memo := ⟨[.ptr 61 0, I 1], h83, .slice 2343 0 4 4 5 false, h84⟩
theorem m56_run : ranTo (evCall (cxX Tryd.prog bad [] [] []) 1000 60 27 m56.args m56.h) m56.v m56.h' = true := by kernel_rfl
theorem m56_ok {σ : Nat → Int} {W0 : World} : MemoOk Tryd.prog 119 σ W0 27 m56 := memo_ok fit (Known2.nil σ) (FnsOk.nil) m56_run
noncomputable def h85 : H := hUpd h83 2249 [] [] []
noncomputable def h86 : H := hUpc h70 2882 [] [] [] [(16, 2, 25, I 3), (2881, 0, 0, I 3)]
noncomputable def m57 : Memo := ⟨[.ptr 61 0, I 1], h85, .slice 2881 0 1 1 5 false, h86⟩
theorem m57_run : ranTo (evCall (cxX Tryd.prog bad [] [] [(51, pureFn l5), (27, frameFn [m56])]) 1000 60 25 m57.args m57.h) m57.v m57.h' = true := by kernel_rfl
theorem m57_ok {σ : Nat → Int} {W0 : World} : MemoOk Tryd.prog 119 σ W0 25 m57 := memo_ok fit (Known2.nil σ) (FnsOk.cons (pure_fn_ok (l5_ok)) (FnsOk.cons (frame_fn_ok (all_cons (m56_ok) (all_nil))) (FnsOk.nil))) m57_run
noncomputable def h87 : H := hUpd h83 2909 [] [] []
noncomputable def h88 : H := hUpc h72 3003 [] [] [] [(16, 2, 25, I 3)]
noncomputable def m58 : Memo := ⟨[.ptr 61 0, I 1], h87, .slice 3002 0 4 4 5 false, h88⟩
theorem m58_run : ranTo (evCall (cxX Tryd.prog bad [] [] []) 1000 60 27 m58.args m58.h) m58.v m58.h' = true := by kernel_rfl
theorem m58_ok {σ : Nat → Int} {W0 : World} : MemoOk Tryd.prog 119 σ W0 27 m58 := memo_ok fit (Known2.nil σ) (FnsOk.nil) m58_run
noncomputable def h89 : H := hUpd h83 2908 [] [] []
noncomputable def h90 : H := hUpd h83 3506 [] [] []
noncomputable def m59 : Memo := ⟨[.ptr 61 0, I 1], h89, .snil, h90⟩
theorem m59_run : ranTo (evCall (cxX Tryd.prog bad [] [] [(51, pureFn l5), (27, frameFn [m58])]) 1000 60 26 m59.args m59.h) m59.v m59.h' = true := by kernel_rfl
theorem m59_ok {σ : Nat → Int} {W0 : World} : MemoOk Tryd.prog 119 σ W0 26 m59 := memo_ok fit (Known2.nil σ) (FnsOk.cons (pure_fn_ok (l5_ok)) (FnsOk.cons (frame_fn_ok (all_cons (m58_ok) (all_nil))) (FnsOk.nil))) m59_run
theorem run7 : isTrue (evCall (cxX Tryd.prog bad [] [] ((9, numExtE [(0, 4, .lit 1), (1, 2, .lit 1)]) :: (51, pureFn l7) :: (10, frameFn [m4, m6, m35]) :: (12, frameFn [m5, m7, m36]) :: (25, frameFn [m40, m57]) :: (26, frameFn [m42, m59]) :: q1)) 1000 60 4 [.int .i64 (.var 0), .int .i64 (.var 1), bT] (sentH 211 7 errTab)) = true := by kernel_rfl
theorem case7 {σ : Nat → Int} {W : World} (hL : laidMetH Tryd.prog laidErrs W) (hk : Known2 σ [] []) (hT : TabOk Tryd.prog bad 9 σ [(0, 4, .lit 1), (1, 2, .lit 1)]) {xs : Array Value} (hv : ∀ ρ, VRs σ ρ [.int .i64 (.var 0), .int .i64 (.var 1), bT] xs.toList) : Calls Tryd.prog 4 xs W fun e w' => e = .returned (.bool true) ∧ Below W.heap.size W w' := by
  obtain ⟨ads, h1, h2, h3⟩ := errs_sents hL
  exact law_case_x fit h1 h2 h3 errs_all errs_lt (by kernel_rfl) hk (FnsOk.cons (hT.ok fit) (FnsOk.cons (pure_fn_ok (l7_ok)) (FnsOk.cons (frame_fn_ok (all_cons (m4_ok) (all_cons (m6_ok) (all_cons (m35_ok) (all_nil))))) (FnsOk.cons (frame_fn_ok (all_cons (m5_ok) (all_cons (m7_ok) (all_cons (m36_ok) (all_nil))))) (FnsOk.cons (frame_fn_ok (all_cons (m40_ok) (all_cons (m57_ok) (all_nil)))) (FnsOk.cons (frame_fn_ok (all_cons (m42_ok) (all_cons (m59_ok) (all_nil)))) (q1_ok))))))) hv ⟨_, Tryd.func4, rfl⟩ run7
noncomputable def h91 : H := hUpc h51 792 [58, 50, 60, 56, 48, 61, 57, 49, 59, 47] [(54, .map [(.agg [I 2, I 0], .agg [I 0, I 0], 0), (.agg [I 3, I 0], .agg [I 0, I 0], 1), (.agg [I 2, I 1], .agg [I 1, I 0], 2), (.agg [I 3, I 1], .agg [I 1, I 0], 3), (.agg [I 2, I 2], .agg [I 1, I 0], 4), (.agg [I 3, I 2], .agg [I 1, I 0], 5), (.agg [I 2, I 3], .agg [I 1, I 0], 6)] 7)] [(14, 3, [bT, I 0, bF]),
  (53, 0, [IZ (-1), I 30, I 7]),
  (53, 1, [I 0, I 20, I 5])] [(16, 0, 0, I 0), (16, 1, 0, I 0), (16, 1, 1, I 0), (16, 1, 5, I 0), (16, 1, 6, I 0), (16, 1, 10, I 0), (16, 1, 13, I 0), (16, 2, 0, I 0), (16, 2, 1, I 0), (16, 2, 5, I 0), (16, 2, 6, I 0), (16, 2, 10, I 0), (16, 2, 13, I 0)]
noncomputable def m60 : Memo := ⟨[.ptr 55 0, I 1, .snil], h50, .tuple [I 3, I 0, .inil], h91⟩
theorem m60_run : ranTo (evCall (cxX Tryd.prog bad [] [] []) 1000 60 10 m60.args m60.h) m60.v m60.h' = true := by kernel_rfl
theorem m60_ok {σ : Nat → Int} {W0 : World} : MemoOk Tryd.prog 119 σ W0 10 m60 := memo_ok fit (Known2.nil σ) (FnsOk.nil) m60_run
noncomputable def h92 : H := hUpd h91 879 [] [(54, .map [(.agg [I 2, I 0], .agg [I 0, I 0], 0), (.agg [I 3, I 0], .agg [I 0, I 0], 1), (.agg [I 2, I 1], .agg [I 1, I 0], 2), (.agg [I 3, I 1], .agg [I 1, I 0], 3), (.agg [I 2, I 2], .agg [I 1, I 0], 4), (.agg [I 3, I 2], .agg [I 1, I 0], 5), (.agg [I 2, I 3], .agg [I 1, I 0], 6), (.agg [I 3, I 3], .agg [I 1, I 0], 7)] 8)] [(18, 3, [bT, I 0, bF]),
  (53, 0, [IZ (-1), I 30, I 8]),
  (53, 1, [I 0, I 20, I 6])]
noncomputable def m61 : Memo := ⟨[.ptr 55 0, I 1, .snil], h91, .tuple [I 3, I 0, .inil], h92⟩
theorem m61_run : ranTo (evCall (cxX Tryd.prog bad [] [] []) 1000 60 12 m61.args m61.h) m61.v m61.h' = true := by kernel_rfl
theorem m61_ok {σ : Nat → Int} {W0 : World} : MemoOk Tryd.prog 119 σ W0 12 m61 := memo_ok fit (Known2.nil σ) (FnsOk.nil) m61_run
noncomputable def p62 : Pur := ([.agg [I 2, I 3, I 0, I 0, U 0]], .inil, 1048576)
theorem p62_run : ranPure (evCall (cxX Tryd.prog bad [] [] []) 1000 60 51 p62.1 ⟨.lf, p62.2.2⟩) p62.2.1 = true := by kernel_rfl
theorem p62_ok {σ : Nat → Int} {W0 : World} : PureOk Tryd.prog 119 σ W0 51 p62 := pure_ok fit (Known2.nil σ) (FnsOk.nil) p62_run
noncomputable def p63 : Pur := ([.agg [I 3, I 3, I 0, I 0, U 0]], .inil, 1048576)
theorem p63_run : ranPure (evCall (cxX Tryd.prog bad [] [] []) 1000 60 51 p63.1 ⟨.lf, p63.2.2⟩) p63.2.1 = true := by kernel_rfl
theorem p63_ok {σ : Nat → Int} {W0 : World} : PureOk Tryd.prog 119 σ W0 51 p63 := pure_ok fit (Known2.nil σ) (FnsOk.nil) p63_run
noncomputable def h93 : H := hUpc h53 1263 [] [(54, .map [(.agg [I 2, I 0], .agg [I 0, I 0], 0), (.agg [I 3, I 0], .agg [I 0, I 0], 1), (.agg [I 2, I 1], .agg [I 1, I 0], 2), (.agg [I 3, I 1], .agg [I 1, I 0], 3), (.agg [I 2, I 2], .agg [I 1, I 0], 4), (.agg [I 3, I 2], .agg [I 1, I 0], 5), (.agg [I 2, I 3], .agg [I 1, I 0], 6), (.agg [I 3, I 3], .agg [I 1, I 0], 7)] 8)] [(14, 3, [bT, I 0, bF]),
  (18, 3, [bT, I 0, bF]),
  (53, 0, [IZ (-1), I 30, I 8]),
  (53, 1, [I 0, I 20, I 6])] [(16, 2, 6, I 3), (16, 3, 0, I 3), (16, 3, 1, I 3), (16, 3, 5, I 2), (16, 3, 6, I 1), (16, 3, 10, I 3), (16, 3, 13, I 5)]
noncomputable def h94 : H := hUpd h93 1361 [] [(1360, .cells 5 ([[I 2, I 1, I 0, I 0, U 0], [I 2, I 2, I 0, I 0, U 0], [I 2, I 3, I 0, I 0, U 0], [I 3, I 1, I 0, I 0, U 0], [I 3, I 2, I 0, I 0, U 0], [I 3, I 3, I 0, I 0, U 0]]) false)] []
noncomputable def m64 : Memo := ⟨[.ptr 61 0, I 1], h93, .slice 1360 0 6 6 5 false, h94⟩
theorem m64_run : ranTo (evCall (cxX Tryd.prog bad [] [] []) 1000 60 27 m64.args m64.h) m64.v m64.h' = true := by kernel_rfl
theorem m64_ok {σ : Nat → Int} {W0 : World} : MemoOk Tryd.prog 119 σ W0 27 m64 := memo_ok fit (Known2.nil σ) (FnsOk.nil) m64_run
noncomputable def h95 : H := hUpd h93 1262 [] [] []
noncomputable def h96 : H := hUpd h93 2026 [] [] []
noncomputable def m65 : Memo := ⟨[.ptr 61 0, I 1], h95, .snil, h96⟩
noncomputable def l10 : List (Pur) := p9 :: p63 :: p62 :: p38 :: p10 :: p37 :: p8 :: p13 :: p11 :: []
theorem l10_ok {σ : Nat → Int} {W0 : World} : ∀ x ∈ l10, PureOk Tryd.prog 119 σ W0 51 x := all_cons p9_ok (all_cons p63_ok (all_cons p62_ok (all_cons p38_ok (all_cons p10_ok (all_cons p37_ok (all_cons p8_ok (all_cons p13_ok (all_cons p11_ok all_nil))))))))
theorem m65_run : ranTo (evCall (cxX Tryd.prog bad [] [] [(51, pureFn l10), (27, frameFn [m64])]) 1000 60 25 m65.args m65.h) m65.v m65.h' = true := by kernel_rfl
theorem m65_ok {σ : Nat → Int} {W0 : World} : MemoOk Tryd.prog 119 σ W0 25 m65 := memo_ok fit (Known2.nil σ) (FnsOk.cons (pure_fn_ok (l10_ok)) (FnsOk.cons (frame_fn_ok (all_cons (m64_ok) (all_nil))) (FnsOk.nil))) m65_run
noncomputable def h97 : H := hUpd h93 2027 [] [] []
noncomputable def h98 : H := hUpd h93 2125 [] [(2124, .cells 5 ([[I 2, I 1, I 0, I 0, U 0], [I 2, I 2, I 0, I 0, U 0], [I 2, I 3, I 0, I 0, U 0], [I 3, I 1, I 0, I 0, U 0], [I 3, I 2, I 0, I 0, U 0], [I 3, I 3, I 0, I 0, U 0]]) false)] []
noncomputable def m66 : Memo := ⟨[.ptr 61 0, I 1], h97, .slice 2124 0 6 6 5 false, h98⟩
theorem m66_run : ranTo (evCall (cxX Tryd.prog bad [] [] []) 1000 60 27 m66.args m66.h) m66.v m66.h' = true := by kernel_rfl
theorem m66_ok {σ : Nat → Int} {W0 : World} : MemoOk Tryd.prog 119 σ W0 27 m66 := memo_ok fit (Known2.nil σ) (FnsOk.nil) m66_run
noncomputable def h99 : H := hUpd h93 2757 [] [] []
noncomputable def m67 : Memo := ⟨[.ptr 61 0, I 1], h96, .snil, h99⟩
theorem m67_run : ranTo (evCall (cxX Tryd.prog bad [] [] [(51, pureFn l10), (27, frameFn [m66])]) 1000 60 26 m67.args m67.h) m67.v m67.h' = true := by kernel_rfl
theorem m67_ok {σ : Nat → Int} {W0 : World} : MemoOk Tryd.prog 119 σ W0 26 m67 := memo_ok fit (Known2.nil σ) (FnsOk.cons (pure_fn_ok (l10_ok)) (FnsOk.cons (frame_fn_ok (all_cons (m66_ok) (all_nil))) (FnsOk.nil))) m67_run
noncomputable def h100 : H := hUpd h93 2855 [] [(2854, .cells 5 ([[I 2, I 1, I 0, I 0, U 0], [I 2, I 2, I 0, I 0, U 0], [I 2, I 3, I 0, I 0, U 0], [I 3, I 1, I 0, I 0, U 0], [I 3, I 2, I 0, I 0, U 0], [I 3, I 3, I 0, I 0, U 0]]) false)] []
noncomputable def m68 : Memo := ⟨[.ptr 61 0, I 1], h99, .slice 2854 0 6 6 5 false, h100⟩
theorem m68_run : ranTo (evCall (cxX Tryd.prog bad [] [] []) 1000 60 27 m68.args m68.h) m68.v m68.h' = true := by kernel_rfl
theorem m68_ok {σ : Nat → Int} {W0 : World} : MemoOk Tryd.prog 119 σ W0 27 m68 := memo_ok fit (Known2.nil σ) (FnsOk.nil) m68_run
noncomputable def h101 : H := hUpc h93 2892 [] [] [] [(16, 0, 25, I 2), (16, 0, 26, I 1)]
noncomputable def h102 : H := hUpd h101 2990 [] [(2989, .cells 5 ([[I 2, I 1, I 0, I 0, U 0], [I 2, I 2, I 0, I 0, U 0], [I 2, I 3, I 0, I 0, U 0], [I 3, I 1, I 0, I 0, U 0], [I 3, I 2, I 0, I 0, U 0], [I 3, I 3, I 0, I 0, U 0]]) false)] []
noncomputable def m69 : Memo := ⟨[.ptr 61 0, I 1], h101, .slice 2989 0 6 6 5 false, h102⟩
theorem m69_run : ranTo (evCall (cxX Tryd.prog bad [] [] []) 1000 60 27 m69.args m69.h) m69.v m69.h' = true := by kernel_rfl
theorem m69_ok {σ : Nat → Int} {W0 : World} : MemoOk Tryd.prog 119 σ W0 27 m69 := memo_ok fit (Known2.nil σ) (FnsOk.nil) m69_run
noncomputable def h103 : H := hUpd h101 2891 [] [] []
noncomputable def h104 : H := hUpd h101 3665 [] [(3628, .cells 5 ([[I 2, I 1, I 0, I 0, U 0]]) false)] []
noncomputable def m70 : Memo := ⟨[.ptr 61 0, I 1], h103, .slice 3628 0 1 1 5 false, h104⟩
noncomputable def l11 : List (Pur) := p63 :: p62 :: l6
theorem l11_ok {σ : Nat → Int} {W0 : World} : ∀ x ∈ l11, PureOk Tryd.prog 119 σ W0 51 x := all_cons p63_ok (all_cons p62_ok l6_ok)
theorem m70_run : ranTo (evCall (cxX Tryd.prog bad [] [] [(51, pureFn l11), (27, frameFn [m69])]) 1000 60 26 m70.args m70.h) m70.v m70.h' = true := by kernel_rfl
theorem m70_ok {σ : Nat → Int} {W0 : World} : MemoOk Tryd.prog 119 σ W0 26 m70 := memo_ok fit (Known2.nil σ) (FnsOk.cons (pure_fn_ok (l11_ok)) (FnsOk.cons (frame_fn_ok (all_cons (m69_ok) (all_nil))) (FnsOk.nil))) m70_run
noncomputable def h105 : H := hUpd h101 3692 [] [] []
noncomputable def h106 : H := hUpd h101 3790 [] [(3789, .cells 5 ([[I 2, I 1, I 0, I 0, U 0], [I 2, I 2, I 0, I 0, U 0], [I 2, I 3, I 0, I 0, U 0], [I 3, I 1, I 0, I 0, U 0], [I 3, I 2, I 0, I 0, U 0], [I 3, I 3, I 0, I 0, U 0]]) false)] []
noncomputable def m71 : Memo := ⟨[.ptr 61 0, I 1], h105, .slice 3789 0 6 6 5 false, h106⟩
theorem m71_run : ranTo (evCall (cxX Tryd.prog bad [] [] []) 1000 60 27 m71.args m71.h) m71.v m71.h' = true := by kernel_rfl
theorem m71_ok {σ : Nat → Int} {W0 : World} : MemoOk Tryd.prog 119 σ W0 27 m71 := memo_ok fit (Known2.nil σ) (FnsOk.nil) m71_run
noncomputable def h107 : H := hUpd h101 3691 [] [] []
noncomputable def h108 : H := hUpd h101 4485 [] [] []
noncomputable def m72 : Memo := ⟨[.ptr 61 0, I 1], h107, .snil, h108⟩
theorem m72_run : ranTo (evCall (cxX Tryd.prog bad [] [] [(51, pureFn l11), (27, frameFn [m71])]) 1000 60 25 m72.args m72.h) m72.v m72.h' = true := by kernel_rfl
theorem m72_ok {σ : Nat → Int} {W0 : World} : MemoOk Tryd.prog 119 σ W0 25 m72 := memo_ok fit (Known2.nil σ) (FnsOk.cons (pure_fn_ok (l11_ok)) (FnsOk.cons (frame_fn_ok (all_cons (m71_ok) (all_nil))) (FnsOk.nil))) m72_run
noncomputable def l12 : List (Memo) := m60 :: m35 :: m6 :: m4 :: []
theorem l12_ok {σ : Nat → Int} {W0 : World} : ∀ x ∈ l12, MemoOk Tryd.prog 119 σ W0 10 x := all_cons m60_ok (all_cons m35_ok (all_cons m6_ok (all_cons m4_ok all_nil)))
noncomputable def l13 : List (Memo) := m61 :: m36 :: m7 :: m5 :: []
theorem l13_ok {σ : Nat → Int} {W0 : World} : ∀ x ∈ l13, MemoOk Tryd.prog 119 σ W0 12 x := all_cons m61_ok (all_cons m36_ok (all_cons m7_ok (all_cons m5_ok all_nil)))
noncomputable def l14 : List (Pur) := p11 :: p9 :: p63 :: p62 :: p38 :: p10 :: p37 :: p8 :: []
theorem l14_ok {σ : Nat → Int} {W0 : World} : ∀ x ∈ l14, PureOk Tryd.prog 119 σ W0 51 x := all_cons p11_ok (all_cons p9_ok (all_cons p63_ok (all_cons p62_ok (all_cons p38_ok (all_cons p10_ok (all_cons p37_ok (all_cons p8_ok all_nil)))))))
noncomputable def q2 : Fns := [(22, pureFn [p0]), (6, frameFn [m1]), (7, frameFn [m2]), (15, frameFn [m3]), (27, frameFn [m68])]
theorem q2_ok {σ : Nat → Int} {W0 : World} : FnsOk Tryd.prog 119 σ W0 q2 := FnsOk.cons (pure_fn_ok (all_cons (p0_ok) (all_nil))) (FnsOk.cons (frame_fn_ok (all_cons (m1_ok) (all_nil))) (FnsOk.cons (frame_fn_ok (all_cons (m2_ok) (all_nil))) (FnsOk.cons (frame_fn_ok (all_cons (m3_ok) (all_nil))) (FnsOk.cons (frame_fn_ok (all_cons (m68_ok) (all_nil))) (FnsOk.nil)))))
theorem run8 : isTrue (evCall (cxX Tryd.prog bad [] [] ((9, numExtE [(0, 4, .lit 2), (1, 2, .lit 0)]) :: (51, pureFn l14) :: (10, frameFn l12) :: (12, frameFn l13) :: (25, frameFn [m65, m72]) :: (26, frameFn [m67, m70]) :: q2)) 1000 60 4 [.int .i64 (.var 0), .int .i64 (.var 1), bF] (sentH 211 7 errTab)) = true := by kernel_rfl
theorem case8 {σ : Nat → Int} {W : World} (hL : laidMetH Tryd.prog laidErrs W) (hk : Known2 σ [] []) (hT : TabOk Tryd.prog bad 9 σ [(0, 4, .lit 2), (1, 2, .lit 0)]) {xs : Array Value} (hv : ∀ ρ, VRs σ ρ [.int .i64 (.var 0), .int .i64 (.var 1), bF] xs.toList) : Calls Tryd.prog 4 xs W fun e w' => e = .returned (.bool true) ∧ Below W.heap.size W w' := by
  obtain ⟨ads, h1, h2, h3⟩ := errs_sents hL
  exact law_case_x fit h1 h2 h3 errs_all errs_lt (by kernel_rfl) hk (FnsOk.cons (hT.ok fit) (FnsOk.cons (pure_fn_ok (l14_ok)) (FnsOk.cons (frame_fn_ok (l12_ok)) (FnsOk.cons (frame_fn_ok (l13_ok)) (FnsOk.cons (frame_fn_ok (all_cons (m65_ok) (all_cons (m72_ok) (all_nil)))) (FnsOk.cons (frame_fn_ok (all_cons (m67_ok) (all_cons (m70_ok) (all_nil)))) (q2_ok))))))) hv ⟨_, Tryd.func4, rfl⟩ run8
end Go.Proofs.YtalmhgaomgkdbaaDoor.graphEdges
