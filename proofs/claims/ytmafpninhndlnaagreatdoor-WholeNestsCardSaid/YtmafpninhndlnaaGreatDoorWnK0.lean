/- wholeNests: calls that are run once, and the runs of the cases (part 0). -/
import Derived.Test.YtmafpninhndlnaaGreatDoorEvWnF
set_option linter.unusedVariables false
set_option maxRecDepth 10000000
namespace Go.Proofs.YtmafpninhndlnaaGreatDoor.wholeNests
open Tk
open Go.RowKit
noncomputable def h0 : H := sentH 439 19 errTab
noncomputable def q0 : Fns := [(239, isFn 439), (172, atoiFullFn 393), (105, itoaFullFn), (270, countFn), (312, indexFn), (271, cutOf Tryz.prog 26623 bad [(270, countFn), (312, indexFn)] 1000 20 271)]
theorem q0_ok {σ : Nat → Int} {W0 : World} (hL : L0 W0) : FnsOk Tryz.prog 26623 σ W0 q0 := FnsOk.cons (ext_is hL) (FnsOk.cons (ext_atoi hL) (FnsOk.cons (ext_itoa hL) (FnsOk.cons (ext_count hL) (FnsOk.cons (ext_index hL) (FnsOk.cons (ext_cut271 hL) (FnsOk.nil))))))
noncomputable def p0 : Pur := ([.agg [I 3, I 0, I 0, I 0, U 0]], .inil, 1048576)
theorem p0_run : ranPure (evCall (cxX Tryz.prog bad [] [] q0) 1000 60 70 p0.1 ⟨.lf, p0.2.2⟩) p0.2.1 = true := by kernel_rfl
theorem p0_ok {σ : Nat → Int} {W0 : World} (hL : L0 W0) : PureOk Tryz.prog 26623 σ W0 70 p0 := pure_ok fit (Known2.nil σ) ((q0_ok hL)) p0_run
noncomputable def p1 : Pur := ([.agg [I 3, I 1, I 0, I 0, U 0]], .inil, 1048576)
theorem p1_run : ranPure (evCall (cxX Tryz.prog bad [] [] q0) 1000 60 70 p1.1 ⟨.lf, p1.2.2⟩) p1.2.1 = true := by kernel_rfl
theorem p1_ok {σ : Nat → Int} {W0 : World} (hL : L0 W0) : PureOk Tryz.prog 26623 σ W0 70 p1 := pure_ok fit (Known2.nil σ) ((q0_ok hL)) p1_run
noncomputable def p2 : Pur := ([.agg [I 0, I 0, I 0, I 0, U 0]], .inil, 1048576)
theorem p2_run : ranPure (evCall (cxX Tryz.prog bad [] [] q0) 1000 60 70 p2.1 ⟨.lf, p2.2.2⟩) p2.2.1 = true := by kernel_rfl
theorem p2_ok {σ : Nat → Int} {W0 : World} (hL : L0 W0) : PureOk Tryz.prog 26623 σ W0 70 p2 := pure_ok fit (Known2.nil σ) ((q0_ok hL)) p2_run
noncomputable def p3 : Pur := ([.agg [I 2, I 0, I 0, I 0, U 1]], .inil, 1048576)
theorem p3_run : ranPure (evCall (cxX Tryz.prog bad [] [] q0) 1000 60 70 p3.1 ⟨.lf, p3.2.2⟩) p3.2.1 = true := by kernel_rfl
theorem p3_ok {σ : Nat → Int} {W0 : World} (hL : L0 W0) : PureOk Tryz.prog 26623 σ W0 70 p3 := pure_ok fit (Known2.nil σ) ((q0_ok hL)) p3_run
noncomputable def p4 : Pur := ([.agg [I 8, I 0, I 0, I 0, U 0]], .inil, 1048576)
theorem p4_run : ranPure (evCall (cxX Tryz.prog bad [] [] q0) 1000 60 70 p4.1 ⟨.lf, p4.2.2⟩) p4.2.1 = true := by kernel_rfl
theorem p4_ok {σ : Nat → Int} {W0 : World} (hL : L0 W0) : PureOk Tryz.prog 26623 σ W0 70 p4 := pure_ok fit (Known2.nil σ) ((q0_ok hL)) p4_run
noncomputable def p5 : Pur := ([.agg [I 7, I 1, I 0, I 0, U 0]], .inil, 1048576)
theorem p5_run : ranPure (evCall (cxX Tryz.prog bad [] [] q0) 1000 60 70 p5.1 ⟨.lf, p5.2.2⟩) p5.2.1 = true := by kernel_rfl
theorem p5_ok {σ : Nat → Int} {W0 : World} (hL : L0 W0) : PureOk Tryz.prog 26623 σ W0 70 p5 := pure_ok fit (Known2.nil σ) ((q0_ok hL)) p5_run
noncomputable def p6 : Pur := ([.agg [I 11, I 0, I 0, I 0, U 0]], .inil, 1048576)
theorem p6_run : ranPure (evCall (cxX Tryz.prog bad [] [] q0) 1000 60 70 p6.1 ⟨.lf, p6.2.2⟩) p6.2.1 = true := by kernel_rfl
theorem p6_ok {σ : Nat → Int} {W0 : World} (hL : L0 W0) : PureOk Tryz.prog 26623 σ W0 70 p6 := pure_ok fit (Known2.nil σ) ((q0_ok hL)) p6_run
noncomputable def p7 : Pur := ([.agg [I 12, I 0, I 0, I 0, U 0]], .inil, 1048576)
theorem p7_run : ranPure (evCall (cxX Tryz.prog bad [] [] q0) 1000 60 70 p7.1 ⟨.lf, p7.2.2⟩) p7.2.1 = true := by kernel_rfl
theorem p7_ok {σ : Nat → Int} {W0 : World} (hL : L0 W0) : PureOk Tryz.prog 26623 σ W0 70 p7 := pure_ok fit (Known2.nil σ) ((q0_ok hL)) p7_run
noncomputable def p8 : Pur := ([.agg [I 13, I 0, I 0, I 0, U 0]], .inil, 1048576)
theorem p8_run : ranPure (evCall (cxX Tryz.prog bad [] [] q0) 1000 60 70 p8.1 ⟨.lf, p8.2.2⟩) p8.2.1 = true := by kernel_rfl
theorem p8_ok {σ : Nat → Int} {W0 : World} (hL : L0 W0) : PureOk Tryz.prog 26623 σ W0 70 p8 := pure_ok fit (Known2.nil σ) ((q0_ok hL)) p8_run
noncomputable def p9 : Pur := ([.agg [I 14, I 0, I 0, I 0, U 0]], .inil, 1048576)
theorem p9_run : ranPure (evCall (cxX Tryz.prog bad [] [] q0) 1000 60 70 p9.1 ⟨.lf, p9.2.2⟩) p9.2.1 = true := by kernel_rfl
theorem p9_ok {σ : Nat → Int} {W0 : World} (hL : L0 W0) : PureOk Tryz.prog 26623 σ W0 70 p9 := pure_ok fit (Known2.nil σ) ((q0_ok hL)) p9_run
noncomputable def l1 : List (Pur) := p9 :: p8 :: p7 :: p6 :: p5 :: p4 :: p3 :: p2 :: p1 :: p0 :: []
theorem l1_ok {σ : Nat → Int} {W0 : World} (hL : L0 W0) : ∀ x ∈ l1, PureOk Tryz.prog 26623 σ W0 70 x := all_cons (p9_ok hL) (all_cons (p8_ok hL) (all_cons (p7_ok hL) (all_cons (p6_ok hL) (all_cons (p5_ok hL) (all_cons (p4_ok hL) (all_cons (p3_ok hL) (all_cons (p2_ok hL) (all_cons (p1_ok hL) (all_cons (p0_ok hL) (all_nil))))))))))
noncomputable def p10 : Pur := ([], bT, 262144)
theorem p10_run : ranPure (evCall (cxX Tryz.prog bad [] [] ((70, pureFn l1) :: q0)) 1000 60 7 p10.1 ⟨.lf, p10.2.2⟩) p10.2.1 = true := by kernel_rfl
theorem p10_ok {σ : Nat → Int} {W0 : World} (hL : L0 W0) : PureOk Tryz.prog 26623 σ W0 7 p10 := pure_ok fit (Known2.nil σ) (FnsOk.cons (pure_fn_ok (l1_ok hL)) ((q0_ok hL))) p10_run
noncomputable def h1 : H := hUpd h0 69 [] [(66, .map [(.str [97, 103, 97, 105, 110], I 0, 0)] 1),
  (45, .cells 1 ([[.str [108, 105]], [.str [114, 48]], [.str [49]]]) false)] []
noncomputable def h2 : H := hUpd h1 130 [] [] []
noncomputable def m11 : Memo := ⟨[.slice 45 0 3 3 1 false, .map 66], h1, .tuple [U 16777217, .inil], h2⟩
theorem m11_run : ranTo (evCall (cxX Tryz.prog bad [] [] q0) 1000 60 83 m11.args m11.h) m11.v m11.h' = true := by kernel_rfl
theorem m11_ok {σ : Nat → Int} {W0 : World} (hL : L0 W0) : MemoOk Tryz.prog 26623 σ W0 83 m11 := memo_ok fit (Known2.nil σ) ((q0_ok hL)) m11_run
noncomputable def h3 : H := hUpd h1 132 [45] [(56, .cells 1 ([[.str [105, 110, 118]], [.str [99, 97, 108, 108]], [.str [107, 50]], [.str [107, 48]]]) false)] []
noncomputable def h4 : H := hUpd h3 207 [] [] []
noncomputable def m12 : Memo := ⟨[.slice 56 0 4 4 1 false, .map 66], h3, .tuple [U 184680448, .inil], h4⟩
theorem m12_run : ranTo (evCall (cxX Tryz.prog bad [] [] q0) 1000 60 83 m12.args m12.h) m12.v m12.h' = true := by kernel_rfl
theorem m12_ok {σ : Nat → Int} {W0 : World} (hL : L0 W0) : MemoOk Tryz.prog 26623 σ W0 83 m12 := memo_ok fit (Known2.nil σ) ((q0_ok hL)) m12_run
noncomputable def h5 : H := hUpd h1 209 [45] [(63, .cells 1 ([[.str [106, 109, 112]], [.str [97, 103, 97, 105, 110]]]) false)] []
noncomputable def h6 : H := hUpd h5 259 [] [] []
noncomputable def m13 : Memo := ⟨[.slice 63 0 2 2 1 false, .map 66], h5, .tuple [U 67108864, .inil], h6⟩
theorem m13_run : ranTo (evCall (cxX Tryz.prog bad [] [] q0) 1000 60 83 m13.args m13.h) m13.v m13.h' = true := by kernel_rfl
theorem m13_ok {σ : Nat → Int} {W0 : World} (hL : L0 W0) : MemoOk Tryz.prog 26623 σ W0 83 m13 := memo_ok fit (Known2.nil σ) ((q0_ok hL)) m13_run
noncomputable def h7 : H := hUpd h0 33 [] [(32, .cells 1 ([[.str [97, 103, 97, 105, 110, 58]], [.str [108, 105, 32, 114, 48, 32, 49]], [.str [105, 110, 118, 32, 99, 97, 108, 108, 32, 107, 50, 32, 107, 48]], [.str [106, 109, 112, 32, 97, 103, 97, 105, 110]]]) false)] []
noncomputable def h8 : H := hUpd h7 261 [] [(260, .cells 1 ([[U 16777217], [U 184680448], [U 67108864]]) false)] []
noncomputable def m14 : Memo := ⟨[bT, I 9, .snil, .slice 32 0 4 4 1 true], h7, .agg [.slice 260 0 3 3 1 false, I 9, .snil, bT], h8⟩
theorem m14_run : ranTo (evCall (cxX Tryz.prog bad [] [] ((83, frameFn [m11, m12, m13]) :: q0)) 1000 60 9 m14.args m14.h) m14.v m14.h' = true := by kernel_rfl
theorem m14_ok {σ : Nat → Int} {W0 : World} (hL : L0 W0) : MemoOk Tryz.prog 26623 σ W0 9 m14 := memo_ok fit (Known2.nil σ) (FnsOk.cons (frame_fn_ok (all_cons (m11_ok hL) (all_cons (m12_ok hL) (all_cons (m13_ok hL) (all_nil))))) ((q0_ok hL))) m14_run
noncomputable def h9 : H := hUpd h0 269 [] [(268, .map [] 0),
  (265, .cells 1 ([[.str [104, 97, 108, 116]]]) false)] []
noncomputable def h10 : H := hUpd h9 318 [] [] []
noncomputable def m15 : Memo := ⟨[.slice 265 0 1 1 1 false, .map 268], h9, .tuple [U 218103808, .inil], h10⟩
theorem m15_run : ranTo (evCall (cxX Tryz.prog bad [] [] q0) 1000 60 83 m15.args m15.h) m15.v m15.h' = true := by kernel_rfl
theorem m15_ok {σ : Nat → Int} {W0 : World} (hL : L0 W0) : MemoOk Tryz.prog 26623 σ W0 83 m15 := memo_ok fit (Known2.nil σ) ((q0_ok hL)) m15_run
noncomputable def h11 : H := hUpd h0 262 [] [(261, .cells 1 ([[.str [104, 97, 108, 116]]]) false)] []
noncomputable def h12 : H := hUpd h11 320 [] [(319, .cells 1 ([[U 218103808]]) false)] []
noncomputable def m16 : Memo := ⟨[bF, I 5, .snil, .slice 261 0 1 1 1 true], h11, .agg [.slice 319 0 1 1 1 false, I 5, .snil, bF], h12⟩
noncomputable def q2 : Fns := [(83, frameFn [m15]), (239, isFn 439), (172, atoiFullFn 393), (105, itoaFullFn), (270, countFn), (312, indexFn), (271, cutOf Tryz.prog 26623 bad [(270, countFn), (312, indexFn)] 1000 20 271)]
theorem q2_ok {σ : Nat → Int} {W0 : World} (hL : L0 W0) : FnsOk Tryz.prog 26623 σ W0 q2 := FnsOk.cons (frame_fn_ok (all_cons (m15_ok hL) (all_nil))) (FnsOk.cons (ext_is hL) (FnsOk.cons (ext_atoi hL) (FnsOk.cons (ext_itoa hL) (FnsOk.cons (ext_count hL) (FnsOk.cons (ext_index hL) (FnsOk.cons (ext_cut271 hL) (FnsOk.nil)))))))
theorem m16_run : ranTo (evCall (cxX Tryz.prog bad [] [] q2) 1000 60 9 m16.args m16.h) m16.v m16.h' = true := by kernel_rfl
theorem m16_ok {σ : Nat → Int} {W0 : World} (hL : L0 W0) : MemoOk Tryz.prog 26623 σ W0 9 m16 := memo_ok fit (Known2.nil σ) ((q2_ok hL)) m16_run
noncomputable def h13 : H := hUpd h12 321 [261] [(320, .cells 4 ([[.slice 319 0 1 1 1 false, I 5, .snil, bF]]) false)] []
noncomputable def h14 : H := hUpd h13 1024 [] [(366, .cells 2 ([[.ptr 364 0, .slice 365 0 12 12 2 true]]) false),
  (334, .cells 3 ([[.ptr 332 0, I 16, .ptr 333 0]]) false),
  (374, .cells 31 (rp 6 ((bF) :: rp 4 (I 0) ((U 0) :: rp 4 (I 0) ((U 0) :: rp 4 (I 0) ((U 0) :: rp 4 (I 0) ((U 0) :: rp 4 (I 0) ((U 0) :: rp 4 (I 0) ([U 0]))))))) ([])) false),
  (342, .cells 1 ([[.snil]]) false),
  (326, .cells 80 (((I 3) :: (I 0) :: (I 0) :: (I 0) :: (U 0) :: (I 3) :: (I 1) :: (I 0) :: (I 0) :: (U 0) :: rp 4 (I 0) ((U 0) :: rp 4 (I 0) ((U 0) :: rp 4 (I 0) ((U 0) :: rp 4 (I 0) ((U 0) :: rp 4 (I 0) ((U 0) :: rp 4 (I 0) ((U 0) :: rp 4 (I 0) ((U 0) :: rp 4 (I 0) ((U 0) :: rp 4 (I 0) ((U 0) :: rp 4 (I 0) ((U 0) :: rp 4 (I 0) ((U 0) :: rp 4 (I 0) ((U 0) :: rp 4 (I 0) ((U 0) :: rp 4 (I 0) ([U 0]))))))))))))))) :: rp 15 (rp 4 (I 0) ((U 0) :: rp 4 (I 0) ((U 0) :: rp 4 (I 0) ((U 0) :: rp 4 (I 0) ((U 0) :: rp 4 (I 0) ((U 0) :: rp 4 (I 0) ((U 0) :: rp 4 (I 0) ((U 0) :: rp 4 (I 0) ((U 0) :: rp 4 (I 0) ((U 0) :: rp 4 (I 0) ((U 0) :: rp 4 (I 0) ((U 0) :: rp 4 (I 0) ((U 0) :: rp 4 (I 0) ((U 0) :: rp 4 (I 0) ((U 0) :: rp 4 (I 0) ((U 0) :: rp 4 (I 0) ([U 0]))))))))))))))))) ([])) false),
  (362, .cells 1 ([[.ptr 339 0], [.ptr 342 0], [.ptr 345 0], [.ptr 348 0], [.ptr 351 0], [.ptr 354 0], [.ptr 357 0], [.ptr 360 0]]) false),
  (330, .cells 32 (((U 218103808) :: rp 31 (U 0) ([])) :: rp 23 (rp 32 (U 0) ([])) ([])) false),
  (370, .map [(.agg [I 3, I 0], .agg [I 0, I 0], 0), (.agg [I 3, I 1], .agg [I 0, I 0], 1), (.agg [I 2, I 0], .agg [I 0, I 0], 2), (.agg [I 4, I 0], .agg [I 0, I 0], 3)] 4),
  (338, .cells 3 ([[.ptr 336 0, .slice 337 0 8 8 107 true, .slice 362 0 8 8 1 false]]) false),
  (354, .cells 1 ([[.snil]]) false),
  (348, .cells 1 ([[.snil]]) false),
  (364, .cells 1 ([[.slice 363 0 12 12 3 true]]) false),
  (332, .cells 2 ([[.ptr 327 0, .ptr 331 0]]) false),
  (372, .cells 3 (rp 6 ([bF, I 0, bF]) ([])) false),
  (324, .cells 3 ([bT, I 0, bF] :: rp 15 ([bF, I 0, bF]) ([])) false),
  (376, .cells 1 ([[.snil]]) false),
  (360, .cells 1 ([[.snil]]) false),
  (328, .cells 3 ([bT, I 0, bF] :: [bT, I 0, bF] :: rp 22 ([bF, I 0, bF]) ([])) false),
  (368, .cells 1 ([[.slice 367 0 8 8 3 true]]) false),
  (336, .cells 1 ([[.slice 335 0 8 8 3 true]]) false),
  (365, .cells 2 ([IZ (-1), I 2147483647] :: [I 0, I 5] :: rp 10 ([I 0, I 0]) ([])) false),
  (333, .cells 3 ([[I 16, .snil, I 0]]) false),
  (373, .cells 1 ([[.slice 372 0 6 6 3 true]]) false),
  (357, .cells 1 ([[.snil]]) false),
  (325, .cells 1 ([[.slice 324 0 16 16 3 true]]) false),
  (377, .cells 9 ([[.ptr 334 0, .ptr 338 0, .ptr 366 0, .ptr 371 0, .ptr 375 0, .ptr 376 0, .snil, .snil, I 0]]) false),
  (345, .cells 1 ([[.snil]]) false),
  (329, .cells 1 ([[.slice 328 0 24 24 3 true]]) false),
  (369, .cells 3 ([IZ (-1), I 60, I 4] :: rp 7 ([I 0, I 0, I 0]) ([])) false),
  (337, .cells 107 ((rp 9 (U 0) ((I 1) :: (I 0) :: (I 8) :: (I 0) :: (I 0) :: (I 0) :: (U 0) :: (I 7) :: (I 1) :: (I 0) :: (I 0) :: (U 0) :: (I 11) :: (I 0) :: (I 0) :: (I 0) :: (U 0) :: (I 12) :: (I 0) :: (I 0) :: (I 0) :: (U 0) :: (I 13) :: (I 0) :: (I 0) :: (I 0) :: (U 0) :: (I 14) :: (I 0) :: (I 0) :: (I 0) :: (U 0) :: rp 4 (I 0) ((U 0) :: rp 4 (I 0) ((U 0) :: rp 4 (I 0) ((U 0) :: rp 4 (I 0) ((U 0) :: rp 4 (I 0) ((U 0) :: rp 4 (I 0) ((U 0) :: rp 4 (I 0) ((U 0) :: rp 4 (I 0) ((U 0) :: rp 4 (I 0) ((U 0) :: rp 4 (I 0) ((U 0) :: (I 2) :: (I 0) :: (I 0) :: (I 0) :: (U 1) :: (I 7) :: (I 1) :: (I 0) :: (I 0) :: (U 0) :: rp 4 (I 0) ([U 0, I 0]))))))))))))) :: rp 7 (rp 9 (U 0) (rp 6 (I 0) ((U 0) :: rp 4 (I 0) ((U 0) :: rp 4 (I 0) ((U 0) :: rp 4 (I 0) ((U 0) :: rp 4 (I 0) ((U 0) :: rp 4 (I 0) ((U 0) :: rp 4 (I 0) ((U 0) :: rp 4 (I 0) ((U 0) :: rp 4 (I 0) ((U 0) :: rp 4 (I 0) ((U 0) :: rp 4 (I 0) ((U 0) :: rp 4 (I 0) ((U 0) :: rp 4 (I 0) ((U 0) :: rp 4 (I 0) ((U 0) :: rp 4 (I 0) ((U 0) :: rp 4 (I 0) ((U 0) :: rp 4 (I 0) ((U 0) :: rp 4 (I 0) ((U 0) :: rp 4 (I 0) ([U 0, I 0]))))))))))))))))))))) ([])) false),
  (363, .cells 3 ([bT, I 0, bF] :: [bT, I 0, bF] :: rp 10 ([bF, I 0, bF]) ([])) false),
  (331, .cells 2 ([[.ptr 329 0, .slice 330 0 24 24 32 true]]) false),
  (371, .cells 5 ([[.ptr 368 0, .slice 369 0 8 8 3 true, .map 370, .ptr 334 0, .ptr 338 0]]) false),
  (339, .cells 1 ([[.snil]]) false),
  (375, .cells 2 ([[.ptr 373 0, .slice 374 0 6 6 31 true]]) false),
  (327, .cells 2 ([[.ptr 325 0, .slice 326 0 16 16 80 true]]) false),
  (367, .cells 3 ([bT, I 0, bF] :: rp 7 ([bF, I 0, bF]) ([])) false),
  (335, .cells 3 ([bT, I 0, bF] :: rp 7 ([bF, I 0, bF]) ([])) false),
  (351, .cells 1 ([[.snil]]) false)] []
noncomputable def m17 : Memo := ⟨[.slice 320 0 1 1 4 true], h13, .ptr 377 0, h14⟩
theorem m17_run : ranTo (evCall (cxX Tryz.prog bad [] [] ((70, pureFn l1) :: q0)) 1000 60 10 m17.args m17.h) m17.v m17.h' = true := by kernel_rfl
theorem m17_ok {σ : Nat → Int} {W0 : World} (hL : L0 W0) : MemoOk Tryz.prog 26623 σ W0 10 m17 := memo_ok fit (Known2.nil σ) (FnsOk.cons (pure_fn_ok (l1_ok hL)) ((q0_ok hL))) m17_run
noncomputable def h15 : H := hUpc h14 1177 [320, 319] [(370, .map [(.agg [I 3, I 0], .agg [I 0, I 0], 0), (.agg [I 3, I 1], .agg [I 0, I 0], 1), (.agg [I 2, I 0], .agg [I 0, I 0], 2), (.agg [I 4, I 0], .agg [I 0, I 0], 3), (.agg [I 3, I 2], .agg [I 0, I 0], 4), (.agg [I 3, I 3], .agg [I 0, I 0], 5)] 6)] [(328, 2, [bT, I 0, bF]),
  (328, 3, [bT, I 0, bF]),
  (369, 0, [IZ (-1), I 60, I 6])] [(330, 2, 0, U 218103808), (330, 3, 0, U 16777217), (330, 3, 1, U 184680448), (330, 3, 2, U 67108864)]
noncomputable def h16 : H := hUpd h15 1280 [] [] [(372, 0, [bT, I 0, bF])]
noncomputable def m18 : Memo := ⟨[.ptr 377 0, .agg [I 11, I 0, I 0, I 0, U 0], U 0, U 0, .agg [I 0, I 0, I 0, I 0, U 0], .agg [I 0, I 0, I 0, I 0, U 0]], h15, .agg [U 0, U 0, U 0, U 0, I 10, I 0, I 0, I 0, U 0, I 0, I 0, I 0, I 0, U 0, I 0, I 0, I 0, I 0, U 0], h16⟩
theorem m18_run : ranTo (evCall (cxX Tryz.prog bad [] [] ((70, pureFn [p6, p2]) :: q0)) 1000 60 13 m18.args m18.h) m18.v m18.h' = true := by kernel_rfl
theorem m18_ok {σ : Nat → Int} {W0 : World} (hL : L0 W0) : MemoOk Tryz.prog 26623 σ W0 13 m18 := memo_ok fit (Known2.nil σ) (FnsOk.cons (pure_fn_ok (all_cons (p6_ok hL) (all_cons (p2_ok hL) (all_nil)))) ((q0_ok hL))) m18_run
noncomputable def p19 : Pur := ([.agg [I 10, I 0, I 0, I 0, U 0]], .inil, 1048576)
theorem p19_run : ranPure (evCall (cxX Tryz.prog bad [] [] q0) 1000 60 70 p19.1 ⟨.lf, p19.2.2⟩) p19.2.1 = true := by kernel_rfl
theorem p19_ok {σ : Nat → Int} {W0 : World} (hL : L0 W0) : PureOk Tryz.prog 26623 σ W0 70 p19 := pure_ok fit (Known2.nil σ) ((q0_ok hL)) p19_run
noncomputable def p20 : Pur := ([.agg [I 3, I 2, I 0, I 5, U 0]], .inil, 1048576)
theorem p20_run : ranPure (evCall (cxX Tryz.prog bad [] [] q0) 1000 60 70 p20.1 ⟨.lf, p20.2.2⟩) p20.2.1 = true := by kernel_rfl
theorem p20_ok {σ : Nat → Int} {W0 : World} (hL : L0 W0) : PureOk Tryz.prog 26623 σ W0 70 p20 := pure_ok fit (Known2.nil σ) ((q0_ok hL)) p20_run
noncomputable def h17 : H := hUpd h16 1293 [] [] []
noncomputable def h18 : H := hUpc h16 1536 [] [] [] [(374, 0, 1, I 3), (374, 0, 2, I 2), (374, 0, 4, I 5)]
noncomputable def m21 : Memo := ⟨[.ptr 377 0, .agg [I 10, I 0, I 0, I 0, U 0], U 0, U 0, .agg [I 3, I 2, I 0, I 5, U 0], .agg [I 0, I 0, I 0, I 0, U 0]], h17, .agg [U 0, U 0, U 0, U 0, I 0, I 0, I 0, I 0, U 0, I 0, I 0, I 0, I 0, U 0, I 0, I 0, I 0, I 0, U 0], h18⟩
theorem m21_run : ranTo (evCall (cxX Tryz.prog bad [] [] ((70, pureFn [p19, p20, p2]) :: q0)) 1000 60 13 m21.args m21.h) m21.v m21.h' = true := by kernel_rfl
theorem m21_ok {σ : Nat → Int} {W0 : World} (hL : L0 W0) : MemoOk Tryz.prog 26623 σ W0 13 m21 := memo_ok fit (Known2.nil σ) (FnsOk.cons (pure_fn_ok (all_cons (p19_ok hL) (all_cons (p20_ok hL) (all_cons (p2_ok hL) (all_nil))))) ((q0_ok hL))) m21_run
noncomputable def h19 : H := hUpc h18 1792 [] [] [] [(374, 0, 0, bT)]
noncomputable def m22 : Memo := ⟨[.ptr 377 0, .agg [I 10, I 0, I 0, I 0, U 0], U 1, U 0, .agg [I 0, I 0, I 0, I 0, U 0], .agg [I 0, I 0, I 0, I 0, U 0]], h18, .agg [U 0, U 0, U 0, U 0, I 9, I 0, I 0, I 0, U 0, I 0, I 0, I 0, I 0, U 0, I 0, I 0, I 0, I 0, U 0], h19⟩
theorem m22_run : ranTo (evCall (cxX Tryz.prog bad [] [] ((70, pureFn [p19, p2]) :: q0)) 1000 60 13 m22.args m22.h) m22.v m22.h' = true := by kernel_rfl
theorem m22_ok {σ : Nat → Int} {W0 : World} (hL : L0 W0) : MemoOk Tryz.prog 26623 σ W0 13 m22 := memo_ok fit (Known2.nil σ) (FnsOk.cons (pure_fn_ok (all_cons (p19_ok hL) (all_cons (p2_ok hL) (all_nil)))) ((q0_ok hL))) m22_run
noncomputable def h20 : H := hUpd h19 1793 [] [] []
noncomputable def h21 : H := hUpd h19 2048 [] [] [(372, 1, [bT, I 0, bF])]
noncomputable def m23 : Memo := ⟨[.ptr 377 0, .agg [I 11, I 0, I 0, I 0, U 0], U 0, U 0, .agg [I 0, I 0, I 0, I 0, U 0], .agg [I 0, I 0, I 0, I 0, U 0]], h20, .agg [U 0, U 0, U 0, U 0, I 10, I 1, I 0, I 0, U 0, I 0, I 0, I 0, I 0, U 0, I 0, I 0, I 0, I 0, U 0], h21⟩
theorem m23_run : ranTo (evCall (cxX Tryz.prog bad [] [] ((70, pureFn [p6, p2]) :: q0)) 1000 60 13 m23.args m23.h) m23.v m23.h' = true := by kernel_rfl
theorem m23_ok {σ : Nat → Int} {W0 : World} (hL : L0 W0) : MemoOk Tryz.prog 26623 σ W0 13 m23 := memo_ok fit (Known2.nil σ) (FnsOk.cons (pure_fn_ok (all_cons (p6_ok hL) (all_cons (p2_ok hL) (all_nil)))) ((q0_ok hL))) m23_run
noncomputable def p24 : Pur := ([.agg [I 10, I 1, I 0, I 0, U 0]], .inil, 1048576)
theorem p24_run : ranPure (evCall (cxX Tryz.prog bad [] [] q0) 1000 60 70 p24.1 ⟨.lf, p24.2.2⟩) p24.2.1 = true := by kernel_rfl
theorem p24_ok {σ : Nat → Int} {W0 : World} (hL : L0 W0) : PureOk Tryz.prog 26623 σ W0 70 p24 := pure_ok fit (Known2.nil σ) ((q0_ok hL)) p24_run
noncomputable def p25 : Pur := ([.agg [I 3, I 3, I 0, I 5, U 0]], .inil, 1048576)
theorem p25_run : ranPure (evCall (cxX Tryz.prog bad [] [] q0) 1000 60 70 p25.1 ⟨.lf, p25.2.2⟩) p25.2.1 = true := by kernel_rfl
theorem p25_ok {σ : Nat → Int} {W0 : World} (hL : L0 W0) : PureOk Tryz.prog 26623 σ W0 70 p25 := pure_ok fit (Known2.nil σ) ((q0_ok hL)) p25_run
noncomputable def h22 : H := hUpd h21 2061 [] [] []
noncomputable def h23 : H := hUpc h21 2304 [] [] [] [(374, 1, 1, I 3), (374, 1, 2, I 3), (374, 1, 4, I 5)]
noncomputable def m26 : Memo := ⟨[.ptr 377 0, .agg [I 10, I 1, I 0, I 0, U 0], U 0, U 0, .agg [I 3, I 3, I 0, I 5, U 0], .agg [I 0, I 0, I 0, I 0, U 0]], h22, .agg [U 0, U 0, U 0, U 0, I 0, I 0, I 0, I 0, U 0, I 0, I 0, I 0, I 0, U 0, I 0, I 0, I 0, I 0, U 0], h23⟩
theorem m26_run : ranTo (evCall (cxX Tryz.prog bad [] [] ((70, pureFn [p24, p25, p2]) :: q0)) 1000 60 13 m26.args m26.h) m26.v m26.h' = true := by kernel_rfl
theorem m26_ok {σ : Nat → Int} {W0 : World} (hL : L0 W0) : MemoOk Tryz.prog 26623 σ W0 13 m26 := memo_ok fit (Known2.nil σ) (FnsOk.cons (pure_fn_ok (all_cons (p24_ok hL) (all_cons (p25_ok hL) (all_cons (p2_ok hL) (all_nil))))) ((q0_ok hL))) m26_run
noncomputable def p27 : Pur := ([.agg [I 9, I 0, I 0, I 0, U 0]], .inil, 1048576)
theorem p27_run : ranPure (evCall (cxX Tryz.prog bad [] [] q0) 1000 60 70 p27.1 ⟨.lf, p27.2.2⟩) p27.2.1 = true := by kernel_rfl
theorem p27_ok {σ : Nat → Int} {W0 : World} (hL : L0 W0) : PureOk Tryz.prog 26623 σ W0 70 p27 := pure_ok fit (Known2.nil σ) ((q0_ok hL)) p27_run
noncomputable def h24 : H := hUpc h23 2560 [] [] [] [(374, 1, 6, I 9)]
noncomputable def m28 : Memo := ⟨[.ptr 377 0, .agg [I 10, I 1, I 0, I 0, U 0], U 0, U 1, .agg [I 9, I 0, I 0, I 0, U 0], .agg [I 0, I 0, I 0, I 0, U 0]], h23, .agg [U 0, U 0, U 0, U 0, I 0, I 0, I 0, I 0, U 0, I 0, I 0, I 0, I 0, U 0, I 0, I 0, I 0, I 0, U 0], h24⟩
theorem m28_run : ranTo (evCall (cxX Tryz.prog bad [] [] ((70, pureFn [p24, p27, p2]) :: q0)) 1000 60 13 m28.args m28.h) m28.v m28.h' = true := by kernel_rfl
theorem m28_ok {σ : Nat → Int} {W0 : World} (hL : L0 W0) : MemoOk Tryz.prog 26623 σ W0 13 m28 := memo_ok fit (Known2.nil σ) (FnsOk.cons (pure_fn_ok (all_cons (p24_ok hL) (all_cons (p27_ok hL) (all_cons (p2_ok hL) (all_nil))))) ((q0_ok hL))) m28_run
noncomputable def h25 : H := hUpc h24 2816 [] [] [] [(374, 1, 0, bT)]
noncomputable def m29 : Memo := ⟨[.ptr 377 0, .agg [I 10, I 1, I 0, I 0, U 0], U 1, U 0, .agg [I 0, I 0, I 0, I 0, U 0], .agg [I 0, I 0, I 0, I 0, U 0]], h24, .agg [U 0, U 0, U 0, U 0, I 9, I 1, I 0, I 0, U 0, I 0, I 0, I 0, I 0, U 0, I 0, I 0, I 0, I 0, U 0], h25⟩
theorem m29_run : ranTo (evCall (cxX Tryz.prog bad [] [] ((70, pureFn [p24, p2]) :: q0)) 1000 60 13 m29.args m29.h) m29.v m29.h' = true := by kernel_rfl
theorem m29_ok {σ : Nat → Int} {W0 : World} (hL : L0 W0) : MemoOk Tryz.prog 26623 σ W0 13 m29 := memo_ok fit (Known2.nil σ) (FnsOk.cons (pure_fn_ok (all_cons (p24_ok hL) (all_cons (p2_ok hL) (all_nil)))) ((q0_ok hL))) m29_run
noncomputable def p30 : Pur := ([.agg [I 9, I 1, I 0, I 0, U 0]], .inil, 1048576)
theorem p30_run : ranPure (evCall (cxX Tryz.prog bad [] [] q0) 1000 60 70 p30.1 ⟨.lf, p30.2.2⟩) p30.2.1 = true := by kernel_rfl
theorem p30_ok {σ : Nat → Int} {W0 : World} (hL : L0 W0) : PureOk Tryz.prog 26623 σ W0 70 p30 := pure_ok fit (Known2.nil σ) ((q0_ok hL)) p30_run
noncomputable def h26 : H := hUpd h25 2817 [] [] []
noncomputable def h27 : H := hUpd h25 3328 [] [] []
noncomputable def m31 : Memo := ⟨[.ptr 377 0, .agg [I 9, I 1, I 0, I 0, U 0], U 0, U 0, .agg [I 0, I 0, I 0, I 0, U 0], .agg [I 0, I 0, I 0, I 0, U 0]], h26, .agg [U 0, U 0, U 2, U 0, I 0, I 0, I 0, I 0, U 0, I 0, I 0, I 0, I 0, U 0, I 0, I 0, I 0, I 0, U 0], h27⟩
theorem m31_run : ranTo (evCall (cxX Tryz.prog bad [] [] ((70, pureFn [p30, p2]) :: q0)) 1000 60 13 m31.args m31.h) m31.v m31.h' = true := by kernel_rfl
theorem m31_ok {σ : Nat → Int} {W0 : World} (hL : L0 W0) : MemoOk Tryz.prog 26623 σ W0 13 m31 := memo_ok fit (Known2.nil σ) (FnsOk.cons (pure_fn_ok (all_cons (p30_ok hL) (all_cons (p2_ok hL) (all_nil)))) ((q0_ok hL))) m31_run
noncomputable def h28 : H := hUpd h25 3584 [] [] [(369, 1, [I 0, I 8, I 0]),
  (367, 1, [bT, I 0, bF])]
noncomputable def m32 : Memo := ⟨[.ptr 377 0, .agg [I 8, I 0, I 0, I 0, U 0], U 2, U 8, .agg [I 0, I 0, I 0, I 0, U 0], .agg [I 0, I 0, I 0, I 0, U 0]], h27, .agg [U 0, U 0, U 0, U 0, I 8, I 1, I 0, I 0, U 0, I 0, I 0, I 0, I 0, U 0, I 0, I 0, I 0, I 0, U 0], h28⟩
theorem m32_run : ranTo (evCall (cxX Tryz.prog bad [] [] ((70, pureFn [p4, p2]) :: q0)) 1000 60 13 m32.args m32.h) m32.v m32.h' = true := by kernel_rfl
theorem m32_ok {σ : Nat → Int} {W0 : World} (hL : L0 W0) : MemoOk Tryz.prog 26623 σ W0 13 m32 := memo_ok fit (Known2.nil σ) (FnsOk.cons (pure_fn_ok (all_cons (p4_ok hL) (all_cons (p2_ok hL) (all_nil)))) ((q0_ok hL))) m32_run
noncomputable def p33 : Pur := ([.agg [I 7, I 0, I 0, I 0, U 0]], .inil, 1048576)
theorem p33_run : ranPure (evCall (cxX Tryz.prog bad [] [] q0) 1000 60 70 p33.1 ⟨.lf, p33.2.2⟩) p33.2.1 = true := by kernel_rfl
theorem p33_ok {σ : Nat → Int} {W0 : World} (hL : L0 W0) : PureOk Tryz.prog 26623 σ W0 70 p33 := pure_ok fit (Known2.nil σ) ((q0_ok hL)) p33_run
noncomputable def h29 : H := hUpd h28 3619 [] [] []
noncomputable def h30 : H := hUpd h28 3840 [] [] [(365, 2, [I 0, I 500]),
  (363, 2, [bT, I 0, bF])]
noncomputable def m34 : Memo := ⟨[.ptr 377 0, .agg [I 7, I 0, I 0, I 0, U 0], U 2, U 500, .agg [I 0, I 0, I 0, I 0, U 0], .agg [I 0, I 0, I 0, I 0, U 0]], h29, .agg [U 0, U 0, U 0, U 0, I 7, I 2, I 0, I 0, U 0, I 0, I 0, I 0, I 0, U 0, I 0, I 0, I 0, I 0, U 0], h30⟩
theorem m34_run : ranTo (evCall (cxX Tryz.prog bad [] [] ((70, pureFn [p33, p2]) :: q0)) 1000 60 13 m34.args m34.h) m34.v m34.h' = true := by kernel_rfl
theorem m34_ok {σ : Nat → Int} {W0 : World} (hL : L0 W0) : MemoOk Tryz.prog 26623 σ W0 13 m34 := memo_ok fit (Known2.nil σ) (FnsOk.cons (pure_fn_ok (all_cons (p33_ok hL) (all_cons (p2_ok hL) (all_nil)))) ((q0_ok hL))) m34_run
noncomputable def p35 : Pur := ([.agg [I 8, I 1, I 0, I 0, U 0]], .inil, 1048576)
theorem p35_run : ranPure (evCall (cxX Tryz.prog bad [] [] q0) 1000 60 70 p35.1 ⟨.lf, p35.2.2⟩) p35.2.1 = true := by kernel_rfl
theorem p35_ok {σ : Nat → Int} {W0 : World} (hL : L0 W0) : PureOk Tryz.prog 26623 σ W0 70 p35 := pure_ok fit (Known2.nil σ) ((q0_ok hL)) p35_run
noncomputable def p36 : Pur := ([.agg [I 7, I 2, I 0, I 0, U 0]], .inil, 1048576)
theorem p36_run : ranPure (evCall (cxX Tryz.prog bad [] [] q0) 1000 60 70 p36.1 ⟨.lf, p36.2.2⟩) p36.2.1 = true := by kernel_rfl
theorem p36_ok {σ : Nat → Int} {W0 : World} (hL : L0 W0) : PureOk Tryz.prog 26623 σ W0 70 p36 := pure_ok fit (Known2.nil σ) ((q0_ok hL)) p36_run
noncomputable def p37 : Pur := ([.agg [I 3, I 4, I 0, I 0, U 0]], .inil, 1048576)
theorem p37_run : ranPure (evCall (cxX Tryz.prog bad [] [] q0) 1000 60 70 p37.1 ⟨.lf, p37.2.2⟩) p37.2.1 = true := by kernel_rfl
theorem p37_ok {σ : Nat → Int} {W0 : World} (hL : L0 W0) : PureOk Tryz.prog 26623 σ W0 70 p37 := pure_ok fit (Known2.nil σ) ((q0_ok hL)) p37_run
noncomputable def p38 : Pur := ([.agg [I 3, I 5, I 0, I 0, U 0]], .inil, 1048576)
theorem p38_run : ranPure (evCall (cxX Tryz.prog bad [] [] q0) 1000 60 70 p38.1 ⟨.lf, p38.2.2⟩) p38.2.1 = true := by kernel_rfl
theorem p38_ok {σ : Nat → Int} {W0 : World} (hL : L0 W0) : PureOk Tryz.prog 26623 σ W0 70 p38 := pure_ok fit (Known2.nil σ) ((q0_ok hL)) p38_run
noncomputable def p39 : Pur := ([.agg [I 2, I 1, I 0, I 0, U 1]], .inil, 1048576)
theorem p39_run : ranPure (evCall (cxX Tryz.prog bad [] [] q0) 1000 60 70 p39.1 ⟨.lf, p39.2.2⟩) p39.2.1 = true := by kernel_rfl
theorem p39_ok {σ : Nat → Int} {W0 : World} (hL : L0 W0) : PureOk Tryz.prog 26623 σ W0 70 p39 := pure_ok fit (Known2.nil σ) ((q0_ok hL)) p39_run
noncomputable def h31 : H := hUpc h30 4864 [] [(370, .map [(.agg [I 3, I 0], .agg [I 0, I 0], 0), (.agg [I 3, I 1], .agg [I 0, I 0], 1), (.agg [I 2, I 0], .agg [I 0, I 0], 2), (.agg [I 4, I 0], .agg [I 0, I 0], 3), (.agg [I 3, I 2], .agg [I 0, I 0], 4), (.agg [I 3, I 3], .agg [I 0, I 0], 5), (.agg [I 3, I 4], .agg [I 1, I 0], 6), (.agg [I 3, I 5], .agg [I 1, I 0], 7), (.agg [I 2, I 1], .agg [I 1, I 0], 8), (.agg [I 4, I 1], .agg [I 1, I 0], 9)] 10)] [(324, 1, [bT, I 0, bF]),
  (328, 4, [bT, I 0, bF]),
  (328, 5, [bT, I 0, bF]),
  (369, 0, [IZ (-1), I 60, I 10]),
  (369, 1, [I 0, I 8, I 4]),
  (335, 1, [bT, I 0, bF])] [(326, 1, 0, I 3), (326, 1, 1, I 4), (326, 1, 5, I 3), (326, 1, 6, I 5), (330, 4, 0, U 16777217), (330, 4, 1, U 184680448), (330, 4, 2, U 67108864), (337, 1, 9, I 1), (337, 1, 11, I 8), (337, 1, 12, I 1), (337, 1, 16, I 7), (337, 1, 17, I 2), (337, 1, 21, I 9), (337, 1, 91, I 2), (337, 1, 92, I 1), (337, 1, 95, U 1), (337, 1, 96, I 7), (337, 1, 97, I 2)]
noncomputable def m40 : Memo := ⟨[.ptr 377 0, .agg [I 9, I 1, I 0, I 0, U 0], U 1, U 0, .agg [I 8, I 1, I 0, I 0, U 0], .agg [I 7, I 2, I 0, I 0, U 0]], h30, .agg [U 0, U 0, U 0, U 0, I 5, I 1, I 0, I 0, U 0, I 0, I 0, I 0, I 0, U 0, I 0, I 0, I 0, I 0, U 0], h31⟩
noncomputable def l3 : List (Pur) := p27 :: p39 :: p38 :: p37 :: p25 :: p2 :: p36 :: p35 :: p30 :: []
theorem l3_ok {σ : Nat → Int} {W0 : World} (hL : L0 W0) : ∀ x ∈ l3, PureOk Tryz.prog 26623 σ W0 70 x := all_cons (p27_ok hL) (all_cons (p39_ok hL) (all_cons (p38_ok hL) (all_cons (p37_ok hL) (all_cons (p25_ok hL) (all_cons (p2_ok hL) (all_cons (p36_ok hL) (all_cons (p35_ok hL) (all_cons (p30_ok hL) (all_nil)))))))))
theorem m40_run : ranTo (evCall (cxX Tryz.prog bad [] [] ((70, pureFn l3) :: q0)) 1000 60 13 m40.args m40.h) m40.v m40.h' = true := by kernel_rfl
theorem m40_ok {σ : Nat → Int} {W0 : World} (hL : L0 W0) : MemoOk Tryz.prog 26623 σ W0 13 m40 := memo_ok fit (Known2.nil σ) (FnsOk.cons (pure_fn_ok (l3_ok hL)) ((q0_ok hL))) m40_run
noncomputable def p41 : Pur := ([.agg [I 4, I 1, I 0, I 0, U 0]], .inil, 1048576)
theorem p41_run : ranPure (evCall (cxX Tryz.prog bad [] [] q0) 1000 60 70 p41.1 ⟨.lf, p41.2.2⟩) p41.2.1 = true := by kernel_rfl
theorem p41_ok {σ : Nat → Int} {W0 : World} (hL : L0 W0) : PureOk Tryz.prog 26623 σ W0 70 p41 := pure_ok fit (Known2.nil σ) ((q0_ok hL)) p41_run
noncomputable def h32 : H := hUpd h31 4877 [] [] []
noncomputable def h33 : H := hUpc h31 5120 [] [(4922, .cells 1 ([[I 1]]) false)] [(376, 0, [.slice 4922 0 1 1 1 false])] [(337, 1, 9, I 3)]
noncomputable def m42 : Memo := ⟨[.ptr 377 0, .agg [I 4, I 1, I 0, I 0, U 0], U 7, U 0, .agg [I 0, I 0, I 0, I 0, U 0], .agg [I 0, I 0, I 0, I 0, U 0]], h32, .agg [U 0, U 0, U 0, U 0, I 0, I 0, I 0, I 0, U 0, I 0, I 0, I 0, I 0, U 0, I 0, I 0, I 0, I 0, U 0], h33⟩
noncomputable def l4 : List (Pur) := p39 :: p27 :: p36 :: p35 :: p2 :: p41 :: []
theorem l4_ok {σ : Nat → Int} {W0 : World} (hL : L0 W0) : ∀ x ∈ l4, PureOk Tryz.prog 26623 σ W0 70 x := all_cons (p39_ok hL) (all_cons (p27_ok hL) (all_cons (p36_ok hL) (all_cons (p35_ok hL) (all_cons (p2_ok hL) (all_cons (p41_ok hL) (all_nil))))))
theorem m42_run : ranTo (evCall (cxX Tryz.prog bad [] [] ((70, pureFn l4) :: q0)) 1000 60 13 m42.args m42.h) m42.v m42.h' = true := by kernel_rfl
theorem m42_ok {σ : Nat → Int} {W0 : World} (hL : L0 W0) : MemoOk Tryz.prog 26623 σ W0 13 m42 := memo_ok fit (Known2.nil σ) (FnsOk.cons (pure_fn_ok (l4_ok hL)) ((q0_ok hL))) m42_run
noncomputable def h34 : H := hUpd h0 72 [] [(54, .cells 3 ([bT, I 0, bF] :: [bT, .int .i64 (.var 32), bF] :: [bF, .int .i64 (.var 33), bF] :: [bF, .int .i64 (.var 34), bF] :: rp 4 ([bF, I 0, bF]) ([])) false),
  (70, .cells 3 ([bT, I 0, bF] :: [bT, I 0, bF] :: [bF, .int .i64 (.var 56), bF] :: [bF, .int .i64 (.var 57), bF] :: rp 12 ([bF, I 0, bF]) ([])) false),
  (38, .cells 1 ([[.slice 51 0 1 1 1 false]]) false),
  (42, .cells 107 (((.int .u32 (.var 2)) :: rp 7 (U 0) ((.int .u32 (.var 3)) :: (.int .i64 (.var 4)) :: (I 0) :: (I 8) :: (I 0) :: (I 0) :: (I 0) :: (U 0) :: (I 7) :: (I 1) :: (I 0) :: (I 0) :: (U 0) :: (I 11) :: (I 0) :: (I 0) :: (I 0) :: (U 0) :: (I 12) :: (I 0) :: (I 0) :: (I 0) :: (U 0) :: (I 13) :: (I 0) :: (I 0) :: (I 0) :: (U 0) :: (I 14) :: (I 0) :: (I 0) :: (I 0) :: (U 0) :: rp 4 (I 0) ((U 0) :: rp 4 (I 0) ((U 0) :: rp 4 (I 0) ((U 0) :: rp 4 (I 0) ((U 0) :: rp 4 (I 0) ((U 0) :: rp 4 (I 0) ((U 0) :: rp 4 (I 0) ((U 0) :: rp 4 (I 0) ((U 0) :: rp 4 (I 0) ((U 0) :: rp 4 (I 0) ((U 0) :: (I 2) :: (I 0) :: (I 0) :: (I 0) :: (U 1) :: (I 7) :: (I 1) :: (I 0) :: (I 0) :: (U 0) :: rp 4 (I 0) ([U 0, I 0]))))))))))))) :: ((.int .u32 (.var 5)) :: rp 8 (U 0) ((I 3) :: (I 0) :: (I 8) :: (.int .i64 (.var 6)) :: (I 0) :: (I 0) :: (U 0) :: (I 7) :: (.int .i64 (.var 7)) :: (I 0) :: (I 0) :: (U 0) :: (I 9) :: (I 0) :: (I 0) :: (I 0) :: (U 0) :: rp 4 (I 0) ((U 0) :: rp 4 (I 0) ((U 0) :: rp 4 (I 0) ((U 0) :: rp 4 (I 0) ((U 0) :: rp 4 (I 0) ((U 0) :: rp 4 (I 0) ((U 0) :: rp 4 (I 0) ((U 0) :: rp 4 (I 0) ((U 0) :: rp 4 (I 0) ((U 0) :: (.int .i64 (.var 8)) :: (I 0) :: (I 0) :: (I 0) :: (U 0) :: rp 4 (I 0) ((U 0) :: rp 4 (I 0) ((U 0) :: rp 4 (I 0) ((U 0) :: (I 2) :: (I 1) :: (I 0) :: (I 0) :: (U 1) :: (I 7) :: (I 2) :: (I 0) :: (I 0) :: (U 0) :: rp 4 (I 0) ([U 0, I 0]))))))))))))))) :: (rp 9 (U 0) ((.int .i64 (.var 9)) :: (I 0) :: (.int .i64 (.var 10)) :: (.int .i64 (.var 11)) :: (I 0) :: (I 0) :: (U 0) :: (.int .i64 (.var 12)) :: (.int .i64 (.var 13)) :: (I 0) :: (I 0) :: (U 0) :: rp 4 (I 0) ((U 0) :: rp 4 (I 0) ((U 0) :: rp 4 (I 0) ((U 0) :: rp 4 (I 0) ((U 0) :: rp 4 (I 0) ((U 0) :: rp 4 (I 0) ((U 0) :: rp 4 (I 0) ((U 0) :: rp 4 (I 0) ((U 0) :: rp 4 (I 0) ((U 0) :: rp 4 (I 0) ((U 0) :: rp 4 (I 0) ((U 0) :: rp 4 (I 0) ((U 0) :: rp 4 (I 0) ((U 0) :: rp 4 (I 0) ((U 0) :: (.int .i64 (.var 14)) :: (.int .i64 (.var 15)) :: (I 0) :: (I 0) :: (.int .u32 (.var 16)) :: (.int .i64 (.var 17)) :: (.int .i64 (.var 18)) :: (I 0) :: (I 0) :: (U 0) :: rp 4 (I 0) ([U 0, I 0]))))))))))))))))) :: (rp 9 (U 0) ((.int .i64 (.var 19)) :: (I 0) :: (.int .i64 (.var 20)) :: (.int .i64 (.var 21)) :: (I 0) :: (I 0) :: (U 0) :: (.int .i64 (.var 22)) :: (.int .i64 (.var 23)) :: (I 0) :: (I 0) :: (U 0) :: rp 4 (I 0) ((U 0) :: rp 4 (I 0) ((U 0) :: rp 4 (I 0) ((U 0) :: rp 4 (I 0) ((U 0) :: rp 4 (I 0) ((U 0) :: rp 4 (I 0) ((U 0) :: rp 4 (I 0) ((U 0) :: rp 4 (I 0) ((U 0) :: rp 4 (I 0) ((U 0) :: rp 4 (I 0) ((U 0) :: rp 4 (I 0) ((U 0) :: rp 4 (I 0) ((U 0) :: rp 4 (I 0) ((U 0) :: rp 4 (I 0) ((U 0) :: (.int .i64 (.var 24)) :: (.int .i64 (.var 25)) :: (I 0) :: (I 0) :: (.int .u32 (.var 26)) :: (.int .i64 (.var 27)) :: (.int .i64 (.var 28)) :: (I 0) :: (I 0) :: (U 0) :: rp 4 (I 0) ([U 0, I 0]))))))))))))))))) :: rp 4 (rp 9 (U 0) (rp 6 (I 0) ((U 0) :: rp 4 (I 0) ((U 0) :: rp 4 (I 0) ((U 0) :: rp 4 (I 0) ((U 0) :: rp 4 (I 0) ((U 0) :: rp 4 (I 0) ((U 0) :: rp 4 (I 0) ((U 0) :: rp 4 (I 0) ((U 0) :: rp 4 (I 0) ((U 0) :: rp 4 (I 0) ((U 0) :: rp 4 (I 0) ((U 0) :: rp 4 (I 0) ((U 0) :: rp 4 (I 0) ((U 0) :: rp 4 (I 0) ((U 0) :: rp 4 (I 0) ((U 0) :: rp 4 (I 0) ((U 0) :: rp 4 (I 0) ((U 0) :: rp 4 (I 0) ((U 0) :: rp 4 (I 0) ([U 0, I 0]))))))))))))))))))))) ([])) false),
  (66, .cells 1 ([[.slice 70 0 16 16 3 true]]) false),
  (34, .cells 3 ([[.ptr 41 0, .slice 42 0 8 8 107 true, .slice 43 0 8 8 1 false]]) false),
  (44, .cells 1 ([[.slice 63 0 12 12 3 true]]) false),
  (52, .cells 2 ([[.ptr 66 0, .slice 67 0 16 16 80 true]]) false),
  (68, .cells 1 ([[.slice 71 0 24 24 3 true]]) false),
  (40, .cells 3 ([[I 16, .snil, .int .i64 (.var 1)]]) false),
  (32, .cells 9 ([[.ptr 33 0, .ptr 34 0, .ptr 35 0, .ptr 36 0, .ptr 37 0, .ptr 38 0, .snil, .snil, .int .i64 (.var 0)]]) false),
  (45, .cells 2 ([IZ (-1), .int .i64 (.var 29)] :: [I 0, .int .i64 (.var 30)] :: [I 0, .int .i64 (.var 31)] :: rp 9 ([I 0, I 0]) ([])) false),
  (53, .cells 2 ([[.ptr 68 0, .slice 69 0 24 24 32 true]]) false),
  (69, .cells 32 (((.int .u32 (.var 45)) :: (.int .u32 (.var 46)) :: rp 30 (U 0) ([])) :: (rp 32 (U 0) ([])) :: ((.int .u32 (.var 47)) :: rp 31 (U 0) ([])) :: ((.int .u32 (.var 48)) :: (.int .u32 (.var 49)) :: (.int .u32 (.var 50)) :: rp 29 (U 0) ([])) :: ((.int .u32 (.var 51)) :: (.int .u32 (.var 52)) :: (.int .u32 (.var 53)) :: rp 29 (U 0) ([])) :: (rp 32 (U 0) ([])) :: ((.int .u32 (.var 54)) :: rp 31 (U 0) ([])) :: (rp 32 (U 0) ([])) :: ((.int .u32 (.var 55)) :: rp 31 (U 0) ([])) :: rp 15 (rp 32 (U 0) ([])) ([])) false),
  (41, .cells 1 ([[.slice 54 0 8 8 3 true]]) false),
  (33, .cells 3 ([[.ptr 39 0, I 16, .ptr 40 0]]) false),
  (51, .cells 1 ([[I 1]]) false),
  (67, .cells 80 (((I 3) :: (I 0) :: (I 0) :: (I 0) :: (U 0) :: (I 3) :: (I 1) :: (I 0) :: (I 0) :: (U 0) :: rp 4 (I 0) ((U 0) :: rp 4 (I 0) ((U 0) :: rp 4 (I 0) ((U 0) :: rp 4 (I 0) ((U 0) :: rp 4 (I 0) ((U 0) :: rp 4 (I 0) ((U 0) :: rp 4 (I 0) ((U 0) :: rp 4 (I 0) ((U 0) :: rp 4 (I 0) ((U 0) :: rp 4 (I 0) ((U 0) :: rp 4 (I 0) ((U 0) :: rp 4 (I 0) ((U 0) :: rp 4 (I 0) ((U 0) :: rp 4 (I 0) ([U 0]))))))))))))))) :: ((I 3) :: (I 4) :: (I 0) :: (I 0) :: (U 0) :: (.int .i64 (.var 35)) :: (.int .i64 (.var 36)) :: (I 0) :: (I 0) :: (U 0) :: rp 4 (I 0) ((U 0) :: rp 4 (I 0) ((U 0) :: rp 4 (I 0) ((U 0) :: rp 4 (I 0) ((U 0) :: rp 4 (I 0) ((U 0) :: rp 4 (I 0) ((U 0) :: rp 4 (I 0) ((U 0) :: rp 4 (I 0) ((U 0) :: rp 4 (I 0) ((U 0) :: rp 4 (I 0) ((U 0) :: rp 4 (I 0) ((U 0) :: rp 4 (I 0) ((U 0) :: rp 4 (I 0) ((U 0) :: rp 4 (I 0) ([U 0]))))))))))))))) :: ((.int .i64 (.var 37)) :: (.int .i64 (.var 38)) :: (I 0) :: (I 0) :: (U 0) :: (.int .i64 (.var 39)) :: (.int .i64 (.var 40)) :: (I 0) :: (I 0) :: (U 0) :: rp 4 (I 0) ((U 0) :: rp 4 (I 0) ((U 0) :: rp 4 (I 0) ((U 0) :: rp 4 (I 0) ((U 0) :: rp 4 (I 0) ((U 0) :: rp 4 (I 0) ((U 0) :: rp 4 (I 0) ((U 0) :: rp 4 (I 0) ((U 0) :: rp 4 (I 0) ((U 0) :: rp 4 (I 0) ((U 0) :: rp 4 (I 0) ((U 0) :: rp 4 (I 0) ((U 0) :: rp 4 (I 0) ((U 0) :: rp 4 (I 0) ([U 0]))))))))))))))) :: ((.int .i64 (.var 41)) :: (.int .i64 (.var 42)) :: (I 0) :: (I 0) :: (U 0) :: (.int .i64 (.var 43)) :: (.int .i64 (.var 44)) :: (I 0) :: (I 0) :: (U 0) :: rp 4 (I 0) ((U 0) :: rp 4 (I 0) ((U 0) :: rp 4 (I 0) ((U 0) :: rp 4 (I 0) ((U 0) :: rp 4 (I 0) ((U 0) :: rp 4 (I 0) ((U 0) :: rp 4 (I 0) ((U 0) :: rp 4 (I 0) ((U 0) :: rp 4 (I 0) ((U 0) :: rp 4 (I 0) ((U 0) :: rp 4 (I 0) ((U 0) :: rp 4 (I 0) ((U 0) :: rp 4 (I 0) ((U 0) :: rp 4 (I 0) ([U 0]))))))))))))))) :: rp 12 (rp 4 (I 0) ((U 0) :: rp 4 (I 0) ((U 0) :: rp 4 (I 0) ((U 0) :: rp 4 (I 0) ((U 0) :: rp 4 (I 0) ((U 0) :: rp 4 (I 0) ((U 0) :: rp 4 (I 0) ((U 0) :: rp 4 (I 0) ((U 0) :: rp 4 (I 0) ((U 0) :: rp 4 (I 0) ((U 0) :: rp 4 (I 0) ((U 0) :: rp 4 (I 0) ((U 0) :: rp 4 (I 0) ((U 0) :: rp 4 (I 0) ((U 0) :: rp 4 (I 0) ((U 0) :: rp 4 (I 0) ([U 0]))))))))))))))))) ([])) false),
  (35, .cells 2 ([[.ptr 44 0, .slice 45 0 12 12 2 true]]) false),
  (71, .cells 3 (rp 5 ([bT, I 0, bF]) ([bT, .int .i64 (.var 58), bF] :: [bF, .int .i64 (.var 59), bF] :: [bF, .int .i64 (.var 60), bF] :: [bF, .int .i64 (.var 61), bF] :: [bF, .int .i64 (.var 62), bF] :: rp 14 ([bF, I 0, bF]) ([]))) false),
  (39, .cells 2 ([[.ptr 52 0, .ptr 53 0]]) false),
  (63, .cells 3 ([bT, I 0, bF] :: [bT, I 0, bF] :: [bT, I 0, bF] :: rp 9 ([bF, I 0, bF]) ([])) false)] []
noncomputable def s0 : Sym := ⟨[.ptr 32 0, I 0], h34, [32, 33, 34, 35, 38, 39, 40, 41, 42, 44, 45, 51, 52, 53, 54, 63, 66, 67, 68, 69, 70, 71, 30, 22, 14, 26, 10, 6, 28, 20, 24, 8, 4, 2, 29, 21, 13, 25, 9, 5, 27, 19, 23, 31, 7, 3, 1, 0], [(0, 1099511627775), (0, 1099511627775), (0, 4294967295), (0, 4294967295), (0, 1099511627775), (0, 4294967295), (0, 1099511627775), (0, 1099511627775), (0, 1099511627775), (0, 1099511627775), (0, 1099511627775), (0, 1099511627775), (0, 1099511627775), (0, 1099511627775), (0, 1099511627775), (0, 1099511627775), (0, 4294967295), (0, 1099511627775), (0, 1099511627775), (0, 1099511627775), (0, 1099511627775), (0, 1099511627775), (0, 1099511627775), (0, 1099511627775), (0, 1099511627775), (0, 1099511627775), (0, 4294967295), (0, 1099511627775), (0, 1099511627775), (0, 1099511627775), (0, 1099511627775), (0, 1099511627775), (0, 1099511627775), (0, 1099511627775), (0, 1099511627775), (0, 1099511627775), (0, 1099511627775), (0, 1099511627775), (0, 1099511627775), (0, 1099511627775), (0, 1099511627775), (0, 1099511627775), (0, 1099511627775), (0, 1099511627775), (0, 1099511627775), (0, 4294967295), (0, 4294967295), (0, 4294967295), (0, 4294967295), (0, 4294967295), (0, 4294967295), (0, 4294967295), (0, 4294967295), (0, 4294967295), (0, 4294967295), (0, 4294967295), (0, 1099511627775), (0, 1099511627775), (0, 1099511627775), (0, 1099511627775), (0, 1099511627775), (0, 1099511627775), (0, 1099511627775)],
  [(true, .lit 0, .lit 0, true), (true, .bop .shr .i64 (.var 51) (.lit 24), .lit 1, true), (true, .bop .and .i64 (.bop .shr .i64 (.var 51) (.lit 20)) (.lit 15), .lit 0, true), (false, .var 31, .lit 1, false), (false, .var 29, .lit 1, false), (true, .bop .and .i64 (.bop .shr .i64 (.var 51) (.lit 16)) (.lit 15), .lit 0, true), (true, .bop .and .i64 (.bop .shr .i64 (.var 51) (.lit 12)) (.lit 15), .lit 0, true), (false, .var 6, .lit 64, true), (false, .var 7, .lit 32, true), (false, .lit 14, .var 8, false), (true, .var 8, .lit 2, false), (true, .var 8, .lit 3, false), (true, .var 8, .lit 4, false), (true, .var 8, .lit 5, false), (true, .var 8, .lit 6, false), (true, .var 8, .lit 7, false), (true, .var 8, .lit 8, false), (true, .var 8, .lit 9, false), (true, .var 8, .lit 10, false), (true, .var 8, .lit 1, false)],
  .agg [I 1, I 1, I 0, U 0, I 0, U 0, IZ (-1), I 0],
  [.cel 32 0 8 (.int .i64 (.add (.var 0) (.lit 1))),
  .row 40 0 ([I 16, .slice 317 0 1 1 10 false, .int .i64 (.var 1)]),
  .cel 42 1 0 (.int .u32 (.bop .and .i64 (.var 51) (.lit 4095))),
  .cel 42 1 8 (U 1),
  .row 45 0 ([IZ (-1), .int .i64 (.sub (.var 29) (.lit 1))]),
  .row 45 2 ([I 0, .int .i64 (.sub (.var 31) (.lit 1))]),
  .set 284 (.cells 1 ([[I 1]]) false),
  .set 317 (.cells 10 ([[I 2, I 1, I 0, I 0, U 1, U 0, .slice 284 0 1 1 1 false, I 4, I 0, bF]]) false)], 906⟩
theorem s0_run : ranTo (evCall (cxX Tryz.prog bad s0.rng s0.facts q0) 1000 60 15 s0.args s0.pre) s0.v s0.post = true := by kernel_rfl
theorem s0_ok {W0 : World} (hL : L0 W0) : SymOk Tryz.prog 26623 W0 15 s0 := sym_ok fit (fun σ hk => (q0_ok hL)) s0_run (by kernel_rfl)
noncomputable def h35 : H := hUpc h34 74 [71, 63] [(46, .cells 1 ([[.slice 65 0 8 8 3 true]]) false),
  (54, .cells 10 ([[I 2, I 1, I 0, I 0, U 1, U 0, .slice 71 0 1 1 1 false, I 4, I 0, bF]]) false),
  (70, .cells 32 (((.int .u32 (.var 53)) :: (.int .u32 (.var 54)) :: rp 30 (U 0) ([])) :: (rp 32 (U 0) ([])) :: ((.int .u32 (.var 55)) :: rp 31 (U 0) ([])) :: ((.int .u32 (.var 56)) :: (.int .u32 (.var 57)) :: (.int .u32 (.var 58)) :: rp 29 (U 0) ([])) :: ((.int .u32 (.var 59)) :: (.int .u32 (.var 60)) :: (.int .u32 (.var 61)) :: rp 29 (U 0) ([])) :: (rp 32 (U 0) ([])) :: ((.int .u32 (.var 62)) :: rp 31 (U 0) ([])) :: (rp 32 (U 0) ([])) :: ((.int .u32 (.var 63)) :: rp 31 (U 0) ([])) :: rp 15 (rp 32 (U 0) ([])) ([])) false),
  (50, .cells 31 (((bT) :: (I 3) :: (I 2) :: (I 0) :: (.int .i64 (.var 33)) :: (U 0) :: rp 4 (I 0) ((U 0) :: rp 4 (I 0) ((U 0) :: rp 4 (I 0) ((U 0) :: rp 4 (I 0) ((U 0) :: rp 4 (I 0) ([U 0])))))) :: ((bT) :: (.int .i64 (.var 34)) :: (.int .i64 (.var 35)) :: (I 0) :: (.int .i64 (.var 36)) :: (U 0) :: (.int .i64 (.var 37)) :: (I 0) :: (I 0) :: (I 0) :: (U 0) :: rp 4 (I 0) ((U 0) :: rp 4 (I 0) ((U 0) :: rp 4 (I 0) ((U 0) :: rp 4 (I 0) ([U 0]))))) :: rp 4 ((bF) :: rp 4 (I 0) ((U 0) :: rp 4 (I 0) ((U 0) :: rp 4 (I 0) ((U 0) :: rp 4 (I 0) ((U 0) :: rp 4 (I 0) ((U 0) :: rp 4 (I 0) ([U 0]))))))) ([])) false),
  (66, .cells 3 ([bT, I 0, bF] :: [bT, I 0, bF] :: rp 4 ([bF, I 0, bF]) ([])) false),
  (68, .cells 80 (((I 3) :: (I 0) :: (I 0) :: (I 0) :: (U 0) :: (I 3) :: (I 1) :: (I 0) :: (I 0) :: (U 0) :: rp 4 (I 0) ((U 0) :: rp 4 (I 0) ((U 0) :: rp 4 (I 0) ((U 0) :: rp 4 (I 0) ((U 0) :: rp 4 (I 0) ((U 0) :: rp 4 (I 0) ((U 0) :: rp 4 (I 0) ((U 0) :: rp 4 (I 0) ((U 0) :: rp 4 (I 0) ((U 0) :: rp 4 (I 0) ((U 0) :: rp 4 (I 0) ((U 0) :: rp 4 (I 0) ((U 0) :: rp 4 (I 0) ((U 0) :: rp 4 (I 0) ([U 0]))))))))))))))) :: ((.int .i64 (.var 41)) :: (.int .i64 (.var 42)) :: (I 0) :: (I 0) :: (U 0) :: (.int .i64 (.var 43)) :: (.int .i64 (.var 44)) :: (I 0) :: (I 0) :: (U 0) :: rp 4 (I 0) ((U 0) :: rp 4 (I 0) ((U 0) :: rp 4 (I 0) ((U 0) :: rp 4 (I 0) ((U 0) :: rp 4 (I 0) ((U 0) :: rp 4 (I 0) ((U 0) :: rp 4 (I 0) ((U 0) :: rp 4 (I 0) ((U 0) :: rp 4 (I 0) ((U 0) :: rp 4 (I 0) ((U 0) :: rp 4 (I 0) ((U 0) :: rp 4 (I 0) ((U 0) :: rp 4 (I 0) ((U 0) :: rp 4 (I 0) ([U 0]))))))))))))))) :: ((.int .i64 (.var 45)) :: (.int .i64 (.var 46)) :: (I 0) :: (I 0) :: (U 0) :: (.int .i64 (.var 47)) :: (.int .i64 (.var 48)) :: (I 0) :: (I 0) :: (U 0) :: rp 4 (I 0) ((U 0) :: rp 4 (I 0) ((U 0) :: rp 4 (I 0) ((U 0) :: rp 4 (I 0) ((U 0) :: rp 4 (I 0) ((U 0) :: rp 4 (I 0) ((U 0) :: rp 4 (I 0) ((U 0) :: rp 4 (I 0) ((U 0) :: rp 4 (I 0) ((U 0) :: rp 4 (I 0) ((U 0) :: rp 4 (I 0) ((U 0) :: rp 4 (I 0) ((U 0) :: rp 4 (I 0) ((U 0) :: rp 4 (I 0) ([U 0]))))))))))))))) :: ((.int .i64 (.var 49)) :: (.int .i64 (.var 50)) :: (I 0) :: (I 0) :: (U 0) :: (.int .i64 (.var 51)) :: (.int .i64 (.var 52)) :: (I 0) :: (I 0) :: (U 0) :: rp 4 (I 0) ((U 0) :: rp 4 (I 0) ((U 0) :: rp 4 (I 0) ((U 0) :: rp 4 (I 0) ((U 0) :: rp 4 (I 0) ((U 0) :: rp 4 (I 0) ((U 0) :: rp 4 (I 0) ((U 0) :: rp 4 (I 0) ((U 0) :: rp 4 (I 0) ((U 0) :: rp 4 (I 0) ((U 0) :: rp 4 (I 0) ((U 0) :: rp 4 (I 0) ((U 0) :: rp 4 (I 0) ((U 0) :: rp 4 (I 0) ([U 0]))))))))))))))) :: rp 12 (rp 4 (I 0) ((U 0) :: rp 4 (I 0) ((U 0) :: rp 4 (I 0) ((U 0) :: rp 4 (I 0) ((U 0) :: rp 4 (I 0) ((U 0) :: rp 4 (I 0) ((U 0) :: rp 4 (I 0) ((U 0) :: rp 4 (I 0) ((U 0) :: rp 4 (I 0) ((U 0) :: rp 4 (I 0) ((U 0) :: rp 4 (I 0) ((U 0) :: rp 4 (I 0) ((U 0) :: rp 4 (I 0) ((U 0) :: rp 4 (I 0) ((U 0) :: rp 4 (I 0) ((U 0) :: rp 4 (I 0) ([U 0]))))))))))))))))) ([])) false),
  (36, .cells 5 ([[.ptr 46 0, .slice 47 0 8 8 3 true, .map 48, .ptr 33 0, .ptr 34 0]]) false),
  (72, .cells 3 ([bT, I 0, bF] :: [bT, .int .i64 (.var 64), bF] :: [bF, .int .i64 (.var 65), bF] :: [bF, .int .i64 (.var 66), bF] :: rp 12 ([bF, I 0, bF]) ([])) false),
  (48, .map [(.agg [I 3, I 0], .agg [I 0, I 0], 0), (.agg [I 3, I 1], .agg [I 0, I 0], 1), (.agg [I 2, I 0], .agg [I 0, I 0], 2), (.agg [I 4, I 0], .agg [I 0, I 0], 3), (.agg [I 3, I 2], .agg [I 0, I 0], 4), (.agg [I 3, I 3], .agg [I 0, I 0], 5), (.agg [I 3, I 4], .agg [I 1, I 0], 6), (.agg [I 3, I 5], .agg [I 1, I 0], 7), (.agg [I 2, I 1], .agg [I 1, I 0], 8), (.agg [I 4, I 1], .agg [I 1, I 0], 9)] 10),
  (64, .cells 3 ([bT, I 0, bF] :: [bT, I 0, bF] :: [bT, I 0, bF] :: rp 9 ([bF, I 0, bF]) ([])) false),
  (69, .cells 1 ([[.slice 73 0 24 24 3 true]]) false),
  (37, .cells 2 ([[.ptr 49 0, .slice 50 0 6 6 31 true]]) false),
  (73, .cells 3 (rp 4 ([bT, I 0, bF]) ([bT, .int .i64 (.var 67), bF] :: [bT, .int .i64 (.var 68), bF] :: [bF, .int .i64 (.var 69), bF] :: [bF, .int .i64 (.var 70), bF] :: [bF, .int .i64 (.var 71), bF] :: [bF, .int .i64 (.var 72), bF] :: rp 14 ([bF, I 0, bF]) ([]))) false),
  (49, .cells 1 ([[.slice 66 0 6 6 3 true]]) false),
  (65, .cells 3 ([bT, I 0, bF] :: [bT, I 0, bF] :: rp 6 ([bF, I 0, bF]) ([])) false),
  (67, .cells 1 ([[.slice 72 0 16 16 3 true]]) false),
  (55, .cells 3 ([bT, I 0, bF] :: [bT, .int .i64 (.var 38), bF] :: [bF, .int .i64 (.var 39), bF] :: [bF, .int .i64 (.var 40), bF] :: rp 4 ([bF, I 0, bF]) ([])) false),
  (47, .cells 3 ([IZ (-1), I 60, .int .i64 (.var 30)] :: [I 0, .int .i64 (.var 31), .int .i64 (.var 32)] :: rp 6 ([I 0, I 0, I 0]) ([])) false)] [(44, 0, [.slice 64 0 12 12 3 true]),
  (52, 0, [.ptr 67 0, .slice 68 0 16 16 80 true]),
  (40, 0, [I 16, .slice 54 0 1 1 10 false, .int .i64 (.var 1)]),
  (45, 0, [IZ (-1), .int .i64 (.var 27)]),
  (45, 1, [I 0, .int .i64 (.var 28)]),
  (45, 2, [I 0, .int .i64 (.var 29)]),
  (53, 0, [.ptr 69 0, .slice 70 0 24 24 32 true]),
  (41, 0, [.slice 55 0 8 8 3 true])] [(42, 1, 0, U 1), (42, 1, 8, .int .u32 (.var 5)), (42, 1, 12, I 1), (42, 1, 17, I 2), (42, 1, 71, .int .i64 (.var 6)), (42, 2, 9, .int .i64 (.var 7)), (42, 2, 11, .int .i64 (.var 8)), (42, 2, 12, .int .i64 (.var 9)), (42, 2, 16, .int .i64 (.var 10)), (42, 2, 17, .int .i64 (.var 11)), (42, 2, 91, .int .i64 (.var 12)), (42, 2, 92, .int .i64 (.var 13)), (42, 2, 95, .int .u32 (.var 14)), (42, 2, 96, .int .i64 (.var 15)), (42, 2, 97, .int .i64 (.var 16)), (42, 3, 9, .int .i64 (.var 17)), (42, 3, 11, .int .i64 (.var 18)), (42, 3, 12, .int .i64 (.var 19)), (42, 3, 16, .int .i64 (.var 20)), (42, 3, 17, .int .i64 (.var 21)), (42, 3, 91, .int .i64 (.var 22)), (42, 3, 92, .int .i64 (.var 23)), (42, 3, 95, .int .u32 (.var 24)), (42, 3, 96, .int .i64 (.var 25)), (42, 3, 97, .int .i64 (.var 26))]
noncomputable def s1 : Sym := ⟨[.ptr 32 0, I 0], h35, [32, 33, 34, 35, 36, 37, 38, 39, 40, 41, 42, 44, 45, 46, 47, 48, 49, 50, 51, 52, 53, 54, 55, 64, 65, 66, 67, 68, 69, 70, 72, 73, 30, 22, 14, 26, 10, 6, 28, 20, 24, 8, 4, 2, 29, 21, 13, 25, 9, 5, 27, 19, 23, 31, 7, 3, 1, 0], [(0, 1099511627775), (0, 1099511627775), (0, 4294967295), (0, 4294967295), (0, 1099511627775), (0, 4294967295), (0, 1099511627775), (0, 1099511627775), (0, 1099511627775), (0, 1099511627775), (0, 1099511627775), (0, 1099511627775), (0, 1099511627775), (0, 1099511627775), (0, 4294967295), (0, 1099511627775), (0, 1099511627775), (0, 1099511627775), (0, 1099511627775), (0, 1099511627775), (0, 1099511627775), (0, 1099511627775), (0, 1099511627775), (0, 1099511627775), (0, 4294967295), (0, 1099511627775), (0, 1099511627775), (0, 1099511627775), (0, 1099511627775), (0, 1099511627775), (0, 1099511627775), (0, 1099511627775), (0, 1099511627775), (0, 1099511627775), (0, 1099511627775), (0, 1099511627775), (0, 1099511627775), (0, 1099511627775), (0, 1099511627775), (0, 1099511627775), (0, 1099511627775), (0, 1099511627775), (0, 1099511627775), (0, 1099511627775), (0, 1099511627775), (0, 1099511627775), (0, 1099511627775), (0, 1099511627775), (0, 1099511627775), (0, 1099511627775), (0, 1099511627775), (0, 1099511627775), (0, 1099511627775), (0, 4294967295), (0, 4294967295), (0, 4294967295), (0, 4294967295), (0, 4294967295), (0, 4294967295), (0, 4294967295), (0, 4294967295), (0, 4294967295), (0, 4294967295), (0, 4294967295), (0, 1099511627775), (0, 1099511627775), (0, 1099511627775), (0, 1099511627775), (0, 1099511627775), (0, 1099511627775), (0, 1099511627775), (0, 1099511627775), (0, 1099511627775)],
  [(true, .bop .rem .u32 (.var 5) (.lit 32), .lit 1, true), (true, .bop .shr .i64 (.var 60) (.lit 24), .lit 11, true), (true, .bop .rem .i64 (.add (.bop .and .i64 (.bop .shr .i64 (.var 60) (.lit 12)) (.lit 15)) (.lit 0)) (.lit 16), .lit 0, true), (true, .bop .rem .i64 (.add (.bop .and .i64 (.bop .shr .i64 (.var 60) (.lit 12)) (.lit 15)) (.lit 1)) (.lit 16), .lit 1, true), (true, .bop .rem .i64 (.add (.bop .and .i64 (.bop .shr .i64 (.var 60) (.lit 12)) (.lit 15)) (.lit 2)) (.lit 16), .lit 2, true), (true, .bop .and .i64 (.bop .shr .i64 (.var 60) (.lit 16)) (.lit 15), .lit 2, true), (false, .var 29, .lit 1, false), (false, .var 27, .lit 1, false), (true, .bop .quo .u32 (.var 5) (.lit 32), .lit 0, true), (false, .lit 2, .bop .and .i64 (.bop .shr .i64 (.var 60) (.lit 20)) (.lit 15), false), (false, .lit 0, .bop .and .i64 (.var 60) (.lit 4095), false), (false, .lit 14, .var 6, false), (true, .var 6, .lit 2, false), (true, .var 6, .lit 3, false), (true, .var 6, .lit 4, false), (true, .var 6, .lit 5, false), (true, .var 6, .lit 6, false), (true, .var 6, .lit 7, false), (true, .var 6, .lit 8, false), (true, .var 6, .lit 9, false), (true, .var 6, .lit 10, false), (true, .var 6, .lit 1, false), (false, .lit 7, .var 33, false), (false, .sub (.var 31) (.var 32), .lit 4, false), (false, .sub (.lit 60) (.var 30), .lit 4, false), (false, .sub (.var 31) (.var 32), .lit 1, false), (false, .sub (.lit 60) (.var 30), .lit 1, false), (false, .sub (.var 31) (.add (.var 32) (.lit 1)), .lit 1, false), (false, .sub (.lit 60) (.add (.var 30) (.lit 1)), .lit 1, false), (false, .lit 1048575, .var 69, false), (false, .lit 1048575, .var 70, false), (false, .sub (.var 31) (.add (.var 32) (.lit 2)), .lit 1, false), (false, .sub (.lit 60) (.add (.var 30) (.lit 2)), .lit 1, false), (false, .sub (.var 31) (.add (.var 32) (.lit 3)), .lit 1, false), (false, .sub (.lit 60) (.add (.var 30) (.lit 3)), .lit 1, false), (false, .lit 1048575, .var 65, false), (true, .bop .and .i64 (.bop .shr .i64 (.var 60) (.lit 20)) (.lit 15), .lit 0, true), (false, .lit 1048575, .var 39, false)],
  .agg [I 1, I 2, I 0, U 1, I 9, U 0, IZ (-1), I 0],
  [.cel 32 0 8 (.int .i64 (.add (.var 0) (.lit 1))),
  .row 40 0 ([I 16, .slice 54 0 1 1 10 false, .int .i64 (.add (.var 1) (.lit 1))]),
  .cel 42 1 0 (U 0),
  .cel 42 1 8 (.int .u32 (.wrap .u32 (.add (.var 5) (.lit 1)))),
  .cel 42 1 71 (I 5),
  .cel 42 1 72 (I 2),
  .cel 42 1 73 (.int .i64 (.var 39)),
  .cel 42 2 9 (I 1),
  .cel 42 2 11 (I 8),
  .cel 42 2 12 (I 1),
  .cel 42 2 16 (I 7),
  .cel 42 2 17 (I 2),
  .cel 42 2 91 (I 2),
  .cel 42 2 92 (I 2),
  .cel 42 2 93 (.int .i64 (.var 65)),
  .cel 42 2 95 (U 1),
  .cel 42 2 96 (I 7),
  .cel 42 2 97 (I 2),
  .row 45 0 ([IZ (-1), .int .i64 (.sub (.var 27) (.lit 1))]),
  .row 45 2 ([I 0, .int .i64 (.sub (.var 29) (.lit 1))]),
  .row 47 0 ([IZ (-1), I 60, .int .i64 (.add (.var 30) (.lit 4))]),
  .row 47 1 ([I 0, .int .i64 (.var 31), .int .i64 (.add (.var 32) (.lit 4))]),
  .set 48 (.map [(.agg [I 3, I 0], .agg [I 0, I 0], 0), (.agg [I 3, I 1], .agg [I 0, I 0], 1), (.agg [I 2, I 0], .agg [I 0, I 0], 2), (.agg [I 4, I 0], .agg [I 0, I 0], 3), (.agg [I 3, I 2], .agg [I 0, I 0], 4), (.agg [I 3, I 3], .agg [I 0, I 0], 5), (.agg [I 3, I 4], .agg [I 1, I 0], 6), (.agg [I 3, I 5], .agg [I 1, I 0], 7), (.agg [I 2, I 1], .agg [I 1, I 0], 8), (.agg [I 4, I 1], .agg [I 1, I 0], 9), (.agg [I 3, I 6], .agg [I 1, .int .i64 (.var 69)], 10), (.agg [I 3, I 7], .agg [I 1, .int .i64 (.var 70)], 11), (.agg [I 2, I 2], .agg [I 1, .int .i64 (.var 65)], 12), (.agg [I 4, I 2], .agg [I 1, .int .i64 (.var 39)], 13)] 14),
  .row 55 2 ([bT, .int .i64 (.var 39), bF]),
  .cel 68 2 0 (I 3),
  .cel 68 2 1 (I 6),
  .cel 68 2 2 (.int .i64 (.var 69)),
  .cel 68 2 5 (I 3),
  .cel 68 2 6 (I 7),
  .cel 68 2 7 (.int .i64 (.var 70)),
  .cel 70 6 0 (.int .u32 (.var 55)),
  .row 72 2 ([bT, .int .i64 (.var 65), bF]),
  .row 73 6 ([bT, .int .i64 (.var 69), bF]),
  .row 73 7 ([bT, .int .i64 (.var 70), bF])], 3981⟩
theorem s1_run : ranTo (evCall (cxX Tryz.prog bad s1.rng s1.facts q0) 1000 60 15 s1.args s1.pre) s1.v s1.post = true := by kernel_rfl
theorem s1_ok {W0 : World} (hL : L0 W0) : SymOk Tryz.prog 26623 W0 15 s1 := sym_ok fit (fun σ hk => (q0_ok hL)) s1_run (by kernel_rfl)
noncomputable def h36 : H := hUpc h35 74 [46, 50, 66, 52, 68, 36, 72, 48, 37, 49, 65, 67, 47] [] [(45, 0, [IZ (-1), .int .i64 (.var 30)]),
  (45, 1, [I 0, .int .i64 (.var 31)]),
  (45, 2, [I 0, .int .i64 (.var 32)]),
  (73, 4, [bT, .int .i64 (.var 47), bF]),
  (73, 5, [bT, .int .i64 (.var 48), bF]),
  (73, 6, [bT, .int .i64 (.var 49), bF]),
  (73, 7, [bT, .int .i64 (.var 50), bF]),
  (73, 8, [bF, .int .i64 (.var 51), bF]),
  (73, 9, [bF, .int .i64 (.var 52), bF]),
  (55, 1, [bT, .int .i64 (.var 33), bF]),
  (55, 2, [bT, .int .i64 (.var 34), bF]),
  (55, 3, [bF, .int .i64 (.var 35), bF])] [(70, 0, 0, .int .u32 (.var 36)), (70, 0, 1, .int .u32 (.var 37)), (70, 2, 0, .int .u32 (.var 38)), (70, 3, 0, .int .u32 (.var 39)), (70, 3, 1, .int .u32 (.var 40)), (70, 3, 2, .int .u32 (.var 41)), (70, 4, 0, .int .u32 (.var 42)), (70, 4, 1, .int .u32 (.var 43)), (70, 4, 2, .int .u32 (.var 44)), (70, 6, 0, .int .u32 (.var 45)), (70, 8, 0, .int .u32 (.var 46)), (42, 1, 0, .int .u32 (.var 5)), (42, 1, 8, .int .u32 (.var 6)), (42, 1, 12, .int .i64 (.var 7)), (42, 1, 17, .int .i64 (.var 8)), (42, 1, 71, I 5), (42, 1, 72, .int .i64 (.var 9)), (42, 2, 9, .int .i64 (.var 10)), (42, 2, 11, .int .i64 (.var 11)), (42, 2, 12, .int .i64 (.var 12)), (42, 2, 16, .int .i64 (.var 13)), (42, 2, 17, .int .i64 (.var 14)), (42, 2, 91, .int .i64 (.var 15)), (42, 2, 92, .int .i64 (.var 16)), (42, 2, 95, .int .u32 (.var 17)), (42, 2, 96, .int .i64 (.var 18)), (42, 2, 97, .int .i64 (.var 19)), (42, 3, 9, .int .i64 (.var 20)), (42, 3, 11, .int .i64 (.var 21)), (42, 3, 12, .int .i64 (.var 22)), (42, 3, 16, .int .i64 (.var 23)), (42, 3, 17, .int .i64 (.var 24)), (42, 3, 91, .int .i64 (.var 25)), (42, 3, 92, .int .i64 (.var 26)), (42, 3, 95, .int .u32 (.var 27)), (42, 3, 96, .int .i64 (.var 28)), (42, 3, 97, .int .i64 (.var 29))]
noncomputable def s2 : Sym := ⟨[.ptr 32 0, I 0], h36, [32, 33, 34, 35, 38, 39, 40, 41, 42, 44, 45, 51, 53, 54, 55, 64, 69, 70, 73, 30, 22, 14, 26, 10, 6, 28, 20, 24, 8, 4, 2, 29, 21, 13, 25, 9, 5, 27, 19, 23, 31, 7, 3, 1, 0], [(0, 1099511627775), (0, 1099511627775), (0, 4294967295), (0, 4294967295), (0, 1099511627775), (0, 4294967295), (0, 4294967295), (0, 1099511627775), (0, 1099511627775), (0, 1099511627775), (0, 1099511627775), (0, 1099511627775), (0, 1099511627775), (0, 1099511627775), (0, 1099511627775), (0, 1099511627775), (0, 1099511627775), (0, 4294967295), (0, 1099511627775), (0, 1099511627775), (0, 1099511627775), (0, 1099511627775), (0, 1099511627775), (0, 1099511627775), (0, 1099511627775), (0, 1099511627775), (0, 1099511627775), (0, 4294967295), (0, 1099511627775), (0, 1099511627775), (0, 1099511627775), (0, 1099511627775), (0, 1099511627775), (0, 1099511627775), (0, 1099511627775), (0, 1099511627775), (0, 4294967295), (0, 4294967295), (0, 4294967295), (0, 4294967295), (0, 4294967295), (0, 4294967295), (0, 4294967295), (0, 4294967295), (0, 4294967295), (0, 4294967295), (0, 4294967295), (0, 1099511627775), (0, 1099511627775), (0, 1099511627775), (0, 1099511627775), (0, 1099511627775), (0, 1099511627775)],
  [(true, .bop .rem .u32 (.var 6) (.lit 32), .lit 2, true), (true, .bop .shr .i64 (.var 44) (.lit 24), .lit 4, true), (false, .var 32, .lit 1, false), (false, .var 30, .lit 1, false), (true, .bop .quo .u32 (.var 6) (.lit 32), .lit 0, true), (true, .bop .and .i64 (.bop .shr .i64 (.var 44) (.lit 20)) (.lit 15), .lit 0, true), (true, .bop .and .i64 (.bop .shr .i64 (.var 44) (.lit 16)) (.lit 15), .lit 0, true), (true, .bop .and .i64 (.bop .shr .i64 (.var 44) (.lit 12)) (.lit 15), .lit 0, true), (false, .var 7, .lit 64, true), (false, .var 8, .lit 32, true), (false, .var 9, .lit 32, true)],
  .agg [I 1, I 1, I 0, U 0, I 0, U 0, IZ (-1), I 0],
  [.cel 32 0 8 (.int .i64 (.add (.var 0) (.lit 1))),
  .row 40 0 ([I 16, .slice 54 0 1 1 10 false, .int .i64 (.add (.var 1) (.lit 1))]),
  .cel 42 1 8 (.int .u32 (.bop .and .i64 (.var 44) (.lit 4095))),
  .row 45 0 ([IZ (-1), .int .i64 (.sub (.var 30) (.lit 1))]),
  .row 45 2 ([I 0, .int .i64 (.sub (.var 32) (.lit 1))])], 765⟩
theorem s2_run : ranTo (evCall (cxX Tryz.prog bad s2.rng s2.facts q0) 1000 60 15 s2.args s2.pre) s2.v s2.post = true := by kernel_rfl
theorem s2_ok {W0 : World} (hL : L0 W0) : SymOk Tryz.prog 26623 W0 15 s2 := sym_ok fit (fun σ hk => (q0_ok hL)) s2_run (by kernel_rfl)
noncomputable def s3 : Sym := ⟨[.ptr 32 0, I 0], h36, [32, 33, 34, 35, 38, 39, 40, 41, 42, 44, 45, 51, 53, 54, 55, 64, 69, 70, 73, 30, 22, 14, 26, 10, 6, 28, 20, 24, 8, 4, 2, 29, 21, 13, 25, 9, 5, 27, 19, 23, 31, 7, 3, 1, 0], [(0, 1099511627775), (0, 1099511627775), (0, 4294967295), (0, 4294967295), (0, 1099511627775), (0, 4294967295), (0, 4294967295), (0, 1099511627775), (0, 1099511627775), (0, 1099511627775), (0, 1099511627775), (0, 1099511627775), (0, 1099511627775), (0, 1099511627775), (0, 1099511627775), (0, 1099511627775), (0, 1099511627775), (0, 4294967295), (0, 1099511627775), (0, 1099511627775), (0, 1099511627775), (0, 1099511627775), (0, 1099511627775), (0, 1099511627775), (0, 1099511627775), (0, 1099511627775), (0, 1099511627775), (0, 4294967295), (0, 1099511627775), (0, 1099511627775), (0, 1099511627775), (0, 1099511627775), (0, 1099511627775), (0, 1099511627775), (0, 1099511627775), (0, 1099511627775), (0, 4294967295), (0, 4294967295), (0, 4294967295), (0, 4294967295), (0, 4294967295), (0, 4294967295), (0, 4294967295), (0, 4294967295), (0, 4294967295), (0, 4294967295), (0, 4294967295), (0, 1099511627775), (0, 1099511627775), (0, 1099511627775), (0, 1099511627775), (0, 1099511627775), (0, 1099511627775)],
  [(true, .bop .rem .u32 (.var 6) (.lit 32), .lit 0, true), (true, .bop .shr .i64 (.var 42) (.lit 24), .lit 1, true), (true, .bop .and .i64 (.bop .shr .i64 (.var 42) (.lit 20)) (.lit 15), .lit 0, true), (false, .var 32, .lit 1, false), (false, .var 30, .lit 1, false), (true, .bop .quo .u32 (.var 6) (.lit 32), .lit 0, true), (true, .bop .and .i64 (.bop .shr .i64 (.var 42) (.lit 16)) (.lit 15), .lit 0, true), (true, .bop .and .i64 (.bop .shr .i64 (.var 42) (.lit 12)) (.lit 15), .lit 0, true), (false, .var 7, .lit 64, true), (false, .var 8, .lit 32, true), (false, .var 9, .lit 32, true)],
  .agg [I 1, I 1, I 0, U 0, I 0, U 0, IZ (-1), I 0],
  [.cel 32 0 8 (.int .i64 (.add (.var 0) (.lit 1))),
  .row 40 0 ([I 16, .slice 54 0 1 1 10 false, .int .i64 (.add (.var 1) (.lit 1))]),
  .cel 42 1 0 (.int .u32 (.bop .and .i64 (.var 42) (.lit 4095))),
  .cel 42 1 8 (.int .u32 (.wrap .u32 (.add (.var 6) (.lit 1)))),
  .row 45 0 ([IZ (-1), .int .i64 (.sub (.var 30) (.lit 1))]),
  .row 45 2 ([I 0, .int .i64 (.sub (.var 32) (.lit 1))])], 774⟩
theorem s3_run : ranTo (evCall (cxX Tryz.prog bad s3.rng s3.facts q0) 1000 60 15 s3.args s3.pre) s3.v s3.post = true := by kernel_rfl
theorem s3_ok {W0 : World} (hL : L0 W0) : SymOk Tryz.prog 26623 W0 15 s3 := sym_ok fit (fun σ hk => (q0_ok hL)) s3_run (by kernel_rfl)
noncomputable def h37 : H := hUpc h35 74 [68, 48] [] [(72, 1, [bT, .int .i64 (.var 52), bF]),
  (72, 2, [bT, .int .i64 (.var 53), bF]),
  (72, 3, [bF, .int .i64 (.var 54), bF]),
  (73, 4, [bT, .int .i64 (.var 55), bF]),
  (73, 5, [bT, .int .i64 (.var 56), bF]),
  (73, 6, [bT, .int .i64 (.var 57), bF]),
  (73, 7, [bT, .int .i64 (.var 58), bF]),
  (73, 8, [bF, .int .i64 (.var 59), bF]),
  (73, 9, [bF, .int .i64 (.var 60), bF]),
  (55, 2, [bT, .int .i64 (.var 39), bF])] [(70, 0, 0, .int .u32 (.var 41)), (70, 0, 1, .int .u32 (.var 42)), (70, 2, 0, .int .u32 (.var 43)), (70, 3, 0, .int .u32 (.var 44)), (70, 3, 1, .int .u32 (.var 45)), (70, 3, 2, .int .u32 (.var 46)), (70, 4, 0, .int .u32 (.var 47)), (70, 4, 1, .int .u32 (.var 48)), (70, 4, 2, .int .u32 (.var 49)), (70, 6, 0, .int .u32 (.var 50)), (70, 8, 0, .int .u32 (.var 51)), (42, 1, 71, I 5), (42, 1, 72, .int .i64 (.var 6))]
noncomputable def s4 : Sym := ⟨[.ptr 32 0, I 0], h37, [32, 33, 34, 35, 36, 37, 38, 39, 40, 41, 42, 44, 45, 46, 47, 49, 50, 51, 52, 53, 54, 55, 64, 65, 66, 67, 69, 70, 72, 73, 30, 22, 14, 26, 10, 6, 28, 20, 24, 8, 4, 2, 29, 21, 13, 25, 9, 5, 27, 19, 23, 31, 7, 3, 1, 0], [(0, 1099511627775), (0, 1099511627775), (0, 4294967295), (0, 4294967295), (0, 1099511627775), (0, 4294967295), (0, 1099511627775), (0, 1099511627775), (0, 1099511627775), (0, 1099511627775), (0, 1099511627775), (0, 1099511627775), (0, 1099511627775), (0, 1099511627775), (0, 4294967295), (0, 1099511627775), (0, 1099511627775), (0, 1099511627775), (0, 1099511627775), (0, 1099511627775), (0, 1099511627775), (0, 1099511627775), (0, 1099511627775), (0, 1099511627775), (0, 4294967295), (0, 1099511627775), (0, 1099511627775), (0, 1099511627775), (0, 1099511627775), (0, 1099511627775), (0, 1099511627775), (0, 1099511627775), (0, 1099511627775), (0, 1099511627775), (0, 1099511627775), (0, 1099511627775), (0, 1099511627775), (0, 1099511627775), (0, 1099511627775), (0, 1099511627775), (0, 1099511627775), (0, 4294967295), (0, 4294967295), (0, 4294967295), (0, 4294967295), (0, 4294967295), (0, 4294967295), (0, 4294967295), (0, 4294967295), (0, 4294967295), (0, 4294967295), (0, 4294967295), (0, 1099511627775), (0, 1099511627775), (0, 1099511627775), (0, 1099511627775), (0, 1099511627775), (0, 1099511627775), (0, 1099511627775), (0, 1099511627775), (0, 1099511627775)],
  [(true, .bop .rem .u32 (.var 5) (.lit 32), .lit 1, true), (true, .bop .shr .i64 (.var 48) (.lit 24), .lit 11, true), (true, .bop .rem .i64 (.add (.bop .and .i64 (.bop .shr .i64 (.var 48) (.lit 12)) (.lit 15)) (.lit 0)) (.lit 16), .lit 0, true), (true, .bop .rem .i64 (.add (.bop .and .i64 (.bop .shr .i64 (.var 48) (.lit 12)) (.lit 15)) (.lit 1)) (.lit 16), .lit 1, true), (true, .bop .rem .i64 (.add (.bop .and .i64 (.bop .shr .i64 (.var 48) (.lit 12)) (.lit 15)) (.lit 2)) (.lit 16), .lit 2, true), (true, .bop .and .i64 (.bop .shr .i64 (.var 48) (.lit 16)) (.lit 15), .lit 2, true), (false, .var 29, .lit 1, false), (false, .var 27, .lit 1, false), (true, .bop .quo .u32 (.var 5) (.lit 32), .lit 0, true), (false, .lit 2, .bop .and .i64 (.bop .shr .i64 (.var 48) (.lit 20)) (.lit 15), false), (false, .lit 0, .bop .and .i64 (.var 48) (.lit 4095), false), (false, .var 6, .lit 32, true), (false, .lit 7, .var 33, false), (false, .sub (.var 31) (.var 32), .lit 4, true), (true, .bop .and .i64 (.bop .shr .i64 (.var 48) (.lit 20)) (.lit 15), .lit 0, true)],
  .agg [I 1, I 2, I 0, U 1, I 9, U 6, IZ (-1), I 0],
  [.cel 32 0 8 (.int .i64 (.add (.var 0) (.lit 1))),
  .row 40 0 ([I 16, .slice 54 0 1 1 10 false, .int .i64 (.add (.var 1) (.lit 1))]),
  .cel 42 1 0 (U 6),
  .cel 42 1 8 (.int .u32 (.wrap .u32 (.add (.var 5) (.lit 1)))),
  .cel 42 1 71 (I 0),
  .cel 42 1 72 (I 0),
  .row 45 0 ([IZ (-1), .int .i64 (.sub (.var 27) (.lit 1))]),
  .row 45 2 ([I 0, .int .i64 (.sub (.var 29) (.lit 1))])], 2209⟩
theorem s4_run : ranTo (evCall (cxX Tryz.prog bad s4.rng s4.facts q0) 1000 60 15 s4.args s4.pre) s4.v s4.post = true := by kernel_rfl
theorem s4_ok {W0 : World} (hL : L0 W0) : SymOk Tryz.prog 26623 W0 15 s4 := sym_ok fit (fun σ hk => (q0_ok hL)) s4_run (by kernel_rfl)
noncomputable def h38 : H := hUpc h36 74 [] [] [] [(42, 1, 71, .int .i64 (.var 9)), (42, 1, 72, I 0)]
noncomputable def s5 : Sym := ⟨[.ptr 32 0, I 0], h38, [32, 33, 34, 35, 38, 39, 40, 41, 42, 44, 45, 51, 53, 54, 55, 64, 69, 70, 73, 30, 22, 14, 26, 10, 6, 28, 20, 24, 8, 4, 2, 29, 21, 13, 25, 9, 5, 27, 19, 23, 31, 7, 3, 1, 0], [(0, 1099511627775), (0, 1099511627775), (0, 4294967295), (0, 4294967295), (0, 1099511627775), (0, 4294967295), (0, 4294967295), (0, 1099511627775), (0, 1099511627775), (0, 1099511627775), (0, 1099511627775), (0, 1099511627775), (0, 1099511627775), (0, 1099511627775), (0, 1099511627775), (0, 1099511627775), (0, 1099511627775), (0, 4294967295), (0, 1099511627775), (0, 1099511627775), (0, 1099511627775), (0, 1099511627775), (0, 1099511627775), (0, 1099511627775), (0, 1099511627775), (0, 1099511627775), (0, 1099511627775), (0, 4294967295), (0, 1099511627775), (0, 1099511627775), (0, 1099511627775), (0, 1099511627775), (0, 1099511627775), (0, 1099511627775), (0, 1099511627775), (0, 1099511627775), (0, 4294967295), (0, 4294967295), (0, 4294967295), (0, 4294967295), (0, 4294967295), (0, 4294967295), (0, 4294967295), (0, 4294967295), (0, 4294967295), (0, 4294967295), (0, 4294967295), (0, 1099511627775), (0, 1099511627775), (0, 1099511627775), (0, 1099511627775), (0, 1099511627775), (0, 1099511627775)],
  [(true, .bop .rem .u32 (.var 6) (.lit 32), .lit 2, true), (true, .bop .shr .i64 (.var 44) (.lit 24), .lit 4, true), (false, .var 32, .lit 1, false), (false, .var 30, .lit 1, false), (true, .bop .quo .u32 (.var 6) (.lit 32), .lit 0, true), (true, .bop .and .i64 (.bop .shr .i64 (.var 44) (.lit 20)) (.lit 15), .lit 0, true), (true, .bop .and .i64 (.bop .shr .i64 (.var 44) (.lit 16)) (.lit 15), .lit 0, true), (true, .bop .and .i64 (.bop .shr .i64 (.var 44) (.lit 12)) (.lit 15), .lit 0, true), (false, .var 7, .lit 64, true), (false, .var 8, .lit 32, true), (false, .lit 14, .var 9, false), (true, .var 9, .lit 2, false), (true, .var 9, .lit 3, false), (true, .var 9, .lit 4, false), (true, .var 9, .lit 5, false), (true, .var 9, .lit 6, false), (true, .var 9, .lit 7, false), (true, .var 9, .lit 8, false), (true, .var 9, .lit 9, false), (true, .var 9, .lit 10, false), (true, .var 9, .lit 1, false)],
  .agg [I 1, I 1, I 0, U 0, I 0, U 0, IZ (-1), I 0],
  [.cel 32 0 8 (.int .i64 (.add (.var 0) (.lit 1))),
  .row 40 0 ([I 16, .slice 54 0 1 1 10 false, .int .i64 (.add (.var 1) (.lit 1))]),
  .cel 42 1 8 (.int .u32 (.bop .and .i64 (.var 44) (.lit 4095))),
  .row 45 0 ([IZ (-1), .int .i64 (.sub (.var 30) (.lit 1))]),
  .row 45 2 ([I 0, .int .i64 (.sub (.var 32) (.lit 1))])], 765⟩
theorem s5_run : ranTo (evCall (cxX Tryz.prog bad s5.rng s5.facts q0) 1000 60 15 s5.args s5.pre) s5.v s5.post = true := by kernel_rfl
theorem s5_ok {W0 : World} (hL : L0 W0) : SymOk Tryz.prog 26623 W0 15 s5 := sym_ok fit (fun σ hk => (q0_ok hL)) s5_run (by kernel_rfl)
noncomputable def s6 : Sym := ⟨[.ptr 32 0, I 0], h38, [32, 33, 34, 35, 38, 39, 40, 41, 42, 44, 45, 51, 53, 54, 55, 64, 69, 70, 73, 30, 22, 14, 26, 10, 6, 28, 20, 24, 8, 4, 2, 29, 21, 13, 25, 9, 5, 27, 19, 23, 31, 7, 3, 1, 0], [(0, 1099511627775), (0, 1099511627775), (0, 4294967295), (0, 4294967295), (0, 1099511627775), (0, 4294967295), (0, 4294967295), (0, 1099511627775), (0, 1099511627775), (0, 1099511627775), (0, 1099511627775), (0, 1099511627775), (0, 1099511627775), (0, 1099511627775), (0, 1099511627775), (0, 1099511627775), (0, 1099511627775), (0, 4294967295), (0, 1099511627775), (0, 1099511627775), (0, 1099511627775), (0, 1099511627775), (0, 1099511627775), (0, 1099511627775), (0, 1099511627775), (0, 1099511627775), (0, 1099511627775), (0, 4294967295), (0, 1099511627775), (0, 1099511627775), (0, 1099511627775), (0, 1099511627775), (0, 1099511627775), (0, 1099511627775), (0, 1099511627775), (0, 1099511627775), (0, 4294967295), (0, 4294967295), (0, 4294967295), (0, 4294967295), (0, 4294967295), (0, 4294967295), (0, 4294967295), (0, 4294967295), (0, 4294967295), (0, 4294967295), (0, 4294967295), (0, 1099511627775), (0, 1099511627775), (0, 1099511627775), (0, 1099511627775), (0, 1099511627775), (0, 1099511627775)],
  [(true, .bop .rem .u32 (.var 6) (.lit 32), .lit 0, true), (true, .bop .shr .i64 (.var 42) (.lit 24), .lit 1, true), (true, .bop .and .i64 (.bop .shr .i64 (.var 42) (.lit 20)) (.lit 15), .lit 0, true), (false, .var 32, .lit 1, false), (false, .var 30, .lit 1, false), (true, .bop .quo .u32 (.var 6) (.lit 32), .lit 0, true), (true, .bop .and .i64 (.bop .shr .i64 (.var 42) (.lit 16)) (.lit 15), .lit 0, true), (true, .bop .and .i64 (.bop .shr .i64 (.var 42) (.lit 12)) (.lit 15), .lit 0, true), (false, .var 7, .lit 64, true), (false, .var 8, .lit 32, true), (false, .lit 14, .var 9, false), (true, .var 9, .lit 2, false), (true, .var 9, .lit 3, false), (true, .var 9, .lit 4, false), (true, .var 9, .lit 5, false), (true, .var 9, .lit 6, false), (true, .var 9, .lit 7, false), (true, .var 9, .lit 8, false), (true, .var 9, .lit 9, false), (true, .var 9, .lit 10, false), (true, .var 9, .lit 1, false)],
  .agg [I 1, I 1, I 0, U 0, I 0, U 0, IZ (-1), I 0],
  [.cel 32 0 8 (.int .i64 (.add (.var 0) (.lit 1))),
  .row 40 0 ([I 16, .slice 54 0 1 1 10 false, .int .i64 (.add (.var 1) (.lit 1))]),
  .cel 42 1 0 (.int .u32 (.bop .and .i64 (.var 42) (.lit 4095))),
  .cel 42 1 8 (.int .u32 (.wrap .u32 (.add (.var 6) (.lit 1)))),
  .row 45 0 ([IZ (-1), .int .i64 (.sub (.var 30) (.lit 1))]),
  .row 45 2 ([I 0, .int .i64 (.sub (.var 32) (.lit 1))])], 774⟩
theorem s6_run : ranTo (evCall (cxX Tryz.prog bad s6.rng s6.facts q0) 1000 60 15 s6.args s6.pre) s6.v s6.post = true := by kernel_rfl
theorem s6_ok {W0 : World} (hL : L0 W0) : SymOk Tryz.prog 26623 W0 15 s6 := sym_ok fit (fun σ hk => (q0_ok hL)) s6_run (by kernel_rfl)
noncomputable def h39 : H := hUpc h37 74 [] [] [] [(42, 1, 71, .int .i64 (.var 6)), (42, 1, 72, I 0)]
noncomputable def s7 : Sym := ⟨[.ptr 32 0, I 0], h39, [32, 33, 34, 35, 36, 37, 38, 39, 40, 41, 42, 44, 45, 46, 47, 49, 50, 51, 52, 53, 54, 55, 64, 65, 66, 67, 69, 70, 72, 73, 30, 22, 14, 26, 10, 6, 28, 20, 24, 8, 4, 2, 29, 21, 13, 25, 9, 5, 27, 19, 23, 31, 7, 3, 1, 0], [(0, 1099511627775), (0, 1099511627775), (0, 4294967295), (0, 4294967295), (0, 1099511627775), (0, 4294967295), (0, 1099511627775), (0, 1099511627775), (0, 1099511627775), (0, 1099511627775), (0, 1099511627775), (0, 1099511627775), (0, 1099511627775), (0, 1099511627775), (0, 4294967295), (0, 1099511627775), (0, 1099511627775), (0, 1099511627775), (0, 1099511627775), (0, 1099511627775), (0, 1099511627775), (0, 1099511627775), (0, 1099511627775), (0, 1099511627775), (0, 4294967295), (0, 1099511627775), (0, 1099511627775), (0, 1099511627775), (0, 1099511627775), (0, 1099511627775), (0, 1099511627775), (0, 1099511627775), (0, 1099511627775), (0, 1099511627775), (0, 1099511627775), (0, 1099511627775), (0, 1099511627775), (0, 1099511627775), (0, 1099511627775), (0, 1099511627775), (0, 1099511627775), (0, 4294967295), (0, 4294967295), (0, 4294967295), (0, 4294967295), (0, 4294967295), (0, 4294967295), (0, 4294967295), (0, 4294967295), (0, 4294967295), (0, 4294967295), (0, 4294967295), (0, 1099511627775), (0, 1099511627775), (0, 1099511627775), (0, 1099511627775), (0, 1099511627775), (0, 1099511627775), (0, 1099511627775), (0, 1099511627775), (0, 1099511627775)],
  [(true, .bop .rem .u32 (.var 5) (.lit 32), .lit 1, true), (true, .bop .shr .i64 (.var 48) (.lit 24), .lit 11, true), (true, .bop .rem .i64 (.add (.bop .and .i64 (.bop .shr .i64 (.var 48) (.lit 12)) (.lit 15)) (.lit 0)) (.lit 16), .lit 0, true), (true, .bop .rem .i64 (.add (.bop .and .i64 (.bop .shr .i64 (.var 48) (.lit 12)) (.lit 15)) (.lit 1)) (.lit 16), .lit 1, true), (true, .bop .rem .i64 (.add (.bop .and .i64 (.bop .shr .i64 (.var 48) (.lit 12)) (.lit 15)) (.lit 2)) (.lit 16), .lit 2, true), (true, .bop .and .i64 (.bop .shr .i64 (.var 48) (.lit 16)) (.lit 15), .lit 2, true), (false, .var 29, .lit 1, false), (false, .var 27, .lit 1, false), (true, .bop .quo .u32 (.var 5) (.lit 32), .lit 0, true), (false, .lit 2, .bop .and .i64 (.bop .shr .i64 (.var 48) (.lit 20)) (.lit 15), false), (false, .lit 0, .bop .and .i64 (.var 48) (.lit 4095), false), (false, .lit 14, .var 6, false), (true, .var 6, .lit 2, false), (true, .var 6, .lit 3, false), (true, .var 6, .lit 4, false), (true, .var 6, .lit 5, false), (true, .var 6, .lit 6, false), (true, .var 6, .lit 7, false), (true, .var 6, .lit 8, false), (true, .var 6, .lit 9, false), (true, .var 6, .lit 10, false), (true, .var 6, .lit 1, false), (false, .lit 7, .var 33, false), (false, .sub (.var 31) (.var 32), .lit 4, true), (true, .bop .and .i64 (.bop .shr .i64 (.var 48) (.lit 20)) (.lit 15), .lit 0, true)],
  .agg [I 1, I 2, I 0, U 1, I 9, U 6, IZ (-1), I 0],
  [.cel 32 0 8 (.int .i64 (.add (.var 0) (.lit 1))),
  .row 40 0 ([I 16, .slice 54 0 1 1 10 false, .int .i64 (.add (.var 1) (.lit 1))]),
  .cel 42 1 0 (U 6),
  .cel 42 1 8 (.int .u32 (.wrap .u32 (.add (.var 5) (.lit 1)))),
  .cel 42 1 71 (I 0),
  .row 45 0 ([IZ (-1), .int .i64 (.sub (.var 27) (.lit 1))]),
  .row 45 2 ([I 0, .int .i64 (.sub (.var 29) (.lit 1))])], 2209⟩
theorem s7_run : ranTo (evCall (cxX Tryz.prog bad s7.rng s7.facts q0) 1000 60 15 s7.args s7.pre) s7.v s7.post = true := by kernel_rfl
theorem s7_ok {W0 : World} (hL : L0 W0) : SymOk Tryz.prog 26623 W0 15 s7 := sym_ok fit (fun σ hk => (q0_ok hL)) s7_run (by kernel_rfl)
noncomputable def p43 : Pur := ([.agg [I 3, I 6, I 0, I 0, U 0]], .inil, 1048576)
theorem p43_run : ranPure (evCall (cxX Tryz.prog bad [] [] q0) 1000 60 70 p43.1 ⟨.lf, p43.2.2⟩) p43.2.1 = true := by kernel_rfl
theorem p43_ok {σ : Nat → Int} {W0 : World} (hL : L0 W0) : PureOk Tryz.prog 26623 σ W0 70 p43 := pure_ok fit (Known2.nil σ) ((q0_ok hL)) p43_run
noncomputable def p44 : Pur := ([.agg [I 3, I 7, I 0, I 0, U 0]], .inil, 1048576)
theorem p44_run : ranPure (evCall (cxX Tryz.prog bad [] [] q0) 1000 60 70 p44.1 ⟨.lf, p44.2.2⟩) p44.2.1 = true := by kernel_rfl
theorem p44_ok {σ : Nat → Int} {W0 : World} (hL : L0 W0) : PureOk Tryz.prog 26623 σ W0 70 p44 := pure_ok fit (Known2.nil σ) ((q0_ok hL)) p44_run
noncomputable def p45 : Pur := ([.agg [I 2, I 2, I 0, I 0, U 1]], .inil, 1048576)
theorem p45_run : ranPure (evCall (cxX Tryz.prog bad [] [] q0) 1000 60 70 p45.1 ⟨.lf, p45.2.2⟩) p45.2.1 = true := by kernel_rfl
theorem p45_ok {σ : Nat → Int} {W0 : World} (hL : L0 W0) : PureOk Tryz.prog 26623 σ W0 70 p45 := pure_ok fit (Known2.nil σ) ((q0_ok hL)) p45_run
noncomputable def h40 : H := hUpc h33 77760 [] [(370, .map [(.agg [I 3, I 0], .agg [I 0, I 0], 0), (.agg [I 3, I 1], .agg [I 0, I 0], 1), (.agg [I 2, I 0], .agg [I 0, I 0], 2), (.agg [I 4, I 0], .agg [I 0, I 0], 3), (.agg [I 3, I 2], .agg [I 0, I 0], 4), (.agg [I 3, I 3], .agg [I 0, I 0], 5), (.agg [I 3, I 4], .agg [I 1, I 0], 6), (.agg [I 3, I 5], .agg [I 1, I 0], 7), (.agg [I 2, I 1], .agg [I 1, I 0], 8), (.agg [I 4, I 1], .agg [I 1, I 0], 9), (.agg [I 3, I 6], .agg [I 1, I 0], 10), (.agg [I 3, I 7], .agg [I 1, I 0], 11), (.agg [I 2, I 2], .agg [I 1, I 0], 12), (.agg [I 4, I 2], .agg [I 1, I 0], 13)] 14),
  (5332, .cells 1 ([[I 1]]) false),
  (5365, .cells 10 ([[I 2, I 1, I 0, I 0, U 1, U 0, .slice 5332 0 1 1 1 false, I 4, I 0, bF]]) false)] [(324, 2, [bT, I 0, bF]),
  (328, 6, [bT, I 0, bF]),
  (328, 7, [bT, I 0, bF]),
  (365, 0, [IZ (-1), I 2147483587]),
  (365, 2, [I 0, I 440]),
  (333, 0, [I 16, .slice 5365 0 1 1 10 false, I 59]),
  (369, 0, [IZ (-1), I 60, I 14]),
  (369, 1, [I 0, I 8, I 8]),
  (335, 2, [bT, I 0, bF])] [(326, 2, 0, I 3), (326, 2, 1, I 6), (326, 2, 5, I 3), (326, 2, 6, I 7), (330, 6, 0, U 218103808), (377, 0, 8, I 60), (337, 1, 0, U 6), (337, 2, 9, I 1), (337, 2, 11, I 8), (337, 2, 12, I 1), (337, 2, 16, I 7), (337, 2, 17, I 2), (337, 2, 91, I 2), (337, 2, 92, I 2), (337, 2, 95, U 1), (337, 2, 96, I 7), (337, 2, 97, I 2)]
noncomputable def h41 : H := hUpd h40 78848 [] [(78819, .cells 7 ([[I 2, I 0, I 3, I 0, I 0, I 0, U 0], [I 2, I 0, I 3, I 1, I 0, I 0, U 0], [I 2, I 1, I 3, I 4, I 0, I 0, U 0], [I 2, I 1, I 3, I 5, I 0, I 0, U 0], [I 2, I 2, I 3, I 6, I 0, I 0, U 0], [I 2, I 2, I 3, I 7, I 0, I 0, U 0], [I 4, I 0, I 8, I 0, I 0, I 0, U 0], [I 4, I 0, I 7, I 1, I 0, I 0, U 0], [I 4, I 0, I 11, I 0, I 0, I 0, U 0], [I 4, I 0, I 12, I 0, I 0, I 0, U 0], [I 4, I 0, I 13, I 0, I 0, I 0, U 0], [I 4, I 0, I 14, I 0, I 0, I 0, U 0], [I 4, I 0, I 2, I 0, I 0, I 0, U 1], [I 4, I 0, I 7, I 1, I 0, I 0, U 0], [I 4, I 1, I 8, I 1, I 0, I 0, U 0], [I 4, I 1, I 7, I 2, I 0, I 0, U 0], [I 4, I 1, I 9, I 0, I 0, I 0, U 0], [I 4, I 1, I 2, I 1, I 0, I 0, U 1], [I 4, I 1, I 7, I 2, I 0, I 0, U 0], [I 4, I 2, I 8, I 1, I 0, I 0, U 0], [I 4, I 2, I 7, I 2, I 0, I 0, U 0], [I 4, I 2, I 2, I 2, I 0, I 0, U 1], [I 4, I 2, I 7, I 2, I 0, I 0, U 0], [I 9, I 0, I 3, I 2, I 0, I 5, U 0], [I 9, I 1, I 3, I 3, I 0, I 5, U 0], [I 9, I 1, I 9, I 0, I 0, I 0, U 0]]) false)] []
noncomputable def m46 : Memo := ⟨[.ptr 377 0], h40, .slice 78819 0 26 26 7 false, h41⟩
noncomputable def l5 : List (Pur) := p25 :: p20 :: p45 :: p39 :: p27 :: p36 :: p35 :: p3 :: p9 :: p8 :: p7 :: p6 :: p5 :: p4 :: p44 :: p43 :: p38 :: p37 :: p2 :: p1 :: p0 :: []
theorem l5_ok {σ : Nat → Int} {W0 : World} (hL : L0 W0) : ∀ x ∈ l5, PureOk Tryz.prog 26623 σ W0 70 x := all_cons (p25_ok hL) (all_cons (p20_ok hL) (all_cons (p45_ok hL) (all_cons (p39_ok hL) (all_cons (p27_ok hL) (all_cons (p36_ok hL) (all_cons (p35_ok hL) (all_cons (p3_ok hL) (all_cons (p9_ok hL) (all_cons (p8_ok hL) (all_cons (p7_ok hL) (all_cons (p6_ok hL) (all_cons (p5_ok hL) (all_cons (p4_ok hL) (all_cons (p44_ok hL) (all_cons (p43_ok hL) (all_cons (p38_ok hL) (all_cons (p37_ok hL) (all_cons (p2_ok hL) (all_cons (p1_ok hL) (all_cons (p0_ok hL) (all_nil)))))))))))))))))))))
theorem m46_run : ranTo (evCall (cxX Tryz.prog bad [] [] ((70, pureFn l5) :: q0)) 1000 60 101 m46.args m46.h) m46.v m46.h' = true := by kernel_rfl
theorem m46_ok {σ : Nat → Int} {W0 : World} (hL : L0 W0) : MemoOk Tryz.prog 26623 σ W0 101 m46 := memo_ok fit (Known2.nil σ) (FnsOk.cons (pure_fn_ok (l5_ok hL)) ((q0_ok hL))) m46_run
noncomputable def h42 : H := hUpd h40 77630 [] [] []
noncomputable def h43 : H := hUpd h40 79104 [] [] []
noncomputable def m47 : Memo := ⟨[.ptr 377 0, I 1], h42, .snil, h43⟩
noncomputable def q6 : Fns := [(101, frameFn [m46]), (239, isFn 439), (172, atoiFullFn 393), (105, itoaFullFn), (270, countFn), (312, indexFn), (271, cutOf Tryz.prog 26623 bad [(270, countFn), (312, indexFn)] 1000 20 271)]
theorem q6_ok {σ : Nat → Int} {W0 : World} (hL : L0 W0) : FnsOk Tryz.prog 26623 σ W0 q6 := FnsOk.cons (frame_fn_ok (all_cons (m46_ok hL) (all_nil))) (FnsOk.cons (ext_is hL) (FnsOk.cons (ext_atoi hL) (FnsOk.cons (ext_itoa hL) (FnsOk.cons (ext_count hL) (FnsOk.cons (ext_index hL) (FnsOk.cons (ext_cut271 hL) (FnsOk.nil)))))))
theorem m47_run : ranTo (evCall (cxX Tryz.prog bad [] [] q6) 1000 60 17 m47.args m47.h) m47.v m47.h' = true := by kernel_rfl
theorem m47_ok {σ : Nat → Int} {W0 : World} (hL : L0 W0) : MemoOk Tryz.prog 26623 σ W0 17 m47 := memo_ok fit (Known2.nil σ) ((q6_ok hL)) m47_run
noncomputable def h44 : H := hUpd h40 79112 [] [] []
noncomputable def h45 : H := hUpd h40 79616 [] [(370, .map [(.agg [I 3, I 0], .agg [I 0, I 0], 0), (.agg [I 3, I 1], .agg [I 0, I 0], 1), (.agg [I 2, I 0], .agg [I 0, I 0], 2), (.agg [I 4, I 0], .agg [I 0, I 0], 3), (.agg [I 3, I 2], .agg [I 0, I 0], 4), (.agg [I 3, I 3], .agg [I 0, I 0], 5)] 14)] [(4922, 0, [I 0]),
  (324, 1, [bF, I 1, bF]),
  (324, 2, [bF, I 1, bF]),
  (376, 0, [.slice 4922 0 0 1 1 false]),
  (328, 4, [bF, I 1, bF]),
  (328, 5, [bF, I 1, bF]),
  (328, 6, [bF, I 1, bF]),
  (328, 7, [bF, I 1, bF]),
  (333, 0, [I 16, .snil, I 59]),
  (369, 0, [IZ (-1), I 60, I 6]),
  (369, 1, [I 0, I 8, I 0]),
  (367, 1, [bF, I 1, bF]),
  (335, 1, [bF, I 1, bF]),
  (335, 2, [bF, I 1, bF])]
noncomputable def m48 : Memo := ⟨[.ptr 377 0, .agg [I 8, I 1, I 0, I 0, U 0], U 4, U 0, .agg [I 0, I 0, I 0, I 0, U 0], .agg [I 0, I 0, I 0, I 0, U 0]], h44, .agg [U 0, U 8, U 0, U 0, I 0, I 0, I 0, I 0, U 0, I 0, I 0, I 0, I 0, U 0, I 0, I 0, I 0, I 0, U 0], h45⟩
theorem m48_run : ranTo (evCall (cxX Tryz.prog bad [] [] ((70, pureFn [p35, p2]) :: q0)) 1000 60 13 m48.args m48.h) m48.v m48.h' = true := by kernel_rfl
theorem m48_ok {σ : Nat → Int} {W0 : World} (hL : L0 W0) : MemoOk Tryz.prog 26623 σ W0 13 m48 := memo_ok fit (Known2.nil σ) (FnsOk.cons (pure_fn_ok (all_cons (p35_ok hL) (all_cons (p2_ok hL) (all_nil)))) ((q0_ok hL))) m48_run
noncomputable def h46 : H := hUpd h36 72 [54, 70, 42, 34, 44, 40, 64, 45, 53, 69, 73, 41, 33, 51, 35, 55, 39] [] [(38, 0, [.slice 51 0 0 1 1 false])]
noncomputable def s8 : Sym := ⟨[.ptr 32 0, I 0], h46, [32, 38, 30, 22, 14, 26, 10, 6, 28, 20, 24, 8, 4, 2, 29, 21, 13, 25, 9, 5, 27, 19, 23, 31, 7, 3, 1, 0], [(0, 1099511627775)],
  [],
  .agg [IZ (-1), I 0, I 0, U 0, I 0, U 0, IZ (-1), I 0],
  [.cel 32 0 8 (.int .i64 (.add (.var 0) (.lit 1)))], 73⟩
theorem s8_run : ranTo (evCall (cxX Tryz.prog bad s8.rng s8.facts q0) 1000 60 15 s8.args s8.pre) s8.v s8.post = true := by kernel_rfl
theorem s8_ok {W0 : World} (hL : L0 W0) : SymOk Tryz.prog 26623 W0 15 s8 := sym_ok fit (fun σ hk => (q0_ok hL)) s8_run (by kernel_rfl)
noncomputable def l7 : List (Memo) := m48 :: m42 :: m40 :: m34 :: m32 :: m31 :: m29 :: m28 :: m26 :: m23 :: m22 :: m21 :: m18 :: []
theorem l7_ok {σ : Nat → Int} {W0 : World} (hL : L0 W0) : ∀ x ∈ l7, MemoOk Tryz.prog 26623 σ W0 13 x := all_cons (m48_ok hL) (all_cons (m42_ok hL) (all_cons (m40_ok hL) (all_cons (m34_ok hL) (all_cons (m32_ok hL) (all_cons (m31_ok hL) (all_cons (m29_ok hL) (all_cons (m28_ok hL) (all_cons (m26_ok hL) (all_cons (m23_ok hL) (all_cons (m22_ok hL) (all_cons (m21_ok hL) (all_cons (m18_ok hL) (all_nil)))))))))))))
noncomputable def y8 : List Sym := [s0, s1, s2, s3, s4, s5, s6, s7, s8]
theorem y8_ok {W0 : World} (hL : L0 W0) : ∀ x ∈ y8, SymOk Tryz.prog 26623 W0 15 x := all_cons (s0_ok hL) (all_cons (s1_ok hL) (all_cons (s2_ok hL) (all_cons (s3_ok hL) (all_cons (s4_ok hL) (all_cons (s5_ok hL) (all_cons (s6_ok hL) (all_cons (s7_ok hL) (all_cons (s8_ok hL) (all_nil)))))))))
noncomputable def q9 : Fns := [(7, pureFn [p10]), (10, frameFn [m17]), (17, frameFn [m47]), (239, isFn 439), (172, atoiFullFn 393), (105, itoaFullFn), (270, countFn), (312, indexFn), (271, cutOf Tryz.prog 26623 bad [(270, countFn), (312, indexFn)] 1000 20 271)]
theorem q9_ok {σ : Nat → Int} {W0 : World} (hL : L0 W0) : FnsOk Tryz.prog 26623 σ W0 q9 := FnsOk.cons (pure_fn_ok (all_cons (p10_ok hL) (all_nil))) (FnsOk.cons (frame_fn_ok (all_cons (m17_ok hL) (all_nil))) (FnsOk.cons (frame_fn_ok (all_cons (m47_ok hL) (all_nil))) (FnsOk.cons (ext_is hL) (FnsOk.cons (ext_atoi hL) (FnsOk.cons (ext_itoa hL) (FnsOk.cons (ext_count hL) (FnsOk.cons (ext_index hL) (FnsOk.cons (ext_cut271 hL) (FnsOk.nil)))))))))
theorem run0 : isTrue (evCall (cxX Tryz.prog bad [] [] ((20, numExtE [(0, 3, .lit 0)]) :: (15, symFn (cxX Tryz.prog bad [] [] []) 32 y8) :: (13, frameFn l7) :: (9, frameFn [m14, m16]) :: q9)) 1000 60 3 [.int .i64 (.var 0)] (sentH 439 19 errTab)) = true := by kernel_rfl
abbrev CaseS (rng : Rg) (facts : List (Bool × E × E × Bool)) (tab : NumTabE) (vs : List V) : Prop := ∀ {σ : Nat → Int} {W : World} (hL : L0 W) (hk : Known2 σ rng facts) (hT : TabOk Tryz.prog bad 20 σ tab) {xs : Array Value} (hv : ∀ ρ, VRs σ ρ vs xs.toList), Calls Tryz.prog 3 xs W fun e w' => e = .returned (.bool true) ∧ Below W.heap.size W w'
theorem caseS {rng : Rg} {facts : List (Bool × E × E × Bool)} {tab : NumTabE} {vs : List V} {fs : Fns} (hx : ∀ {σ : Nat → Int} {W : World}, L0 W → Known2 σ rng facts → TabOk Tryz.prog bad 20 σ tab → FnsOk Tryz.prog 26623 σ W fs)
    (run : isTrue (evCall (cxX Tryz.prog bad rng facts fs) 1000 60 3 vs (sentH 439 19 errTab)) = true) : CaseS rng facts tab vs := by
  intro σ W hL hk hT xs hv
  obtain ⟨ads, h1, h2, h3⟩ := errs_sents hL
  exact law_case_x fit h1 h2 h3 errs_all errs_lt (by kernel_rfl) hk (hx hL hk hT) hv ⟨_, Tryz.func3, rfl⟩ run
theorem case0 : CaseS [] [] [(0, 3, .lit 0)] [.int .i64 (.var 0)] := caseS (fun hL hk hT => FnsOk.cons (hT.ok fit) (FnsOk.cons (sym_fn_ok (Γ := cxX Tryz.prog bad [] [] []) (fix := 32) ⟨hk.rng, hk.facts⟩ (by decide) (y8_ok hL)) (FnsOk.cons (frame_fn_ok (l7_ok hL)) (FnsOk.cons (frame_fn_ok (all_cons (m14_ok hL) (all_cons (m16_ok hL) (all_nil)))) ((q9_ok hL)))))) run0
noncomputable def h47 : H := hUpd h28 3584 [] [] [(369, 1, [I 0, I 12, I 0])]
noncomputable def m49 : Memo := ⟨[.ptr 377 0, .agg [I 8, I 0, I 0, I 0, U 0], U 2, U 12, .agg [I 0, I 0, I 0, I 0, U 0], .agg [I 0, I 0, I 0, I 0, U 0]], h27, .agg [U 0, U 0, U 0, U 0, I 8, I 1, I 0, I 0, U 0, I 0, I 0, I 0, I 0, U 0, I 0, I 0, I 0, I 0, U 0], h47⟩
theorem m49_run : ranTo (evCall (cxX Tryz.prog bad [] [] ((70, pureFn [p4, p2]) :: q0)) 1000 60 13 m49.args m49.h) m49.v m49.h' = true := by kernel_rfl
theorem m49_ok {σ : Nat → Int} {W0 : World} (hL : L0 W0) : MemoOk Tryz.prog 26623 σ W0 13 m49 := memo_ok fit (Known2.nil σ) (FnsOk.cons (pure_fn_ok (all_cons (p4_ok hL) (all_cons (p2_ok hL) (all_nil)))) ((q0_ok hL))) m49_run
noncomputable def h48 : H := hUpd h47 3619 [] [] []
noncomputable def h49 : H := hUpd h30 3840 [] [] [(369, 1, [I 0, I 12, I 0])]
noncomputable def m50 : Memo := ⟨[.ptr 377 0, .agg [I 7, I 0, I 0, I 0, U 0], U 2, U 500, .agg [I 0, I 0, I 0, I 0, U 0], .agg [I 0, I 0, I 0, I 0, U 0]], h48, .agg [U 0, U 0, U 0, U 0, I 7, I 2, I 0, I 0, U 0, I 0, I 0, I 0, I 0, U 0, I 0, I 0, I 0, I 0, U 0], h49⟩
theorem m50_run : ranTo (evCall (cxX Tryz.prog bad [] [] ((70, pureFn [p33, p2]) :: q0)) 1000 60 13 m50.args m50.h) m50.v m50.h' = true := by kernel_rfl
theorem m50_ok {σ : Nat → Int} {W0 : World} (hL : L0 W0) : MemoOk Tryz.prog 26623 σ W0 13 m50 := memo_ok fit (Known2.nil σ) (FnsOk.cons (pure_fn_ok (all_cons (p33_ok hL) (all_cons (p2_ok hL) (all_nil)))) ((q0_ok hL))) m50_run
noncomputable def h50 : H := hUpd h31 4864 [] [] [(369, 1, [I 0, I 12, I 4])]
noncomputable def m51 : Memo := ⟨[.ptr 377 0, .agg [I 9, I 1, I 0, I 0, U 0], U 1, U 0, .agg [I 8, I 1, I 0, I 0, U 0], .agg [I 7, I 2, I 0, I 0, U 0]], h49, .agg [U 0, U 0, U 0, U 0, I 5, I 1, I 0, I 0, U 0, I 0, I 0, I 0, I 0, U 0, I 0, I 0, I 0, I 0, U 0], h50⟩
theorem m51_run : ranTo (evCall (cxX Tryz.prog bad [] [] ((70, pureFn l3) :: q0)) 1000 60 13 m51.args m51.h) m51.v m51.h' = true := by kernel_rfl
theorem m51_ok {σ : Nat → Int} {W0 : World} (hL : L0 W0) : MemoOk Tryz.prog 26623 σ W0 13 m51 := memo_ok fit (Known2.nil σ) (FnsOk.cons (pure_fn_ok (l3_ok hL)) ((q0_ok hL))) m51_run
noncomputable def h51 : H := hUpd h50 4877 [] [] []
noncomputable def h52 : H := hUpd h33 5120 [] [] [(369, 1, [I 0, I 12, I 4])]
noncomputable def m52 : Memo := ⟨[.ptr 377 0, .agg [I 4, I 1, I 0, I 0, U 0], U 7, U 0, .agg [I 0, I 0, I 0, I 0, U 0], .agg [I 0, I 0, I 0, I 0, U 0]], h51, .agg [U 0, U 0, U 0, U 0, I 0, I 0, I 0, I 0, U 0, I 0, I 0, I 0, I 0, U 0, I 0, I 0, I 0, I 0, U 0], h52⟩
theorem m52_run : ranTo (evCall (cxX Tryz.prog bad [] [] ((70, pureFn l4) :: q0)) 1000 60 13 m52.args m52.h) m52.v m52.h' = true := by kernel_rfl
theorem m52_ok {σ : Nat → Int} {W0 : World} (hL : L0 W0) : MemoOk Tryz.prog 26623 σ W0 13 m52 := memo_ok fit (Known2.nil σ) (FnsOk.cons (pure_fn_ok (l4_ok hL)) ((q0_ok hL))) m52_run
noncomputable def h53 : H := hUpc h35 74 [] [(48, .map [(.agg [I 3, I 0], .agg [I 0, I 0], 0), (.agg [I 3, I 1], .agg [I 0, I 0], 1), (.agg [I 2, I 0], .agg [I 0, I 0], 2), (.agg [I 4, I 0], .agg [I 0, I 0], 3), (.agg [I 3, I 2], .agg [I 0, I 0], 4), (.agg [I 3, I 3], .agg [I 0, I 0], 5), (.agg [I 3, I 4], .agg [I 1, I 0], 6), (.agg [I 3, I 5], .agg [I 1, I 0], 7), (.agg [I 2, I 1], .agg [I 1, I 0], 8), (.agg [I 4, I 1], .agg [I 1, I 0], 9), (.agg [I 3, I 6], .agg [I 1, I 0], 10), (.agg [I 3, I 7], .agg [I 1, I 0], 11), (.agg [I 2, I 2], .agg [I 1, I 0], 12), (.agg [I 4, I 2], .agg [I 1, I 0], 13)] 14)] [(72, 2, [bT, .int .i64 (.var 65), bF]),
  (73, 6, [bT, .int .i64 (.var 69), bF]),
  (73, 7, [bT, .int .i64 (.var 70), bF]),
  (55, 2, [bT, .int .i64 (.var 39), bF])] [(42, 1, 71, I 5), (42, 1, 72, .int .i64 (.var 6))]
noncomputable def s9 : Sym := ⟨[.ptr 32 0, I 0], h53, [32, 33, 34, 35, 36, 37, 38, 39, 40, 41, 42, 44, 45, 46, 47, 48, 49, 50, 51, 52, 53, 54, 55, 64, 65, 66, 67, 68, 69, 70, 72, 73, 30, 22, 14, 26, 10, 6, 28, 20, 24, 8, 4, 2, 29, 21, 13, 25, 9, 5, 27, 19, 23, 31, 7, 3, 1, 0], [(0, 1099511627775), (0, 1099511627775), (0, 4294967295), (0, 4294967295), (0, 1099511627775), (0, 4294967295), (0, 1099511627775), (0, 1099511627775), (0, 1099511627775), (0, 1099511627775), (0, 1099511627775), (0, 1099511627775), (0, 1099511627775), (0, 1099511627775), (0, 4294967295), (0, 1099511627775), (0, 1099511627775), (0, 1099511627775), (0, 1099511627775), (0, 1099511627775), (0, 1099511627775), (0, 1099511627775), (0, 1099511627775), (0, 1099511627775), (0, 4294967295), (0, 1099511627775), (0, 1099511627775), (0, 1099511627775), (0, 1099511627775), (0, 1099511627775), (0, 1099511627775), (0, 1099511627775), (0, 1099511627775), (0, 1099511627775), (0, 1099511627775), (0, 1099511627775), (0, 1099511627775), (0, 1099511627775), (0, 1099511627775), (0, 1099511627775), (0, 1099511627775), (0, 1099511627775), (0, 1099511627775), (0, 1099511627775), (0, 1099511627775), (0, 1099511627775), (0, 1099511627775), (0, 1099511627775), (0, 1099511627775), (0, 1099511627775), (0, 1099511627775), (0, 1099511627775), (0, 1099511627775), (0, 4294967295), (0, 4294967295), (0, 4294967295), (0, 4294967295), (0, 4294967295), (0, 4294967295), (0, 4294967295), (0, 4294967295), (0, 4294967295), (0, 4294967295), (0, 4294967295), (0, 1099511627775), (0, 1099511627775), (0, 1099511627775), (0, 1099511627775), (0, 1099511627775), (0, 1099511627775), (0, 1099511627775), (0, 1099511627775), (0, 1099511627775)],
  [(true, .bop .rem .u32 (.var 5) (.lit 32), .lit 1, true), (true, .bop .shr .i64 (.var 60) (.lit 24), .lit 11, true), (true, .bop .rem .i64 (.add (.bop .and .i64 (.bop .shr .i64 (.var 60) (.lit 12)) (.lit 15)) (.lit 0)) (.lit 16), .lit 0, true), (true, .bop .rem .i64 (.add (.bop .and .i64 (.bop .shr .i64 (.var 60) (.lit 12)) (.lit 15)) (.lit 1)) (.lit 16), .lit 1, true), (true, .bop .rem .i64 (.add (.bop .and .i64 (.bop .shr .i64 (.var 60) (.lit 12)) (.lit 15)) (.lit 2)) (.lit 16), .lit 2, true), (true, .bop .and .i64 (.bop .shr .i64 (.var 60) (.lit 16)) (.lit 15), .lit 2, true), (false, .var 29, .lit 1, false), (false, .var 27, .lit 1, false), (true, .bop .quo .u32 (.var 5) (.lit 32), .lit 0, true), (false, .lit 2, .bop .and .i64 (.bop .shr .i64 (.var 60) (.lit 20)) (.lit 15), false), (false, .lit 0, .bop .and .i64 (.var 60) (.lit 4095), false), (false, .var 6, .lit 32, true), (false, .lit 7, .var 33, false), (false, .sub (.var 31) (.var 32), .lit 4, false), (false, .sub (.lit 60) (.var 30), .lit 4, false), (false, .sub (.var 31) (.var 32), .lit 1, false), (false, .sub (.lit 60) (.var 30), .lit 1, false), (false, .sub (.var 31) (.add (.var 32) (.lit 1)), .lit 1, false), (false, .sub (.lit 60) (.add (.var 30) (.lit 1)), .lit 1, false), (false, .lit 1048575, .var 71, false), (false, .lit 1048575, .var 72, false), (false, .sub (.var 31) (.add (.var 32) (.lit 2)), .lit 1, false), (false, .sub (.lit 60) (.add (.var 30) (.lit 2)), .lit 1, false), (false, .sub (.var 31) (.add (.var 32) (.lit 3)), .lit 1, false), (false, .sub (.lit 60) (.add (.var 30) (.lit 3)), .lit 1, false), (false, .lit 1048575, .var 66, false), (true, .bop .and .i64 (.bop .shr .i64 (.var 60) (.lit 20)) (.lit 15), .lit 0, true), (false, .lit 1048575, .var 40, false)],
  .agg [I 1, I 2, I 0, U 1, I 9, U 0, IZ (-1), I 0],
  [.cel 32 0 8 (.int .i64 (.add (.var 0) (.lit 1))),
  .row 40 0 ([I 16, .slice 54 0 1 1 10 false, .int .i64 (.add (.var 1) (.lit 1))]),
  .cel 42 1 0 (U 0),
  .cel 42 1 8 (.int .u32 (.wrap .u32 (.add (.var 5) (.lit 1)))),
  .cel 42 1 72 (I 3),
  .cel 42 1 73 (.int .i64 (.var 40)),
  .cel 42 3 9 (I 1),
  .cel 42 3 11 (I 8),
  .cel 42 3 12 (I 1),
  .cel 42 3 16 (I 7),
  .cel 42 3 17 (I 2),
  .cel 42 3 91 (I 2),
  .cel 42 3 92 (I 3),
  .cel 42 3 93 (.int .i64 (.var 66)),
  .cel 42 3 95 (U 1),
  .cel 42 3 96 (I 7),
  .cel 42 3 97 (I 2),
  .row 45 0 ([IZ (-1), .int .i64 (.sub (.var 27) (.lit 1))]),
  .row 45 2 ([I 0, .int .i64 (.sub (.var 29) (.lit 1))]),
  .row 47 0 ([IZ (-1), I 60, .int .i64 (.add (.var 30) (.lit 4))]),
  .row 47 1 ([I 0, .int .i64 (.var 31), .int .i64 (.add (.var 32) (.lit 4))]),
  .set 48 (.map [(.agg [I 3, I 0], .agg [I 0, I 0], 0), (.agg [I 3, I 1], .agg [I 0, I 0], 1), (.agg [I 2, I 0], .agg [I 0, I 0], 2), (.agg [I 4, I 0], .agg [I 0, I 0], 3), (.agg [I 3, I 2], .agg [I 0, I 0], 4), (.agg [I 3, I 3], .agg [I 0, I 0], 5), (.agg [I 3, I 4], .agg [I 1, I 0], 6), (.agg [I 3, I 5], .agg [I 1, I 0], 7), (.agg [I 2, I 1], .agg [I 1, I 0], 8), (.agg [I 4, I 1], .agg [I 1, I 0], 9), (.agg [I 3, I 6], .agg [I 1, I 0], 10), (.agg [I 3, I 7], .agg [I 1, I 0], 11), (.agg [I 2, I 2], .agg [I 1, I 0], 12), (.agg [I 4, I 2], .agg [I 1, I 0], 13), (.agg [I 3, I 8], .agg [I 1, .int .i64 (.var 71)], 14), (.agg [I 3, I 9], .agg [I 1, .int .i64 (.var 72)], 15), (.agg [I 2, I 3], .agg [I 1, .int .i64 (.var 66)], 16), (.agg [I 4, I 3], .agg [I 1, .int .i64 (.var 40)], 17)] 18),
  .row 55 3 ([bT, .int .i64 (.var 40), bF]),
  .cel 68 3 0 (I 3),
  .cel 68 3 1 (I 8),
  .cel 68 3 2 (.int .i64 (.var 71)),
  .cel 68 3 5 (I 3),
  .cel 68 3 6 (I 9),
  .cel 68 3 7 (.int .i64 (.var 72)),
  .cel 70 8 0 (.int .u32 (.var 55)),
  .row 72 3 ([bT, .int .i64 (.var 66), bF]),
  .row 73 8 ([bT, .int .i64 (.var 71), bF]),
  .row 73 9 ([bT, .int .i64 (.var 72), bF])], 3981⟩
theorem s9_run : ranTo (evCall (cxX Tryz.prog bad s9.rng s9.facts q0) 1000 60 15 s9.args s9.pre) s9.v s9.post = true := by kernel_rfl
theorem s9_ok {W0 : World} (hL : L0 W0) : SymOk Tryz.prog 26623 W0 15 s9 := sym_ok fit (fun σ hk => (q0_ok hL)) s9_run (by kernel_rfl)
noncomputable def h54 : H := hUpd h36 74 [] [] [(73, 8, [bT, .int .i64 (.var 51), bF]),
  (73, 9, [bT, .int .i64 (.var 52), bF]),
  (55, 3, [bT, .int .i64 (.var 35), bF])]
noncomputable def s10 : Sym := ⟨[.ptr 32 0, I 0], h54, [32, 33, 34, 35, 38, 39, 40, 41, 42, 44, 45, 51, 53, 54, 55, 64, 69, 70, 73, 30, 22, 14, 26, 10, 6, 28, 20, 24, 8, 4, 2, 29, 21, 13, 25, 9, 5, 27, 19, 23, 31, 7, 3, 1, 0], [(0, 1099511627775), (0, 1099511627775), (0, 4294967295), (0, 4294967295), (0, 1099511627775), (0, 4294967295), (0, 4294967295), (0, 1099511627775), (0, 1099511627775), (0, 1099511627775), (0, 1099511627775), (0, 1099511627775), (0, 1099511627775), (0, 1099511627775), (0, 1099511627775), (0, 1099511627775), (0, 1099511627775), (0, 4294967295), (0, 1099511627775), (0, 1099511627775), (0, 1099511627775), (0, 1099511627775), (0, 1099511627775), (0, 1099511627775), (0, 1099511627775), (0, 1099511627775), (0, 1099511627775), (0, 4294967295), (0, 1099511627775), (0, 1099511627775), (0, 1099511627775), (0, 1099511627775), (0, 1099511627775), (0, 1099511627775), (0, 1099511627775), (0, 1099511627775), (0, 4294967295), (0, 4294967295), (0, 4294967295), (0, 4294967295), (0, 4294967295), (0, 4294967295), (0, 4294967295), (0, 4294967295), (0, 4294967295), (0, 4294967295), (0, 4294967295), (0, 1099511627775), (0, 1099511627775), (0, 1099511627775), (0, 1099511627775), (0, 1099511627775), (0, 1099511627775)],
  [(true, .bop .rem .u32 (.var 6) (.lit 32), .lit 2, true), (true, .bop .shr .i64 (.var 44) (.lit 24), .lit 4, true), (false, .var 32, .lit 1, false), (false, .var 30, .lit 1, false), (true, .bop .quo .u32 (.var 6) (.lit 32), .lit 0, true), (true, .bop .and .i64 (.bop .shr .i64 (.var 44) (.lit 20)) (.lit 15), .lit 0, true), (true, .bop .and .i64 (.bop .shr .i64 (.var 44) (.lit 16)) (.lit 15), .lit 0, true), (true, .bop .and .i64 (.bop .shr .i64 (.var 44) (.lit 12)) (.lit 15), .lit 0, true), (false, .var 7, .lit 64, true), (false, .var 8, .lit 32, true), (false, .var 9, .lit 32, true)],
  .agg [I 1, I 1, I 0, U 0, I 0, U 0, IZ (-1), I 0],
  [.cel 32 0 8 (.int .i64 (.add (.var 0) (.lit 1))),
  .row 40 0 ([I 16, .slice 54 0 1 1 10 false, .int .i64 (.add (.var 1) (.lit 1))]),
  .cel 42 1 8 (.int .u32 (.bop .and .i64 (.var 44) (.lit 4095))),
  .row 45 0 ([IZ (-1), .int .i64 (.sub (.var 30) (.lit 1))]),
  .row 45 2 ([I 0, .int .i64 (.sub (.var 32) (.lit 1))])], 765⟩
theorem s10_run : ranTo (evCall (cxX Tryz.prog bad s10.rng s10.facts q0) 1000 60 15 s10.args s10.pre) s10.v s10.post = true := by kernel_rfl
theorem s10_ok {W0 : World} (hL : L0 W0) : SymOk Tryz.prog 26623 W0 15 s10 := sym_ok fit (fun σ hk => (q0_ok hL)) s10_run (by kernel_rfl)
noncomputable def s11 : Sym := ⟨[.ptr 32 0, I 0], h54, [32, 33, 34, 35, 38, 39, 40, 41, 42, 44, 45, 51, 53, 54, 55, 64, 69, 70, 73, 30, 22, 14, 26, 10, 6, 28, 20, 24, 8, 4, 2, 29, 21, 13, 25, 9, 5, 27, 19, 23, 31, 7, 3, 1, 0], [(0, 1099511627775), (0, 1099511627775), (0, 4294967295), (0, 4294967295), (0, 1099511627775), (0, 4294967295), (0, 4294967295), (0, 1099511627775), (0, 1099511627775), (0, 1099511627775), (0, 1099511627775), (0, 1099511627775), (0, 1099511627775), (0, 1099511627775), (0, 1099511627775), (0, 1099511627775), (0, 1099511627775), (0, 4294967295), (0, 1099511627775), (0, 1099511627775), (0, 1099511627775), (0, 1099511627775), (0, 1099511627775), (0, 1099511627775), (0, 1099511627775), (0, 1099511627775), (0, 1099511627775), (0, 4294967295), (0, 1099511627775), (0, 1099511627775), (0, 1099511627775), (0, 1099511627775), (0, 1099511627775), (0, 1099511627775), (0, 1099511627775), (0, 1099511627775), (0, 4294967295), (0, 4294967295), (0, 4294967295), (0, 4294967295), (0, 4294967295), (0, 4294967295), (0, 4294967295), (0, 4294967295), (0, 4294967295), (0, 4294967295), (0, 4294967295), (0, 1099511627775), (0, 1099511627775), (0, 1099511627775), (0, 1099511627775), (0, 1099511627775), (0, 1099511627775)],
  [(true, .bop .rem .u32 (.var 6) (.lit 32), .lit 0, true), (true, .bop .shr .i64 (.var 42) (.lit 24), .lit 1, true), (true, .bop .and .i64 (.bop .shr .i64 (.var 42) (.lit 20)) (.lit 15), .lit 0, true), (false, .var 32, .lit 1, false), (false, .var 30, .lit 1, false), (true, .bop .quo .u32 (.var 6) (.lit 32), .lit 0, true), (true, .bop .and .i64 (.bop .shr .i64 (.var 42) (.lit 16)) (.lit 15), .lit 0, true), (true, .bop .and .i64 (.bop .shr .i64 (.var 42) (.lit 12)) (.lit 15), .lit 0, true), (false, .var 7, .lit 64, true), (false, .var 8, .lit 32, true), (false, .var 9, .lit 32, true)],
  .agg [I 1, I 1, I 0, U 0, I 0, U 0, IZ (-1), I 0],
  [.cel 32 0 8 (.int .i64 (.add (.var 0) (.lit 1))),
  .row 40 0 ([I 16, .slice 54 0 1 1 10 false, .int .i64 (.add (.var 1) (.lit 1))]),
  .cel 42 1 0 (.int .u32 (.bop .and .i64 (.var 42) (.lit 4095))),
  .cel 42 1 8 (.int .u32 (.wrap .u32 (.add (.var 6) (.lit 1)))),
  .row 45 0 ([IZ (-1), .int .i64 (.sub (.var 30) (.lit 1))]),
  .row 45 2 ([I 0, .int .i64 (.sub (.var 32) (.lit 1))])], 774⟩
theorem s11_run : ranTo (evCall (cxX Tryz.prog bad s11.rng s11.facts q0) 1000 60 15 s11.args s11.pre) s11.v s11.post = true := by kernel_rfl
theorem s11_ok {W0 : World} (hL : L0 W0) : SymOk Tryz.prog 26623 W0 15 s11 := sym_ok fit (fun σ hk => (q0_ok hL)) s11_run (by kernel_rfl)
noncomputable def h55 : H := hUpd h37 74 [] [] [(72, 3, [bT, .int .i64 (.var 54), bF]),
  (73, 8, [bT, .int .i64 (.var 59), bF]),
  (73, 9, [bT, .int .i64 (.var 60), bF]),
  (55, 3, [bT, .int .i64 (.var 40), bF])]
noncomputable def s12 : Sym := ⟨[.ptr 32 0, I 0], h55, [32, 33, 34, 35, 36, 37, 38, 39, 40, 41, 42, 44, 45, 46, 47, 49, 50, 51, 52, 53, 54, 55, 64, 65, 66, 67, 69, 70, 72, 73, 30, 22, 14, 26, 10, 6, 28, 20, 24, 8, 4, 2, 29, 21, 13, 25, 9, 5, 27, 19, 23, 31, 7, 3, 1, 0], [(0, 1099511627775), (0, 1099511627775), (0, 4294967295), (0, 4294967295), (0, 1099511627775), (0, 4294967295), (0, 1099511627775), (0, 1099511627775), (0, 1099511627775), (0, 1099511627775), (0, 1099511627775), (0, 1099511627775), (0, 1099511627775), (0, 1099511627775), (0, 4294967295), (0, 1099511627775), (0, 1099511627775), (0, 1099511627775), (0, 1099511627775), (0, 1099511627775), (0, 1099511627775), (0, 1099511627775), (0, 1099511627775), (0, 1099511627775), (0, 4294967295), (0, 1099511627775), (0, 1099511627775), (0, 1099511627775), (0, 1099511627775), (0, 1099511627775), (0, 1099511627775), (0, 1099511627775), (0, 1099511627775), (0, 1099511627775), (0, 1099511627775), (0, 1099511627775), (0, 1099511627775), (0, 1099511627775), (0, 1099511627775), (0, 1099511627775), (0, 1099511627775), (0, 4294967295), (0, 4294967295), (0, 4294967295), (0, 4294967295), (0, 4294967295), (0, 4294967295), (0, 4294967295), (0, 4294967295), (0, 4294967295), (0, 4294967295), (0, 4294967295), (0, 1099511627775), (0, 1099511627775), (0, 1099511627775), (0, 1099511627775), (0, 1099511627775), (0, 1099511627775), (0, 1099511627775), (0, 1099511627775), (0, 1099511627775)],
  [(true, .bop .rem .u32 (.var 5) (.lit 32), .lit 1, true), (true, .bop .shr .i64 (.var 48) (.lit 24), .lit 11, true), (true, .bop .rem .i64 (.add (.bop .and .i64 (.bop .shr .i64 (.var 48) (.lit 12)) (.lit 15)) (.lit 0)) (.lit 16), .lit 0, true), (true, .bop .rem .i64 (.add (.bop .and .i64 (.bop .shr .i64 (.var 48) (.lit 12)) (.lit 15)) (.lit 1)) (.lit 16), .lit 1, true), (true, .bop .rem .i64 (.add (.bop .and .i64 (.bop .shr .i64 (.var 48) (.lit 12)) (.lit 15)) (.lit 2)) (.lit 16), .lit 2, true), (true, .bop .and .i64 (.bop .shr .i64 (.var 48) (.lit 16)) (.lit 15), .lit 2, true), (false, .var 29, .lit 1, false), (false, .var 27, .lit 1, false), (true, .bop .quo .u32 (.var 5) (.lit 32), .lit 0, true), (false, .lit 2, .bop .and .i64 (.bop .shr .i64 (.var 48) (.lit 20)) (.lit 15), false), (false, .lit 0, .bop .and .i64 (.var 48) (.lit 4095), false), (false, .var 6, .lit 32, true), (false, .lit 7, .var 33, false), (false, .sub (.var 31) (.var 32), .lit 4, true), (true, .bop .and .i64 (.bop .shr .i64 (.var 48) (.lit 20)) (.lit 15), .lit 0, true)],
  .agg [I 1, I 2, I 0, U 1, I 9, U 6, IZ (-1), I 0],
  [.cel 32 0 8 (.int .i64 (.add (.var 0) (.lit 1))),
  .row 40 0 ([I 16, .slice 54 0 1 1 10 false, .int .i64 (.add (.var 1) (.lit 1))]),
  .cel 42 1 0 (U 6),
  .cel 42 1 8 (.int .u32 (.wrap .u32 (.add (.var 5) (.lit 1)))),
  .cel 42 1 71 (I 0),
  .cel 42 1 72 (I 0),
  .row 45 0 ([IZ (-1), .int .i64 (.sub (.var 27) (.lit 1))]),
  .row 45 2 ([I 0, .int .i64 (.sub (.var 29) (.lit 1))])], 2209⟩
theorem s12_run : ranTo (evCall (cxX Tryz.prog bad s12.rng s12.facts q0) 1000 60 15 s12.args s12.pre) s12.v s12.post = true := by kernel_rfl
theorem s12_ok {W0 : World} (hL : L0 W0) : SymOk Tryz.prog 26623 W0 15 s12 := sym_ok fit (fun σ hk => (q0_ok hL)) s12_run (by kernel_rfl)
noncomputable def h56 : H := hUpc h54 74 [] [] [] [(42, 1, 71, .int .i64 (.var 9)), (42, 1, 72, I 0)]
noncomputable def s13 : Sym := ⟨[.ptr 32 0, I 0], h56, [32, 33, 34, 35, 38, 39, 40, 41, 42, 44, 45, 51, 53, 54, 55, 64, 69, 70, 73, 30, 22, 14, 26, 10, 6, 28, 20, 24, 8, 4, 2, 29, 21, 13, 25, 9, 5, 27, 19, 23, 31, 7, 3, 1, 0], [(0, 1099511627775), (0, 1099511627775), (0, 4294967295), (0, 4294967295), (0, 1099511627775), (0, 4294967295), (0, 4294967295), (0, 1099511627775), (0, 1099511627775), (0, 1099511627775), (0, 1099511627775), (0, 1099511627775), (0, 1099511627775), (0, 1099511627775), (0, 1099511627775), (0, 1099511627775), (0, 1099511627775), (0, 4294967295), (0, 1099511627775), (0, 1099511627775), (0, 1099511627775), (0, 1099511627775), (0, 1099511627775), (0, 1099511627775), (0, 1099511627775), (0, 1099511627775), (0, 1099511627775), (0, 4294967295), (0, 1099511627775), (0, 1099511627775), (0, 1099511627775), (0, 1099511627775), (0, 1099511627775), (0, 1099511627775), (0, 1099511627775), (0, 1099511627775), (0, 4294967295), (0, 4294967295), (0, 4294967295), (0, 4294967295), (0, 4294967295), (0, 4294967295), (0, 4294967295), (0, 4294967295), (0, 4294967295), (0, 4294967295), (0, 4294967295), (0, 1099511627775), (0, 1099511627775), (0, 1099511627775), (0, 1099511627775), (0, 1099511627775), (0, 1099511627775)],
  [(true, .bop .rem .u32 (.var 6) (.lit 32), .lit 2, true), (true, .bop .shr .i64 (.var 44) (.lit 24), .lit 4, true), (false, .var 32, .lit 1, false), (false, .var 30, .lit 1, false), (true, .bop .quo .u32 (.var 6) (.lit 32), .lit 0, true), (true, .bop .and .i64 (.bop .shr .i64 (.var 44) (.lit 20)) (.lit 15), .lit 0, true), (true, .bop .and .i64 (.bop .shr .i64 (.var 44) (.lit 16)) (.lit 15), .lit 0, true), (true, .bop .and .i64 (.bop .shr .i64 (.var 44) (.lit 12)) (.lit 15), .lit 0, true), (false, .var 7, .lit 64, true), (false, .var 8, .lit 32, true), (false, .lit 14, .var 9, false), (true, .var 9, .lit 2, false), (true, .var 9, .lit 3, false), (true, .var 9, .lit 4, false), (true, .var 9, .lit 5, false), (true, .var 9, .lit 6, false), (true, .var 9, .lit 7, false), (true, .var 9, .lit 8, false), (true, .var 9, .lit 9, false), (true, .var 9, .lit 10, false), (true, .var 9, .lit 1, false)],
  .agg [I 1, I 1, I 0, U 0, I 0, U 0, IZ (-1), I 0],
  [.cel 32 0 8 (.int .i64 (.add (.var 0) (.lit 1))),
  .row 40 0 ([I 16, .slice 54 0 1 1 10 false, .int .i64 (.add (.var 1) (.lit 1))]),
  .cel 42 1 8 (.int .u32 (.bop .and .i64 (.var 44) (.lit 4095))),
  .row 45 0 ([IZ (-1), .int .i64 (.sub (.var 30) (.lit 1))]),
  .row 45 2 ([I 0, .int .i64 (.sub (.var 32) (.lit 1))])], 765⟩
theorem s13_run : ranTo (evCall (cxX Tryz.prog bad s13.rng s13.facts q0) 1000 60 15 s13.args s13.pre) s13.v s13.post = true := by kernel_rfl
theorem s13_ok {W0 : World} (hL : L0 W0) : SymOk Tryz.prog 26623 W0 15 s13 := sym_ok fit (fun σ hk => (q0_ok hL)) s13_run (by kernel_rfl)
noncomputable def s14 : Sym := ⟨[.ptr 32 0, I 0], h56, [32, 33, 34, 35, 38, 39, 40, 41, 42, 44, 45, 51, 53, 54, 55, 64, 69, 70, 73, 30, 22, 14, 26, 10, 6, 28, 20, 24, 8, 4, 2, 29, 21, 13, 25, 9, 5, 27, 19, 23, 31, 7, 3, 1, 0], [(0, 1099511627775), (0, 1099511627775), (0, 4294967295), (0, 4294967295), (0, 1099511627775), (0, 4294967295), (0, 4294967295), (0, 1099511627775), (0, 1099511627775), (0, 1099511627775), (0, 1099511627775), (0, 1099511627775), (0, 1099511627775), (0, 1099511627775), (0, 1099511627775), (0, 1099511627775), (0, 1099511627775), (0, 4294967295), (0, 1099511627775), (0, 1099511627775), (0, 1099511627775), (0, 1099511627775), (0, 1099511627775), (0, 1099511627775), (0, 1099511627775), (0, 1099511627775), (0, 1099511627775), (0, 4294967295), (0, 1099511627775), (0, 1099511627775), (0, 1099511627775), (0, 1099511627775), (0, 1099511627775), (0, 1099511627775), (0, 1099511627775), (0, 1099511627775), (0, 4294967295), (0, 4294967295), (0, 4294967295), (0, 4294967295), (0, 4294967295), (0, 4294967295), (0, 4294967295), (0, 4294967295), (0, 4294967295), (0, 4294967295), (0, 4294967295), (0, 1099511627775), (0, 1099511627775), (0, 1099511627775), (0, 1099511627775), (0, 1099511627775), (0, 1099511627775)],
  [(true, .bop .rem .u32 (.var 6) (.lit 32), .lit 0, true), (true, .bop .shr .i64 (.var 42) (.lit 24), .lit 1, true), (true, .bop .and .i64 (.bop .shr .i64 (.var 42) (.lit 20)) (.lit 15), .lit 0, true), (false, .var 32, .lit 1, false), (false, .var 30, .lit 1, false), (true, .bop .quo .u32 (.var 6) (.lit 32), .lit 0, true), (true, .bop .and .i64 (.bop .shr .i64 (.var 42) (.lit 16)) (.lit 15), .lit 0, true), (true, .bop .and .i64 (.bop .shr .i64 (.var 42) (.lit 12)) (.lit 15), .lit 0, true), (false, .var 7, .lit 64, true), (false, .var 8, .lit 32, true), (false, .lit 14, .var 9, false), (true, .var 9, .lit 2, false), (true, .var 9, .lit 3, false), (true, .var 9, .lit 4, false), (true, .var 9, .lit 5, false), (true, .var 9, .lit 6, false), (true, .var 9, .lit 7, false), (true, .var 9, .lit 8, false), (true, .var 9, .lit 9, false), (true, .var 9, .lit 10, false), (true, .var 9, .lit 1, false)],
  .agg [I 1, I 1, I 0, U 0, I 0, U 0, IZ (-1), I 0],
  [.cel 32 0 8 (.int .i64 (.add (.var 0) (.lit 1))),
  .row 40 0 ([I 16, .slice 54 0 1 1 10 false, .int .i64 (.add (.var 1) (.lit 1))]),
  .cel 42 1 0 (.int .u32 (.bop .and .i64 (.var 42) (.lit 4095))),
  .cel 42 1 8 (.int .u32 (.wrap .u32 (.add (.var 6) (.lit 1)))),
  .row 45 0 ([IZ (-1), .int .i64 (.sub (.var 30) (.lit 1))]),
  .row 45 2 ([I 0, .int .i64 (.sub (.var 32) (.lit 1))])], 774⟩
theorem s14_run : ranTo (evCall (cxX Tryz.prog bad s14.rng s14.facts q0) 1000 60 15 s14.args s14.pre) s14.v s14.post = true := by kernel_rfl
theorem s14_ok {W0 : World} (hL : L0 W0) : SymOk Tryz.prog 26623 W0 15 s14 := sym_ok fit (fun σ hk => (q0_ok hL)) s14_run (by kernel_rfl)
noncomputable def h57 : H := hUpc h55 74 [] [] [] [(42, 1, 71, .int .i64 (.var 6)), (42, 1, 72, I 0)]
noncomputable def s15 : Sym := ⟨[.ptr 32 0, I 0], h57, [32, 33, 34, 35, 36, 37, 38, 39, 40, 41, 42, 44, 45, 46, 47, 49, 50, 51, 52, 53, 54, 55, 64, 65, 66, 67, 69, 70, 72, 73, 30, 22, 14, 26, 10, 6, 28, 20, 24, 8, 4, 2, 29, 21, 13, 25, 9, 5, 27, 19, 23, 31, 7, 3, 1, 0], [(0, 1099511627775), (0, 1099511627775), (0, 4294967295), (0, 4294967295), (0, 1099511627775), (0, 4294967295), (0, 1099511627775), (0, 1099511627775), (0, 1099511627775), (0, 1099511627775), (0, 1099511627775), (0, 1099511627775), (0, 1099511627775), (0, 1099511627775), (0, 4294967295), (0, 1099511627775), (0, 1099511627775), (0, 1099511627775), (0, 1099511627775), (0, 1099511627775), (0, 1099511627775), (0, 1099511627775), (0, 1099511627775), (0, 1099511627775), (0, 4294967295), (0, 1099511627775), (0, 1099511627775), (0, 1099511627775), (0, 1099511627775), (0, 1099511627775), (0, 1099511627775), (0, 1099511627775), (0, 1099511627775), (0, 1099511627775), (0, 1099511627775), (0, 1099511627775), (0, 1099511627775), (0, 1099511627775), (0, 1099511627775), (0, 1099511627775), (0, 1099511627775), (0, 4294967295), (0, 4294967295), (0, 4294967295), (0, 4294967295), (0, 4294967295), (0, 4294967295), (0, 4294967295), (0, 4294967295), (0, 4294967295), (0, 4294967295), (0, 4294967295), (0, 1099511627775), (0, 1099511627775), (0, 1099511627775), (0, 1099511627775), (0, 1099511627775), (0, 1099511627775), (0, 1099511627775), (0, 1099511627775), (0, 1099511627775)],
  [(true, .bop .rem .u32 (.var 5) (.lit 32), .lit 1, true), (true, .bop .shr .i64 (.var 48) (.lit 24), .lit 11, true), (true, .bop .rem .i64 (.add (.bop .and .i64 (.bop .shr .i64 (.var 48) (.lit 12)) (.lit 15)) (.lit 0)) (.lit 16), .lit 0, true), (true, .bop .rem .i64 (.add (.bop .and .i64 (.bop .shr .i64 (.var 48) (.lit 12)) (.lit 15)) (.lit 1)) (.lit 16), .lit 1, true), (true, .bop .rem .i64 (.add (.bop .and .i64 (.bop .shr .i64 (.var 48) (.lit 12)) (.lit 15)) (.lit 2)) (.lit 16), .lit 2, true), (true, .bop .and .i64 (.bop .shr .i64 (.var 48) (.lit 16)) (.lit 15), .lit 2, true), (false, .var 29, .lit 1, false), (false, .var 27, .lit 1, false), (true, .bop .quo .u32 (.var 5) (.lit 32), .lit 0, true), (false, .lit 2, .bop .and .i64 (.bop .shr .i64 (.var 48) (.lit 20)) (.lit 15), false), (false, .lit 0, .bop .and .i64 (.var 48) (.lit 4095), false), (false, .lit 14, .var 6, false), (true, .var 6, .lit 2, false), (true, .var 6, .lit 3, false), (true, .var 6, .lit 4, false), (true, .var 6, .lit 5, false), (true, .var 6, .lit 6, false), (true, .var 6, .lit 7, false), (true, .var 6, .lit 8, false), (true, .var 6, .lit 9, false), (true, .var 6, .lit 10, false), (true, .var 6, .lit 1, false), (false, .lit 7, .var 33, false), (false, .sub (.var 31) (.var 32), .lit 4, true), (true, .bop .and .i64 (.bop .shr .i64 (.var 48) (.lit 20)) (.lit 15), .lit 0, true)],
  .agg [I 1, I 2, I 0, U 1, I 9, U 6, IZ (-1), I 0],
  [.cel 32 0 8 (.int .i64 (.add (.var 0) (.lit 1))),
  .row 40 0 ([I 16, .slice 54 0 1 1 10 false, .int .i64 (.add (.var 1) (.lit 1))]),
  .cel 42 1 0 (U 6),
  .cel 42 1 8 (.int .u32 (.wrap .u32 (.add (.var 5) (.lit 1)))),
  .cel 42 1 71 (I 0),
  .row 45 0 ([IZ (-1), .int .i64 (.sub (.var 27) (.lit 1))]),
  .row 45 2 ([I 0, .int .i64 (.sub (.var 29) (.lit 1))])], 2209⟩
theorem s15_run : ranTo (evCall (cxX Tryz.prog bad s15.rng s15.facts q0) 1000 60 15 s15.args s15.pre) s15.v s15.post = true := by kernel_rfl
theorem s15_ok {W0 : World} (hL : L0 W0) : SymOk Tryz.prog 26623 W0 15 s15 := sym_ok fit (fun σ hk => (q0_ok hL)) s15_run (by kernel_rfl)
noncomputable def p53 : Pur := ([.agg [I 3, I 8, I 0, I 0, U 0]], .inil, 1048576)
theorem p53_run : ranPure (evCall (cxX Tryz.prog bad [] [] q0) 1000 60 70 p53.1 ⟨.lf, p53.2.2⟩) p53.2.1 = true := by kernel_rfl
theorem p53_ok {σ : Nat → Int} {W0 : World} (hL : L0 W0) : PureOk Tryz.prog 26623 σ W0 70 p53 := pure_ok fit (Known2.nil σ) ((q0_ok hL)) p53_run
noncomputable def p54 : Pur := ([.agg [I 3, I 9, I 0, I 0, U 0]], .inil, 1048576)
theorem p54_run : ranPure (evCall (cxX Tryz.prog bad [] [] q0) 1000 60 70 p54.1 ⟨.lf, p54.2.2⟩) p54.2.1 = true := by kernel_rfl
theorem p54_ok {σ : Nat → Int} {W0 : World} (hL : L0 W0) : PureOk Tryz.prog 26623 σ W0 70 p54 := pure_ok fit (Known2.nil σ) ((q0_ok hL)) p54_run
noncomputable def p55 : Pur := ([.agg [I 2, I 3, I 0, I 0, U 1]], .inil, 1048576)
theorem p55_run : ranPure (evCall (cxX Tryz.prog bad [] [] q0) 1000 60 70 p55.1 ⟨.lf, p55.2.2⟩) p55.2.1 = true := by kernel_rfl
theorem p55_ok {σ : Nat → Int} {W0 : World} (hL : L0 W0) : PureOk Tryz.prog 26623 σ W0 70 p55 := pure_ok fit (Known2.nil σ) ((q0_ok hL)) p55_run
noncomputable def h58 : H := hUpc h40 79544 [] [(370, .map [(.agg [I 3, I 0], .agg [I 0, I 0], 0), (.agg [I 3, I 1], .agg [I 0, I 0], 1), (.agg [I 2, I 0], .agg [I 0, I 0], 2), (.agg [I 4, I 0], .agg [I 0, I 0], 3), (.agg [I 3, I 2], .agg [I 0, I 0], 4), (.agg [I 3, I 3], .agg [I 0, I 0], 5), (.agg [I 3, I 4], .agg [I 1, I 0], 6), (.agg [I 3, I 5], .agg [I 1, I 0], 7), (.agg [I 2, I 1], .agg [I 1, I 0], 8), (.agg [I 4, I 1], .agg [I 1, I 0], 9), (.agg [I 3, I 6], .agg [I 1, I 0], 10), (.agg [I 3, I 7], .agg [I 1, I 0], 11), (.agg [I 2, I 2], .agg [I 1, I 0], 12), (.agg [I 4, I 2], .agg [I 1, I 0], 13), (.agg [I 3, I 8], .agg [I 1, I 0], 14), (.agg [I 3, I 9], .agg [I 1, I 0], 15), (.agg [I 2, I 3], .agg [I 1, I 0], 16), (.agg [I 4, I 3], .agg [I 1, I 0], 17)] 18)] [(324, 3, [bT, I 0, bF]),
  (328, 8, [bT, I 0, bF]),
  (328, 9, [bT, I 0, bF]),
  (369, 0, [IZ (-1), I 60, I 18]),
  (369, 1, [I 0, I 12, I 12]),
  (335, 3, [bT, I 0, bF])] [(326, 3, 0, I 3), (326, 3, 1, I 8), (326, 3, 5, I 3), (326, 3, 6, I 9), (330, 8, 0, U 218103808), (337, 3, 9, I 1), (337, 3, 11, I 8), (337, 3, 12, I 1), (337, 3, 16, I 7), (337, 3, 17, I 2), (337, 3, 91, I 2), (337, 3, 92, I 3), (337, 3, 95, U 1), (337, 3, 96, I 7), (337, 3, 97, I 2)]
noncomputable def h59 : H := hUpd h58 81152 [] [(80884, .cells 7 ([[I 2, I 0, I 3, I 0, I 0, I 0, U 0], [I 2, I 0, I 3, I 1, I 0, I 0, U 0], [I 2, I 1, I 3, I 4, I 0, I 0, U 0], [I 2, I 1, I 3, I 5, I 0, I 0, U 0], [I 2, I 2, I 3, I 6, I 0, I 0, U 0], [I 2, I 2, I 3, I 7, I 0, I 0, U 0], [I 2, I 3, I 3, I 8, I 0, I 0, U 0], [I 2, I 3, I 3, I 9, I 0, I 0, U 0], [I 4, I 0, I 8, I 0, I 0, I 0, U 0], [I 4, I 0, I 7, I 1, I 0, I 0, U 0], [I 4, I 0, I 11, I 0, I 0, I 0, U 0], [I 4, I 0, I 12, I 0, I 0, I 0, U 0], [I 4, I 0, I 13, I 0, I 0, I 0, U 0], [I 4, I 0, I 14, I 0, I 0, I 0, U 0], [I 4, I 0, I 2, I 0, I 0, I 0, U 1], [I 4, I 0, I 7, I 1, I 0, I 0, U 0], [I 4, I 1, I 8, I 1, I 0, I 0, U 0], [I 4, I 1, I 7, I 2, I 0, I 0, U 0], [I 4, I 1, I 9, I 0, I 0, I 0, U 0], [I 4, I 1, I 2, I 1, I 0, I 0, U 1], [I 4, I 1, I 7, I 2, I 0, I 0, U 0], [I 4, I 2, I 8, I 1, I 0, I 0, U 0], [I 4, I 2, I 7, I 2, I 0, I 0, U 0], [I 4, I 2, I 2, I 2, I 0, I 0, U 1], [I 4, I 2, I 7, I 2, I 0, I 0, U 0], [I 4, I 3, I 8, I 1, I 0, I 0, U 0], [I 4, I 3, I 7, I 2, I 0, I 0, U 0], [I 4, I 3, I 2, I 3, I 0, I 0, U 1], [I 4, I 3, I 7, I 2, I 0, I 0, U 0], [I 9, I 0, I 3, I 2, I 0, I 5, U 0], [I 9, I 1, I 3, I 3, I 0, I 5, U 0], [I 9, I 1, I 9, I 0, I 0, I 0, U 0]]) false)] []
noncomputable def m56 : Memo := ⟨[.ptr 377 0], h58, .slice 80884 0 32 32 7 false, h59⟩
noncomputable def l10 : List (Pur) := p25 :: p20 :: p55 :: p45 :: p39 :: p27 :: p36 :: p35 :: p3 :: p9 :: p8 :: p7 :: p6 :: p5 :: p4 :: p54 :: p53 :: p44 :: p43 :: p38 :: p37 :: p2 :: p1 :: p0 :: []
theorem l10_ok {σ : Nat → Int} {W0 : World} (hL : L0 W0) : ∀ x ∈ l10, PureOk Tryz.prog 26623 σ W0 70 x := all_cons (p25_ok hL) (all_cons (p20_ok hL) (all_cons (p55_ok hL) (all_cons (p45_ok hL) (all_cons (p39_ok hL) (all_cons (p27_ok hL) (all_cons (p36_ok hL) (all_cons (p35_ok hL) (all_cons (p3_ok hL) (all_cons (p9_ok hL) (all_cons (p8_ok hL) (all_cons (p7_ok hL) (all_cons (p6_ok hL) (all_cons (p5_ok hL) (all_cons (p4_ok hL) (all_cons (p54_ok hL) (all_cons (p53_ok hL) (all_cons (p44_ok hL) (all_cons (p43_ok hL) (all_cons (p38_ok hL) (all_cons (p37_ok hL) (all_cons (p2_ok hL) (all_cons (p1_ok hL) (all_cons (p0_ok hL) (all_nil))))))))))))))))))))))))
theorem m56_run : ranTo (evCall (cxX Tryz.prog bad [] [] ((70, pureFn l10) :: q0)) 1000 60 101 m56.args m56.h) m56.v m56.h' = true := by kernel_rfl
theorem m56_ok {σ : Nat → Int} {W0 : World} (hL : L0 W0) : MemoOk Tryz.prog 26623 σ W0 101 m56 := memo_ok fit (Known2.nil σ) (FnsOk.cons (pure_fn_ok (l10_ok hL)) ((q0_ok hL))) m56_run
noncomputable def h60 : H := hUpd h58 79402 [] [] []
noncomputable def h61 : H := hUpd h58 81408 [] [] []
noncomputable def m57 : Memo := ⟨[.ptr 377 0, I 1], h60, .snil, h61⟩
noncomputable def q11 : Fns := [(101, frameFn [m56]), (239, isFn 439), (172, atoiFullFn 393), (105, itoaFullFn), (270, countFn), (312, indexFn), (271, cutOf Tryz.prog 26623 bad [(270, countFn), (312, indexFn)] 1000 20 271)]
theorem q11_ok {σ : Nat → Int} {W0 : World} (hL : L0 W0) : FnsOk Tryz.prog 26623 σ W0 q11 := FnsOk.cons (frame_fn_ok (all_cons (m56_ok hL) (all_nil))) (FnsOk.cons (ext_is hL) (FnsOk.cons (ext_atoi hL) (FnsOk.cons (ext_itoa hL) (FnsOk.cons (ext_count hL) (FnsOk.cons (ext_index hL) (FnsOk.cons (ext_cut271 hL) (FnsOk.nil)))))))
theorem m57_run : ranTo (evCall (cxX Tryz.prog bad [] [] q11) 1000 60 17 m57.args m57.h) m57.v m57.h' = true := by kernel_rfl
theorem m57_ok {σ : Nat → Int} {W0 : World} (hL : L0 W0) : MemoOk Tryz.prog 26623 σ W0 17 m57 := memo_ok fit (Known2.nil σ) ((q11_ok hL)) m57_run
noncomputable def h62 : H := hUpd h58 81416 [] [] []
noncomputable def h63 : H := hUpd h58 81920 [] [(370, .map [(.agg [I 3, I 0], .agg [I 0, I 0], 0), (.agg [I 3, I 1], .agg [I 0, I 0], 1), (.agg [I 2, I 0], .agg [I 0, I 0], 2), (.agg [I 4, I 0], .agg [I 0, I 0], 3), (.agg [I 3, I 2], .agg [I 0, I 0], 4), (.agg [I 3, I 3], .agg [I 0, I 0], 5)] 18)] [(4922, 0, [I 0]),
  (324, 1, [bF, I 1, bF]),
  (324, 2, [bF, I 1, bF]),
  (324, 3, [bF, I 1, bF]),
  (376, 0, [.slice 4922 0 0 1 1 false]),
  (328, 4, [bF, I 1, bF]),
  (328, 5, [bF, I 1, bF]),
  (328, 6, [bF, I 1, bF]),
  (328, 7, [bF, I 1, bF]),
  (328, 8, [bF, I 1, bF]),
  (328, 9, [bF, I 1, bF]),
  (333, 0, [I 16, .snil, I 59]),
  (369, 0, [IZ (-1), I 60, I 6]),
  (369, 1, [I 0, I 12, I 0]),
  (367, 1, [bF, I 1, bF]),
  (335, 1, [bF, I 1, bF]),
  (335, 2, [bF, I 1, bF]),
  (335, 3, [bF, I 1, bF])]
noncomputable def m58 : Memo := ⟨[.ptr 377 0, .agg [I 8, I 1, I 0, I 0, U 0], U 4, U 0, .agg [I 0, I 0, I 0, I 0, U 0], .agg [I 0, I 0, I 0, I 0, U 0]], h62, .agg [U 0, U 12, U 0, U 0, I 0, I 0, I 0, I 0, U 0, I 0, I 0, I 0, I 0, U 0, I 0, I 0, I 0, I 0, U 0], h63⟩
theorem m58_run : ranTo (evCall (cxX Tryz.prog bad [] [] ((70, pureFn [p35, p2]) :: q0)) 1000 60 13 m58.args m58.h) m58.v m58.h' = true := by kernel_rfl
theorem m58_ok {σ : Nat → Int} {W0 : World} (hL : L0 W0) : MemoOk Tryz.prog 26623 σ W0 13 m58 := memo_ok fit (Known2.nil σ) (FnsOk.cons (pure_fn_ok (all_cons (p35_ok hL) (all_cons (p2_ok hL) (all_nil)))) ((q0_ok hL))) m58_run
noncomputable def l12 : List (Memo) := m58 :: m52 :: m51 :: m50 :: m49 :: m31 :: m29 :: m28 :: m26 :: m23 :: m22 :: m21 :: m18 :: []
theorem l12_ok {σ : Nat → Int} {W0 : World} (hL : L0 W0) : ∀ x ∈ l12, MemoOk Tryz.prog 26623 σ W0 13 x := all_cons (m58_ok hL) (all_cons (m52_ok hL) (all_cons (m51_ok hL) (all_cons (m50_ok hL) (all_cons (m49_ok hL) (all_cons (m31_ok hL) (all_cons (m29_ok hL) (all_cons (m28_ok hL) (all_cons (m26_ok hL) (all_cons (m23_ok hL) (all_cons (m22_ok hL) (all_cons (m21_ok hL) (all_cons (m18_ok hL) (all_nil)))))))))))))
noncomputable def y13 : List Sym := [s0, s1, s2, s3, s4, s5, s6, s7, s8, s9, s10, s11, s12, s13, s14, s15]
theorem y13_ok {W0 : World} (hL : L0 W0) : ∀ x ∈ y13, SymOk Tryz.prog 26623 W0 15 x := all_cons (s0_ok hL) (all_cons (s1_ok hL) (all_cons (s2_ok hL) (all_cons (s3_ok hL) (all_cons (s4_ok hL) (all_cons (s5_ok hL) (all_cons (s6_ok hL) (all_cons (s7_ok hL) (all_cons (s8_ok hL) (all_cons (s9_ok hL) (all_cons (s10_ok hL) (all_cons (s11_ok hL) (all_cons (s12_ok hL) (all_cons (s13_ok hL) (all_cons (s14_ok hL) (all_cons (s15_ok hL) (all_nil))))))))))))))))
noncomputable def q14 : Fns := [(7, pureFn [p10]), (10, frameFn [m17]), (17, frameFn [m57]), (239, isFn 439), (172, atoiFullFn 393), (105, itoaFullFn), (270, countFn), (312, indexFn), (271, cutOf Tryz.prog 26623 bad [(270, countFn), (312, indexFn)] 1000 20 271)]
theorem q14_ok {σ : Nat → Int} {W0 : World} (hL : L0 W0) : FnsOk Tryz.prog 26623 σ W0 q14 := FnsOk.cons (pure_fn_ok (all_cons (p10_ok hL) (all_nil))) (FnsOk.cons (frame_fn_ok (all_cons (m17_ok hL) (all_nil))) (FnsOk.cons (frame_fn_ok (all_cons (m57_ok hL) (all_nil))) (FnsOk.cons (ext_is hL) (FnsOk.cons (ext_atoi hL) (FnsOk.cons (ext_itoa hL) (FnsOk.cons (ext_count hL) (FnsOk.cons (ext_index hL) (FnsOk.cons (ext_cut271 hL) (FnsOk.nil)))))))))
theorem run1 : isTrue (evCall (cxX Tryz.prog bad [] [] ((20, numExtE [(0, 3, .lit 1)]) :: (15, symFn (cxX Tryz.prog bad [] [] []) 32 y13) :: (13, frameFn l12) :: (9, frameFn [m14, m16]) :: q14)) 1000 60 3 [.int .i64 (.var 0)] (sentH 439 19 errTab)) = true := by kernel_rfl
theorem case1 : CaseS [] [] [(0, 3, .lit 1)] [.int .i64 (.var 0)] := caseS (fun hL hk hT => FnsOk.cons (hT.ok fit) (FnsOk.cons (sym_fn_ok (Γ := cxX Tryz.prog bad [] [] []) (fix := 32) ⟨hk.rng, hk.facts⟩ (by decide) (y13_ok hL)) (FnsOk.cons (frame_fn_ok (l12_ok hL)) (FnsOk.cons (frame_fn_ok (all_cons (m14_ok hL) (all_cons (m16_ok hL) (all_nil)))) ((q14_ok hL)))))) run1
noncomputable def h64 : H := hUpd h28 3584 [] [] [(369, 1, [I 0, I 16, I 0])]
noncomputable def m59 : Memo := ⟨[.ptr 377 0, .agg [I 8, I 0, I 0, I 0, U 0], U 2, U 16, .agg [I 0, I 0, I 0, I 0, U 0], .agg [I 0, I 0, I 0, I 0, U 0]], h27, .agg [U 0, U 0, U 0, U 0, I 8, I 1, I 0, I 0, U 0, I 0, I 0, I 0, I 0, U 0, I 0, I 0, I 0, I 0, U 0], h64⟩
theorem m59_run : ranTo (evCall (cxX Tryz.prog bad [] [] ((70, pureFn [p4, p2]) :: q0)) 1000 60 13 m59.args m59.h) m59.v m59.h' = true := by kernel_rfl
theorem m59_ok {σ : Nat → Int} {W0 : World} (hL : L0 W0) : MemoOk Tryz.prog 26623 σ W0 13 m59 := memo_ok fit (Known2.nil σ) (FnsOk.cons (pure_fn_ok (all_cons (p4_ok hL) (all_cons (p2_ok hL) (all_nil)))) ((q0_ok hL))) m59_run
noncomputable def h65 : H := hUpd h64 3619 [] [] []
noncomputable def h66 : H := hUpd h30 3840 [] [] [(369, 1, [I 0, I 16, I 0])]
noncomputable def m60 : Memo := ⟨[.ptr 377 0, .agg [I 7, I 0, I 0, I 0, U 0], U 2, U 500, .agg [I 0, I 0, I 0, I 0, U 0], .agg [I 0, I 0, I 0, I 0, U 0]], h65, .agg [U 0, U 0, U 0, U 0, I 7, I 2, I 0, I 0, U 0, I 0, I 0, I 0, I 0, U 0, I 0, I 0, I 0, I 0, U 0], h66⟩
theorem m60_run : ranTo (evCall (cxX Tryz.prog bad [] [] ((70, pureFn [p33, p2]) :: q0)) 1000 60 13 m60.args m60.h) m60.v m60.h' = true := by kernel_rfl
theorem m60_ok {σ : Nat → Int} {W0 : World} (hL : L0 W0) : MemoOk Tryz.prog 26623 σ W0 13 m60 := memo_ok fit (Known2.nil σ) (FnsOk.cons (pure_fn_ok (all_cons (p33_ok hL) (all_cons (p2_ok hL) (all_nil)))) ((q0_ok hL))) m60_run
noncomputable def h67 : H := hUpd h31 4864 [] [] [(369, 1, [I 0, I 16, I 4])]
noncomputable def m61 : Memo := ⟨[.ptr 377 0, .agg [I 9, I 1, I 0, I 0, U 0], U 1, U 0, .agg [I 8, I 1, I 0, I 0, U 0], .agg [I 7, I 2, I 0, I 0, U 0]], h66, .agg [U 0, U 0, U 0, U 0, I 5, I 1, I 0, I 0, U 0, I 0, I 0, I 0, I 0, U 0, I 0, I 0, I 0, I 0, U 0], h67⟩
theorem m61_run : ranTo (evCall (cxX Tryz.prog bad [] [] ((70, pureFn l3) :: q0)) 1000 60 13 m61.args m61.h) m61.v m61.h' = true := by kernel_rfl
theorem m61_ok {σ : Nat → Int} {W0 : World} (hL : L0 W0) : MemoOk Tryz.prog 26623 σ W0 13 m61 := memo_ok fit (Known2.nil σ) (FnsOk.cons (pure_fn_ok (l3_ok hL)) ((q0_ok hL))) m61_run
noncomputable def h68 : H := hUpd h67 4877 [] [] []
noncomputable def h69 : H := hUpd h33 5120 [] [] [(369, 1, [I 0, I 16, I 4])]
noncomputable def m62 : Memo := ⟨[.ptr 377 0, .agg [I 4, I 1, I 0, I 0, U 0], U 7, U 0, .agg [I 0, I 0, I 0, I 0, U 0], .agg [I 0, I 0, I 0, I 0, U 0]], h68, .agg [U 0, U 0, U 0, U 0, I 0, I 0, I 0, I 0, U 0, I 0, I 0, I 0, I 0, U 0, I 0, I 0, I 0, I 0, U 0], h69⟩
theorem m62_run : ranTo (evCall (cxX Tryz.prog bad [] [] ((70, pureFn l4) :: q0)) 1000 60 13 m62.args m62.h) m62.v m62.h' = true := by kernel_rfl
theorem m62_ok {σ : Nat → Int} {W0 : World} (hL : L0 W0) : MemoOk Tryz.prog 26623 σ W0 13 m62 := memo_ok fit (Known2.nil σ) (FnsOk.cons (pure_fn_ok (l4_ok hL)) ((q0_ok hL))) m62_run
noncomputable def p63 : Pur := ([.agg [I 3, I 10, I 0, I 0, U 0]], .inil, 1048576)
theorem p63_run : ranPure (evCall (cxX Tryz.prog bad [] [] q0) 1000 60 70 p63.1 ⟨.lf, p63.2.2⟩) p63.2.1 = true := by kernel_rfl
theorem p63_ok {σ : Nat → Int} {W0 : World} (hL : L0 W0) : PureOk Tryz.prog 26623 σ W0 70 p63 := pure_ok fit (Known2.nil σ) ((q0_ok hL)) p63_run
noncomputable def p64 : Pur := ([.agg [I 3, I 11, I 0, I 0, U 0]], .inil, 1048576)
theorem p64_run : ranPure (evCall (cxX Tryz.prog bad [] [] q0) 1000 60 70 p64.1 ⟨.lf, p64.2.2⟩) p64.2.1 = true := by kernel_rfl
theorem p64_ok {σ : Nat → Int} {W0 : World} (hL : L0 W0) : PureOk Tryz.prog 26623 σ W0 70 p64 := pure_ok fit (Known2.nil σ) ((q0_ok hL)) p64_run
noncomputable def p65 : Pur := ([.agg [I 2, I 4, I 0, I 0, U 1]], .inil, 1048576)
theorem p65_run : ranPure (evCall (cxX Tryz.prog bad [] [] q0) 1000 60 70 p65.1 ⟨.lf, p65.2.2⟩) p65.2.1 = true := by kernel_rfl
theorem p65_ok {σ : Nat → Int} {W0 : World} (hL : L0 W0) : PureOk Tryz.prog 26623 σ W0 70 p65 := pure_ok fit (Known2.nil σ) ((q0_ok hL)) p65_run
noncomputable def p66 : Pur := ([.agg [I 5, I 4, I 0, I 0, U 0]], .inil, 1048576)
theorem p66_run : ranPure (evCall (cxX Tryz.prog bad [] [] q0) 1000 60 70 p66.1 ⟨.lf, p66.2.2⟩) p66.2.1 = true := by kernel_rfl
theorem p66_ok {σ : Nat → Int} {W0 : World} (hL : L0 W0) : PureOk Tryz.prog 26623 σ W0 70 p66 := pure_ok fit (Known2.nil σ) ((q0_ok hL)) p66_run
noncomputable def h70 : H := hUpd h53 74 [] [(48, .map [(.agg [I 3, I 0], .agg [I 0, I 0], 0), (.agg [I 3, I 1], .agg [I 0, I 0], 1), (.agg [I 2, I 0], .agg [I 0, I 0], 2), (.agg [I 4, I 0], .agg [I 0, I 0], 3), (.agg [I 3, I 2], .agg [I 0, I 0], 4), (.agg [I 3, I 3], .agg [I 0, I 0], 5), (.agg [I 3, I 4], .agg [I 1, I 0], 6), (.agg [I 3, I 5], .agg [I 1, I 0], 7), (.agg [I 2, I 1], .agg [I 1, I 0], 8), (.agg [I 4, I 1], .agg [I 1, I 0], 9), (.agg [I 3, I 6], .agg [I 1, I 0], 10), (.agg [I 3, I 7], .agg [I 1, I 0], 11), (.agg [I 2, I 2], .agg [I 1, I 0], 12), (.agg [I 4, I 2], .agg [I 1, I 0], 13), (.agg [I 3, I 8], .agg [I 1, I 0], 14), (.agg [I 3, I 9], .agg [I 1, I 0], 15), (.agg [I 2, I 3], .agg [I 1, I 0], 16), (.agg [I 4, I 3], .agg [I 1, I 0], 17)] 18)] [(72, 3, [bT, .int .i64 (.var 66), bF]),
  (73, 8, [bT, .int .i64 (.var 71), bF]),
  (73, 9, [bT, .int .i64 (.var 72), bF]),
  (55, 3, [bT, .int .i64 (.var 40), bF])]
noncomputable def s16 : Sym := ⟨[.ptr 32 0, I 0], h70, [32, 33, 34, 35, 36, 37, 38, 39, 40, 41, 42, 44, 45, 46, 47, 48, 49, 50, 51, 52, 53, 54, 55, 64, 65, 66, 67, 68, 69, 70, 72, 73, 30, 22, 14, 26, 10, 6, 28, 20, 24, 8, 4, 2, 29, 21, 13, 25, 9, 5, 27, 19, 23, 31, 7, 3, 1, 0], [(0, 1099511627775), (0, 1099511627775), (0, 4294967295), (0, 4294967295), (0, 1099511627775), (0, 4294967295), (0, 1099511627775), (0, 1099511627775), (0, 1099511627775), (0, 1099511627775), (0, 1099511627775), (0, 1099511627775), (0, 1099511627775), (0, 1099511627775), (0, 4294967295), (0, 1099511627775), (0, 1099511627775), (0, 1099511627775), (0, 1099511627775), (0, 1099511627775), (0, 1099511627775), (0, 1099511627775), (0, 1099511627775), (0, 1099511627775), (0, 4294967295), (0, 1099511627775), (0, 1099511627775), (0, 1099511627775), (0, 1099511627775), (0, 1099511627775), (0, 1099511627775), (0, 1099511627775), (0, 1099511627775), (0, 1099511627775), (0, 1099511627775), (0, 1099511627775), (0, 1099511627775), (0, 1099511627775), (0, 1099511627775), (0, 1099511627775), (0, 1099511627775), (0, 1099511627775), (0, 1099511627775), (0, 1099511627775), (0, 1099511627775), (0, 1099511627775), (0, 1099511627775), (0, 1099511627775), (0, 1099511627775), (0, 1099511627775), (0, 1099511627775), (0, 1099511627775), (0, 1099511627775), (0, 4294967295), (0, 4294967295), (0, 4294967295), (0, 4294967295), (0, 4294967295), (0, 4294967295), (0, 4294967295), (0, 4294967295), (0, 4294967295), (0, 4294967295), (0, 4294967295), (0, 1099511627775), (0, 1099511627775), (0, 1099511627775), (0, 1099511627775), (0, 1099511627775), (0, 1099511627775), (0, 1099511627775), (0, 1099511627775), (0, 1099511627775)],
  [(true, .bop .rem .u32 (.var 5) (.lit 32), .lit 1, true), (true, .bop .shr .i64 (.var 60) (.lit 24), .lit 11, true), (true, .bop .rem .i64 (.add (.bop .and .i64 (.bop .shr .i64 (.var 60) (.lit 12)) (.lit 15)) (.lit 0)) (.lit 16), .lit 0, true), (true, .bop .rem .i64 (.add (.bop .and .i64 (.bop .shr .i64 (.var 60) (.lit 12)) (.lit 15)) (.lit 1)) (.lit 16), .lit 1, true), (true, .bop .rem .i64 (.add (.bop .and .i64 (.bop .shr .i64 (.var 60) (.lit 12)) (.lit 15)) (.lit 2)) (.lit 16), .lit 2, true), (true, .bop .and .i64 (.bop .shr .i64 (.var 60) (.lit 16)) (.lit 15), .lit 2, true), (false, .var 29, .lit 1, false), (false, .var 27, .lit 1, false), (true, .bop .quo .u32 (.var 5) (.lit 32), .lit 0, true), (false, .lit 2, .bop .and .i64 (.bop .shr .i64 (.var 60) (.lit 20)) (.lit 15), false), (false, .lit 0, .bop .and .i64 (.var 60) (.lit 4095), false), (false, .var 6, .lit 32, true), (false, .lit 7, .var 33, false), (false, .sub (.var 31) (.var 32), .lit 4, false), (false, .sub (.lit 60) (.var 30), .lit 4, false), (false, .sub (.var 31) (.var 32), .lit 1, false), (false, .sub (.lit 60) (.var 30), .lit 1, false), (false, .sub (.var 31) (.add (.var 32) (.lit 1)), .lit 1, false), (false, .sub (.lit 60) (.add (.var 30) (.lit 1)), .lit 1, false), (false, .sub (.var 31) (.add (.var 32) (.lit 2)), .lit 1, false), (false, .sub (.lit 60) (.add (.var 30) (.lit 2)), .lit 1, false), (false, .sub (.var 31) (.add (.var 32) (.lit 3)), .lit 1, false), (false, .sub (.lit 60) (.add (.var 30) (.lit 3)), .lit 1, false), (true, .bop .and .i64 (.bop .shr .i64 (.var 60) (.lit 20)) (.lit 15), .lit 0, true)],
  .agg [I 1, I 2, I 0, U 1, I 9, U 0, IZ (-1), I 0],
  [.cel 32 0 8 (.int .i64 (.add (.var 0) (.lit 1))),
  .row 40 0 ([I 16, .slice 54 0 1 1 10 false, .int .i64 (.add (.var 1) (.lit 1))]),
  .cel 42 1 0 (U 0),
  .cel 42 1 8 (.int .u32 (.wrap .u32 (.add (.var 5) (.lit 1)))),
  .cel 42 1 72 (I 4),
  .cel 42 4 9 (I 1),
  .cel 42 4 11 (I 8),
  .cel 42 4 12 (I 1),
  .cel 42 4 16 (I 7),
  .cel 42 4 17 (I 2),
  .cel 42 4 91 (I 2),
  .cel 42 4 92 (I 4),
  .cel 42 4 95 (U 1),
  .cel 42 4 96 (I 7),
  .cel 42 4 97 (I 2),
  .row 45 0 ([IZ (-1), .int .i64 (.sub (.var 27) (.lit 1))]),
  .row 45 2 ([I 0, .int .i64 (.sub (.var 29) (.lit 1))]),
  .row 47 0 ([IZ (-1), I 60, .int .i64 (.add (.var 30) (.lit 4))]),
  .row 47 1 ([I 0, .int .i64 (.var 31), .int .i64 (.add (.var 32) (.lit 4))]),
  .set 48 (.map [(.agg [I 3, I 0], .agg [I 0, I 0], 0), (.agg [I 3, I 1], .agg [I 0, I 0], 1), (.agg [I 2, I 0], .agg [I 0, I 0], 2), (.agg [I 4, I 0], .agg [I 0, I 0], 3), (.agg [I 3, I 2], .agg [I 0, I 0], 4), (.agg [I 3, I 3], .agg [I 0, I 0], 5), (.agg [I 3, I 4], .agg [I 1, I 0], 6), (.agg [I 3, I 5], .agg [I 1, I 0], 7), (.agg [I 2, I 1], .agg [I 1, I 0], 8), (.agg [I 4, I 1], .agg [I 1, I 0], 9), (.agg [I 3, I 6], .agg [I 1, I 0], 10), (.agg [I 3, I 7], .agg [I 1, I 0], 11), (.agg [I 2, I 2], .agg [I 1, I 0], 12), (.agg [I 4, I 2], .agg [I 1, I 0], 13), (.agg [I 3, I 8], .agg [I 1, I 0], 14), (.agg [I 3, I 9], .agg [I 1, I 0], 15), (.agg [I 2, I 3], .agg [I 1, I 0], 16), (.agg [I 4, I 3], .agg [I 1, I 0], 17), (.agg [I 3, I 10], .agg [I 1, I 0], 18), (.agg [I 3, I 11], .agg [I 1, I 0], 19), (.agg [I 2, I 4], .agg [I 1, I 0], 20), (.agg [I 4, I 4], .agg [I 1, I 0], 21)] 22),
  .row 55 4 ([bT, I 0, bF]),
  .cel 68 4 0 (I 3),
  .cel 68 4 1 (I 10),
  .cel 68 4 5 (I 3),
  .cel 68 4 6 (I 11),
  .cel 70 10 0 (.int .u32 (.var 55)),
  .row 72 4 ([bT, I 0, bF]),
  .row 73 10 ([bT, I 0, bF]),
  .row 73 11 ([bT, I 0, bF])], 3981⟩
theorem s16_run : ranTo (evCall (cxX Tryz.prog bad s16.rng s16.facts q0) 1000 60 15 s16.args s16.pre) s16.v s16.post = true := by kernel_rfl
theorem s16_ok {W0 : World} (hL : L0 W0) : SymOk Tryz.prog 26623 W0 15 s16 := sym_ok fit (fun σ hk => (q0_ok hL)) s16_run (by kernel_rfl)
noncomputable def h71 : H := hUpc h54 74 [] [] [(73, 10, [bT, I 0, bF]),
  (73, 11, [bT, I 0, bF]),
  (55, 4, [bT, I 0, bF])] [(70, 10, 0, U 218103808), (42, 4, 9, I 1), (42, 4, 11, I 8), (42, 4, 12, I 1), (42, 4, 16, I 7), (42, 4, 17, I 2), (42, 4, 91, I 2), (42, 4, 92, I 4), (42, 4, 95, U 1), (42, 4, 96, I 7), (42, 4, 97, I 2)]
noncomputable def s17 : Sym := ⟨[.ptr 32 0, I 0], h71, [32, 33, 34, 35, 38, 39, 40, 41, 42, 44, 45, 51, 53, 54, 55, 64, 69, 70, 73, 30, 22, 14, 26, 10, 6, 28, 20, 24, 8, 4, 2, 29, 21, 13, 25, 9, 5, 27, 19, 23, 31, 7, 3, 1, 0], [(0, 1099511627775), (0, 1099511627775), (0, 4294967295), (0, 4294967295), (0, 1099511627775), (0, 4294967295), (0, 4294967295), (0, 1099511627775), (0, 1099511627775), (0, 1099511627775), (0, 1099511627775), (0, 1099511627775), (0, 1099511627775), (0, 1099511627775), (0, 1099511627775), (0, 1099511627775), (0, 1099511627775), (0, 4294967295), (0, 1099511627775), (0, 1099511627775), (0, 1099511627775), (0, 1099511627775), (0, 1099511627775), (0, 1099511627775), (0, 1099511627775), (0, 1099511627775), (0, 1099511627775), (0, 4294967295), (0, 1099511627775), (0, 1099511627775), (0, 1099511627775), (0, 1099511627775), (0, 1099511627775), (0, 1099511627775), (0, 1099511627775), (0, 1099511627775), (0, 4294967295), (0, 4294967295), (0, 4294967295), (0, 4294967295), (0, 4294967295), (0, 4294967295), (0, 4294967295), (0, 4294967295), (0, 4294967295), (0, 4294967295), (0, 4294967295), (0, 1099511627775), (0, 1099511627775), (0, 1099511627775), (0, 1099511627775), (0, 1099511627775), (0, 1099511627775)],
  [(true, .bop .rem .u32 (.var 6) (.lit 32), .lit 2, true), (true, .bop .shr .i64 (.var 44) (.lit 24), .lit 4, true), (false, .var 32, .lit 1, false), (false, .var 30, .lit 1, false), (true, .bop .quo .u32 (.var 6) (.lit 32), .lit 0, true), (true, .bop .and .i64 (.bop .shr .i64 (.var 44) (.lit 20)) (.lit 15), .lit 0, true), (true, .bop .and .i64 (.bop .shr .i64 (.var 44) (.lit 16)) (.lit 15), .lit 0, true), (true, .bop .and .i64 (.bop .shr .i64 (.var 44) (.lit 12)) (.lit 15), .lit 0, true), (false, .var 7, .lit 64, true), (false, .var 8, .lit 32, true), (false, .var 9, .lit 32, true)],
  .agg [I 1, I 1, I 0, U 0, I 0, U 0, IZ (-1), I 0],
  [.cel 32 0 8 (.int .i64 (.add (.var 0) (.lit 1))),
  .row 40 0 ([I 16, .slice 54 0 1 1 10 false, .int .i64 (.add (.var 1) (.lit 1))]),
  .cel 42 1 8 (.int .u32 (.bop .and .i64 (.var 44) (.lit 4095))),
  .row 45 0 ([IZ (-1), .int .i64 (.sub (.var 30) (.lit 1))]),
  .row 45 2 ([I 0, .int .i64 (.sub (.var 32) (.lit 1))])], 765⟩
theorem s17_run : ranTo (evCall (cxX Tryz.prog bad s17.rng s17.facts q0) 1000 60 15 s17.args s17.pre) s17.v s17.post = true := by kernel_rfl
theorem s17_ok {W0 : World} (hL : L0 W0) : SymOk Tryz.prog 26623 W0 15 s17 := sym_ok fit (fun σ hk => (q0_ok hL)) s17_run (by kernel_rfl)
noncomputable def s18 : Sym := ⟨[.ptr 32 0, I 0], h71, [32, 33, 34, 35, 38, 39, 40, 41, 42, 44, 45, 51, 53, 54, 55, 64, 69, 70, 73, 30, 22, 14, 26, 10, 6, 28, 20, 24, 8, 4, 2, 29, 21, 13, 25, 9, 5, 27, 19, 23, 31, 7, 3, 1, 0], [(0, 1099511627775), (0, 1099511627775), (0, 4294967295), (0, 4294967295), (0, 1099511627775), (0, 4294967295), (0, 4294967295), (0, 1099511627775), (0, 1099511627775), (0, 1099511627775), (0, 1099511627775), (0, 1099511627775), (0, 1099511627775), (0, 1099511627775), (0, 1099511627775), (0, 1099511627775), (0, 1099511627775), (0, 4294967295), (0, 1099511627775), (0, 1099511627775), (0, 1099511627775), (0, 1099511627775), (0, 1099511627775), (0, 1099511627775), (0, 1099511627775), (0, 1099511627775), (0, 1099511627775), (0, 4294967295), (0, 1099511627775), (0, 1099511627775), (0, 1099511627775), (0, 1099511627775), (0, 1099511627775), (0, 1099511627775), (0, 1099511627775), (0, 1099511627775), (0, 4294967295), (0, 4294967295), (0, 4294967295), (0, 4294967295), (0, 4294967295), (0, 4294967295), (0, 4294967295), (0, 4294967295), (0, 4294967295), (0, 4294967295), (0, 4294967295), (0, 1099511627775), (0, 1099511627775), (0, 1099511627775), (0, 1099511627775), (0, 1099511627775), (0, 1099511627775)],
  [(true, .bop .rem .u32 (.var 6) (.lit 32), .lit 0, true), (true, .bop .shr .i64 (.var 42) (.lit 24), .lit 1, true), (true, .bop .and .i64 (.bop .shr .i64 (.var 42) (.lit 20)) (.lit 15), .lit 0, true), (false, .var 32, .lit 1, false), (false, .var 30, .lit 1, false), (true, .bop .quo .u32 (.var 6) (.lit 32), .lit 0, true), (true, .bop .and .i64 (.bop .shr .i64 (.var 42) (.lit 16)) (.lit 15), .lit 0, true), (true, .bop .and .i64 (.bop .shr .i64 (.var 42) (.lit 12)) (.lit 15), .lit 0, true), (false, .var 7, .lit 64, true), (false, .var 8, .lit 32, true), (false, .var 9, .lit 32, true)],
  .agg [I 1, I 1, I 0, U 0, I 0, U 0, IZ (-1), I 0],
  [.cel 32 0 8 (.int .i64 (.add (.var 0) (.lit 1))),
  .row 40 0 ([I 16, .slice 54 0 1 1 10 false, .int .i64 (.add (.var 1) (.lit 1))]),
  .cel 42 1 0 (.int .u32 (.bop .and .i64 (.var 42) (.lit 4095))),
  .cel 42 1 8 (.int .u32 (.wrap .u32 (.add (.var 6) (.lit 1)))),
  .row 45 0 ([IZ (-1), .int .i64 (.sub (.var 30) (.lit 1))]),
  .row 45 2 ([I 0, .int .i64 (.sub (.var 32) (.lit 1))])], 774⟩
theorem s18_run : ranTo (evCall (cxX Tryz.prog bad s18.rng s18.facts q0) 1000 60 15 s18.args s18.pre) s18.v s18.post = true := by kernel_rfl
theorem s18_ok {W0 : World} (hL : L0 W0) : SymOk Tryz.prog 26623 W0 15 s18 := sym_ok fit (fun σ hk => (q0_ok hL)) s18_run (by kernel_rfl)
noncomputable def h72 : H := hUpc h55 74 [] [] [(72, 4, [bT, I 0, bF]),
  (73, 10, [bT, I 0, bF]),
  (73, 11, [bT, I 0, bF]),
  (55, 4, [bT, I 0, bF])] [(70, 10, 0, U 218103808), (42, 4, 9, I 1), (42, 4, 11, I 8), (42, 4, 12, I 1), (42, 4, 16, I 7), (42, 4, 17, I 2), (42, 4, 91, I 2), (42, 4, 92, I 4), (42, 4, 95, U 1), (42, 4, 96, I 7), (42, 4, 97, I 2)]
noncomputable def s19 : Sym := ⟨[.ptr 32 0, I 0], h72, [32, 33, 34, 35, 36, 37, 38, 39, 40, 41, 42, 44, 45, 46, 47, 49, 50, 51, 52, 53, 54, 55, 64, 65, 66, 67, 69, 70, 72, 73, 30, 22, 14, 26, 10, 6, 28, 20, 24, 8, 4, 2, 29, 21, 13, 25, 9, 5, 27, 19, 23, 31, 7, 3, 1, 0], [(0, 1099511627775), (0, 1099511627775), (0, 4294967295), (0, 4294967295), (0, 1099511627775), (0, 4294967295), (0, 1099511627775), (0, 1099511627775), (0, 1099511627775), (0, 1099511627775), (0, 1099511627775), (0, 1099511627775), (0, 1099511627775), (0, 1099511627775), (0, 4294967295), (0, 1099511627775), (0, 1099511627775), (0, 1099511627775), (0, 1099511627775), (0, 1099511627775), (0, 1099511627775), (0, 1099511627775), (0, 1099511627775), (0, 1099511627775), (0, 4294967295), (0, 1099511627775), (0, 1099511627775), (0, 1099511627775), (0, 1099511627775), (0, 1099511627775), (0, 1099511627775), (0, 1099511627775), (0, 1099511627775), (0, 1099511627775), (0, 1099511627775), (0, 1099511627775), (0, 1099511627775), (0, 1099511627775), (0, 1099511627775), (0, 1099511627775), (0, 1099511627775), (0, 4294967295), (0, 4294967295), (0, 4294967295), (0, 4294967295), (0, 4294967295), (0, 4294967295), (0, 4294967295), (0, 4294967295), (0, 4294967295), (0, 4294967295), (0, 4294967295), (0, 1099511627775), (0, 1099511627775), (0, 1099511627775), (0, 1099511627775), (0, 1099511627775), (0, 1099511627775), (0, 1099511627775), (0, 1099511627775), (0, 1099511627775)],
  [(true, .bop .rem .u32 (.var 5) (.lit 32), .lit 1, true), (true, .bop .shr .i64 (.var 48) (.lit 24), .lit 11, true), (true, .bop .rem .i64 (.add (.bop .and .i64 (.bop .shr .i64 (.var 48) (.lit 12)) (.lit 15)) (.lit 0)) (.lit 16), .lit 0, true), (true, .bop .rem .i64 (.add (.bop .and .i64 (.bop .shr .i64 (.var 48) (.lit 12)) (.lit 15)) (.lit 1)) (.lit 16), .lit 1, true), (true, .bop .rem .i64 (.add (.bop .and .i64 (.bop .shr .i64 (.var 48) (.lit 12)) (.lit 15)) (.lit 2)) (.lit 16), .lit 2, true), (true, .bop .and .i64 (.bop .shr .i64 (.var 48) (.lit 16)) (.lit 15), .lit 2, true), (false, .var 29, .lit 1, false), (false, .var 27, .lit 1, false), (true, .bop .quo .u32 (.var 5) (.lit 32), .lit 0, true), (false, .lit 2, .bop .and .i64 (.bop .shr .i64 (.var 48) (.lit 20)) (.lit 15), false), (false, .lit 0, .bop .and .i64 (.var 48) (.lit 4095), false), (false, .var 6, .lit 32, true), (false, .lit 7, .var 33, false), (false, .sub (.var 31) (.var 32), .lit 4, true), (true, .bop .and .i64 (.bop .shr .i64 (.var 48) (.lit 20)) (.lit 15), .lit 0, true)],
  .agg [I 1, I 2, I 0, U 1, I 9, U 6, IZ (-1), I 0],
  [.cel 32 0 8 (.int .i64 (.add (.var 0) (.lit 1))),
  .row 40 0 ([I 16, .slice 54 0 1 1 10 false, .int .i64 (.add (.var 1) (.lit 1))]),
  .cel 42 1 0 (U 6),
  .cel 42 1 8 (.int .u32 (.wrap .u32 (.add (.var 5) (.lit 1)))),
  .cel 42 1 71 (I 0),
  .cel 42 1 72 (I 0),
  .row 45 0 ([IZ (-1), .int .i64 (.sub (.var 27) (.lit 1))]),
  .row 45 2 ([I 0, .int .i64 (.sub (.var 29) (.lit 1))])], 2209⟩
theorem s19_run : ranTo (evCall (cxX Tryz.prog bad s19.rng s19.facts q0) 1000 60 15 s19.args s19.pre) s19.v s19.post = true := by kernel_rfl
theorem s19_ok {W0 : World} (hL : L0 W0) : SymOk Tryz.prog 26623 W0 15 s19 := sym_ok fit (fun σ hk => (q0_ok hL)) s19_run (by kernel_rfl)
noncomputable def h73 : H := hUpc h71 74 [] [] [] [(42, 1, 71, .int .i64 (.var 9)), (42, 1, 72, I 0)]
noncomputable def s20 : Sym := ⟨[.ptr 32 0, I 0], h73, [32, 33, 34, 35, 38, 39, 40, 41, 42, 44, 45, 51, 53, 54, 55, 64, 69, 70, 73, 30, 22, 14, 26, 10, 6, 28, 20, 24, 8, 4, 2, 29, 21, 13, 25, 9, 5, 27, 19, 23, 31, 7, 3, 1, 0], [(0, 1099511627775), (0, 1099511627775), (0, 4294967295), (0, 4294967295), (0, 1099511627775), (0, 4294967295), (0, 4294967295), (0, 1099511627775), (0, 1099511627775), (0, 1099511627775), (0, 1099511627775), (0, 1099511627775), (0, 1099511627775), (0, 1099511627775), (0, 1099511627775), (0, 1099511627775), (0, 1099511627775), (0, 4294967295), (0, 1099511627775), (0, 1099511627775), (0, 1099511627775), (0, 1099511627775), (0, 1099511627775), (0, 1099511627775), (0, 1099511627775), (0, 1099511627775), (0, 1099511627775), (0, 4294967295), (0, 1099511627775), (0, 1099511627775), (0, 1099511627775), (0, 1099511627775), (0, 1099511627775), (0, 1099511627775), (0, 1099511627775), (0, 1099511627775), (0, 4294967295), (0, 4294967295), (0, 4294967295), (0, 4294967295), (0, 4294967295), (0, 4294967295), (0, 4294967295), (0, 4294967295), (0, 4294967295), (0, 4294967295), (0, 4294967295), (0, 1099511627775), (0, 1099511627775), (0, 1099511627775), (0, 1099511627775), (0, 1099511627775), (0, 1099511627775)],
  [(true, .bop .rem .u32 (.var 6) (.lit 32), .lit 2, true), (true, .bop .shr .i64 (.var 44) (.lit 24), .lit 4, true), (false, .var 32, .lit 1, false), (false, .var 30, .lit 1, false), (true, .bop .quo .u32 (.var 6) (.lit 32), .lit 0, true), (true, .bop .and .i64 (.bop .shr .i64 (.var 44) (.lit 20)) (.lit 15), .lit 0, true), (true, .bop .and .i64 (.bop .shr .i64 (.var 44) (.lit 16)) (.lit 15), .lit 0, true), (true, .bop .and .i64 (.bop .shr .i64 (.var 44) (.lit 12)) (.lit 15), .lit 0, true), (false, .var 7, .lit 64, true), (false, .var 8, .lit 32, true), (false, .lit 14, .var 9, false), (true, .var 9, .lit 2, false), (true, .var 9, .lit 3, false), (true, .var 9, .lit 4, false), (true, .var 9, .lit 5, false), (true, .var 9, .lit 6, false), (true, .var 9, .lit 7, false), (true, .var 9, .lit 8, false), (true, .var 9, .lit 9, false), (true, .var 9, .lit 10, false), (true, .var 9, .lit 1, false)],
  .agg [I 1, I 1, I 0, U 0, I 0, U 0, IZ (-1), I 0],
  [.cel 32 0 8 (.int .i64 (.add (.var 0) (.lit 1))),
  .row 40 0 ([I 16, .slice 54 0 1 1 10 false, .int .i64 (.add (.var 1) (.lit 1))]),
  .cel 42 1 8 (.int .u32 (.bop .and .i64 (.var 44) (.lit 4095))),
  .row 45 0 ([IZ (-1), .int .i64 (.sub (.var 30) (.lit 1))]),
  .row 45 2 ([I 0, .int .i64 (.sub (.var 32) (.lit 1))])], 765⟩
theorem s20_run : ranTo (evCall (cxX Tryz.prog bad s20.rng s20.facts q0) 1000 60 15 s20.args s20.pre) s20.v s20.post = true := by kernel_rfl
theorem s20_ok {W0 : World} (hL : L0 W0) : SymOk Tryz.prog 26623 W0 15 s20 := sym_ok fit (fun σ hk => (q0_ok hL)) s20_run (by kernel_rfl)
noncomputable def s21 : Sym := ⟨[.ptr 32 0, I 0], h73, [32, 33, 34, 35, 38, 39, 40, 41, 42, 44, 45, 51, 53, 54, 55, 64, 69, 70, 73, 30, 22, 14, 26, 10, 6, 28, 20, 24, 8, 4, 2, 29, 21, 13, 25, 9, 5, 27, 19, 23, 31, 7, 3, 1, 0], [(0, 1099511627775), (0, 1099511627775), (0, 4294967295), (0, 4294967295), (0, 1099511627775), (0, 4294967295), (0, 4294967295), (0, 1099511627775), (0, 1099511627775), (0, 1099511627775), (0, 1099511627775), (0, 1099511627775), (0, 1099511627775), (0, 1099511627775), (0, 1099511627775), (0, 1099511627775), (0, 1099511627775), (0, 4294967295), (0, 1099511627775), (0, 1099511627775), (0, 1099511627775), (0, 1099511627775), (0, 1099511627775), (0, 1099511627775), (0, 1099511627775), (0, 1099511627775), (0, 1099511627775), (0, 4294967295), (0, 1099511627775), (0, 1099511627775), (0, 1099511627775), (0, 1099511627775), (0, 1099511627775), (0, 1099511627775), (0, 1099511627775), (0, 1099511627775), (0, 4294967295), (0, 4294967295), (0, 4294967295), (0, 4294967295), (0, 4294967295), (0, 4294967295), (0, 4294967295), (0, 4294967295), (0, 4294967295), (0, 4294967295), (0, 4294967295), (0, 1099511627775), (0, 1099511627775), (0, 1099511627775), (0, 1099511627775), (0, 1099511627775), (0, 1099511627775)],
  [(true, .bop .rem .u32 (.var 6) (.lit 32), .lit 0, true), (true, .bop .shr .i64 (.var 42) (.lit 24), .lit 1, true), (true, .bop .and .i64 (.bop .shr .i64 (.var 42) (.lit 20)) (.lit 15), .lit 0, true), (false, .var 32, .lit 1, false), (false, .var 30, .lit 1, false), (true, .bop .quo .u32 (.var 6) (.lit 32), .lit 0, true), (true, .bop .and .i64 (.bop .shr .i64 (.var 42) (.lit 16)) (.lit 15), .lit 0, true), (true, .bop .and .i64 (.bop .shr .i64 (.var 42) (.lit 12)) (.lit 15), .lit 0, true), (false, .var 7, .lit 64, true), (false, .var 8, .lit 32, true), (false, .lit 14, .var 9, false), (true, .var 9, .lit 2, false), (true, .var 9, .lit 3, false), (true, .var 9, .lit 4, false), (true, .var 9, .lit 5, false), (true, .var 9, .lit 6, false), (true, .var 9, .lit 7, false), (true, .var 9, .lit 8, false), (true, .var 9, .lit 9, false), (true, .var 9, .lit 10, false), (true, .var 9, .lit 1, false)],
  .agg [I 1, I 1, I 0, U 0, I 0, U 0, IZ (-1), I 0],
  [.cel 32 0 8 (.int .i64 (.add (.var 0) (.lit 1))),
  .row 40 0 ([I 16, .slice 54 0 1 1 10 false, .int .i64 (.add (.var 1) (.lit 1))]),
  .cel 42 1 0 (.int .u32 (.bop .and .i64 (.var 42) (.lit 4095))),
  .cel 42 1 8 (.int .u32 (.wrap .u32 (.add (.var 6) (.lit 1)))),
  .row 45 0 ([IZ (-1), .int .i64 (.sub (.var 30) (.lit 1))]),
  .row 45 2 ([I 0, .int .i64 (.sub (.var 32) (.lit 1))])], 774⟩
theorem s21_run : ranTo (evCall (cxX Tryz.prog bad s21.rng s21.facts q0) 1000 60 15 s21.args s21.pre) s21.v s21.post = true := by kernel_rfl
theorem s21_ok {W0 : World} (hL : L0 W0) : SymOk Tryz.prog 26623 W0 15 s21 := sym_ok fit (fun σ hk => (q0_ok hL)) s21_run (by kernel_rfl)
noncomputable def h74 : H := hUpc h72 74 [] [] [] [(42, 1, 71, .int .i64 (.var 6)), (42, 1, 72, I 0)]
noncomputable def s22 : Sym := ⟨[.ptr 32 0, I 0], h74, [32, 33, 34, 35, 36, 37, 38, 39, 40, 41, 42, 44, 45, 46, 47, 49, 50, 51, 52, 53, 54, 55, 64, 65, 66, 67, 69, 70, 72, 73, 30, 22, 14, 26, 10, 6, 28, 20, 24, 8, 4, 2, 29, 21, 13, 25, 9, 5, 27, 19, 23, 31, 7, 3, 1, 0], [(0, 1099511627775), (0, 1099511627775), (0, 4294967295), (0, 4294967295), (0, 1099511627775), (0, 4294967295), (0, 1099511627775), (0, 1099511627775), (0, 1099511627775), (0, 1099511627775), (0, 1099511627775), (0, 1099511627775), (0, 1099511627775), (0, 1099511627775), (0, 4294967295), (0, 1099511627775), (0, 1099511627775), (0, 1099511627775), (0, 1099511627775), (0, 1099511627775), (0, 1099511627775), (0, 1099511627775), (0, 1099511627775), (0, 1099511627775), (0, 4294967295), (0, 1099511627775), (0, 1099511627775), (0, 1099511627775), (0, 1099511627775), (0, 1099511627775), (0, 1099511627775), (0, 1099511627775), (0, 1099511627775), (0, 1099511627775), (0, 1099511627775), (0, 1099511627775), (0, 1099511627775), (0, 1099511627775), (0, 1099511627775), (0, 1099511627775), (0, 1099511627775), (0, 4294967295), (0, 4294967295), (0, 4294967295), (0, 4294967295), (0, 4294967295), (0, 4294967295), (0, 4294967295), (0, 4294967295), (0, 4294967295), (0, 4294967295), (0, 4294967295), (0, 1099511627775), (0, 1099511627775), (0, 1099511627775), (0, 1099511627775), (0, 1099511627775), (0, 1099511627775), (0, 1099511627775), (0, 1099511627775), (0, 1099511627775)],
  [(true, .bop .rem .u32 (.var 5) (.lit 32), .lit 1, true), (true, .bop .shr .i64 (.var 48) (.lit 24), .lit 11, true), (true, .bop .rem .i64 (.add (.bop .and .i64 (.bop .shr .i64 (.var 48) (.lit 12)) (.lit 15)) (.lit 0)) (.lit 16), .lit 0, true), (true, .bop .rem .i64 (.add (.bop .and .i64 (.bop .shr .i64 (.var 48) (.lit 12)) (.lit 15)) (.lit 1)) (.lit 16), .lit 1, true), (true, .bop .rem .i64 (.add (.bop .and .i64 (.bop .shr .i64 (.var 48) (.lit 12)) (.lit 15)) (.lit 2)) (.lit 16), .lit 2, true), (true, .bop .and .i64 (.bop .shr .i64 (.var 48) (.lit 16)) (.lit 15), .lit 2, true), (false, .var 29, .lit 1, false), (false, .var 27, .lit 1, false), (true, .bop .quo .u32 (.var 5) (.lit 32), .lit 0, true), (false, .lit 2, .bop .and .i64 (.bop .shr .i64 (.var 48) (.lit 20)) (.lit 15), false), (false, .lit 0, .bop .and .i64 (.var 48) (.lit 4095), false), (false, .lit 14, .var 6, false), (true, .var 6, .lit 2, false), (true, .var 6, .lit 3, false), (true, .var 6, .lit 4, false), (true, .var 6, .lit 5, false), (true, .var 6, .lit 6, false), (true, .var 6, .lit 7, false), (true, .var 6, .lit 8, false), (true, .var 6, .lit 9, false), (true, .var 6, .lit 10, false), (true, .var 6, .lit 1, false), (false, .lit 7, .var 33, false), (false, .sub (.var 31) (.var 32), .lit 4, true), (true, .bop .and .i64 (.bop .shr .i64 (.var 48) (.lit 20)) (.lit 15), .lit 0, true)],
  .agg [I 1, I 2, I 0, U 1, I 9, U 6, IZ (-1), I 0],
  [.cel 32 0 8 (.int .i64 (.add (.var 0) (.lit 1))),
  .row 40 0 ([I 16, .slice 54 0 1 1 10 false, .int .i64 (.add (.var 1) (.lit 1))]),
  .cel 42 1 0 (U 6),
  .cel 42 1 8 (.int .u32 (.wrap .u32 (.add (.var 5) (.lit 1)))),
  .cel 42 1 71 (I 0),
  .row 45 0 ([IZ (-1), .int .i64 (.sub (.var 27) (.lit 1))]),
  .row 45 2 ([I 0, .int .i64 (.sub (.var 29) (.lit 1))])], 2209⟩
theorem s22_run : ranTo (evCall (cxX Tryz.prog bad s22.rng s22.facts q0) 1000 60 15 s22.args s22.pre) s22.v s22.post = true := by kernel_rfl
theorem s22_ok {W0 : World} (hL : L0 W0) : SymOk Tryz.prog 26623 W0 15 s22 := sym_ok fit (fun σ hk => (q0_ok hL)) s22_run (by kernel_rfl)
end Go.Proofs.YtmafpninhndlnaaGreatDoor.wholeNests
