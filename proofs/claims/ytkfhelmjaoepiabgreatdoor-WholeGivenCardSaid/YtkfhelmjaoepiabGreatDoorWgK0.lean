/- wholeGiven: calls that are run once, and the runs of the cases (part 0). -/
import Derived.Test.YtkfhelmjaoepiabGreatDoorEvWgF
set_option linter.unusedVariables false
set_option maxRecDepth 10000000
namespace Go.Proofs.YtkfhelmjaoepiabGreatDoor.wholeGiven
open Tk
open Go.RowKit
noncomputable def h0 : H := sentH 453 20 errTab
noncomputable def q0 : Fns := [(295, isFn 453), (122, atoiFullFn 384), (123, itoaFullFn), (195, joinFn), (307, countFn), (352, indexFn), (308, cutOf Tryz.prog 26623 bad [(307, countFn), (352, indexFn)] 1000 20 308)]
theorem q0_ok {σ : Nat → Int} {W0 : World} (hL : L0 W0) : FnsOk Tryz.prog 26623 σ W0 q0 := FnsOk.cons (ext_is hL) (FnsOk.cons (ext_atoi hL) (FnsOk.cons (ext_itoa hL) (FnsOk.cons (ext_join hL) (FnsOk.cons (ext_count hL) (FnsOk.cons (ext_index hL) (FnsOk.cons (ext_cut308 hL) (FnsOk.nil)))))))
noncomputable def p0 : Pur := ([.agg [I 3, I 0, I 0, I 0, U 0]], .inil, 1048576)
theorem p0_run : ranPure (evCall (cxX Tryz.prog bad [] [] q0) 1000 60 44 p0.1 ⟨.lf, p0.2.2⟩) p0.2.1 = true := by kernel_rfl
theorem p0_ok {σ : Nat → Int} {W0 : World} (hL : L0 W0) : PureOk Tryz.prog 26623 σ W0 44 p0 := pure_ok fit (Known2.nil σ) ((q0_ok hL)) p0_run
noncomputable def p1 : Pur := ([.agg [I 3, I 1, I 0, I 0, U 0]], .inil, 1048576)
theorem p1_run : ranPure (evCall (cxX Tryz.prog bad [] [] q0) 1000 60 44 p1.1 ⟨.lf, p1.2.2⟩) p1.2.1 = true := by kernel_rfl
theorem p1_ok {σ : Nat → Int} {W0 : World} (hL : L0 W0) : PureOk Tryz.prog 26623 σ W0 44 p1 := pure_ok fit (Known2.nil σ) ((q0_ok hL)) p1_run
noncomputable def p2 : Pur := ([.agg [I 0, I 0, I 0, I 0, U 0]], .inil, 1048576)
theorem p2_run : ranPure (evCall (cxX Tryz.prog bad [] [] q0) 1000 60 44 p2.1 ⟨.lf, p2.2.2⟩) p2.2.1 = true := by kernel_rfl
theorem p2_ok {σ : Nat → Int} {W0 : World} (hL : L0 W0) : PureOk Tryz.prog 26623 σ W0 44 p2 := pure_ok fit (Known2.nil σ) ((q0_ok hL)) p2_run
noncomputable def p3 : Pur := ([.agg [I 2, I 0, I 0, I 0, U 1]], .inil, 1048576)
theorem p3_run : ranPure (evCall (cxX Tryz.prog bad [] [] q0) 1000 60 44 p3.1 ⟨.lf, p3.2.2⟩) p3.2.1 = true := by kernel_rfl
theorem p3_ok {σ : Nat → Int} {W0 : World} (hL : L0 W0) : PureOk Tryz.prog 26623 σ W0 44 p3 := pure_ok fit (Known2.nil σ) ((q0_ok hL)) p3_run
noncomputable def p4 : Pur := ([.agg [I 8, I 0, I 0, I 0, U 0]], .inil, 1048576)
theorem p4_run : ranPure (evCall (cxX Tryz.prog bad [] [] q0) 1000 60 44 p4.1 ⟨.lf, p4.2.2⟩) p4.2.1 = true := by kernel_rfl
theorem p4_ok {σ : Nat → Int} {W0 : World} (hL : L0 W0) : PureOk Tryz.prog 26623 σ W0 44 p4 := pure_ok fit (Known2.nil σ) ((q0_ok hL)) p4_run
noncomputable def p5 : Pur := ([.agg [I 7, I 1, I 0, I 0, U 0]], .inil, 1048576)
theorem p5_run : ranPure (evCall (cxX Tryz.prog bad [] [] q0) 1000 60 44 p5.1 ⟨.lf, p5.2.2⟩) p5.2.1 = true := by kernel_rfl
theorem p5_ok {σ : Nat → Int} {W0 : World} (hL : L0 W0) : PureOk Tryz.prog 26623 σ W0 44 p5 := pure_ok fit (Known2.nil σ) ((q0_ok hL)) p5_run
noncomputable def p6 : Pur := ([.agg [I 11, I 0, I 0, I 0, U 0]], .inil, 1048576)
theorem p6_run : ranPure (evCall (cxX Tryz.prog bad [] [] q0) 1000 60 44 p6.1 ⟨.lf, p6.2.2⟩) p6.2.1 = true := by kernel_rfl
theorem p6_ok {σ : Nat → Int} {W0 : World} (hL : L0 W0) : PureOk Tryz.prog 26623 σ W0 44 p6 := pure_ok fit (Known2.nil σ) ((q0_ok hL)) p6_run
noncomputable def p7 : Pur := ([.agg [I 12, I 0, I 0, I 0, U 0]], .inil, 1048576)
theorem p7_run : ranPure (evCall (cxX Tryz.prog bad [] [] q0) 1000 60 44 p7.1 ⟨.lf, p7.2.2⟩) p7.2.1 = true := by kernel_rfl
theorem p7_ok {σ : Nat → Int} {W0 : World} (hL : L0 W0) : PureOk Tryz.prog 26623 σ W0 44 p7 := pure_ok fit (Known2.nil σ) ((q0_ok hL)) p7_run
noncomputable def p8 : Pur := ([.agg [I 13, I 0, I 0, I 0, U 0]], .inil, 1048576)
theorem p8_run : ranPure (evCall (cxX Tryz.prog bad [] [] q0) 1000 60 44 p8.1 ⟨.lf, p8.2.2⟩) p8.2.1 = true := by kernel_rfl
theorem p8_ok {σ : Nat → Int} {W0 : World} (hL : L0 W0) : PureOk Tryz.prog 26623 σ W0 44 p8 := pure_ok fit (Known2.nil σ) ((q0_ok hL)) p8_run
noncomputable def p9 : Pur := ([.agg [I 14, I 0, I 0, I 0, U 0]], .inil, 1048576)
theorem p9_run : ranPure (evCall (cxX Tryz.prog bad [] [] q0) 1000 60 44 p9.1 ⟨.lf, p9.2.2⟩) p9.2.1 = true := by kernel_rfl
theorem p9_ok {σ : Nat → Int} {W0 : World} (hL : L0 W0) : PureOk Tryz.prog 26623 σ W0 44 p9 := pure_ok fit (Known2.nil σ) ((q0_ok hL)) p9_run
noncomputable def l0 : List (Pur) := p9 :: p8 :: p7 :: p6 :: p5 :: p4 :: p3 :: p2 :: p1 :: p0 :: []
theorem l0_ok {σ : Nat → Int} {W0 : World} (hL : L0 W0) : ∀ x ∈ l0, PureOk Tryz.prog 26623 σ W0 44 x := all_cons (p9_ok hL) (all_cons (p8_ok hL) (all_cons (p7_ok hL) (all_cons (p6_ok hL) (all_cons (p5_ok hL) (all_cons (p4_ok hL) (all_cons (p3_ok hL) (all_cons (p2_ok hL) (all_cons (p1_ok hL) (all_cons (p0_ok hL) (all_nil))))))))))
noncomputable def p10 : Pur := ([], bT, 262144)
theorem p10_run : ranPure (evCall (cxX Tryz.prog bad [] [] ((44, pureFn l0) :: q0)) 1000 60 20 p10.1 ⟨.lf, p10.2.2⟩) p10.2.1 = true := by kernel_rfl
theorem p10_ok {σ : Nat → Int} {W0 : World} (hL : L0 W0) : PureOk Tryz.prog 26623 σ W0 20 p10 := pure_ok fit (Known2.nil σ) (FnsOk.cons (pure_fn_ok (l0_ok hL)) ((q0_ok hL))) p10_run
noncomputable def h1 : H := hUpd h0 84 [] [(81, .map [(.str [97, 103, 97, 105, 110], I 0, 0)] 1),
  (47, .cells 1 ([[.str [108, 105]], [.str [114, 54]], [.str [49]]]) false)] []
noncomputable def h2 : H := hUpd h1 145 [] [] []
noncomputable def m11 : Memo := ⟨[.slice 47 0 3 3 1 false, .map 81], h1, .tuple [U 23068673, .inil], h2⟩
theorem m11_run : ranTo (evCall (cxX Tryz.prog bad [] [] q0) 1000 60 84 m11.args m11.h) m11.v m11.h' = true := by kernel_rfl
theorem m11_ok {σ : Nat → Int} {W0 : World} (hL : L0 W0) : MemoOk Tryz.prog 26623 σ W0 84 m11 := memo_ok fit (Known2.nil σ) ((q0_ok hL)) m11_run
noncomputable def h3 : H := hUpd h1 147 [47] [(60, .cells 1 ([[.str [97, 108, 117]], [.str [97, 100, 100]], [.str [114, 48]], [.str [114, 48]], [.str [114, 54]]]) false)] []
noncomputable def h4 : H := hUpd h3 234 [] [] []
noncomputable def m12 : Memo := ⟨[.slice 60 0 5 5 1 false, .map 81], h3, .tuple [U 50356224, .inil], h4⟩
theorem m12_run : ranTo (evCall (cxX Tryz.prog bad [] [] q0) 1000 60 84 m12.args m12.h) m12.v m12.h' = true := by kernel_rfl
theorem m12_ok {σ : Nat → Int} {W0 : World} (hL : L0 W0) : MemoOk Tryz.prog 26623 σ W0 84 m12 := memo_ok fit (Known2.nil σ) ((q0_ok hL)) m12_run
noncomputable def h5 : H := hUpd h1 236 [47] [(71, .cells 1 ([[.str [105, 110, 118]], [.str [114, 101, 116, 117, 114, 110]], [.str [107, 49, 53]], [.str [107, 48]]]) false)] []
noncomputable def h6 : H := hUpd h5 311 [] [] []
noncomputable def m13 : Memo := ⟨[.slice 71 0 4 4 1 false, .map 81], h5, .tuple [U 186580992, .inil], h6⟩
theorem m13_run : ranTo (evCall (cxX Tryz.prog bad [] [] q0) 1000 60 84 m13.args m13.h) m13.v m13.h' = true := by kernel_rfl
theorem m13_ok {σ : Nat → Int} {W0 : World} (hL : L0 W0) : MemoOk Tryz.prog 26623 σ W0 84 m13 := memo_ok fit (Known2.nil σ) ((q0_ok hL)) m13_run
noncomputable def h7 : H := hUpd h1 313 [47] [(78, .cells 1 ([[.str [106, 109, 112]], [.str [97, 103, 97, 105, 110]]]) false)] []
noncomputable def h8 : H := hUpd h7 363 [] [] []
noncomputable def m14 : Memo := ⟨[.slice 78 0 2 2 1 false, .map 81], h7, .tuple [U 67108864, .inil], h8⟩
theorem m14_run : ranTo (evCall (cxX Tryz.prog bad [] [] q0) 1000 60 84 m14.args m14.h) m14.v m14.h' = true := by kernel_rfl
theorem m14_ok {σ : Nat → Int} {W0 : World} (hL : L0 W0) : MemoOk Tryz.prog 26623 σ W0 84 m14 := memo_ok fit (Known2.nil σ) ((q0_ok hL)) m14_run
noncomputable def h9 : H := hUpd h0 35 [] [(34, .cells 1 ([[.str [97, 103, 97, 105, 110, 58]], [.str [108, 105, 32, 114, 54, 32, 49]], [.str [97, 108, 117, 32, 97, 100, 100, 32, 114, 48, 32, 114, 48, 32, 114, 54]], [.str [105, 110, 118, 32, 114, 101, 116, 117, 114, 110, 32, 107, 49, 53, 32, 107, 48]], [.str [106, 109, 112, 32, 97, 103, 97, 105, 110]]]) false)] []
noncomputable def h10 : H := hUpd h9 365 [] [(364, .cells 1 ([[U 23068673], [U 50356224], [U 186580992], [U 67108864]]) false)] []
noncomputable def m15 : Memo := ⟨[bF, I 5000, .snil, .slice 34 0 5 5 1 true], h9, .agg [.slice 364 0 4 4 1 false, I 5000, .snil, bF], h10⟩
noncomputable def l1 : List (Memo) := m14 :: m13 :: m12 :: m11 :: []
theorem l1_ok {σ : Nat → Int} {W0 : World} (hL : L0 W0) : ∀ x ∈ l1, MemoOk Tryz.prog 26623 σ W0 84 x := all_cons (m14_ok hL) (all_cons (m13_ok hL) (all_cons (m12_ok hL) (all_cons (m11_ok hL) (all_nil))))
theorem m15_run : ranTo (evCall (cxX Tryz.prog bad [] [] ((84, frameFn l1) :: q0)) 1000 60 9 m15.args m15.h) m15.v m15.h' = true := by kernel_rfl
theorem m15_ok {σ : Nat → Int} {W0 : World} (hL : L0 W0) : MemoOk Tryz.prog 26623 σ W0 9 m15 := memo_ok fit (Known2.nil σ) (FnsOk.cons (frame_fn_ok (l1_ok hL)) ((q0_ok hL))) m15_run
noncomputable def h11 : H := hUpd h0 427 [] [(425, .map [(.str [109, 111, 114, 101], I 1, 0)] 1),
  (375, .cells 1 ([[.str [108, 105]], [.str [114, 54]], [.str [49]]]) false)] []
noncomputable def h12 : H := hUpd h11 488 [] [] []
noncomputable def m16 : Memo := ⟨[.slice 375 0 3 3 1 false, .map 425], h11, .tuple [U 23068673, .inil], h12⟩
theorem m16_run : ranTo (evCall (cxX Tryz.prog bad [] [] q0) 1000 60 84 m16.args m16.h) m16.v m16.h' = true := by kernel_rfl
theorem m16_ok {σ : Nat → Int} {W0 : World} (hL : L0 W0) : MemoOk Tryz.prog 26623 σ W0 84 m16 := memo_ok fit (Known2.nil σ) ((q0_ok hL)) m16_run
noncomputable def h13 : H := hUpd h11 491 [375] [(391, .cells 1 ([[.str [105, 110, 118]], [.str [99, 97, 108, 108]], [.str [107, 54]], [.str [107, 55]]]) false)] []
noncomputable def h14 : H := hUpd h13 566 [] [] []
noncomputable def m17 : Memo := ⟨[.slice 391 0 4 4 1 false, .map 425], h13, .tuple [U 184971264, .inil], h14⟩
theorem m17_run : ranTo (evCall (cxX Tryz.prog bad [] [] q0) 1000 60 84 m17.args m17.h) m17.v m17.h' = true := by kernel_rfl
theorem m17_ok {σ : Nat → Int} {W0 : World} (hL : L0 W0) : MemoOk Tryz.prog 26623 σ W0 84 m17 := memo_ok fit (Known2.nil σ) ((q0_ok hL)) m17_run
noncomputable def h15 : H := hUpd h11 568 [375] [(404, .cells 1 ([[.str [97, 108, 117]], [.str [97, 100, 100]], [.str [114, 53]], [.str [114, 53]], [.str [114, 54]]]) false)] []
noncomputable def h16 : H := hUpd h15 655 [] [] []
noncomputable def m18 : Memo := ⟨[.slice 404 0 5 5 1 false, .map 425], h15, .tuple [U 55926784, .inil], h16⟩
theorem m18_run : ranTo (evCall (cxX Tryz.prog bad [] [] q0) 1000 60 84 m18.args m18.h) m18.v m18.h' = true := by kernel_rfl
theorem m18_ok {σ : Nat → Int} {W0 : World} (hL : L0 W0) : MemoOk Tryz.prog 26623 σ W0 84 m18 := memo_ok fit (Known2.nil σ) ((q0_ok hL)) m18_run
noncomputable def h17 : H := hUpd h11 657 [375] [(415, .cells 1 ([[.str [115, 97, 118, 101]], [.str [114, 53]], [.str [114, 51]], [.str [52, 48]]]) false)] []
noncomputable def h18 : H := hUpd h17 730 [] [] []
noncomputable def m19 : Memo := ⟨[.slice 415 0 4 4 1 false, .map 425], h17, .tuple [U 122880040, .inil], h18⟩
theorem m19_run : ranTo (evCall (cxX Tryz.prog bad [] [] q0) 1000 60 84 m19.args m19.h) m19.v m19.h' = true := by kernel_rfl
theorem m19_ok {σ : Nat → Int} {W0 : World} (hL : L0 W0) : MemoOk Tryz.prog 26623 σ W0 84 m19 := memo_ok fit (Known2.nil σ) ((q0_ok hL)) m19_run
noncomputable def h19 : H := hUpd h11 732 [375] [(422, .cells 1 ([[.str [106, 109, 112]], [.str [109, 111, 114, 101]]]) false)] []
noncomputable def h20 : H := hUpd h19 782 [] [] []
noncomputable def m20 : Memo := ⟨[.slice 422 0 2 2 1 false, .map 425], h19, .tuple [U 67108865, .inil], h20⟩
theorem m20_run : ranTo (evCall (cxX Tryz.prog bad [] [] q0) 1000 60 84 m20.args m20.h) m20.v m20.h' = true := by kernel_rfl
theorem m20_ok {σ : Nat → Int} {W0 : World} (hL : L0 W0) : MemoOk Tryz.prog 26623 σ W0 84 m20 := memo_ok fit (Known2.nil σ) ((q0_ok hL)) m20_run
noncomputable def h21 : H := hUpd h0 368 [] [(366, .cells 1 ([[I 0]]) false),
  (367, .cells 1 ([[.str [108, 105, 32, 114, 54, 32, 49]], [.str [109, 111, 114, 101, 58]], [.str [105, 110, 118, 32, 99, 97, 108, 108, 32, 107, 54, 32, 107, 55]], [.str [97, 108, 117, 32, 97, 100, 100, 32, 114, 53, 32, 114, 53, 32, 114, 54]], [.str [115, 97, 118, 101, 32, 114, 53, 32, 114, 51, 32, 52, 48]], [.str [106, 109, 112, 32, 109, 111, 114, 101]]]) false)] []
noncomputable def h22 : H := hUpd h21 784 [] [(783, .cells 1 ([[U 23068673], [U 184971264], [U 55926784], [U 122880040], [U 67108865]]) false)] []
noncomputable def m21 : Memo := ⟨[bT, I 5000, .slice 366 0 1 1 1 true, .slice 367 0 6 6 1 true], h21, .agg [.slice 783 0 5 5 1 false, I 5000, .slice 366 0 1 1 1 true, bT], h22⟩
noncomputable def l2 : List (Memo) := m20 :: m19 :: m18 :: m17 :: m16 :: []
theorem l2_ok {σ : Nat → Int} {W0 : World} (hL : L0 W0) : ∀ x ∈ l2, MemoOk Tryz.prog 26623 σ W0 84 x := all_cons (m20_ok hL) (all_cons (m19_ok hL) (all_cons (m18_ok hL) (all_cons (m17_ok hL) (all_cons (m16_ok hL) (all_nil)))))
theorem m21_run : ranTo (evCall (cxX Tryz.prog bad [] [] ((84, frameFn l2) :: q0)) 1000 60 9 m21.args m21.h) m21.v m21.h' = true := by kernel_rfl
theorem m21_ok {σ : Nat → Int} {W0 : World} (hL : L0 W0) : MemoOk Tryz.prog 26623 σ W0 9 m21 := memo_ok fit (Known2.nil σ) (FnsOk.cons (frame_fn_ok (l2_ok hL)) ((q0_ok hL))) m21_run
noncomputable def h23 : H := hUpd h10 874 [34] [(830, .cells 2 ([IZ (-1), I 2147483647] :: rp 11 ([I 0, I 0]) ([])) false),
  (798, .cells 3 ([[I 16, .snil, I 0]]) false),
  (822, .cells 1 ([[.snil]]) false),
  (790, .cells 1 ([[.slice 789 0 16 16 3 true]]) false),
  (838, .cells 1 ([[.slice 837 0 6 6 3 true]]) false),
  (794, .cells 1 ([[.slice 793 0 24 24 3 true]]) false),
  (810, .cells 1 ([[.snil]]) false),
  (842, .cells 9 ([[.ptr 799 0, .ptr 803 0, .ptr 831 0, .ptr 836 0, .ptr 840 0, .ptr 841 0, .snil, .snil, I 0]]) false),
  (802, .cells 107 (rp 8 (rp 9 (U 0) (rp 6 (I 0) ((U 0) :: rp 4 (I 0) ((U 0) :: rp 4 (I 0) ((U 0) :: rp 4 (I 0) ((U 0) :: rp 4 (I 0) ((U 0) :: rp 4 (I 0) ((U 0) :: rp 4 (I 0) ((U 0) :: rp 4 (I 0) ((U 0) :: rp 4 (I 0) ((U 0) :: rp 4 (I 0) ((U 0) :: rp 4 (I 0) ((U 0) :: rp 4 (I 0) ((U 0) :: rp 4 (I 0) ((U 0) :: rp 4 (I 0) ((U 0) :: rp 4 (I 0) ((U 0) :: rp 4 (I 0) ((U 0) :: rp 4 (I 0) ((U 0) :: rp 4 (I 0) ((U 0) :: rp 4 (I 0) ([U 0, I 0]))))))))))))))))))))) ([])) false),
  (834, .cells 3 ([IZ (-1), I 60, I 0] :: rp 7 ([I 0, I 0, I 0]) ([])) false),
  (828, .cells 3 ([bT, I 0, bF] :: rp 11 ([bF, I 0, bF]) ([])) false),
  (796, .cells 2 ([[.ptr 794 0, .slice 795 0 24 24 32 true]]) false),
  (804, .cells 1 ([[.snil]]) false),
  (836, .cells 5 ([[.ptr 833 0, .slice 834 0 8 8 3 true, .map 835, .ptr 799 0, .ptr 803 0]]) false),
  (792, .cells 2 ([[.ptr 790 0, .slice 791 0 16 16 80 true]]) false),
  (840, .cells 2 ([[.ptr 838 0, .slice 839 0 6 6 31 true]]) false),
  (816, .cells 1 ([[.snil]]) false),
  (800, .cells 3 (rp 8 ([bF, I 0, bF]) ([])) false),
  (832, .cells 3 ([bT, I 0, bF] :: rp 7 ([bF, I 0, bF]) ([])) false),
  (829, .cells 1 ([[.slice 828 0 12 12 3 true]]) false),
  (797, .cells 2 ([[.ptr 792 0, .ptr 796 0]]) false),
  (813, .cells 1 ([[.snil]]) false),
  (789, .cells 3 (rp 16 ([bF, I 0, bF]) ([])) false),
  (837, .cells 3 (rp 6 ([bF, I 0, bF]) ([])) false),
  (825, .cells 1 ([[.snil]]) false),
  (793, .cells 3 (rp 24 ([bF, I 0, bF]) ([])) false),
  (841, .cells 1 ([[.snil]]) false),
  (801, .cells 1 ([[.slice 800 0 8 8 3 true]]) false),
  (833, .cells 1 ([[.slice 832 0 8 8 3 true]]) false),
  (827, .cells 1 ([[.ptr 804 0], [.ptr 807 0], [.ptr 810 0], [.ptr 813 0], [.ptr 816 0], [.ptr 819 0], [.ptr 822 0], [.ptr 825 0]]) false),
  (795, .cells 32 (rp 24 (rp 32 (U 0) ([])) ([])) false),
  (819, .cells 1 ([[.snil]]) false),
  (803, .cells 3 ([[.ptr 801 0, .slice 802 0 8 8 107 true, .slice 827 0 8 8 1 false]]) false),
  (835, .map [] 0),
  (791, .cells 80 (rp 16 (rp 4 (I 0) ((U 0) :: rp 4 (I 0) ((U 0) :: rp 4 (I 0) ((U 0) :: rp 4 (I 0) ((U 0) :: rp 4 (I 0) ((U 0) :: rp 4 (I 0) ((U 0) :: rp 4 (I 0) ((U 0) :: rp 4 (I 0) ((U 0) :: rp 4 (I 0) ((U 0) :: rp 4 (I 0) ((U 0) :: rp 4 (I 0) ((U 0) :: rp 4 (I 0) ((U 0) :: rp 4 (I 0) ((U 0) :: rp 4 (I 0) ((U 0) :: rp 4 (I 0) ((U 0) :: rp 4 (I 0) ([U 0]))))))))))))))))) ([])) false),
  (807, .cells 1 ([[.snil]]) false),
  (839, .cells 31 (rp 6 ((bF) :: rp 4 (I 0) ((U 0) :: rp 4 (I 0) ((U 0) :: rp 4 (I 0) ((U 0) :: rp 4 (I 0) ((U 0) :: rp 4 (I 0) ((U 0) :: rp 4 (I 0) ([U 0]))))))) ([])) false),
  (799, .cells 3 ([[.ptr 797 0, I 16, .ptr 798 0]]) false),
  (831, .cells 2 ([[.ptr 829 0, .slice 830 0 12 12 2 true]]) false)] []
noncomputable def h24 : H := hUpc h23 1349 [] [(835, .map [(.agg [I 3, I 0], .agg [I 0, I 0], 0), (.agg [I 3, I 1], .agg [I 0, I 0], 1), (.agg [I 2, I 0], .agg [I 0, I 0], 2), (.agg [I 4, I 0], .agg [I 0, I 0], 3)] 4)] [(830, 1, [I 0, I 5000]),
  (834, 0, [IZ (-1), I 60, I 4]),
  (828, 1, [bT, I 0, bF]),
  (800, 0, [bT, I 0, bF]),
  (789, 0, [bT, I 0, bF]),
  (793, 0, [bT, I 0, bF]),
  (793, 1, [bT, I 0, bF])] [(802, 0, 9, I 1), (802, 0, 11, I 8), (802, 0, 16, I 7), (802, 0, 17, I 1), (802, 0, 21, I 11), (802, 0, 26, I 12), (802, 0, 31, I 13), (802, 0, 36, I 14), (802, 0, 91, I 2), (802, 0, 95, U 1), (802, 0, 96, I 7), (802, 0, 97, I 1), (795, 0, 0, U 23068673), (795, 0, 1, U 50356224), (795, 0, 2, U 186580992), (795, 0, 3, U 67108864), (791, 0, 0, I 3), (791, 0, 5, I 3), (791, 0, 6, I 1)]
noncomputable def m22 : Memo := ⟨[.ptr 842 0, .agg [.slice 364 0 4 4 1 false, I 5000, .snil, bF]], h23, .tuple [I 0, .inil], h24⟩
theorem m22_run : ranTo (evCall (cxX Tryz.prog bad [] [] ((44, pureFn l0) :: q0)) 1000 60 88 m22.args m22.h) m22.v m22.h' = true := by kernel_rfl
theorem m22_ok {σ : Nat → Int} {W0 : World} (hL : L0 W0) : MemoOk Tryz.prog 26623 σ W0 88 m22 := memo_ok fit (Known2.nil σ) (FnsOk.cons (pure_fn_ok (l0_ok hL)) ((q0_ok hL))) m22_run
noncomputable def p23 : Pur := ([.agg [I 3, I 2, I 0, I 0, U 0]], .inil, 1048576)
theorem p23_run : ranPure (evCall (cxX Tryz.prog bad [] [] q0) 1000 60 44 p23.1 ⟨.lf, p23.2.2⟩) p23.2.1 = true := by kernel_rfl
theorem p23_ok {σ : Nat → Int} {W0 : World} (hL : L0 W0) : PureOk Tryz.prog 26623 σ W0 44 p23 := pure_ok fit (Known2.nil σ) ((q0_ok hL)) p23_run
noncomputable def p24 : Pur := ([.agg [I 3, I 3, I 0, I 0, U 0]], .inil, 1048576)
theorem p24_run : ranPure (evCall (cxX Tryz.prog bad [] [] q0) 1000 60 44 p24.1 ⟨.lf, p24.2.2⟩) p24.2.1 = true := by kernel_rfl
theorem p24_ok {σ : Nat → Int} {W0 : World} (hL : L0 W0) : PureOk Tryz.prog 26623 σ W0 44 p24 := pure_ok fit (Known2.nil σ) ((q0_ok hL)) p24_run
noncomputable def p25 : Pur := ([.agg [I 2, I 1, I 0, I 0, U 1]], .inil, 1048576)
theorem p25_run : ranPure (evCall (cxX Tryz.prog bad [] [] q0) 1000 60 44 p25.1 ⟨.lf, p25.2.2⟩) p25.2.1 = true := by kernel_rfl
theorem p25_ok {σ : Nat → Int} {W0 : World} (hL : L0 W0) : PureOk Tryz.prog 26623 σ W0 44 p25 := pure_ok fit (Known2.nil σ) ((q0_ok hL)) p25_run
noncomputable def p26 : Pur := ([.agg [I 7, I 2, I 0, I 0, U 0]], .inil, 1048576)
theorem p26_run : ranPure (evCall (cxX Tryz.prog bad [] [] q0) 1000 60 44 p26.1 ⟨.lf, p26.2.2⟩) p26.2.1 = true := by kernel_rfl
theorem p26_ok {σ : Nat → Int} {W0 : World} (hL : L0 W0) : PureOk Tryz.prog 26623 σ W0 44 p26 := pure_ok fit (Known2.nil σ) ((q0_ok hL)) p26_run
noncomputable def h25 : H := hUpd h24 1352 [364] [(366, .cells 1 ([[I 0]]) false),
  (783, .cells 1 ([[U 23068673], [U 184971264], [U 55926784], [U 122880040], [U 67108865]]) false)] []
noncomputable def h26 : H := hUpc h25 1827 [] [(835, .map [(.agg [I 3, I 0], .agg [I 0, I 0], 0), (.agg [I 3, I 1], .agg [I 0, I 0], 1), (.agg [I 2, I 0], .agg [I 0, I 0], 2), (.agg [I 4, I 0], .agg [I 0, I 0], 3), (.agg [I 3, I 2], .agg [I 0, I 0], 4), (.agg [I 3, I 3], .agg [I 0, I 0], 5), (.agg [I 2, I 1], .agg [I 0, I 0], 6), (.agg [I 4, I 1], .agg [I 0, I 0], 7)] 8)] [(830, 2, [I 0, I 5000]),
  (834, 0, [IZ (-1), I 60, I 8]),
  (828, 2, [bT, I 0, bF]),
  (800, 1, [bT, I 0, bF]),
  (789, 1, [bT, I 0, bF]),
  (793, 2, [bT, I 0, bF]),
  (793, 3, [bT, I 0, bF])] [(802, 1, 9, I 1), (802, 1, 11, I 8), (802, 1, 16, I 7), (802, 1, 17, I 2), (802, 1, 21, I 11), (802, 1, 26, I 12), (802, 1, 31, I 13), (802, 1, 36, I 14), (802, 1, 91, I 2), (802, 1, 92, I 1), (802, 1, 95, U 1), (802, 1, 96, I 7), (802, 1, 97, I 2), (795, 2, 0, U 23068673), (795, 2, 1, U 184971264), (795, 2, 2, U 55926784), (795, 2, 3, U 122880040), (795, 2, 4, U 67108865), (791, 1, 0, I 3), (791, 1, 1, I 2), (791, 1, 5, I 3), (791, 1, 6, I 3)]
noncomputable def m27 : Memo := ⟨[.ptr 842 0, .agg [.slice 783 0 5 5 1 false, I 5000, .slice 366 0 1 1 1 true, bT]], h25, .tuple [I 1, .inil], h26⟩
noncomputable def l3 : List (Pur) := p9 :: p8 :: p7 :: p6 :: p26 :: p4 :: p25 :: p2 :: p24 :: p23 :: []
theorem l3_ok {σ : Nat → Int} {W0 : World} (hL : L0 W0) : ∀ x ∈ l3, PureOk Tryz.prog 26623 σ W0 44 x := all_cons (p9_ok hL) (all_cons (p8_ok hL) (all_cons (p7_ok hL) (all_cons (p6_ok hL) (all_cons (p26_ok hL) (all_cons (p4_ok hL) (all_cons (p25_ok hL) (all_cons (p2_ok hL) (all_cons (p24_ok hL) (all_cons (p23_ok hL) (all_nil))))))))))
theorem m27_run : ranTo (evCall (cxX Tryz.prog bad [] [] ((44, pureFn l3) :: q0)) 1000 60 88 m27.args m27.h) m27.v m27.h' = true := by kernel_rfl
theorem m27_ok {σ : Nat → Int} {W0 : World} (hL : L0 W0) : MemoOk Tryz.prog 26623 σ W0 88 m27 := memo_ok fit (Known2.nil σ) (FnsOk.cons (pure_fn_ok (l3_ok hL)) ((q0_ok hL))) m27_run
noncomputable def p28 : Pur := ([.agg [I 5, I 0, I 0, I 0, U 1]], .inil, 1048576)
theorem p28_run : ranPure (evCall (cxX Tryz.prog bad [] [] q0) 1000 60 44 p28.1 ⟨.lf, p28.2.2⟩) p28.2.1 = true := by kernel_rfl
theorem p28_ok {σ : Nat → Int} {W0 : World} (hL : L0 W0) : PureOk Tryz.prog 26623 σ W0 44 p28 := pure_ok fit (Known2.nil σ) ((q0_ok hL)) p28_run
noncomputable def h27 : H := hUpd h22 786 [367] [(364, .cells 1 ([[U 23068673], [U 50356224], [U 186580992], [U 67108864]]) false),
  (785, .cells 4 ([[.slice 364 0 4 4 1 false, I 5000, .snil, bF], [.slice 783 0 5 5 1 false, I 5000, .slice 366 0 1 1 1 true, bT]]) false)] []
noncomputable def h28 : H := hUpc h26 2069 [] [(364, .cells 1 ([[U 23068673], [U 50356224], [U 186580992], [U 67108864]]) false),
  (2068, .cells 1 ([[I 1]]) false),
  (785, .cells 4 ([[.slice 364 0 4 4 1 false, I 5000, .snil, bF], [.slice 783 0 5 5 1 false, I 5000, .slice 366 0 1 1 1 true, bT]]) false)] [(841, 0, [.slice 2068 0 1 1 1 false])] [(802, 1, 9, I 3), (802, 1, 41, I 5), (802, 1, 45, U 1)]
noncomputable def m29 : Memo := ⟨[.slice 785 0 2 2 4 true], h27, .ptr 842 0, h28⟩
noncomputable def l4 : List (Pur) := p25 :: p28 :: p26 :: p3 :: p2 :: p9 :: p8 :: p7 :: p6 :: p5 :: p4 :: []
theorem l4_ok {σ : Nat → Int} {W0 : World} (hL : L0 W0) : ∀ x ∈ l4, PureOk Tryz.prog 26623 σ W0 44 x := all_cons (p25_ok hL) (all_cons (p28_ok hL) (all_cons (p26_ok hL) (all_cons (p3_ok hL) (all_cons (p2_ok hL) (all_cons (p9_ok hL) (all_cons (p8_ok hL) (all_cons (p7_ok hL) (all_cons (p6_ok hL) (all_cons (p5_ok hL) (all_cons (p4_ok hL) (all_nil)))))))))))
theorem m29_run : ranTo (evCall (cxX Tryz.prog bad [] [] ((44, pureFn l4) :: (88, frameFn [m22, m27]) :: q0)) 1000 60 14 m29.args m29.h) m29.v m29.h' = true := by kernel_rfl
theorem m29_ok {σ : Nat → Int} {W0 : World} (hL : L0 W0) : MemoOk Tryz.prog 26623 σ W0 14 m29 := memo_ok fit (Known2.nil σ) (FnsOk.cons (pure_fn_ok (l4_ok hL)) (FnsOk.cons (frame_fn_ok (all_cons (m22_ok hL) (all_cons (m27_ok hL) (all_nil)))) ((q0_ok hL)))) m29_run
noncomputable def h29 : H := hUpd h28 2100 [366, 364, 785, 783] [] []
noncomputable def h30 : H := hUpd h29 2190 [] [] [(834, 1, [I 0, I 12, I 0]),
  (832, 1, [bT, I 0, bF])]
noncomputable def m30 : Memo := ⟨[.ptr 842 0, .agg [I 8, I 0, I 0, I 0, U 0], .agg [U 2, U 12, U 0, U 0, I 0, I 0, I 0, I 0, U 0, I 0, I 0, I 0, I 0, U 0, I 0, I 0, I 0, I 0, U 0]], h29, .tuple [.agg [U 0, U 0, U 0, U 0, I 8, I 1, I 0, I 0, U 0, I 0, I 0, I 0, I 0, U 0, I 0, I 0, I 0, I 0, U 0], bT], h30⟩
theorem m30_run : ranTo (evCall (cxX Tryz.prog bad [] [] ((44, pureFn [p4, p2]) :: q0)) 1000 60 66 m30.args m30.h) m30.v m30.h' = true := by kernel_rfl
theorem m30_ok {σ : Nat → Int} {W0 : World} (hL : L0 W0) : MemoOk Tryz.prog 26623 σ W0 66 m30 := memo_ok fit (Known2.nil σ) (FnsOk.cons (pure_fn_ok (all_cons (p4_ok hL) (all_cons (p2_ok hL) (all_nil)))) ((q0_ok hL))) m30_run
noncomputable def p31 : Pur := ([.agg [I 7, I 0, I 0, I 0, U 0]], .inil, 1048576)
theorem p31_run : ranPure (evCall (cxX Tryz.prog bad [] [] q0) 1000 60 44 p31.1 ⟨.lf, p31.2.2⟩) p31.2.1 = true := by kernel_rfl
theorem p31_ok {σ : Nat → Int} {W0 : World} (hL : L0 W0) : PureOk Tryz.prog 26623 σ W0 44 p31 := pure_ok fit (Known2.nil σ) ((q0_ok hL)) p31_run
noncomputable def h31 : H := hUpd h30 2231 [] [] []
noncomputable def h32 : H := hUpd h30 2321 [] [] [(830, 3, [I 0, I 3000]),
  (828, 3, [bT, I 0, bF])]
noncomputable def m32 : Memo := ⟨[.ptr 842 0, .agg [I 7, I 0, I 0, I 0, U 0], .agg [U 2, U 3000, U 0, U 0, I 0, I 0, I 0, I 0, U 0, I 0, I 0, I 0, I 0, U 0, I 0, I 0, I 0, I 0, U 0]], h31, .tuple [.agg [U 0, U 0, U 0, U 0, I 7, I 3, I 0, I 0, U 0, I 0, I 0, I 0, I 0, U 0, I 0, I 0, I 0, I 0, U 0], bT], h32⟩
theorem m32_run : ranTo (evCall (cxX Tryz.prog bad [] [] ((44, pureFn [p31, p2]) :: q0)) 1000 60 66 m32.args m32.h) m32.v m32.h' = true := by kernel_rfl
theorem m32_ok {σ : Nat → Int} {W0 : World} (hL : L0 W0) : MemoOk Tryz.prog 26623 σ W0 66 m32 := memo_ok fit (Known2.nil σ) (FnsOk.cons (pure_fn_ok (all_cons (p31_ok hL) (all_cons (p2_ok hL) (all_nil)))) ((q0_ok hL))) m32_run
noncomputable def h33 : H := hUpc h32 2389 [] [(835, .map [(.agg [I 3, I 0], .agg [I 0, I 0], 0), (.agg [I 3, I 1], .agg [I 0, I 0], 1), (.agg [I 2, I 0], .agg [I 0, I 0], 2), (.agg [I 4, I 0], .agg [I 0, I 0], 3), (.agg [I 3, I 2], .agg [I 0, I 0], 4), (.agg [I 3, I 3], .agg [I 0, I 0], 5), (.agg [I 2, I 1], .agg [I 0, I 0], 6), (.agg [I 4, I 1], .agg [I 0, I 0], 7), (.agg [I 3, I 4], .agg [I 0, I 0], 8)] 9)] [(834, 0, [IZ (-1), I 60, I 9]),
  (793, 4, [bT, I 0, bF])] [(795, 4, 0, U 218103808)]
noncomputable def h34 : H := hUpd h33 2457 [] [] [(837, 0, [bT, I 0, bF])]
noncomputable def m33 : Memo := ⟨[.ptr 842 0, .agg [I 11, I 0, I 0, I 0, U 0], .agg [U 0, U 0, U 0, U 0, I 0, I 0, I 0, I 0, U 0, I 0, I 0, I 0, I 0, U 0, I 0, I 0, I 0, I 0, U 0]], h33, .tuple [.agg [U 0, U 0, U 0, U 0, I 10, I 0, I 0, I 0, U 0, I 0, I 0, I 0, I 0, U 0, I 0, I 0, I 0, I 0, U 0], bT], h34⟩
theorem m33_run : ranTo (evCall (cxX Tryz.prog bad [] [] ((44, pureFn [p6, p2]) :: q0)) 1000 60 66 m33.args m33.h) m33.v m33.h' = true := by kernel_rfl
theorem m33_ok {σ : Nat → Int} {W0 : World} (hL : L0 W0) : MemoOk Tryz.prog 26623 σ W0 66 m33 := memo_ok fit (Known2.nil σ) (FnsOk.cons (pure_fn_ok (all_cons (p6_ok hL) (all_cons (p2_ok hL) (all_nil)))) ((q0_ok hL))) m33_run
noncomputable def p34 : Pur := ([.agg [I 10, I 0, I 0, I 0, U 0]], .inil, 1048576)
theorem p34_run : ranPure (evCall (cxX Tryz.prog bad [] [] q0) 1000 60 44 p34.1 ⟨.lf, p34.2.2⟩) p34.2.1 = true := by kernel_rfl
theorem p34_ok {σ : Nat → Int} {W0 : World} (hL : L0 W0) : PureOk Tryz.prog 26623 σ W0 44 p34 := pure_ok fit (Known2.nil σ) ((q0_ok hL)) p34_run
noncomputable def p35 : Pur := ([.agg [I 3, I 4, I 0, I 5, U 0]], .inil, 1048576)
theorem p35_run : ranPure (evCall (cxX Tryz.prog bad [] [] q0) 1000 60 44 p35.1 ⟨.lf, p35.2.2⟩) p35.2.1 = true := by kernel_rfl
theorem p35_ok {σ : Nat → Int} {W0 : World} (hL : L0 W0) : PureOk Tryz.prog 26623 σ W0 44 p35 := pure_ok fit (Known2.nil σ) ((q0_ok hL)) p35_run
noncomputable def h35 : H := hUpd h34 2475 [] [] []
noncomputable def h36 : H := hUpc h34 2578 [] [] [] [(839, 0, 1, I 3), (839, 0, 2, I 4), (839, 0, 4, I 5)]
noncomputable def m36 : Memo := ⟨[.ptr 842 0, .agg [I 10, I 0, I 0, I 0, U 0], .agg [U 0, U 0, U 0, U 0, I 3, I 4, I 0, I 5, U 0, I 0, I 0, I 0, I 0, U 0, I 0, I 0, I 0, I 0, U 0]], h35, .tuple [.agg [U 0, U 0, U 0, U 0, I 0, I 0, I 0, I 0, U 0, I 0, I 0, I 0, I 0, U 0, I 0, I 0, I 0, I 0, U 0], bT], h36⟩
theorem m36_run : ranTo (evCall (cxX Tryz.prog bad [] [] ((44, pureFn [p34, p35, p2]) :: q0)) 1000 60 66 m36.args m36.h) m36.v m36.h' = true := by kernel_rfl
theorem m36_ok {σ : Nat → Int} {W0 : World} (hL : L0 W0) : MemoOk Tryz.prog 26623 σ W0 66 m36 := memo_ok fit (Known2.nil σ) (FnsOk.cons (pure_fn_ok (all_cons (p34_ok hL) (all_cons (p35_ok hL) (all_cons (p2_ok hL) (all_nil))))) ((q0_ok hL))) m36_run
noncomputable def h37 : H := hUpd h36 2583 [] [] []
noncomputable def h38 : H := hUpc h36 2669 [] [] [] [(839, 0, 0, bT)]
noncomputable def m37 : Memo := ⟨[.ptr 842 0, .agg [I 10, I 0, I 0, I 0, U 0], .agg [U 1, U 0, U 0, U 0, I 0, I 0, I 0, I 0, U 0, I 0, I 0, I 0, I 0, U 0, I 0, I 0, I 0, I 0, U 0]], h37, .tuple [.agg [U 0, U 0, U 0, U 0, I 9, I 0, I 0, I 0, U 0, I 0, I 0, I 0, I 0, U 0, I 0, I 0, I 0, I 0, U 0], bT], h38⟩
theorem m37_run : ranTo (evCall (cxX Tryz.prog bad [] [] ((44, pureFn [p34, p2]) :: q0)) 1000 60 66 m37.args m37.h) m37.v m37.h' = true := by kernel_rfl
theorem m37_ok {σ : Nat → Int} {W0 : World} (hL : L0 W0) : MemoOk Tryz.prog 26623 σ W0 66 m37 := memo_ok fit (Known2.nil σ) (FnsOk.cons (pure_fn_ok (all_cons (p34_ok hL) (all_cons (p2_ok hL) (all_nil)))) ((q0_ok hL))) m37_run
noncomputable def p38 : Pur := ([.agg [I 9, I 0, I 0, I 0, U 0]], .inil, 1048576)
theorem p38_run : ranPure (evCall (cxX Tryz.prog bad [] [] q0) 1000 60 44 p38.1 ⟨.lf, p38.2.2⟩) p38.2.1 = true := by kernel_rfl
theorem p38_ok {σ : Nat → Int} {W0 : World} (hL : L0 W0) : PureOk Tryz.prog 26623 σ W0 44 p38 := pure_ok fit (Known2.nil σ) ((q0_ok hL)) p38_run
noncomputable def h39 : H := hUpd h38 2675 [] [] []
noncomputable def h40 : H := hUpd h38 2877 [] [] []
noncomputable def m39 : Memo := ⟨[.ptr 842 0, .agg [I 9, I 0, I 0, I 0, U 0], .agg [U 0, U 0, U 0, U 0, I 0, I 0, I 0, I 0, U 0, I 0, I 0, I 0, I 0, U 0, I 0, I 0, I 0, I 0, U 0]], h39, .tuple [.agg [U 0, U 0, U 1, U 0, I 0, I 0, I 0, I 0, U 0, I 0, I 0, I 0, I 0, U 0, I 0, I 0, I 0, I 0, U 0], bT], h40⟩
theorem m39_run : ranTo (evCall (cxX Tryz.prog bad [] [] ((44, pureFn [p38, p2]) :: q0)) 1000 60 66 m39.args m39.h) m39.v m39.h' = true := by kernel_rfl
theorem m39_ok {σ : Nat → Int} {W0 : World} (hL : L0 W0) : MemoOk Tryz.prog 26623 σ W0 66 m39 := memo_ok fit (Known2.nil σ) (FnsOk.cons (pure_fn_ok (all_cons (p38_ok hL) (all_cons (p2_ok hL) (all_nil)))) ((q0_ok hL))) m39_run
noncomputable def p40 : Pur := ([.agg [I 8, I 1, I 0, I 0, U 0]], .inil, 1048576)
theorem p40_run : ranPure (evCall (cxX Tryz.prog bad [] [] q0) 1000 60 44 p40.1 ⟨.lf, p40.2.2⟩) p40.2.1 = true := by kernel_rfl
theorem p40_ok {σ : Nat → Int} {W0 : World} (hL : L0 W0) : PureOk Tryz.prog 26623 σ W0 44 p40 := pure_ok fit (Known2.nil σ) ((q0_ok hL)) p40_run
noncomputable def p41 : Pur := ([.agg [I 7, I 3, I 0, I 0, U 0]], .inil, 1048576)
theorem p41_run : ranPure (evCall (cxX Tryz.prog bad [] [] q0) 1000 60 44 p41.1 ⟨.lf, p41.2.2⟩) p41.2.1 = true := by kernel_rfl
theorem p41_ok {σ : Nat → Int} {W0 : World} (hL : L0 W0) : PureOk Tryz.prog 26623 σ W0 44 p41 := pure_ok fit (Known2.nil σ) ((q0_ok hL)) p41_run
noncomputable def p42 : Pur := ([.agg [I 3, I 5, I 0, I 0, U 0]], .inil, 1048576)
theorem p42_run : ranPure (evCall (cxX Tryz.prog bad [] [] q0) 1000 60 44 p42.1 ⟨.lf, p42.2.2⟩) p42.2.1 = true := by kernel_rfl
theorem p42_ok {σ : Nat → Int} {W0 : World} (hL : L0 W0) : PureOk Tryz.prog 26623 σ W0 44 p42 := pure_ok fit (Known2.nil σ) ((q0_ok hL)) p42_run
noncomputable def p43 : Pur := ([.agg [I 3, I 6, I 0, I 0, U 0]], .inil, 1048576)
theorem p43_run : ranPure (evCall (cxX Tryz.prog bad [] [] q0) 1000 60 44 p43.1 ⟨.lf, p43.2.2⟩) p43.2.1 = true := by kernel_rfl
theorem p43_ok {σ : Nat → Int} {W0 : World} (hL : L0 W0) : PureOk Tryz.prog 26623 σ W0 44 p43 := pure_ok fit (Known2.nil σ) ((q0_ok hL)) p43_run
noncomputable def p44 : Pur := ([.agg [I 2, I 2, I 0, I 0, U 1]], .inil, 1048576)
theorem p44_run : ranPure (evCall (cxX Tryz.prog bad [] [] q0) 1000 60 44 p44.1 ⟨.lf, p44.2.2⟩) p44.2.1 = true := by kernel_rfl
theorem p44_ok {σ : Nat → Int} {W0 : World} (hL : L0 W0) : PureOk Tryz.prog 26623 σ W0 44 p44 := pure_ok fit (Known2.nil σ) ((q0_ok hL)) p44_run
noncomputable def h41 : H := hUpd h38 2896 [] [] []
noncomputable def h42 : H := hUpc h38 3703 [] [(835, .map [(.agg [I 3, I 0], .agg [I 0, I 0], 0), (.agg [I 3, I 1], .agg [I 0, I 0], 1), (.agg [I 2, I 0], .agg [I 0, I 0], 2), (.agg [I 4, I 0], .agg [I 0, I 0], 3), (.agg [I 3, I 2], .agg [I 0, I 0], 4), (.agg [I 3, I 3], .agg [I 0, I 0], 5), (.agg [I 2, I 1], .agg [I 0, I 0], 6), (.agg [I 4, I 1], .agg [I 0, I 0], 7), (.agg [I 3, I 4], .agg [I 0, I 0], 8), (.agg [I 3, I 5], .agg [I 1, I 0], 9), (.agg [I 3, I 6], .agg [I 1, I 0], 10), (.agg [I 2, I 2], .agg [I 1, I 0], 11), (.agg [I 4, I 2], .agg [I 1, I 0], 12)] 13)] [(834, 0, [IZ (-1), I 60, I 13]),
  (834, 1, [I 0, I 12, I 4]),
  (800, 2, [bT, I 0, bF]),
  (789, 2, [bT, I 0, bF]),
  (793, 5, [bT, I 0, bF]),
  (793, 6, [bT, I 0, bF])] [(802, 2, 9, I 1), (802, 2, 11, I 8), (802, 2, 12, I 1), (802, 2, 16, I 7), (802, 2, 17, I 3), (802, 2, 91, I 2), (802, 2, 92, I 2), (802, 2, 95, U 1), (802, 2, 96, I 7), (802, 2, 97, I 3), (795, 5, 0, U 218103808), (791, 2, 0, I 3), (791, 2, 1, I 5), (791, 2, 5, I 3), (791, 2, 6, I 6)]
noncomputable def m45 : Memo := ⟨[.ptr 842 0, .agg [I 9, I 0, I 0, I 0, U 0], .agg [U 1, U 0, U 0, U 0, I 8, I 1, I 0, I 0, U 0, I 7, I 3, I 0, I 0, U 0, I 0, I 0, I 0, I 0, U 0]], h41, .tuple [.agg [U 0, U 0, U 0, U 0, I 5, I 2, I 0, I 0, U 0, I 0, I 0, I 0, I 0, U 0, I 0, I 0, I 0, I 0, U 0], bT], h42⟩
noncomputable def l5 : List (Pur) := p44 :: p43 :: p42 :: p35 :: p2 :: p41 :: p40 :: p38 :: []
theorem l5_ok {σ : Nat → Int} {W0 : World} (hL : L0 W0) : ∀ x ∈ l5, PureOk Tryz.prog 26623 σ W0 44 x := all_cons (p44_ok hL) (all_cons (p43_ok hL) (all_cons (p42_ok hL) (all_cons (p35_ok hL) (all_cons (p2_ok hL) (all_cons (p41_ok hL) (all_cons (p40_ok hL) (all_cons (p38_ok hL) (all_nil))))))))
theorem m45_run : ranTo (evCall (cxX Tryz.prog bad [] [] ((44, pureFn l5) :: q0)) 1000 60 66 m45.args m45.h) m45.v m45.h' = true := by kernel_rfl
theorem m45_ok {σ : Nat → Int} {W0 : World} (hL : L0 W0) : MemoOk Tryz.prog 26623 σ W0 66 m45 := memo_ok fit (Known2.nil σ) (FnsOk.cons (pure_fn_ok (l5_ok hL)) ((q0_ok hL))) m45_run
noncomputable def p46 : Pur := ([.agg [I 4, I 2, I 0, I 0, U 0]], .inil, 1048576)
theorem p46_run : ranPure (evCall (cxX Tryz.prog bad [] [] q0) 1000 60 44 p46.1 ⟨.lf, p46.2.2⟩) p46.2.1 = true := by kernel_rfl
theorem p46_ok {σ : Nat → Int} {W0 : World} (hL : L0 W0) : PureOk Tryz.prog 26623 σ W0 44 p46 := pure_ok fit (Known2.nil σ) ((q0_ok hL)) p46_run
noncomputable def h43 : H := hUpd h42 3720 [] [] []
noncomputable def h44 : H := hUpc h42 3815 [2068] [(3761, .cells 1 ([[I 1], [I 2]]) false)] [(841, 0, [.slice 3761 0 2 2 1 false])] [(802, 2, 9, I 3)]
noncomputable def m47 : Memo := ⟨[.ptr 842 0, .agg [I 4, I 2, I 0, I 0, U 0], .agg [U 7, U 0, U 0, U 0, I 0, I 0, I 0, I 0, U 0, I 0, I 0, I 0, I 0, U 0, I 0, I 0, I 0, I 0, U 0]], h43, .tuple [.agg [U 0, U 0, U 0, U 0, I 0, I 0, I 0, I 0, U 0, I 0, I 0, I 0, I 0, U 0, I 0, I 0, I 0, I 0, U 0], bT], h44⟩
noncomputable def l6 : List (Pur) := p44 :: p41 :: p40 :: p2 :: p46 :: []
theorem l6_ok {σ : Nat → Int} {W0 : World} (hL : L0 W0) : ∀ x ∈ l6, PureOk Tryz.prog 26623 σ W0 44 x := all_cons (p44_ok hL) (all_cons (p41_ok hL) (all_cons (p40_ok hL) (all_cons (p2_ok hL) (all_cons (p46_ok hL) (all_nil)))))
theorem m47_run : ranTo (evCall (cxX Tryz.prog bad [] [] ((44, pureFn l6) :: q0)) 1000 60 66 m47.args m47.h) m47.v m47.h' = true := by kernel_rfl
theorem m47_ok {σ : Nat → Int} {W0 : World} (hL : L0 W0) : MemoOk Tryz.prog 26623 σ W0 66 m47 := memo_ok fit (Known2.nil σ) (FnsOk.cons (pure_fn_ok (l6_ok hL)) ((q0_ok hL))) m47_run
noncomputable def h45 : H := hUpd h44 3827 [] [] []
noncomputable def h46 : H := hUpc h44 4131 [] [(4046, .cells 10 ([[I 2, I 2, I 0, I 0, U 1, U 0, .slice 4013 0 1 1 1 false, I 5, I 0, bF]]) false),
  (4013, .cells 1 ([[I 2]]) false)] [(830, 0, [IZ (-1), I 2147483646]),
  (830, 3, [I 0, I 2999]),
  (798, 0, [I 16, .slice 4046 0 1 1 10 false, I 0]),
  (841, 0, [.slice 3761 0 1 2 1 false]),
  (3761, 1, [I 0])] [(842, 0, 8, I 1), (802, 2, 8, U 1), (802, 2, 9, I 4)]
noncomputable def m48 : Memo := ⟨[.ptr 842 0, I 1], h45, .agg [I 2, I 4, I 0, U 0, I 0, U 0, IZ (-1), I 0], h46⟩
noncomputable def l7 : List (Pur) := p44 :: p2 :: p40 :: p41 :: []
theorem l7_ok {σ : Nat → Int} {W0 : World} (hL : L0 W0) : ∀ x ∈ l7, PureOk Tryz.prog 26623 σ W0 44 x := all_cons (p44_ok hL) (all_cons (p2_ok hL) (all_cons (p40_ok hL) (all_cons (p41_ok hL) (all_nil))))
theorem m48_run : ranTo (evCall (cxX Tryz.prog bad [] [] ((44, pureFn l7) :: q0)) 1000 60 19 m48.args m48.h) m48.v m48.h' = true := by kernel_rfl
theorem m48_ok {σ : Nat → Int} {W0 : World} (hL : L0 W0) : MemoOk Tryz.prog 26623 σ W0 19 m48 := memo_ok fit (Known2.nil σ) (FnsOk.cons (pure_fn_ok (l7_ok hL)) ((q0_ok hL))) m48_run
noncomputable def p49 : Pur := ([.agg [I 2, I 3, I 0, I 0, U 0]], .inil, 1048576)
theorem p49_run : ranPure (evCall (cxX Tryz.prog bad [] [] q0) 1000 60 44 p49.1 ⟨.lf, p49.2.2⟩) p49.2.1 = true := by kernel_rfl
theorem p49_ok {σ : Nat → Int} {W0 : World} (hL : L0 W0) : PureOk Tryz.prog 26623 σ W0 44 p49 := pure_ok fit (Known2.nil σ) ((q0_ok hL)) p49_run
noncomputable def h47 : H := hUpd h46 4238 [] [(835, .map [(.agg [I 3, I 0], .agg [I 0, I 0], 0), (.agg [I 3, I 1], .agg [I 0, I 0], 1), (.agg [I 2, I 0], .agg [I 0, I 0], 2), (.agg [I 4, I 0], .agg [I 0, I 0], 3), (.agg [I 3, I 2], .agg [I 0, I 0], 4), (.agg [I 3, I 3], .agg [I 0, I 0], 5), (.agg [I 2, I 1], .agg [I 0, I 0], 6), (.agg [I 4, I 1], .agg [I 0, I 0], 7), (.agg [I 3, I 4], .agg [I 0, I 0], 8), (.agg [I 3, I 5], .agg [I 1, I 0], 9), (.agg [I 3, I 6], .agg [I 1, I 0], 10), (.agg [I 2, I 2], .agg [I 1, I 0], 11), (.agg [I 4, I 2], .agg [I 1, I 0], 12), (.agg [I 2, I 3], .agg [I 0, I 0], 13)] 14)] [(834, 0, [IZ (-1), I 60, I 14]),
  (789, 3, [bT, I 0, bF])]
noncomputable def h48 : H := hUpc h47 4365 [] [] [] [(802, 2, 56, I 2), (802, 2, 57, I 3)]
noncomputable def m50 : Memo := ⟨[.ptr 842 0, .agg [I 4, I 2, I 0, I 0, U 0], .agg [U 1, U 9, U 0, U 0, I 2, I 3, I 0, I 0, U 0, I 0, I 0, I 0, I 0, U 0, I 0, I 0, I 0, I 0, U 0]], h47, .tuple [.agg [U 0, U 0, U 0, U 0, I 0, I 0, I 0, I 0, U 0, I 0, I 0, I 0, I 0, U 0, I 0, I 0, I 0, I 0, U 0], bT], h48⟩
noncomputable def l8 : List (Pur) := p44 :: p41 :: p40 :: p2 :: p49 :: p46 :: []
theorem l8_ok {σ : Nat → Int} {W0 : World} (hL : L0 W0) : ∀ x ∈ l8, PureOk Tryz.prog 26623 σ W0 44 x := all_cons (p44_ok hL) (all_cons (p41_ok hL) (all_cons (p40_ok hL) (all_cons (p2_ok hL) (all_cons (p49_ok hL) (all_cons (p46_ok hL) (all_nil))))))
theorem m50_run : ranTo (evCall (cxX Tryz.prog bad [] [] ((44, pureFn l8) :: q0)) 1000 60 66 m50.args m50.h) m50.v m50.h' = true := by kernel_rfl
theorem m50_ok {σ : Nat → Int} {W0 : World} (hL : L0 W0) : MemoOk Tryz.prog 26623 σ W0 66 m50 := memo_ok fit (Known2.nil σ) (FnsOk.cons (pure_fn_ok (l8_ok hL)) ((q0_ok hL))) m50_run
noncomputable def h49 : H := hUpd h48 4495 [] [] []
noncomputable def h50 : H := hUpd h48 5578 [] [(5557, .cells 7 ([[I 2, I 0, I 3, I 0, I 0, I 0, U 0], [I 2, I 0, I 3, I 1, I 0, I 0, U 0], [I 2, I 1, I 3, I 2, I 0, I 0, U 0], [I 2, I 1, I 3, I 3, I 0, I 0, U 0], [I 2, I 2, I 3, I 5, I 0, I 0, U 0], [I 2, I 2, I 3, I 6, I 0, I 0, U 0], [I 4, I 0, I 8, I 0, I 0, I 0, U 0], [I 4, I 0, I 7, I 1, I 0, I 0, U 0], [I 4, I 0, I 11, I 0, I 0, I 0, U 0], [I 4, I 0, I 12, I 0, I 0, I 0, U 0], [I 4, I 0, I 13, I 0, I 0, I 0, U 0], [I 4, I 0, I 14, I 0, I 0, I 0, U 0], [I 4, I 0, I 2, I 0, I 0, I 0, U 1], [I 4, I 0, I 7, I 1, I 0, I 0, U 0], [I 4, I 1, I 8, I 0, I 0, I 0, U 0], [I 4, I 1, I 7, I 2, I 0, I 0, U 0], [I 4, I 1, I 11, I 0, I 0, I 0, U 0], [I 4, I 1, I 12, I 0, I 0, I 0, U 0], [I 4, I 1, I 13, I 0, I 0, I 0, U 0], [I 4, I 1, I 14, I 0, I 0, I 0, U 0], [I 4, I 1, I 5, I 0, I 0, I 0, U 1], [I 4, I 1, I 2, I 1, I 0, I 0, U 1], [I 4, I 1, I 7, I 2, I 0, I 0, U 0], [I 4, I 2, I 8, I 1, I 0, I 0, U 0], [I 4, I 2, I 7, I 3, I 0, I 0, U 0], [I 4, I 2, I 2, I 3, I 0, I 0, U 0], [I 4, I 2, I 2, I 2, I 0, I 0, U 1], [I 4, I 2, I 7, I 3, I 0, I 0, U 0], [I 9, I 0, I 3, I 4, I 0, I 5, U 0]]) false)] []
noncomputable def m51 : Memo := ⟨[.ptr 842 0], h49, .slice 5557 0 29 29 7 false, h50⟩
noncomputable def l9 : List (Pur) := p35 :: p44 :: p49 :: p41 :: p40 :: p25 :: p28 :: p26 :: p3 :: p9 :: p8 :: p7 :: p6 :: p5 :: p4 :: p43 :: p42 :: p24 :: p23 :: p2 :: p1 :: p0 :: []
theorem l9_ok {σ : Nat → Int} {W0 : World} (hL : L0 W0) : ∀ x ∈ l9, PureOk Tryz.prog 26623 σ W0 44 x := all_cons (p35_ok hL) (all_cons (p44_ok hL) (all_cons (p49_ok hL) (all_cons (p41_ok hL) (all_cons (p40_ok hL) (all_cons (p25_ok hL) (all_cons (p28_ok hL) (all_cons (p26_ok hL) (all_cons (p3_ok hL) (all_cons (p9_ok hL) (all_cons (p8_ok hL) (all_cons (p7_ok hL) (all_cons (p6_ok hL) (all_cons (p5_ok hL) (all_cons (p4_ok hL) (all_cons (p43_ok hL) (all_cons (p42_ok hL) (all_cons (p24_ok hL) (all_cons (p23_ok hL) (all_cons (p2_ok hL) (all_cons (p1_ok hL) (all_cons (p0_ok hL) (all_nil))))))))))))))))))))))
theorem m51_run : ranTo (evCall (cxX Tryz.prog bad [] [] ((44, pureFn l9) :: q0)) 1000 60 113 m51.args m51.h) m51.v m51.h' = true := by kernel_rfl
theorem m51_ok {σ : Nat → Int} {W0 : World} (hL : L0 W0) : MemoOk Tryz.prog 26623 σ W0 113 m51 := memo_ok fit (Known2.nil σ) (FnsOk.cons (pure_fn_ok (l9_ok hL)) ((q0_ok hL))) m51_run
noncomputable def l10 : List (Memo) := m50 :: m47 :: m45 :: m39 :: m37 :: m36 :: m33 :: m32 :: m30 :: []
theorem l10_ok {σ : Nat → Int} {W0 : World} (hL : L0 W0) : ∀ x ∈ l10, MemoOk Tryz.prog 26623 σ W0 66 x := all_cons (m50_ok hL) (all_cons (m47_ok hL) (all_cons (m45_ok hL) (all_cons (m39_ok hL) (all_cons (m37_ok hL) (all_cons (m36_ok hL) (all_cons (m33_ok hL) (all_cons (m32_ok hL) (all_cons (m30_ok hL) (all_nil)))))))))
noncomputable def q1 : Fns := [(20, pureFn [p10]), (14, frameFn [m29]), (19, frameFn [m48]), (113, frameFn [m51]), (295, isFn 453), (122, atoiFullFn 384), (123, itoaFullFn), (195, joinFn), (307, countFn), (352, indexFn), (308, cutOf Tryz.prog 26623 bad [(307, countFn), (352, indexFn)] 1000 20 308)]
theorem q1_ok {σ : Nat → Int} {W0 : World} (hL : L0 W0) : FnsOk Tryz.prog 26623 σ W0 q1 := FnsOk.cons (pure_fn_ok (all_cons (p10_ok hL) (all_nil))) (FnsOk.cons (frame_fn_ok (all_cons (m29_ok hL) (all_nil))) (FnsOk.cons (frame_fn_ok (all_cons (m48_ok hL) (all_nil))) (FnsOk.cons (frame_fn_ok (all_cons (m51_ok hL) (all_nil))) (FnsOk.cons (ext_is hL) (FnsOk.cons (ext_atoi hL) (FnsOk.cons (ext_itoa hL) (FnsOk.cons (ext_join hL) (FnsOk.cons (ext_count hL) (FnsOk.cons (ext_index hL) (FnsOk.cons (ext_cut308 hL) (FnsOk.nil)))))))))))
theorem run0 : isTrue (evCall (cxX Tryz.prog bad [((-9223372036854775808), 9223372036854775807), (0, 4294967295)] [] ((66, frameFn l10) :: (9, frameFn [m15, m21]) :: q1)) 1000 60 5 [bF, .int .u32 (.var 1)] (sentH 453 20 errTab)) = true := by kernel_rfl
abbrev CaseS (rng : Rg) (facts : List (Bool × E × E × Bool)) (tab : NumTabE) (vs : List V) : Prop := ∀ {σ : Nat → Int} {W : World} (hL : L0 W) (hk : Known2 σ rng facts) (hT : TabOk Tryz.prog bad 8 σ tab) {xs : Array Value} (hv : ∀ ρ, VRs σ ρ vs xs.toList), Calls Tryz.prog 5 xs W fun e w' => e = .returned (.bool true) ∧ Below W.heap.size W w'
theorem caseS {rng : Rg} {facts : List (Bool × E × E × Bool)} {tab : NumTabE} {vs : List V} {fs : Fns} (hx : ∀ {σ : Nat → Int} {W : World}, L0 W → Known2 σ rng facts → TabOk Tryz.prog bad 8 σ tab → FnsOk Tryz.prog 26623 σ W fs)
    (run : isTrue (evCall (cxX Tryz.prog bad rng facts fs) 1000 60 5 vs (sentH 453 20 errTab)) = true) : CaseS rng facts tab vs := by
  intro σ W hL hk hT xs hv
  obtain ⟨ads, h1, h2, h3⟩ := errs_sents hL
  exact law_case_x fit h1 h2 h3 errs_all errs_lt (by kernel_rfl) hk (hx hL hk hT) hv ⟨_, Tryz.func5, rfl⟩ run
theorem case0 : CaseS [((-9223372036854775808), 9223372036854775807), (0, 4294967295)] [] [] [bF, .int .u32 (.var 1)] := caseS (fun hL hk hT => FnsOk.cons (frame_fn_ok (l10_ok hL)) (FnsOk.cons (frame_fn_ok (all_cons (m15_ok hL) (all_cons (m21_ok hL) (all_nil)))) ((q1_ok hL)))) run0
noncomputable def p52 : Pur := ([.agg [I 2, I 3, I 0, I 5, U 0]], .inil, 1048576)
theorem p52_run : ranPure (evCall (cxX Tryz.prog bad [] [] q0) 1000 60 44 p52.1 ⟨.lf, p52.2.2⟩) p52.2.1 = true := by kernel_rfl
theorem p52_ok {σ : Nat → Int} {W0 : World} (hL : L0 W0) : PureOk Tryz.prog 26623 σ W0 44 p52 := pure_ok fit (Known2.nil σ) ((q0_ok hL)) p52_run
noncomputable def h51 : H := hUpd h47 4240 [] [] []
noncomputable def h52 : H := hUpc h48 4367 [] [] [] [(802, 2, 59, I 5)]
noncomputable def m53 : Memo := ⟨[.ptr 842 0, .agg [I 4, I 2, I 0, I 0, U 0], .agg [U 1, U 9, U 0, U 0, I 2, I 3, I 0, I 5, U 0, I 0, I 0, I 0, I 0, U 0, I 0, I 0, I 0, I 0, U 0]], h51, .tuple [.agg [U 0, U 0, U 0, U 0, I 0, I 0, I 0, I 0, U 0, I 0, I 0, I 0, I 0, U 0, I 0, I 0, I 0, I 0, U 0], bT], h52⟩
noncomputable def l11 : List (Pur) := p44 :: p41 :: p40 :: p2 :: p52 :: p46 :: []
theorem l11_ok {σ : Nat → Int} {W0 : World} (hL : L0 W0) : ∀ x ∈ l11, PureOk Tryz.prog 26623 σ W0 44 x := all_cons (p44_ok hL) (all_cons (p41_ok hL) (all_cons (p40_ok hL) (all_cons (p2_ok hL) (all_cons (p52_ok hL) (all_cons (p46_ok hL) (all_nil))))))
theorem m53_run : ranTo (evCall (cxX Tryz.prog bad [] [] ((44, pureFn l11) :: q0)) 1000 60 66 m53.args m53.h) m53.v m53.h' = true := by kernel_rfl
theorem m53_ok {σ : Nat → Int} {W0 : World} (hL : L0 W0) : MemoOk Tryz.prog 26623 σ W0 66 m53 := memo_ok fit (Known2.nil σ) (FnsOk.cons (pure_fn_ok (l11_ok hL)) ((q0_ok hL))) m53_run
noncomputable def h53 : H := hUpd h52 4497 [] [] []
noncomputable def h54 : H := hUpd h52 5580 [] [(5559, .cells 7 ([[I 2, I 0, I 3, I 0, I 0, I 0, U 0], [I 2, I 0, I 3, I 1, I 0, I 0, U 0], [I 2, I 1, I 3, I 2, I 0, I 0, U 0], [I 2, I 1, I 3, I 3, I 0, I 0, U 0], [I 2, I 2, I 3, I 5, I 0, I 0, U 0], [I 2, I 2, I 3, I 6, I 0, I 0, U 0], [I 4, I 0, I 8, I 0, I 0, I 0, U 0], [I 4, I 0, I 7, I 1, I 0, I 0, U 0], [I 4, I 0, I 11, I 0, I 0, I 0, U 0], [I 4, I 0, I 12, I 0, I 0, I 0, U 0], [I 4, I 0, I 13, I 0, I 0, I 0, U 0], [I 4, I 0, I 14, I 0, I 0, I 0, U 0], [I 4, I 0, I 2, I 0, I 0, I 0, U 1], [I 4, I 0, I 7, I 1, I 0, I 0, U 0], [I 4, I 1, I 8, I 0, I 0, I 0, U 0], [I 4, I 1, I 7, I 2, I 0, I 0, U 0], [I 4, I 1, I 11, I 0, I 0, I 0, U 0], [I 4, I 1, I 12, I 0, I 0, I 0, U 0], [I 4, I 1, I 13, I 0, I 0, I 0, U 0], [I 4, I 1, I 14, I 0, I 0, I 0, U 0], [I 4, I 1, I 5, I 0, I 0, I 0, U 1], [I 4, I 1, I 2, I 1, I 0, I 0, U 1], [I 4, I 1, I 7, I 2, I 0, I 0, U 0], [I 4, I 2, I 8, I 1, I 0, I 0, U 0], [I 4, I 2, I 7, I 3, I 0, I 0, U 0], [I 4, I 2, I 2, I 3, I 0, I 5, U 0], [I 4, I 2, I 2, I 2, I 0, I 0, U 1], [I 4, I 2, I 7, I 3, I 0, I 0, U 0], [I 9, I 0, I 3, I 4, I 0, I 5, U 0]]) false)] []
noncomputable def m54 : Memo := ⟨[.ptr 842 0], h53, .slice 5559 0 29 29 7 false, h54⟩
noncomputable def l12 : List (Pur) := p35 :: p44 :: p52 :: p41 :: p40 :: p25 :: p28 :: p26 :: p3 :: p9 :: p8 :: p7 :: p6 :: p5 :: p4 :: p43 :: p42 :: p24 :: p23 :: p2 :: p1 :: p0 :: []
theorem l12_ok {σ : Nat → Int} {W0 : World} (hL : L0 W0) : ∀ x ∈ l12, PureOk Tryz.prog 26623 σ W0 44 x := all_cons (p35_ok hL) (all_cons (p44_ok hL) (all_cons (p52_ok hL) (all_cons (p41_ok hL) (all_cons (p40_ok hL) (all_cons (p25_ok hL) (all_cons (p28_ok hL) (all_cons (p26_ok hL) (all_cons (p3_ok hL) (all_cons (p9_ok hL) (all_cons (p8_ok hL) (all_cons (p7_ok hL) (all_cons (p6_ok hL) (all_cons (p5_ok hL) (all_cons (p4_ok hL) (all_cons (p43_ok hL) (all_cons (p42_ok hL) (all_cons (p24_ok hL) (all_cons (p23_ok hL) (all_cons (p2_ok hL) (all_cons (p1_ok hL) (all_cons (p0_ok hL) (all_nil))))))))))))))))))))))
theorem m54_run : ranTo (evCall (cxX Tryz.prog bad [] [] ((44, pureFn l12) :: q0)) 1000 60 113 m54.args m54.h) m54.v m54.h' = true := by kernel_rfl
theorem m54_ok {σ : Nat → Int} {W0 : World} (hL : L0 W0) : MemoOk Tryz.prog 26623 σ W0 113 m54 := memo_ok fit (Known2.nil σ) (FnsOk.cons (pure_fn_ok (l12_ok hL)) ((q0_ok hL))) m54_run
noncomputable def l13 : List (Memo) := m53 :: m47 :: m45 :: m39 :: m37 :: m36 :: m33 :: m32 :: m30 :: []
theorem l13_ok {σ : Nat → Int} {W0 : World} (hL : L0 W0) : ∀ x ∈ l13, MemoOk Tryz.prog 26623 σ W0 66 x := all_cons (m53_ok hL) (all_cons (m47_ok hL) (all_cons (m45_ok hL) (all_cons (m39_ok hL) (all_cons (m37_ok hL) (all_cons (m36_ok hL) (all_cons (m33_ok hL) (all_cons (m32_ok hL) (all_cons (m30_ok hL) (all_nil)))))))))
noncomputable def q2 : Fns := [(20, pureFn [p10]), (14, frameFn [m29]), (19, frameFn [m48]), (113, frameFn [m54]), (295, isFn 453), (122, atoiFullFn 384), (123, itoaFullFn), (195, joinFn), (307, countFn), (352, indexFn), (308, cutOf Tryz.prog 26623 bad [(307, countFn), (352, indexFn)] 1000 20 308)]
theorem q2_ok {σ : Nat → Int} {W0 : World} (hL : L0 W0) : FnsOk Tryz.prog 26623 σ W0 q2 := FnsOk.cons (pure_fn_ok (all_cons (p10_ok hL) (all_nil))) (FnsOk.cons (frame_fn_ok (all_cons (m29_ok hL) (all_nil))) (FnsOk.cons (frame_fn_ok (all_cons (m48_ok hL) (all_nil))) (FnsOk.cons (frame_fn_ok (all_cons (m54_ok hL) (all_nil))) (FnsOk.cons (ext_is hL) (FnsOk.cons (ext_atoi hL) (FnsOk.cons (ext_itoa hL) (FnsOk.cons (ext_join hL) (FnsOk.cons (ext_count hL) (FnsOk.cons (ext_index hL) (FnsOk.cons (ext_cut308 hL) (FnsOk.nil)))))))))))
theorem run1 : isTrue (evCall (cxX Tryz.prog bad [((-9223372036854775808), 9223372036854775807), (0, 4294967295)] [] ((66, frameFn l13) :: (9, frameFn [m15, m21]) :: q2)) 1000 60 5 [bT, .int .u32 (.var 1)] (sentH 453 20 errTab)) = true := by kernel_rfl
theorem case1 : CaseS [((-9223372036854775808), 9223372036854775807), (0, 4294967295)] [] [] [bT, .int .u32 (.var 1)] := caseS (fun hL hk hT => FnsOk.cons (frame_fn_ok (l13_ok hL)) (FnsOk.cons (frame_fn_ok (all_cons (m15_ok hL) (all_cons (m21_ok hL) (all_nil)))) ((q2_ok hL)))) run1
end Go.Proofs.YtkfhelmjaoepiabGreatDoor.wholeGiven
