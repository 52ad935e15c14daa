/- worldEnds: calls that are run once, and the runs of the cases (part 0). -/
import Derived.Test.YtmafpninhndlnaaGreatDoorEvWeF
set_option linter.unusedVariables false
set_option maxRecDepth 10000000
namespace Go.Proofs.YtmafpninhndlnaaGreatDoor.worldEnds
open Tk
open Go.RowKit
noncomputable def h0 : H := sentH 439 19 errTab
noncomputable def q0 : Fns := [(239, isFn 439), (172, atoiFullFn 393), (105, itoaFullFn), (270, countFn), (312, indexFn), (271, cutOf Tryz.prog 26623 bad [(270, countFn), (312, indexFn)] 1000 20 271)]
theorem q0_ok {σ : Nat → Int} {W0 : World} (hL : L0 W0) : FnsOk Tryz.prog 26623 σ W0 q0 := FnsOk.cons (ext_is hL) (FnsOk.cons (ext_atoi hL) (FnsOk.cons (ext_itoa hL) (FnsOk.cons (ext_count hL) (FnsOk.cons (ext_index hL) (FnsOk.cons (ext_cut271 hL) (FnsOk.nil))))))
noncomputable def p0 : Pur := ([], bT, 1048576)
theorem p0_run : ranPure (evCall (cxX Tryz.prog bad [] [] q0) 1000 60 19 p0.1 ⟨.lf, p0.2.2⟩) p0.2.1 = true := by kernel_rfl
theorem p0_ok {σ : Nat → Int} {W0 : World} (hL : L0 W0) : PureOk Tryz.prog 26623 σ W0 19 p0 := pure_ok fit (Known2.nil σ) ((q0_ok hL)) p0_run
noncomputable def h1 : H := hUpd h0 83 [] [(46, .cells 1 ([[.str [108, 105]], [.str [114, 54]], [.str [49]]]) false),
  (80, .map [(.str [97, 103, 97, 105, 110], I 0, 0)] 1)] []
noncomputable def h2 : H := hUpd h1 144 [] [] []
noncomputable def m1 : Memo := ⟨[.slice 46 0 3 3 1 false, .map 80], h1, .tuple [U 23068673, .inil], h2⟩
theorem m1_run : ranTo (evCall (cxX Tryz.prog bad [] [] q0) 1000 60 83 m1.args m1.h) m1.v m1.h' = true := by kernel_rfl
theorem m1_ok {σ : Nat → Int} {W0 : World} (hL : L0 W0) : MemoOk Tryz.prog 26623 σ W0 83 m1 := memo_ok fit (Known2.nil σ) ((q0_ok hL)) m1_run
noncomputable def h3 : H := hUpd h1 146 [46] [(59, .cells 1 ([[.str [97, 108, 117]], [.str [97, 100, 100]], [.str [114, 48]], [.str [114, 48]], [.str [114, 54]]]) false)] []
noncomputable def h4 : H := hUpd h3 233 [] [] []
noncomputable def m2 : Memo := ⟨[.slice 59 0 5 5 1 false, .map 80], h3, .tuple [U 50356224, .inil], h4⟩
theorem m2_run : ranTo (evCall (cxX Tryz.prog bad [] [] q0) 1000 60 83 m2.args m2.h) m2.v m2.h' = true := by kernel_rfl
theorem m2_ok {σ : Nat → Int} {W0 : World} (hL : L0 W0) : MemoOk Tryz.prog 26623 σ W0 83 m2 := memo_ok fit (Known2.nil σ) ((q0_ok hL)) m2_run
noncomputable def h5 : H := hUpd h1 235 [46] [(70, .cells 1 ([[.str [105, 110, 118]], [.str [114, 101, 116, 117, 114, 110]], [.str [107, 49, 53]], [.str [107, 48]]]) false)] []
noncomputable def h6 : H := hUpd h5 310 [] [] []
noncomputable def m3 : Memo := ⟨[.slice 70 0 4 4 1 false, .map 80], h5, .tuple [U 186580992, .inil], h6⟩
theorem m3_run : ranTo (evCall (cxX Tryz.prog bad [] [] q0) 1000 60 83 m3.args m3.h) m3.v m3.h' = true := by kernel_rfl
theorem m3_ok {σ : Nat → Int} {W0 : World} (hL : L0 W0) : MemoOk Tryz.prog 26623 σ W0 83 m3 := memo_ok fit (Known2.nil σ) ((q0_ok hL)) m3_run
noncomputable def h7 : H := hUpd h1 312 [46] [(77, .cells 1 ([[.str [106, 109, 112]], [.str [97, 103, 97, 105, 110]]]) false)] []
noncomputable def h8 : H := hUpd h7 362 [] [] []
noncomputable def m4 : Memo := ⟨[.slice 77 0 2 2 1 false, .map 80], h7, .tuple [U 67108864, .inil], h8⟩
theorem m4_run : ranTo (evCall (cxX Tryz.prog bad [] [] q0) 1000 60 83 m4.args m4.h) m4.v m4.h' = true := by kernel_rfl
theorem m4_ok {σ : Nat → Int} {W0 : World} (hL : L0 W0) : MemoOk Tryz.prog 26623 σ W0 83 m4 := memo_ok fit (Known2.nil σ) ((q0_ok hL)) m4_run
noncomputable def h9 : H := hUpd h0 444 [] [(374, .cells 1 ([[.str [108, 105]], [.str [114, 55]], [.str [53, 48]]]) false),
  (441, .map [(.str [109, 111, 114, 101], I 2, 0), (.str [100, 111, 110, 101], I 6, 1)] 2)] []
noncomputable def h10 : H := hUpd h9 505 [] [] []
noncomputable def m5 : Memo := ⟨[.slice 374 0 3 3 1 false, .map 441], h9, .tuple [U 24117298, .inil], h10⟩
theorem m5_run : ranTo (evCall (cxX Tryz.prog bad [] [] q0) 1000 60 83 m5.args m5.h) m5.v m5.h' = true := by kernel_rfl
theorem m5_ok {σ : Nat → Int} {W0 : World} (hL : L0 W0) : MemoOk Tryz.prog 26623 σ W0 83 m5 := memo_ok fit (Known2.nil σ) ((q0_ok hL)) m5_run
noncomputable def h11 : H := hUpd h9 507 [374] [(383, .cells 1 ([[.str [108, 105]], [.str [114, 54]], [.str [49]]]) false)] []
noncomputable def h12 : H := hUpd h11 568 [] [] []
noncomputable def m6 : Memo := ⟨[.slice 383 0 3 3 1 false, .map 441], h11, .tuple [U 23068673, .inil], h12⟩
theorem m6_run : ranTo (evCall (cxX Tryz.prog bad [] [] q0) 1000 60 83 m6.args m6.h) m6.v m6.h' = true := by kernel_rfl
theorem m6_ok {σ : Nat → Int} {W0 : World} (hL : L0 W0) : MemoOk Tryz.prog 26623 σ W0 83 m6 := memo_ok fit (Known2.nil σ) ((q0_ok hL)) m6_run
noncomputable def h13 : H := hUpd h9 571 [374] [(397, .cells 1 ([[.str [106, 122]], [.str [114, 55]], [.str [100, 111, 110, 101]]]) false)] []
noncomputable def h14 : H := hUpd h13 633 [] [] []
noncomputable def m7 : Memo := ⟨[.slice 397 0 3 3 1 false, .map 441], h13, .tuple [U 91226118, .inil], h14⟩
theorem m7_run : ranTo (evCall (cxX Tryz.prog bad [] [] q0) 1000 60 83 m7.args m7.h) m7.v m7.h' = true := by kernel_rfl
theorem m7_ok {σ : Nat → Int} {W0 : World} (hL : L0 W0) : MemoOk Tryz.prog 26623 σ W0 83 m7 := memo_ok fit (Known2.nil σ) ((q0_ok hL)) m7_run
noncomputable def h15 : H := hUpd h9 635 [374] [(408, .cells 1 ([[.str [105, 110, 118]], [.str [99, 97, 108, 108]], [.str [107, 54]], [.str [107, 48]]]) false)] []
noncomputable def h16 : H := hUpd h15 710 [] [] []
noncomputable def m8 : Memo := ⟨[.slice 408 0 4 4 1 false, .map 441], h15, .tuple [U 184942592, .inil], h16⟩
theorem m8_run : ranTo (evCall (cxX Tryz.prog bad [] [] q0) 1000 60 83 m8.args m8.h) m8.v m8.h' = true := by kernel_rfl
theorem m8_ok {σ : Nat → Int} {W0 : World} (hL : L0 W0) : MemoOk Tryz.prog 26623 σ W0 83 m8 := memo_ok fit (Known2.nil σ) ((q0_ok hL)) m8_run
noncomputable def h17 : H := hUpd h9 712 [374] [(421, .cells 1 ([[.str [97, 108, 117]], [.str [115, 117, 98]], [.str [114, 55]], [.str [114, 55]], [.str [114, 54]]]) false)] []
noncomputable def h18 : H := hUpd h17 801 [] [] []
noncomputable def m9 : Memo := ⟨[.slice 421 0 5 5 1 false, .map 441], h17, .tuple [U 58155009, .inil], h18⟩
theorem m9_run : ranTo (evCall (cxX Tryz.prog bad [] [] q0) 1000 60 83 m9.args m9.h) m9.v m9.h' = true := by kernel_rfl
theorem m9_ok {σ : Nat → Int} {W0 : World} (hL : L0 W0) : MemoOk Tryz.prog 26623 σ W0 83 m9 := memo_ok fit (Known2.nil σ) ((q0_ok hL)) m9_run
noncomputable def h19 : H := hUpd h9 803 [374] [(428, .cells 1 ([[.str [106, 109, 112]], [.str [109, 111, 114, 101]]]) false)] []
noncomputable def h20 : H := hUpd h19 853 [] [] []
noncomputable def m10 : Memo := ⟨[.slice 428 0 2 2 1 false, .map 441], h19, .tuple [U 67108866, .inil], h20⟩
theorem m10_run : ranTo (evCall (cxX Tryz.prog bad [] [] q0) 1000 60 83 m10.args m10.h) m10.v m10.h' = true := by kernel_rfl
theorem m10_ok {σ : Nat → Int} {W0 : World} (hL : L0 W0) : MemoOk Tryz.prog 26623 σ W0 83 m10 := memo_ok fit (Known2.nil σ) ((q0_ok hL)) m10_run
noncomputable def h21 : H := hUpd h9 856 [374] [(438, .cells 1 ([[.str [104, 97, 108, 116]]]) false)] []
noncomputable def h22 : H := hUpd h21 905 [] [] []
noncomputable def m11 : Memo := ⟨[.slice 438 0 1 1 1 false, .map 441], h21, .tuple [U 218103808, .inil], h22⟩
theorem m11_run : ranTo (evCall (cxX Tryz.prog bad [] [] q0) 1000 60 83 m11.args m11.h) m11.v m11.h' = true := by kernel_rfl
theorem m11_ok {σ : Nat → Int} {W0 : World} (hL : L0 W0) : MemoOk Tryz.prog 26623 σ W0 83 m11 := memo_ok fit (Known2.nil σ) ((q0_ok hL)) m11_run
noncomputable def h23 : H := hUpd h0 33 [] [] []
noncomputable def h24 : H := hUpd h0 909 [] [(906, .cells 1 ([[U 24117298], [U 23068673], [U 91226118], [U 184942592], [U 58155009], [U 67108866], [U 218103808]]) false),
  (908, .cells 4 ([[.slice 363 0 4 4 1 false, I 1000, .snil, bF], [.slice 906 0 7 7 1 false, I 1000, .slice 365 0 1 1 1 true, bT]]) false),
  (365, .cells 1 ([[I 0]]) false),
  (363, .cells 1 ([[U 23068673], [U 50356224], [U 186580992], [U 67108864]]) false)] []
noncomputable def m12 : Memo := ⟨[I 50], h23, .slice 908 0 2 2 4 true, h24⟩
noncomputable def l0 : List (Memo) := m11 :: m10 :: m9 :: m8 :: m7 :: m6 :: m5 :: m4 :: m3 :: m2 :: m1 :: []
theorem l0_ok {σ : Nat → Int} {W0 : World} (hL : L0 W0) : ∀ x ∈ l0, MemoOk Tryz.prog 26623 σ W0 83 x := all_cons (m11_ok hL) (all_cons (m10_ok hL) (all_cons (m9_ok hL) (all_cons (m8_ok hL) (all_cons (m7_ok hL) (all_cons (m6_ok hL) (all_cons (m5_ok hL) (all_cons (m4_ok hL) (all_cons (m3_ok hL) (all_cons (m2_ok hL) (all_cons (m1_ok hL) (all_nil)))))))))))
theorem m12_run : ranTo (evCall (cxX Tryz.prog bad [] [] ((83, frameFn l0) :: q0)) 1000 60 23 m12.args m12.h) m12.v m12.h' = true := by kernel_rfl
theorem m12_ok {σ : Nat → Int} {W0 : World} (hL : L0 W0) : MemoOk Tryz.prog 26623 σ W0 23 m12 := memo_ok fit (Known2.nil σ) (FnsOk.cons (frame_fn_ok (l0_ok hL)) ((q0_ok hL))) m12_run
noncomputable def p13 : Pur := ([.agg [I 3, I 0, I 0, I 0, U 0]], .inil, 1048576)
theorem p13_run : ranPure (evCall (cxX Tryz.prog bad [] [] q0) 1000 60 70 p13.1 ⟨.lf, p13.2.2⟩) p13.2.1 = true := by kernel_rfl
theorem p13_ok {σ : Nat → Int} {W0 : World} (hL : L0 W0) : PureOk Tryz.prog 26623 σ W0 70 p13 := pure_ok fit (Known2.nil σ) ((q0_ok hL)) p13_run
noncomputable def p14 : Pur := ([.agg [I 3, I 1, I 0, I 0, U 0]], .inil, 1048576)
theorem p14_run : ranPure (evCall (cxX Tryz.prog bad [] [] q0) 1000 60 70 p14.1 ⟨.lf, p14.2.2⟩) p14.2.1 = true := by kernel_rfl
theorem p14_ok {σ : Nat → Int} {W0 : World} (hL : L0 W0) : PureOk Tryz.prog 26623 σ W0 70 p14 := pure_ok fit (Known2.nil σ) ((q0_ok hL)) p14_run
noncomputable def p15 : Pur := ([.agg [I 0, I 0, I 0, I 0, U 0]], .inil, 1048576)
theorem p15_run : ranPure (evCall (cxX Tryz.prog bad [] [] q0) 1000 60 70 p15.1 ⟨.lf, p15.2.2⟩) p15.2.1 = true := by kernel_rfl
theorem p15_ok {σ : Nat → Int} {W0 : World} (hL : L0 W0) : PureOk Tryz.prog 26623 σ W0 70 p15 := pure_ok fit (Known2.nil σ) ((q0_ok hL)) p15_run
noncomputable def p16 : Pur := ([.agg [I 2, I 0, I 0, I 0, U 1]], .inil, 1048576)
theorem p16_run : ranPure (evCall (cxX Tryz.prog bad [] [] q0) 1000 60 70 p16.1 ⟨.lf, p16.2.2⟩) p16.2.1 = true := by kernel_rfl
theorem p16_ok {σ : Nat → Int} {W0 : World} (hL : L0 W0) : PureOk Tryz.prog 26623 σ W0 70 p16 := pure_ok fit (Known2.nil σ) ((q0_ok hL)) p16_run
noncomputable def p17 : Pur := ([.agg [I 8, I 0, I 0, I 0, U 0]], .inil, 1048576)
theorem p17_run : ranPure (evCall (cxX Tryz.prog bad [] [] q0) 1000 60 70 p17.1 ⟨.lf, p17.2.2⟩) p17.2.1 = true := by kernel_rfl
theorem p17_ok {σ : Nat → Int} {W0 : World} (hL : L0 W0) : PureOk Tryz.prog 26623 σ W0 70 p17 := pure_ok fit (Known2.nil σ) ((q0_ok hL)) p17_run
noncomputable def p18 : Pur := ([.agg [I 7, I 1, I 0, I 0, U 0]], .inil, 1048576)
theorem p18_run : ranPure (evCall (cxX Tryz.prog bad [] [] q0) 1000 60 70 p18.1 ⟨.lf, p18.2.2⟩) p18.2.1 = true := by kernel_rfl
theorem p18_ok {σ : Nat → Int} {W0 : World} (hL : L0 W0) : PureOk Tryz.prog 26623 σ W0 70 p18 := pure_ok fit (Known2.nil σ) ((q0_ok hL)) p18_run
noncomputable def p19 : Pur := ([.agg [I 11, I 0, I 0, I 0, U 0]], .inil, 1048576)
theorem p19_run : ranPure (evCall (cxX Tryz.prog bad [] [] q0) 1000 60 70 p19.1 ⟨.lf, p19.2.2⟩) p19.2.1 = true := by kernel_rfl
theorem p19_ok {σ : Nat → Int} {W0 : World} (hL : L0 W0) : PureOk Tryz.prog 26623 σ W0 70 p19 := pure_ok fit (Known2.nil σ) ((q0_ok hL)) p19_run
noncomputable def p20 : Pur := ([.agg [I 12, I 0, I 0, I 0, U 0]], .inil, 1048576)
theorem p20_run : ranPure (evCall (cxX Tryz.prog bad [] [] q0) 1000 60 70 p20.1 ⟨.lf, p20.2.2⟩) p20.2.1 = true := by kernel_rfl
theorem p20_ok {σ : Nat → Int} {W0 : World} (hL : L0 W0) : PureOk Tryz.prog 26623 σ W0 70 p20 := pure_ok fit (Known2.nil σ) ((q0_ok hL)) p20_run
noncomputable def p21 : Pur := ([.agg [I 13, I 0, I 0, I 0, U 0]], .inil, 1048576)
theorem p21_run : ranPure (evCall (cxX Tryz.prog bad [] [] q0) 1000 60 70 p21.1 ⟨.lf, p21.2.2⟩) p21.2.1 = true := by kernel_rfl
theorem p21_ok {σ : Nat → Int} {W0 : World} (hL : L0 W0) : PureOk Tryz.prog 26623 σ W0 70 p21 := pure_ok fit (Known2.nil σ) ((q0_ok hL)) p21_run
noncomputable def p22 : Pur := ([.agg [I 14, I 0, I 0, I 0, U 0]], .inil, 1048576)
theorem p22_run : ranPure (evCall (cxX Tryz.prog bad [] [] q0) 1000 60 70 p22.1 ⟨.lf, p22.2.2⟩) p22.2.1 = true := by kernel_rfl
theorem p22_ok {σ : Nat → Int} {W0 : World} (hL : L0 W0) : PureOk Tryz.prog 26623 σ W0 70 p22 := pure_ok fit (Known2.nil σ) ((q0_ok hL)) p22_run
noncomputable def p23 : Pur := ([.agg [I 3, I 2, I 0, I 0, U 0]], .inil, 1048576)
theorem p23_run : ranPure (evCall (cxX Tryz.prog bad [] [] q0) 1000 60 70 p23.1 ⟨.lf, p23.2.2⟩) p23.2.1 = true := by kernel_rfl
theorem p23_ok {σ : Nat → Int} {W0 : World} (hL : L0 W0) : PureOk Tryz.prog 26623 σ W0 70 p23 := pure_ok fit (Known2.nil σ) ((q0_ok hL)) p23_run
noncomputable def p24 : Pur := ([.agg [I 3, I 3, I 0, I 0, U 0]], .inil, 1048576)
theorem p24_run : ranPure (evCall (cxX Tryz.prog bad [] [] q0) 1000 60 70 p24.1 ⟨.lf, p24.2.2⟩) p24.2.1 = true := by kernel_rfl
theorem p24_ok {σ : Nat → Int} {W0 : World} (hL : L0 W0) : PureOk Tryz.prog 26623 σ W0 70 p24 := pure_ok fit (Known2.nil σ) ((q0_ok hL)) p24_run
noncomputable def p25 : Pur := ([.agg [I 2, I 1, I 0, I 0, U 1]], .inil, 1048576)
theorem p25_run : ranPure (evCall (cxX Tryz.prog bad [] [] q0) 1000 60 70 p25.1 ⟨.lf, p25.2.2⟩) p25.2.1 = true := by kernel_rfl
theorem p25_ok {σ : Nat → Int} {W0 : World} (hL : L0 W0) : PureOk Tryz.prog 26623 σ W0 70 p25 := pure_ok fit (Known2.nil σ) ((q0_ok hL)) p25_run
noncomputable def p26 : Pur := ([.agg [I 7, I 2, I 0, I 0, U 0]], .inil, 1048576)
theorem p26_run : ranPure (evCall (cxX Tryz.prog bad [] [] q0) 1000 60 70 p26.1 ⟨.lf, p26.2.2⟩) p26.2.1 = true := by kernel_rfl
theorem p26_ok {σ : Nat → Int} {W0 : World} (hL : L0 W0) : PureOk Tryz.prog 26623 σ W0 70 p26 := pure_ok fit (Known2.nil σ) ((q0_ok hL)) p26_run
noncomputable def p27 : Pur := ([.agg [I 5, I 0, I 0, I 0, U 1]], .inil, 1048576)
theorem p27_run : ranPure (evCall (cxX Tryz.prog bad [] [] q0) 1000 60 70 p27.1 ⟨.lf, p27.2.2⟩) p27.2.1 = true := by kernel_rfl
theorem p27_ok {σ : Nat → Int} {W0 : World} (hL : L0 W0) : PureOk Tryz.prog 26623 σ W0 70 p27 := pure_ok fit (Known2.nil σ) ((q0_ok hL)) p27_run
noncomputable def h25 : H := hUpd h24 2193 [] [(958, .map [(.agg [I 3, I 0], .agg [I 0, I 0], 0), (.agg [I 3, I 1], .agg [I 0, I 0], 1), (.agg [I 2, I 0], .agg [I 0, I 0], 2), (.agg [I 4, I 0], .agg [I 0, I 0], 3), (.agg [I 3, I 2], .agg [I 0, I 0], 4), (.agg [I 3, I 3], .agg [I 0, I 0], 5), (.agg [I 2, I 1], .agg [I 0, I 0], 6), (.agg [I 4, I 1], .agg [I 0, I 0], 7)] 8),
  (926, .cells 3 ([[.ptr 924 0, .slice 925 0 8 8 107 true, .slice 950 0 8 8 1 false]]) false),
  (942, .cells 1 ([[.snil]]) false),
  (950, .cells 1 ([[.ptr 927 0], [.ptr 930 0], [.ptr 933 0], [.ptr 936 0], [.ptr 939 0], [.ptr 942 0], [.ptr 945 0], [.ptr 948 0]]) false),
  (918, .cells 32 (((U 23068673) :: (U 50356224) :: (U 186580992) :: (U 67108864) :: rp 28 (U 0) ([])) :: (rp 32 (U 0) ([])) :: ((U 24117298) :: (U 23068673) :: (U 91226118) :: (U 184942592) :: (U 58155009) :: (U 67108866) :: (U 218103808) :: rp 25 (U 0) ([])) :: rp 21 (rp 32 (U 0) ([])) ([])) false),
  (954, .cells 2 ([[.ptr 952 0, .slice 953 0 12 12 2 true]]) false),
  (922, .cells 3 ([[.ptr 920 0, I 16, .ptr 921 0]]) false),
  (914, .cells 80 (((I 3) :: (I 0) :: (I 0) :: (I 0) :: (U 0) :: (I 3) :: (I 1) :: (I 0) :: (I 0) :: (U 0) :: rp 4 (I 0) ((U 0) :: rp 4 (I 0) ((U 0) :: rp 4 (I 0) ((U 0) :: rp 4 (I 0) ((U 0) :: rp 4 (I 0) ((U 0) :: rp 4 (I 0) ((U 0) :: rp 4 (I 0) ((U 0) :: rp 4 (I 0) ((U 0) :: rp 4 (I 0) ((U 0) :: rp 4 (I 0) ((U 0) :: rp 4 (I 0) ((U 0) :: rp 4 (I 0) ((U 0) :: rp 4 (I 0) ((U 0) :: rp 4 (I 0) ([U 0]))))))))))))))) :: ((I 3) :: (I 2) :: (I 0) :: (I 0) :: (U 0) :: (I 3) :: (I 3) :: (I 0) :: (I 0) :: (U 0) :: rp 4 (I 0) ((U 0) :: rp 4 (I 0) ((U 0) :: rp 4 (I 0) ((U 0) :: rp 4 (I 0) ((U 0) :: rp 4 (I 0) ((U 0) :: rp 4 (I 0) ((U 0) :: rp 4 (I 0) ((U 0) :: rp 4 (I 0) ((U 0) :: rp 4 (I 0) ((U 0) :: rp 4 (I 0) ((U 0) :: rp 4 (I 0) ((U 0) :: rp 4 (I 0) ((U 0) :: rp 4 (I 0) ((U 0) :: rp 4 (I 0) ([U 0]))))))))))))))) :: rp 14 (rp 4 (I 0) ((U 0) :: rp 4 (I 0) ((U 0) :: rp 4 (I 0) ((U 0) :: rp 4 (I 0) ((U 0) :: rp 4 (I 0) ((U 0) :: rp 4 (I 0) ((U 0) :: rp 4 (I 0) ((U 0) :: rp 4 (I 0) ((U 0) :: rp 4 (I 0) ((U 0) :: rp 4 (I 0) ((U 0) :: rp 4 (I 0) ((U 0) :: rp 4 (I 0) ((U 0) :: rp 4 (I 0) ((U 0) :: rp 4 (I 0) ((U 0) :: rp 4 (I 0) ((U 0) :: rp 4 (I 0) ([U 0]))))))))))))))))) ([])) false),
  (930, .cells 1 ([[.snil]]) false),
  (962, .cells 31 (rp 6 ((bF) :: rp 4 (I 0) ((U 0) :: rp 4 (I 0) ((U 0) :: rp 4 (I 0) ((U 0) :: rp 4 (I 0) ((U 0) :: rp 4 (I 0) ((U 0) :: rp 4 (I 0) ([U 0]))))))) ([])) false),
  (956, .cells 1 ([[.slice 955 0 8 8 3 true]]) false),
  (924, .cells 1 ([[.slice 923 0 8 8 3 true]]) false),
  (948, .cells 1 ([[.snil]]) false),
  (916, .cells 3 (rp 4 ([bT, I 0, bF]) (rp 20 ([bF, I 0, bF]) ([]))) false),
  (964, .cells 1 ([[.slice 2191 0 1 1 1 false]]) false),
  (952, .cells 1 ([[.slice 951 0 12 12 3 true]]) false),
  (920, .cells 2 ([[.ptr 915 0, .ptr 919 0]]) false),
  (936, .cells 1 ([[.snil]]) false),
  (912, .cells 3 ([bT, I 0, bF] :: [bT, I 0, bF] :: rp 14 ([bF, I 0, bF]) ([])) false),
  (2192, .cells 2 ([[.ptr 965 0, .snil]]) false),
  (960, .cells 3 (rp 6 ([bF, I 0, bF]) ([])) false),
  (957, .cells 3 ([IZ (-1), I 60, I 8] :: rp 7 ([I 0, I 0, I 0]) ([])) false),
  (925, .cells 107 ((rp 9 (U 0) ((I 1) :: (I 0) :: (I 8) :: (I 0) :: (I 0) :: (I 0) :: (U 0) :: (I 7) :: (I 1) :: (I 0) :: (I 0) :: (U 0) :: (I 11) :: (I 0) :: (I 0) :: (I 0) :: (U 0) :: (I 12) :: (I 0) :: (I 0) :: (I 0) :: (U 0) :: (I 13) :: (I 0) :: (I 0) :: (I 0) :: (U 0) :: (I 14) :: (I 0) :: (I 0) :: (I 0) :: (U 0) :: rp 4 (I 0) ((U 0) :: rp 4 (I 0) ((U 0) :: rp 4 (I 0) ((U 0) :: rp 4 (I 0) ((U 0) :: rp 4 (I 0) ((U 0) :: rp 4 (I 0) ((U 0) :: rp 4 (I 0) ((U 0) :: rp 4 (I 0) ((U 0) :: rp 4 (I 0) ((U 0) :: rp 4 (I 0) ((U 0) :: (I 2) :: (I 0) :: (I 0) :: (I 0) :: (U 1) :: (I 7) :: (I 1) :: (I 0) :: (I 0) :: (U 0) :: rp 4 (I 0) ([U 0, I 0]))))))))))))) :: (rp 9 (U 0) ((I 3) :: (I 0) :: (I 8) :: (I 0) :: (I 0) :: (I 0) :: (U 0) :: (I 7) :: (I 2) :: (I 0) :: (I 0) :: (U 0) :: (I 11) :: (I 0) :: (I 0) :: (I 0) :: (U 0) :: (I 12) :: (I 0) :: (I 0) :: (I 0) :: (U 0) :: (I 13) :: (I 0) :: (I 0) :: (I 0) :: (U 0) :: (I 14) :: (I 0) :: (I 0) :: (I 0) :: (U 0) :: (I 5) :: (I 0) :: (I 0) :: (I 0) :: (U 1) :: rp 4 (I 0) ((U 0) :: rp 4 (I 0) ((U 0) :: rp 4 (I 0) ((U 0) :: rp 4 (I 0) ((U 0) :: rp 4 (I 0) ((U 0) :: rp 4 (I 0) ((U 0) :: rp 4 (I 0) ((U 0) :: rp 4 (I 0) ((U 0) :: rp 4 (I 0) ((U 0) :: (I 2) :: (I 1) :: (I 0) :: (I 0) :: (U 1) :: (I 7) :: (I 2) :: (I 0) :: (I 0) :: (U 0) :: rp 4 (I 0) ([U 0, I 0])))))))))))) :: rp 6 (rp 9 (U 0) (rp 6 (I 0) ((U 0) :: rp 4 (I 0) ((U 0) :: rp 4 (I 0) ((U 0) :: rp 4 (I 0) ((U 0) :: rp 4 (I 0) ((U 0) :: rp 4 (I 0) ((U 0) :: rp 4 (I 0) ((U 0) :: rp 4 (I 0) ((U 0) :: rp 4 (I 0) ((U 0) :: rp 4 (I 0) ((U 0) :: rp 4 (I 0) ((U 0) :: rp 4 (I 0) ((U 0) :: rp 4 (I 0) ((U 0) :: rp 4 (I 0) ((U 0) :: rp 4 (I 0) ((U 0) :: rp 4 (I 0) ((U 0) :: rp 4 (I 0) ((U 0) :: rp 4 (I 0) ((U 0) :: rp 4 (I 0) ([U 0, I 0]))))))))))))))))))))) ([])) false),
  (917, .cells 1 ([[.slice 916 0 24 24 3 true]]) false),
  (933, .cells 1 ([[.snil]]) false),
  (965, .cells 9 ([[.ptr 922 0, .ptr 926 0, .ptr 954 0, .ptr 959 0, .ptr 963 0, .ptr 964 0, .snil, .snil, I 0]]) false),
  (953, .cells 2 ([IZ (-1), I 2147483647] :: [I 0, I 1000] :: [I 0, I 1000] :: rp 9 ([I 0, I 0]) ([])) false),
  (921, .cells 3 ([[I 16, .snil, I 0]]) false),
  (945, .cells 1 ([[.snil]]) false),
  (913, .cells 1 ([[.slice 912 0 16 16 3 true]]) false),
  (961, .cells 1 ([[.slice 960 0 6 6 3 true]]) false),
  (955, .cells 3 ([bT, I 0, bF] :: rp 7 ([bF, I 0, bF]) ([])) false),
  (923, .cells 3 ([bT, I 0, bF] :: [bT, I 0, bF] :: rp 6 ([bF, I 0, bF]) ([])) false),
  (939, .cells 1 ([[.snil]]) false),
  (915, .cells 2 ([[.ptr 913 0, .slice 914 0 16 16 80 true]]) false),
  (963, .cells 2 ([[.ptr 961 0, .slice 962 0 6 6 31 true]]) false),
  (951, .cells 3 ([bT, I 0, bF] :: [bT, I 0, bF] :: [bT, I 0, bF] :: rp 9 ([bF, I 0, bF]) ([])) false),
  (919, .cells 2 ([[.ptr 917 0, .slice 918 0 24 24 32 true]]) false),
  (2191, .cells 1 ([[I 1]]) false),
  (927, .cells 1 ([[.snil]]) false),
  (959, .cells 5 ([[.ptr 956 0, .slice 957 0 8 8 3 true, .map 958, .ptr 922 0, .ptr 926 0]]) false)] []
noncomputable def m28 : Memo := ⟨[.agg [I 16, I 24, I 8, I 12, I 8, I 6, I 60, .slice 908 0 2 2 4 true]], h24, .tuple [.ptr 2192 0, .inil], h25⟩
noncomputable def l1 : List (Pur) := p27 :: p26 :: p25 :: p24 :: p23 :: p22 :: p21 :: p20 :: p19 :: p18 :: p17 :: p16 :: p15 :: p14 :: p13 :: []
theorem l1_ok {σ : Nat → Int} {W0 : World} (hL : L0 W0) : ∀ x ∈ l1, PureOk Tryz.prog 26623 σ W0 70 x := all_cons (p27_ok hL) (all_cons (p26_ok hL) (all_cons (p25_ok hL) (all_cons (p24_ok hL) (all_cons (p23_ok hL) (all_cons (p22_ok hL) (all_cons (p21_ok hL) (all_cons (p20_ok hL) (all_cons (p19_ok hL) (all_cons (p18_ok hL) (all_cons (p17_ok hL) (all_cons (p16_ok hL) (all_cons (p15_ok hL) (all_cons (p14_ok hL) (all_cons (p13_ok hL) (all_nil)))))))))))))))
theorem m28_run : ranTo (evCall (cxX Tryz.prog bad [] [] ((70, pureFn l1) :: q0)) 1000 60 21 m28.args m28.h) m28.v m28.h' = true := by kernel_rfl
theorem m28_ok {σ : Nat → Int} {W0 : World} (hL : L0 W0) : MemoOk Tryz.prog 26623 σ W0 21 m28 := memo_ok fit (Known2.nil σ) (FnsOk.cons (pure_fn_ok (l1_ok hL)) ((q0_ok hL))) m28_run
noncomputable def p29 : Pur := ([.agg [I 3, I 4, I 0, I 0, U 0]], .inil, 1048576)
theorem p29_run : ranPure (evCall (cxX Tryz.prog bad [] [] q0) 1000 60 70 p29.1 ⟨.lf, p29.2.2⟩) p29.2.1 = true := by kernel_rfl
theorem p29_ok {σ : Nat → Int} {W0 : World} (hL : L0 W0) : PureOk Tryz.prog 26623 σ W0 70 p29 := pure_ok fit (Known2.nil σ) ((q0_ok hL)) p29_run
noncomputable def q1 : Fns := [(19, pureFn [p0]), (23, frameFn [m12]), (21, frameFn [m28]), (239, isFn 439), (172, atoiFullFn 393), (105, itoaFullFn), (270, countFn), (312, indexFn), (271, cutOf Tryz.prog 26623 bad [(270, countFn), (312, indexFn)] 1000 20 271)]
theorem q1_ok {σ : Nat → Int} {W0 : World} (hL : L0 W0) : FnsOk Tryz.prog 26623 σ W0 q1 := FnsOk.cons (pure_fn_ok (all_cons (p0_ok hL) (all_nil))) (FnsOk.cons (frame_fn_ok (all_cons (m12_ok hL) (all_nil))) (FnsOk.cons (frame_fn_ok (all_cons (m28_ok hL) (all_nil))) (FnsOk.cons (ext_is hL) (FnsOk.cons (ext_atoi hL) (FnsOk.cons (ext_itoa hL) (FnsOk.cons (ext_count hL) (FnsOk.cons (ext_index hL) (FnsOk.cons (ext_cut271 hL) (FnsOk.nil)))))))))
theorem run0 : isTrue (evCall (cxX Tryz.prog bad [] [] ((20, numExtE [(0, 20, .lit 0), (1, 3, .lit 0)]) :: (70, pureFn [p15, p29, p26]) :: q1)) 1000 60 5 [.int .i64 (.var 0), .int .i64 (.var 1)] (sentH 439 19 errTab)) = true := by kernel_rfl
abbrev CaseS (rng : Rg) (facts : List (Bool × E × E × Bool)) (tab : NumTabE) (vs : List V) : Prop := ∀ {σ : Nat → Int} {W : World} (hL : L0 W) (hk : Known2 σ rng facts) (hT : TabOk Tryz.prog bad 20 σ tab) {xs : Array Value} (hv : ∀ ρ, VRs σ ρ vs xs.toList), Calls Tryz.prog 5 xs W fun e w' => e = .returned (.bool true) ∧ Below W.heap.size W w'
theorem caseS {rng : Rg} {facts : List (Bool × E × E × Bool)} {tab : NumTabE} {vs : List V} {fs : Fns} (hx : ∀ {σ : Nat → Int} {W : World}, L0 W → Known2 σ rng facts → TabOk Tryz.prog bad 20 σ tab → FnsOk Tryz.prog 26623 σ W fs)
    (run : isTrue (evCall (cxX Tryz.prog bad rng facts fs) 1000 60 5 vs (sentH 439 19 errTab)) = true) : CaseS rng facts tab vs := by
  intro σ W hL hk hT xs hv
  obtain ⟨ads, h1, h2, h3⟩ := errs_sents hL
  exact law_case_x fit h1 h2 h3 errs_all errs_lt (by kernel_rfl) hk (hx hL hk hT) hv ⟨_, Tryz.func5, rfl⟩ run
theorem case0 : CaseS [] [] [(0, 20, .lit 0), (1, 3, .lit 0)] [.int .i64 (.var 0), .int .i64 (.var 1)] := caseS (fun hL hk hT => FnsOk.cons (hT.ok fit) (FnsOk.cons (pure_fn_ok (all_cons (p15_ok hL) (all_cons (p29_ok hL) (all_cons (p26_ok hL) (all_nil))))) ((q1_ok hL)))) run0
theorem run1 : isTrue (evCall (cxX Tryz.prog bad [] [] ((20, numExtE [(0, 20, .lit 0), (1, 3, .lit 1)]) :: (70, pureFn [p15, p29, p26]) :: q1)) 1000 60 5 [.int .i64 (.var 0), .int .i64 (.var 1)] (sentH 439 19 errTab)) = true := by kernel_rfl
theorem case1 : CaseS [] [] [(0, 20, .lit 0), (1, 3, .lit 1)] [.int .i64 (.var 0), .int .i64 (.var 1)] := caseS (fun hL hk hT => FnsOk.cons (hT.ok fit) (FnsOk.cons (pure_fn_ok (all_cons (p15_ok hL) (all_cons (p29_ok hL) (all_cons (p26_ok hL) (all_nil))))) ((q1_ok hL)))) run1
theorem run2 : isTrue (evCall (cxX Tryz.prog bad [] [] ((20, numExtE [(0, 20, .lit 0), (1, 3, .lit 2)]) :: (70, pureFn [p15, p29, p26]) :: q1)) 1000 60 5 [.int .i64 (.var 0), .int .i64 (.var 1)] (sentH 439 19 errTab)) = true := by kernel_rfl
theorem case2 : CaseS [] [] [(0, 20, .lit 0), (1, 3, .lit 2)] [.int .i64 (.var 0), .int .i64 (.var 1)] := caseS (fun hL hk hT => FnsOk.cons (hT.ok fit) (FnsOk.cons (pure_fn_ok (all_cons (p15_ok hL) (all_cons (p29_ok hL) (all_cons (p26_ok hL) (all_nil))))) ((q1_ok hL)))) run2
noncomputable def h26 : H := hUpd h0 72 [] [(54, .cells 3 ([bT, I 0, bF] :: [bT, I 0, bF] :: rp 6 ([bF, I 0, bF]) ([])) false),
  (70, .cells 3 ([bT, I 0, bF] :: [bT, I 0, bF] :: rp 14 ([bF, I 0, bF]) ([])) false),
  (38, .cells 1 ([[.slice 51 0 1 1 1 false]]) false),
  (42, .cells 107 (((.int .u32 (.var 2)) :: (U 0) :: (U 0) :: (U 0) :: (.int .u32 (.var 3)) :: (U 0) :: (.int .u32 (.var 4)) :: (U 0) :: (.int .u32 (.var 5)) :: (.int .i64 (.var 6)) :: (I 0) :: (I 8) :: (I 0) :: (I 0) :: (I 0) :: (U 0) :: (I 7) :: (I 1) :: (I 0) :: (I 0) :: (U 0) :: (I 11) :: (I 0) :: (I 0) :: (I 0) :: (U 0) :: (I 12) :: (I 0) :: (I 0) :: (I 0) :: (U 0) :: (I 13) :: (I 0) :: (I 0) :: (I 0) :: (U 0) :: (I 14) :: (I 0) :: (I 0) :: (I 0) :: (U 0) :: rp 4 (I 0) ((U 0) :: rp 4 (I 0) ((U 0) :: rp 4 (I 0) ((U 0) :: rp 4 (I 0) ((U 0) :: rp 4 (I 0) ((U 0) :: rp 4 (I 0) ((U 0) :: (.int .i64 (.var 7)) :: (I 0) :: (I 0) :: (I 0) :: (U 0) :: (.int .i64 (.var 8)) :: (.int .i64 (.var 9)) :: (I 0) :: (I 0) :: (U 0) :: (.int .i64 (.var 10)) :: (I 0) :: (I 0) :: (I 0) :: (U 0) :: (.int .i64 (.var 11)) :: (.int .i64 (.var 12)) :: (I 0) :: (I 0) :: (.int .u32 (.var 13)) :: (I 2) :: (I 0) :: (I 0) :: (I 0) :: (U 1) :: (I 7) :: (I 1) :: (I 0) :: (I 0) :: (U 0) :: rp 4 (I 0) ([U 0, I 0])))))))) :: ((.int .u32 (.var 14)) :: rp 5 (U 0) ((.int .u32 (.var 15)) :: (.int .u32 (.var 16)) :: (.int .u32 (.var 17)) :: (I 3) :: (I 0) :: (I 8) :: (I 0) :: (I 0) :: (I 0) :: (U 0) :: (I 7) :: (I 2) :: (I 0) :: (I 0) :: (U 0) :: (I 11) :: (I 0) :: (I 0) :: (I 0) :: (U 0) :: (I 12) :: (I 0) :: (I 0) :: (I 0) :: (U 0) :: (I 13) :: (I 0) :: (I 0) :: (I 0) :: (U 0) :: (I 14) :: (I 0) :: (I 0) :: (I 0) :: (U 0) :: (I 5) :: (I 0) :: (I 0) :: (I 0) :: (U 1) :: rp 4 (I 0) ((U 0) :: rp 4 (I 0) ((U 0) :: rp 4 (I 0) ((U 0) :: rp 4 (I 0) ((U 0) :: rp 4 (I 0) ((U 0) :: (.int .i64 (.var 18)) :: (I 0) :: (I 0) :: (I 0) :: (U 0) :: (.int .i64 (.var 19)) :: (I 0) :: (I 0) :: (I 0) :: (U 0) :: (.int .i64 (.var 20)) :: (I 0) :: (I 0) :: (I 0) :: (U 0) :: rp 4 (I 0) ((U 0) :: (I 2) :: (I 1) :: (I 0) :: (I 0) :: (U 1) :: (I 7) :: (I 2) :: (I 0) :: (I 0) :: (U 0) :: rp 4 (I 0) ([U 0, .int .i64 (.var 21)]))))))))) :: rp 6 (rp 9 (U 0) (rp 6 (I 0) ((U 0) :: rp 4 (I 0) ((U 0) :: rp 4 (I 0) ((U 0) :: rp 4 (I 0) ((U 0) :: rp 4 (I 0) ((U 0) :: rp 4 (I 0) ((U 0) :: rp 4 (I 0) ((U 0) :: rp 4 (I 0) ((U 0) :: rp 4 (I 0) ((U 0) :: rp 4 (I 0) ((U 0) :: rp 4 (I 0) ((U 0) :: rp 4 (I 0) ((U 0) :: rp 4 (I 0) ((U 0) :: rp 4 (I 0) ((U 0) :: rp 4 (I 0) ((U 0) :: rp 4 (I 0) ((U 0) :: rp 4 (I 0) ((U 0) :: rp 4 (I 0) ((U 0) :: rp 4 (I 0) ([U 0, I 0]))))))))))))))))))))) ([])) false),
  (66, .cells 1 ([[.slice 70 0 16 16 3 true]]) false),
  (34, .cells 3 ([[.ptr 41 0, .slice 42 0 8 8 107 true, .slice 43 0 8 8 1 false]]) false),
  (44, .cells 1 ([[.slice 63 0 12 12 3 true]]) false),
  (52, .cells 2 ([[.ptr 66 0, .slice 67 0 16 16 80 true]]) false),
  (68, .cells 1 ([[.slice 71 0 24 24 3 true]]) false),
  (40, .cells 3 ([[I 16, .snil, .int .i64 (.var 1)]]) false),
  (32, .cells 9 ([[.ptr 33 0, .ptr 34 0, .ptr 35 0, .ptr 36 0, .ptr 37 0, .ptr 38 0, .snil, .snil, .int .i64 (.var 0)]]) false),
  (45, .cells 2 ([IZ (-1), .int .i64 (.var 22)] :: [I 0, .int .i64 (.var 23)] :: [I 0, .int .i64 (.var 24)] :: rp 9 ([I 0, I 0]) ([])) false),
  (53, .cells 2 ([[.ptr 68 0, .slice 69 0 24 24 32 true]]) false),
  (69, .cells 32 (((U 23068673) :: (U 50356224) :: (U 186580992) :: (U 67108864) :: rp 28 (U 0) ([])) :: (rp 32 (U 0) ([])) :: ((U 24117298) :: (U 23068673) :: (U 91226118) :: (U 184942592) :: (U 58155009) :: (U 67108866) :: (U 218103808) :: rp 25 (U 0) ([])) :: rp 21 (rp 32 (U 0) ([])) ([])) false),
  (41, .cells 1 ([[.slice 54 0 8 8 3 true]]) false),
  (33, .cells 3 ([[.ptr 39 0, I 16, .ptr 40 0]]) false),
  (51, .cells 1 ([[I 1]]) false),
  (67, .cells 80 (((I 3) :: (I 0) :: (I 0) :: (I 0) :: (U 0) :: (I 3) :: (I 1) :: (I 0) :: (I 0) :: (U 0) :: rp 4 (I 0) ((U 0) :: rp 4 (I 0) ((U 0) :: rp 4 (I 0) ((U 0) :: rp 4 (I 0) ((U 0) :: rp 4 (I 0) ((U 0) :: rp 4 (I 0) ((U 0) :: rp 4 (I 0) ((U 0) :: rp 4 (I 0) ((U 0) :: rp 4 (I 0) ((U 0) :: rp 4 (I 0) ((U 0) :: rp 4 (I 0) ((U 0) :: rp 4 (I 0) ((U 0) :: rp 4 (I 0) ((U 0) :: rp 4 (I 0) ([U 0]))))))))))))))) :: ((I 3) :: (I 2) :: (I 0) :: (I 0) :: (U 0) :: (I 3) :: (I 3) :: (I 0) :: (I 0) :: (U 0) :: rp 4 (I 0) ((U 0) :: rp 4 (I 0) ((U 0) :: rp 4 (I 0) ((U 0) :: rp 4 (I 0) ((U 0) :: rp 4 (I 0) ((U 0) :: rp 4 (I 0) ((U 0) :: rp 4 (I 0) ((U 0) :: rp 4 (I 0) ((U 0) :: rp 4 (I 0) ((U 0) :: rp 4 (I 0) ((U 0) :: rp 4 (I 0) ((U 0) :: rp 4 (I 0) ((U 0) :: rp 4 (I 0) ((U 0) :: rp 4 (I 0) ([U 0]))))))))))))))) :: rp 14 (rp 4 (I 0) ((U 0) :: rp 4 (I 0) ((U 0) :: rp 4 (I 0) ((U 0) :: rp 4 (I 0) ((U 0) :: rp 4 (I 0) ((U 0) :: rp 4 (I 0) ((U 0) :: rp 4 (I 0) ((U 0) :: rp 4 (I 0) ((U 0) :: rp 4 (I 0) ((U 0) :: rp 4 (I 0) ((U 0) :: rp 4 (I 0) ((U 0) :: rp 4 (I 0) ((U 0) :: rp 4 (I 0) ((U 0) :: rp 4 (I 0) ((U 0) :: rp 4 (I 0) ((U 0) :: rp 4 (I 0) ([U 0]))))))))))))))))) ([])) false),
  (35, .cells 2 ([[.ptr 44 0, .slice 45 0 12 12 2 true]]) false),
  (71, .cells 3 (rp 4 ([bT, I 0, bF]) (rp 20 ([bF, I 0, bF]) ([]))) false),
  (39, .cells 2 ([[.ptr 52 0, .ptr 53 0]]) false),
  (63, .cells 3 ([bT, I 0, bF] :: [bT, I 0, bF] :: [bT, I 0, bF] :: rp 9 ([bF, I 0, bF]) ([])) false)] []
noncomputable def s0 : Sym := ⟨[.ptr 32 0, I 0], h26, [32, 33, 34, 35, 38, 39, 40, 41, 42, 44, 45, 51, 52, 53, 54, 63, 66, 67, 68, 69, 70, 71, 30, 22, 14, 26, 10, 6, 28, 20, 24, 8, 4, 2, 29, 21, 13, 25, 9, 5, 27, 19, 23, 31, 7, 3, 1, 0], [(0, 1099511627775), (0, 1099511627775), (0, 4294967295), (0, 4294967295), (0, 4294967295), (0, 4294967295), (0, 1099511627775), (0, 1099511627775), (0, 1099511627775), (0, 1099511627775), (0, 1099511627775), (0, 1099511627775), (0, 1099511627775), (0, 4294967295), (0, 4294967295), (0, 4294967295), (0, 4294967295), (0, 4294967295), (0, 1099511627775), (0, 1099511627775), (0, 1099511627775), (0, 1099511627775), (0, 1099511627775), (0, 1099511627775), (0, 1099511627775)],
  [(true, .bop .quo .u32 (.var 17) (.lit 32), .lit 0, true), (true, .bop .rem .u32 (.var 17) (.lit 32), .lit 0, true), (false, .var 24, .lit 1, false), (false, .var 22, .lit 1, false), (false, .var 17, .lit 512, true), (false, .lit 536870911, .var 21, false), (false, .lit 14, .var 18, false), (true, .var 18, .lit 2, false), (true, .var 18, .lit 3, false), (true, .var 18, .lit 4, false), (true, .var 18, .lit 5, false), (true, .var 18, .lit 6, false), (true, .var 18, .lit 7, false), (true, .var 18, .lit 8, false), (true, .var 18, .lit 9, false), (true, .var 18, .lit 10, false), (true, .var 18, .lit 1, false), (false, .lit 14, .var 19, false), (true, .var 19, .lit 2, false), (true, .var 19, .lit 3, false), (true, .var 19, .lit 4, false), (true, .var 19, .lit 5, false), (true, .var 19, .lit 6, false), (true, .var 19, .lit 7, false), (true, .var 19, .lit 8, false), (true, .var 19, .lit 9, false), (true, .var 19, .lit 10, false), (true, .var 19, .lit 1, false), (false, .lit 14, .var 20, false), (true, .var 20, .lit 2, false), (true, .var 20, .lit 3, false), (true, .var 20, .lit 4, false), (true, .var 20, .lit 5, false), (true, .var 20, .lit 6, false), (true, .var 20, .lit 7, false), (true, .var 20, .lit 8, false), (true, .var 20, .lit 9, false), (true, .var 20, .lit 10, false), (true, .var 20, .lit 1, false)],
  .agg [I 1, I 1, I 0, U 0, I 0, U 0, IZ (-1), I 0],
  [.cel 32 0 8 (.int .i64 (.add (.var 0) (.lit 1))),
  .row 40 0 ([I 16, .slice 317 0 1 1 10 false, .int .i64 (.var 1)]),
  .cel 42 1 7 (U 50),
  .cel 42 1 8 (.int .u32 (.wrap .u32 (.add (.var 17) (.lit 1)))),
  .row 45 0 ([IZ (-1), .int .i64 (.sub (.var 22) (.lit 1))]),
  .row 45 2 ([I 0, .int .i64 (.sub (.var 24) (.lit 1))]),
  .set 284 (.cells 1 ([[I 1]]) false),
  .set 317 (.cells 10 ([[I 2, I 1, I 0, I 0, U 1, U 0, .slice 284 0 1 1 1 false, I 2, I 0, bF]]) false)], 906⟩
theorem s0_run : ranTo (evCall (cxX Tryz.prog bad s0.rng s0.facts q0) 1000 60 15 s0.args s0.pre) s0.v s0.post = true := by kernel_rfl
theorem s0_ok {W0 : World} (hL : L0 W0) : SymOk Tryz.prog 26623 W0 15 s0 := sym_ok fit (fun σ hk => (q0_ok hL)) s0_run (by kernel_rfl)
noncomputable def y0 : List Sym := [s0]
theorem y0_ok {W0 : World} (hL : L0 W0) : ∀ x ∈ y0, SymOk Tryz.prog 26623 W0 15 x := all_cons (s0_ok hL) (all_nil)
theorem run3 : isTrue (evCall (cxX Tryz.prog bad [] [] ((20, numExtE [(0, 20, .lit 1), (1, 3, .lit 0)]) :: (15, symFn (cxX Tryz.prog bad [] [] []) 32 y0) :: (70, pureFn [p15, p29, p26]) :: q1)) 1000 60 5 [.int .i64 (.var 0), .int .i64 (.var 1)] (sentH 439 19 errTab)) = true := by kernel_rfl
theorem case3 : CaseS [] [] [(0, 20, .lit 1), (1, 3, .lit 0)] [.int .i64 (.var 0), .int .i64 (.var 1)] := caseS (fun hL hk hT => FnsOk.cons (hT.ok fit) (FnsOk.cons (sym_fn_ok (Γ := cxX Tryz.prog bad [] [] []) (fix := 32) ⟨hk.rng, hk.facts⟩ (by decide) (y0_ok hL)) (FnsOk.cons (pure_fn_ok (all_cons (p15_ok hL) (all_cons (p29_ok hL) (all_cons (p26_ok hL) (all_nil))))) ((q1_ok hL))))) run3
theorem run4 : isTrue (evCall (cxX Tryz.prog bad [] [] ((20, numExtE [(0, 20, .lit 1), (1, 3, .lit 1)]) :: (15, symFn (cxX Tryz.prog bad [] [] []) 32 y0) :: (70, pureFn [p15, p29, p26]) :: q1)) 1000 60 5 [.int .i64 (.var 0), .int .i64 (.var 1)] (sentH 439 19 errTab)) = true := by kernel_rfl
theorem case4 : CaseS [] [] [(0, 20, .lit 1), (1, 3, .lit 1)] [.int .i64 (.var 0), .int .i64 (.var 1)] := caseS (fun hL hk hT => FnsOk.cons (hT.ok fit) (FnsOk.cons (sym_fn_ok (Γ := cxX Tryz.prog bad [] [] []) (fix := 32) ⟨hk.rng, hk.facts⟩ (by decide) (y0_ok hL)) (FnsOk.cons (pure_fn_ok (all_cons (p15_ok hL) (all_cons (p29_ok hL) (all_cons (p26_ok hL) (all_nil))))) ((q1_ok hL))))) run4
theorem run5 : isTrue (evCall (cxX Tryz.prog bad [] [] ((20, numExtE [(0, 20, .lit 1), (1, 3, .lit 2)]) :: (15, symFn (cxX Tryz.prog bad [] [] []) 32 y0) :: (70, pureFn [p15, p29, p26]) :: q1)) 1000 60 5 [.int .i64 (.var 0), .int .i64 (.var 1)] (sentH 439 19 errTab)) = true := by kernel_rfl
theorem case5 : CaseS [] [] [(0, 20, .lit 1), (1, 3, .lit 2)] [.int .i64 (.var 0), .int .i64 (.var 1)] := caseS (fun hL hk hT => FnsOk.cons (hT.ok fit) (FnsOk.cons (sym_fn_ok (Γ := cxX Tryz.prog bad [] [] []) (fix := 32) ⟨hk.rng, hk.facts⟩ (by decide) (y0_ok hL)) (FnsOk.cons (pure_fn_ok (all_cons (p15_ok hL) (all_cons (p29_ok hL) (all_cons (p26_ok hL) (all_nil))))) ((q1_ok hL))))) run5
noncomputable def h27 : H := hUpd h26 74 [66, 52, 68, 67, 71, 63] [(54, .cells 10 ([[I 2, I 1, I 0, I 0, U 1, U 0, .slice 71 0 1 1 1 false, I 2, I 0, bF]]) false),
  (70, .cells 32 (((U 23068673) :: (U 50356224) :: (U 186580992) :: (U 67108864) :: rp 28 (U 0) ([])) :: (rp 32 (U 0) ([])) :: ((U 24117298) :: (U 23068673) :: (U 91226118) :: (U 184942592) :: (U 58155009) :: (U 67108866) :: (U 218103808) :: rp 25 (U 0) ([])) :: rp 21 (rp 32 (U 0) ([])) ([])) false),
  (64, .cells 3 ([bT, I 0, bF] :: [bT, I 0, bF] :: [bT, I 0, bF] :: rp 9 ([bF, I 0, bF]) ([])) false),
  (69, .cells 1 ([[.slice 73 0 24 24 3 true]]) false),
  (73, .cells 3 (rp 4 ([bT, I 0, bF]) (rp 20 ([bF, I 0, bF]) ([]))) false),
  (55, .cells 3 ([bT, I 0, bF] :: [bT, I 0, bF] :: rp 6 ([bF, I 0, bF]) ([])) false)] [(44, 0, [.slice 64 0 12 12 3 true]),
  (40, 0, [I 16, .slice 54 0 1 1 10 false, .int .i64 (.var 1)]),
  (53, 0, [.ptr 69 0, .slice 70 0 24 24 32 true]),
  (41, 0, [.slice 55 0 8 8 3 true])]
noncomputable def s1 : Sym := ⟨[.ptr 32 0, I 0], h27, [32, 33, 34, 35, 38, 39, 40, 41, 42, 44, 45, 51, 53, 54, 55, 64, 69, 70, 73, 30, 22, 14, 26, 10, 6, 28, 20, 24, 8, 4, 2, 29, 21, 13, 25, 9, 5, 27, 19, 23, 31, 7, 3, 1, 0], [(0, 1099511627775), (0, 1099511627775), (0, 4294967295), (0, 4294967295), (0, 4294967295), (0, 4294967295), (0, 1099511627775), (0, 1099511627775), (0, 1099511627775), (0, 1099511627775), (0, 1099511627775), (0, 1099511627775), (0, 1099511627775), (0, 4294967295), (0, 4294967295), (0, 4294967295), (0, 4294967295), (0, 4294967295), (0, 1099511627775), (0, 1099511627775), (0, 1099511627775), (0, 1099511627775), (0, 1099511627775), (0, 1099511627775), (0, 1099511627775)],
  [(true, .bop .rem .u32 (.var 17) (.lit 32), .lit 1, true), (false, .var 24, .lit 1, false), (false, .var 22, .lit 1, false), (true, .lit 0, .bop .quo .u32 (.var 17) (.lit 32), true), (false, .lit 536870911, .var 21, false), (false, .lit 14, .var 18, false), (true, .var 18, .lit 2, false), (true, .var 18, .lit 3, false), (true, .var 18, .lit 4, false), (true, .var 18, .lit 5, false), (true, .var 18, .lit 6, false), (true, .var 18, .lit 7, false), (true, .var 18, .lit 8, false), (true, .var 18, .lit 9, false), (true, .var 18, .lit 10, false), (true, .var 18, .lit 1, false), (false, .lit 14, .var 19, false), (true, .var 19, .lit 2, false), (true, .var 19, .lit 3, false), (true, .var 19, .lit 4, false), (true, .var 19, .lit 5, false), (true, .var 19, .lit 6, false), (true, .var 19, .lit 7, false), (true, .var 19, .lit 8, false), (true, .var 19, .lit 9, false), (true, .var 19, .lit 10, false), (true, .var 19, .lit 1, false), (false, .lit 14, .var 20, false), (true, .var 20, .lit 2, false), (true, .var 20, .lit 3, false), (true, .var 20, .lit 4, false), (true, .var 20, .lit 5, false), (true, .var 20, .lit 6, false), (true, .var 20, .lit 7, false), (true, .var 20, .lit 8, false), (true, .var 20, .lit 9, false), (true, .var 20, .lit 10, false), (true, .var 20, .lit 1, false)],
  .agg [I 1, I 1, I 0, U 0, I 0, U 0, IZ (-1), I 0],
  [.cel 32 0 8 (.int .i64 (.add (.var 0) (.lit 1))),
  .row 40 0 ([I 16, .slice 54 0 1 1 10 false, .int .i64 (.add (.var 1) (.lit 1))]),
  .cel 42 1 6 (U 1),
  .cel 42 1 8 (.int .u32 (.wrap .u32 (.add (.var 17) (.lit 1)))),
  .row 45 0 ([IZ (-1), .int .i64 (.sub (.var 22) (.lit 1))]),
  .row 45 2 ([I 0, .int .i64 (.sub (.var 24) (.lit 1))])], 774⟩
theorem s1_run : ranTo (evCall (cxX Tryz.prog bad s1.rng s1.facts q0) 1000 60 15 s1.args s1.pre) s1.v s1.post = true := by kernel_rfl
theorem s1_ok {W0 : World} (hL : L0 W0) : SymOk Tryz.prog 26623 W0 15 s1 := sym_ok fit (fun σ hk => (q0_ok hL)) s1_run (by kernel_rfl)
noncomputable def y1 : List Sym := [s0, s1]
theorem y1_ok {W0 : World} (hL : L0 W0) : ∀ x ∈ y1, SymOk Tryz.prog 26623 W0 15 x := all_cons (s0_ok hL) (all_cons (s1_ok hL) (all_nil))
theorem run6 : isTrue (evCall (cxX Tryz.prog bad [] [] ((20, numExtE [(0, 20, .lit 2), (1, 3, .lit 0)]) :: (15, symFn (cxX Tryz.prog bad [] [] []) 32 y1) :: (70, pureFn [p15, p29, p26]) :: q1)) 1000 60 5 [.int .i64 (.var 0), .int .i64 (.var 1)] (sentH 439 19 errTab)) = true := by kernel_rfl
theorem case6 : CaseS [] [] [(0, 20, .lit 2), (1, 3, .lit 0)] [.int .i64 (.var 0), .int .i64 (.var 1)] := caseS (fun hL hk hT => FnsOk.cons (hT.ok fit) (FnsOk.cons (sym_fn_ok (Γ := cxX Tryz.prog bad [] [] []) (fix := 32) ⟨hk.rng, hk.facts⟩ (by decide) (y1_ok hL)) (FnsOk.cons (pure_fn_ok (all_cons (p15_ok hL) (all_cons (p29_ok hL) (all_cons (p26_ok hL) (all_nil))))) ((q1_ok hL))))) run6
theorem run7 : isTrue (evCall (cxX Tryz.prog bad [] [] ((20, numExtE [(0, 20, .lit 2), (1, 3, .lit 1)]) :: (15, symFn (cxX Tryz.prog bad [] [] []) 32 y1) :: (70, pureFn [p15, p29, p26]) :: q1)) 1000 60 5 [.int .i64 (.var 0), .int .i64 (.var 1)] (sentH 439 19 errTab)) = true := by kernel_rfl
theorem case7 : CaseS [] [] [(0, 20, .lit 2), (1, 3, .lit 1)] [.int .i64 (.var 0), .int .i64 (.var 1)] := caseS (fun hL hk hT => FnsOk.cons (hT.ok fit) (FnsOk.cons (sym_fn_ok (Γ := cxX Tryz.prog bad [] [] []) (fix := 32) ⟨hk.rng, hk.facts⟩ (by decide) (y1_ok hL)) (FnsOk.cons (pure_fn_ok (all_cons (p15_ok hL) (all_cons (p29_ok hL) (all_cons (p26_ok hL) (all_nil))))) ((q1_ok hL))))) run7
theorem run8 : isTrue (evCall (cxX Tryz.prog bad [] [] ((20, numExtE [(0, 20, .lit 2), (1, 3, .lit 2)]) :: (15, symFn (cxX Tryz.prog bad [] [] []) 32 y1) :: (70, pureFn [p15, p29, p26]) :: q1)) 1000 60 5 [.int .i64 (.var 0), .int .i64 (.var 1)] (sentH 439 19 errTab)) = true := by kernel_rfl
theorem case8 : CaseS [] [] [(0, 20, .lit 2), (1, 3, .lit 2)] [.int .i64 (.var 0), .int .i64 (.var 1)] := caseS (fun hL hk hT => FnsOk.cons (hT.ok fit) (FnsOk.cons (sym_fn_ok (Γ := cxX Tryz.prog bad [] [] []) (fix := 32) ⟨hk.rng, hk.facts⟩ (by decide) (y1_ok hL)) (FnsOk.cons (pure_fn_ok (all_cons (p15_ok hL) (all_cons (p29_ok hL) (all_cons (p26_ok hL) (all_nil))))) ((q1_ok hL))))) run8
noncomputable def s2 : Sym := ⟨[.ptr 32 0, I 0], h27, [32, 33, 34, 35, 38, 39, 40, 41, 42, 44, 45, 51, 53, 54, 55, 64, 69, 70, 73, 30, 22, 14, 26, 10, 6, 28, 20, 24, 8, 4, 2, 29, 21, 13, 25, 9, 5, 27, 19, 23, 31, 7, 3, 1, 0], [(0, 1099511627775), (0, 1099511627775), (0, 4294967295), (0, 4294967295), (0, 4294967295), (0, 4294967295), (0, 1099511627775), (0, 1099511627775), (0, 1099511627775), (0, 1099511627775), (0, 1099511627775), (0, 1099511627775), (0, 1099511627775), (0, 4294967295), (0, 4294967295), (0, 4294967295), (0, 4294967295), (0, 4294967295), (0, 1099511627775), (0, 1099511627775), (0, 1099511627775), (0, 1099511627775), (0, 1099511627775), (0, 1099511627775), (0, 1099511627775)],
  [(true, .bop .rem .u32 (.var 17) (.lit 32), .lit 2, true), (false, .var 24, .lit 1, false), (false, .var 22, .lit 1, false), (true, .lit 0, .bop .quo .u32 (.var 17) (.lit 32), true), (true, .var 16, .lit 0, false), (false, .lit 536870911, .var 21, false), (false, .lit 14, .var 18, false), (true, .var 18, .lit 2, false), (true, .var 18, .lit 3, false), (true, .var 18, .lit 4, false), (true, .var 18, .lit 5, false), (true, .var 18, .lit 6, false), (true, .var 18, .lit 7, false), (true, .var 18, .lit 8, false), (true, .var 18, .lit 9, false), (true, .var 18, .lit 10, false), (true, .var 18, .lit 1, false), (false, .lit 14, .var 19, false), (true, .var 19, .lit 2, false), (true, .var 19, .lit 3, false), (true, .var 19, .lit 4, false), (true, .var 19, .lit 5, false), (true, .var 19, .lit 6, false), (true, .var 19, .lit 7, false), (true, .var 19, .lit 8, false), (true, .var 19, .lit 9, false), (true, .var 19, .lit 10, false), (true, .var 19, .lit 1, false), (false, .lit 14, .var 20, false), (true, .var 20, .lit 2, false), (true, .var 20, .lit 3, false), (true, .var 20, .lit 4, false), (true, .var 20, .lit 5, false), (true, .var 20, .lit 6, false), (true, .var 20, .lit 7, false), (true, .var 20, .lit 8, false), (true, .var 20, .lit 9, false), (true, .var 20, .lit 10, false), (true, .var 20, .lit 1, false)],
  .agg [I 1, I 1, I 0, U 0, I 0, U 0, IZ (-1), I 0],
  [.cel 32 0 8 (.int .i64 (.add (.var 0) (.lit 1))),
  .row 40 0 ([I 16, .slice 54 0 1 1 10 false, .int .i64 (.add (.var 1) (.lit 1))]),
  .cel 42 1 8 (.int .u32 (.wrap .u32 (.add (.var 17) (.lit 1)))),
  .row 45 0 ([IZ (-1), .int .i64 (.sub (.var 22) (.lit 1))]),
  .row 45 2 ([I 0, .int .i64 (.sub (.var 24) (.lit 1))])], 772⟩
theorem s2_run : ranTo (evCall (cxX Tryz.prog bad s2.rng s2.facts q0) 1000 60 15 s2.args s2.pre) s2.v s2.post = true := by kernel_rfl
theorem s2_ok {W0 : World} (hL : L0 W0) : SymOk Tryz.prog 26623 W0 15 s2 := sym_ok fit (fun σ hk => (q0_ok hL)) s2_run (by kernel_rfl)
noncomputable def y2 : List Sym := [s0, s1, s2]
theorem y2_ok {W0 : World} (hL : L0 W0) : ∀ x ∈ y2, SymOk Tryz.prog 26623 W0 15 x := all_cons (s0_ok hL) (all_cons (s1_ok hL) (all_cons (s2_ok hL) (all_nil)))
theorem run9 : isTrue (evCall (cxX Tryz.prog bad [] [] ((20, numExtE [(0, 20, .lit 3), (1, 3, .lit 0)]) :: (15, symFn (cxX Tryz.prog bad [] [] []) 32 y2) :: (70, pureFn [p15, p29, p26]) :: q1)) 1000 60 5 [.int .i64 (.var 0), .int .i64 (.var 1)] (sentH 439 19 errTab)) = true := by kernel_rfl
theorem case9 : CaseS [] [] [(0, 20, .lit 3), (1, 3, .lit 0)] [.int .i64 (.var 0), .int .i64 (.var 1)] := caseS (fun hL hk hT => FnsOk.cons (hT.ok fit) (FnsOk.cons (sym_fn_ok (Γ := cxX Tryz.prog bad [] [] []) (fix := 32) ⟨hk.rng, hk.facts⟩ (by decide) (y2_ok hL)) (FnsOk.cons (pure_fn_ok (all_cons (p15_ok hL) (all_cons (p29_ok hL) (all_cons (p26_ok hL) (all_nil))))) ((q1_ok hL))))) run9
theorem run10 : isTrue (evCall (cxX Tryz.prog bad [] [] ((20, numExtE [(0, 20, .lit 3), (1, 3, .lit 1)]) :: (15, symFn (cxX Tryz.prog bad [] [] []) 32 y2) :: (70, pureFn [p15, p29, p26]) :: q1)) 1000 60 5 [.int .i64 (.var 0), .int .i64 (.var 1)] (sentH 439 19 errTab)) = true := by kernel_rfl
theorem case10 : CaseS [] [] [(0, 20, .lit 3), (1, 3, .lit 1)] [.int .i64 (.var 0), .int .i64 (.var 1)] := caseS (fun hL hk hT => FnsOk.cons (hT.ok fit) (FnsOk.cons (sym_fn_ok (Γ := cxX Tryz.prog bad [] [] []) (fix := 32) ⟨hk.rng, hk.facts⟩ (by decide) (y2_ok hL)) (FnsOk.cons (pure_fn_ok (all_cons (p15_ok hL) (all_cons (p29_ok hL) (all_cons (p26_ok hL) (all_nil))))) ((q1_ok hL))))) run10
theorem run11 : isTrue (evCall (cxX Tryz.prog bad [] [] ((20, numExtE [(0, 20, .lit 3), (1, 3, .lit 2)]) :: (15, symFn (cxX Tryz.prog bad [] [] []) 32 y2) :: (70, pureFn [p15, p29, p26]) :: q1)) 1000 60 5 [.int .i64 (.var 0), .int .i64 (.var 1)] (sentH 439 19 errTab)) = true := by kernel_rfl
theorem case11 : CaseS [] [] [(0, 20, .lit 3), (1, 3, .lit 2)] [.int .i64 (.var 0), .int .i64 (.var 1)] := caseS (fun hL hk hT => FnsOk.cons (hT.ok fit) (FnsOk.cons (sym_fn_ok (Γ := cxX Tryz.prog bad [] [] []) (fix := 32) ⟨hk.rng, hk.facts⟩ (by decide) (y2_ok hL)) (FnsOk.cons (pure_fn_ok (all_cons (p15_ok hL) (all_cons (p29_ok hL) (all_cons (p26_ok hL) (all_nil))))) ((q1_ok hL))))) run11
noncomputable def h28 : H := hUpc h27 74 [] [(46, .cells 1 ([[.slice 65 0 8 8 3 true]]) false),
  (36, .cells 5 ([[.ptr 46 0, .slice 47 0 8 8 3 true, .map 48, .ptr 33 0, .ptr 34 0]]) false),
  (65, .cells 3 ([bT, I 0, bF] :: rp 7 ([bF, I 0, bF]) ([])) false)] [(45, 0, [IZ (-1), .int .i64 (.var 21)]),
  (45, 1, [I 0, .int .i64 (.var 22)]),
  (45, 2, [I 0, .int .i64 (.var 23)])] [(42, 0, 9, I 1), (42, 0, 71, .int .i64 (.var 6)), (42, 0, 76, .int .i64 (.var 7)), (42, 0, 77, .int .i64 (.var 8)), (42, 0, 81, .int .i64 (.var 9)), (42, 0, 86, .int .i64 (.var 10)), (42, 0, 87, .int .i64 (.var 11)), (42, 0, 90, .int .u32 (.var 12)), (42, 1, 0, .int .u32 (.var 13)), (42, 1, 6, .int .u32 (.var 14)), (42, 1, 7, .int .u32 (.var 15)), (42, 1, 8, .int .u32 (.var 16)), (42, 1, 71, .int .i64 (.var 17)), (42, 1, 76, .int .i64 (.var 18)), (42, 1, 81, .int .i64 (.var 19)), (42, 1, 106, .int .i64 (.var 20))]
noncomputable def s3 : Sym := ⟨[.ptr 32 0, I 0], h28, [32, 33, 34, 35, 36, 38, 39, 40, 41, 42, 44, 45, 46, 51, 53, 54, 55, 64, 65, 69, 70, 73, 30, 22, 14, 26, 10, 6, 28, 20, 24, 8, 4, 2, 29, 21, 13, 25, 9, 5, 27, 19, 23, 31, 7, 3, 1, 0], [(0, 1099511627775), (0, 1099511627775), (0, 4294967295), (0, 4294967295), (0, 4294967295), (0, 4294967295), (0, 1099511627775), (0, 1099511627775), (0, 1099511627775), (0, 1099511627775), (0, 1099511627775), (0, 1099511627775), (0, 4294967295), (0, 4294967295), (0, 4294967295), (0, 4294967295), (0, 4294967295), (0, 1099511627775), (0, 1099511627775), (0, 1099511627775), (0, 1099511627775), (0, 1099511627775), (0, 1099511627775), (0, 1099511627775)],
  [(true, .bop .rem .u32 (.var 16) (.lit 32), .lit 3, true), (false, .var 23, .lit 1, false), (false, .var 21, .lit 1, false), (true, .lit 0, .bop .quo .u32 (.var 16) (.lit 32), true), (false, .lit 536870911, .var 20, false), (false, .lit 14, .var 17, false), (true, .var 17, .lit 2, false), (true, .var 17, .lit 3, false), (true, .var 17, .lit 4, false), (true, .var 17, .lit 5, false), (true, .var 17, .lit 6, false), (true, .var 17, .lit 7, false), (true, .var 17, .lit 8, false), (true, .var 17, .lit 9, false), (true, .var 17, .lit 10, false), (true, .var 17, .lit 1, false), (false, .lit 14, .var 18, false), (true, .var 18, .lit 2, false), (true, .var 18, .lit 3, false), (true, .var 18, .lit 4, false), (true, .var 18, .lit 5, false), (true, .var 18, .lit 6, false), (true, .var 18, .lit 7, false), (true, .var 18, .lit 8, false), (true, .var 18, .lit 9, false), (true, .var 18, .lit 10, false), (true, .var 18, .lit 1, false), (false, .lit 14, .var 19, false), (true, .var 19, .lit 2, false), (true, .var 19, .lit 3, false), (true, .var 19, .lit 4, false), (true, .var 19, .lit 5, false), (true, .var 19, .lit 6, false), (true, .var 19, .lit 7, false), (true, .var 19, .lit 8, false), (true, .var 19, .lit 9, false), (true, .var 19, .lit 10, false), (true, .var 19, .lit 1, false), (false, .lit 536870911, .add (.var 20) (.lit 1), false), (false, .lit 536870911, .wrap .u32 (.add (.var 20) (.lit 1)), false)],
  .agg [I 1, I 2, I 0, .int .u32 (.var 13), I 5, U 0, I 0, I 0],
  [.cel 32 0 8 (.int .i64 (.add (.var 0) (.lit 1))),
  .row 40 0 ([I 16, .slice 54 0 1 1 10 false, .int .i64 (.add (.var 1) (.lit 1))]),
  .cel 42 0 0 (.int .u32 (.var 13)),
  .cel 42 0 4 (U 1),
  .cel 42 0 9 (I 3),
  .cel 42 0 71 (I 8),
  .cel 42 0 76 (I 7),
  .cel 42 0 77 (I 2),
  .cel 42 0 81 (I 11),
  .cel 42 0 86 (I 6),
  .cel 42 0 87 (I 1),
  .cel 42 0 90 (.int .u32 (.wrap .u32 (.add (.var 20) (.lit 1)))),
  .cel 42 1 8 (.int .u32 (.wrap .u32 (.add (.var 16) (.lit 1)))),
  .cel 42 1 9 (I 2),
  .cel 42 1 106 (.int .i64 (.add (.var 20) (.lit 1))),
  .row 45 0 ([IZ (-1), .int .i64 (.sub (.var 21) (.lit 1))]),
  .row 45 2 ([I 0, .int .i64 (.sub (.var 23) (.lit 1))]),
  .row 51 0 ([I 0])], 2226⟩
theorem s3_run : ranTo (evCall (cxX Tryz.prog bad s3.rng s3.facts q0) 1000 60 15 s3.args s3.pre) s3.v s3.post = true := by kernel_rfl
theorem s3_ok {W0 : World} (hL : L0 W0) : SymOk Tryz.prog 26623 W0 15 s3 := sym_ok fit (fun σ hk => (q0_ok hL)) s3_run (by kernel_rfl)
noncomputable def y3 : List Sym := [s0, s1, s2, s3]
theorem y3_ok {W0 : World} (hL : L0 W0) : ∀ x ∈ y3, SymOk Tryz.prog 26623 W0 15 x := all_cons (s0_ok hL) (all_cons (s1_ok hL) (all_cons (s2_ok hL) (all_cons (s3_ok hL) (all_nil))))
theorem run12 : isTrue (evCall (cxX Tryz.prog bad [] [] ((20, numExtE [(0, 20, .lit 4), (1, 3, .lit 0)]) :: (15, symFn (cxX Tryz.prog bad [] [] []) 32 y3) :: (70, pureFn [p15, p29, p26]) :: q1)) 1000 60 5 [.int .i64 (.var 0), .int .i64 (.var 1)] (sentH 439 19 errTab)) = true := by kernel_rfl
theorem case12 : CaseS [] [] [(0, 20, .lit 4), (1, 3, .lit 0)] [.int .i64 (.var 0), .int .i64 (.var 1)] := caseS (fun hL hk hT => FnsOk.cons (hT.ok fit) (FnsOk.cons (sym_fn_ok (Γ := cxX Tryz.prog bad [] [] []) (fix := 32) ⟨hk.rng, hk.facts⟩ (by decide) (y3_ok hL)) (FnsOk.cons (pure_fn_ok (all_cons (p15_ok hL) (all_cons (p29_ok hL) (all_cons (p26_ok hL) (all_nil))))) ((q1_ok hL))))) run12
theorem run13 : isTrue (evCall (cxX Tryz.prog bad [] [] ((20, numExtE [(0, 20, .lit 4), (1, 3, .lit 1)]) :: (15, symFn (cxX Tryz.prog bad [] [] []) 32 y3) :: (70, pureFn [p15, p29, p26]) :: q1)) 1000 60 5 [.int .i64 (.var 0), .int .i64 (.var 1)] (sentH 439 19 errTab)) = true := by kernel_rfl
theorem case13 : CaseS [] [] [(0, 20, .lit 4), (1, 3, .lit 1)] [.int .i64 (.var 0), .int .i64 (.var 1)] := caseS (fun hL hk hT => FnsOk.cons (hT.ok fit) (FnsOk.cons (sym_fn_ok (Γ := cxX Tryz.prog bad [] [] []) (fix := 32) ⟨hk.rng, hk.facts⟩ (by decide) (y3_ok hL)) (FnsOk.cons (pure_fn_ok (all_cons (p15_ok hL) (all_cons (p29_ok hL) (all_cons (p26_ok hL) (all_nil))))) ((q1_ok hL))))) run13
theorem run14 : isTrue (evCall (cxX Tryz.prog bad [] [] ((20, numExtE [(0, 20, .lit 4), (1, 3, .lit 2)]) :: (15, symFn (cxX Tryz.prog bad [] [] []) 32 y3) :: (70, pureFn [p15, p29, p26]) :: q1)) 1000 60 5 [.int .i64 (.var 0), .int .i64 (.var 1)] (sentH 439 19 errTab)) = true := by kernel_rfl
theorem case14 : CaseS [] [] [(0, 20, .lit 4), (1, 3, .lit 2)] [.int .i64 (.var 0), .int .i64 (.var 1)] := caseS (fun hL hk hT => FnsOk.cons (hT.ok fit) (FnsOk.cons (sym_fn_ok (Γ := cxX Tryz.prog bad [] [] []) (fix := 32) ⟨hk.rng, hk.facts⟩ (by decide) (y3_ok hL)) (FnsOk.cons (pure_fn_ok (all_cons (p15_ok hL) (all_cons (p29_ok hL) (all_cons (p26_ok hL) (all_nil))))) ((q1_ok hL))))) run14
noncomputable def h29 : H := hUpc h27 74 [] [(52, .cells 2 ([[.ptr 67 0, .slice 68 0 16 16 80 true]]) false),
  (68, .cells 80 (((I 3) :: (I 0) :: (I 0) :: (I 0) :: (U 0) :: (I 3) :: (I 1) :: (I 0) :: (I 0) :: (U 0) :: rp 4 (I 0) ((U 0) :: rp 4 (I 0) ((U 0) :: rp 4 (I 0) ((U 0) :: rp 4 (I 0) ((U 0) :: rp 4 (I 0) ((U 0) :: rp 4 (I 0) ((U 0) :: rp 4 (I 0) ((U 0) :: rp 4 (I 0) ((U 0) :: rp 4 (I 0) ((U 0) :: rp 4 (I 0) ((U 0) :: rp 4 (I 0) ((U 0) :: rp 4 (I 0) ((U 0) :: rp 4 (I 0) ((U 0) :: rp 4 (I 0) ([U 0]))))))))))))))) :: ((I 3) :: (I 2) :: (I 0) :: (I 0) :: (U 0) :: (I 3) :: (I 3) :: (I 0) :: (I 0) :: (U 0) :: rp 4 (I 0) ((U 0) :: rp 4 (I 0) ((U 0) :: rp 4 (I 0) ((U 0) :: rp 4 (I 0) ((U 0) :: rp 4 (I 0) ((U 0) :: rp 4 (I 0) ((U 0) :: rp 4 (I 0) ((U 0) :: rp 4 (I 0) ((U 0) :: rp 4 (I 0) ((U 0) :: rp 4 (I 0) ((U 0) :: rp 4 (I 0) ((U 0) :: rp 4 (I 0) ((U 0) :: rp 4 (I 0) ((U 0) :: rp 4 (I 0) ([U 0]))))))))))))))) :: rp 14 (rp 4 (I 0) ((U 0) :: rp 4 (I 0) ((U 0) :: rp 4 (I 0) ((U 0) :: rp 4 (I 0) ((U 0) :: rp 4 (I 0) ((U 0) :: rp 4 (I 0) ((U 0) :: rp 4 (I 0) ((U 0) :: rp 4 (I 0) ((U 0) :: rp 4 (I 0) ((U 0) :: rp 4 (I 0) ((U 0) :: rp 4 (I 0) ((U 0) :: rp 4 (I 0) ((U 0) :: rp 4 (I 0) ((U 0) :: rp 4 (I 0) ((U 0) :: rp 4 (I 0) ((U 0) :: rp 4 (I 0) ([U 0]))))))))))))))))) ([])) false),
  (72, .cells 3 ([bT, I 0, bF] :: [bT, I 0, bF] :: rp 14 ([bF, I 0, bF]) ([])) false),
  (67, .cells 1 ([[.slice 72 0 16 16 3 true]]) false)] [(45, 0, [IZ (-1), .int .i64 (.var 20)]),
  (45, 1, [I 0, .int .i64 (.var 21)]),
  (45, 2, [I 0, .int .i64 (.var 22)]),
  (51, 0, [I 0])] [(42, 0, 9, I 3), (42, 0, 71, I 8), (42, 0, 76, I 7), (42, 0, 77, .int .i64 (.var 6)), (42, 0, 81, .int .i64 (.var 7)), (42, 0, 86, I 6), (42, 0, 87, .int .i64 (.var 8)), (42, 0, 90, .int .u32 (.var 9)), (42, 1, 0, .int .u32 (.var 10)), (42, 1, 6, .int .u32 (.var 11)), (42, 1, 7, .int .u32 (.var 12)), (42, 1, 8, .int .u32 (.var 13)), (42, 1, 9, .int .i64 (.var 14)), (42, 1, 71, .int .i64 (.var 15)), (42, 1, 76, .int .i64 (.var 16)), (42, 1, 77, .int .i64 (.var 17)), (42, 1, 81, .int .i64 (.var 18)), (42, 1, 106, .int .i64 (.var 19))]
noncomputable def s4 : Sym := ⟨[.ptr 32 0, I 0], h29, [32, 33, 34, 35, 38, 39, 40, 41, 42, 44, 45, 51, 52, 53, 54, 55, 64, 67, 68, 69, 70, 72, 73, 30, 22, 14, 26, 10, 6, 28, 20, 24, 8, 4, 2, 29, 21, 13, 25, 9, 5, 27, 19, 23, 31, 7, 3, 1, 0], [(0, 1099511627775), (0, 1099511627775), (0, 4294967295), (0, 4294967295), (0, 4294967295), (0, 4294967295), (0, 1099511627775), (0, 1099511627775), (0, 1099511627775), (0, 4294967295), (0, 4294967295), (0, 4294967295), (0, 4294967295), (0, 4294967295), (0, 1099511627775), (0, 1099511627775), (0, 1099511627775), (0, 1099511627775), (0, 1099511627775), (0, 1099511627775), (0, 1099511627775), (0, 1099511627775), (0, 1099511627775)],
  [(true, .bop .quo .u32 (.var 5) (.lit 32), .lit 0, true), (true, .bop .rem .u32 (.var 5) (.lit 32), .lit 0, true), (false, .var 21, .lit 1, false), (false, .var 20, .lit 1, false), (false, .var 5, .lit 512, true), (false, .var 6, .lit 32, true), (false, .lit 14, .var 7, false), (true, .var 7, .lit 2, false), (true, .var 7, .lit 3, false), (true, .var 7, .lit 4, false), (true, .var 7, .lit 5, false), (true, .var 7, .lit 6, false), (true, .var 7, .lit 7, false), (true, .var 7, .lit 8, false), (true, .var 7, .lit 9, false), (true, .var 7, .lit 10, false), (true, .var 7, .lit 1, false), (false, .var 8, .lit 32, true), (false, .lit 536870911, .var 9, false)],
  .agg [I 0, I 1, I 0, U 0, I 0, U 0, IZ (-1), I 0],
  [.cel 32 0 8 (.int .i64 (.add (.var 0) (.lit 1))),
  .row 40 0 ([I 16, .slice 322 0 2 2 10 false, .int .i64 (.var 1)]),
  .cel 42 0 6 (U 1),
  .cel 42 0 8 (.int .u32 (.wrap .u32 (.add (.var 5) (.lit 1)))),
  .row 45 0 ([IZ (-1), .int .i64 (.sub (.var 20) (.lit 1))]),
  .row 45 1 ([I 0, .int .i64 (.sub (.var 21) (.lit 1))]),
  .del 54,
  .set 322 (.cells 10 ([[I 2, I 1, I 0, I 0, U 1, U 0, .slice 71 0 1 1 1 false, I 2, I 0, bF], [I 2, I 0, I 0, I 0, U 1, U 0, .slice 289 0 1 1 1 false, I 0, I 0, bF]]) false),
  .set 289 (.cells 1 ([[I 0]]) false)], 911⟩
theorem s4_run : ranTo (evCall (cxX Tryz.prog bad s4.rng s4.facts q0) 1000 60 15 s4.args s4.pre) s4.v s4.post = true := by kernel_rfl
theorem s4_ok {W0 : World} (hL : L0 W0) : SymOk Tryz.prog 26623 W0 15 s4 := sym_ok fit (fun σ hk => (q0_ok hL)) s4_run (by kernel_rfl)
noncomputable def y4 : List Sym := [s0, s1, s2, s3, s4]
theorem y4_ok {W0 : World} (hL : L0 W0) : ∀ x ∈ y4, SymOk Tryz.prog 26623 W0 15 x := all_cons (s0_ok hL) (all_cons (s1_ok hL) (all_cons (s2_ok hL) (all_cons (s3_ok hL) (all_cons (s4_ok hL) (all_nil)))))
theorem run15 : isTrue (evCall (cxX Tryz.prog bad [] [] ((20, numExtE [(0, 20, .lit 5), (1, 3, .lit 0)]) :: (15, symFn (cxX Tryz.prog bad [] [] []) 32 y4) :: (70, pureFn [p15, p29, p26]) :: q1)) 1000 60 5 [.int .i64 (.var 0), .int .i64 (.var 1)] (sentH 439 19 errTab)) = true := by kernel_rfl
theorem case15 : CaseS [] [] [(0, 20, .lit 5), (1, 3, .lit 0)] [.int .i64 (.var 0), .int .i64 (.var 1)] := caseS (fun hL hk hT => FnsOk.cons (hT.ok fit) (FnsOk.cons (sym_fn_ok (Γ := cxX Tryz.prog bad [] [] []) (fix := 32) ⟨hk.rng, hk.facts⟩ (by decide) (y4_ok hL)) (FnsOk.cons (pure_fn_ok (all_cons (p15_ok hL) (all_cons (p29_ok hL) (all_cons (p26_ok hL) (all_nil))))) ((q1_ok hL))))) run15
theorem run16 : isTrue (evCall (cxX Tryz.prog bad [] [] ((20, numExtE [(0, 20, .lit 5), (1, 3, .lit 1)]) :: (15, symFn (cxX Tryz.prog bad [] [] []) 32 y4) :: (70, pureFn [p15, p29, p26]) :: q1)) 1000 60 5 [.int .i64 (.var 0), .int .i64 (.var 1)] (sentH 439 19 errTab)) = true := by kernel_rfl
theorem case16 : CaseS [] [] [(0, 20, .lit 5), (1, 3, .lit 1)] [.int .i64 (.var 0), .int .i64 (.var 1)] := caseS (fun hL hk hT => FnsOk.cons (hT.ok fit) (FnsOk.cons (sym_fn_ok (Γ := cxX Tryz.prog bad [] [] []) (fix := 32) ⟨hk.rng, hk.facts⟩ (by decide) (y4_ok hL)) (FnsOk.cons (pure_fn_ok (all_cons (p15_ok hL) (all_cons (p29_ok hL) (all_cons (p26_ok hL) (all_nil))))) ((q1_ok hL))))) run16
theorem run17 : isTrue (evCall (cxX Tryz.prog bad [] [] ((20, numExtE [(0, 20, .lit 5), (1, 3, .lit 2)]) :: (15, symFn (cxX Tryz.prog bad [] [] []) 32 y4) :: (70, pureFn [p15, p29, p26]) :: q1)) 1000 60 5 [.int .i64 (.var 0), .int .i64 (.var 1)] (sentH 439 19 errTab)) = true := by kernel_rfl
theorem case17 : CaseS [] [] [(0, 20, .lit 5), (1, 3, .lit 2)] [.int .i64 (.var 0), .int .i64 (.var 1)] := caseS (fun hL hk hT => FnsOk.cons (hT.ok fit) (FnsOk.cons (sym_fn_ok (Γ := cxX Tryz.prog bad [] [] []) (fix := 32) ⟨hk.rng, hk.facts⟩ (by decide) (y4_ok hL)) (FnsOk.cons (pure_fn_ok (all_cons (p15_ok hL) (all_cons (p29_ok hL) (all_cons (p26_ok hL) (all_nil))))) ((q1_ok hL))))) run17
noncomputable def h30 : H := hUpd h29 75 [52, 68, 72, 73, 67] [(54, .cells 10 ([[I 2, I 1, I 0, I 0, U 1, U 0, .slice 71 0 1 1 1 false, I 2, I 0, bF], [I 2, I 0, I 0, I 0, U 1, U 0, .slice 72 0 1 1 1 false, I 0, I 0, bF]]) false),
  (74, .cells 3 (rp 4 ([bT, I 0, bF]) (rp 20 ([bF, I 0, bF]) ([]))) false)] [(40, 0, [I 16, .slice 54 0 2 2 10 false, .int .i64 (.var 1)]),
  (69, 0, [.slice 74 0 24 24 3 true])]
noncomputable def s5 : Sym := ⟨[.ptr 32 0, I 0], h30, [32, 33, 34, 35, 38, 39, 40, 41, 42, 44, 45, 51, 53, 54, 55, 64, 69, 70, 74, 30, 22, 14, 26, 10, 6, 28, 20, 24, 8, 4, 2, 29, 21, 13, 25, 9, 5, 27, 19, 23, 31, 7, 3, 1, 0], [(0, 1099511627775), (0, 1099511627775), (0, 4294967295), (0, 4294967295), (0, 4294967295), (0, 4294967295), (0, 1099511627775), (0, 1099511627775), (0, 1099511627775), (0, 4294967295), (0, 4294967295), (0, 4294967295), (0, 4294967295), (0, 4294967295), (0, 1099511627775), (0, 1099511627775), (0, 1099511627775), (0, 1099511627775), (0, 1099511627775), (0, 1099511627775), (0, 1099511627775), (0, 1099511627775), (0, 1099511627775)],
  [(true, .bop .rem .u32 (.var 5) (.lit 32), .lit 1, true), (false, .var 21, .lit 1, false), (false, .var 20, .lit 1, false), (true, .lit 0, .bop .quo .u32 (.var 5) (.lit 32), true), (false, .var 6, .lit 32, true), (false, .lit 14, .var 7, false), (true, .var 7, .lit 2, false), (true, .var 7, .lit 3, false), (true, .var 7, .lit 4, false), (true, .var 7, .lit 5, false), (true, .var 7, .lit 6, false), (true, .var 7, .lit 7, false), (true, .var 7, .lit 8, false), (true, .var 7, .lit 9, false), (true, .var 7, .lit 10, false), (true, .var 7, .lit 1, false), (false, .var 8, .lit 32, true), (false, .lit 536870911, .var 9, false)],
  .agg [I 0, I 1, I 0, U 0, I 0, U 0, IZ (-1), I 0],
  [.cel 32 0 8 (.int .i64 (.add (.var 0) (.lit 1))),
  .row 40 0 ([I 16, .slice 54 0 2 2 10 false, .int .i64 (.add (.var 1) (.lit 1))]),
  .cel 42 0 0 (.int .u32 (.wrap .u32 (.add (.var 2) (.var 4)))),
  .cel 42 0 8 (.int .u32 (.wrap .u32 (.add (.var 5) (.lit 1)))),
  .row 45 0 ([IZ (-1), .int .i64 (.sub (.var 20) (.lit 1))]),
  .row 45 1 ([I 0, .int .i64 (.sub (.var 21) (.lit 1))])], 793⟩
theorem s5_run : ranTo (evCall (cxX Tryz.prog bad s5.rng s5.facts q0) 1000 60 15 s5.args s5.pre) s5.v s5.post = true := by kernel_rfl
theorem s5_ok {W0 : World} (hL : L0 W0) : SymOk Tryz.prog 26623 W0 15 s5 := sym_ok fit (fun σ hk => (q0_ok hL)) s5_run (by kernel_rfl)
noncomputable def y5 : List Sym := [s0, s1, s2, s3, s4, s5]
theorem y5_ok {W0 : World} (hL : L0 W0) : ∀ x ∈ y5, SymOk Tryz.prog 26623 W0 15 x := all_cons (s0_ok hL) (all_cons (s1_ok hL) (all_cons (s2_ok hL) (all_cons (s3_ok hL) (all_cons (s4_ok hL) (all_cons (s5_ok hL) (all_nil))))))
theorem run18 : isTrue (evCall (cxX Tryz.prog bad [] [] ((20, numExtE [(0, 20, .lit 6), (1, 3, .lit 0)]) :: (15, symFn (cxX Tryz.prog bad [] [] []) 32 y5) :: (70, pureFn [p15, p29, p26]) :: q1)) 1000 60 5 [.int .i64 (.var 0), .int .i64 (.var 1)] (sentH 439 19 errTab)) = true := by kernel_rfl
theorem case18 : CaseS [] [] [(0, 20, .lit 6), (1, 3, .lit 0)] [.int .i64 (.var 0), .int .i64 (.var 1)] := caseS (fun hL hk hT => FnsOk.cons (hT.ok fit) (FnsOk.cons (sym_fn_ok (Γ := cxX Tryz.prog bad [] [] []) (fix := 32) ⟨hk.rng, hk.facts⟩ (by decide) (y5_ok hL)) (FnsOk.cons (pure_fn_ok (all_cons (p15_ok hL) (all_cons (p29_ok hL) (all_cons (p26_ok hL) (all_nil))))) ((q1_ok hL))))) run18
theorem run19 : isTrue (evCall (cxX Tryz.prog bad [] [] ((20, numExtE [(0, 20, .lit 6), (1, 3, .lit 1)]) :: (15, symFn (cxX Tryz.prog bad [] [] []) 32 y5) :: (70, pureFn [p15, p29, p26]) :: q1)) 1000 60 5 [.int .i64 (.var 0), .int .i64 (.var 1)] (sentH 439 19 errTab)) = true := by kernel_rfl
theorem case19 : CaseS [] [] [(0, 20, .lit 6), (1, 3, .lit 1)] [.int .i64 (.var 0), .int .i64 (.var 1)] := caseS (fun hL hk hT => FnsOk.cons (hT.ok fit) (FnsOk.cons (sym_fn_ok (Γ := cxX Tryz.prog bad [] [] []) (fix := 32) ⟨hk.rng, hk.facts⟩ (by decide) (y5_ok hL)) (FnsOk.cons (pure_fn_ok (all_cons (p15_ok hL) (all_cons (p29_ok hL) (all_cons (p26_ok hL) (all_nil))))) ((q1_ok hL))))) run19
theorem run20 : isTrue (evCall (cxX Tryz.prog bad [] [] ((20, numExtE [(0, 20, .lit 6), (1, 3, .lit 2)]) :: (15, symFn (cxX Tryz.prog bad [] [] []) 32 y5) :: (70, pureFn [p15, p29, p26]) :: q1)) 1000 60 5 [.int .i64 (.var 0), .int .i64 (.var 1)] (sentH 439 19 errTab)) = true := by kernel_rfl
theorem case20 : CaseS [] [] [(0, 20, .lit 6), (1, 3, .lit 2)] [.int .i64 (.var 0), .int .i64 (.var 1)] := caseS (fun hL hk hT => FnsOk.cons (hT.ok fit) (FnsOk.cons (sym_fn_ok (Γ := cxX Tryz.prog bad [] [] []) (fix := 32) ⟨hk.rng, hk.facts⟩ (by decide) (y5_ok hL)) (FnsOk.cons (pure_fn_ok (all_cons (p15_ok hL) (all_cons (p29_ok hL) (all_cons (p26_ok hL) (all_nil))))) ((q1_ok hL))))) run20
noncomputable def h31 : H := hUpc h30 75 [] [(46, .cells 1 ([[.slice 65 0 8 8 3 true]]) false),
  (36, .cells 5 ([[.ptr 46 0, .slice 47 0 8 8 3 true, .map 48, .ptr 33 0, .ptr 34 0]]) false),
  (56, .cells 1 ([[.snil]]) false),
  (65, .cells 3 ([bT, I 0, bF] :: rp 7 ([bF, I 0, bF]) ([])) false),
  (43, .cells 1 ([[.ptr 56 0], [.ptr 57 0], [.ptr 58 0], [.ptr 59 0], [.ptr 60 0], [.ptr 61 0], [.ptr 62 0], [.ptr 63 0]]) false)] [(45, 0, [IZ (-1), .int .i64 (.var 18)]),
  (45, 1, [I 0, .int .i64 (.var 19)]),
  (45, 2, [I 0, .int .i64 (.var 20)])] [(42, 0, 87, I 1), (42, 0, 90, .int .u32 (.var 8)), (42, 1, 0, .int .u32 (.var 9)), (42, 1, 6, .int .u32 (.var 10)), (42, 1, 7, .int .u32 (.var 11)), (42, 1, 8, .int .u32 (.var 12)), (42, 1, 9, I 2), (42, 1, 71, .int .i64 (.var 13)), (42, 1, 76, .int .i64 (.var 14)), (42, 1, 77, .int .i64 (.var 15)), (42, 1, 81, .int .i64 (.var 16)), (42, 1, 106, .int .i64 (.var 17))]
noncomputable def s6 : Sym := ⟨[.ptr 32 0, I 0], h31, [32, 33, 34, 35, 36, 38, 39, 40, 41, 42, 43, 44, 45, 46, 51, 53, 54, 55, 56, 64, 65, 69, 70, 74, 30, 22, 14, 26, 10, 6, 28, 20, 24, 8, 4, 2, 29, 21, 13, 25, 9, 5, 27, 19, 23, 31, 7, 3, 1, 0], [(0, 1099511627775), (0, 1099511627775), (0, 4294967295), (0, 4294967295), (0, 4294967295), (0, 4294967295), (0, 1099511627775), (0, 1099511627775), (0, 4294967295), (0, 4294967295), (0, 4294967295), (0, 4294967295), (0, 4294967295), (0, 1099511627775), (0, 1099511627775), (0, 1099511627775), (0, 1099511627775), (0, 1099511627775), (0, 1099511627775), (0, 1099511627775), (0, 1099511627775)],
  [(true, .bop .rem .u32 (.var 5) (.lit 32), .lit 2, true), (false, .var 19, .lit 1, false), (false, .var 18, .lit 1, false), (true, .lit 0, .bop .quo .u32 (.var 5) (.lit 32), true), (false, .var 6, .lit 32, true), (false, .lit 14, .var 7, false), (true, .var 7, .lit 2, false), (true, .var 7, .lit 3, false), (true, .var 7, .lit 4, false), (true, .var 7, .lit 5, false), (true, .var 7, .lit 6, false), (true, .var 7, .lit 7, false), (true, .var 7, .lit 8, false), (true, .var 7, .lit 9, false), (true, .var 7, .lit 10, false), (true, .var 7, .lit 1, false), (false, .lit 536870911, .var 8, false), (true, .wrap .u32 (.var 17), .var 8, true), (false, .lit 536870911, .var 17, false)],
  .agg [I 0, I 2, I 1, .int .u32 (.var 2), I 6, U 0, I 1, I 0],
  [.cel 32 0 8 (.int .i64 (.add (.var 0) (.lit 1))),
  .row 40 0 ([I 16, .slice 54 0 2 2 10 false, .int .i64 (.add (.var 1) (.lit 1))]),
  .cel 42 0 8 (.int .u32 (.wrap .u32 (.add (.var 5) (.lit 1)))),
  .cel 42 0 9 (I 1),
  .cel 42 1 0 (.int .u32 (.var 2)),
  .cel 42 1 9 (I 3),
  .cel 42 1 71 (I 8),
  .cel 42 1 76 (I 7),
  .cel 42 1 77 (I 1),
  .cel 42 1 81 (I 11),
  .row 45 0 ([IZ (-1), .int .i64 (.sub (.var 18) (.lit 1))]),
  .row 45 1 ([I 0, .int .i64 (.sub (.var 19) (.lit 1))]),
  .row 51 0 ([I 1])], 2243⟩
theorem s6_run : ranTo (evCall (cxX Tryz.prog bad s6.rng s6.facts q0) 1000 60 15 s6.args s6.pre) s6.v s6.post = true := by kernel_rfl
theorem s6_ok {W0 : World} (hL : L0 W0) : SymOk Tryz.prog 26623 W0 15 s6 := sym_ok fit (fun σ hk => (q0_ok hL)) s6_run (by kernel_rfl)
noncomputable def y6 : List Sym := [s0, s1, s2, s3, s4, s5, s6]
theorem y6_ok {W0 : World} (hL : L0 W0) : ∀ x ∈ y6, SymOk Tryz.prog 26623 W0 15 x := all_cons (s0_ok hL) (all_cons (s1_ok hL) (all_cons (s2_ok hL) (all_cons (s3_ok hL) (all_cons (s4_ok hL) (all_cons (s5_ok hL) (all_cons (s6_ok hL) (all_nil)))))))
theorem run21 : isTrue (evCall (cxX Tryz.prog bad [] [] ((20, numExtE [(0, 20, .lit 7), (1, 3, .lit 0)]) :: (15, symFn (cxX Tryz.prog bad [] [] []) 32 y6) :: (70, pureFn [p15, p29, p26]) :: q1)) 1000 60 5 [.int .i64 (.var 0), .int .i64 (.var 1)] (sentH 439 19 errTab)) = true := by kernel_rfl
theorem case21 : CaseS [] [] [(0, 20, .lit 7), (1, 3, .lit 0)] [.int .i64 (.var 0), .int .i64 (.var 1)] := caseS (fun hL hk hT => FnsOk.cons (hT.ok fit) (FnsOk.cons (sym_fn_ok (Γ := cxX Tryz.prog bad [] [] []) (fix := 32) ⟨hk.rng, hk.facts⟩ (by decide) (y6_ok hL)) (FnsOk.cons (pure_fn_ok (all_cons (p15_ok hL) (all_cons (p29_ok hL) (all_cons (p26_ok hL) (all_nil))))) ((q1_ok hL))))) run21
theorem run22 : isTrue (evCall (cxX Tryz.prog bad [] [] ((20, numExtE [(0, 20, .lit 7), (1, 3, .lit 1)]) :: (15, symFn (cxX Tryz.prog bad [] [] []) 32 y6) :: (70, pureFn [p15, p29, p26]) :: q1)) 1000 60 5 [.int .i64 (.var 0), .int .i64 (.var 1)] (sentH 439 19 errTab)) = true := by kernel_rfl
theorem case22 : CaseS [] [] [(0, 20, .lit 7), (1, 3, .lit 1)] [.int .i64 (.var 0), .int .i64 (.var 1)] := caseS (fun hL hk hT => FnsOk.cons (hT.ok fit) (FnsOk.cons (sym_fn_ok (Γ := cxX Tryz.prog bad [] [] []) (fix := 32) ⟨hk.rng, hk.facts⟩ (by decide) (y6_ok hL)) (FnsOk.cons (pure_fn_ok (all_cons (p15_ok hL) (all_cons (p29_ok hL) (all_cons (p26_ok hL) (all_nil))))) ((q1_ok hL))))) run22
theorem run23 : isTrue (evCall (cxX Tryz.prog bad [] [] ((20, numExtE [(0, 20, .lit 7), (1, 3, .lit 2)]) :: (15, symFn (cxX Tryz.prog bad [] [] []) 32 y6) :: (70, pureFn [p15, p29, p26]) :: q1)) 1000 60 5 [.int .i64 (.var 0), .int .i64 (.var 1)] (sentH 439 19 errTab)) = true := by kernel_rfl
theorem case23 : CaseS [] [] [(0, 20, .lit 7), (1, 3, .lit 2)] [.int .i64 (.var 0), .int .i64 (.var 1)] := caseS (fun hL hk hT => FnsOk.cons (hT.ok fit) (FnsOk.cons (sym_fn_ok (Γ := cxX Tryz.prog bad [] [] []) (fix := 32) ⟨hk.rng, hk.facts⟩ (by decide) (y6_ok hL)) (FnsOk.cons (pure_fn_ok (all_cons (p15_ok hL) (all_cons (p29_ok hL) (all_cons (p26_ok hL) (all_nil))))) ((q1_ok hL))))) run23
noncomputable def h32 : H := hUpc h27 75 [73] [(54, .cells 10 ([[I 2, I 1, I 0, I 0, U 1, U 0, .slice 71 0 1 1 1 false, I 2, I 0, bF], [I 2, I 0, I 0, I 0, U 1, U 0, .slice 72 0 1 1 1 false, I 0, I 0, bF]]) false),
  (74, .cells 3 (rp 4 ([bT, I 0, bF]) (rp 20 ([bF, I 0, bF]) ([]))) false)] [(40, 0, [I 16, .slice 54 0 2 2 10 false, .int .i64 (.var 1)]),
  (45, 0, [IZ (-1), .int .i64 (.var 21)]),
  (45, 1, [I 0, .int .i64 (.var 22)]),
  (45, 2, [I 0, .int .i64 (.var 23)]),
  (69, 0, [.slice 74 0 24 24 3 true])] [(42, 1, 71, I 8), (42, 1, 76, I 7), (42, 1, 77, .int .i64 (.var 18)), (42, 1, 81, .int .i64 (.var 19)), (42, 1, 106, .int .i64 (.var 20))]
noncomputable def s7 : Sym := ⟨[.ptr 32 0, I 0], h32, [32, 33, 34, 35, 38, 39, 40, 41, 42, 44, 45, 51, 53, 54, 55, 64, 69, 70, 74, 30, 22, 14, 26, 10, 6, 28, 20, 24, 8, 4, 2, 29, 21, 13, 25, 9, 5, 27, 19, 23, 31, 7, 3, 1, 0], [(0, 1099511627775), (0, 1099511627775), (0, 4294967295), (0, 4294967295), (0, 4294967295), (0, 4294967295), (0, 1099511627775), (0, 1099511627775), (0, 1099511627775), (0, 1099511627775), (0, 1099511627775), (0, 1099511627775), (0, 1099511627775), (0, 4294967295), (0, 4294967295), (0, 4294967295), (0, 4294967295), (0, 4294967295), (0, 1099511627775), (0, 1099511627775), (0, 1099511627775), (0, 1099511627775), (0, 1099511627775), (0, 1099511627775)],
  [(true, .bop .rem .u32 (.var 17) (.lit 32), .lit 4, true), (false, .var 23, .lit 1, false), (false, .var 21, .lit 1, false), (true, .lit 0, .bop .quo .u32 (.var 17) (.lit 32), true), (false, .lit 536870911, .var 20, false), (false, .var 18, .lit 32, true), (false, .lit 14, .var 19, false), (true, .var 19, .lit 2, false), (true, .var 19, .lit 3, false), (true, .var 19, .lit 4, false), (true, .var 19, .lit 5, false), (true, .var 19, .lit 6, false), (true, .var 19, .lit 7, false), (true, .var 19, .lit 8, false), (true, .var 19, .lit 9, false), (true, .var 19, .lit 10, false), (true, .var 19, .lit 1, false)],
  .agg [I 1, I 1, I 0, U 0, I 0, U 0, IZ (-1), I 0],
  [.cel 32 0 8 (.int .i64 (.add (.var 0) (.lit 1))),
  .row 40 0 ([I 16, .slice 54 0 2 2 10 false, .int .i64 (.add (.var 1) (.lit 1))]),
  .cel 42 1 7 (.int .u32 (.wrap .u32 (.sub (.var 16) (.var 15)))),
  .cel 42 1 8 (.int .u32 (.wrap .u32 (.add (.var 17) (.lit 1)))),
  .row 45 0 ([IZ (-1), .int .i64 (.sub (.var 21) (.lit 1))]),
  .row 45 2 ([I 0, .int .i64 (.sub (.var 23) (.lit 1))])], 790⟩
theorem s7_run : ranTo (evCall (cxX Tryz.prog bad s7.rng s7.facts q0) 1000 60 15 s7.args s7.pre) s7.v s7.post = true := by kernel_rfl
theorem s7_ok {W0 : World} (hL : L0 W0) : SymOk Tryz.prog 26623 W0 15 s7 := sym_ok fit (fun σ hk => (q0_ok hL)) s7_run (by kernel_rfl)
noncomputable def y7 : List Sym := [s0, s1, s2, s3, s4, s5, s6, s7]
theorem y7_ok {W0 : World} (hL : L0 W0) : ∀ x ∈ y7, SymOk Tryz.prog 26623 W0 15 x := all_cons (s0_ok hL) (all_cons (s1_ok hL) (all_cons (s2_ok hL) (all_cons (s3_ok hL) (all_cons (s4_ok hL) (all_cons (s5_ok hL) (all_cons (s6_ok hL) (all_cons (s7_ok hL) (all_nil))))))))
theorem run24 : isTrue (evCall (cxX Tryz.prog bad [] [] ((20, numExtE [(0, 20, .lit 8), (1, 3, .lit 0)]) :: (15, symFn (cxX Tryz.prog bad [] [] []) 32 y7) :: (70, pureFn [p15, p29, p26]) :: q1)) 1000 60 5 [.int .i64 (.var 0), .int .i64 (.var 1)] (sentH 439 19 errTab)) = true := by kernel_rfl
theorem case24 : CaseS [] [] [(0, 20, .lit 8), (1, 3, .lit 0)] [.int .i64 (.var 0), .int .i64 (.var 1)] := caseS (fun hL hk hT => FnsOk.cons (hT.ok fit) (FnsOk.cons (sym_fn_ok (Γ := cxX Tryz.prog bad [] [] []) (fix := 32) ⟨hk.rng, hk.facts⟩ (by decide) (y7_ok hL)) (FnsOk.cons (pure_fn_ok (all_cons (p15_ok hL) (all_cons (p29_ok hL) (all_cons (p26_ok hL) (all_nil))))) ((q1_ok hL))))) run24
theorem run25 : isTrue (evCall (cxX Tryz.prog bad [] [] ((20, numExtE [(0, 20, .lit 8), (1, 3, .lit 1)]) :: (15, symFn (cxX Tryz.prog bad [] [] []) 32 y7) :: (70, pureFn [p15, p29, p26]) :: q1)) 1000 60 5 [.int .i64 (.var 0), .int .i64 (.var 1)] (sentH 439 19 errTab)) = true := by kernel_rfl
theorem case25 : CaseS [] [] [(0, 20, .lit 8), (1, 3, .lit 1)] [.int .i64 (.var 0), .int .i64 (.var 1)] := caseS (fun hL hk hT => FnsOk.cons (hT.ok fit) (FnsOk.cons (sym_fn_ok (Γ := cxX Tryz.prog bad [] [] []) (fix := 32) ⟨hk.rng, hk.facts⟩ (by decide) (y7_ok hL)) (FnsOk.cons (pure_fn_ok (all_cons (p15_ok hL) (all_cons (p29_ok hL) (all_cons (p26_ok hL) (all_nil))))) ((q1_ok hL))))) run25
theorem run26 : isTrue (evCall (cxX Tryz.prog bad [] [] ((20, numExtE [(0, 20, .lit 8), (1, 3, .lit 2)]) :: (15, symFn (cxX Tryz.prog bad [] [] []) 32 y7) :: (70, pureFn [p15, p29, p26]) :: q1)) 1000 60 5 [.int .i64 (.var 0), .int .i64 (.var 1)] (sentH 439 19 errTab)) = true := by kernel_rfl
theorem case26 : CaseS [] [] [(0, 20, .lit 8), (1, 3, .lit 2)] [.int .i64 (.var 0), .int .i64 (.var 1)] := caseS (fun hL hk hT => FnsOk.cons (hT.ok fit) (FnsOk.cons (sym_fn_ok (Γ := cxX Tryz.prog bad [] [] []) (fix := 32) ⟨hk.rng, hk.facts⟩ (by decide) (y7_ok hL)) (FnsOk.cons (pure_fn_ok (all_cons (p15_ok hL) (all_cons (p29_ok hL) (all_cons (p26_ok hL) (all_nil))))) ((q1_ok hL))))) run26
noncomputable def s8 : Sym := ⟨[.ptr 32 0, I 0], h32, [32, 33, 34, 35, 38, 39, 40, 41, 42, 44, 45, 51, 53, 54, 55, 64, 69, 70, 74, 30, 22, 14, 26, 10, 6, 28, 20, 24, 8, 4, 2, 29, 21, 13, 25, 9, 5, 27, 19, 23, 31, 7, 3, 1, 0], [(0, 1099511627775), (0, 1099511627775), (0, 4294967295), (0, 4294967295), (0, 4294967295), (0, 4294967295), (0, 1099511627775), (0, 1099511627775), (0, 1099511627775), (0, 1099511627775), (0, 1099511627775), (0, 1099511627775), (0, 1099511627775), (0, 4294967295), (0, 4294967295), (0, 4294967295), (0, 4294967295), (0, 4294967295), (0, 1099511627775), (0, 1099511627775), (0, 1099511627775), (0, 1099511627775), (0, 1099511627775), (0, 1099511627775)],
  [(true, .bop .rem .u32 (.var 17) (.lit 32), .lit 5, true), (false, .var 23, .lit 1, false), (false, .var 21, .lit 1, false), (true, .lit 0, .bop .quo .u32 (.var 17) (.lit 32), true), (false, .lit 536870911, .var 20, false), (false, .var 18, .lit 32, true), (false, .lit 14, .var 19, false), (true, .var 19, .lit 2, false), (true, .var 19, .lit 3, false), (true, .var 19, .lit 4, false), (true, .var 19, .lit 5, false), (true, .var 19, .lit 6, false), (true, .var 19, .lit 7, false), (true, .var 19, .lit 8, false), (true, .var 19, .lit 9, false), (true, .var 19, .lit 10, false), (true, .var 19, .lit 1, false)],
  .agg [I 1, I 1, I 0, U 0, I 0, U 0, IZ (-1), I 0],
  [.cel 32 0 8 (.int .i64 (.add (.var 0) (.lit 1))),
  .row 40 0 ([I 16, .slice 54 0 2 2 10 false, .int .i64 (.add (.var 1) (.lit 1))]),
  .cel 42 1 8 (U 2),
  .row 45 0 ([IZ (-1), .int .i64 (.sub (.var 21) (.lit 1))]),
  .row 45 2 ([I 0, .int .i64 (.sub (.var 23) (.lit 1))])], 766⟩
theorem s8_run : ranTo (evCall (cxX Tryz.prog bad s8.rng s8.facts q0) 1000 60 15 s8.args s8.pre) s8.v s8.post = true := by kernel_rfl
theorem s8_ok {W0 : World} (hL : L0 W0) : SymOk Tryz.prog 26623 W0 15 s8 := sym_ok fit (fun σ hk => (q0_ok hL)) s8_run (by kernel_rfl)
noncomputable def y8 : List Sym := [s0, s1, s2, s3, s4, s5, s6, s7, s8]
theorem y8_ok {W0 : World} (hL : L0 W0) : ∀ x ∈ y8, SymOk Tryz.prog 26623 W0 15 x := all_cons (s0_ok hL) (all_cons (s1_ok hL) (all_cons (s2_ok hL) (all_cons (s3_ok hL) (all_cons (s4_ok hL) (all_cons (s5_ok hL) (all_cons (s6_ok hL) (all_cons (s7_ok hL) (all_cons (s8_ok hL) (all_nil)))))))))
theorem run27 : isTrue (evCall (cxX Tryz.prog bad [] [] ((20, numExtE [(0, 20, .lit 9), (1, 3, .lit 0)]) :: (15, symFn (cxX Tryz.prog bad [] [] []) 32 y8) :: (70, pureFn [p15, p29, p26]) :: q1)) 1000 60 5 [.int .i64 (.var 0), .int .i64 (.var 1)] (sentH 439 19 errTab)) = true := by kernel_rfl
theorem case27 : CaseS [] [] [(0, 20, .lit 9), (1, 3, .lit 0)] [.int .i64 (.var 0), .int .i64 (.var 1)] := caseS (fun hL hk hT => FnsOk.cons (hT.ok fit) (FnsOk.cons (sym_fn_ok (Γ := cxX Tryz.prog bad [] [] []) (fix := 32) ⟨hk.rng, hk.facts⟩ (by decide) (y8_ok hL)) (FnsOk.cons (pure_fn_ok (all_cons (p15_ok hL) (all_cons (p29_ok hL) (all_cons (p26_ok hL) (all_nil))))) ((q1_ok hL))))) run27
theorem run28 : isTrue (evCall (cxX Tryz.prog bad [] [] ((20, numExtE [(0, 20, .lit 9), (1, 3, .lit 1)]) :: (15, symFn (cxX Tryz.prog bad [] [] []) 32 y8) :: (70, pureFn [p15, p29, p26]) :: q1)) 1000 60 5 [.int .i64 (.var 0), .int .i64 (.var 1)] (sentH 439 19 errTab)) = true := by kernel_rfl
theorem case28 : CaseS [] [] [(0, 20, .lit 9), (1, 3, .lit 1)] [.int .i64 (.var 0), .int .i64 (.var 1)] := caseS (fun hL hk hT => FnsOk.cons (hT.ok fit) (FnsOk.cons (sym_fn_ok (Γ := cxX Tryz.prog bad [] [] []) (fix := 32) ⟨hk.rng, hk.facts⟩ (by decide) (y8_ok hL)) (FnsOk.cons (pure_fn_ok (all_cons (p15_ok hL) (all_cons (p29_ok hL) (all_cons (p26_ok hL) (all_nil))))) ((q1_ok hL))))) run28
theorem run29 : isTrue (evCall (cxX Tryz.prog bad [] [] ((20, numExtE [(0, 20, .lit 9), (1, 3, .lit 2)]) :: (15, symFn (cxX Tryz.prog bad [] [] []) 32 y8) :: (70, pureFn [p15, p29, p26]) :: q1)) 1000 60 5 [.int .i64 (.var 0), .int .i64 (.var 1)] (sentH 439 19 errTab)) = true := by kernel_rfl
theorem case29 : CaseS [] [] [(0, 20, .lit 9), (1, 3, .lit 2)] [.int .i64 (.var 0), .int .i64 (.var 1)] := caseS (fun hL hk hT => FnsOk.cons (hT.ok fit) (FnsOk.cons (sym_fn_ok (Γ := cxX Tryz.prog bad [] [] []) (fix := 32) ⟨hk.rng, hk.facts⟩ (by decide) (y8_ok hL)) (FnsOk.cons (pure_fn_ok (all_cons (p15_ok hL) (all_cons (p29_ok hL) (all_cons (p26_ok hL) (all_nil))))) ((q1_ok hL))))) run29
noncomputable def s9 : Sym := ⟨[.ptr 32 0, I 0], h32, [32, 33, 34, 35, 38, 39, 40, 41, 42, 44, 45, 51, 53, 54, 55, 64, 69, 70, 74, 30, 22, 14, 26, 10, 6, 28, 20, 24, 8, 4, 2, 29, 21, 13, 25, 9, 5, 27, 19, 23, 31, 7, 3, 1, 0], [(0, 1099511627775), (0, 1099511627775), (0, 4294967295), (0, 4294967295), (0, 4294967295), (0, 4294967295), (0, 1099511627775), (0, 1099511627775), (0, 1099511627775), (0, 1099511627775), (0, 1099511627775), (0, 1099511627775), (0, 1099511627775), (0, 4294967295), (0, 4294967295), (0, 4294967295), (0, 4294967295), (0, 4294967295), (0, 1099511627775), (0, 1099511627775), (0, 1099511627775), (0, 1099511627775), (0, 1099511627775), (0, 1099511627775)],
  [(true, .bop .rem .u32 (.var 17) (.lit 32), .lit 2, true), (false, .var 23, .lit 1, false), (false, .var 21, .lit 1, false), (true, .lit 0, .bop .quo .u32 (.var 17) (.lit 32), true), (true, .var 16, .lit 0, false), (false, .lit 536870911, .var 20, false), (false, .var 18, .lit 32, true), (false, .lit 14, .var 19, false), (true, .var 19, .lit 2, false), (true, .var 19, .lit 3, false), (true, .var 19, .lit 4, false), (true, .var 19, .lit 5, false), (true, .var 19, .lit 6, false), (true, .var 19, .lit 7, false), (true, .var 19, .lit 8, false), (true, .var 19, .lit 9, false), (true, .var 19, .lit 10, false), (true, .var 19, .lit 1, false)],
  .agg [I 1, I 1, I 0, U 0, I 0, U 0, IZ (-1), I 0],
  [.cel 32 0 8 (.int .i64 (.add (.var 0) (.lit 1))),
  .row 40 0 ([I 16, .slice 54 0 2 2 10 false, .int .i64 (.add (.var 1) (.lit 1))]),
  .cel 42 1 8 (.int .u32 (.wrap .u32 (.add (.var 17) (.lit 1)))),
  .row 45 0 ([IZ (-1), .int .i64 (.sub (.var 21) (.lit 1))]),
  .row 45 2 ([I 0, .int .i64 (.sub (.var 23) (.lit 1))])], 773⟩
theorem s9_run : ranTo (evCall (cxX Tryz.prog bad s9.rng s9.facts q0) 1000 60 15 s9.args s9.pre) s9.v s9.post = true := by kernel_rfl
theorem s9_ok {W0 : World} (hL : L0 W0) : SymOk Tryz.prog 26623 W0 15 s9 := sym_ok fit (fun σ hk => (q0_ok hL)) s9_run (by kernel_rfl)
noncomputable def y9 : List Sym := [s0, s1, s2, s3, s4, s5, s6, s7, s8, s9]
theorem y9_ok {W0 : World} (hL : L0 W0) : ∀ x ∈ y9, SymOk Tryz.prog 26623 W0 15 x := all_cons (s0_ok hL) (all_cons (s1_ok hL) (all_cons (s2_ok hL) (all_cons (s3_ok hL) (all_cons (s4_ok hL) (all_cons (s5_ok hL) (all_cons (s6_ok hL) (all_cons (s7_ok hL) (all_cons (s8_ok hL) (all_cons (s9_ok hL) (all_nil))))))))))
theorem run30 : isTrue (evCall (cxX Tryz.prog bad [] [] ((20, numExtE [(0, 20, .lit 10), (1, 3, .lit 0)]) :: (15, symFn (cxX Tryz.prog bad [] [] []) 32 y9) :: (70, pureFn [p15, p29, p26]) :: q1)) 1000 60 5 [.int .i64 (.var 0), .int .i64 (.var 1)] (sentH 439 19 errTab)) = true := by kernel_rfl
theorem case30 : CaseS [] [] [(0, 20, .lit 10), (1, 3, .lit 0)] [.int .i64 (.var 0), .int .i64 (.var 1)] := caseS (fun hL hk hT => FnsOk.cons (hT.ok fit) (FnsOk.cons (sym_fn_ok (Γ := cxX Tryz.prog bad [] [] []) (fix := 32) ⟨hk.rng, hk.facts⟩ (by decide) (y9_ok hL)) (FnsOk.cons (pure_fn_ok (all_cons (p15_ok hL) (all_cons (p29_ok hL) (all_cons (p26_ok hL) (all_nil))))) ((q1_ok hL))))) run30
theorem run31 : isTrue (evCall (cxX Tryz.prog bad [] [] ((20, numExtE [(0, 20, .lit 10), (1, 3, .lit 1)]) :: (15, symFn (cxX Tryz.prog bad [] [] []) 32 y9) :: (70, pureFn [p15, p29, p26]) :: q1)) 1000 60 5 [.int .i64 (.var 0), .int .i64 (.var 1)] (sentH 439 19 errTab)) = true := by kernel_rfl
theorem case31 : CaseS [] [] [(0, 20, .lit 10), (1, 3, .lit 1)] [.int .i64 (.var 0), .int .i64 (.var 1)] := caseS (fun hL hk hT => FnsOk.cons (hT.ok fit) (FnsOk.cons (sym_fn_ok (Γ := cxX Tryz.prog bad [] [] []) (fix := 32) ⟨hk.rng, hk.facts⟩ (by decide) (y9_ok hL)) (FnsOk.cons (pure_fn_ok (all_cons (p15_ok hL) (all_cons (p29_ok hL) (all_cons (p26_ok hL) (all_nil))))) ((q1_ok hL))))) run31
theorem run32 : isTrue (evCall (cxX Tryz.prog bad [] [] ((20, numExtE [(0, 20, .lit 10), (1, 3, .lit 2)]) :: (15, symFn (cxX Tryz.prog bad [] [] []) 32 y9) :: (70, pureFn [p15, p29, p26]) :: q1)) 1000 60 5 [.int .i64 (.var 0), .int .i64 (.var 1)] (sentH 439 19 errTab)) = true := by kernel_rfl
theorem case32 : CaseS [] [] [(0, 20, .lit 10), (1, 3, .lit 2)] [.int .i64 (.var 0), .int .i64 (.var 1)] := caseS (fun hL hk hT => FnsOk.cons (hT.ok fit) (FnsOk.cons (sym_fn_ok (Γ := cxX Tryz.prog bad [] [] []) (fix := 32) ⟨hk.rng, hk.facts⟩ (by decide) (y9_ok hL)) (FnsOk.cons (pure_fn_ok (all_cons (p15_ok hL) (all_cons (p29_ok hL) (all_cons (p26_ok hL) (all_nil))))) ((q1_ok hL))))) run32
noncomputable def h33 : H := hUpc h28 75 [73] [(54, .cells 10 ([[I 2, I 1, I 0, I 0, U 1, U 0, .slice 71 0 1 1 1 false, I 2, I 0, bF], [I 2, I 0, I 0, I 0, U 1, U 0, .slice 72 0 1 1 1 false, I 0, I 0, bF]]) false),
  (74, .cells 3 (rp 4 ([bT, I 0, bF]) (rp 20 ([bF, I 0, bF]) ([]))) false)] [(40, 0, [I 16, .slice 54 0 2 2 10 false, .int .i64 (.var 1)]),
  (45, 0, [IZ (-1), .int .i64 (.var 20)]),
  (45, 1, [I 0, .int .i64 (.var 21)]),
  (45, 2, [I 0, .int .i64 (.var 22)]),
  (69, 0, [.slice 74 0 24 24 3 true])] [(42, 1, 71, I 8), (42, 1, 76, I 7), (42, 1, 77, .int .i64 (.var 17)), (42, 1, 81, .int .i64 (.var 18)), (42, 1, 106, .int .i64 (.var 19))]
noncomputable def s10 : Sym := ⟨[.ptr 32 0, I 0], h33, [32, 33, 34, 35, 36, 38, 39, 40, 41, 42, 44, 45, 46, 51, 53, 54, 55, 64, 65, 69, 70, 74, 30, 22, 14, 26, 10, 6, 28, 20, 24, 8, 4, 2, 29, 21, 13, 25, 9, 5, 27, 19, 23, 31, 7, 3, 1, 0], [(0, 1099511627775), (0, 1099511627775), (0, 4294967295), (0, 4294967295), (0, 4294967295), (0, 4294967295), (0, 1099511627775), (0, 1099511627775), (0, 1099511627775), (0, 1099511627775), (0, 1099511627775), (0, 1099511627775), (0, 4294967295), (0, 4294967295), (0, 4294967295), (0, 4294967295), (0, 4294967295), (0, 1099511627775), (0, 1099511627775), (0, 1099511627775), (0, 1099511627775), (0, 1099511627775), (0, 1099511627775)],
  [(true, .bop .rem .u32 (.var 16) (.lit 32), .lit 3, true), (false, .var 22, .lit 1, false), (false, .var 20, .lit 1, false), (true, .lit 0, .bop .quo .u32 (.var 16) (.lit 32), true), (false, .lit 536870911, .var 19, false), (false, .var 17, .lit 32, true), (false, .lit 14, .var 18, false), (true, .var 18, .lit 2, false), (true, .var 18, .lit 3, false), (true, .var 18, .lit 4, false), (true, .var 18, .lit 5, false), (true, .var 18, .lit 6, false), (true, .var 18, .lit 7, false), (true, .var 18, .lit 8, false), (true, .var 18, .lit 9, false), (true, .var 18, .lit 10, false), (true, .var 18, .lit 1, false), (false, .lit 536870911, .add (.var 19) (.lit 1), false), (false, .lit 536870911, .wrap .u32 (.add (.var 19) (.lit 1)), false)],
  .agg [I 1, I 2, I 0, .int .u32 (.var 13), I 5, U 0, I 0, I 0],
  [.cel 32 0 8 (.int .i64 (.add (.var 0) (.lit 1))),
  .row 40 0 ([I 16, .slice 54 0 2 2 10 false, .int .i64 (.add (.var 1) (.lit 1))]),
  .cel 42 0 0 (.int .u32 (.var 13)),
  .cel 42 0 4 (U 1),
  .cel 42 0 9 (I 3),
  .cel 42 0 71 (I 8),
  .cel 42 0 76 (I 7),
  .cel 42 0 77 (I 2),
  .cel 42 0 81 (I 11),
  .cel 42 0 86 (I 6),
  .cel 42 0 87 (I 1),
  .cel 42 0 90 (.int .u32 (.wrap .u32 (.add (.var 19) (.lit 1)))),
  .cel 42 1 8 (.int .u32 (.wrap .u32 (.add (.var 16) (.lit 1)))),
  .cel 42 1 9 (I 2),
  .cel 42 1 106 (.int .i64 (.add (.var 19) (.lit 1))),
  .row 45 0 ([IZ (-1), .int .i64 (.sub (.var 20) (.lit 1))]),
  .row 45 2 ([I 0, .int .i64 (.sub (.var 22) (.lit 1))]),
  .row 51 0 ([I 0])], 2227⟩
theorem s10_run : ranTo (evCall (cxX Tryz.prog bad s10.rng s10.facts q0) 1000 60 15 s10.args s10.pre) s10.v s10.post = true := by kernel_rfl
theorem s10_ok {W0 : World} (hL : L0 W0) : SymOk Tryz.prog 26623 W0 15 s10 := sym_ok fit (fun σ hk => (q0_ok hL)) s10_run (by kernel_rfl)
noncomputable def y10 : List Sym := [s0, s1, s2, s3, s4, s5, s6, s7, s8, s9, s10]
theorem y10_ok {W0 : World} (hL : L0 W0) : ∀ x ∈ y10, SymOk Tryz.prog 26623 W0 15 x := all_cons (s0_ok hL) (all_cons (s1_ok hL) (all_cons (s2_ok hL) (all_cons (s3_ok hL) (all_cons (s4_ok hL) (all_cons (s5_ok hL) (all_cons (s6_ok hL) (all_cons (s7_ok hL) (all_cons (s8_ok hL) (all_cons (s9_ok hL) (all_cons (s10_ok hL) (all_nil)))))))))))
theorem run33 : isTrue (evCall (cxX Tryz.prog bad [] [] ((20, numExtE [(0, 20, .lit 11), (1, 3, .lit 0)]) :: (15, symFn (cxX Tryz.prog bad [] [] []) 32 y10) :: (70, pureFn [p15, p29, p26]) :: q1)) 1000 60 5 [.int .i64 (.var 0), .int .i64 (.var 1)] (sentH 439 19 errTab)) = true := by kernel_rfl
theorem case33 : CaseS [] [] [(0, 20, .lit 11), (1, 3, .lit 0)] [.int .i64 (.var 0), .int .i64 (.var 1)] := caseS (fun hL hk hT => FnsOk.cons (hT.ok fit) (FnsOk.cons (sym_fn_ok (Γ := cxX Tryz.prog bad [] [] []) (fix := 32) ⟨hk.rng, hk.facts⟩ (by decide) (y10_ok hL)) (FnsOk.cons (pure_fn_ok (all_cons (p15_ok hL) (all_cons (p29_ok hL) (all_cons (p26_ok hL) (all_nil))))) ((q1_ok hL))))) run33
theorem run34 : isTrue (evCall (cxX Tryz.prog bad [] [] ((20, numExtE [(0, 20, .lit 11), (1, 3, .lit 1)]) :: (15, symFn (cxX Tryz.prog bad [] [] []) 32 y10) :: (70, pureFn [p15, p29, p26]) :: q1)) 1000 60 5 [.int .i64 (.var 0), .int .i64 (.var 1)] (sentH 439 19 errTab)) = true := by kernel_rfl
theorem case34 : CaseS [] [] [(0, 20, .lit 11), (1, 3, .lit 1)] [.int .i64 (.var 0), .int .i64 (.var 1)] := caseS (fun hL hk hT => FnsOk.cons (hT.ok fit) (FnsOk.cons (sym_fn_ok (Γ := cxX Tryz.prog bad [] [] []) (fix := 32) ⟨hk.rng, hk.facts⟩ (by decide) (y10_ok hL)) (FnsOk.cons (pure_fn_ok (all_cons (p15_ok hL) (all_cons (p29_ok hL) (all_cons (p26_ok hL) (all_nil))))) ((q1_ok hL))))) run34
theorem run35 : isTrue (evCall (cxX Tryz.prog bad [] [] ((20, numExtE [(0, 20, .lit 11), (1, 3, .lit 2)]) :: (15, symFn (cxX Tryz.prog bad [] [] []) 32 y10) :: (70, pureFn [p15, p29, p26]) :: q1)) 1000 60 5 [.int .i64 (.var 0), .int .i64 (.var 1)] (sentH 439 19 errTab)) = true := by kernel_rfl
theorem case35 : CaseS [] [] [(0, 20, .lit 11), (1, 3, .lit 2)] [.int .i64 (.var 0), .int .i64 (.var 1)] := caseS (fun hL hk hT => FnsOk.cons (hT.ok fit) (FnsOk.cons (sym_fn_ok (Γ := cxX Tryz.prog bad [] [] []) (fix := 32) ⟨hk.rng, hk.facts⟩ (by decide) (y10_ok hL)) (FnsOk.cons (pure_fn_ok (all_cons (p15_ok hL) (all_cons (p29_ok hL) (all_cons (p26_ok hL) (all_nil))))) ((q1_ok hL))))) run35
noncomputable def s11 : Sym := ⟨[.ptr 32 0, I 0], h30, [32, 33, 34, 35, 38, 39, 40, 41, 42, 44, 45, 51, 53, 54, 55, 64, 69, 70, 74, 30, 22, 14, 26, 10, 6, 28, 20, 24, 8, 4, 2, 29, 21, 13, 25, 9, 5, 27, 19, 23, 31, 7, 3, 1, 0], [(0, 1099511627775), (0, 1099511627775), (0, 4294967295), (0, 4294967295), (0, 4294967295), (0, 4294967295), (0, 1099511627775), (0, 1099511627775), (0, 1099511627775), (0, 4294967295), (0, 4294967295), (0, 4294967295), (0, 4294967295), (0, 4294967295), (0, 1099511627775), (0, 1099511627775), (0, 1099511627775), (0, 1099511627775), (0, 1099511627775), (0, 1099511627775), (0, 1099511627775), (0, 1099511627775), (0, 1099511627775)],
  [(true, .bop .rem .u32 (.var 5) (.lit 32), .lit 3, true), (false, .var 21, .lit 1, false), (false, .var 20, .lit 1, false), (true, .lit 0, .bop .quo .u32 (.var 5) (.lit 32), true), (false, .var 6, .lit 32, true), (false, .lit 14, .var 7, false), (true, .var 7, .lit 2, false), (true, .var 7, .lit 3, false), (true, .var 7, .lit 4, false), (true, .var 7, .lit 5, false), (true, .var 7, .lit 6, false), (true, .var 7, .lit 7, false), (true, .var 7, .lit 8, false), (true, .var 7, .lit 9, false), (true, .var 7, .lit 10, false), (true, .var 7, .lit 1, false), (false, .var 8, .lit 32, true), (false, .lit 536870911, .var 9, false)],
  .agg [I 0, I 1, I 0, U 0, I 0, U 0, IZ (-1), I 0],
  [.cel 32 0 8 (.int .i64 (.add (.var 0) (.lit 1))),
  .row 40 0 ([I 16, .slice 54 0 2 2 10 false, .int .i64 (.add (.var 1) (.lit 1))]),
  .cel 42 0 8 (U 0),
  .row 45 0 ([IZ (-1), .int .i64 (.sub (.var 20) (.lit 1))]),
  .row 45 1 ([I 0, .int .i64 (.sub (.var 21) (.lit 1))])], 769⟩
theorem s11_run : ranTo (evCall (cxX Tryz.prog bad s11.rng s11.facts q0) 1000 60 15 s11.args s11.pre) s11.v s11.post = true := by kernel_rfl
theorem s11_ok {W0 : World} (hL : L0 W0) : SymOk Tryz.prog 26623 W0 15 s11 := sym_ok fit (fun σ hk => (q0_ok hL)) s11_run (by kernel_rfl)
noncomputable def y11 : List Sym := [s0, s1, s2, s3, s4, s5, s6, s7, s8, s9, s10, s11]
theorem y11_ok {W0 : World} (hL : L0 W0) : ∀ x ∈ y11, SymOk Tryz.prog 26623 W0 15 x := all_cons (s0_ok hL) (all_cons (s1_ok hL) (all_cons (s2_ok hL) (all_cons (s3_ok hL) (all_cons (s4_ok hL) (all_cons (s5_ok hL) (all_cons (s6_ok hL) (all_cons (s7_ok hL) (all_cons (s8_ok hL) (all_cons (s9_ok hL) (all_cons (s10_ok hL) (all_cons (s11_ok hL) (all_nil))))))))))))
theorem run36 : isTrue (evCall (cxX Tryz.prog bad [] [] ((20, numExtE [(0, 20, .lit 12), (1, 3, .lit 0)]) :: (15, symFn (cxX Tryz.prog bad [] [] []) 32 y11) :: (70, pureFn [p15, p29, p26]) :: q1)) 1000 60 5 [.int .i64 (.var 0), .int .i64 (.var 1)] (sentH 439 19 errTab)) = true := by kernel_rfl
theorem case36 : CaseS [] [] [(0, 20, .lit 12), (1, 3, .lit 0)] [.int .i64 (.var 0), .int .i64 (.var 1)] := caseS (fun hL hk hT => FnsOk.cons (hT.ok fit) (FnsOk.cons (sym_fn_ok (Γ := cxX Tryz.prog bad [] [] []) (fix := 32) ⟨hk.rng, hk.facts⟩ (by decide) (y11_ok hL)) (FnsOk.cons (pure_fn_ok (all_cons (p15_ok hL) (all_cons (p29_ok hL) (all_cons (p26_ok hL) (all_nil))))) ((q1_ok hL))))) run36
theorem run37 : isTrue (evCall (cxX Tryz.prog bad [] [] ((20, numExtE [(0, 20, .lit 12), (1, 3, .lit 1)]) :: (15, symFn (cxX Tryz.prog bad [] [] []) 32 y11) :: (70, pureFn [p15, p29, p26]) :: q1)) 1000 60 5 [.int .i64 (.var 0), .int .i64 (.var 1)] (sentH 439 19 errTab)) = true := by kernel_rfl
theorem case37 : CaseS [] [] [(0, 20, .lit 12), (1, 3, .lit 1)] [.int .i64 (.var 0), .int .i64 (.var 1)] := caseS (fun hL hk hT => FnsOk.cons (hT.ok fit) (FnsOk.cons (sym_fn_ok (Γ := cxX Tryz.prog bad [] [] []) (fix := 32) ⟨hk.rng, hk.facts⟩ (by decide) (y11_ok hL)) (FnsOk.cons (pure_fn_ok (all_cons (p15_ok hL) (all_cons (p29_ok hL) (all_cons (p26_ok hL) (all_nil))))) ((q1_ok hL))))) run37
theorem run38 : isTrue (evCall (cxX Tryz.prog bad [] [] ((20, numExtE [(0, 20, .lit 12), (1, 3, .lit 2)]) :: (15, symFn (cxX Tryz.prog bad [] [] []) 32 y11) :: (70, pureFn [p15, p29, p26]) :: q1)) 1000 60 5 [.int .i64 (.var 0), .int .i64 (.var 1)] (sentH 439 19 errTab)) = true := by kernel_rfl
theorem case38 : CaseS [] [] [(0, 20, .lit 12), (1, 3, .lit 2)] [.int .i64 (.var 0), .int .i64 (.var 1)] := caseS (fun hL hk hT => FnsOk.cons (hT.ok fit) (FnsOk.cons (sym_fn_ok (Γ := cxX Tryz.prog bad [] [] []) (fix := 32) ⟨hk.rng, hk.facts⟩ (by decide) (y11_ok hL)) (FnsOk.cons (pure_fn_ok (all_cons (p15_ok hL) (all_cons (p29_ok hL) (all_cons (p26_ok hL) (all_nil))))) ((q1_ok hL))))) run38
noncomputable def s12 : Sym := ⟨[.ptr 32 0, I 0], h30, [32, 33, 34, 35, 38, 39, 40, 41, 42, 44, 45, 51, 53, 54, 55, 64, 69, 70, 74, 30, 22, 14, 26, 10, 6, 28, 20, 24, 8, 4, 2, 29, 21, 13, 25, 9, 5, 27, 19, 23, 31, 7, 3, 1, 0], [(0, 1099511627775), (0, 1099511627775), (0, 4294967295), (0, 4294967295), (0, 4294967295), (0, 4294967295), (0, 1099511627775), (0, 1099511627775), (0, 1099511627775), (0, 4294967295), (0, 4294967295), (0, 4294967295), (0, 4294967295), (0, 4294967295), (0, 1099511627775), (0, 1099511627775), (0, 1099511627775), (0, 1099511627775), (0, 1099511627775), (0, 1099511627775), (0, 1099511627775), (0, 1099511627775), (0, 1099511627775)],
  [(true, .bop .rem .u32 (.var 5) (.lit 32), .lit 0, true), (false, .var 21, .lit 1, false), (false, .var 20, .lit 1, false), (true, .lit 0, .bop .quo .u32 (.var 5) (.lit 32), true), (false, .var 6, .lit 32, true), (false, .lit 14, .var 7, false), (true, .var 7, .lit 2, false), (true, .var 7, .lit 3, false), (true, .var 7, .lit 4, false), (true, .var 7, .lit 5, false), (true, .var 7, .lit 6, false), (true, .var 7, .lit 7, false), (true, .var 7, .lit 8, false), (true, .var 7, .lit 9, false), (true, .var 7, .lit 10, false), (true, .var 7, .lit 1, false), (false, .var 8, .lit 32, true), (false, .lit 536870911, .var 9, false)],
  .agg [I 0, I 1, I 0, U 0, I 0, U 0, IZ (-1), I 0],
  [.cel 32 0 8 (.int .i64 (.add (.var 0) (.lit 1))),
  .row 40 0 ([I 16, .slice 54 0 2 2 10 false, .int .i64 (.add (.var 1) (.lit 1))]),
  .cel 42 0 6 (U 1),
  .cel 42 0 8 (.int .u32 (.wrap .u32 (.add (.var 5) (.lit 1)))),
  .row 45 0 ([IZ (-1), .int .i64 (.sub (.var 20) (.lit 1))]),
  .row 45 1 ([I 0, .int .i64 (.sub (.var 21) (.lit 1))])], 778⟩
theorem s12_run : ranTo (evCall (cxX Tryz.prog bad s12.rng s12.facts q0) 1000 60 15 s12.args s12.pre) s12.v s12.post = true := by kernel_rfl
theorem s12_ok {W0 : World} (hL : L0 W0) : SymOk Tryz.prog 26623 W0 15 s12 := sym_ok fit (fun σ hk => (q0_ok hL)) s12_run (by kernel_rfl)
noncomputable def y12 : List Sym := [s0, s1, s2, s3, s4, s5, s6, s7, s8, s9, s10, s11, s12]
theorem y12_ok {W0 : World} (hL : L0 W0) : ∀ x ∈ y12, SymOk Tryz.prog 26623 W0 15 x := all_cons (s0_ok hL) (all_cons (s1_ok hL) (all_cons (s2_ok hL) (all_cons (s3_ok hL) (all_cons (s4_ok hL) (all_cons (s5_ok hL) (all_cons (s6_ok hL) (all_cons (s7_ok hL) (all_cons (s8_ok hL) (all_cons (s9_ok hL) (all_cons (s10_ok hL) (all_cons (s11_ok hL) (all_cons (s12_ok hL) (all_nil)))))))))))))
theorem run39 : isTrue (evCall (cxX Tryz.prog bad [] [] ((20, numExtE [(0, 20, .lit 13), (1, 3, .lit 0)]) :: (15, symFn (cxX Tryz.prog bad [] [] []) 32 y12) :: (70, pureFn [p15, p29, p26]) :: q1)) 1000 60 5 [.int .i64 (.var 0), .int .i64 (.var 1)] (sentH 439 19 errTab)) = true := by kernel_rfl
theorem case39 : CaseS [] [] [(0, 20, .lit 13), (1, 3, .lit 0)] [.int .i64 (.var 0), .int .i64 (.var 1)] := caseS (fun hL hk hT => FnsOk.cons (hT.ok fit) (FnsOk.cons (sym_fn_ok (Γ := cxX Tryz.prog bad [] [] []) (fix := 32) ⟨hk.rng, hk.facts⟩ (by decide) (y12_ok hL)) (FnsOk.cons (pure_fn_ok (all_cons (p15_ok hL) (all_cons (p29_ok hL) (all_cons (p26_ok hL) (all_nil))))) ((q1_ok hL))))) run39
theorem run40 : isTrue (evCall (cxX Tryz.prog bad [] [] ((20, numExtE [(0, 20, .lit 13), (1, 3, .lit 1)]) :: (15, symFn (cxX Tryz.prog bad [] [] []) 32 y12) :: (70, pureFn [p15, p29, p26]) :: q1)) 1000 60 5 [.int .i64 (.var 0), .int .i64 (.var 1)] (sentH 439 19 errTab)) = true := by kernel_rfl
theorem case40 : CaseS [] [] [(0, 20, .lit 13), (1, 3, .lit 1)] [.int .i64 (.var 0), .int .i64 (.var 1)] := caseS (fun hL hk hT => FnsOk.cons (hT.ok fit) (FnsOk.cons (sym_fn_ok (Γ := cxX Tryz.prog bad [] [] []) (fix := 32) ⟨hk.rng, hk.facts⟩ (by decide) (y12_ok hL)) (FnsOk.cons (pure_fn_ok (all_cons (p15_ok hL) (all_cons (p29_ok hL) (all_cons (p26_ok hL) (all_nil))))) ((q1_ok hL))))) run40
theorem run41 : isTrue (evCall (cxX Tryz.prog bad [] [] ((20, numExtE [(0, 20, .lit 13), (1, 3, .lit 2)]) :: (15, symFn (cxX Tryz.prog bad [] [] []) 32 y12) :: (70, pureFn [p15, p29, p26]) :: q1)) 1000 60 5 [.int .i64 (.var 0), .int .i64 (.var 1)] (sentH 439 19 errTab)) = true := by kernel_rfl
theorem case41 : CaseS [] [] [(0, 20, .lit 13), (1, 3, .lit 2)] [.int .i64 (.var 0), .int .i64 (.var 1)] := caseS (fun hL hk hT => FnsOk.cons (hT.ok fit) (FnsOk.cons (sym_fn_ok (Γ := cxX Tryz.prog bad [] [] []) (fix := 32) ⟨hk.rng, hk.facts⟩ (by decide) (y12_ok hL)) (FnsOk.cons (pure_fn_ok (all_cons (p15_ok hL) (all_cons (p29_ok hL) (all_cons (p26_ok hL) (all_nil))))) ((q1_ok hL))))) run41
theorem run42 : isTrue (evCall (cxX Tryz.prog bad [] [] ((20, numExtE [(0, 20, .lit 14), (1, 3, .lit 0)]) :: (15, symFn (cxX Tryz.prog bad [] [] []) 32 y12) :: (70, pureFn [p15, p29, p26]) :: q1)) 1000 60 5 [.int .i64 (.var 0), .int .i64 (.var 1)] (sentH 439 19 errTab)) = true := by kernel_rfl
theorem case42 : CaseS [] [] [(0, 20, .lit 14), (1, 3, .lit 0)] [.int .i64 (.var 0), .int .i64 (.var 1)] := caseS (fun hL hk hT => FnsOk.cons (hT.ok fit) (FnsOk.cons (sym_fn_ok (Γ := cxX Tryz.prog bad [] [] []) (fix := 32) ⟨hk.rng, hk.facts⟩ (by decide) (y12_ok hL)) (FnsOk.cons (pure_fn_ok (all_cons (p15_ok hL) (all_cons (p29_ok hL) (all_cons (p26_ok hL) (all_nil))))) ((q1_ok hL))))) run42
theorem run43 : isTrue (evCall (cxX Tryz.prog bad [] [] ((20, numExtE [(0, 20, .lit 14), (1, 3, .lit 1)]) :: (15, symFn (cxX Tryz.prog bad [] [] []) 32 y12) :: (70, pureFn [p15, p29, p26]) :: q1)) 1000 60 5 [.int .i64 (.var 0), .int .i64 (.var 1)] (sentH 439 19 errTab)) = true := by kernel_rfl
theorem case43 : CaseS [] [] [(0, 20, .lit 14), (1, 3, .lit 1)] [.int .i64 (.var 0), .int .i64 (.var 1)] := caseS (fun hL hk hT => FnsOk.cons (hT.ok fit) (FnsOk.cons (sym_fn_ok (Γ := cxX Tryz.prog bad [] [] []) (fix := 32) ⟨hk.rng, hk.facts⟩ (by decide) (y12_ok hL)) (FnsOk.cons (pure_fn_ok (all_cons (p15_ok hL) (all_cons (p29_ok hL) (all_cons (p26_ok hL) (all_nil))))) ((q1_ok hL))))) run43
theorem run44 : isTrue (evCall (cxX Tryz.prog bad [] [] ((20, numExtE [(0, 20, .lit 14), (1, 3, .lit 2)]) :: (15, symFn (cxX Tryz.prog bad [] [] []) 32 y12) :: (70, pureFn [p15, p29, p26]) :: q1)) 1000 60 5 [.int .i64 (.var 0), .int .i64 (.var 1)] (sentH 439 19 errTab)) = true := by kernel_rfl
theorem case44 : CaseS [] [] [(0, 20, .lit 14), (1, 3, .lit 2)] [.int .i64 (.var 0), .int .i64 (.var 1)] := caseS (fun hL hk hT => FnsOk.cons (hT.ok fit) (FnsOk.cons (sym_fn_ok (Γ := cxX Tryz.prog bad [] [] []) (fix := 32) ⟨hk.rng, hk.facts⟩ (by decide) (y12_ok hL)) (FnsOk.cons (pure_fn_ok (all_cons (p15_ok hL) (all_cons (p29_ok hL) (all_cons (p26_ok hL) (all_nil))))) ((q1_ok hL))))) run44
theorem run45 : isTrue (evCall (cxX Tryz.prog bad [] [] ((20, numExtE [(0, 20, .lit 15), (1, 3, .lit 0)]) :: (15, symFn (cxX Tryz.prog bad [] [] []) 32 y12) :: (70, pureFn [p15, p29, p26]) :: q1)) 1000 60 5 [.int .i64 (.var 0), .int .i64 (.var 1)] (sentH 439 19 errTab)) = true := by kernel_rfl
theorem case45 : CaseS [] [] [(0, 20, .lit 15), (1, 3, .lit 0)] [.int .i64 (.var 0), .int .i64 (.var 1)] := caseS (fun hL hk hT => FnsOk.cons (hT.ok fit) (FnsOk.cons (sym_fn_ok (Γ := cxX Tryz.prog bad [] [] []) (fix := 32) ⟨hk.rng, hk.facts⟩ (by decide) (y12_ok hL)) (FnsOk.cons (pure_fn_ok (all_cons (p15_ok hL) (all_cons (p29_ok hL) (all_cons (p26_ok hL) (all_nil))))) ((q1_ok hL))))) run45
theorem run46 : isTrue (evCall (cxX Tryz.prog bad [] [] ((20, numExtE [(0, 20, .lit 15), (1, 3, .lit 1)]) :: (15, symFn (cxX Tryz.prog bad [] [] []) 32 y12) :: (70, pureFn [p15, p29, p26]) :: q1)) 1000 60 5 [.int .i64 (.var 0), .int .i64 (.var 1)] (sentH 439 19 errTab)) = true := by kernel_rfl
theorem case46 : CaseS [] [] [(0, 20, .lit 15), (1, 3, .lit 1)] [.int .i64 (.var 0), .int .i64 (.var 1)] := caseS (fun hL hk hT => FnsOk.cons (hT.ok fit) (FnsOk.cons (sym_fn_ok (Γ := cxX Tryz.prog bad [] [] []) (fix := 32) ⟨hk.rng, hk.facts⟩ (by decide) (y12_ok hL)) (FnsOk.cons (pure_fn_ok (all_cons (p15_ok hL) (all_cons (p29_ok hL) (all_cons (p26_ok hL) (all_nil))))) ((q1_ok hL))))) run46
theorem run47 : isTrue (evCall (cxX Tryz.prog bad [] [] ((20, numExtE [(0, 20, .lit 15), (1, 3, .lit 2)]) :: (15, symFn (cxX Tryz.prog bad [] [] []) 32 y12) :: (70, pureFn [p15, p29, p26]) :: q1)) 1000 60 5 [.int .i64 (.var 0), .int .i64 (.var 1)] (sentH 439 19 errTab)) = true := by kernel_rfl
theorem case47 : CaseS [] [] [(0, 20, .lit 15), (1, 3, .lit 2)] [.int .i64 (.var 0), .int .i64 (.var 1)] := caseS (fun hL hk hT => FnsOk.cons (hT.ok fit) (FnsOk.cons (sym_fn_ok (Γ := cxX Tryz.prog bad [] [] []) (fix := 32) ⟨hk.rng, hk.facts⟩ (by decide) (y12_ok hL)) (FnsOk.cons (pure_fn_ok (all_cons (p15_ok hL) (all_cons (p29_ok hL) (all_cons (p26_ok hL) (all_nil))))) ((q1_ok hL))))) run47
theorem run48 : isTrue (evCall (cxX Tryz.prog bad [] [] ((20, numExtE [(0, 20, .lit 16), (1, 3, .lit 0)]) :: (15, symFn (cxX Tryz.prog bad [] [] []) 32 y12) :: (70, pureFn [p15, p29, p26]) :: q1)) 1000 60 5 [.int .i64 (.var 0), .int .i64 (.var 1)] (sentH 439 19 errTab)) = true := by kernel_rfl
theorem case48 : CaseS [] [] [(0, 20, .lit 16), (1, 3, .lit 0)] [.int .i64 (.var 0), .int .i64 (.var 1)] := caseS (fun hL hk hT => FnsOk.cons (hT.ok fit) (FnsOk.cons (sym_fn_ok (Γ := cxX Tryz.prog bad [] [] []) (fix := 32) ⟨hk.rng, hk.facts⟩ (by decide) (y12_ok hL)) (FnsOk.cons (pure_fn_ok (all_cons (p15_ok hL) (all_cons (p29_ok hL) (all_cons (p26_ok hL) (all_nil))))) ((q1_ok hL))))) run48
theorem run49 : isTrue (evCall (cxX Tryz.prog bad [] [] ((20, numExtE [(0, 20, .lit 16), (1, 3, .lit 1)]) :: (15, symFn (cxX Tryz.prog bad [] [] []) 32 y12) :: (70, pureFn [p15, p29, p26]) :: q1)) 1000 60 5 [.int .i64 (.var 0), .int .i64 (.var 1)] (sentH 439 19 errTab)) = true := by kernel_rfl
theorem case49 : CaseS [] [] [(0, 20, .lit 16), (1, 3, .lit 1)] [.int .i64 (.var 0), .int .i64 (.var 1)] := caseS (fun hL hk hT => FnsOk.cons (hT.ok fit) (FnsOk.cons (sym_fn_ok (Γ := cxX Tryz.prog bad [] [] []) (fix := 32) ⟨hk.rng, hk.facts⟩ (by decide) (y12_ok hL)) (FnsOk.cons (pure_fn_ok (all_cons (p15_ok hL) (all_cons (p29_ok hL) (all_cons (p26_ok hL) (all_nil))))) ((q1_ok hL))))) run49
theorem run50 : isTrue (evCall (cxX Tryz.prog bad [] [] ((20, numExtE [(0, 20, .lit 16), (1, 3, .lit 2)]) :: (15, symFn (cxX Tryz.prog bad [] [] []) 32 y12) :: (70, pureFn [p15, p29, p26]) :: q1)) 1000 60 5 [.int .i64 (.var 0), .int .i64 (.var 1)] (sentH 439 19 errTab)) = true := by kernel_rfl
theorem case50 : CaseS [] [] [(0, 20, .lit 16), (1, 3, .lit 2)] [.int .i64 (.var 0), .int .i64 (.var 1)] := caseS (fun hL hk hT => FnsOk.cons (hT.ok fit) (FnsOk.cons (sym_fn_ok (Γ := cxX Tryz.prog bad [] [] []) (fix := 32) ⟨hk.rng, hk.facts⟩ (by decide) (y12_ok hL)) (FnsOk.cons (pure_fn_ok (all_cons (p15_ok hL) (all_cons (p29_ok hL) (all_cons (p26_ok hL) (all_nil))))) ((q1_ok hL))))) run50
theorem run51 : isTrue (evCall (cxX Tryz.prog bad [] [] ((20, numExtE [(0, 20, .lit 17), (1, 3, .lit 0)]) :: (15, symFn (cxX Tryz.prog bad [] [] []) 32 y12) :: (70, pureFn [p15, p29, p26]) :: q1)) 1000 60 5 [.int .i64 (.var 0), .int .i64 (.var 1)] (sentH 439 19 errTab)) = true := by kernel_rfl
theorem case51 : CaseS [] [] [(0, 20, .lit 17), (1, 3, .lit 0)] [.int .i64 (.var 0), .int .i64 (.var 1)] := caseS (fun hL hk hT => FnsOk.cons (hT.ok fit) (FnsOk.cons (sym_fn_ok (Γ := cxX Tryz.prog bad [] [] []) (fix := 32) ⟨hk.rng, hk.facts⟩ (by decide) (y12_ok hL)) (FnsOk.cons (pure_fn_ok (all_cons (p15_ok hL) (all_cons (p29_ok hL) (all_cons (p26_ok hL) (all_nil))))) ((q1_ok hL))))) run51
theorem run52 : isTrue (evCall (cxX Tryz.prog bad [] [] ((20, numExtE [(0, 20, .lit 17), (1, 3, .lit 1)]) :: (15, symFn (cxX Tryz.prog bad [] [] []) 32 y12) :: (70, pureFn [p15, p29, p26]) :: q1)) 1000 60 5 [.int .i64 (.var 0), .int .i64 (.var 1)] (sentH 439 19 errTab)) = true := by kernel_rfl
theorem case52 : CaseS [] [] [(0, 20, .lit 17), (1, 3, .lit 1)] [.int .i64 (.var 0), .int .i64 (.var 1)] := caseS (fun hL hk hT => FnsOk.cons (hT.ok fit) (FnsOk.cons (sym_fn_ok (Γ := cxX Tryz.prog bad [] [] []) (fix := 32) ⟨hk.rng, hk.facts⟩ (by decide) (y12_ok hL)) (FnsOk.cons (pure_fn_ok (all_cons (p15_ok hL) (all_cons (p29_ok hL) (all_cons (p26_ok hL) (all_nil))))) ((q1_ok hL))))) run52
theorem run53 : isTrue (evCall (cxX Tryz.prog bad [] [] ((20, numExtE [(0, 20, .lit 17), (1, 3, .lit 2)]) :: (15, symFn (cxX Tryz.prog bad [] [] []) 32 y12) :: (70, pureFn [p15, p29, p26]) :: q1)) 1000 60 5 [.int .i64 (.var 0), .int .i64 (.var 1)] (sentH 439 19 errTab)) = true := by kernel_rfl
theorem case53 : CaseS [] [] [(0, 20, .lit 17), (1, 3, .lit 2)] [.int .i64 (.var 0), .int .i64 (.var 1)] := caseS (fun hL hk hT => FnsOk.cons (hT.ok fit) (FnsOk.cons (sym_fn_ok (Γ := cxX Tryz.prog bad [] [] []) (fix := 32) ⟨hk.rng, hk.facts⟩ (by decide) (y12_ok hL)) (FnsOk.cons (pure_fn_ok (all_cons (p15_ok hL) (all_cons (p29_ok hL) (all_cons (p26_ok hL) (all_nil))))) ((q1_ok hL))))) run53
theorem run54 : isTrue (evCall (cxX Tryz.prog bad [] [] ((20, numExtE [(0, 20, .lit 18), (1, 3, .lit 0)]) :: (15, symFn (cxX Tryz.prog bad [] [] []) 32 y12) :: (70, pureFn [p15, p29, p26]) :: q1)) 1000 60 5 [.int .i64 (.var 0), .int .i64 (.var 1)] (sentH 439 19 errTab)) = true := by kernel_rfl
theorem case54 : CaseS [] [] [(0, 20, .lit 18), (1, 3, .lit 0)] [.int .i64 (.var 0), .int .i64 (.var 1)] := caseS (fun hL hk hT => FnsOk.cons (hT.ok fit) (FnsOk.cons (sym_fn_ok (Γ := cxX Tryz.prog bad [] [] []) (fix := 32) ⟨hk.rng, hk.facts⟩ (by decide) (y12_ok hL)) (FnsOk.cons (pure_fn_ok (all_cons (p15_ok hL) (all_cons (p29_ok hL) (all_cons (p26_ok hL) (all_nil))))) ((q1_ok hL))))) run54
theorem run55 : isTrue (evCall (cxX Tryz.prog bad [] [] ((20, numExtE [(0, 20, .lit 18), (1, 3, .lit 1)]) :: (15, symFn (cxX Tryz.prog bad [] [] []) 32 y12) :: (70, pureFn [p15, p29, p26]) :: q1)) 1000 60 5 [.int .i64 (.var 0), .int .i64 (.var 1)] (sentH 439 19 errTab)) = true := by kernel_rfl
theorem case55 : CaseS [] [] [(0, 20, .lit 18), (1, 3, .lit 1)] [.int .i64 (.var 0), .int .i64 (.var 1)] := caseS (fun hL hk hT => FnsOk.cons (hT.ok fit) (FnsOk.cons (sym_fn_ok (Γ := cxX Tryz.prog bad [] [] []) (fix := 32) ⟨hk.rng, hk.facts⟩ (by decide) (y12_ok hL)) (FnsOk.cons (pure_fn_ok (all_cons (p15_ok hL) (all_cons (p29_ok hL) (all_cons (p26_ok hL) (all_nil))))) ((q1_ok hL))))) run55
theorem run56 : isTrue (evCall (cxX Tryz.prog bad [] [] ((20, numExtE [(0, 20, .lit 18), (1, 3, .lit 2)]) :: (15, symFn (cxX Tryz.prog bad [] [] []) 32 y12) :: (70, pureFn [p15, p29, p26]) :: q1)) 1000 60 5 [.int .i64 (.var 0), .int .i64 (.var 1)] (sentH 439 19 errTab)) = true := by kernel_rfl
theorem case56 : CaseS [] [] [(0, 20, .lit 18), (1, 3, .lit 2)] [.int .i64 (.var 0), .int .i64 (.var 1)] := caseS (fun hL hk hT => FnsOk.cons (hT.ok fit) (FnsOk.cons (sym_fn_ok (Γ := cxX Tryz.prog bad [] [] []) (fix := 32) ⟨hk.rng, hk.facts⟩ (by decide) (y12_ok hL)) (FnsOk.cons (pure_fn_ok (all_cons (p15_ok hL) (all_cons (p29_ok hL) (all_cons (p26_ok hL) (all_nil))))) ((q1_ok hL))))) run56
theorem run57 : isTrue (evCall (cxX Tryz.prog bad [] [] ((20, numExtE [(0, 20, .lit 19), (1, 3, .lit 0)]) :: (15, symFn (cxX Tryz.prog bad [] [] []) 32 y12) :: (70, pureFn [p15, p29, p26]) :: q1)) 1000 60 5 [.int .i64 (.var 0), .int .i64 (.var 1)] (sentH 439 19 errTab)) = true := by kernel_rfl
theorem case57 : CaseS [] [] [(0, 20, .lit 19), (1, 3, .lit 0)] [.int .i64 (.var 0), .int .i64 (.var 1)] := caseS (fun hL hk hT => FnsOk.cons (hT.ok fit) (FnsOk.cons (sym_fn_ok (Γ := cxX Tryz.prog bad [] [] []) (fix := 32) ⟨hk.rng, hk.facts⟩ (by decide) (y12_ok hL)) (FnsOk.cons (pure_fn_ok (all_cons (p15_ok hL) (all_cons (p29_ok hL) (all_cons (p26_ok hL) (all_nil))))) ((q1_ok hL))))) run57
theorem run58 : isTrue (evCall (cxX Tryz.prog bad [] [] ((20, numExtE [(0, 20, .lit 19), (1, 3, .lit 1)]) :: (15, symFn (cxX Tryz.prog bad [] [] []) 32 y12) :: (70, pureFn [p15, p29, p26]) :: q1)) 1000 60 5 [.int .i64 (.var 0), .int .i64 (.var 1)] (sentH 439 19 errTab)) = true := by kernel_rfl
theorem case58 : CaseS [] [] [(0, 20, .lit 19), (1, 3, .lit 1)] [.int .i64 (.var 0), .int .i64 (.var 1)] := caseS (fun hL hk hT => FnsOk.cons (hT.ok fit) (FnsOk.cons (sym_fn_ok (Γ := cxX Tryz.prog bad [] [] []) (fix := 32) ⟨hk.rng, hk.facts⟩ (by decide) (y12_ok hL)) (FnsOk.cons (pure_fn_ok (all_cons (p15_ok hL) (all_cons (p29_ok hL) (all_cons (p26_ok hL) (all_nil))))) ((q1_ok hL))))) run58
theorem run59 : isTrue (evCall (cxX Tryz.prog bad [] [] ((20, numExtE [(0, 20, .lit 19), (1, 3, .lit 2)]) :: (15, symFn (cxX Tryz.prog bad [] [] []) 32 y12) :: (70, pureFn [p15, p29, p26]) :: q1)) 1000 60 5 [.int .i64 (.var 0), .int .i64 (.var 1)] (sentH 439 19 errTab)) = true := by kernel_rfl
theorem case59 : CaseS [] [] [(0, 20, .lit 19), (1, 3, .lit 2)] [.int .i64 (.var 0), .int .i64 (.var 1)] := caseS (fun hL hk hT => FnsOk.cons (hT.ok fit) (FnsOk.cons (sym_fn_ok (Γ := cxX Tryz.prog bad [] [] []) (fix := 32) ⟨hk.rng, hk.facts⟩ (by decide) (y12_ok hL)) (FnsOk.cons (pure_fn_ok (all_cons (p15_ok hL) (all_cons (p29_ok hL) (all_cons (p26_ok hL) (all_nil))))) ((q1_ok hL))))) run59
end Go.Proofs.YtmafpninhndlnaaGreatDoor.worldEnds
