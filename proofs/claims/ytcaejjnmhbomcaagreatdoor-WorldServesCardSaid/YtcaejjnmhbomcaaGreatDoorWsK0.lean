/- worldServes: calls that are run once, and the runs of the cases (part 0). -/
import Derived.Test.YtcaejjnmhbomcaaGreatDoorEvWsF
set_option linter.unusedVariables false
set_option maxRecDepth 10000000
namespace Go.Proofs.YtcaejjnmhbomcaaGreatDoor.worldServes
open Tk
open Go.RowKit
noncomputable def h0 : H := sentH 399 19 errTab
noncomputable def q0 : Fns := [(320, isFn 399), (108, atoiFullFn 344), (69, itoaFullFn), (156, joinFn), (231, countFn), (285, indexFn), (232, cutOf Tryz.prog 399871 bad [(231, countFn), (285, indexFn)] 1000 20 232)]
theorem q0_ok {σ : Nat → Int} {W0 : World} (hL : L0 W0) : FnsOk Tryz.prog 399871 σ W0 q0 := FnsOk.cons (ext_is hL) (FnsOk.cons (ext_atoi hL) (FnsOk.cons (ext_itoa hL) (FnsOk.cons (ext_join hL) (FnsOk.cons (ext_count hL) (FnsOk.cons (ext_index hL) (FnsOk.cons (ext_cut232 hL) (FnsOk.nil)))))))
noncomputable def p0 : Pur := ([], bT, 1048576)
theorem p0_run : ranPure (evCall (cxX Tryz.prog bad [] [] q0) 1000 60 16 p0.1 ⟨.lf, p0.2.2⟩) p0.2.1 = true := by kernel_rfl
theorem p0_ok {σ : Nat → Int} {W0 : World} (hL : L0 W0) : PureOk Tryz.prog 399871 σ W0 16 p0 := pure_ok fit (Known2.nil σ) ((q0_ok hL)) p0_run
noncomputable def h1 : H := hUpd h0 83 [] [(46, .cells 1 ([[.str [108, 105]], [.str [114, 54]], [.str [49]]]) false),
  (80, .map [(.str [97, 103, 97, 105, 110], I 0, 0)] 1)] []
noncomputable def h2 : H := hUpd h1 144 [] [] []
noncomputable def m1 : Memo := ⟨[.slice 46 0 3 3 1 false, .map 80], h1, .tuple [U 23068673, .inil], h2⟩
theorem m1_run : ranTo (evCall (cxX Tryz.prog bad [] [] q0) 1000 60 68 m1.args m1.h) m1.v m1.h' = true := by kernel_rfl
theorem m1_ok {σ : Nat → Int} {W0 : World} (hL : L0 W0) : MemoOk Tryz.prog 399871 σ W0 68 m1 := memo_ok fit (Known2.nil σ) ((q0_ok hL)) m1_run
noncomputable def h3 : H := hUpd h1 146 [46] [(59, .cells 1 ([[.str [97, 108, 117]], [.str [97, 100, 100]], [.str [114, 48]], [.str [114, 48]], [.str [114, 54]]]) false)] []
noncomputable def h4 : H := hUpd h3 233 [] [] []
noncomputable def m2 : Memo := ⟨[.slice 59 0 5 5 1 false, .map 80], h3, .tuple [U 50356224, .inil], h4⟩
theorem m2_run : ranTo (evCall (cxX Tryz.prog bad [] [] q0) 1000 60 68 m2.args m2.h) m2.v m2.h' = true := by kernel_rfl
theorem m2_ok {σ : Nat → Int} {W0 : World} (hL : L0 W0) : MemoOk Tryz.prog 399871 σ W0 68 m2 := memo_ok fit (Known2.nil σ) ((q0_ok hL)) m2_run
noncomputable def h5 : H := hUpd h1 235 [46] [(70, .cells 1 ([[.str [105, 110, 118]], [.str [114, 101, 116, 117, 114, 110]], [.str [107, 49, 53]], [.str [107, 48]]]) false)] []
noncomputable def h6 : H := hUpd h5 310 [] [] []
noncomputable def m3 : Memo := ⟨[.slice 70 0 4 4 1 false, .map 80], h5, .tuple [U 186580992, .inil], h6⟩
theorem m3_run : ranTo (evCall (cxX Tryz.prog bad [] [] q0) 1000 60 68 m3.args m3.h) m3.v m3.h' = true := by kernel_rfl
theorem m3_ok {σ : Nat → Int} {W0 : World} (hL : L0 W0) : MemoOk Tryz.prog 399871 σ W0 68 m3 := memo_ok fit (Known2.nil σ) ((q0_ok hL)) m3_run
noncomputable def h7 : H := hUpd h1 312 [46] [(77, .cells 1 ([[.str [106, 109, 112]], [.str [97, 103, 97, 105, 110]]]) false)] []
noncomputable def h8 : H := hUpd h7 362 [] [] []
noncomputable def m4 : Memo := ⟨[.slice 77 0 2 2 1 false, .map 80], h7, .tuple [U 67108864, .inil], h8⟩
theorem m4_run : ranTo (evCall (cxX Tryz.prog bad [] [] q0) 1000 60 68 m4.args m4.h) m4.v m4.h' = true := by kernel_rfl
theorem m4_ok {σ : Nat → Int} {W0 : World} (hL : L0 W0) : MemoOk Tryz.prog 399871 σ W0 68 m4 := memo_ok fit (Known2.nil σ) ((q0_ok hL)) m4_run
noncomputable def h9 : H := hUpd h0 34 [] [(33, .cells 1 ([[.str [97, 103, 97, 105, 110, 58]], [.str [108, 105, 32, 114, 54, 32, 49]], [.str [97, 108, 117, 32, 97, 100, 100, 32, 114, 48, 32, 114, 48, 32, 114, 54]], [.str [105, 110, 118, 32, 114, 101, 116, 117, 114, 110, 32, 107, 49, 53, 32, 107, 48]], [.str [106, 109, 112, 32, 97, 103, 97, 105, 110]]]) false)] []
noncomputable def h10 : H := hUpd h9 364 [] [(363, .cells 1 ([[U 23068673], [U 50356224], [U 186580992], [U 67108864]]) false)] []
noncomputable def m5 : Memo := ⟨[bF, I 1000, .snil, .slice 33 0 5 5 1 true], h9, .agg [.slice 363 0 4 4 1 false, I 1000, .snil, bF], h10⟩
noncomputable def l1 : List (Memo) := m4 :: m3 :: m2 :: m1 :: []
theorem l1_ok {σ : Nat → Int} {W0 : World} (hL : L0 W0) : ∀ x ∈ l1, MemoOk Tryz.prog 399871 σ W0 68 x := all_cons (m4_ok hL) (all_cons (m3_ok hL) (all_cons (m2_ok hL) (all_cons (m1_ok hL) (all_nil))))
theorem m5_run : ranTo (evCall (cxX Tryz.prog bad [] [] ((68, frameFn l1) :: q0)) 1000 60 51 m5.args m5.h) m5.v m5.h' = true := by kernel_rfl
theorem m5_ok {σ : Nat → Int} {W0 : World} (hL : L0 W0) : MemoOk Tryz.prog 399871 σ W0 51 m5 := memo_ok fit (Known2.nil σ) (FnsOk.cons (frame_fn_ok (l1_ok hL)) ((q0_ok hL))) m5_run
noncomputable def p6 : Pur := ([I 0], .str [48], 1048576)
theorem p6_run : ranPure (evCall (cxX Tryz.prog bad [] [] q0) 1000 60 52 p6.1 ⟨.lf, p6.2.2⟩) p6.2.1 = true := by kernel_rfl
theorem p6_ok {σ : Nat → Int} {W0 : World} (hL : L0 W0) : PureOk Tryz.prog 399871 σ W0 52 p6 := pure_ok fit (Known2.nil σ) ((q0_ok hL)) p6_run
noncomputable def h11 : H := hUpd h0 444 [] [(374, .cells 1 ([[.str [108, 105]], [.str [114, 55]], [.str [48]]]) false),
  (441, .map [(.str [109, 111, 114, 101], I 2, 0), (.str [100, 111, 110, 101], I 6, 1)] 2)] []
noncomputable def h12 : H := hUpd h11 505 [] [] []
noncomputable def m7 : Memo := ⟨[.slice 374 0 3 3 1 false, .map 441], h11, .tuple [U 24117248, .inil], h12⟩
theorem m7_run : ranTo (evCall (cxX Tryz.prog bad [] [] q0) 1000 60 68 m7.args m7.h) m7.v m7.h' = true := by kernel_rfl
theorem m7_ok {σ : Nat → Int} {W0 : World} (hL : L0 W0) : MemoOk Tryz.prog 399871 σ W0 68 m7 := memo_ok fit (Known2.nil σ) ((q0_ok hL)) m7_run
noncomputable def h13 : H := hUpd h11 507 [374] [(383, .cells 1 ([[.str [108, 105]], [.str [114, 54]], [.str [49]]]) false)] []
noncomputable def h14 : H := hUpd h13 568 [] [] []
noncomputable def m8 : Memo := ⟨[.slice 383 0 3 3 1 false, .map 441], h13, .tuple [U 23068673, .inil], h14⟩
theorem m8_run : ranTo (evCall (cxX Tryz.prog bad [] [] q0) 1000 60 68 m8.args m8.h) m8.v m8.h' = true := by kernel_rfl
theorem m8_ok {σ : Nat → Int} {W0 : World} (hL : L0 W0) : MemoOk Tryz.prog 399871 σ W0 68 m8 := memo_ok fit (Known2.nil σ) ((q0_ok hL)) m8_run
noncomputable def h15 : H := hUpd h11 571 [374] [(397, .cells 1 ([[.str [106, 122]], [.str [114, 55]], [.str [100, 111, 110, 101]]]) false)] []
noncomputable def h16 : H := hUpd h15 633 [] [] []
noncomputable def m9 : Memo := ⟨[.slice 397 0 3 3 1 false, .map 441], h15, .tuple [U 91226118, .inil], h16⟩
theorem m9_run : ranTo (evCall (cxX Tryz.prog bad [] [] q0) 1000 60 68 m9.args m9.h) m9.v m9.h' = true := by kernel_rfl
theorem m9_ok {σ : Nat → Int} {W0 : World} (hL : L0 W0) : MemoOk Tryz.prog 399871 σ W0 68 m9 := memo_ok fit (Known2.nil σ) ((q0_ok hL)) m9_run
noncomputable def h17 : H := hUpd h11 635 [374] [(408, .cells 1 ([[.str [105, 110, 118]], [.str [99, 97, 108, 108]], [.str [107, 54]], [.str [107, 48]]]) false)] []
noncomputable def h18 : H := hUpd h17 710 [] [] []
noncomputable def m10 : Memo := ⟨[.slice 408 0 4 4 1 false, .map 441], h17, .tuple [U 184942592, .inil], h18⟩
theorem m10_run : ranTo (evCall (cxX Tryz.prog bad [] [] q0) 1000 60 68 m10.args m10.h) m10.v m10.h' = true := by kernel_rfl
theorem m10_ok {σ : Nat → Int} {W0 : World} (hL : L0 W0) : MemoOk Tryz.prog 399871 σ W0 68 m10 := memo_ok fit (Known2.nil σ) ((q0_ok hL)) m10_run
noncomputable def h19 : H := hUpd h11 712 [374] [(421, .cells 1 ([[.str [97, 108, 117]], [.str [115, 117, 98]], [.str [114, 55]], [.str [114, 55]], [.str [114, 54]]]) false)] []
noncomputable def h20 : H := hUpd h19 801 [] [] []
noncomputable def m11 : Memo := ⟨[.slice 421 0 5 5 1 false, .map 441], h19, .tuple [U 58155009, .inil], h20⟩
theorem m11_run : ranTo (evCall (cxX Tryz.prog bad [] [] q0) 1000 60 68 m11.args m11.h) m11.v m11.h' = true := by kernel_rfl
theorem m11_ok {σ : Nat → Int} {W0 : World} (hL : L0 W0) : MemoOk Tryz.prog 399871 σ W0 68 m11 := memo_ok fit (Known2.nil σ) ((q0_ok hL)) m11_run
noncomputable def h21 : H := hUpd h11 803 [374] [(428, .cells 1 ([[.str [106, 109, 112]], [.str [109, 111, 114, 101]]]) false)] []
noncomputable def h22 : H := hUpd h21 853 [] [] []
noncomputable def m12 : Memo := ⟨[.slice 428 0 2 2 1 false, .map 441], h21, .tuple [U 67108866, .inil], h22⟩
theorem m12_run : ranTo (evCall (cxX Tryz.prog bad [] [] q0) 1000 60 68 m12.args m12.h) m12.v m12.h' = true := by kernel_rfl
theorem m12_ok {σ : Nat → Int} {W0 : World} (hL : L0 W0) : MemoOk Tryz.prog 399871 σ W0 68 m12 := memo_ok fit (Known2.nil σ) ((q0_ok hL)) m12_run
noncomputable def h23 : H := hUpd h11 856 [374] [(438, .cells 1 ([[.str [104, 97, 108, 116]]]) false)] []
noncomputable def h24 : H := hUpd h23 905 [] [] []
noncomputable def m13 : Memo := ⟨[.slice 438 0 1 1 1 false, .map 441], h23, .tuple [U 218103808, .inil], h24⟩
theorem m13_run : ranTo (evCall (cxX Tryz.prog bad [] [] q0) 1000 60 68 m13.args m13.h) m13.v m13.h' = true := by kernel_rfl
theorem m13_ok {σ : Nat → Int} {W0 : World} (hL : L0 W0) : MemoOk Tryz.prog 399871 σ W0 68 m13 := memo_ok fit (Known2.nil σ) ((q0_ok hL)) m13_run
noncomputable def h25 : H := hUpd h0 367 [] [(366, .cells 1 ([[.str [108, 105, 32, 114, 55, 32, 48]], [.str [108, 105, 32, 114, 54, 32, 49]], [.str [109, 111, 114, 101, 58]], [.str [106, 122, 32, 114, 55, 32, 100, 111, 110, 101]], [.str [105, 110, 118, 32, 99, 97, 108, 108, 32, 107, 54, 32, 107, 48]], [.str [97, 108, 117, 32, 115, 117, 98, 32, 114, 55, 32, 114, 55, 32, 114, 54]], [.str [106, 109, 112, 32, 109, 111, 114, 101]], [.str [100, 111, 110, 101, 58]], [.str [104, 97, 108, 116]]]) false),
  (365, .cells 1 ([[I 0]]) false)] []
noncomputable def h26 : H := hUpd h25 907 [] [(906, .cells 1 ([[U 24117248], [U 23068673], [U 91226118], [U 184942592], [U 58155009], [U 67108866], [U 218103808]]) false)] []
noncomputable def m14 : Memo := ⟨[bT, I 1000, .slice 365 0 1 1 1 true, .slice 366 0 9 9 1 true], h25, .agg [.slice 906 0 7 7 1 false, I 1000, .slice 365 0 1 1 1 true, bT], h26⟩
noncomputable def l2 : List (Memo) := m13 :: m12 :: m11 :: m10 :: m9 :: m8 :: m7 :: []
theorem l2_ok {σ : Nat → Int} {W0 : World} (hL : L0 W0) : ∀ x ∈ l2, MemoOk Tryz.prog 399871 σ W0 68 x := all_cons (m13_ok hL) (all_cons (m12_ok hL) (all_cons (m11_ok hL) (all_cons (m10_ok hL) (all_cons (m9_ok hL) (all_cons (m8_ok hL) (all_cons (m7_ok hL) (all_nil)))))))
theorem m14_run : ranTo (evCall (cxX Tryz.prog bad [] [] ((68, frameFn l2) :: q0)) 1000 60 51 m14.args m14.h) m14.v m14.h' = true := by kernel_rfl
theorem m14_ok {σ : Nat → Int} {W0 : World} (hL : L0 W0) : MemoOk Tryz.prog 399871 σ W0 51 m14 := memo_ok fit (Known2.nil σ) (FnsOk.cons (frame_fn_ok (l2_ok hL)) ((q0_ok hL))) m14_run
noncomputable def p15 : Pur := ([.agg [I 3, I 0, I 0, I 0, U 0]], .inil, 1048576)
theorem p15_run : ranPure (evCall (cxX Tryz.prog bad [] [] q0) 1000 60 97 p15.1 ⟨.lf, p15.2.2⟩) p15.2.1 = true := by kernel_rfl
theorem p15_ok {σ : Nat → Int} {W0 : World} (hL : L0 W0) : PureOk Tryz.prog 399871 σ W0 97 p15 := pure_ok fit (Known2.nil σ) ((q0_ok hL)) p15_run
noncomputable def p16 : Pur := ([.agg [I 3, I 1, I 0, I 0, U 0]], .inil, 1048576)
theorem p16_run : ranPure (evCall (cxX Tryz.prog bad [] [] q0) 1000 60 97 p16.1 ⟨.lf, p16.2.2⟩) p16.2.1 = true := by kernel_rfl
theorem p16_ok {σ : Nat → Int} {W0 : World} (hL : L0 W0) : PureOk Tryz.prog 399871 σ W0 97 p16 := pure_ok fit (Known2.nil σ) ((q0_ok hL)) p16_run
noncomputable def p17 : Pur := ([.agg [I 0, I 0, I 0, I 0, U 0]], .inil, 1048576)
theorem p17_run : ranPure (evCall (cxX Tryz.prog bad [] [] q0) 1000 60 97 p17.1 ⟨.lf, p17.2.2⟩) p17.2.1 = true := by kernel_rfl
theorem p17_ok {σ : Nat → Int} {W0 : World} (hL : L0 W0) : PureOk Tryz.prog 399871 σ W0 97 p17 := pure_ok fit (Known2.nil σ) ((q0_ok hL)) p17_run
noncomputable def p18 : Pur := ([.agg [I 2, I 0, I 0, I 0, U 1]], .inil, 1048576)
theorem p18_run : ranPure (evCall (cxX Tryz.prog bad [] [] q0) 1000 60 97 p18.1 ⟨.lf, p18.2.2⟩) p18.2.1 = true := by kernel_rfl
theorem p18_ok {σ : Nat → Int} {W0 : World} (hL : L0 W0) : PureOk Tryz.prog 399871 σ W0 97 p18 := pure_ok fit (Known2.nil σ) ((q0_ok hL)) p18_run
noncomputable def p19 : Pur := ([.agg [I 8, I 0, I 0, I 0, U 0]], .inil, 1048576)
theorem p19_run : ranPure (evCall (cxX Tryz.prog bad [] [] q0) 1000 60 97 p19.1 ⟨.lf, p19.2.2⟩) p19.2.1 = true := by kernel_rfl
theorem p19_ok {σ : Nat → Int} {W0 : World} (hL : L0 W0) : PureOk Tryz.prog 399871 σ W0 97 p19 := pure_ok fit (Known2.nil σ) ((q0_ok hL)) p19_run
noncomputable def p20 : Pur := ([.agg [I 7, I 1, I 0, I 0, U 0]], .inil, 1048576)
theorem p20_run : ranPure (evCall (cxX Tryz.prog bad [] [] q0) 1000 60 97 p20.1 ⟨.lf, p20.2.2⟩) p20.2.1 = true := by kernel_rfl
theorem p20_ok {σ : Nat → Int} {W0 : World} (hL : L0 W0) : PureOk Tryz.prog 399871 σ W0 97 p20 := pure_ok fit (Known2.nil σ) ((q0_ok hL)) p20_run
noncomputable def p21 : Pur := ([.agg [I 11, I 0, I 0, I 0, U 0]], .inil, 1048576)
theorem p21_run : ranPure (evCall (cxX Tryz.prog bad [] [] q0) 1000 60 97 p21.1 ⟨.lf, p21.2.2⟩) p21.2.1 = true := by kernel_rfl
theorem p21_ok {σ : Nat → Int} {W0 : World} (hL : L0 W0) : PureOk Tryz.prog 399871 σ W0 97 p21 := pure_ok fit (Known2.nil σ) ((q0_ok hL)) p21_run
noncomputable def p22 : Pur := ([.agg [I 12, I 0, I 0, I 0, U 0]], .inil, 1048576)
theorem p22_run : ranPure (evCall (cxX Tryz.prog bad [] [] q0) 1000 60 97 p22.1 ⟨.lf, p22.2.2⟩) p22.2.1 = true := by kernel_rfl
theorem p22_ok {σ : Nat → Int} {W0 : World} (hL : L0 W0) : PureOk Tryz.prog 399871 σ W0 97 p22 := pure_ok fit (Known2.nil σ) ((q0_ok hL)) p22_run
noncomputable def p23 : Pur := ([.agg [I 13, I 0, I 0, I 0, U 0]], .inil, 1048576)
theorem p23_run : ranPure (evCall (cxX Tryz.prog bad [] [] q0) 1000 60 97 p23.1 ⟨.lf, p23.2.2⟩) p23.2.1 = true := by kernel_rfl
theorem p23_ok {σ : Nat → Int} {W0 : World} (hL : L0 W0) : PureOk Tryz.prog 399871 σ W0 97 p23 := pure_ok fit (Known2.nil σ) ((q0_ok hL)) p23_run
noncomputable def p24 : Pur := ([.agg [I 14, I 0, I 0, I 0, U 0]], .inil, 1048576)
theorem p24_run : ranPure (evCall (cxX Tryz.prog bad [] [] q0) 1000 60 97 p24.1 ⟨.lf, p24.2.2⟩) p24.2.1 = true := by kernel_rfl
theorem p24_ok {σ : Nat → Int} {W0 : World} (hL : L0 W0) : PureOk Tryz.prog 399871 σ W0 97 p24 := pure_ok fit (Known2.nil σ) ((q0_ok hL)) p24_run
noncomputable def p25 : Pur := ([.agg [I 3, I 2, I 0, I 0, U 0]], .inil, 1048576)
theorem p25_run : ranPure (evCall (cxX Tryz.prog bad [] [] q0) 1000 60 97 p25.1 ⟨.lf, p25.2.2⟩) p25.2.1 = true := by kernel_rfl
theorem p25_ok {σ : Nat → Int} {W0 : World} (hL : L0 W0) : PureOk Tryz.prog 399871 σ W0 97 p25 := pure_ok fit (Known2.nil σ) ((q0_ok hL)) p25_run
noncomputable def p26 : Pur := ([.agg [I 3, I 3, I 0, I 0, U 0]], .inil, 1048576)
theorem p26_run : ranPure (evCall (cxX Tryz.prog bad [] [] q0) 1000 60 97 p26.1 ⟨.lf, p26.2.2⟩) p26.2.1 = true := by kernel_rfl
theorem p26_ok {σ : Nat → Int} {W0 : World} (hL : L0 W0) : PureOk Tryz.prog 399871 σ W0 97 p26 := pure_ok fit (Known2.nil σ) ((q0_ok hL)) p26_run
noncomputable def p27 : Pur := ([.agg [I 2, I 1, I 0, I 0, U 1]], .inil, 1048576)
theorem p27_run : ranPure (evCall (cxX Tryz.prog bad [] [] q0) 1000 60 97 p27.1 ⟨.lf, p27.2.2⟩) p27.2.1 = true := by kernel_rfl
theorem p27_ok {σ : Nat → Int} {W0 : World} (hL : L0 W0) : PureOk Tryz.prog 399871 σ W0 97 p27 := pure_ok fit (Known2.nil σ) ((q0_ok hL)) p27_run
noncomputable def p28 : Pur := ([.agg [I 7, I 2, I 0, I 0, U 0]], .inil, 1048576)
theorem p28_run : ranPure (evCall (cxX Tryz.prog bad [] [] q0) 1000 60 97 p28.1 ⟨.lf, p28.2.2⟩) p28.2.1 = true := by kernel_rfl
theorem p28_ok {σ : Nat → Int} {W0 : World} (hL : L0 W0) : PureOk Tryz.prog 399871 σ W0 97 p28 := pure_ok fit (Known2.nil σ) ((q0_ok hL)) p28_run
noncomputable def p29 : Pur := ([.agg [I 5, I 0, I 0, I 0, U 1]], .inil, 1048576)
theorem p29_run : ranPure (evCall (cxX Tryz.prog bad [] [] q0) 1000 60 97 p29.1 ⟨.lf, p29.2.2⟩) p29.2.1 = true := by kernel_rfl
theorem p29_ok {σ : Nat → Int} {W0 : World} (hL : L0 W0) : PureOk Tryz.prog 399871 σ W0 97 p29 := pure_ok fit (Known2.nil σ) ((q0_ok hL)) p29_run
noncomputable def h27 : H := hUpd h0 72 [] [(54, .cells 3 ([bT, I 0, bF] :: [bT, I 0, bF] :: rp 6 ([bF, I 0, bF]) ([])) false),
  (70, .cells 3 ([bT, I 0, bF] :: [bT, I 0, bF] :: rp 14 ([bF, I 0, bF]) ([])) false),
  (38, .cells 1 ([[.slice 51 0 1 1 1 false]]) false),
  (42, .cells 107 (((.int .u32 (.var 2)) :: (U 0) :: (U 0) :: (U 0) :: (.int .u32 (.var 3)) :: (U 0) :: (.int .u32 (.var 4)) :: (U 0) :: (.int .u32 (.var 5)) :: (.int .i64 (.var 6)) :: (I 0) :: (I 8) :: (I 0) :: (I 0) :: (I 0) :: (U 0) :: (I 7) :: (I 1) :: (I 0) :: (I 0) :: (U 0) :: (I 11) :: (I 0) :: (I 0) :: (I 0) :: (U 0) :: (I 12) :: (I 0) :: (I 0) :: (I 0) :: (U 0) :: (I 13) :: (I 0) :: (I 0) :: (I 0) :: (U 0) :: (I 14) :: (I 0) :: (I 0) :: (I 0) :: (U 0) :: rp 4 (I 0) ((U 0) :: rp 4 (I 0) ((U 0) :: rp 4 (I 0) ((U 0) :: rp 4 (I 0) ((U 0) :: rp 4 (I 0) ((U 0) :: rp 4 (I 0) ((U 0) :: (.int .i64 (.var 7)) :: (I 0) :: (I 0) :: (I 0) :: (U 0) :: (.int .i64 (.var 8)) :: (.int .i64 (.var 9)) :: (I 0) :: (I 0) :: (U 0) :: (.int .i64 (.var 10)) :: (I 0) :: (I 0) :: (I 0) :: (U 0) :: (.int .i64 (.var 11)) :: (.int .i64 (.var 12)) :: (I 0) :: (I 0) :: (.int .u32 (.var 13)) :: (I 2) :: (I 0) :: (I 0) :: (I 0) :: (U 1) :: (I 7) :: (I 1) :: (I 0) :: (I 0) :: (U 0) :: rp 4 (I 0) ([U 0, I 0])))))))) :: ((.int .u32 (.var 14)) :: rp 5 (U 0) ((.int .u32 (.var 15)) :: (.int .u32 (.var 16)) :: (.int .u32 (.var 17)) :: (I 3) :: (I 0) :: (I 8) :: (I 0) :: (I 0) :: (I 0) :: (U 0) :: (I 7) :: (I 2) :: (I 0) :: (I 0) :: (U 0) :: (I 11) :: (I 0) :: (I 0) :: (I 0) :: (U 0) :: (I 12) :: (I 0) :: (I 0) :: (I 0) :: (U 0) :: (I 13) :: (I 0) :: (I 0) :: (I 0) :: (U 0) :: (I 14) :: (I 0) :: (I 0) :: (I 0) :: (U 0) :: (I 5) :: (I 0) :: (I 0) :: (I 0) :: (U 1) :: rp 4 (I 0) ((U 0) :: rp 4 (I 0) ((U 0) :: rp 4 (I 0) ((U 0) :: rp 4 (I 0) ((U 0) :: rp 4 (I 0) ((U 0) :: (.int .i64 (.var 18)) :: (I 0) :: (I 0) :: (I 0) :: (U 0) :: (.int .i64 (.var 19)) :: (I 0) :: (I 0) :: (I 0) :: (U 0) :: (.int .i64 (.var 20)) :: (I 0) :: (I 0) :: (I 0) :: (U 0) :: rp 4 (I 0) ((U 0) :: (I 2) :: (I 1) :: (I 0) :: (I 0) :: (U 1) :: (I 7) :: (I 2) :: (I 0) :: (I 0) :: (U 0) :: rp 4 (I 0) ([U 0, .int .i64 (.var 21)]))))))))) :: rp 6 (rp 9 (U 0) (rp 6 (I 0) ((U 0) :: rp 4 (I 0) ((U 0) :: rp 4 (I 0) ((U 0) :: rp 4 (I 0) ((U 0) :: rp 4 (I 0) ((U 0) :: rp 4 (I 0) ((U 0) :: rp 4 (I 0) ((U 0) :: rp 4 (I 0) ((U 0) :: rp 4 (I 0) ((U 0) :: rp 4 (I 0) ((U 0) :: rp 4 (I 0) ((U 0) :: rp 4 (I 0) ((U 0) :: rp 4 (I 0) ((U 0) :: rp 4 (I 0) ((U 0) :: rp 4 (I 0) ((U 0) :: rp 4 (I 0) ((U 0) :: rp 4 (I 0) ((U 0) :: rp 4 (I 0) ((U 0) :: rp 4 (I 0) ([U 0, I 0]))))))))))))))))))))) ([])) false),
  (66, .cells 1 ([[.slice 70 0 16 16 3 true]]) false),
  (34, .cells 3 ([[.ptr 41 0, .slice 42 0 8 8 107 true, .slice 43 0 8 8 1 false]]) false),
  (44, .cells 1 ([[.slice 63 0 12 12 3 true]]) false),
  (52, .cells 2 ([[.ptr 66 0, .slice 67 0 16 16 80 true]]) false),
  (68, .cells 1 ([[.slice 71 0 24 24 3 true]]) false),
  (40, .cells 3 ([[I 16, .snil, .int .i64 (.var 1)]]) false),
  (32, .cells 9 ([[.ptr 33 0, .ptr 34 0, .ptr 35 0, .ptr 36 0, .ptr 37 0, .ptr 38 0, .snil, .snil, .int .i64 (.var 0)]]) false),
  (45, .cells 2 ([IZ (-1), .int .i64 (.var 22)] :: [I 0, .int .i64 (.var 23)] :: [I 0, .int .i64 (.var 24)] :: rp 9 ([I 0, I 0]) ([])) false),
  (53, .cells 2 ([[.ptr 68 0, .slice 69 0 24 24 32 true]]) false),
  (69, .cells 32 (((U 23068673) :: (U 50356224) :: (U 186580992) :: (U 67108864) :: rp 28 (U 0) ([])) :: (rp 32 (U 0) ([])) :: ((.int .u32 (.var 25)) :: (U 23068673) :: (U 91226118) :: (U 184942592) :: (U 58155009) :: (U 67108866) :: (U 218103808) :: rp 25 (U 0) ([])) :: rp 21 (rp 32 (U 0) ([])) ([])) false),
  (41, .cells 1 ([[.slice 54 0 8 8 3 true]]) false),
  (33, .cells 3 ([[.ptr 39 0, I 16, .ptr 40 0]]) false),
  (51, .cells 1 ([[I 1]]) false),
  (67, .cells 80 (((I 3) :: (I 0) :: (I 0) :: (I 0) :: (U 0) :: (I 3) :: (I 1) :: (I 0) :: (I 0) :: (U 0) :: rp 4 (I 0) ((U 0) :: rp 4 (I 0) ((U 0) :: rp 4 (I 0) ((U 0) :: rp 4 (I 0) ((U 0) :: rp 4 (I 0) ((U 0) :: rp 4 (I 0) ((U 0) :: rp 4 (I 0) ((U 0) :: rp 4 (I 0) ((U 0) :: rp 4 (I 0) ((U 0) :: rp 4 (I 0) ((U 0) :: rp 4 (I 0) ((U 0) :: rp 4 (I 0) ((U 0) :: rp 4 (I 0) ((U 0) :: rp 4 (I 0) ([U 0]))))))))))))))) :: ((I 3) :: (I 2) :: (I 0) :: (I 0) :: (U 0) :: (I 3) :: (I 3) :: (I 0) :: (I 0) :: (U 0) :: rp 4 (I 0) ((U 0) :: rp 4 (I 0) ((U 0) :: rp 4 (I 0) ((U 0) :: rp 4 (I 0) ((U 0) :: rp 4 (I 0) ((U 0) :: rp 4 (I 0) ((U 0) :: rp 4 (I 0) ((U 0) :: rp 4 (I 0) ((U 0) :: rp 4 (I 0) ((U 0) :: rp 4 (I 0) ((U 0) :: rp 4 (I 0) ((U 0) :: rp 4 (I 0) ((U 0) :: rp 4 (I 0) ((U 0) :: rp 4 (I 0) ([U 0]))))))))))))))) :: rp 14 (rp 4 (I 0) ((U 0) :: rp 4 (I 0) ((U 0) :: rp 4 (I 0) ((U 0) :: rp 4 (I 0) ((U 0) :: rp 4 (I 0) ((U 0) :: rp 4 (I 0) ((U 0) :: rp 4 (I 0) ((U 0) :: rp 4 (I 0) ((U 0) :: rp 4 (I 0) ((U 0) :: rp 4 (I 0) ((U 0) :: rp 4 (I 0) ((U 0) :: rp 4 (I 0) ((U 0) :: rp 4 (I 0) ((U 0) :: rp 4 (I 0) ((U 0) :: rp 4 (I 0) ((U 0) :: rp 4 (I 0) ([U 0]))))))))))))))))) ([])) false),
  (35, .cells 2 ([[.ptr 44 0, .slice 45 0 12 12 2 true]]) false),
  (71, .cells 3 (rp 4 ([bT, I 0, bF]) (rp 20 ([bF, I 0, bF]) ([]))) false),
  (39, .cells 2 ([[.ptr 52 0, .ptr 53 0]]) false),
  (63, .cells 3 ([bT, I 0, bF] :: [bT, I 0, bF] :: [bT, I 0, bF] :: rp 9 ([bF, I 0, bF]) ([])) false)] []
abbrev SO (f : FuncId) (x : Sym) : Prop := ∀ {W0 : World}, L0 W0 → SymOk Tryz.prog 399871 W0 f x
theorem so {f : FuncId} {x : Sym} {fs : Fns} (hx : ∀ {σ : Nat → Int} {W0 : World}, L0 W0 → FnsOk Tryz.prog 399871 σ W0 fs)
    (run : ranTo (evCall (cxX Tryz.prog bad x.rng x.facts fs) 1000 60 f x.args x.pre) x.v x.post = true) (h2 : listed x.names x.pre.tr 0 1 = true) : SO f x := fun hL => sym_ok fit (fun σ hk => hx hL) run h2
abbrev fa (v k : Nat) : Bool × E × E × Bool := (true, .bop .and .i64 (.bop .shr .i64 (.var v) (.lit (.ofNat k))) (.lit 15), .lit 0, true)
abbrev fs (v k : Nat) : Bool × E × E × Bool := (true, .bop .shr .i64 (.var v) (.lit 24), .lit (.ofNat k), true)
abbrev fi (v : Nat) : Bool × E × E × Bool := (false, .lit 0, .bop .and .i64 (.var v) (.lit 4095), false)
abbrev nm3 : List Nat := [32, 34, 42, 33, 39, 52, 66, 70, 35, 45, 40, 41, 53, 54, 69, 38, 44, 51, 67, 68, 63, 71, 30, 22, 26, 18, 6, 28, 20, 12, 24, 8, 4, 2, 29, 21, 25, 17, 5, 27, 19, 11, 23, 31, 7, 3, 1, 0]
noncomputable abbrev rg4 : Rg := ((0, 1099511627775)) :: ((0, 1099511627775)) :: rp 4 ((0, 4294967295)) (rp 7 ((0, 1099511627775)) (rp 5 ((0, 4294967295)) (rp 7 ((0, 1099511627775)) ([(0, 4294967295)]))))
noncomputable def s0 : Sym := ⟨[.ptr 32 0, I 0], h27, nm3, rg4,
  [(true, .bop .quo .u32 (.var 17) (.lit 32), .lit 0, true), (true, .bop .rem .u32 (.var 17) (.lit 32), .lit 0, true), fs 25 1, (true, .bop .and .i64 (.bop .shr .i64 (.var 25) (.lit 20)) (.lit 15), .lit 7, true), (false, .var 24, .lit 1, false), (false, .var 22, .lit 1, false), (false, .var 17, .lit 512, true), fa 25 16, fa 25 12, (false, .lit 536870911, .var 21, false), (false, .lit 14, .var 18, false), (true, .var 18, .lit 2, false), (true, .var 18, .lit 3, false), (true, .var 18, .lit 4, false), (true, .var 18, .lit 5, false), (true, .var 18, .lit 6, false), (true, .var 18, .lit 7, false), (true, .var 18, .lit 8, false), (true, .var 18, .lit 9, false), (true, .var 18, .lit 10, false), (true, .var 18, .lit 1, false), (false, .lit 14, .var 19, false), (true, .var 19, .lit 2, false), (true, .var 19, .lit 3, false), (true, .var 19, .lit 4, false), (true, .var 19, .lit 5, false), (true, .var 19, .lit 6, false), (true, .var 19, .lit 7, false), (true, .var 19, .lit 8, false), (true, .var 19, .lit 9, false), (true, .var 19, .lit 10, false), (true, .var 19, .lit 1, false), (false, .lit 14, .var 20, false), (true, .var 20, .lit 2, false), (true, .var 20, .lit 3, false), (true, .var 20, .lit 4, false), (true, .var 20, .lit 5, false), (true, .var 20, .lit 6, false), (true, .var 20, .lit 7, false), (true, .var 20, .lit 8, false), (true, .var 20, .lit 9, false), (true, .var 20, .lit 10, false), (true, .var 20, .lit 1, false)],
  .agg [I 1, I 1, I 0, U 0, I 0, U 0, IZ (-1), I 0],
  [.cel 32 0 8 (.int .i64 (.add (.var 0) (.lit 1))),
  .row 40 0 ([I 16, .slice 317 0 1 1 10 false, .int .i64 (.var 1)]),
  .cel 42 1 7 (.int .u32 (.bop .and .i64 (.var 25) (.lit 4095))),
  .cel 42 1 8 (.int .u32 (.wrap .u32 (.add (.var 17) (.lit 1)))),
  .row 45 0 ([IZ (-1), .int .i64 (.sub (.var 22) (.lit 1))]),
  .row 45 2 ([I 0, .int .i64 (.sub (.var 24) (.lit 1))]),
  .set 284 (.cells 1 ([[I 1]]) false),
  .set 317 (.cells 10 ([[I 2, I 1, I 0, I 0, U 1, U 0, .slice 284 0 1 1 1 false, I 2, I 0, bF]]) false)], 906⟩
noncomputable def f5 : Fns := q0
theorem f5_ok {σ : Nat → Int} {W0 : World} (hL : L0 W0) : FnsOk Tryz.prog 399871 σ W0 f5 := (q0_ok hL)
theorem s0_ok : SO 29 s0 := so f5_ok (by kernel_rfl) (by kernel_rfl)
noncomputable def h28 : H := hUpd h27 74 [66, 52, 68, 67, 71, 63] [(54, .cells 10 ([[I 2, I 1, I 0, I 0, U 1, U 0, .slice 71 0 1 1 1 false, I 2, I 0, bF]]) false),
  (70, .cells 32 (((U 23068673) :: (U 50356224) :: (U 186580992) :: (U 67108864) :: rp 28 (U 0) ([])) :: (rp 32 (U 0) ([])) :: ((.int .u32 (.var 25)) :: (U 23068673) :: (U 91226118) :: (U 184942592) :: (U 58155009) :: (U 67108866) :: (U 218103808) :: rp 25 (U 0) ([])) :: rp 21 (rp 32 (U 0) ([])) ([])) false),
  (64, .cells 3 ([bT, I 0, bF] :: [bT, I 0, bF] :: [bT, I 0, bF] :: rp 9 ([bF, I 0, bF]) ([])) false),
  (69, .cells 1 ([[.slice 73 0 24 24 3 true]]) false),
  (73, .cells 3 (rp 4 ([bT, I 0, bF]) (rp 20 ([bF, I 0, bF]) ([]))) false),
  (55, .cells 3 ([bT, I 0, bF] :: [bT, I 0, bF] :: rp 6 ([bF, I 0, bF]) ([])) false)] [(44, 0, [.slice 64 0 12 12 3 true]),
  (40, 0, [I 16, .slice 54 0 1 1 10 false, .int .i64 (.var 1)]),
  (53, 0, [.ptr 69 0, .slice 70 0 24 24 32 true]),
  (41, 0, [.slice 55 0 8 8 3 true])]
abbrev nm6 : List Nat := [32, 34, 42, 33, 39, 53, 70, 35, 45, 40, 54, 69, 38, 41, 44, 51, 55, 64, 73, 30, 22, 26, 18, 6, 28, 20, 12, 24, 8, 4, 2, 29, 21, 25, 17, 5, 27, 19, 11, 23, 31, 7, 3, 1, 0]
noncomputable def s1 : Sym := ⟨[.ptr 32 0, I 0], h28, nm6, rg4,
  [(true, .bop .rem .u32 (.var 17) (.lit 32), .lit 1, true), (false, .var 24, .lit 1, false), (false, .var 22, .lit 1, false), (true, .bop .quo .u32 (.var 17) (.lit 32), .lit 0, true), (false, .lit 536870911, .var 21, false), (false, .lit 14, .var 18, false), (true, .var 18, .lit 2, false), (true, .var 18, .lit 3, false), (true, .var 18, .lit 4, false), (true, .var 18, .lit 5, false), (true, .var 18, .lit 6, false), (true, .var 18, .lit 7, false), (true, .var 18, .lit 8, false), (true, .var 18, .lit 9, false), (true, .var 18, .lit 10, false), (true, .var 18, .lit 1, false), (false, .lit 14, .var 19, false), (true, .var 19, .lit 2, false), (true, .var 19, .lit 3, false), (true, .var 19, .lit 4, false), (true, .var 19, .lit 5, false), (true, .var 19, .lit 6, false), (true, .var 19, .lit 7, false), (true, .var 19, .lit 8, false), (true, .var 19, .lit 9, false), (true, .var 19, .lit 10, false), (true, .var 19, .lit 1, false), (false, .lit 14, .var 20, false), (true, .var 20, .lit 2, false), (true, .var 20, .lit 3, false), (true, .var 20, .lit 4, false), (true, .var 20, .lit 5, false), (true, .var 20, .lit 6, false), (true, .var 20, .lit 7, false), (true, .var 20, .lit 8, false), (true, .var 20, .lit 9, false), (true, .var 20, .lit 10, false), (true, .var 20, .lit 1, false)],
  .agg [I 1, I 1, I 0, U 0, I 0, U 0, IZ (-1), I 0],
  [.cel 32 0 8 (.int .i64 (.add (.var 0) (.lit 1))),
  .row 40 0 ([I 16, .slice 54 0 1 1 10 false, .int .i64 (.add (.var 1) (.lit 1))]),
  .cel 42 1 6 (U 1),
  .cel 42 1 8 (.int .u32 (.wrap .u32 (.add (.var 17) (.lit 1)))),
  .row 45 0 ([IZ (-1), .int .i64 (.sub (.var 22) (.lit 1))]),
  .row 45 2 ([I 0, .int .i64 (.sub (.var 24) (.lit 1))])], 774⟩
theorem s1_ok : SO 29 s1 := so f5_ok (by kernel_rfl) (by kernel_rfl)
noncomputable def h29 : H := hUpc h28 74 [] [] [(45, 0, [IZ (-1), .int .i64 (.var 21)]),
  (45, 1, [I 0, .int .i64 (.var 22)]),
  (45, 2, [I 0, .int .i64 (.var 23)])] [(70, 2, 0, .int .u32 (.var 24)), (42, 1, 7, U 0), (42, 1, 8, .int .u32 (.var 16)), (42, 1, 71, .int .i64 (.var 17)), (42, 1, 76, .int .i64 (.var 18)), (42, 1, 81, .int .i64 (.var 19)), (42, 1, 106, .int .i64 (.var 20))]
noncomputable abbrev rg7 : Rg := ((0, 1099511627775)) :: ((0, 1099511627775)) :: rp 4 ((0, 4294967295)) (rp 7 ((0, 1099511627775)) (rp 4 ((0, 4294967295)) (rp 7 ((0, 1099511627775)) ([(0, 4294967295)]))))
noncomputable def s2 : Sym := ⟨[.ptr 32 0, I 0], h29, nm6, rg7,
  [(true, .bop .rem .u32 (.var 16) (.lit 32), .lit 2, true), (false, .var 23, .lit 1, false), (false, .var 21, .lit 1, false), (true, .bop .quo .u32 (.var 16) (.lit 32), .lit 0, true), (false, .lit 536870911, .var 20, false), (false, .lit 14, .var 17, false), (true, .var 17, .lit 2, false), (true, .var 17, .lit 3, false), (true, .var 17, .lit 4, false), (true, .var 17, .lit 5, false), (true, .var 17, .lit 6, false), (true, .var 17, .lit 7, false), (true, .var 17, .lit 8, false), (true, .var 17, .lit 9, false), (true, .var 17, .lit 10, false), (true, .var 17, .lit 1, false), (false, .lit 14, .var 18, false), (true, .var 18, .lit 2, false), (true, .var 18, .lit 3, false), (true, .var 18, .lit 4, false), (true, .var 18, .lit 5, false), (true, .var 18, .lit 6, false), (true, .var 18, .lit 7, false), (true, .var 18, .lit 8, false), (true, .var 18, .lit 9, false), (true, .var 18, .lit 10, false), (true, .var 18, .lit 1, false), (false, .lit 14, .var 19, false), (true, .var 19, .lit 2, false), (true, .var 19, .lit 3, false), (true, .var 19, .lit 4, false), (true, .var 19, .lit 5, false), (true, .var 19, .lit 6, false), (true, .var 19, .lit 7, false), (true, .var 19, .lit 8, false), (true, .var 19, .lit 9, false), (true, .var 19, .lit 10, false), (true, .var 19, .lit 1, false)],
  .agg [I 1, I 1, I 0, U 0, I 0, U 0, IZ (-1), I 0],
  [.cel 32 0 8 (.int .i64 (.add (.var 0) (.lit 1))),
  .row 40 0 ([I 16, .slice 54 0 1 1 10 false, .int .i64 (.add (.var 1) (.lit 1))]),
  .cel 42 1 8 (U 6),
  .row 45 0 ([IZ (-1), .int .i64 (.sub (.var 21) (.lit 1))]),
  .row 45 2 ([I 0, .int .i64 (.sub (.var 23) (.lit 1))])], 772⟩
theorem s2_ok : SO 29 s2 := so f5_ok (by kernel_rfl) (by kernel_rfl)
noncomputable def h30 : H := hUpd h28 74 [] [(57, .cells 1 ([[.snil]]) false),
  (43, .cells 1 ([[.ptr 56 0], [.ptr 57 0], [.ptr 58 0], [.ptr 59 0], [.ptr 60 0], [.ptr 61 0], [.ptr 62 0], [.ptr 63 0]]) false)] []
abbrev nm8 : List Nat := [32, 34, 42, 33, 39, 53, 70, 35, 45, 40, 54, 69, 38, 41, 44, 51, 43, 55, 57, 64, 73, 30, 22, 26, 18, 6, 28, 20, 12, 24, 8, 4, 2, 29, 21, 25, 17, 5, 27, 19, 11, 23, 31, 7, 3, 1, 0]
noncomputable def s3 : Sym := ⟨[.ptr 32 0, I 0], h30, nm8, rg4,
  [(true, .bop .rem .u32 (.var 17) (.lit 32), .lit 6, true), (false, .var 24, .lit 1, false), (false, .var 22, .lit 1, false), (true, .bop .quo .u32 (.var 17) (.lit 32), .lit 0, true), (false, .lit 536870911, .var 21, false), (false, .lit 14, .var 18, false), (true, .var 18, .lit 2, false), (true, .var 18, .lit 3, false), (true, .var 18, .lit 4, false), (true, .var 18, .lit 5, false), (true, .var 18, .lit 6, false), (true, .var 18, .lit 7, false), (true, .var 18, .lit 8, false), (true, .var 18, .lit 9, false), (true, .var 18, .lit 10, false), (true, .var 18, .lit 1, false), (false, .lit 14, .var 19, false), (true, .var 19, .lit 2, false), (true, .var 19, .lit 3, false), (true, .var 19, .lit 4, false), (true, .var 19, .lit 5, false), (true, .var 19, .lit 6, false), (true, .var 19, .lit 7, false), (true, .var 19, .lit 8, false), (true, .var 19, .lit 9, false), (true, .var 19, .lit 10, false), (true, .var 19, .lit 1, false), (false, .lit 14, .var 20, false), (true, .var 20, .lit 2, false), (true, .var 20, .lit 3, false), (true, .var 20, .lit 4, false), (true, .var 20, .lit 5, false), (true, .var 20, .lit 6, false), (true, .var 20, .lit 7, false), (true, .var 20, .lit 8, false), (true, .var 20, .lit 9, false), (true, .var 20, .lit 10, false), (true, .var 20, .lit 1, false)],
  .agg [I 1, I 4, I 0, U 0, I 0, U 0, IZ (-1), I 0],
  [.cel 32 0 8 (.int .i64 (.add (.var 0) (.lit 1))),
  .row 38 0 ([.slice 51 0 0 1 1 false]),
  .row 40 0 ([I 16, .slice 54 0 1 1 10 false, .int .i64 (.add (.var 1) (.lit 1))]),
  .cel 42 1 8 (.int .u32 (.wrap .u32 (.add (.var 17) (.lit 1)))),
  .cel 42 1 9 (I 4),
  .row 45 0 ([IZ (-1), .int .i64 (.sub (.var 22) (.lit 1))]),
  .row 45 2 ([I 0, .int .i64 (.sub (.var 24) (.lit 1))]),
  .row 51 0 ([I 0])], 764⟩
theorem s3_ok : SO 29 s3 := so f5_ok (by kernel_rfl) (by kernel_rfl)
noncomputable def p30 : Pur := ([I 1], .str [49], 1048576)
theorem p30_run : ranPure (evCall (cxX Tryz.prog bad [] [] q0) 1000 60 52 p30.1 ⟨.lf, p30.2.2⟩) p30.2.1 = true := by kernel_rfl
theorem p30_ok {σ : Nat → Int} {W0 : World} (hL : L0 W0) : PureOk Tryz.prog 399871 σ W0 52 p30 := pure_ok fit (Known2.nil σ) ((q0_ok hL)) p30_run
noncomputable def h31 : H := hUpd h11 444 [] [] [(374, 2, [.str [49]])]
noncomputable def h32 : H := hUpd h31 505 [] [] []
noncomputable def m31 : Memo := ⟨[.slice 374 0 3 3 1 false, .map 441], h31, .tuple [U 24117249, .inil], h32⟩
theorem m31_run : ranTo (evCall (cxX Tryz.prog bad [] [] q0) 1000 60 68 m31.args m31.h) m31.v m31.h' = true := by kernel_rfl
theorem m31_ok {σ : Nat → Int} {W0 : World} (hL : L0 W0) : MemoOk Tryz.prog 399871 σ W0 68 m31 := memo_ok fit (Known2.nil σ) ((q0_ok hL)) m31_run
noncomputable def h33 : H := hUpd h25 367 [] [] [(366, 0, [.str [108, 105, 32, 114, 55, 32, 49]])]
noncomputable def h34 : H := hUpd h26 907 [] [] [(366, 0, [.str [108, 105, 32, 114, 55, 32, 49]]),
  (906, 0, [U 24117249])]
noncomputable def m32 : Memo := ⟨[bT, I 1000, .slice 365 0 1 1 1 true, .slice 366 0 9 9 1 true], h33, .agg [.slice 906 0 7 7 1 false, I 1000, .slice 365 0 1 1 1 true, bT], h34⟩
noncomputable def l9 : List (Memo) := m13 :: m12 :: m11 :: m10 :: m9 :: m8 :: m31 :: []
theorem l9_ok {σ : Nat → Int} {W0 : World} (hL : L0 W0) : ∀ x ∈ l9, MemoOk Tryz.prog 399871 σ W0 68 x := all_cons (m13_ok hL) (all_cons (m12_ok hL) (all_cons (m11_ok hL) (all_cons (m10_ok hL) (all_cons (m9_ok hL) (all_cons (m8_ok hL) (all_cons (m31_ok hL) (all_nil)))))))
theorem m32_run : ranTo (evCall (cxX Tryz.prog bad [] [] ((68, frameFn l9) :: q0)) 1000 60 51 m32.args m32.h) m32.v m32.h' = true := by kernel_rfl
theorem m32_ok {σ : Nat → Int} {W0 : World} (hL : L0 W0) : MemoOk Tryz.prog 399871 σ W0 51 m32 := memo_ok fit (Known2.nil σ) (FnsOk.cons (frame_fn_ok (l9_ok hL)) ((q0_ok hL))) m32_run
noncomputable def s4 : Sym := ⟨[.ptr 32 0, I 0], h28, nm6, rg4,
  [(true, .bop .rem .u32 (.var 17) (.lit 32), .lit 2, true), (false, .var 24, .lit 1, false), (false, .var 22, .lit 1, false), (true, .bop .quo .u32 (.var 17) (.lit 32), .lit 0, true), (true, .var 16, .lit 0, false), (false, .lit 536870911, .var 21, false), (false, .lit 14, .var 18, false), (true, .var 18, .lit 2, false), (true, .var 18, .lit 3, false), (true, .var 18, .lit 4, false), (true, .var 18, .lit 5, false), (true, .var 18, .lit 6, false), (true, .var 18, .lit 7, false), (true, .var 18, .lit 8, false), (true, .var 18, .lit 9, false), (true, .var 18, .lit 10, false), (true, .var 18, .lit 1, false), (false, .lit 14, .var 19, false), (true, .var 19, .lit 2, false), (true, .var 19, .lit 3, false), (true, .var 19, .lit 4, false), (true, .var 19, .lit 5, false), (true, .var 19, .lit 6, false), (true, .var 19, .lit 7, false), (true, .var 19, .lit 8, false), (true, .var 19, .lit 9, false), (true, .var 19, .lit 10, false), (true, .var 19, .lit 1, false), (false, .lit 14, .var 20, false), (true, .var 20, .lit 2, false), (true, .var 20, .lit 3, false), (true, .var 20, .lit 4, false), (true, .var 20, .lit 5, false), (true, .var 20, .lit 6, false), (true, .var 20, .lit 7, false), (true, .var 20, .lit 8, false), (true, .var 20, .lit 9, false), (true, .var 20, .lit 10, false), (true, .var 20, .lit 1, false)],
  .agg [I 1, I 1, I 0, U 0, I 0, U 0, IZ (-1), I 0],
  [.cel 32 0 8 (.int .i64 (.add (.var 0) (.lit 1))),
  .row 40 0 ([I 16, .slice 54 0 1 1 10 false, .int .i64 (.add (.var 1) (.lit 1))]),
  .cel 42 1 8 (.int .u32 (.wrap .u32 (.add (.var 17) (.lit 1)))),
  .row 45 0 ([IZ (-1), .int .i64 (.sub (.var 22) (.lit 1))]),
  .row 45 2 ([I 0, .int .i64 (.sub (.var 24) (.lit 1))])], 772⟩
theorem s4_ok : SO 29 s4 := so f5_ok (by kernel_rfl) (by kernel_rfl)
noncomputable def h35 : H := hUpc h29 74 [] [(46, .cells 1 ([[.slice 65 0 8 8 3 true]]) false),
  (36, .cells 5 ([[.ptr 46 0, .slice 47 0 8 8 3 true, .map 48, .ptr 33 0, .ptr 34 0]]) false),
  (65, .cells 3 ([bT, I 0, bF] :: rp 7 ([bF, I 0, bF]) ([])) false)] [] [(42, 0, 9, I 1), (42, 0, 71, .int .i64 (.var 6)), (42, 0, 76, .int .i64 (.var 7)), (42, 0, 77, .int .i64 (.var 8)), (42, 0, 81, .int .i64 (.var 9)), (42, 0, 86, .int .i64 (.var 10)), (42, 0, 87, .int .i64 (.var 11)), (42, 0, 90, .int .u32 (.var 12)), (42, 1, 0, .int .u32 (.var 13)), (42, 1, 6, .int .u32 (.var 14)), (42, 1, 7, .int .u32 (.var 15))]
abbrev nm10 : List Nat := [32, 34, 36, 42, 33, 39, 53, 70, 35, 45, 40, 54, 69, 38, 41, 44, 51, 46, 55, 64, 65, 73, 30, 22, 26, 18, 6, 28, 20, 12, 24, 8, 4, 2, 29, 21, 25, 17, 5, 27, 19, 11, 23, 31, 7, 3, 1, 0]
noncomputable abbrev rg11 : Rg := ((0, 1099511627775)) :: ((0, 1099511627775)) :: rp 4 ((0, 4294967295)) (rp 6 ((0, 1099511627775)) (rp 5 ((0, 4294967295)) (rp 7 ((0, 1099511627775)) ([(0, 4294967295)]))))
noncomputable def s5 : Sym := ⟨[.ptr 32 0, I 0], h35, nm10, rg11,
  [(true, .bop .rem .u32 (.var 16) (.lit 32), .lit 3, true), (false, .var 23, .lit 1, false), (false, .var 21, .lit 1, false), (true, .bop .quo .u32 (.var 16) (.lit 32), .lit 0, true), (false, .lit 536870911, .var 20, false), (false, .lit 14, .var 17, false), (true, .var 17, .lit 2, false), (true, .var 17, .lit 3, false), (true, .var 17, .lit 4, false), (true, .var 17, .lit 5, false), (true, .var 17, .lit 6, false), (true, .var 17, .lit 7, false), (true, .var 17, .lit 8, false), (true, .var 17, .lit 9, false), (true, .var 17, .lit 10, false), (true, .var 17, .lit 1, false), (false, .lit 14, .var 18, false), (true, .var 18, .lit 2, false), (true, .var 18, .lit 3, false), (true, .var 18, .lit 4, false), (true, .var 18, .lit 5, false), (true, .var 18, .lit 6, false), (true, .var 18, .lit 7, false), (true, .var 18, .lit 8, false), (true, .var 18, .lit 9, false), (true, .var 18, .lit 10, false), (true, .var 18, .lit 1, false), (false, .lit 14, .var 19, false), (true, .var 19, .lit 2, false), (true, .var 19, .lit 3, false), (true, .var 19, .lit 4, false), (true, .var 19, .lit 5, false), (true, .var 19, .lit 6, false), (true, .var 19, .lit 7, false), (true, .var 19, .lit 8, false), (true, .var 19, .lit 9, false), (true, .var 19, .lit 10, false), (true, .var 19, .lit 1, false), (false, .lit 536870911, .add (.var 20) (.lit 1), false), (false, .lit 536870911, .wrap .u32 (.add (.var 20) (.lit 1)), false)],
  .agg [I 1, I 2, I 0, .int .u32 (.var 13), I 5, U 0, I 0, I 0],
  [.cel 32 0 8 (.int .i64 (.add (.var 0) (.lit 1))),
  .row 40 0 ([I 16, .slice 54 0 1 1 10 false, .int .i64 (.add (.var 1) (.lit 1))]),
  .cel 42 0 0 (.int .u32 (.var 13)),
  .cel 42 0 4 (U 1),
  .cel 42 0 9 (I 3),
  .cel 42 0 71 (I 8),
  .cel 42 0 76 (I 7),
  .cel 42 0 77 (I 2),
  .cel 42 0 81 (I 11),
  .cel 42 0 86 (I 6),
  .cel 42 0 87 (I 1),
  .cel 42 0 90 (.int .u32 (.wrap .u32 (.add (.var 20) (.lit 1)))),
  .cel 42 1 8 (.int .u32 (.wrap .u32 (.add (.var 16) (.lit 1)))),
  .cel 42 1 9 (I 2),
  .cel 42 1 106 (.int .i64 (.add (.var 20) (.lit 1))),
  .row 45 0 ([IZ (-1), .int .i64 (.sub (.var 21) (.lit 1))]),
  .row 45 2 ([I 0, .int .i64 (.sub (.var 23) (.lit 1))]),
  .row 51 0 ([I 0])], 2226⟩
theorem s5_ok : SO 29 s5 := so f5_ok (by kernel_rfl) (by kernel_rfl)
noncomputable def h36 : H := hUpc h28 74 [] [(52, .cells 2 ([[.ptr 67 0, .slice 68 0 16 16 80 true]]) false),
  (68, .cells 80 (((I 3) :: (I 0) :: (I 0) :: (I 0) :: (U 0) :: (I 3) :: (I 1) :: (I 0) :: (I 0) :: (U 0) :: rp 4 (I 0) ((U 0) :: rp 4 (I 0) ((U 0) :: rp 4 (I 0) ((U 0) :: rp 4 (I 0) ((U 0) :: rp 4 (I 0) ((U 0) :: rp 4 (I 0) ((U 0) :: rp 4 (I 0) ((U 0) :: rp 4 (I 0) ((U 0) :: rp 4 (I 0) ((U 0) :: rp 4 (I 0) ((U 0) :: rp 4 (I 0) ((U 0) :: rp 4 (I 0) ((U 0) :: rp 4 (I 0) ((U 0) :: rp 4 (I 0) ([U 0]))))))))))))))) :: ((I 3) :: (I 2) :: (I 0) :: (I 0) :: (U 0) :: (I 3) :: (I 3) :: (I 0) :: (I 0) :: (U 0) :: rp 4 (I 0) ((U 0) :: rp 4 (I 0) ((U 0) :: rp 4 (I 0) ((U 0) :: rp 4 (I 0) ((U 0) :: rp 4 (I 0) ((U 0) :: rp 4 (I 0) ((U 0) :: rp 4 (I 0) ((U 0) :: rp 4 (I 0) ((U 0) :: rp 4 (I 0) ((U 0) :: rp 4 (I 0) ((U 0) :: rp 4 (I 0) ((U 0) :: rp 4 (I 0) ((U 0) :: rp 4 (I 0) ((U 0) :: rp 4 (I 0) ([U 0]))))))))))))))) :: rp 14 (rp 4 (I 0) ((U 0) :: rp 4 (I 0) ((U 0) :: rp 4 (I 0) ((U 0) :: rp 4 (I 0) ((U 0) :: rp 4 (I 0) ((U 0) :: rp 4 (I 0) ((U 0) :: rp 4 (I 0) ((U 0) :: rp 4 (I 0) ((U 0) :: rp 4 (I 0) ((U 0) :: rp 4 (I 0) ((U 0) :: rp 4 (I 0) ((U 0) :: rp 4 (I 0) ((U 0) :: rp 4 (I 0) ((U 0) :: rp 4 (I 0) ((U 0) :: rp 4 (I 0) ((U 0) :: rp 4 (I 0) ([U 0]))))))))))))))))) ([])) false),
  (72, .cells 3 ([bT, I 0, bF] :: [bT, I 0, bF] :: rp 14 ([bF, I 0, bF]) ([])) false),
  (67, .cells 1 ([[.slice 72 0 16 16 3 true]]) false)] [(45, 0, [IZ (-1), .int .i64 (.var 20)]),
  (45, 1, [I 0, .int .i64 (.var 21)]),
  (45, 2, [I 0, .int .i64 (.var 22)]),
  (51, 0, [I 0])] [(70, 2, 0, .int .u32 (.var 23)), (42, 0, 9, I 3), (42, 0, 71, I 8), (42, 0, 76, I 7), (42, 0, 77, .int .i64 (.var 6)), (42, 0, 81, .int .i64 (.var 7)), (42, 0, 86, I 6), (42, 0, 87, .int .i64 (.var 8)), (42, 0, 90, .int .u32 (.var 9)), (42, 1, 0, .int .u32 (.var 10)), (42, 1, 6, .int .u32 (.var 11)), (42, 1, 7, .int .u32 (.var 12)), (42, 1, 8, .int .u32 (.var 13)), (42, 1, 9, .int .i64 (.var 14)), (42, 1, 71, .int .i64 (.var 15)), (42, 1, 76, .int .i64 (.var 16)), (42, 1, 77, .int .i64 (.var 17)), (42, 1, 81, .int .i64 (.var 18)), (42, 1, 106, .int .i64 (.var 19))]
abbrev nm12 : List Nat := [32, 34, 42, 33, 39, 53, 70, 35, 45, 40, 54, 69, 38, 41, 44, 51, 52, 67, 68, 55, 64, 72, 73, 30, 22, 26, 18, 6, 28, 20, 12, 24, 8, 4, 2, 29, 21, 25, 17, 5, 27, 19, 11, 23, 31, 7, 3, 1, 0]
noncomputable abbrev rg13 : Rg := ((0, 1099511627775)) :: ((0, 1099511627775)) :: rp 4 ((0, 4294967295)) (((0, 1099511627775)) :: ((0, 1099511627775)) :: ((0, 1099511627775)) :: rp 5 ((0, 4294967295)) (rp 9 ((0, 1099511627775)) ([(0, 4294967295)])))
noncomputable def s6 : Sym := ⟨[.ptr 32 0, I 0], h36, nm12, rg13,
  [(true, .bop .quo .u32 (.var 5) (.lit 32), .lit 0, true), (true, .bop .rem .u32 (.var 5) (.lit 32), .lit 0, true), (false, .var 21, .lit 1, false), (false, .var 20, .lit 1, false), (false, .var 5, .lit 512, true), (false, .var 6, .lit 32, true), (false, .lit 14, .var 7, false), (true, .var 7, .lit 2, false), (true, .var 7, .lit 3, false), (true, .var 7, .lit 4, false), (true, .var 7, .lit 5, false), (true, .var 7, .lit 6, false), (true, .var 7, .lit 7, false), (true, .var 7, .lit 8, false), (true, .var 7, .lit 9, false), (true, .var 7, .lit 10, false), (true, .var 7, .lit 1, false), (false, .var 8, .lit 32, true), (false, .lit 536870911, .var 9, false)],
  .agg [I 0, I 1, I 0, U 0, I 0, U 0, IZ (-1), I 0],
  [.cel 32 0 8 (.int .i64 (.add (.var 0) (.lit 1))),
  .row 40 0 ([I 16, .slice 322 0 2 2 10 false, .int .i64 (.var 1)]),
  .cel 42 0 6 (U 1),
  .cel 42 0 8 (.int .u32 (.wrap .u32 (.add (.var 5) (.lit 1)))),
  .row 45 0 ([IZ (-1), .int .i64 (.sub (.var 20) (.lit 1))]),
  .row 45 1 ([I 0, .int .i64 (.sub (.var 21) (.lit 1))]),
  .del 54,
  .set 322 (.cells 10 ([[I 2, I 1, I 0, I 0, U 1, U 0, .slice 71 0 1 1 1 false, I 2, I 0, bF], [I 2, I 0, I 0, I 0, U 1, U 0, .slice 289 0 1 1 1 false, I 0, I 0, bF]]) false),
  .set 289 (.cells 1 ([[I 0]]) false)], 911⟩
theorem s6_ok : SO 29 s6 := so f5_ok (by kernel_rfl) (by kernel_rfl)
noncomputable def h37 : H := hUpd h36 75 [52, 68, 72, 73, 67] [(54, .cells 10 ([[I 2, I 1, I 0, I 0, U 1, U 0, .slice 71 0 1 1 1 false, I 2, I 0, bF], [I 2, I 0, I 0, I 0, U 1, U 0, .slice 72 0 1 1 1 false, I 0, I 0, bF]]) false),
  (74, .cells 3 (rp 4 ([bT, I 0, bF]) (rp 20 ([bF, I 0, bF]) ([]))) false)] [(40, 0, [I 16, .slice 54 0 2 2 10 false, .int .i64 (.var 1)]),
  (69, 0, [.slice 74 0 24 24 3 true])]
abbrev nm14 : List Nat := [32, 34, 42, 33, 39, 53, 70, 35, 45, 40, 54, 69, 38, 41, 44, 51, 55, 64, 74, 30, 22, 26, 18, 6, 28, 20, 12, 24, 8, 4, 2, 29, 21, 25, 17, 5, 27, 19, 11, 23, 31, 7, 3, 1, 0]
noncomputable def s7 : Sym := ⟨[.ptr 32 0, I 0], h37, nm14, rg13,
  [(true, .bop .rem .u32 (.var 5) (.lit 32), .lit 1, true), (false, .var 21, .lit 1, false), (false, .var 20, .lit 1, false), (true, .bop .quo .u32 (.var 5) (.lit 32), .lit 0, true), (false, .var 6, .lit 32, true), (false, .lit 14, .var 7, false), (true, .var 7, .lit 2, false), (true, .var 7, .lit 3, false), (true, .var 7, .lit 4, false), (true, .var 7, .lit 5, false), (true, .var 7, .lit 6, false), (true, .var 7, .lit 7, false), (true, .var 7, .lit 8, false), (true, .var 7, .lit 9, false), (true, .var 7, .lit 10, false), (true, .var 7, .lit 1, false), (false, .var 8, .lit 32, true), (false, .lit 536870911, .var 9, false)],
  .agg [I 0, I 1, I 0, U 0, I 0, U 0, IZ (-1), I 0],
  [.cel 32 0 8 (.int .i64 (.add (.var 0) (.lit 1))),
  .row 40 0 ([I 16, .slice 54 0 2 2 10 false, .int .i64 (.add (.var 1) (.lit 1))]),
  .cel 42 0 0 (.int .u32 (.wrap .u32 (.add (.var 2) (.var 4)))),
  .cel 42 0 8 (.int .u32 (.wrap .u32 (.add (.var 5) (.lit 1)))),
  .row 45 0 ([IZ (-1), .int .i64 (.sub (.var 20) (.lit 1))]),
  .row 45 1 ([I 0, .int .i64 (.sub (.var 21) (.lit 1))])], 793⟩
theorem s7_ok : SO 29 s7 := so f5_ok (by kernel_rfl) (by kernel_rfl)
noncomputable def h38 : H := hUpc h37 75 [] [(46, .cells 1 ([[.slice 65 0 8 8 3 true]]) false),
  (36, .cells 5 ([[.ptr 46 0, .slice 47 0 8 8 3 true, .map 48, .ptr 33 0, .ptr 34 0]]) false),
  (56, .cells 1 ([[.snil]]) false),
  (65, .cells 3 ([bT, I 0, bF] :: rp 7 ([bF, I 0, bF]) ([])) false),
  (43, .cells 1 ([[.ptr 56 0], [.ptr 57 0], [.ptr 58 0], [.ptr 59 0], [.ptr 60 0], [.ptr 61 0], [.ptr 62 0], [.ptr 63 0]]) false)] [(45, 0, [IZ (-1), .int .i64 (.var 18)]),
  (45, 1, [I 0, .int .i64 (.var 19)]),
  (45, 2, [I 0, .int .i64 (.var 20)])] [(70, 2, 0, .int .u32 (.var 21)), (42, 0, 87, I 1), (42, 0, 90, .int .u32 (.var 8)), (42, 1, 0, .int .u32 (.var 9)), (42, 1, 6, .int .u32 (.var 10)), (42, 1, 7, .int .u32 (.var 11)), (42, 1, 8, .int .u32 (.var 12)), (42, 1, 9, I 2), (42, 1, 71, .int .i64 (.var 13)), (42, 1, 76, .int .i64 (.var 14)), (42, 1, 77, .int .i64 (.var 15)), (42, 1, 81, .int .i64 (.var 16)), (42, 1, 106, .int .i64 (.var 17))]
abbrev nm15 : List Nat := [32, 34, 36, 42, 33, 39, 53, 70, 35, 45, 40, 54, 69, 38, 41, 44, 51, 43, 46, 55, 56, 64, 65, 74, 30, 22, 26, 18, 6, 28, 20, 12, 24, 8, 4, 2, 29, 21, 25, 17, 5, 27, 19, 11, 23, 31, 7, 3, 1, 0]
noncomputable abbrev rg16 : Rg := ((0, 1099511627775)) :: ((0, 1099511627775)) :: rp 4 ((0, 4294967295)) (((0, 1099511627775)) :: ((0, 1099511627775)) :: rp 5 ((0, 4294967295)) (rp 8 ((0, 1099511627775)) ([(0, 4294967295)])))
noncomputable def s8 : Sym := ⟨[.ptr 32 0, I 0], h38, nm15, rg16,
  [(true, .bop .rem .u32 (.var 5) (.lit 32), .lit 2, true), (false, .var 19, .lit 1, false), (false, .var 18, .lit 1, false), (true, .bop .quo .u32 (.var 5) (.lit 32), .lit 0, true), (false, .var 6, .lit 32, true), (false, .lit 14, .var 7, false), (true, .var 7, .lit 2, false), (true, .var 7, .lit 3, false), (true, .var 7, .lit 4, false), (true, .var 7, .lit 5, false), (true, .var 7, .lit 6, false), (true, .var 7, .lit 7, false), (true, .var 7, .lit 8, false), (true, .var 7, .lit 9, false), (true, .var 7, .lit 10, false), (true, .var 7, .lit 1, false), (false, .lit 536870911, .var 8, false), (true, .wrap .u32 (.var 17), .var 8, true), (false, .lit 536870911, .var 17, false)],
  .agg [I 0, I 2, I 1, .int .u32 (.var 2), I 6, U 0, I 1, I 0],
  [.cel 32 0 8 (.int .i64 (.add (.var 0) (.lit 1))),
  .row 40 0 ([I 16, .slice 54 0 2 2 10 false, .int .i64 (.add (.var 1) (.lit 1))]),
  .cel 42 0 8 (.int .u32 (.wrap .u32 (.add (.var 5) (.lit 1)))),
  .cel 42 0 9 (I 1),
  .cel 42 1 0 (.int .u32 (.var 2)),
  .cel 42 1 9 (I 3),
  .cel 42 1 71 (I 8),
  .cel 42 1 76 (I 7),
  .cel 42 1 77 (I 1),
  .cel 42 1 81 (I 11),
  .row 45 0 ([IZ (-1), .int .i64 (.sub (.var 18) (.lit 1))]),
  .row 45 1 ([I 0, .int .i64 (.sub (.var 19) (.lit 1))]),
  .row 51 0 ([I 1])], 2243⟩
theorem s8_ok : SO 29 s8 := so f5_ok (by kernel_rfl) (by kernel_rfl)
noncomputable def h39 : H := hUpc h29 75 [73] [(54, .cells 10 ([[I 2, I 1, I 0, I 0, U 1, U 0, .slice 71 0 1 1 1 false, I 2, I 0, bF], [I 2, I 0, I 0, I 0, U 1, U 0, .slice 72 0 1 1 1 false, I 0, I 0, bF]]) false),
  (74, .cells 3 (rp 4 ([bT, I 0, bF]) (rp 20 ([bF, I 0, bF]) ([]))) false)] [(40, 0, [I 16, .slice 54 0 2 2 10 false, .int .i64 (.var 1)]),
  (69, 0, [.slice 74 0 24 24 3 true])] [(42, 1, 7, .int .u32 (.var 16)), (42, 1, 8, .int .u32 (.var 17)), (42, 1, 71, I 8), (42, 1, 76, I 7), (42, 1, 77, .int .i64 (.var 18))]
noncomputable abbrev rg17 : Rg := ((0, 1099511627775)) :: ((0, 1099511627775)) :: rp 4 ((0, 4294967295)) (rp 7 ((0, 1099511627775)) (rp 5 ((0, 4294967295)) (rp 6 ((0, 1099511627775)) ([(0, 4294967295)]))))
noncomputable def s9 : Sym := ⟨[.ptr 32 0, I 0], h39, nm14, rg17,
  [(true, .bop .rem .u32 (.var 17) (.lit 32), .lit 4, true), (false, .var 23, .lit 1, false), (false, .var 21, .lit 1, false), (true, .bop .quo .u32 (.var 17) (.lit 32), .lit 0, true), (false, .lit 536870911, .var 20, false), (false, .var 18, .lit 32, true), (false, .lit 14, .var 19, false), (true, .var 19, .lit 2, false), (true, .var 19, .lit 3, false), (true, .var 19, .lit 4, false), (true, .var 19, .lit 5, false), (true, .var 19, .lit 6, false), (true, .var 19, .lit 7, false), (true, .var 19, .lit 8, false), (true, .var 19, .lit 9, false), (true, .var 19, .lit 10, false), (true, .var 19, .lit 1, false)],
  .agg [I 1, I 1, I 0, U 0, I 0, U 0, IZ (-1), I 0],
  [.cel 32 0 8 (.int .i64 (.add (.var 0) (.lit 1))),
  .row 40 0 ([I 16, .slice 54 0 2 2 10 false, .int .i64 (.add (.var 1) (.lit 1))]),
  .cel 42 1 7 (.int .u32 (.wrap .u32 (.sub (.var 16) (.var 15)))),
  .cel 42 1 8 (.int .u32 (.wrap .u32 (.add (.var 17) (.lit 1)))),
  .row 45 0 ([IZ (-1), .int .i64 (.sub (.var 21) (.lit 1))]),
  .row 45 2 ([I 0, .int .i64 (.sub (.var 23) (.lit 1))])], 790⟩
theorem s9_ok : SO 29 s9 := so f5_ok (by kernel_rfl) (by kernel_rfl)
noncomputable def s10 : Sym := ⟨[.ptr 32 0, I 0], h39, nm14, rg17,
  [(true, .bop .rem .u32 (.var 17) (.lit 32), .lit 5, true), (false, .var 23, .lit 1, false), (false, .var 21, .lit 1, false), (true, .bop .quo .u32 (.var 17) (.lit 32), .lit 0, true), (false, .lit 536870911, .var 20, false), (false, .var 18, .lit 32, true), (false, .lit 14, .var 19, false), (true, .var 19, .lit 2, false), (true, .var 19, .lit 3, false), (true, .var 19, .lit 4, false), (true, .var 19, .lit 5, false), (true, .var 19, .lit 6, false), (true, .var 19, .lit 7, false), (true, .var 19, .lit 8, false), (true, .var 19, .lit 9, false), (true, .var 19, .lit 10, false), (true, .var 19, .lit 1, false)],
  .agg [I 1, I 1, I 0, U 0, I 0, U 0, IZ (-1), I 0],
  [.cel 32 0 8 (.int .i64 (.add (.var 0) (.lit 1))),
  .row 40 0 ([I 16, .slice 54 0 2 2 10 false, .int .i64 (.add (.var 1) (.lit 1))]),
  .cel 42 1 8 (U 2),
  .row 45 0 ([IZ (-1), .int .i64 (.sub (.var 21) (.lit 1))]),
  .row 45 2 ([I 0, .int .i64 (.sub (.var 23) (.lit 1))])], 766⟩
theorem s10_ok : SO 29 s10 := so f5_ok (by kernel_rfl) (by kernel_rfl)
noncomputable def h40 : H := hUpc h39 75 [] [] [(45, 0, [IZ (-1), .int .i64 (.var 20)]),
  (45, 1, [I 0, .int .i64 (.var 21)]),
  (45, 2, [I 0, .int .i64 (.var 22)])] [(70, 2, 0, .int .u32 (.var 23)), (42, 1, 7, U 0), (42, 1, 8, .int .u32 (.var 16)), (42, 1, 77, .int .i64 (.var 17)), (42, 1, 81, .int .i64 (.var 18)), (42, 1, 106, .int .i64 (.var 19))]
noncomputable abbrev rg18 : Rg := ((0, 1099511627775)) :: ((0, 1099511627775)) :: rp 4 ((0, 4294967295)) (rp 7 ((0, 1099511627775)) (rp 4 ((0, 4294967295)) (rp 6 ((0, 1099511627775)) ([(0, 4294967295)]))))
noncomputable def s11 : Sym := ⟨[.ptr 32 0, I 0], h40, nm14, rg18,
  [(true, .bop .rem .u32 (.var 16) (.lit 32), .lit 2, true), (false, .var 22, .lit 1, false), (false, .var 20, .lit 1, false), (true, .bop .quo .u32 (.var 16) (.lit 32), .lit 0, true), (false, .lit 536870911, .var 19, false), (false, .var 17, .lit 32, true), (false, .lit 14, .var 18, false), (true, .var 18, .lit 2, false), (true, .var 18, .lit 3, false), (true, .var 18, .lit 4, false), (true, .var 18, .lit 5, false), (true, .var 18, .lit 6, false), (true, .var 18, .lit 7, false), (true, .var 18, .lit 8, false), (true, .var 18, .lit 9, false), (true, .var 18, .lit 10, false), (true, .var 18, .lit 1, false)],
  .agg [I 1, I 1, I 0, U 0, I 0, U 0, IZ (-1), I 0],
  [.cel 32 0 8 (.int .i64 (.add (.var 0) (.lit 1))),
  .row 40 0 ([I 16, .slice 54 0 2 2 10 false, .int .i64 (.add (.var 1) (.lit 1))]),
  .cel 42 1 8 (U 6),
  .row 45 0 ([IZ (-1), .int .i64 (.sub (.var 20) (.lit 1))]),
  .row 45 2 ([I 0, .int .i64 (.sub (.var 22) (.lit 1))])], 773⟩
theorem s11_ok : SO 29 s11 := so f5_ok (by kernel_rfl) (by kernel_rfl)
noncomputable def h41 : H := hUpd h39 75 [] [(57, .cells 1 ([[.snil]]) false),
  (43, .cells 1 ([[.ptr 56 0], [.ptr 57 0], [.ptr 58 0], [.ptr 59 0], [.ptr 60 0], [.ptr 61 0], [.ptr 62 0], [.ptr 63 0]]) false)] []
abbrev nm19 : List Nat := [32, 34, 42, 33, 39, 53, 70, 35, 45, 40, 54, 69, 38, 41, 44, 51, 43, 55, 57, 64, 74, 30, 22, 26, 18, 6, 28, 20, 12, 24, 8, 4, 2, 29, 21, 25, 17, 5, 27, 19, 11, 23, 31, 7, 3, 1, 0]
noncomputable def s12 : Sym := ⟨[.ptr 32 0, I 0], h41, nm19, rg17,
  [(true, .bop .rem .u32 (.var 17) (.lit 32), .lit 6, true), (false, .var 23, .lit 1, false), (false, .var 21, .lit 1, false), (true, .bop .quo .u32 (.var 17) (.lit 32), .lit 0, true), (false, .lit 536870911, .var 20, false), (false, .var 18, .lit 32, true), (false, .lit 14, .var 19, false), (true, .var 19, .lit 2, false), (true, .var 19, .lit 3, false), (true, .var 19, .lit 4, false), (true, .var 19, .lit 5, false), (true, .var 19, .lit 6, false), (true, .var 19, .lit 7, false), (true, .var 19, .lit 8, false), (true, .var 19, .lit 9, false), (true, .var 19, .lit 10, false), (true, .var 19, .lit 1, false)],
  .agg [I 1, I 4, I 0, U 0, I 0, U 0, IZ (-1), I 0],
  [.cel 32 0 8 (.int .i64 (.add (.var 0) (.lit 1))),
  .row 38 0 ([.slice 51 0 0 1 1 false]),
  .row 40 0 ([I 16, .slice 54 0 2 2 10 false, .int .i64 (.add (.var 1) (.lit 1))]),
  .cel 42 1 8 (.int .u32 (.wrap .u32 (.add (.var 17) (.lit 1)))),
  .cel 42 1 9 (I 4),
  .row 45 0 ([IZ (-1), .int .i64 (.sub (.var 21) (.lit 1))]),
  .row 45 2 ([I 0, .int .i64 (.sub (.var 23) (.lit 1))]),
  .row 51 0 ([I 0])], 765⟩
theorem s12_ok : SO 29 s12 := so f5_ok (by kernel_rfl) (by kernel_rfl)
noncomputable def p33 : Pur := ([I 2], .str [50], 1048576)
theorem p33_run : ranPure (evCall (cxX Tryz.prog bad [] [] q0) 1000 60 52 p33.1 ⟨.lf, p33.2.2⟩) p33.2.1 = true := by kernel_rfl
theorem p33_ok {σ : Nat → Int} {W0 : World} (hL : L0 W0) : PureOk Tryz.prog 399871 σ W0 52 p33 := pure_ok fit (Known2.nil σ) ((q0_ok hL)) p33_run
noncomputable def h42 : H := hUpd h11 444 [] [] [(374, 2, [.str [50]])]
noncomputable def h43 : H := hUpd h42 505 [] [] []
noncomputable def m34 : Memo := ⟨[.slice 374 0 3 3 1 false, .map 441], h42, .tuple [U 24117250, .inil], h43⟩
theorem m34_run : ranTo (evCall (cxX Tryz.prog bad [] [] q0) 1000 60 68 m34.args m34.h) m34.v m34.h' = true := by kernel_rfl
theorem m34_ok {σ : Nat → Int} {W0 : World} (hL : L0 W0) : MemoOk Tryz.prog 399871 σ W0 68 m34 := memo_ok fit (Known2.nil σ) ((q0_ok hL)) m34_run
noncomputable def h44 : H := hUpd h25 367 [] [] [(366, 0, [.str [108, 105, 32, 114, 55, 32, 50]])]
noncomputable def h45 : H := hUpd h26 907 [] [] [(366, 0, [.str [108, 105, 32, 114, 55, 32, 50]]),
  (906, 0, [U 24117250])]
noncomputable def m35 : Memo := ⟨[bT, I 1000, .slice 365 0 1 1 1 true, .slice 366 0 9 9 1 true], h44, .agg [.slice 906 0 7 7 1 false, I 1000, .slice 365 0 1 1 1 true, bT], h45⟩
noncomputable def l20 : List (Memo) := m13 :: m12 :: m11 :: m10 :: m9 :: m8 :: m34 :: []
theorem l20_ok {σ : Nat → Int} {W0 : World} (hL : L0 W0) : ∀ x ∈ l20, MemoOk Tryz.prog 399871 σ W0 68 x := all_cons (m13_ok hL) (all_cons (m12_ok hL) (all_cons (m11_ok hL) (all_cons (m10_ok hL) (all_cons (m9_ok hL) (all_cons (m8_ok hL) (all_cons (m34_ok hL) (all_nil)))))))
theorem m35_run : ranTo (evCall (cxX Tryz.prog bad [] [] ((68, frameFn l20) :: q0)) 1000 60 51 m35.args m35.h) m35.v m35.h' = true := by kernel_rfl
theorem m35_ok {σ : Nat → Int} {W0 : World} (hL : L0 W0) : MemoOk Tryz.prog 399871 σ W0 51 m35 := memo_ok fit (Known2.nil σ) (FnsOk.cons (frame_fn_ok (l20_ok hL)) ((q0_ok hL))) m35_run
noncomputable def s13 : Sym := ⟨[.ptr 32 0, I 0], h39, nm14, rg17,
  [(true, .bop .rem .u32 (.var 17) (.lit 32), .lit 2, true), (false, .var 23, .lit 1, false), (false, .var 21, .lit 1, false), (true, .bop .quo .u32 (.var 17) (.lit 32), .lit 0, true), (true, .var 16, .lit 0, false), (false, .lit 536870911, .var 20, false), (false, .var 18, .lit 32, true), (false, .lit 14, .var 19, false), (true, .var 19, .lit 2, false), (true, .var 19, .lit 3, false), (true, .var 19, .lit 4, false), (true, .var 19, .lit 5, false), (true, .var 19, .lit 6, false), (true, .var 19, .lit 7, false), (true, .var 19, .lit 8, false), (true, .var 19, .lit 9, false), (true, .var 19, .lit 10, false), (true, .var 19, .lit 1, false)],
  .agg [I 1, I 1, I 0, U 0, I 0, U 0, IZ (-1), I 0],
  [.cel 32 0 8 (.int .i64 (.add (.var 0) (.lit 1))),
  .row 40 0 ([I 16, .slice 54 0 2 2 10 false, .int .i64 (.add (.var 1) (.lit 1))]),
  .cel 42 1 8 (.int .u32 (.wrap .u32 (.add (.var 17) (.lit 1)))),
  .row 45 0 ([IZ (-1), .int .i64 (.sub (.var 21) (.lit 1))]),
  .row 45 2 ([I 0, .int .i64 (.sub (.var 23) (.lit 1))])], 773⟩
theorem s13_ok : SO 29 s13 := so f5_ok (by kernel_rfl) (by kernel_rfl)
noncomputable def h46 : H := hUpc h40 75 [] [(46, .cells 1 ([[.slice 65 0 8 8 3 true]]) false),
  (36, .cells 5 ([[.ptr 46 0, .slice 47 0 8 8 3 true, .map 48, .ptr 33 0, .ptr 34 0]]) false),
  (65, .cells 3 ([bT, I 0, bF] :: rp 7 ([bF, I 0, bF]) ([])) false)] [] [(42, 0, 9, I 1), (42, 0, 71, .int .i64 (.var 6)), (42, 0, 76, .int .i64 (.var 7)), (42, 0, 77, .int .i64 (.var 8)), (42, 0, 81, .int .i64 (.var 9)), (42, 0, 86, .int .i64 (.var 10)), (42, 0, 87, .int .i64 (.var 11)), (42, 0, 90, .int .u32 (.var 12)), (42, 1, 0, .int .u32 (.var 13)), (42, 1, 6, .int .u32 (.var 14)), (42, 1, 7, .int .u32 (.var 15))]
abbrev nm21 : List Nat := [32, 34, 36, 42, 33, 39, 53, 70, 35, 45, 40, 54, 69, 38, 41, 44, 51, 46, 55, 64, 65, 74, 30, 22, 26, 18, 6, 28, 20, 12, 24, 8, 4, 2, 29, 21, 25, 17, 5, 27, 19, 11, 23, 31, 7, 3, 1, 0]
noncomputable abbrev rg22 : Rg := ((0, 1099511627775)) :: ((0, 1099511627775)) :: rp 4 ((0, 4294967295)) (rp 6 ((0, 1099511627775)) (rp 5 ((0, 4294967295)) (rp 6 ((0, 1099511627775)) ([(0, 4294967295)]))))
noncomputable def s14 : Sym := ⟨[.ptr 32 0, I 0], h46, nm21, rg22,
  [(true, .bop .rem .u32 (.var 16) (.lit 32), .lit 3, true), (false, .var 22, .lit 1, false), (false, .var 20, .lit 1, false), (true, .bop .quo .u32 (.var 16) (.lit 32), .lit 0, true), (false, .lit 536870911, .var 19, false), (false, .var 17, .lit 32, true), (false, .lit 14, .var 18, false), (true, .var 18, .lit 2, false), (true, .var 18, .lit 3, false), (true, .var 18, .lit 4, false), (true, .var 18, .lit 5, false), (true, .var 18, .lit 6, false), (true, .var 18, .lit 7, false), (true, .var 18, .lit 8, false), (true, .var 18, .lit 9, false), (true, .var 18, .lit 10, false), (true, .var 18, .lit 1, false), (false, .lit 536870911, .add (.var 19) (.lit 1), false), (false, .lit 536870911, .wrap .u32 (.add (.var 19) (.lit 1)), false)],
  .agg [I 1, I 2, I 0, .int .u32 (.var 13), I 5, U 0, I 0, I 0],
  [.cel 32 0 8 (.int .i64 (.add (.var 0) (.lit 1))),
  .row 40 0 ([I 16, .slice 54 0 2 2 10 false, .int .i64 (.add (.var 1) (.lit 1))]),
  .cel 42 0 0 (.int .u32 (.var 13)),
  .cel 42 0 4 (U 1),
  .cel 42 0 9 (I 3),
  .cel 42 0 71 (I 8),
  .cel 42 0 76 (I 7),
  .cel 42 0 77 (I 2),
  .cel 42 0 81 (I 11),
  .cel 42 0 86 (I 6),
  .cel 42 0 87 (I 1),
  .cel 42 0 90 (.int .u32 (.wrap .u32 (.add (.var 19) (.lit 1)))),
  .cel 42 1 8 (.int .u32 (.wrap .u32 (.add (.var 16) (.lit 1)))),
  .cel 42 1 9 (I 2),
  .cel 42 1 106 (.int .i64 (.add (.var 19) (.lit 1))),
  .row 45 0 ([IZ (-1), .int .i64 (.sub (.var 20) (.lit 1))]),
  .row 45 2 ([I 0, .int .i64 (.sub (.var 22) (.lit 1))]),
  .row 51 0 ([I 0])], 2227⟩
theorem s14_ok : SO 29 s14 := so f5_ok (by kernel_rfl) (by kernel_rfl)
noncomputable def s15 : Sym := ⟨[.ptr 32 0, I 0], h37, nm14, rg13,
  [(true, .bop .rem .u32 (.var 5) (.lit 32), .lit 3, true), (false, .var 21, .lit 1, false), (false, .var 20, .lit 1, false), (true, .bop .quo .u32 (.var 5) (.lit 32), .lit 0, true), (false, .var 6, .lit 32, true), (false, .lit 14, .var 7, false), (true, .var 7, .lit 2, false), (true, .var 7, .lit 3, false), (true, .var 7, .lit 4, false), (true, .var 7, .lit 5, false), (true, .var 7, .lit 6, false), (true, .var 7, .lit 7, false), (true, .var 7, .lit 8, false), (true, .var 7, .lit 9, false), (true, .var 7, .lit 10, false), (true, .var 7, .lit 1, false), (false, .var 8, .lit 32, true), (false, .lit 536870911, .var 9, false)],
  .agg [I 0, I 1, I 0, U 0, I 0, U 0, IZ (-1), I 0],
  [.cel 32 0 8 (.int .i64 (.add (.var 0) (.lit 1))),
  .row 40 0 ([I 16, .slice 54 0 2 2 10 false, .int .i64 (.add (.var 1) (.lit 1))]),
  .cel 42 0 8 (U 0),
  .row 45 0 ([IZ (-1), .int .i64 (.sub (.var 20) (.lit 1))]),
  .row 45 1 ([I 0, .int .i64 (.sub (.var 21) (.lit 1))])], 769⟩
theorem s15_ok : SO 29 s15 := so f5_ok (by kernel_rfl) (by kernel_rfl)
noncomputable def s16 : Sym := ⟨[.ptr 32 0, I 0], h37, nm14, rg13,
  [(true, .bop .rem .u32 (.var 5) (.lit 32), .lit 0, true), (false, .var 21, .lit 1, false), (false, .var 20, .lit 1, false), (true, .bop .quo .u32 (.var 5) (.lit 32), .lit 0, true), (false, .var 6, .lit 32, true), (false, .lit 14, .var 7, false), (true, .var 7, .lit 2, false), (true, .var 7, .lit 3, false), (true, .var 7, .lit 4, false), (true, .var 7, .lit 5, false), (true, .var 7, .lit 6, false), (true, .var 7, .lit 7, false), (true, .var 7, .lit 8, false), (true, .var 7, .lit 9, false), (true, .var 7, .lit 10, false), (true, .var 7, .lit 1, false), (false, .var 8, .lit 32, true), (false, .lit 536870911, .var 9, false)],
  .agg [I 0, I 1, I 0, U 0, I 0, U 0, IZ (-1), I 0],
  [.cel 32 0 8 (.int .i64 (.add (.var 0) (.lit 1))),
  .row 40 0 ([I 16, .slice 54 0 2 2 10 false, .int .i64 (.add (.var 1) (.lit 1))]),
  .cel 42 0 6 (U 1),
  .cel 42 0 8 (.int .u32 (.wrap .u32 (.add (.var 5) (.lit 1)))),
  .row 45 0 ([IZ (-1), .int .i64 (.sub (.var 20) (.lit 1))]),
  .row 45 1 ([I 0, .int .i64 (.sub (.var 21) (.lit 1))])], 778⟩
theorem s16_ok : SO 29 s16 := so f5_ok (by kernel_rfl) (by kernel_rfl)
noncomputable def p36 : Pur := ([I 3], .str [51], 1048576)
theorem p36_run : ranPure (evCall (cxX Tryz.prog bad [] [] q0) 1000 60 52 p36.1 ⟨.lf, p36.2.2⟩) p36.2.1 = true := by kernel_rfl
theorem p36_ok {σ : Nat → Int} {W0 : World} (hL : L0 W0) : PureOk Tryz.prog 399871 σ W0 52 p36 := pure_ok fit (Known2.nil σ) ((q0_ok hL)) p36_run
noncomputable def h47 : H := hUpd h11 444 [] [] [(374, 2, [.str [51]])]
noncomputable def h48 : H := hUpd h47 505 [] [] []
noncomputable def m37 : Memo := ⟨[.slice 374 0 3 3 1 false, .map 441], h47, .tuple [U 24117251, .inil], h48⟩
theorem m37_run : ranTo (evCall (cxX Tryz.prog bad [] [] q0) 1000 60 68 m37.args m37.h) m37.v m37.h' = true := by kernel_rfl
theorem m37_ok {σ : Nat → Int} {W0 : World} (hL : L0 W0) : MemoOk Tryz.prog 399871 σ W0 68 m37 := memo_ok fit (Known2.nil σ) ((q0_ok hL)) m37_run
noncomputable def h49 : H := hUpd h25 367 [] [] [(366, 0, [.str [108, 105, 32, 114, 55, 32, 51]])]
noncomputable def h50 : H := hUpd h26 907 [] [] [(366, 0, [.str [108, 105, 32, 114, 55, 32, 51]]),
  (906, 0, [U 24117251])]
noncomputable def m38 : Memo := ⟨[bT, I 1000, .slice 365 0 1 1 1 true, .slice 366 0 9 9 1 true], h49, .agg [.slice 906 0 7 7 1 false, I 1000, .slice 365 0 1 1 1 true, bT], h50⟩
noncomputable def l23 : List (Memo) := m13 :: m12 :: m11 :: m10 :: m9 :: m8 :: m37 :: []
theorem l23_ok {σ : Nat → Int} {W0 : World} (hL : L0 W0) : ∀ x ∈ l23, MemoOk Tryz.prog 399871 σ W0 68 x := all_cons (m13_ok hL) (all_cons (m12_ok hL) (all_cons (m11_ok hL) (all_cons (m10_ok hL) (all_cons (m9_ok hL) (all_cons (m8_ok hL) (all_cons (m37_ok hL) (all_nil)))))))
theorem m38_run : ranTo (evCall (cxX Tryz.prog bad [] [] ((68, frameFn l23) :: q0)) 1000 60 51 m38.args m38.h) m38.v m38.h' = true := by kernel_rfl
theorem m38_ok {σ : Nat → Int} {W0 : World} (hL : L0 W0) : MemoOk Tryz.prog 399871 σ W0 51 m38 := memo_ok fit (Known2.nil σ) (FnsOk.cons (frame_fn_ok (l23_ok hL)) ((q0_ok hL))) m38_run
noncomputable def p39 : Pur := ([I 4], .str [52], 1048576)
theorem p39_run : ranPure (evCall (cxX Tryz.prog bad [] [] q0) 1000 60 52 p39.1 ⟨.lf, p39.2.2⟩) p39.2.1 = true := by kernel_rfl
theorem p39_ok {σ : Nat → Int} {W0 : World} (hL : L0 W0) : PureOk Tryz.prog 399871 σ W0 52 p39 := pure_ok fit (Known2.nil σ) ((q0_ok hL)) p39_run
noncomputable def h51 : H := hUpd h11 444 [] [] [(374, 2, [.str [52]])]
noncomputable def h52 : H := hUpd h51 505 [] [] []
noncomputable def m40 : Memo := ⟨[.slice 374 0 3 3 1 false, .map 441], h51, .tuple [U 24117252, .inil], h52⟩
theorem m40_run : ranTo (evCall (cxX Tryz.prog bad [] [] q0) 1000 60 68 m40.args m40.h) m40.v m40.h' = true := by kernel_rfl
theorem m40_ok {σ : Nat → Int} {W0 : World} (hL : L0 W0) : MemoOk Tryz.prog 399871 σ W0 68 m40 := memo_ok fit (Known2.nil σ) ((q0_ok hL)) m40_run
noncomputable def h53 : H := hUpd h25 367 [] [] [(366, 0, [.str [108, 105, 32, 114, 55, 32, 52]])]
noncomputable def h54 : H := hUpd h26 907 [] [] [(366, 0, [.str [108, 105, 32, 114, 55, 32, 52]]),
  (906, 0, [U 24117252])]
noncomputable def m41 : Memo := ⟨[bT, I 1000, .slice 365 0 1 1 1 true, .slice 366 0 9 9 1 true], h53, .agg [.slice 906 0 7 7 1 false, I 1000, .slice 365 0 1 1 1 true, bT], h54⟩
noncomputable def l24 : List (Memo) := m13 :: m12 :: m11 :: m10 :: m9 :: m8 :: m40 :: []
theorem l24_ok {σ : Nat → Int} {W0 : World} (hL : L0 W0) : ∀ x ∈ l24, MemoOk Tryz.prog 399871 σ W0 68 x := all_cons (m13_ok hL) (all_cons (m12_ok hL) (all_cons (m11_ok hL) (all_cons (m10_ok hL) (all_cons (m9_ok hL) (all_cons (m8_ok hL) (all_cons (m40_ok hL) (all_nil)))))))
theorem m41_run : ranTo (evCall (cxX Tryz.prog bad [] [] ((68, frameFn l24) :: q0)) 1000 60 51 m41.args m41.h) m41.v m41.h' = true := by kernel_rfl
theorem m41_ok {σ : Nat → Int} {W0 : World} (hL : L0 W0) : MemoOk Tryz.prog 399871 σ W0 51 m41 := memo_ok fit (Known2.nil σ) (FnsOk.cons (frame_fn_ok (l24_ok hL)) ((q0_ok hL))) m41_run
noncomputable def p42 : Pur := ([I 5], .str [53], 1048576)
theorem p42_run : ranPure (evCall (cxX Tryz.prog bad [] [] q0) 1000 60 52 p42.1 ⟨.lf, p42.2.2⟩) p42.2.1 = true := by kernel_rfl
theorem p42_ok {σ : Nat → Int} {W0 : World} (hL : L0 W0) : PureOk Tryz.prog 399871 σ W0 52 p42 := pure_ok fit (Known2.nil σ) ((q0_ok hL)) p42_run
noncomputable def h55 : H := hUpd h31 444 [] [] [(374, 2, [.str [53]])]
noncomputable def h56 : H := hUpd h55 505 [] [] []
noncomputable def m43 : Memo := ⟨[.slice 374 0 3 3 1 false, .map 441], h55, .tuple [U 24117253, .inil], h56⟩
theorem m43_run : ranTo (evCall (cxX Tryz.prog bad [] [] q0) 1000 60 68 m43.args m43.h) m43.v m43.h' = true := by kernel_rfl
theorem m43_ok {σ : Nat → Int} {W0 : World} (hL : L0 W0) : MemoOk Tryz.prog 399871 σ W0 68 m43 := memo_ok fit (Known2.nil σ) ((q0_ok hL)) m43_run
noncomputable def h57 : H := hUpd h25 367 [] [] [(366, 0, [.str [108, 105, 32, 114, 55, 32, 53]])]
noncomputable def h58 : H := hUpd h26 907 [] [] [(366, 0, [.str [108, 105, 32, 114, 55, 32, 53]]),
  (906, 0, [U 24117253])]
noncomputable def m44 : Memo := ⟨[bT, I 1000, .slice 365 0 1 1 1 true, .slice 366 0 9 9 1 true], h57, .agg [.slice 906 0 7 7 1 false, I 1000, .slice 365 0 1 1 1 true, bT], h58⟩
noncomputable def l25 : List (Memo) := m13 :: m12 :: m11 :: m10 :: m9 :: m8 :: m43 :: []
theorem l25_ok {σ : Nat → Int} {W0 : World} (hL : L0 W0) : ∀ x ∈ l25, MemoOk Tryz.prog 399871 σ W0 68 x := all_cons (m13_ok hL) (all_cons (m12_ok hL) (all_cons (m11_ok hL) (all_cons (m10_ok hL) (all_cons (m9_ok hL) (all_cons (m8_ok hL) (all_cons (m43_ok hL) (all_nil)))))))
theorem m44_run : ranTo (evCall (cxX Tryz.prog bad [] [] ((68, frameFn l25) :: q0)) 1000 60 51 m44.args m44.h) m44.v m44.h' = true := by kernel_rfl
theorem m44_ok {σ : Nat → Int} {W0 : World} (hL : L0 W0) : MemoOk Tryz.prog 399871 σ W0 51 m44 := memo_ok fit (Known2.nil σ) (FnsOk.cons (frame_fn_ok (l25_ok hL)) ((q0_ok hL))) m44_run
noncomputable def p45 : Pur := ([I 6], .str [54], 1048576)
theorem p45_run : ranPure (evCall (cxX Tryz.prog bad [] [] q0) 1000 60 52 p45.1 ⟨.lf, p45.2.2⟩) p45.2.1 = true := by kernel_rfl
theorem p45_ok {σ : Nat → Int} {W0 : World} (hL : L0 W0) : PureOk Tryz.prog 399871 σ W0 52 p45 := pure_ok fit (Known2.nil σ) ((q0_ok hL)) p45_run
noncomputable def h59 : H := hUpd h31 444 [] [] [(374, 2, [.str [54]])]
noncomputable def h60 : H := hUpd h59 505 [] [] []
noncomputable def m46 : Memo := ⟨[.slice 374 0 3 3 1 false, .map 441], h59, .tuple [U 24117254, .inil], h60⟩
theorem m46_run : ranTo (evCall (cxX Tryz.prog bad [] [] q0) 1000 60 68 m46.args m46.h) m46.v m46.h' = true := by kernel_rfl
theorem m46_ok {σ : Nat → Int} {W0 : World} (hL : L0 W0) : MemoOk Tryz.prog 399871 σ W0 68 m46 := memo_ok fit (Known2.nil σ) ((q0_ok hL)) m46_run
noncomputable def h61 : H := hUpd h25 367 [] [] [(366, 0, [.str [108, 105, 32, 114, 55, 32, 54]])]
noncomputable def h62 : H := hUpd h26 907 [] [] [(366, 0, [.str [108, 105, 32, 114, 55, 32, 54]]),
  (906, 0, [U 24117254])]
noncomputable def m47 : Memo := ⟨[bT, I 1000, .slice 365 0 1 1 1 true, .slice 366 0 9 9 1 true], h61, .agg [.slice 906 0 7 7 1 false, I 1000, .slice 365 0 1 1 1 true, bT], h62⟩
noncomputable def l26 : List (Memo) := m13 :: m12 :: m11 :: m10 :: m9 :: m8 :: m46 :: []
theorem l26_ok {σ : Nat → Int} {W0 : World} (hL : L0 W0) : ∀ x ∈ l26, MemoOk Tryz.prog 399871 σ W0 68 x := all_cons (m13_ok hL) (all_cons (m12_ok hL) (all_cons (m11_ok hL) (all_cons (m10_ok hL) (all_cons (m9_ok hL) (all_cons (m8_ok hL) (all_cons (m46_ok hL) (all_nil)))))))
theorem m47_run : ranTo (evCall (cxX Tryz.prog bad [] [] ((68, frameFn l26) :: q0)) 1000 60 51 m47.args m47.h) m47.v m47.h' = true := by kernel_rfl
theorem m47_ok {σ : Nat → Int} {W0 : World} (hL : L0 W0) : MemoOk Tryz.prog 399871 σ W0 51 m47 := memo_ok fit (Known2.nil σ) (FnsOk.cons (frame_fn_ok (l26_ok hL)) ((q0_ok hL))) m47_run
noncomputable def p48 : Pur := ([I 7], .str [55], 1048576)
theorem p48_run : ranPure (evCall (cxX Tryz.prog bad [] [] q0) 1000 60 52 p48.1 ⟨.lf, p48.2.2⟩) p48.2.1 = true := by kernel_rfl
theorem p48_ok {σ : Nat → Int} {W0 : World} (hL : L0 W0) : PureOk Tryz.prog 399871 σ W0 52 p48 := pure_ok fit (Known2.nil σ) ((q0_ok hL)) p48_run
noncomputable def h63 : H := hUpd h31 444 [] [] [(374, 2, [.str [55]])]
noncomputable def h64 : H := hUpd h63 505 [] [] []
noncomputable def m49 : Memo := ⟨[.slice 374 0 3 3 1 false, .map 441], h63, .tuple [U 24117255, .inil], h64⟩
theorem m49_run : ranTo (evCall (cxX Tryz.prog bad [] [] q0) 1000 60 68 m49.args m49.h) m49.v m49.h' = true := by kernel_rfl
theorem m49_ok {σ : Nat → Int} {W0 : World} (hL : L0 W0) : MemoOk Tryz.prog 399871 σ W0 68 m49 := memo_ok fit (Known2.nil σ) ((q0_ok hL)) m49_run
noncomputable def h65 : H := hUpd h25 367 [] [] [(366, 0, [.str [108, 105, 32, 114, 55, 32, 55]])]
noncomputable def h66 : H := hUpd h26 907 [] [] [(366, 0, [.str [108, 105, 32, 114, 55, 32, 55]]),
  (906, 0, [U 24117255])]
noncomputable def m50 : Memo := ⟨[bT, I 1000, .slice 365 0 1 1 1 true, .slice 366 0 9 9 1 true], h65, .agg [.slice 906 0 7 7 1 false, I 1000, .slice 365 0 1 1 1 true, bT], h66⟩
noncomputable def l27 : List (Memo) := m13 :: m12 :: m11 :: m10 :: m9 :: m8 :: m49 :: []
theorem l27_ok {σ : Nat → Int} {W0 : World} (hL : L0 W0) : ∀ x ∈ l27, MemoOk Tryz.prog 399871 σ W0 68 x := all_cons (m13_ok hL) (all_cons (m12_ok hL) (all_cons (m11_ok hL) (all_cons (m10_ok hL) (all_cons (m9_ok hL) (all_cons (m8_ok hL) (all_cons (m49_ok hL) (all_nil)))))))
theorem m50_run : ranTo (evCall (cxX Tryz.prog bad [] [] ((68, frameFn l27) :: q0)) 1000 60 51 m50.args m50.h) m50.v m50.h' = true := by kernel_rfl
theorem m50_ok {σ : Nat → Int} {W0 : World} (hL : L0 W0) : MemoOk Tryz.prog 399871 σ W0 51 m50 := memo_ok fit (Known2.nil σ) (FnsOk.cons (frame_fn_ok (l27_ok hL)) ((q0_ok hL))) m50_run
noncomputable def p51 : Pur := ([I 8], .str [56], 1048576)
theorem p51_run : ranPure (evCall (cxX Tryz.prog bad [] [] q0) 1000 60 52 p51.1 ⟨.lf, p51.2.2⟩) p51.2.1 = true := by kernel_rfl
theorem p51_ok {σ : Nat → Int} {W0 : World} (hL : L0 W0) : PureOk Tryz.prog 399871 σ W0 52 p51 := pure_ok fit (Known2.nil σ) ((q0_ok hL)) p51_run
noncomputable def h67 : H := hUpd h31 444 [] [] [(374, 2, [.str [56]])]
noncomputable def h68 : H := hUpd h67 505 [] [] []
noncomputable def m52 : Memo := ⟨[.slice 374 0 3 3 1 false, .map 441], h67, .tuple [U 24117256, .inil], h68⟩
theorem m52_run : ranTo (evCall (cxX Tryz.prog bad [] [] q0) 1000 60 68 m52.args m52.h) m52.v m52.h' = true := by kernel_rfl
theorem m52_ok {σ : Nat → Int} {W0 : World} (hL : L0 W0) : MemoOk Tryz.prog 399871 σ W0 68 m52 := memo_ok fit (Known2.nil σ) ((q0_ok hL)) m52_run
noncomputable def h69 : H := hUpd h33 367 [] [] [(366, 0, [.str [108, 105, 32, 114, 55, 32, 56]])]
noncomputable def h70 : H := hUpd h34 907 [] [] [(366, 0, [.str [108, 105, 32, 114, 55, 32, 56]]),
  (906, 0, [U 24117256])]
noncomputable def m53 : Memo := ⟨[bT, I 1000, .slice 365 0 1 1 1 true, .slice 366 0 9 9 1 true], h69, .agg [.slice 906 0 7 7 1 false, I 1000, .slice 365 0 1 1 1 true, bT], h70⟩
noncomputable def l28 : List (Memo) := m13 :: m12 :: m11 :: m10 :: m9 :: m8 :: m52 :: []
theorem l28_ok {σ : Nat → Int} {W0 : World} (hL : L0 W0) : ∀ x ∈ l28, MemoOk Tryz.prog 399871 σ W0 68 x := all_cons (m13_ok hL) (all_cons (m12_ok hL) (all_cons (m11_ok hL) (all_cons (m10_ok hL) (all_cons (m9_ok hL) (all_cons (m8_ok hL) (all_cons (m52_ok hL) (all_nil)))))))
theorem m53_run : ranTo (evCall (cxX Tryz.prog bad [] [] ((68, frameFn l28) :: q0)) 1000 60 51 m53.args m53.h) m53.v m53.h' = true := by kernel_rfl
theorem m53_ok {σ : Nat → Int} {W0 : World} (hL : L0 W0) : MemoOk Tryz.prog 399871 σ W0 51 m53 := memo_ok fit (Known2.nil σ) (FnsOk.cons (frame_fn_ok (l28_ok hL)) ((q0_ok hL))) m53_run
noncomputable def p54 : Pur := ([I 9], .str [57], 1048576)
theorem p54_run : ranPure (evCall (cxX Tryz.prog bad [] [] q0) 1000 60 52 p54.1 ⟨.lf, p54.2.2⟩) p54.2.1 = true := by kernel_rfl
theorem p54_ok {σ : Nat → Int} {W0 : World} (hL : L0 W0) : PureOk Tryz.prog 399871 σ W0 52 p54 := pure_ok fit (Known2.nil σ) ((q0_ok hL)) p54_run
noncomputable def h71 : H := hUpd h31 444 [] [] [(374, 2, [.str [57]])]
noncomputable def h72 : H := hUpd h71 505 [] [] []
noncomputable def m55 : Memo := ⟨[.slice 374 0 3 3 1 false, .map 441], h71, .tuple [U 24117257, .inil], h72⟩
theorem m55_run : ranTo (evCall (cxX Tryz.prog bad [] [] q0) 1000 60 68 m55.args m55.h) m55.v m55.h' = true := by kernel_rfl
theorem m55_ok {σ : Nat → Int} {W0 : World} (hL : L0 W0) : MemoOk Tryz.prog 399871 σ W0 68 m55 := memo_ok fit (Known2.nil σ) ((q0_ok hL)) m55_run
noncomputable def h73 : H := hUpd h33 367 [] [] [(366, 0, [.str [108, 105, 32, 114, 55, 32, 57]])]
noncomputable def h74 : H := hUpd h34 907 [] [] [(366, 0, [.str [108, 105, 32, 114, 55, 32, 57]]),
  (906, 0, [U 24117257])]
noncomputable def m56 : Memo := ⟨[bT, I 1000, .slice 365 0 1 1 1 true, .slice 366 0 9 9 1 true], h73, .agg [.slice 906 0 7 7 1 false, I 1000, .slice 365 0 1 1 1 true, bT], h74⟩
noncomputable def l29 : List (Memo) := m13 :: m12 :: m11 :: m10 :: m9 :: m8 :: m55 :: []
theorem l29_ok {σ : Nat → Int} {W0 : World} (hL : L0 W0) : ∀ x ∈ l29, MemoOk Tryz.prog 399871 σ W0 68 x := all_cons (m13_ok hL) (all_cons (m12_ok hL) (all_cons (m11_ok hL) (all_cons (m10_ok hL) (all_cons (m9_ok hL) (all_cons (m8_ok hL) (all_cons (m55_ok hL) (all_nil)))))))
theorem m56_run : ranTo (evCall (cxX Tryz.prog bad [] [] ((68, frameFn l29) :: q0)) 1000 60 51 m56.args m56.h) m56.v m56.h' = true := by kernel_rfl
theorem m56_ok {σ : Nat → Int} {W0 : World} (hL : L0 W0) : MemoOk Tryz.prog 399871 σ W0 51 m56 := memo_ok fit (Known2.nil σ) (FnsOk.cons (frame_fn_ok (l29_ok hL)) ((q0_ok hL))) m56_run
noncomputable def p57 : Pur := ([I 10], .str [49, 48], 1048576)
theorem p57_run : ranPure (evCall (cxX Tryz.prog bad [] [] q0) 1000 60 52 p57.1 ⟨.lf, p57.2.2⟩) p57.2.1 = true := by kernel_rfl
theorem p57_ok {σ : Nat → Int} {W0 : World} (hL : L0 W0) : PureOk Tryz.prog 399871 σ W0 52 p57 := pure_ok fit (Known2.nil σ) ((q0_ok hL)) p57_run
noncomputable def h75 : H := hUpd h42 444 [] [] [(374, 2, [.str [49, 48]])]
noncomputable def h76 : H := hUpd h75 505 [] [] []
noncomputable def m58 : Memo := ⟨[.slice 374 0 3 3 1 false, .map 441], h75, .tuple [U 24117258, .inil], h76⟩
theorem m58_run : ranTo (evCall (cxX Tryz.prog bad [] [] q0) 1000 60 68 m58.args m58.h) m58.v m58.h' = true := by kernel_rfl
theorem m58_ok {σ : Nat → Int} {W0 : World} (hL : L0 W0) : MemoOk Tryz.prog 399871 σ W0 68 m58 := memo_ok fit (Known2.nil σ) ((q0_ok hL)) m58_run
noncomputable def h77 : H := hUpd h44 367 [] [] [(366, 0, [.str [108, 105, 32, 114, 55, 32, 49, 48]])]
noncomputable def h78 : H := hUpd h45 907 [] [] [(366, 0, [.str [108, 105, 32, 114, 55, 32, 49, 48]]),
  (906, 0, [U 24117258])]
noncomputable def m59 : Memo := ⟨[bT, I 1000, .slice 365 0 1 1 1 true, .slice 366 0 9 9 1 true], h77, .agg [.slice 906 0 7 7 1 false, I 1000, .slice 365 0 1 1 1 true, bT], h78⟩
noncomputable def l30 : List (Memo) := m13 :: m12 :: m11 :: m10 :: m9 :: m8 :: m58 :: []
theorem l30_ok {σ : Nat → Int} {W0 : World} (hL : L0 W0) : ∀ x ∈ l30, MemoOk Tryz.prog 399871 σ W0 68 x := all_cons (m13_ok hL) (all_cons (m12_ok hL) (all_cons (m11_ok hL) (all_cons (m10_ok hL) (all_cons (m9_ok hL) (all_cons (m8_ok hL) (all_cons (m58_ok hL) (all_nil)))))))
theorem m59_run : ranTo (evCall (cxX Tryz.prog bad [] [] ((68, frameFn l30) :: q0)) 1000 60 51 m59.args m59.h) m59.v m59.h' = true := by kernel_rfl
theorem m59_ok {σ : Nat → Int} {W0 : World} (hL : L0 W0) : MemoOk Tryz.prog 399871 σ W0 51 m59 := memo_ok fit (Known2.nil σ) (FnsOk.cons (frame_fn_ok (l30_ok hL)) ((q0_ok hL))) m59_run
noncomputable def p60 : Pur := ([I 11], .str [49, 49], 1048576)
theorem p60_run : ranPure (evCall (cxX Tryz.prog bad [] [] q0) 1000 60 52 p60.1 ⟨.lf, p60.2.2⟩) p60.2.1 = true := by kernel_rfl
theorem p60_ok {σ : Nat → Int} {W0 : World} (hL : L0 W0) : PureOk Tryz.prog 399871 σ W0 52 p60 := pure_ok fit (Known2.nil σ) ((q0_ok hL)) p60_run
noncomputable def h79 : H := hUpd h42 444 [] [] [(374, 2, [.str [49, 49]])]
noncomputable def h80 : H := hUpd h79 505 [] [] []
noncomputable def m61 : Memo := ⟨[.slice 374 0 3 3 1 false, .map 441], h79, .tuple [U 24117259, .inil], h80⟩
theorem m61_run : ranTo (evCall (cxX Tryz.prog bad [] [] q0) 1000 60 68 m61.args m61.h) m61.v m61.h' = true := by kernel_rfl
theorem m61_ok {σ : Nat → Int} {W0 : World} (hL : L0 W0) : MemoOk Tryz.prog 399871 σ W0 68 m61 := memo_ok fit (Known2.nil σ) ((q0_ok hL)) m61_run
noncomputable def h81 : H := hUpd h44 367 [] [] [(366, 0, [.str [108, 105, 32, 114, 55, 32, 49, 49]])]
noncomputable def h82 : H := hUpd h45 907 [] [] [(366, 0, [.str [108, 105, 32, 114, 55, 32, 49, 49]]),
  (906, 0, [U 24117259])]
noncomputable def m62 : Memo := ⟨[bT, I 1000, .slice 365 0 1 1 1 true, .slice 366 0 9 9 1 true], h81, .agg [.slice 906 0 7 7 1 false, I 1000, .slice 365 0 1 1 1 true, bT], h82⟩
noncomputable def l31 : List (Memo) := m13 :: m12 :: m11 :: m10 :: m9 :: m8 :: m61 :: []
theorem l31_ok {σ : Nat → Int} {W0 : World} (hL : L0 W0) : ∀ x ∈ l31, MemoOk Tryz.prog 399871 σ W0 68 x := all_cons (m13_ok hL) (all_cons (m12_ok hL) (all_cons (m11_ok hL) (all_cons (m10_ok hL) (all_cons (m9_ok hL) (all_cons (m8_ok hL) (all_cons (m61_ok hL) (all_nil)))))))
theorem m62_run : ranTo (evCall (cxX Tryz.prog bad [] [] ((68, frameFn l31) :: q0)) 1000 60 51 m62.args m62.h) m62.v m62.h' = true := by kernel_rfl
theorem m62_ok {σ : Nat → Int} {W0 : World} (hL : L0 W0) : MemoOk Tryz.prog 399871 σ W0 51 m62 := memo_ok fit (Known2.nil σ) (FnsOk.cons (frame_fn_ok (l31_ok hL)) ((q0_ok hL))) m62_run
noncomputable def p63 : Pur := ([I 12], .str [49, 50], 1048576)
theorem p63_run : ranPure (evCall (cxX Tryz.prog bad [] [] q0) 1000 60 52 p63.1 ⟨.lf, p63.2.2⟩) p63.2.1 = true := by kernel_rfl
theorem p63_ok {σ : Nat → Int} {W0 : World} (hL : L0 W0) : PureOk Tryz.prog 399871 σ W0 52 p63 := pure_ok fit (Known2.nil σ) ((q0_ok hL)) p63_run
noncomputable def h83 : H := hUpd h43 444 [] [] [(374, 2, [.str [49, 50]])]
noncomputable def h84 : H := hUpd h83 505 [] [] []
noncomputable def m64 : Memo := ⟨[.slice 374 0 3 3 1 false, .map 441], h83, .tuple [U 24117260, .inil], h84⟩
theorem m64_run : ranTo (evCall (cxX Tryz.prog bad [] [] q0) 1000 60 68 m64.args m64.h) m64.v m64.h' = true := by kernel_rfl
theorem m64_ok {σ : Nat → Int} {W0 : World} (hL : L0 W0) : MemoOk Tryz.prog 399871 σ W0 68 m64 := memo_ok fit (Known2.nil σ) ((q0_ok hL)) m64_run
noncomputable def h85 : H := hUpd h49 367 [] [] [(366, 0, [.str [108, 105, 32, 114, 55, 32, 49, 50]])]
noncomputable def h86 : H := hUpd h50 907 [] [] [(366, 0, [.str [108, 105, 32, 114, 55, 32, 49, 50]]),
  (906, 0, [U 24117260])]
noncomputable def m65 : Memo := ⟨[bT, I 1000, .slice 365 0 1 1 1 true, .slice 366 0 9 9 1 true], h85, .agg [.slice 906 0 7 7 1 false, I 1000, .slice 365 0 1 1 1 true, bT], h86⟩
noncomputable def l32 : List (Memo) := m13 :: m12 :: m11 :: m10 :: m9 :: m8 :: m64 :: []
theorem l32_ok {σ : Nat → Int} {W0 : World} (hL : L0 W0) : ∀ x ∈ l32, MemoOk Tryz.prog 399871 σ W0 68 x := all_cons (m13_ok hL) (all_cons (m12_ok hL) (all_cons (m11_ok hL) (all_cons (m10_ok hL) (all_cons (m9_ok hL) (all_cons (m8_ok hL) (all_cons (m64_ok hL) (all_nil)))))))
theorem m65_run : ranTo (evCall (cxX Tryz.prog bad [] [] ((68, frameFn l32) :: q0)) 1000 60 51 m65.args m65.h) m65.v m65.h' = true := by kernel_rfl
theorem m65_ok {σ : Nat → Int} {W0 : World} (hL : L0 W0) : MemoOk Tryz.prog 399871 σ W0 51 m65 := memo_ok fit (Known2.nil σ) (FnsOk.cons (frame_fn_ok (l32_ok hL)) ((q0_ok hL))) m65_run
noncomputable def p66 : Pur := ([I 13], .str [49, 51], 1048576)
theorem p66_run : ranPure (evCall (cxX Tryz.prog bad [] [] q0) 1000 60 52 p66.1 ⟨.lf, p66.2.2⟩) p66.2.1 = true := by kernel_rfl
theorem p66_ok {σ : Nat → Int} {W0 : World} (hL : L0 W0) : PureOk Tryz.prog 399871 σ W0 52 p66 := pure_ok fit (Known2.nil σ) ((q0_ok hL)) p66_run
noncomputable def h87 : H := hUpd h47 444 [] [] [(374, 2, [.str [49, 51]])]
noncomputable def h88 : H := hUpd h87 505 [] [] []
noncomputable def m67 : Memo := ⟨[.slice 374 0 3 3 1 false, .map 441], h87, .tuple [U 24117261, .inil], h88⟩
theorem m67_run : ranTo (evCall (cxX Tryz.prog bad [] [] q0) 1000 60 68 m67.args m67.h) m67.v m67.h' = true := by kernel_rfl
theorem m67_ok {σ : Nat → Int} {W0 : World} (hL : L0 W0) : MemoOk Tryz.prog 399871 σ W0 68 m67 := memo_ok fit (Known2.nil σ) ((q0_ok hL)) m67_run
noncomputable def h89 : H := hUpd h49 367 [] [] [(366, 0, [.str [108, 105, 32, 114, 55, 32, 49, 51]])]
noncomputable def h90 : H := hUpd h50 907 [] [] [(366, 0, [.str [108, 105, 32, 114, 55, 32, 49, 51]]),
  (906, 0, [U 24117261])]
noncomputable def m68 : Memo := ⟨[bT, I 1000, .slice 365 0 1 1 1 true, .slice 366 0 9 9 1 true], h89, .agg [.slice 906 0 7 7 1 false, I 1000, .slice 365 0 1 1 1 true, bT], h90⟩
noncomputable def l33 : List (Memo) := m13 :: m12 :: m11 :: m10 :: m9 :: m8 :: m67 :: []
theorem l33_ok {σ : Nat → Int} {W0 : World} (hL : L0 W0) : ∀ x ∈ l33, MemoOk Tryz.prog 399871 σ W0 68 x := all_cons (m13_ok hL) (all_cons (m12_ok hL) (all_cons (m11_ok hL) (all_cons (m10_ok hL) (all_cons (m9_ok hL) (all_cons (m8_ok hL) (all_cons (m67_ok hL) (all_nil)))))))
theorem m68_run : ranTo (evCall (cxX Tryz.prog bad [] [] ((68, frameFn l33) :: q0)) 1000 60 51 m68.args m68.h) m68.v m68.h' = true := by kernel_rfl
theorem m68_ok {σ : Nat → Int} {W0 : World} (hL : L0 W0) : MemoOk Tryz.prog 399871 σ W0 51 m68 := memo_ok fit (Known2.nil σ) (FnsOk.cons (frame_fn_ok (l33_ok hL)) ((q0_ok hL))) m68_run
noncomputable def p69 : Pur := ([I 14], .str [49, 52], 1048576)
theorem p69_run : ranPure (evCall (cxX Tryz.prog bad [] [] q0) 1000 60 52 p69.1 ⟨.lf, p69.2.2⟩) p69.2.1 = true := by kernel_rfl
theorem p69_ok {σ : Nat → Int} {W0 : World} (hL : L0 W0) : PureOk Tryz.prog 399871 σ W0 52 p69 := pure_ok fit (Known2.nil σ) ((q0_ok hL)) p69_run
noncomputable def h91 : H := hUpd h51 444 [] [] [(374, 2, [.str [49, 52]])]
noncomputable def h92 : H := hUpd h91 505 [] [] []
noncomputable def m70 : Memo := ⟨[.slice 374 0 3 3 1 false, .map 441], h91, .tuple [U 24117262, .inil], h92⟩
theorem m70_run : ranTo (evCall (cxX Tryz.prog bad [] [] q0) 1000 60 68 m70.args m70.h) m70.v m70.h' = true := by kernel_rfl
theorem m70_ok {σ : Nat → Int} {W0 : World} (hL : L0 W0) : MemoOk Tryz.prog 399871 σ W0 68 m70 := memo_ok fit (Known2.nil σ) ((q0_ok hL)) m70_run
noncomputable def h93 : H := hUpd h53 367 [] [] [(366, 0, [.str [108, 105, 32, 114, 55, 32, 49, 52]])]
noncomputable def h94 : H := hUpd h54 907 [] [] [(366, 0, [.str [108, 105, 32, 114, 55, 32, 49, 52]]),
  (906, 0, [U 24117262])]
noncomputable def m71 : Memo := ⟨[bT, I 1000, .slice 365 0 1 1 1 true, .slice 366 0 9 9 1 true], h93, .agg [.slice 906 0 7 7 1 false, I 1000, .slice 365 0 1 1 1 true, bT], h94⟩
noncomputable def l34 : List (Memo) := m13 :: m12 :: m11 :: m10 :: m9 :: m8 :: m70 :: []
theorem l34_ok {σ : Nat → Int} {W0 : World} (hL : L0 W0) : ∀ x ∈ l34, MemoOk Tryz.prog 399871 σ W0 68 x := all_cons (m13_ok hL) (all_cons (m12_ok hL) (all_cons (m11_ok hL) (all_cons (m10_ok hL) (all_cons (m9_ok hL) (all_cons (m8_ok hL) (all_cons (m70_ok hL) (all_nil)))))))
theorem m71_run : ranTo (evCall (cxX Tryz.prog bad [] [] ((68, frameFn l34) :: q0)) 1000 60 51 m71.args m71.h) m71.v m71.h' = true := by kernel_rfl
theorem m71_ok {σ : Nat → Int} {W0 : World} (hL : L0 W0) : MemoOk Tryz.prog 399871 σ W0 51 m71 := memo_ok fit (Known2.nil σ) (FnsOk.cons (frame_fn_ok (l34_ok hL)) ((q0_ok hL))) m71_run
noncomputable def p72 : Pur := ([I 15], .str [49, 53], 1048576)
theorem p72_run : ranPure (evCall (cxX Tryz.prog bad [] [] q0) 1000 60 52 p72.1 ⟨.lf, p72.2.2⟩) p72.2.1 = true := by kernel_rfl
theorem p72_ok {σ : Nat → Int} {W0 : World} (hL : L0 W0) : PureOk Tryz.prog 399871 σ W0 52 p72 := pure_ok fit (Known2.nil σ) ((q0_ok hL)) p72_run
noncomputable def h95 : H := hUpd h55 444 [] [] [(374, 2, [.str [49, 53]])]
noncomputable def h96 : H := hUpd h95 505 [] [] []
noncomputable def m73 : Memo := ⟨[.slice 374 0 3 3 1 false, .map 441], h95, .tuple [U 24117263, .inil], h96⟩
theorem m73_run : ranTo (evCall (cxX Tryz.prog bad [] [] q0) 1000 60 68 m73.args m73.h) m73.v m73.h' = true := by kernel_rfl
theorem m73_ok {σ : Nat → Int} {W0 : World} (hL : L0 W0) : MemoOk Tryz.prog 399871 σ W0 68 m73 := memo_ok fit (Known2.nil σ) ((q0_ok hL)) m73_run
noncomputable def h97 : H := hUpd h57 367 [] [] [(366, 0, [.str [108, 105, 32, 114, 55, 32, 49, 53]])]
noncomputable def h98 : H := hUpd h58 907 [] [] [(366, 0, [.str [108, 105, 32, 114, 55, 32, 49, 53]]),
  (906, 0, [U 24117263])]
noncomputable def m74 : Memo := ⟨[bT, I 1000, .slice 365 0 1 1 1 true, .slice 366 0 9 9 1 true], h97, .agg [.slice 906 0 7 7 1 false, I 1000, .slice 365 0 1 1 1 true, bT], h98⟩
noncomputable def l35 : List (Memo) := m13 :: m12 :: m11 :: m10 :: m9 :: m8 :: m73 :: []
theorem l35_ok {σ : Nat → Int} {W0 : World} (hL : L0 W0) : ∀ x ∈ l35, MemoOk Tryz.prog 399871 σ W0 68 x := all_cons (m13_ok hL) (all_cons (m12_ok hL) (all_cons (m11_ok hL) (all_cons (m10_ok hL) (all_cons (m9_ok hL) (all_cons (m8_ok hL) (all_cons (m73_ok hL) (all_nil)))))))
theorem m74_run : ranTo (evCall (cxX Tryz.prog bad [] [] ((68, frameFn l35) :: q0)) 1000 60 51 m74.args m74.h) m74.v m74.h' = true := by kernel_rfl
theorem m74_ok {σ : Nat → Int} {W0 : World} (hL : L0 W0) : MemoOk Tryz.prog 399871 σ W0 51 m74 := memo_ok fit (Known2.nil σ) (FnsOk.cons (frame_fn_ok (l35_ok hL)) ((q0_ok hL))) m74_run
noncomputable def p75 : Pur := ([I 16], .str [49, 54], 1048576)
theorem p75_run : ranPure (evCall (cxX Tryz.prog bad [] [] q0) 1000 60 52 p75.1 ⟨.lf, p75.2.2⟩) p75.2.1 = true := by kernel_rfl
theorem p75_ok {σ : Nat → Int} {W0 : World} (hL : L0 W0) : PureOk Tryz.prog 399871 σ W0 52 p75 := pure_ok fit (Known2.nil σ) ((q0_ok hL)) p75_run
noncomputable def h99 : H := hUpd h59 444 [] [] [(374, 2, [.str [49, 54]])]
noncomputable def h100 : H := hUpd h99 505 [] [] []
noncomputable def m76 : Memo := ⟨[.slice 374 0 3 3 1 false, .map 441], h99, .tuple [U 24117264, .inil], h100⟩
theorem m76_run : ranTo (evCall (cxX Tryz.prog bad [] [] q0) 1000 60 68 m76.args m76.h) m76.v m76.h' = true := by kernel_rfl
theorem m76_ok {σ : Nat → Int} {W0 : World} (hL : L0 W0) : MemoOk Tryz.prog 399871 σ W0 68 m76 := memo_ok fit (Known2.nil σ) ((q0_ok hL)) m76_run
noncomputable def h101 : H := hUpd h61 367 [] [] [(366, 0, [.str [108, 105, 32, 114, 55, 32, 49, 54]])]
noncomputable def h102 : H := hUpd h62 907 [] [] [(366, 0, [.str [108, 105, 32, 114, 55, 32, 49, 54]]),
  (906, 0, [U 24117264])]
noncomputable def m77 : Memo := ⟨[bT, I 1000, .slice 365 0 1 1 1 true, .slice 366 0 9 9 1 true], h101, .agg [.slice 906 0 7 7 1 false, I 1000, .slice 365 0 1 1 1 true, bT], h102⟩
noncomputable def l36 : List (Memo) := m13 :: m12 :: m11 :: m10 :: m9 :: m8 :: m76 :: []
theorem l36_ok {σ : Nat → Int} {W0 : World} (hL : L0 W0) : ∀ x ∈ l36, MemoOk Tryz.prog 399871 σ W0 68 x := all_cons (m13_ok hL) (all_cons (m12_ok hL) (all_cons (m11_ok hL) (all_cons (m10_ok hL) (all_cons (m9_ok hL) (all_cons (m8_ok hL) (all_cons (m76_ok hL) (all_nil)))))))
theorem m77_run : ranTo (evCall (cxX Tryz.prog bad [] [] ((68, frameFn l36) :: q0)) 1000 60 51 m77.args m77.h) m77.v m77.h' = true := by kernel_rfl
theorem m77_ok {σ : Nat → Int} {W0 : World} (hL : L0 W0) : MemoOk Tryz.prog 399871 σ W0 51 m77 := memo_ok fit (Known2.nil σ) (FnsOk.cons (frame_fn_ok (l36_ok hL)) ((q0_ok hL))) m77_run
noncomputable def p78 : Pur := ([I 17], .str [49, 55], 1048576)
theorem p78_run : ranPure (evCall (cxX Tryz.prog bad [] [] q0) 1000 60 52 p78.1 ⟨.lf, p78.2.2⟩) p78.2.1 = true := by kernel_rfl
theorem p78_ok {σ : Nat → Int} {W0 : World} (hL : L0 W0) : PureOk Tryz.prog 399871 σ W0 52 p78 := pure_ok fit (Known2.nil σ) ((q0_ok hL)) p78_run
noncomputable def h103 : H := hUpd h63 444 [] [] [(374, 2, [.str [49, 55]])]
noncomputable def h104 : H := hUpd h103 505 [] [] []
noncomputable def m79 : Memo := ⟨[.slice 374 0 3 3 1 false, .map 441], h103, .tuple [U 24117265, .inil], h104⟩
theorem m79_run : ranTo (evCall (cxX Tryz.prog bad [] [] q0) 1000 60 68 m79.args m79.h) m79.v m79.h' = true := by kernel_rfl
theorem m79_ok {σ : Nat → Int} {W0 : World} (hL : L0 W0) : MemoOk Tryz.prog 399871 σ W0 68 m79 := memo_ok fit (Known2.nil σ) ((q0_ok hL)) m79_run
noncomputable def h105 : H := hUpd h65 367 [] [] [(366, 0, [.str [108, 105, 32, 114, 55, 32, 49, 55]])]
noncomputable def h106 : H := hUpd h66 907 [] [] [(366, 0, [.str [108, 105, 32, 114, 55, 32, 49, 55]]),
  (906, 0, [U 24117265])]
noncomputable def m80 : Memo := ⟨[bT, I 1000, .slice 365 0 1 1 1 true, .slice 366 0 9 9 1 true], h105, .agg [.slice 906 0 7 7 1 false, I 1000, .slice 365 0 1 1 1 true, bT], h106⟩
noncomputable def l37 : List (Memo) := m13 :: m12 :: m11 :: m10 :: m9 :: m8 :: m79 :: []
theorem l37_ok {σ : Nat → Int} {W0 : World} (hL : L0 W0) : ∀ x ∈ l37, MemoOk Tryz.prog 399871 σ W0 68 x := all_cons (m13_ok hL) (all_cons (m12_ok hL) (all_cons (m11_ok hL) (all_cons (m10_ok hL) (all_cons (m9_ok hL) (all_cons (m8_ok hL) (all_cons (m79_ok hL) (all_nil)))))))
theorem m80_run : ranTo (evCall (cxX Tryz.prog bad [] [] ((68, frameFn l37) :: q0)) 1000 60 51 m80.args m80.h) m80.v m80.h' = true := by kernel_rfl
theorem m80_ok {σ : Nat → Int} {W0 : World} (hL : L0 W0) : MemoOk Tryz.prog 399871 σ W0 51 m80 := memo_ok fit (Known2.nil σ) (FnsOk.cons (frame_fn_ok (l37_ok hL)) ((q0_ok hL))) m80_run
noncomputable def p81 : Pur := ([I 18], .str [49, 56], 1048576)
theorem p81_run : ranPure (evCall (cxX Tryz.prog bad [] [] q0) 1000 60 52 p81.1 ⟨.lf, p81.2.2⟩) p81.2.1 = true := by kernel_rfl
theorem p81_ok {σ : Nat → Int} {W0 : World} (hL : L0 W0) : PureOk Tryz.prog 399871 σ W0 52 p81 := pure_ok fit (Known2.nil σ) ((q0_ok hL)) p81_run
noncomputable def h107 : H := hUpd h67 444 [] [] [(374, 2, [.str [49, 56]])]
noncomputable def h108 : H := hUpd h107 505 [] [] []
noncomputable def m82 : Memo := ⟨[.slice 374 0 3 3 1 false, .map 441], h107, .tuple [U 24117266, .inil], h108⟩
theorem m82_run : ranTo (evCall (cxX Tryz.prog bad [] [] q0) 1000 60 68 m82.args m82.h) m82.v m82.h' = true := by kernel_rfl
theorem m82_ok {σ : Nat → Int} {W0 : World} (hL : L0 W0) : MemoOk Tryz.prog 399871 σ W0 68 m82 := memo_ok fit (Known2.nil σ) ((q0_ok hL)) m82_run
noncomputable def h109 : H := hUpd h69 367 [] [] [(366, 0, [.str [108, 105, 32, 114, 55, 32, 49, 56]])]
noncomputable def h110 : H := hUpd h70 907 [] [] [(366, 0, [.str [108, 105, 32, 114, 55, 32, 49, 56]]),
  (906, 0, [U 24117266])]
noncomputable def m83 : Memo := ⟨[bT, I 1000, .slice 365 0 1 1 1 true, .slice 366 0 9 9 1 true], h109, .agg [.slice 906 0 7 7 1 false, I 1000, .slice 365 0 1 1 1 true, bT], h110⟩
noncomputable def l38 : List (Memo) := m13 :: m12 :: m11 :: m10 :: m9 :: m8 :: m82 :: []
theorem l38_ok {σ : Nat → Int} {W0 : World} (hL : L0 W0) : ∀ x ∈ l38, MemoOk Tryz.prog 399871 σ W0 68 x := all_cons (m13_ok hL) (all_cons (m12_ok hL) (all_cons (m11_ok hL) (all_cons (m10_ok hL) (all_cons (m9_ok hL) (all_cons (m8_ok hL) (all_cons (m82_ok hL) (all_nil)))))))
theorem m83_run : ranTo (evCall (cxX Tryz.prog bad [] [] ((68, frameFn l38) :: q0)) 1000 60 51 m83.args m83.h) m83.v m83.h' = true := by kernel_rfl
theorem m83_ok {σ : Nat → Int} {W0 : World} (hL : L0 W0) : MemoOk Tryz.prog 399871 σ W0 51 m83 := memo_ok fit (Known2.nil σ) (FnsOk.cons (frame_fn_ok (l38_ok hL)) ((q0_ok hL))) m83_run
noncomputable def p84 : Pur := ([I 19], .str [49, 57], 1048576)
theorem p84_run : ranPure (evCall (cxX Tryz.prog bad [] [] q0) 1000 60 52 p84.1 ⟨.lf, p84.2.2⟩) p84.2.1 = true := by kernel_rfl
theorem p84_ok {σ : Nat → Int} {W0 : World} (hL : L0 W0) : PureOk Tryz.prog 399871 σ W0 52 p84 := pure_ok fit (Known2.nil σ) ((q0_ok hL)) p84_run
noncomputable def h111 : H := hUpd h71 444 [] [] [(374, 2, [.str [49, 57]])]
noncomputable def h112 : H := hUpd h111 505 [] [] []
noncomputable def m85 : Memo := ⟨[.slice 374 0 3 3 1 false, .map 441], h111, .tuple [U 24117267, .inil], h112⟩
theorem m85_run : ranTo (evCall (cxX Tryz.prog bad [] [] q0) 1000 60 68 m85.args m85.h) m85.v m85.h' = true := by kernel_rfl
theorem m85_ok {σ : Nat → Int} {W0 : World} (hL : L0 W0) : MemoOk Tryz.prog 399871 σ W0 68 m85 := memo_ok fit (Known2.nil σ) ((q0_ok hL)) m85_run
noncomputable def h113 : H := hUpd h73 367 [] [] [(366, 0, [.str [108, 105, 32, 114, 55, 32, 49, 57]])]
noncomputable def h114 : H := hUpd h74 907 [] [] [(366, 0, [.str [108, 105, 32, 114, 55, 32, 49, 57]]),
  (906, 0, [U 24117267])]
noncomputable def m86 : Memo := ⟨[bT, I 1000, .slice 365 0 1 1 1 true, .slice 366 0 9 9 1 true], h113, .agg [.slice 906 0 7 7 1 false, I 1000, .slice 365 0 1 1 1 true, bT], h114⟩
noncomputable def l39 : List (Memo) := m13 :: m12 :: m11 :: m10 :: m9 :: m8 :: m85 :: []
theorem l39_ok {σ : Nat → Int} {W0 : World} (hL : L0 W0) : ∀ x ∈ l39, MemoOk Tryz.prog 399871 σ W0 68 x := all_cons (m13_ok hL) (all_cons (m12_ok hL) (all_cons (m11_ok hL) (all_cons (m10_ok hL) (all_cons (m9_ok hL) (all_cons (m8_ok hL) (all_cons (m85_ok hL) (all_nil)))))))
theorem m86_run : ranTo (evCall (cxX Tryz.prog bad [] [] ((68, frameFn l39) :: q0)) 1000 60 51 m86.args m86.h) m86.v m86.h' = true := by kernel_rfl
theorem m86_ok {σ : Nat → Int} {W0 : World} (hL : L0 W0) : MemoOk Tryz.prog 399871 σ W0 51 m86 := memo_ok fit (Known2.nil σ) (FnsOk.cons (frame_fn_ok (l39_ok hL)) ((q0_ok hL))) m86_run
noncomputable def p87 : Pur := ([I 20], .str [50, 48], 1048576)
theorem p87_run : ranPure (evCall (cxX Tryz.prog bad [] [] q0) 1000 60 52 p87.1 ⟨.lf, p87.2.2⟩) p87.2.1 = true := by kernel_rfl
theorem p87_ok {σ : Nat → Int} {W0 : World} (hL : L0 W0) : PureOk Tryz.prog 399871 σ W0 52 p87 := pure_ok fit (Known2.nil σ) ((q0_ok hL)) p87_run
noncomputable def h115 : H := hUpd h75 444 [] [] [(374, 2, [.str [50, 48]])]
noncomputable def h116 : H := hUpd h115 505 [] [] []
noncomputable def m88 : Memo := ⟨[.slice 374 0 3 3 1 false, .map 441], h115, .tuple [U 24117268, .inil], h116⟩
theorem m88_run : ranTo (evCall (cxX Tryz.prog bad [] [] q0) 1000 60 68 m88.args m88.h) m88.v m88.h' = true := by kernel_rfl
theorem m88_ok {σ : Nat → Int} {W0 : World} (hL : L0 W0) : MemoOk Tryz.prog 399871 σ W0 68 m88 := memo_ok fit (Known2.nil σ) ((q0_ok hL)) m88_run
noncomputable def h117 : H := hUpd h77 367 [] [] [(366, 0, [.str [108, 105, 32, 114, 55, 32, 50, 48]])]
noncomputable def h118 : H := hUpd h78 907 [] [] [(366, 0, [.str [108, 105, 32, 114, 55, 32, 50, 48]]),
  (906, 0, [U 24117268])]
noncomputable def m89 : Memo := ⟨[bT, I 1000, .slice 365 0 1 1 1 true, .slice 366 0 9 9 1 true], h117, .agg [.slice 906 0 7 7 1 false, I 1000, .slice 365 0 1 1 1 true, bT], h118⟩
noncomputable def l40 : List (Memo) := m13 :: m12 :: m11 :: m10 :: m9 :: m8 :: m88 :: []
theorem l40_ok {σ : Nat → Int} {W0 : World} (hL : L0 W0) : ∀ x ∈ l40, MemoOk Tryz.prog 399871 σ W0 68 x := all_cons (m13_ok hL) (all_cons (m12_ok hL) (all_cons (m11_ok hL) (all_cons (m10_ok hL) (all_cons (m9_ok hL) (all_cons (m8_ok hL) (all_cons (m88_ok hL) (all_nil)))))))
theorem m89_run : ranTo (evCall (cxX Tryz.prog bad [] [] ((68, frameFn l40) :: q0)) 1000 60 51 m89.args m89.h) m89.v m89.h' = true := by kernel_rfl
theorem m89_ok {σ : Nat → Int} {W0 : World} (hL : L0 W0) : MemoOk Tryz.prog 399871 σ W0 51 m89 := memo_ok fit (Known2.nil σ) (FnsOk.cons (frame_fn_ok (l40_ok hL)) ((q0_ok hL))) m89_run
noncomputable def p90 : Pur := ([I 21], .str [50, 49], 1048576)
theorem p90_run : ranPure (evCall (cxX Tryz.prog bad [] [] q0) 1000 60 52 p90.1 ⟨.lf, p90.2.2⟩) p90.2.1 = true := by kernel_rfl
theorem p90_ok {σ : Nat → Int} {W0 : World} (hL : L0 W0) : PureOk Tryz.prog 399871 σ W0 52 p90 := pure_ok fit (Known2.nil σ) ((q0_ok hL)) p90_run
noncomputable def h119 : H := hUpd h79 444 [] [] [(374, 2, [.str [50, 49]])]
noncomputable def h120 : H := hUpd h119 505 [] [] []
noncomputable def m91 : Memo := ⟨[.slice 374 0 3 3 1 false, .map 441], h119, .tuple [U 24117269, .inil], h120⟩
theorem m91_run : ranTo (evCall (cxX Tryz.prog bad [] [] q0) 1000 60 68 m91.args m91.h) m91.v m91.h' = true := by kernel_rfl
theorem m91_ok {σ : Nat → Int} {W0 : World} (hL : L0 W0) : MemoOk Tryz.prog 399871 σ W0 68 m91 := memo_ok fit (Known2.nil σ) ((q0_ok hL)) m91_run
noncomputable def h121 : H := hUpd h81 367 [] [] [(366, 0, [.str [108, 105, 32, 114, 55, 32, 50, 49]])]
noncomputable def h122 : H := hUpd h82 907 [] [] [(366, 0, [.str [108, 105, 32, 114, 55, 32, 50, 49]]),
  (906, 0, [U 24117269])]
noncomputable def m92 : Memo := ⟨[bT, I 1000, .slice 365 0 1 1 1 true, .slice 366 0 9 9 1 true], h121, .agg [.slice 906 0 7 7 1 false, I 1000, .slice 365 0 1 1 1 true, bT], h122⟩
noncomputable def l41 : List (Memo) := m13 :: m12 :: m11 :: m10 :: m9 :: m8 :: m91 :: []
theorem l41_ok {σ : Nat → Int} {W0 : World} (hL : L0 W0) : ∀ x ∈ l41, MemoOk Tryz.prog 399871 σ W0 68 x := all_cons (m13_ok hL) (all_cons (m12_ok hL) (all_cons (m11_ok hL) (all_cons (m10_ok hL) (all_cons (m9_ok hL) (all_cons (m8_ok hL) (all_cons (m91_ok hL) (all_nil)))))))
theorem m92_run : ranTo (evCall (cxX Tryz.prog bad [] [] ((68, frameFn l41) :: q0)) 1000 60 51 m92.args m92.h) m92.v m92.h' = true := by kernel_rfl
theorem m92_ok {σ : Nat → Int} {W0 : World} (hL : L0 W0) : MemoOk Tryz.prog 399871 σ W0 51 m92 := memo_ok fit (Known2.nil σ) (FnsOk.cons (frame_fn_ok (l41_ok hL)) ((q0_ok hL))) m92_run
noncomputable def p93 : Pur := ([I 22], .str [50, 50], 1048576)
theorem p93_run : ranPure (evCall (cxX Tryz.prog bad [] [] q0) 1000 60 52 p93.1 ⟨.lf, p93.2.2⟩) p93.2.1 = true := by kernel_rfl
theorem p93_ok {σ : Nat → Int} {W0 : World} (hL : L0 W0) : PureOk Tryz.prog 399871 σ W0 52 p93 := pure_ok fit (Known2.nil σ) ((q0_ok hL)) p93_run
noncomputable def h123 : H := hUpd h83 444 [] [] [(374, 2, [.str [50, 50]])]
noncomputable def h124 : H := hUpd h123 505 [] [] []
noncomputable def m94 : Memo := ⟨[.slice 374 0 3 3 1 false, .map 441], h123, .tuple [U 24117270, .inil], h124⟩
theorem m94_run : ranTo (evCall (cxX Tryz.prog bad [] [] q0) 1000 60 68 m94.args m94.h) m94.v m94.h' = true := by kernel_rfl
theorem m94_ok {σ : Nat → Int} {W0 : World} (hL : L0 W0) : MemoOk Tryz.prog 399871 σ W0 68 m94 := memo_ok fit (Known2.nil σ) ((q0_ok hL)) m94_run
noncomputable def h125 : H := hUpd h85 367 [] [] [(366, 0, [.str [108, 105, 32, 114, 55, 32, 50, 50]])]
noncomputable def h126 : H := hUpd h86 907 [] [] [(366, 0, [.str [108, 105, 32, 114, 55, 32, 50, 50]]),
  (906, 0, [U 24117270])]
noncomputable def m95 : Memo := ⟨[bT, I 1000, .slice 365 0 1 1 1 true, .slice 366 0 9 9 1 true], h125, .agg [.slice 906 0 7 7 1 false, I 1000, .slice 365 0 1 1 1 true, bT], h126⟩
noncomputable def l42 : List (Memo) := m13 :: m12 :: m11 :: m10 :: m9 :: m8 :: m94 :: []
theorem l42_ok {σ : Nat → Int} {W0 : World} (hL : L0 W0) : ∀ x ∈ l42, MemoOk Tryz.prog 399871 σ W0 68 x := all_cons (m13_ok hL) (all_cons (m12_ok hL) (all_cons (m11_ok hL) (all_cons (m10_ok hL) (all_cons (m9_ok hL) (all_cons (m8_ok hL) (all_cons (m94_ok hL) (all_nil)))))))
theorem m95_run : ranTo (evCall (cxX Tryz.prog bad [] [] ((68, frameFn l42) :: q0)) 1000 60 51 m95.args m95.h) m95.v m95.h' = true := by kernel_rfl
theorem m95_ok {σ : Nat → Int} {W0 : World} (hL : L0 W0) : MemoOk Tryz.prog 399871 σ W0 51 m95 := memo_ok fit (Known2.nil σ) (FnsOk.cons (frame_fn_ok (l42_ok hL)) ((q0_ok hL))) m95_run
noncomputable def p96 : Pur := ([I 23], .str [50, 51], 1048576)
theorem p96_run : ranPure (evCall (cxX Tryz.prog bad [] [] q0) 1000 60 52 p96.1 ⟨.lf, p96.2.2⟩) p96.2.1 = true := by kernel_rfl
theorem p96_ok {σ : Nat → Int} {W0 : World} (hL : L0 W0) : PureOk Tryz.prog 399871 σ W0 52 p96 := pure_ok fit (Known2.nil σ) ((q0_ok hL)) p96_run
noncomputable def h127 : H := hUpd h87 444 [] [] [(374, 2, [.str [50, 51]])]
noncomputable def h128 : H := hUpd h127 505 [] [] []
noncomputable def m97 : Memo := ⟨[.slice 374 0 3 3 1 false, .map 441], h127, .tuple [U 24117271, .inil], h128⟩
theorem m97_run : ranTo (evCall (cxX Tryz.prog bad [] [] q0) 1000 60 68 m97.args m97.h) m97.v m97.h' = true := by kernel_rfl
theorem m97_ok {σ : Nat → Int} {W0 : World} (hL : L0 W0) : MemoOk Tryz.prog 399871 σ W0 68 m97 := memo_ok fit (Known2.nil σ) ((q0_ok hL)) m97_run
noncomputable def h129 : H := hUpd h89 367 [] [] [(366, 0, [.str [108, 105, 32, 114, 55, 32, 50, 51]])]
noncomputable def h130 : H := hUpd h90 907 [] [] [(366, 0, [.str [108, 105, 32, 114, 55, 32, 50, 51]]),
  (906, 0, [U 24117271])]
noncomputable def m98 : Memo := ⟨[bT, I 1000, .slice 365 0 1 1 1 true, .slice 366 0 9 9 1 true], h129, .agg [.slice 906 0 7 7 1 false, I 1000, .slice 365 0 1 1 1 true, bT], h130⟩
noncomputable def l43 : List (Memo) := m13 :: m12 :: m11 :: m10 :: m9 :: m8 :: m97 :: []
theorem l43_ok {σ : Nat → Int} {W0 : World} (hL : L0 W0) : ∀ x ∈ l43, MemoOk Tryz.prog 399871 σ W0 68 x := all_cons (m13_ok hL) (all_cons (m12_ok hL) (all_cons (m11_ok hL) (all_cons (m10_ok hL) (all_cons (m9_ok hL) (all_cons (m8_ok hL) (all_cons (m97_ok hL) (all_nil)))))))
theorem m98_run : ranTo (evCall (cxX Tryz.prog bad [] [] ((68, frameFn l43) :: q0)) 1000 60 51 m98.args m98.h) m98.v m98.h' = true := by kernel_rfl
theorem m98_ok {σ : Nat → Int} {W0 : World} (hL : L0 W0) : MemoOk Tryz.prog 399871 σ W0 51 m98 := memo_ok fit (Known2.nil σ) (FnsOk.cons (frame_fn_ok (l43_ok hL)) ((q0_ok hL))) m98_run
noncomputable def p99 : Pur := ([I 24], .str [50, 52], 1048576)
theorem p99_run : ranPure (evCall (cxX Tryz.prog bad [] [] q0) 1000 60 52 p99.1 ⟨.lf, p99.2.2⟩) p99.2.1 = true := by kernel_rfl
theorem p99_ok {σ : Nat → Int} {W0 : World} (hL : L0 W0) : PureOk Tryz.prog 399871 σ W0 52 p99 := pure_ok fit (Known2.nil σ) ((q0_ok hL)) p99_run
noncomputable def h131 : H := hUpd h91 444 [] [] [(374, 2, [.str [50, 52]])]
noncomputable def h132 : H := hUpd h131 505 [] [] []
noncomputable def m100 : Memo := ⟨[.slice 374 0 3 3 1 false, .map 441], h131, .tuple [U 24117272, .inil], h132⟩
theorem m100_run : ranTo (evCall (cxX Tryz.prog bad [] [] q0) 1000 60 68 m100.args m100.h) m100.v m100.h' = true := by kernel_rfl
theorem m100_ok {σ : Nat → Int} {W0 : World} (hL : L0 W0) : MemoOk Tryz.prog 399871 σ W0 68 m100 := memo_ok fit (Known2.nil σ) ((q0_ok hL)) m100_run
noncomputable def h133 : H := hUpd h93 367 [] [] [(366, 0, [.str [108, 105, 32, 114, 55, 32, 50, 52]])]
noncomputable def h134 : H := hUpd h94 907 [] [] [(366, 0, [.str [108, 105, 32, 114, 55, 32, 50, 52]]),
  (906, 0, [U 24117272])]
noncomputable def m101 : Memo := ⟨[bT, I 1000, .slice 365 0 1 1 1 true, .slice 366 0 9 9 1 true], h133, .agg [.slice 906 0 7 7 1 false, I 1000, .slice 365 0 1 1 1 true, bT], h134⟩
noncomputable def l44 : List (Memo) := m13 :: m12 :: m11 :: m10 :: m9 :: m8 :: m100 :: []
theorem l44_ok {σ : Nat → Int} {W0 : World} (hL : L0 W0) : ∀ x ∈ l44, MemoOk Tryz.prog 399871 σ W0 68 x := all_cons (m13_ok hL) (all_cons (m12_ok hL) (all_cons (m11_ok hL) (all_cons (m10_ok hL) (all_cons (m9_ok hL) (all_cons (m8_ok hL) (all_cons (m100_ok hL) (all_nil)))))))
theorem m101_run : ranTo (evCall (cxX Tryz.prog bad [] [] ((68, frameFn l44) :: q0)) 1000 60 51 m101.args m101.h) m101.v m101.h' = true := by kernel_rfl
theorem m101_ok {σ : Nat → Int} {W0 : World} (hL : L0 W0) : MemoOk Tryz.prog 399871 σ W0 51 m101 := memo_ok fit (Known2.nil σ) (FnsOk.cons (frame_fn_ok (l44_ok hL)) ((q0_ok hL))) m101_run
noncomputable def p102 : Pur := ([I 25], .str [50, 53], 1048576)
theorem p102_run : ranPure (evCall (cxX Tryz.prog bad [] [] q0) 1000 60 52 p102.1 ⟨.lf, p102.2.2⟩) p102.2.1 = true := by kernel_rfl
theorem p102_ok {σ : Nat → Int} {W0 : World} (hL : L0 W0) : PureOk Tryz.prog 399871 σ W0 52 p102 := pure_ok fit (Known2.nil σ) ((q0_ok hL)) p102_run
noncomputable def h135 : H := hUpd h95 444 [] [] [(374, 2, [.str [50, 53]])]
noncomputable def h136 : H := hUpd h135 505 [] [] []
noncomputable def m103 : Memo := ⟨[.slice 374 0 3 3 1 false, .map 441], h135, .tuple [U 24117273, .inil], h136⟩
theorem m103_run : ranTo (evCall (cxX Tryz.prog bad [] [] q0) 1000 60 68 m103.args m103.h) m103.v m103.h' = true := by kernel_rfl
theorem m103_ok {σ : Nat → Int} {W0 : World} (hL : L0 W0) : MemoOk Tryz.prog 399871 σ W0 68 m103 := memo_ok fit (Known2.nil σ) ((q0_ok hL)) m103_run
noncomputable def h137 : H := hUpd h97 367 [] [] [(366, 0, [.str [108, 105, 32, 114, 55, 32, 50, 53]])]
noncomputable def h138 : H := hUpd h98 907 [] [] [(366, 0, [.str [108, 105, 32, 114, 55, 32, 50, 53]]),
  (906, 0, [U 24117273])]
noncomputable def m104 : Memo := ⟨[bT, I 1000, .slice 365 0 1 1 1 true, .slice 366 0 9 9 1 true], h137, .agg [.slice 906 0 7 7 1 false, I 1000, .slice 365 0 1 1 1 true, bT], h138⟩
noncomputable def l45 : List (Memo) := m13 :: m12 :: m11 :: m10 :: m9 :: m8 :: m103 :: []
theorem l45_ok {σ : Nat → Int} {W0 : World} (hL : L0 W0) : ∀ x ∈ l45, MemoOk Tryz.prog 399871 σ W0 68 x := all_cons (m13_ok hL) (all_cons (m12_ok hL) (all_cons (m11_ok hL) (all_cons (m10_ok hL) (all_cons (m9_ok hL) (all_cons (m8_ok hL) (all_cons (m103_ok hL) (all_nil)))))))
theorem m104_run : ranTo (evCall (cxX Tryz.prog bad [] [] ((68, frameFn l45) :: q0)) 1000 60 51 m104.args m104.h) m104.v m104.h' = true := by kernel_rfl
theorem m104_ok {σ : Nat → Int} {W0 : World} (hL : L0 W0) : MemoOk Tryz.prog 399871 σ W0 51 m104 := memo_ok fit (Known2.nil σ) (FnsOk.cons (frame_fn_ok (l45_ok hL)) ((q0_ok hL))) m104_run
noncomputable def p105 : Pur := ([I 26], .str [50, 54], 1048576)
theorem p105_run : ranPure (evCall (cxX Tryz.prog bad [] [] q0) 1000 60 52 p105.1 ⟨.lf, p105.2.2⟩) p105.2.1 = true := by kernel_rfl
theorem p105_ok {σ : Nat → Int} {W0 : World} (hL : L0 W0) : PureOk Tryz.prog 399871 σ W0 52 p105 := pure_ok fit (Known2.nil σ) ((q0_ok hL)) p105_run
noncomputable def h139 : H := hUpd h99 444 [] [] [(374, 2, [.str [50, 54]])]
noncomputable def h140 : H := hUpd h139 505 [] [] []
noncomputable def m106 : Memo := ⟨[.slice 374 0 3 3 1 false, .map 441], h139, .tuple [U 24117274, .inil], h140⟩
theorem m106_run : ranTo (evCall (cxX Tryz.prog bad [] [] q0) 1000 60 68 m106.args m106.h) m106.v m106.h' = true := by kernel_rfl
theorem m106_ok {σ : Nat → Int} {W0 : World} (hL : L0 W0) : MemoOk Tryz.prog 399871 σ W0 68 m106 := memo_ok fit (Known2.nil σ) ((q0_ok hL)) m106_run
noncomputable def h141 : H := hUpd h101 367 [] [] [(366, 0, [.str [108, 105, 32, 114, 55, 32, 50, 54]])]
noncomputable def h142 : H := hUpd h102 907 [] [] [(366, 0, [.str [108, 105, 32, 114, 55, 32, 50, 54]]),
  (906, 0, [U 24117274])]
noncomputable def m107 : Memo := ⟨[bT, I 1000, .slice 365 0 1 1 1 true, .slice 366 0 9 9 1 true], h141, .agg [.slice 906 0 7 7 1 false, I 1000, .slice 365 0 1 1 1 true, bT], h142⟩
noncomputable def l46 : List (Memo) := m13 :: m12 :: m11 :: m10 :: m9 :: m8 :: m106 :: []
theorem l46_ok {σ : Nat → Int} {W0 : World} (hL : L0 W0) : ∀ x ∈ l46, MemoOk Tryz.prog 399871 σ W0 68 x := all_cons (m13_ok hL) (all_cons (m12_ok hL) (all_cons (m11_ok hL) (all_cons (m10_ok hL) (all_cons (m9_ok hL) (all_cons (m8_ok hL) (all_cons (m106_ok hL) (all_nil)))))))
theorem m107_run : ranTo (evCall (cxX Tryz.prog bad [] [] ((68, frameFn l46) :: q0)) 1000 60 51 m107.args m107.h) m107.v m107.h' = true := by kernel_rfl
theorem m107_ok {σ : Nat → Int} {W0 : World} (hL : L0 W0) : MemoOk Tryz.prog 399871 σ W0 51 m107 := memo_ok fit (Known2.nil σ) (FnsOk.cons (frame_fn_ok (l46_ok hL)) ((q0_ok hL))) m107_run
noncomputable def p108 : Pur := ([I 27], .str [50, 55], 1048576)
theorem p108_run : ranPure (evCall (cxX Tryz.prog bad [] [] q0) 1000 60 52 p108.1 ⟨.lf, p108.2.2⟩) p108.2.1 = true := by kernel_rfl
theorem p108_ok {σ : Nat → Int} {W0 : World} (hL : L0 W0) : PureOk Tryz.prog 399871 σ W0 52 p108 := pure_ok fit (Known2.nil σ) ((q0_ok hL)) p108_run
noncomputable def h143 : H := hUpd h103 444 [] [] [(374, 2, [.str [50, 55]])]
noncomputable def h144 : H := hUpd h143 505 [] [] []
noncomputable def m109 : Memo := ⟨[.slice 374 0 3 3 1 false, .map 441], h143, .tuple [U 24117275, .inil], h144⟩
theorem m109_run : ranTo (evCall (cxX Tryz.prog bad [] [] q0) 1000 60 68 m109.args m109.h) m109.v m109.h' = true := by kernel_rfl
theorem m109_ok {σ : Nat → Int} {W0 : World} (hL : L0 W0) : MemoOk Tryz.prog 399871 σ W0 68 m109 := memo_ok fit (Known2.nil σ) ((q0_ok hL)) m109_run
noncomputable def h145 : H := hUpd h105 367 [] [] [(366, 0, [.str [108, 105, 32, 114, 55, 32, 50, 55]])]
noncomputable def h146 : H := hUpd h106 907 [] [] [(366, 0, [.str [108, 105, 32, 114, 55, 32, 50, 55]]),
  (906, 0, [U 24117275])]
noncomputable def m110 : Memo := ⟨[bT, I 1000, .slice 365 0 1 1 1 true, .slice 366 0 9 9 1 true], h145, .agg [.slice 906 0 7 7 1 false, I 1000, .slice 365 0 1 1 1 true, bT], h146⟩
noncomputable def l47 : List (Memo) := m13 :: m12 :: m11 :: m10 :: m9 :: m8 :: m109 :: []
theorem l47_ok {σ : Nat → Int} {W0 : World} (hL : L0 W0) : ∀ x ∈ l47, MemoOk Tryz.prog 399871 σ W0 68 x := all_cons (m13_ok hL) (all_cons (m12_ok hL) (all_cons (m11_ok hL) (all_cons (m10_ok hL) (all_cons (m9_ok hL) (all_cons (m8_ok hL) (all_cons (m109_ok hL) (all_nil)))))))
theorem m110_run : ranTo (evCall (cxX Tryz.prog bad [] [] ((68, frameFn l47) :: q0)) 1000 60 51 m110.args m110.h) m110.v m110.h' = true := by kernel_rfl
theorem m110_ok {σ : Nat → Int} {W0 : World} (hL : L0 W0) : MemoOk Tryz.prog 399871 σ W0 51 m110 := memo_ok fit (Known2.nil σ) (FnsOk.cons (frame_fn_ok (l47_ok hL)) ((q0_ok hL))) m110_run
noncomputable def p111 : Pur := ([I 28], .str [50, 56], 1048576)
theorem p111_run : ranPure (evCall (cxX Tryz.prog bad [] [] q0) 1000 60 52 p111.1 ⟨.lf, p111.2.2⟩) p111.2.1 = true := by kernel_rfl
theorem p111_ok {σ : Nat → Int} {W0 : World} (hL : L0 W0) : PureOk Tryz.prog 399871 σ W0 52 p111 := pure_ok fit (Known2.nil σ) ((q0_ok hL)) p111_run
noncomputable def h147 : H := hUpd h107 444 [] [] [(374, 2, [.str [50, 56]])]
noncomputable def h148 : H := hUpd h147 505 [] [] []
noncomputable def m112 : Memo := ⟨[.slice 374 0 3 3 1 false, .map 441], h147, .tuple [U 24117276, .inil], h148⟩
theorem m112_run : ranTo (evCall (cxX Tryz.prog bad [] [] q0) 1000 60 68 m112.args m112.h) m112.v m112.h' = true := by kernel_rfl
theorem m112_ok {σ : Nat → Int} {W0 : World} (hL : L0 W0) : MemoOk Tryz.prog 399871 σ W0 68 m112 := memo_ok fit (Known2.nil σ) ((q0_ok hL)) m112_run
noncomputable def h149 : H := hUpd h109 367 [] [] [(366, 0, [.str [108, 105, 32, 114, 55, 32, 50, 56]])]
noncomputable def h150 : H := hUpd h110 907 [] [] [(366, 0, [.str [108, 105, 32, 114, 55, 32, 50, 56]]),
  (906, 0, [U 24117276])]
noncomputable def m113 : Memo := ⟨[bT, I 1000, .slice 365 0 1 1 1 true, .slice 366 0 9 9 1 true], h149, .agg [.slice 906 0 7 7 1 false, I 1000, .slice 365 0 1 1 1 true, bT], h150⟩
noncomputable def l48 : List (Memo) := m13 :: m12 :: m11 :: m10 :: m9 :: m8 :: m112 :: []
theorem l48_ok {σ : Nat → Int} {W0 : World} (hL : L0 W0) : ∀ x ∈ l48, MemoOk Tryz.prog 399871 σ W0 68 x := all_cons (m13_ok hL) (all_cons (m12_ok hL) (all_cons (m11_ok hL) (all_cons (m10_ok hL) (all_cons (m9_ok hL) (all_cons (m8_ok hL) (all_cons (m112_ok hL) (all_nil)))))))
theorem m113_run : ranTo (evCall (cxX Tryz.prog bad [] [] ((68, frameFn l48) :: q0)) 1000 60 51 m113.args m113.h) m113.v m113.h' = true := by kernel_rfl
theorem m113_ok {σ : Nat → Int} {W0 : World} (hL : L0 W0) : MemoOk Tryz.prog 399871 σ W0 51 m113 := memo_ok fit (Known2.nil σ) (FnsOk.cons (frame_fn_ok (l48_ok hL)) ((q0_ok hL))) m113_run
noncomputable def p114 : Pur := ([I 29], .str [50, 57], 1048576)
theorem p114_run : ranPure (evCall (cxX Tryz.prog bad [] [] q0) 1000 60 52 p114.1 ⟨.lf, p114.2.2⟩) p114.2.1 = true := by kernel_rfl
theorem p114_ok {σ : Nat → Int} {W0 : World} (hL : L0 W0) : PureOk Tryz.prog 399871 σ W0 52 p114 := pure_ok fit (Known2.nil σ) ((q0_ok hL)) p114_run
noncomputable def h151 : H := hUpd h111 444 [] [] [(374, 2, [.str [50, 57]])]
noncomputable def h152 : H := hUpd h151 505 [] [] []
noncomputable def m115 : Memo := ⟨[.slice 374 0 3 3 1 false, .map 441], h151, .tuple [U 24117277, .inil], h152⟩
theorem m115_run : ranTo (evCall (cxX Tryz.prog bad [] [] q0) 1000 60 68 m115.args m115.h) m115.v m115.h' = true := by kernel_rfl
theorem m115_ok {σ : Nat → Int} {W0 : World} (hL : L0 W0) : MemoOk Tryz.prog 399871 σ W0 68 m115 := memo_ok fit (Known2.nil σ) ((q0_ok hL)) m115_run
noncomputable def h153 : H := hUpd h113 367 [] [] [(366, 0, [.str [108, 105, 32, 114, 55, 32, 50, 57]])]
noncomputable def h154 : H := hUpd h114 907 [] [] [(366, 0, [.str [108, 105, 32, 114, 55, 32, 50, 57]]),
  (906, 0, [U 24117277])]
noncomputable def m116 : Memo := ⟨[bT, I 1000, .slice 365 0 1 1 1 true, .slice 366 0 9 9 1 true], h153, .agg [.slice 906 0 7 7 1 false, I 1000, .slice 365 0 1 1 1 true, bT], h154⟩
noncomputable def l49 : List (Memo) := m13 :: m12 :: m11 :: m10 :: m9 :: m8 :: m115 :: []
theorem l49_ok {σ : Nat → Int} {W0 : World} (hL : L0 W0) : ∀ x ∈ l49, MemoOk Tryz.prog 399871 σ W0 68 x := all_cons (m13_ok hL) (all_cons (m12_ok hL) (all_cons (m11_ok hL) (all_cons (m10_ok hL) (all_cons (m9_ok hL) (all_cons (m8_ok hL) (all_cons (m115_ok hL) (all_nil)))))))
theorem m116_run : ranTo (evCall (cxX Tryz.prog bad [] [] ((68, frameFn l49) :: q0)) 1000 60 51 m116.args m116.h) m116.v m116.h' = true := by kernel_rfl
theorem m116_ok {σ : Nat → Int} {W0 : World} (hL : L0 W0) : MemoOk Tryz.prog 399871 σ W0 51 m116 := memo_ok fit (Known2.nil σ) (FnsOk.cons (frame_fn_ok (l49_ok hL)) ((q0_ok hL))) m116_run
abbrev CaseS (rng : Rg) (facts : List (Bool × E × E × Bool)) (tab : NumTabE) (vs : List V) : Prop := ∀ {σ : Nat → Int} {W : World} (hL : L0 W) (hk : Known2 σ rng facts) (hT : TabOk Tryz.prog bad 8 σ tab) {xs : Array Value} (hv : ∀ ρ, VRs σ ρ vs xs.toList), Calls Tryz.prog 5 xs W fun e w' => e = .returned (.bool true) ∧ Below W.heap.size W w'
theorem caseS {rng : Rg} {facts : List (Bool × E × E × Bool)} {tab : NumTabE} {vs : List V} {fs : Fns} (hx : ∀ {σ : Nat → Int} {W : World}, L0 W → Known2 σ rng facts → TabOk Tryz.prog bad 8 σ tab → FnsOk Tryz.prog 399871 σ W fs)
    (run : isTrue (evCall (cxX Tryz.prog bad rng facts fs) 1000 60 5 vs (sentH 399 19 errTab)) = true) : CaseS rng facts tab vs := by
  intro σ W hL hk hT xs hv
  obtain ⟨ads, h1, h2, h3⟩ := errs_sents hL
  exact law_case_x fit h1 h2 h3 errs_all errs_lt (by kernel_rfl) hk (hx hL hk hT) hv ⟨_, Tryz.func5, rfl⟩ run
noncomputable def lawBody : Code := match Tryz.f5.body with
  | some c => c
  | none => .skip
noncomputable def lp : List Nat := [1, 1, 1, 1, 1, 1, 0, 1, 4]
noncomputable def bd : Code := match bodyL lp lawBody with
  | some b => b
  | none => .skip
theorem body_is : Tryz.f5.body = some lawBody := by kernel_rfl
theorem bd_is : bodyL lp lawBody = some bd := by kernel_rfl
theorem bd_ok : codeOk 399871 bd = true := by kernel_rfl
end Go.Proofs.YtcaejjnmhbomcaaGreatDoor.worldServes
