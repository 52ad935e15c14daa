/- worldKeeps: calls that are run once, and the runs of the cases (part 0). -/
import Derived.Test.YtkfhelmjaoepiabGreatDoorEvWkF
set_option linter.unusedVariables false
set_option maxRecDepth 10000000
namespace Go.Proofs.YtkfhelmjaoepiabGreatDoor.worldKeeps
open Tk
open Go.RowKit
noncomputable def h0 : H := sentH 453 20 errTab
noncomputable def q0 : Fns := [(295, isFn 453), (122, atoiFullFn 384), (123, itoaFullFn), (195, joinFn), (307, countFn), (352, indexFn), (308, cutOf Tryz.prog 26623 bad [(307, countFn), (352, indexFn)] 1000 20 308)]
theorem q0_ok {σ : Nat → Int} {W0 : World} (hL : L0 W0) : FnsOk Tryz.prog 26623 σ W0 q0 := FnsOk.cons (ext_is hL) (FnsOk.cons (ext_atoi hL) (FnsOk.cons (ext_itoa hL) (FnsOk.cons (ext_join hL) (FnsOk.cons (ext_count hL) (FnsOk.cons (ext_index hL) (FnsOk.cons (ext_cut308 hL) (FnsOk.nil)))))))
noncomputable def p0 : Pur := ([], bT, 1048576)
theorem p0_run : ranPure (evCall (cxX Tryz.prog bad [] [] q0) 1000 60 7 p0.1 ⟨.lf, p0.2.2⟩) p0.2.1 = true := by kernel_rfl
theorem p0_ok {σ : Nat → Int} {W0 : World} (hL : L0 W0) : PureOk Tryz.prog 26623 σ W0 7 p0 := pure_ok fit (Known2.nil σ) ((q0_ok hL)) p0_run
noncomputable def h1 : H := hUpd h0 123 [] [(122, .map [] 0),
  (41, .cells 1 ([[.str [107, 109, 111, 118, 101]], [.str [107, 55]], [.str [107, 49, 53]]]) false)] []
noncomputable def h2 : H := hUpd h1 196 [] [] []
noncomputable def m1 : Memo := ⟨[.slice 41 0 3 3 1 false, .map 122], h1, .tuple [U 142540800, .inil], h2⟩
theorem m1_run : ranTo (evCall (cxX Tryz.prog bad [] [] q0) 1000 60 84 m1.args m1.h) m1.v m1.h' = true := by kernel_rfl
theorem m1_ok {σ : Nat → Int} {W0 : World} (hL : L0 W0) : MemoOk Tryz.prog 26623 σ W0 84 m1 := memo_ok fit (Known2.nil σ) ((q0_ok hL)) m1_run
noncomputable def h3 : H := hUpd h1 198 [41] [(50, .cells 1 ([[.str [107, 109, 111, 118, 101]], [.str [107, 54]], [.str [107, 49, 50]]]) false)] []
noncomputable def h4 : H := hUpd h3 271 [] [] []
noncomputable def m2 : Memo := ⟨[.slice 50 0 3 3 1 false, .map 122], h3, .tuple [U 141295616, .inil], h4⟩
theorem m2_run : ranTo (evCall (cxX Tryz.prog bad [] [] q0) 1000 60 84 m2.args m2.h) m2.v m2.h' = true := by kernel_rfl
theorem m2_ok {σ : Nat → Int} {W0 : World} (hL : L0 W0) : MemoOk Tryz.prog 26623 σ W0 84 m2 := memo_ok fit (Known2.nil σ) ((q0_ok hL)) m2_run
noncomputable def h5 : H := hUpd h1 273 [41] [(59, .cells 1 ([[.str [108, 105]], [.str [114, 48]], [.str [49]]]) false)] []
noncomputable def h6 : H := hUpd h5 334 [] [] []
noncomputable def m3 : Memo := ⟨[.slice 59 0 3 3 1 false, .map 122], h5, .tuple [U 16777217, .inil], h6⟩
theorem m3_run : ranTo (evCall (cxX Tryz.prog bad [] [] q0) 1000 60 84 m3.args m3.h) m3.v m3.h' = true := by kernel_rfl
theorem m3_ok {σ : Nat → Int} {W0 : World} (hL : L0 W0) : MemoOk Tryz.prog 26623 σ W0 84 m3 := memo_ok fit (Known2.nil σ) ((q0_ok hL)) m3_run
noncomputable def h7 : H := hUpd h1 336 [41] [(68, .cells 1 ([[.str [108, 105]], [.str [114, 49]], [.str [53, 48, 48]]]) false)] []
noncomputable def h8 : H := hUpd h7 397 [] [] []
noncomputable def m4 : Memo := ⟨[.slice 68 0 3 3 1 false, .map 122], h7, .tuple [U 17826292, .inil], h8⟩
theorem m4_run : ranTo (evCall (cxX Tryz.prog bad [] [] q0) 1000 60 84 m4.args m4.h) m4.v m4.h' = true := by kernel_rfl
theorem m4_ok {σ : Nat → Int} {W0 : World} (hL : L0 W0) : MemoOk Tryz.prog 26623 σ W0 84 m4 := memo_ok fit (Known2.nil σ) ((q0_ok hL)) m4_run
noncomputable def h9 : H := hUpd h1 399 [41] [(79, .cells 1 ([[.str [105, 110, 118]], [.str [99, 97, 108, 108]], [.str [107, 56]], [.str [107, 49, 49]]]) false)] []
noncomputable def h10 : H := hUpd h9 474 [] [] []
noncomputable def m5 : Memo := ⟨[.slice 79 0 4 4 1 false, .map 122], h9, .tuple [U 185118720, .inil], h10⟩
theorem m5_run : ranTo (evCall (cxX Tryz.prog bad [] [] q0) 1000 60 84 m5.args m5.h) m5.v m5.h' = true := by kernel_rfl
theorem m5_ok {σ : Nat → Int} {W0 : World} (hL : L0 W0) : MemoOk Tryz.prog 26623 σ W0 84 m5 := memo_ok fit (Known2.nil σ) ((q0_ok hL)) m5_run
noncomputable def h11 : H := hUpd h1 476 [41] [(88, .cells 1 ([[.str [108, 105]], [.str [114, 48]], [.str [54]]]) false)] []
noncomputable def h12 : H := hUpd h11 537 [] [] []
noncomputable def m6 : Memo := ⟨[.slice 88 0 3 3 1 false, .map 122], h11, .tuple [U 16777222, .inil], h12⟩
theorem m6_run : ranTo (evCall (cxX Tryz.prog bad [] [] q0) 1000 60 84 m6.args m6.h) m6.v m6.h' = true := by kernel_rfl
theorem m6_ok {σ : Nat → Int} {W0 : World} (hL : L0 W0) : MemoOk Tryz.prog 26623 σ W0 84 m6 := memo_ok fit (Known2.nil σ) ((q0_ok hL)) m6_run
noncomputable def h13 : H := hUpd h1 539 [41] [(97, .cells 1 ([[.str [108, 105]], [.str [114, 49]], [.str [50]]]) false)] []
noncomputable def h14 : H := hUpd h13 600 [] [] []
noncomputable def m7 : Memo := ⟨[.slice 97 0 3 3 1 false, .map 122], h13, .tuple [U 17825794, .inil], h14⟩
theorem m7_run : ranTo (evCall (cxX Tryz.prog bad [] [] q0) 1000 60 84 m7.args m7.h) m7.v m7.h' = true := by kernel_rfl
theorem m7_ok {σ : Nat → Int} {W0 : World} (hL : L0 W0) : MemoOk Tryz.prog 26623 σ W0 84 m7 := memo_ok fit (Known2.nil σ) ((q0_ok hL)) m7_run
noncomputable def h15 : H := hUpd h1 602 [41] [(108, .cells 1 ([[.str [105, 110, 118]], [.str [99, 97, 108, 108]], [.str [107, 54]], [.str [107, 49, 49]]]) false)] []
noncomputable def h16 : H := hUpd h15 677 [] [] []
noncomputable def m8 : Memo := ⟨[.slice 108 0 4 4 1 false, .map 122], h15, .tuple [U 184987648, .inil], h16⟩
theorem m8_run : ranTo (evCall (cxX Tryz.prog bad [] [] q0) 1000 60 84 m8.args m8.h) m8.v m8.h' = true := by kernel_rfl
theorem m8_ok {σ : Nat → Int} {W0 : World} (hL : L0 W0) : MemoOk Tryz.prog 26623 σ W0 84 m8 := memo_ok fit (Known2.nil σ) ((q0_ok hL)) m8_run
noncomputable def h17 : H := hUpd h1 679 [41] [(119, .cells 1 ([[.str [105, 110, 118]], [.str [114, 101, 116, 117, 114, 110]], [.str [107, 55]], [.str [107, 49, 49]]]) false)] []
noncomputable def h18 : H := hUpd h17 754 [] [] []
noncomputable def m9 : Memo := ⟨[.slice 119 0 4 4 1 false, .map 122], h17, .tuple [U 186101760, .inil], h18⟩
theorem m9_run : ranTo (evCall (cxX Tryz.prog bad [] [] q0) 1000 60 84 m9.args m9.h) m9.v m9.h' = true := by kernel_rfl
theorem m9_ok {σ : Nat → Int} {W0 : World} (hL : L0 W0) : MemoOk Tryz.prog 26623 σ W0 84 m9 := memo_ok fit (Known2.nil σ) ((q0_ok hL)) m9_run
noncomputable def h19 : H := hUpd h0 34 [] [(33, .cells 1 ([[.str [107, 109, 111, 118, 101, 32, 107, 55, 32, 107, 49, 53]], [.str [107, 109, 111, 118, 101, 32, 107, 54, 32, 107, 49, 50]], [.str [108, 105, 32, 114, 48, 32, 49]], [.str [108, 105, 32, 114, 49, 32, 53, 48, 48]], [.str [105, 110, 118, 32, 99, 97, 108, 108, 32, 107, 56, 32, 107, 49, 49]], [.str [108, 105, 32, 114, 48, 32, 54]], [.str [108, 105, 32, 114, 49, 32, 50]], [.str [105, 110, 118, 32, 99, 97, 108, 108, 32, 107, 54, 32, 107, 49, 49]], [.str [105, 110, 118, 32, 114, 101, 116, 117, 114, 110, 32, 107, 55, 32, 107, 49, 49]]]) false)] []
noncomputable def h20 : H := hUpd h19 756 [] [(755, .cells 1 ([[U 142540800], [U 141295616], [U 16777217], [U 17826292], [U 185118720], [U 16777222], [U 17825794], [U 184987648], [U 186101760]]) false)] []
noncomputable def m10 : Memo := ⟨[bF, I 500, .snil, .slice 33 0 9 9 1 true], h19, .agg [.slice 755 0 9 9 1 false, I 500, .snil, bF], h20⟩
noncomputable def l0 : List (Memo) := m9 :: m8 :: m7 :: m6 :: m5 :: m4 :: m3 :: m2 :: m1 :: []
theorem l0_ok {σ : Nat → Int} {W0 : World} (hL : L0 W0) : ∀ x ∈ l0, MemoOk Tryz.prog 26623 σ W0 84 x := all_cons (m9_ok hL) (all_cons (m8_ok hL) (all_cons (m7_ok hL) (all_cons (m6_ok hL) (all_cons (m5_ok hL) (all_cons (m4_ok hL) (all_cons (m3_ok hL) (all_cons (m2_ok hL) (all_cons (m1_ok hL) (all_nil)))))))))
theorem m10_run : ranTo (evCall (cxX Tryz.prog bad [] [] ((84, frameFn l0) :: q0)) 1000 60 9 m10.args m10.h) m10.v m10.h' = true := by kernel_rfl
theorem m10_ok {σ : Nat → Int} {W0 : World} (hL : L0 W0) : MemoOk Tryz.prog 26623 σ W0 9 m10 := memo_ok fit (Known2.nil σ) (FnsOk.cons (frame_fn_ok (l0_ok hL)) ((q0_ok hL))) m10_run
noncomputable def h21 : H := hUpd h0 786 [] [(761, .cells 1 ([[.str [121, 105, 101, 108, 100]]]) false),
  (785, .map [] 0)] []
noncomputable def h22 : H := hUpd h21 835 [] [] []
noncomputable def m11 : Memo := ⟨[.slice 761 0 1 1 1 false, .map 785], h21, .tuple [U 201326592, .inil], h22⟩
theorem m11_run : ranTo (evCall (cxX Tryz.prog bad [] [] q0) 1000 60 84 m11.args m11.h) m11.v m11.h' = true := by kernel_rfl
theorem m11_ok {σ : Nat → Int} {W0 : World} (hL : L0 W0) : MemoOk Tryz.prog 26623 σ W0 84 m11 := memo_ok fit (Known2.nil σ) ((q0_ok hL)) m11_run
noncomputable def h23 : H := hUpd h21 837 [761] [(768, .cells 1 ([[.str [106, 109, 112]], [.str [48]]]) false)] []
noncomputable def h24 : H := hUpd h23 887 [] [] []
noncomputable def m12 : Memo := ⟨[.slice 768 0 2 2 1 false, .map 785], h23, .tuple [U 67108864, .inil], h24⟩
theorem m12_run : ranTo (evCall (cxX Tryz.prog bad [] [] q0) 1000 60 84 m12.args m12.h) m12.v m12.h' = true := by kernel_rfl
theorem m12_ok {σ : Nat → Int} {W0 : World} (hL : L0 W0) : MemoOk Tryz.prog 26623 σ W0 84 m12 := memo_ok fit (Known2.nil σ) ((q0_ok hL)) m12_run
noncomputable def h25 : H := hUpd h21 889 [761] [(777, .cells 1 ([[.str [108, 105]], [.str [114, 53]], [.str [55, 55]]]) false)] []
noncomputable def h26 : H := hUpd h25 950 [] [] []
noncomputable def m13 : Memo := ⟨[.slice 777 0 3 3 1 false, .map 785], h25, .tuple [U 22020173, .inil], h26⟩
theorem m13_run : ranTo (evCall (cxX Tryz.prog bad [] [] q0) 1000 60 84 m13.args m13.h) m13.v m13.h' = true := by kernel_rfl
theorem m13_ok {σ : Nat → Int} {W0 : World} (hL : L0 W0) : MemoOk Tryz.prog 26623 σ W0 84 m13 := memo_ok fit (Known2.nil σ) ((q0_ok hL)) m13_run
noncomputable def h27 : H := hUpd h21 952 [761] [(782, .cells 1 ([[.str [104, 97, 108, 116]]]) false)] []
noncomputable def h28 : H := hUpd h27 1001 [] [] []
noncomputable def m14 : Memo := ⟨[.slice 782 0 1 1 1 false, .map 785], h27, .tuple [U 218103808, .inil], h28⟩
theorem m14_run : ranTo (evCall (cxX Tryz.prog bad [] [] q0) 1000 60 84 m14.args m14.h) m14.v m14.h' = true := by kernel_rfl
theorem m14_ok {σ : Nat → Int} {W0 : World} (hL : L0 W0) : MemoOk Tryz.prog 26623 σ W0 84 m14 := memo_ok fit (Known2.nil σ) ((q0_ok hL)) m14_run
noncomputable def h29 : H := hUpd h0 758 [] [(757, .cells 1 ([[.str [121, 105, 101, 108, 100]], [.str [106, 109, 112, 32, 48]], [.str [108, 105, 32, 114, 53, 32, 55, 55]], [.str [104, 97, 108, 116]]]) false)] []
noncomputable def h30 : H := hUpd h29 1003 [] [(1002, .cells 1 ([[U 201326592], [U 67108864], [U 22020173], [U 218103808]]) false)] []
noncomputable def m15 : Memo := ⟨[bT, I 1, .snil, .slice 757 0 4 4 1 true], h29, .agg [.slice 1002 0 4 4 1 false, I 1, .snil, bT], h30⟩
noncomputable def l1 : List (Memo) := m14 :: m13 :: m12 :: m11 :: []
theorem l1_ok {σ : Nat → Int} {W0 : World} (hL : L0 W0) : ∀ x ∈ l1, MemoOk Tryz.prog 26623 σ W0 84 x := all_cons (m14_ok hL) (all_cons (m13_ok hL) (all_cons (m12_ok hL) (all_cons (m11_ok hL) (all_nil))))
theorem m15_run : ranTo (evCall (cxX Tryz.prog bad [] [] ((84, frameFn l1) :: q0)) 1000 60 9 m15.args m15.h) m15.v m15.h' = true := by kernel_rfl
theorem m15_ok {σ : Nat → Int} {W0 : World} (hL : L0 W0) : MemoOk Tryz.prog 26623 σ W0 9 m15 := memo_ok fit (Known2.nil σ) (FnsOk.cons (frame_fn_ok (l1_ok hL)) ((q0_ok hL))) m15_run
noncomputable def p16 : Pur := ([.agg [I 3, I 0, I 0, I 0, U 0]], .inil, 1048576)
theorem p16_run : ranPure (evCall (cxX Tryz.prog bad [] [] q0) 1000 60 44 p16.1 ⟨.lf, p16.2.2⟩) p16.2.1 = true := by kernel_rfl
theorem p16_ok {σ : Nat → Int} {W0 : World} (hL : L0 W0) : PureOk Tryz.prog 26623 σ W0 44 p16 := pure_ok fit (Known2.nil σ) ((q0_ok hL)) p16_run
noncomputable def p17 : Pur := ([.agg [I 3, I 1, I 0, I 0, U 0]], .inil, 1048576)
theorem p17_run : ranPure (evCall (cxX Tryz.prog bad [] [] q0) 1000 60 44 p17.1 ⟨.lf, p17.2.2⟩) p17.2.1 = true := by kernel_rfl
theorem p17_ok {σ : Nat → Int} {W0 : World} (hL : L0 W0) : PureOk Tryz.prog 26623 σ W0 44 p17 := pure_ok fit (Known2.nil σ) ((q0_ok hL)) p17_run
noncomputable def p18 : Pur := ([.agg [I 0, I 0, I 0, I 0, U 0]], .inil, 1048576)
theorem p18_run : ranPure (evCall (cxX Tryz.prog bad [] [] q0) 1000 60 44 p18.1 ⟨.lf, p18.2.2⟩) p18.2.1 = true := by kernel_rfl
theorem p18_ok {σ : Nat → Int} {W0 : World} (hL : L0 W0) : PureOk Tryz.prog 26623 σ W0 44 p18 := pure_ok fit (Known2.nil σ) ((q0_ok hL)) p18_run
noncomputable def p19 : Pur := ([.agg [I 2, I 0, I 0, I 0, U 1]], .inil, 1048576)
theorem p19_run : ranPure (evCall (cxX Tryz.prog bad [] [] q0) 1000 60 44 p19.1 ⟨.lf, p19.2.2⟩) p19.2.1 = true := by kernel_rfl
theorem p19_ok {σ : Nat → Int} {W0 : World} (hL : L0 W0) : PureOk Tryz.prog 26623 σ W0 44 p19 := pure_ok fit (Known2.nil σ) ((q0_ok hL)) p19_run
noncomputable def p20 : Pur := ([.agg [I 8, I 0, I 0, I 0, U 0]], .inil, 1048576)
theorem p20_run : ranPure (evCall (cxX Tryz.prog bad [] [] q0) 1000 60 44 p20.1 ⟨.lf, p20.2.2⟩) p20.2.1 = true := by kernel_rfl
theorem p20_ok {σ : Nat → Int} {W0 : World} (hL : L0 W0) : PureOk Tryz.prog 26623 σ W0 44 p20 := pure_ok fit (Known2.nil σ) ((q0_ok hL)) p20_run
noncomputable def p21 : Pur := ([.agg [I 7, I 1, I 0, I 0, U 0]], .inil, 1048576)
theorem p21_run : ranPure (evCall (cxX Tryz.prog bad [] [] q0) 1000 60 44 p21.1 ⟨.lf, p21.2.2⟩) p21.2.1 = true := by kernel_rfl
theorem p21_ok {σ : Nat → Int} {W0 : World} (hL : L0 W0) : PureOk Tryz.prog 26623 σ W0 44 p21 := pure_ok fit (Known2.nil σ) ((q0_ok hL)) p21_run
noncomputable def p22 : Pur := ([.agg [I 11, I 0, I 0, I 0, U 0]], .inil, 1048576)
theorem p22_run : ranPure (evCall (cxX Tryz.prog bad [] [] q0) 1000 60 44 p22.1 ⟨.lf, p22.2.2⟩) p22.2.1 = true := by kernel_rfl
theorem p22_ok {σ : Nat → Int} {W0 : World} (hL : L0 W0) : PureOk Tryz.prog 26623 σ W0 44 p22 := pure_ok fit (Known2.nil σ) ((q0_ok hL)) p22_run
noncomputable def p23 : Pur := ([.agg [I 12, I 0, I 0, I 0, U 0]], .inil, 1048576)
theorem p23_run : ranPure (evCall (cxX Tryz.prog bad [] [] q0) 1000 60 44 p23.1 ⟨.lf, p23.2.2⟩) p23.2.1 = true := by kernel_rfl
theorem p23_ok {σ : Nat → Int} {W0 : World} (hL : L0 W0) : PureOk Tryz.prog 26623 σ W0 44 p23 := pure_ok fit (Known2.nil σ) ((q0_ok hL)) p23_run
noncomputable def p24 : Pur := ([.agg [I 13, I 0, I 0, I 0, U 0]], .inil, 1048576)
theorem p24_run : ranPure (evCall (cxX Tryz.prog bad [] [] q0) 1000 60 44 p24.1 ⟨.lf, p24.2.2⟩) p24.2.1 = true := by kernel_rfl
theorem p24_ok {σ : Nat → Int} {W0 : World} (hL : L0 W0) : PureOk Tryz.prog 26623 σ W0 44 p24 := pure_ok fit (Known2.nil σ) ((q0_ok hL)) p24_run
noncomputable def p25 : Pur := ([.agg [I 14, I 0, I 0, I 0, U 0]], .inil, 1048576)
theorem p25_run : ranPure (evCall (cxX Tryz.prog bad [] [] q0) 1000 60 44 p25.1 ⟨.lf, p25.2.2⟩) p25.2.1 = true := by kernel_rfl
theorem p25_ok {σ : Nat → Int} {W0 : World} (hL : L0 W0) : PureOk Tryz.prog 26623 σ W0 44 p25 := pure_ok fit (Known2.nil σ) ((q0_ok hL)) p25_run
noncomputable def h31 : H := hUpd h20 1093 [33] [(1022, .cells 3 ([[.ptr 1020 0, .slice 1021 0 8 8 107 true, .slice 1046 0 8 8 1 false]]) false),
  (1054, .map [] 0),
  (1038, .cells 1 ([[.snil]]) false),
  (1014, .cells 32 (rp 24 (rp 32 (U 0) ([])) ([])) false),
  (1046, .cells 1 ([[.ptr 1023 0], [.ptr 1026 0], [.ptr 1029 0], [.ptr 1032 0], [.ptr 1035 0], [.ptr 1038 0], [.ptr 1041 0], [.ptr 1044 0]]) false),
  (1018, .cells 3 ([[.ptr 1016 0, I 16, .ptr 1017 0]]) false),
  (1050, .cells 2 ([[.ptr 1048 0, .slice 1049 0 12 12 2 true]]) false),
  (1010, .cells 80 (rp 16 (rp 4 (I 0) ((U 0) :: rp 4 (I 0) ((U 0) :: rp 4 (I 0) ((U 0) :: rp 4 (I 0) ((U 0) :: rp 4 (I 0) ((U 0) :: rp 4 (I 0) ((U 0) :: rp 4 (I 0) ((U 0) :: rp 4 (I 0) ((U 0) :: rp 4 (I 0) ((U 0) :: rp 4 (I 0) ((U 0) :: rp 4 (I 0) ((U 0) :: rp 4 (I 0) ((U 0) :: rp 4 (I 0) ((U 0) :: rp 4 (I 0) ((U 0) :: rp 4 (I 0) ((U 0) :: rp 4 (I 0) ([U 0]))))))))))))))))) ([])) false),
  (1058, .cells 31 (rp 6 ((bF) :: rp 4 (I 0) ((U 0) :: rp 4 (I 0) ((U 0) :: rp 4 (I 0) ((U 0) :: rp 4 (I 0) ((U 0) :: rp 4 (I 0) ((U 0) :: rp 4 (I 0) ([U 0]))))))) ([])) false),
  (1026, .cells 1 ([[.snil]]) false),
  (1020, .cells 1 ([[.slice 1019 0 8 8 3 true]]) false),
  (1052, .cells 1 ([[.slice 1051 0 8 8 3 true]]) false),
  (1012, .cells 3 (rp 24 ([bF, I 0, bF]) ([])) false),
  (1044, .cells 1 ([[.snil]]) false),
  (1060, .cells 1 ([[.snil]]) false),
  (1016, .cells 2 ([[.ptr 1011 0, .ptr 1015 0]]) false),
  (1048, .cells 1 ([[.slice 1047 0 12 12 3 true]]) false),
  (1032, .cells 1 ([[.snil]]) false),
  (1008, .cells 3 (rp 16 ([bF, I 0, bF]) ([])) false),
  (1056, .cells 3 (rp 6 ([bF, I 0, bF]) ([])) false),
  (1021, .cells 107 (rp 8 (rp 9 (U 0) (rp 6 (I 0) ((U 0) :: rp 4 (I 0) ((U 0) :: rp 4 (I 0) ((U 0) :: rp 4 (I 0) ((U 0) :: rp 4 (I 0) ((U 0) :: rp 4 (I 0) ((U 0) :: rp 4 (I 0) ((U 0) :: rp 4 (I 0) ((U 0) :: rp 4 (I 0) ((U 0) :: rp 4 (I 0) ((U 0) :: rp 4 (I 0) ((U 0) :: rp 4 (I 0) ((U 0) :: rp 4 (I 0) ((U 0) :: rp 4 (I 0) ((U 0) :: rp 4 (I 0) ((U 0) :: rp 4 (I 0) ((U 0) :: rp 4 (I 0) ((U 0) :: rp 4 (I 0) ((U 0) :: rp 4 (I 0) ([U 0, I 0]))))))))))))))))))))) ([])) false),
  (1053, .cells 3 ([IZ (-1), I 60, I 0] :: rp 7 ([I 0, I 0, I 0]) ([])) false),
  (1013, .cells 1 ([[.slice 1012 0 24 24 3 true]]) false),
  (1061, .cells 9 ([[.ptr 1018 0, .ptr 1022 0, .ptr 1050 0, .ptr 1055 0, .ptr 1059 0, .ptr 1060 0, .snil, .snil, I 0]]) false),
  (1029, .cells 1 ([[.snil]]) false),
  (1017, .cells 3 ([[I 16, .snil, I 0]]) false),
  (1049, .cells 2 ([IZ (-1), I 2147483647] :: rp 11 ([I 0, I 0]) ([])) false),
  (1009, .cells 1 ([[.slice 1008 0 16 16 3 true]]) false),
  (1041, .cells 1 ([[.snil]]) false),
  (1057, .cells 1 ([[.slice 1056 0 6 6 3 true]]) false),
  (1019, .cells 3 (rp 8 ([bF, I 0, bF]) ([])) false),
  (1051, .cells 3 ([bT, I 0, bF] :: rp 7 ([bF, I 0, bF]) ([])) false),
  (1035, .cells 1 ([[.snil]]) false),
  (1011, .cells 2 ([[.ptr 1009 0, .slice 1010 0 16 16 80 true]]) false),
  (1059, .cells 2 ([[.ptr 1057 0, .slice 1058 0 6 6 31 true]]) false),
  (1015, .cells 2 ([[.ptr 1013 0, .slice 1014 0 24 24 32 true]]) false),
  (1047, .cells 3 ([bT, I 0, bF] :: rp 11 ([bF, I 0, bF]) ([])) false),
  (1055, .cells 5 ([[.ptr 1052 0, .slice 1053 0 8 8 3 true, .map 1054, .ptr 1018 0, .ptr 1022 0]]) false),
  (1023, .cells 1 ([[.snil]]) false)] []
noncomputable def h32 : H := hUpc h31 1568 [] [(1054, .map [(.agg [I 3, I 0], .agg [I 0, I 0], 0), (.agg [I 3, I 1], .agg [I 0, I 0], 1), (.agg [I 2, I 0], .agg [I 0, I 0], 2), (.agg [I 4, I 0], .agg [I 0, I 0], 3)] 4)] [(1014, 0, (U 142540800) :: (U 141295616) :: (U 16777217) :: (U 17826292) :: (U 185118720) :: (U 16777222) :: (U 17825794) :: (U 184987648) :: (U 186101760) :: rp 23 (U 0) ([])),
  (1012, 0, [bT, I 0, bF]),
  (1012, 1, [bT, I 0, bF]),
  (1008, 0, [bT, I 0, bF]),
  (1053, 0, [IZ (-1), I 60, I 4]),
  (1049, 1, [I 0, I 500]),
  (1019, 0, [bT, I 0, bF]),
  (1047, 1, [bT, I 0, bF])] [(1010, 0, 0, I 3), (1010, 0, 5, I 3), (1010, 0, 6, I 1), (1021, 0, 9, I 1), (1021, 0, 11, I 8), (1021, 0, 16, I 7), (1021, 0, 17, I 1), (1021, 0, 21, I 11), (1021, 0, 26, I 12), (1021, 0, 31, I 13), (1021, 0, 36, I 14), (1021, 0, 91, I 2), (1021, 0, 95, U 1), (1021, 0, 96, I 7), (1021, 0, 97, I 1)]
noncomputable def m26 : Memo := ⟨[.ptr 1061 0, .agg [.slice 755 0 9 9 1 false, I 500, .snil, bF]], h31, .tuple [I 0, .inil], h32⟩
noncomputable def l2 : List (Pur) := p25 :: p24 :: p23 :: p22 :: p21 :: p20 :: p19 :: p18 :: p17 :: p16 :: []
theorem l2_ok {σ : Nat → Int} {W0 : World} (hL : L0 W0) : ∀ x ∈ l2, PureOk Tryz.prog 26623 σ W0 44 x := all_cons (p25_ok hL) (all_cons (p24_ok hL) (all_cons (p23_ok hL) (all_cons (p22_ok hL) (all_cons (p21_ok hL) (all_cons (p20_ok hL) (all_cons (p19_ok hL) (all_cons (p18_ok hL) (all_cons (p17_ok hL) (all_cons (p16_ok hL) (all_nil))))))))))
theorem m26_run : ranTo (evCall (cxX Tryz.prog bad [] [] ((44, pureFn l2) :: q0)) 1000 60 88 m26.args m26.h) m26.v m26.h' = true := by kernel_rfl
theorem m26_ok {σ : Nat → Int} {W0 : World} (hL : L0 W0) : MemoOk Tryz.prog 26623 σ W0 88 m26 := memo_ok fit (Known2.nil σ) (FnsOk.cons (pure_fn_ok (l2_ok hL)) ((q0_ok hL))) m26_run
noncomputable def p27 : Pur := ([.agg [I 3, I 2, I 0, I 0, U 0]], .inil, 1048576)
theorem p27_run : ranPure (evCall (cxX Tryz.prog bad [] [] q0) 1000 60 44 p27.1 ⟨.lf, p27.2.2⟩) p27.2.1 = true := by kernel_rfl
theorem p27_ok {σ : Nat → Int} {W0 : World} (hL : L0 W0) : PureOk Tryz.prog 26623 σ W0 44 p27 := pure_ok fit (Known2.nil σ) ((q0_ok hL)) p27_run
noncomputable def p28 : Pur := ([.agg [I 3, I 3, I 0, I 0, U 0]], .inil, 1048576)
theorem p28_run : ranPure (evCall (cxX Tryz.prog bad [] [] q0) 1000 60 44 p28.1 ⟨.lf, p28.2.2⟩) p28.2.1 = true := by kernel_rfl
theorem p28_ok {σ : Nat → Int} {W0 : World} (hL : L0 W0) : PureOk Tryz.prog 26623 σ W0 44 p28 := pure_ok fit (Known2.nil σ) ((q0_ok hL)) p28_run
noncomputable def p29 : Pur := ([.agg [I 2, I 1, I 0, I 0, U 1]], .inil, 1048576)
theorem p29_run : ranPure (evCall (cxX Tryz.prog bad [] [] q0) 1000 60 44 p29.1 ⟨.lf, p29.2.2⟩) p29.2.1 = true := by kernel_rfl
theorem p29_ok {σ : Nat → Int} {W0 : World} (hL : L0 W0) : PureOk Tryz.prog 26623 σ W0 44 p29 := pure_ok fit (Known2.nil σ) ((q0_ok hL)) p29_run
noncomputable def p30 : Pur := ([.agg [I 7, I 2, I 0, I 0, U 0]], .inil, 1048576)
theorem p30_run : ranPure (evCall (cxX Tryz.prog bad [] [] q0) 1000 60 44 p30.1 ⟨.lf, p30.2.2⟩) p30.2.1 = true := by kernel_rfl
theorem p30_ok {σ : Nat → Int} {W0 : World} (hL : L0 W0) : PureOk Tryz.prog 26623 σ W0 44 p30 := pure_ok fit (Known2.nil σ) ((q0_ok hL)) p30_run
noncomputable def h33 : H := hUpd h32 1571 [755] [(1002, .cells 1 ([[U 201326592], [U 67108864], [U 22020173], [U 218103808]]) false)] []
noncomputable def h34 : H := hUpc h33 2046 [] [(1054, .map [(.agg [I 3, I 0], .agg [I 0, I 0], 0), (.agg [I 3, I 1], .agg [I 0, I 0], 1), (.agg [I 2, I 0], .agg [I 0, I 0], 2), (.agg [I 4, I 0], .agg [I 0, I 0], 3), (.agg [I 3, I 2], .agg [I 0, I 0], 4), (.agg [I 3, I 3], .agg [I 0, I 0], 5), (.agg [I 2, I 1], .agg [I 0, I 0], 6), (.agg [I 4, I 1], .agg [I 0, I 0], 7)] 8)] [(1012, 2, [bT, I 0, bF]),
  (1012, 3, [bT, I 0, bF]),
  (1008, 1, [bT, I 0, bF]),
  (1053, 0, [IZ (-1), I 60, I 8]),
  (1049, 2, [I 0, I 1]),
  (1019, 1, [bT, I 0, bF]),
  (1047, 2, [bT, I 0, bF])] [(1014, 2, 0, U 201326592), (1014, 2, 1, U 67108864), (1014, 2, 2, U 22020173), (1014, 2, 3, U 218103808), (1010, 1, 0, I 3), (1010, 1, 1, I 2), (1010, 1, 5, I 3), (1010, 1, 6, I 3), (1021, 1, 9, I 1), (1021, 1, 11, I 8), (1021, 1, 16, I 7), (1021, 1, 17, I 2), (1021, 1, 21, I 11), (1021, 1, 26, I 12), (1021, 1, 31, I 13), (1021, 1, 36, I 14), (1021, 1, 91, I 2), (1021, 1, 92, I 1), (1021, 1, 95, U 1), (1021, 1, 96, I 7), (1021, 1, 97, I 2)]
noncomputable def m31 : Memo := ⟨[.ptr 1061 0, .agg [.slice 1002 0 4 4 1 false, I 1, .snil, bT]], h33, .tuple [I 1, .inil], h34⟩
noncomputable def l3 : List (Pur) := p25 :: p24 :: p23 :: p22 :: p30 :: p20 :: p29 :: p18 :: p28 :: p27 :: []
theorem l3_ok {σ : Nat → Int} {W0 : World} (hL : L0 W0) : ∀ x ∈ l3, PureOk Tryz.prog 26623 σ W0 44 x := all_cons (p25_ok hL) (all_cons (p24_ok hL) (all_cons (p23_ok hL) (all_cons (p22_ok hL) (all_cons (p30_ok hL) (all_cons (p20_ok hL) (all_cons (p29_ok hL) (all_cons (p18_ok hL) (all_cons (p28_ok hL) (all_cons (p27_ok hL) (all_nil))))))))))
theorem m31_run : ranTo (evCall (cxX Tryz.prog bad [] [] ((44, pureFn l3) :: q0)) 1000 60 88 m31.args m31.h) m31.v m31.h' = true := by kernel_rfl
theorem m31_ok {σ : Nat → Int} {W0 : World} (hL : L0 W0) : MemoOk Tryz.prog 26623 σ W0 88 m31 := memo_ok fit (Known2.nil σ) (FnsOk.cons (pure_fn_ok (l3_ok hL)) ((q0_ok hL))) m31_run
noncomputable def h35 : H := hUpd h20 1005 [33] [(1002, .cells 1 ([[U 201326592], [U 67108864], [U 22020173], [U 218103808]]) false),
  (1004, .cells 4 ([[.slice 755 0 9 9 1 false, I 500, .snil, bF], [.slice 1002 0 4 4 1 false, I 1, .snil, bT]]) false)] []
noncomputable def h36 : H := hUpc h34 2271 [] [(2270, .cells 1 ([[I 1]]) false),
  (1004, .cells 4 ([[.slice 755 0 9 9 1 false, I 500, .snil, bF], [.slice 1002 0 4 4 1 false, I 1, .snil, bT]]) false),
  (755, .cells 1 ([[U 142540800], [U 141295616], [U 16777217], [U 17826292], [U 185118720], [U 16777222], [U 17825794], [U 184987648], [U 186101760]]) false)] [(1060, 0, [.slice 2270 0 1 1 1 false])] [(1021, 1, 9, I 3)]
noncomputable def m32 : Memo := ⟨[.slice 1004 0 2 2 4 true], h35, .ptr 1061 0, h36⟩
noncomputable def l4 : List (Pur) := p29 :: p30 :: p19 :: p18 :: p25 :: p24 :: p23 :: p22 :: p21 :: p20 :: []
theorem l4_ok {σ : Nat → Int} {W0 : World} (hL : L0 W0) : ∀ x ∈ l4, PureOk Tryz.prog 26623 σ W0 44 x := all_cons (p29_ok hL) (all_cons (p30_ok hL) (all_cons (p19_ok hL) (all_cons (p18_ok hL) (all_cons (p25_ok hL) (all_cons (p24_ok hL) (all_cons (p23_ok hL) (all_cons (p22_ok hL) (all_cons (p21_ok hL) (all_cons (p20_ok hL) (all_nil))))))))))
theorem m32_run : ranTo (evCall (cxX Tryz.prog bad [] [] ((44, pureFn l4) :: (88, frameFn [m26, m31]) :: q0)) 1000 60 14 m32.args m32.h) m32.v m32.h' = true := by kernel_rfl
theorem m32_ok {σ : Nat → Int} {W0 : World} (hL : L0 W0) : MemoOk Tryz.prog 26623 σ W0 14 m32 := memo_ok fit (Known2.nil σ) (FnsOk.cons (pure_fn_ok (l4_ok hL)) (FnsOk.cons (frame_fn_ok (all_cons (m26_ok hL) (all_cons (m31_ok hL) (all_nil)))) ((q0_ok hL)))) m32_run
noncomputable def p33 : Pur := ([.agg [I 5, I 0, I 0, I 0, U 9]], .inil, 1048576)
theorem p33_run : ranPure (evCall (cxX Tryz.prog bad [] [] q0) 1000 60 44 p33.1 ⟨.lf, p33.2.2⟩) p33.2.1 = true := by kernel_rfl
theorem p33_ok {σ : Nat → Int} {W0 : World} (hL : L0 W0) : PureOk Tryz.prog 26623 σ W0 44 p33 := pure_ok fit (Known2.nil σ) ((q0_ok hL)) p33_run
noncomputable def h37 : H := hUpc h36 2379 [1002, 1004, 755] [] [] [(1021, 0, 51, I 7), (1021, 0, 52, I 2), (1021, 1, 101, I 5), (1021, 1, 105, U 9)]
noncomputable def h38 : H := hUpc h37 2684 [] [(2598, .cells 10 ([[I 2, I 1, I 0, I 0, U 1, U 0, .slice 2565 0 1 1 1 false, I 2, I 0, bF]]) false),
  (2565, .cells 1 ([[I 1]]) false)] [(1017, 0, [I 16, .slice 2598 0 1 1 10 false, I 0]),
  (1049, 0, [IZ (-1), I 2147483646]),
  (1049, 2, [I 0, I 0])] [(1021, 1, 8, U 1), (1061, 0, 8, I 1)]
noncomputable def m34 : Memo := ⟨[.ptr 1061 0, I 0], h37, .agg [I 1, I 3, I 0, U 0, I 0, U 0, IZ (-1), I 0], h38⟩
noncomputable def l5 : List (Pur) := p33 :: p29 :: p18 :: p25 :: p24 :: p23 :: p22 :: p20 :: p30 :: []
theorem l5_ok {σ : Nat → Int} {W0 : World} (hL : L0 W0) : ∀ x ∈ l5, PureOk Tryz.prog 26623 σ W0 44 x := all_cons (p33_ok hL) (all_cons (p29_ok hL) (all_cons (p18_ok hL) (all_cons (p25_ok hL) (all_cons (p24_ok hL) (all_cons (p23_ok hL) (all_cons (p22_ok hL) (all_cons (p20_ok hL) (all_cons (p30_ok hL) (all_nil)))))))))
theorem m34_run : ranTo (evCall (cxX Tryz.prog bad [] [] ((44, pureFn l5) :: q0)) 1000 60 19 m34.args m34.h) m34.v m34.h' = true := by kernel_rfl
theorem m34_ok {σ : Nat → Int} {W0 : World} (hL : L0 W0) : MemoOk Tryz.prog 26623 σ W0 19 m34 := memo_ok fit (Known2.nil σ) (FnsOk.cons (pure_fn_ok (l5_ok hL)) ((q0_ok hL))) m34_run
noncomputable def p35 : Pur := ([.agg [I 4, I 1, I 0, I 0, U 0]], .inil, 1048576)
theorem p35_run : ranPure (evCall (cxX Tryz.prog bad [] [] q0) 1000 60 44 p35.1 ⟨.lf, p35.2.2⟩) p35.2.1 = true := by kernel_rfl
theorem p35_ok {σ : Nat → Int} {W0 : World} (hL : L0 W0) : PureOk Tryz.prog 26623 σ W0 44 p35 := pure_ok fit (Known2.nil σ) ((q0_ok hL)) p35_run
noncomputable def p36 : Pur := ([.agg [I 6, I 1, I 0, I 0, U 1]], .inil, 1048576)
theorem p36_run : ranPure (evCall (cxX Tryz.prog bad [] [] q0) 1000 60 44 p36.1 ⟨.lf, p36.2.2⟩) p36.2.1 = true := by kernel_rfl
theorem p36_ok {σ : Nat → Int} {W0 : World} (hL : L0 W0) : PureOk Tryz.prog 26623 σ W0 44 p36 := pure_ok fit (Known2.nil σ) ((q0_ok hL)) p36_run
noncomputable def h39 : H := hUpd h38 2685 [] [] []
noncomputable def h40 : H := hUpc h38 3002 [] [] [(2270, 0, [I 0])] [(1021, 0, 0, U 1006), (1021, 0, 1, U 1), (1021, 0, 3, U 1), (1021, 0, 4, U 9), (1021, 0, 9, I 3), (1021, 0, 71, I 4), (1021, 0, 72, I 1), (1021, 0, 86, I 6), (1021, 0, 87, I 1), (1021, 0, 90, U 1), (1021, 1, 9, I 2), (1021, 1, 10, I 6), (1021, 1, 106, I 1), (1061, 0, 8, I 2)]
noncomputable def m37 : Memo := ⟨[.ptr 1061 0, I 0], h39, .agg [I 1, I 5, I 0, U 0, I 0, U 0, I 0, I 6], h40⟩
noncomputable def l6 : List (Pur) := p19 :: p36 :: p35 :: p21 :: p29 :: p18 :: p25 :: p24 :: p23 :: p22 :: p20 :: p33 :: p30 :: []
theorem l6_ok {σ : Nat → Int} {W0 : World} (hL : L0 W0) : ∀ x ∈ l6, PureOk Tryz.prog 26623 σ W0 44 x := all_cons (p19_ok hL) (all_cons (p36_ok hL) (all_cons (p35_ok hL) (all_cons (p21_ok hL) (all_cons (p29_ok hL) (all_cons (p18_ok hL) (all_cons (p25_ok hL) (all_cons (p24_ok hL) (all_cons (p23_ok hL) (all_cons (p22_ok hL) (all_cons (p20_ok hL) (all_cons (p33_ok hL) (all_cons (p30_ok hL) (all_nil)))))))))))))
theorem m37_run : ranTo (evCall (cxX Tryz.prog bad [] [] ((44, pureFn l6) :: q0)) 1000 60 19 m37.args m37.h) m37.v m37.h' = true := by kernel_rfl
theorem m37_ok {σ : Nat → Int} {W0 : World} (hL : L0 W0) : MemoOk Tryz.prog 26623 σ W0 19 m37 := memo_ok fit (Known2.nil σ) (FnsOk.cons (pure_fn_ok (l6_ok hL)) ((q0_ok hL))) m37_run
noncomputable def h41 : H := hUpd h40 3003 [] [] []
noncomputable def h42 : H := hUpc h40 3325 [2598] [(3192, .cells 1 ([[I 0]]) false),
  (3225, .cells 10 ([[I 2, I 1, I 0, I 0, U 1, U 0, .slice 2565 0 1 1 1 false, I 2, I 0, bF], [I 2, I 0, I 0, I 0, U 1, U 0, .slice 3192 0 1 1 1 false, I 0, I 0, bF]]) false)] [(1017, 0, [I 16, .slice 3225 0 2 2 10 false, I 0]),
  (1049, 0, [IZ (-1), I 2147483645]),
  (1049, 1, [I 0, I 499])] [(1021, 0, 8, U 1), (1021, 0, 46, I 6), (1021, 0, 47, I 1), (1021, 0, 50, U 1), (1061, 0, 8, I 3)]
noncomputable def m38 : Memo := ⟨[.ptr 1061 0, I 0], h41, .agg [I 0, I 1, I 0, U 0, I 0, U 0, IZ (-1), I 0], h42⟩
noncomputable def l7 : List (Pur) := p19 :: p35 :: p30 :: p36 :: p18 :: p25 :: p24 :: p23 :: p22 :: p20 :: p21 :: []
theorem l7_ok {σ : Nat → Int} {W0 : World} (hL : L0 W0) : ∀ x ∈ l7, PureOk Tryz.prog 26623 σ W0 44 x := all_cons (p19_ok hL) (all_cons (p35_ok hL) (all_cons (p30_ok hL) (all_cons (p36_ok hL) (all_cons (p18_ok hL) (all_cons (p25_ok hL) (all_cons (p24_ok hL) (all_cons (p23_ok hL) (all_cons (p22_ok hL) (all_cons (p20_ok hL) (all_cons (p21_ok hL) (all_nil)))))))))))
theorem m38_run : ranTo (evCall (cxX Tryz.prog bad [] [] ((44, pureFn l7) :: q0)) 1000 60 19 m38.args m38.h) m38.v m38.h' = true := by kernel_rfl
theorem m38_ok {σ : Nat → Int} {W0 : World} (hL : L0 W0) : MemoOk Tryz.prog 26623 σ W0 19 m38 := memo_ok fit (Known2.nil σ) (FnsOk.cons (pure_fn_ok (l7_ok hL)) ((q0_ok hL))) m38_run
noncomputable def h43 : H := hUpd h42 3326 [] [] []
noncomputable def h44 : H := hUpc h42 3514 [] [] [(1017, 0, [I 16, .slice 3225 0 2 2 10 false, I 1]),
  (1049, 0, [IZ (-1), I 2147483644]),
  (1049, 1, [I 0, I 498])] [(1021, 0, 8, U 2), (1021, 0, 41, I 4), (1021, 0, 42, I 1), (1061, 0, 8, I 4)]
noncomputable def m39 : Memo := ⟨[.ptr 1061 0, I 0], h43, .agg [I 0, I 1, I 0, U 0, I 0, U 0, IZ (-1), I 0], h44⟩
noncomputable def l8 : List (Pur) := p19 :: p18 :: p30 :: p36 :: p35 :: p25 :: p24 :: p23 :: p22 :: p20 :: p21 :: []
theorem l8_ok {σ : Nat → Int} {W0 : World} (hL : L0 W0) : ∀ x ∈ l8, PureOk Tryz.prog 26623 σ W0 44 x := all_cons (p19_ok hL) (all_cons (p18_ok hL) (all_cons (p30_ok hL) (all_cons (p36_ok hL) (all_cons (p35_ok hL) (all_cons (p25_ok hL) (all_cons (p24_ok hL) (all_cons (p23_ok hL) (all_cons (p22_ok hL) (all_cons (p20_ok hL) (all_cons (p21_ok hL) (all_nil)))))))))))
theorem m39_run : ranTo (evCall (cxX Tryz.prog bad [] [] ((44, pureFn l8) :: q0)) 1000 60 19 m39.args m39.h) m39.v m39.h' = true := by kernel_rfl
theorem m39_ok {σ : Nat → Int} {W0 : World} (hL : L0 W0) : MemoOk Tryz.prog 26623 σ W0 19 m39 := memo_ok fit (Known2.nil σ) (FnsOk.cons (pure_fn_ok (l8_ok hL)) ((q0_ok hL))) m39_run
noncomputable def h45 : H := hUpd h44 3515 [] [] []
noncomputable def h46 : H := hUpc h44 3698 [] [] [(1017, 0, [I 16, .slice 3225 0 2 2 10 false, I 2]),
  (1049, 0, [IZ (-1), I 2147483643]),
  (1049, 1, [I 0, I 497])] [(1021, 0, 0, U 1), (1021, 0, 8, U 3), (1061, 0, 8, I 5)]
noncomputable def m40 : Memo := ⟨[.ptr 1061 0, I 0], h45, .agg [I 0, I 1, I 0, U 0, I 0, U 0, IZ (-1), I 0], h46⟩
theorem m40_run : ranTo (evCall (cxX Tryz.prog bad [] [] ((44, pureFn l8) :: q0)) 1000 60 19 m40.args m40.h) m40.v m40.h' = true := by kernel_rfl
theorem m40_ok {σ : Nat → Int} {W0 : World} (hL : L0 W0) : MemoOk Tryz.prog 26623 σ W0 19 m40 := memo_ok fit (Known2.nil σ) (FnsOk.cons (pure_fn_ok (l8_ok hL)) ((q0_ok hL))) m40_run
noncomputable def h47 : H := hUpd h46 3699 [] [] []
noncomputable def h48 : H := hUpc h46 3882 [] [] [(1017, 0, [I 16, .slice 3225 0 2 2 10 false, I 3]),
  (1049, 0, [IZ (-1), I 2147483642]),
  (1049, 1, [I 0, I 496])] [(1021, 0, 1, U 500), (1021, 0, 8, U 4), (1061, 0, 8, I 6)]
noncomputable def m41 : Memo := ⟨[.ptr 1061 0, I 0], h47, .agg [I 0, I 1, I 0, U 0, I 0, U 0, IZ (-1), I 0], h48⟩
theorem m41_run : ranTo (evCall (cxX Tryz.prog bad [] [] ((44, pureFn l8) :: q0)) 1000 60 19 m41.args m41.h) m41.v m41.h' = true := by kernel_rfl
theorem m41_ok {σ : Nat → Int} {W0 : World} (hL : L0 W0) : MemoOk Tryz.prog 26623 σ W0 19 m41 := memo_ok fit (Known2.nil σ) (FnsOk.cons (pure_fn_ok (l8_ok hL)) ((q0_ok hL))) m41_run
noncomputable def h49 : H := hUpd h48 3883 [] [] []
noncomputable def h50 : H := hUpc h44 4424 [] [] [(1017, 0, [I 16, .slice 3225 0 2 2 10 false, I 4]),
  (1049, 0, [IZ (-1), I 2147483641]),
  (1049, 1, [I 0, I 495]),
  (1049, 2, [I 0, I 500])] [(1021, 0, 0, U 0), (1021, 0, 1, U 0), (1021, 0, 3, U 0), (1021, 0, 4, U 0), (1021, 0, 8, U 5), (1021, 0, 71, I 0), (1021, 0, 72, I 0), (1021, 0, 86, I 0), (1021, 0, 87, I 0), (1021, 0, 90, U 0), (1061, 0, 8, I 7)]
noncomputable def m42 : Memo := ⟨[.ptr 1061 0, I 0], h49, .agg [I 0, I 2, I 0, U 1, I 7, U 0, IZ (-1), I 0], h50⟩
theorem m42_run : ranTo (evCall (cxX Tryz.prog bad [] [] ((44, pureFn l8) :: q0)) 1000 60 19 m42.args m42.h) m42.v m42.h' = true := by kernel_rfl
theorem m42_ok {σ : Nat → Int} {W0 : World} (hL : L0 W0) : MemoOk Tryz.prog 26623 σ W0 19 m42 := memo_ok fit (Known2.nil σ) (FnsOk.cons (pure_fn_ok (l8_ok hL)) ((q0_ok hL))) m42_run
noncomputable def h51 : H := hUpd h50 4425 [] [] []
noncomputable def h52 : H := hUpc h50 4608 [] [] [(1017, 0, [I 16, .slice 3225 0 2 2 10 false, I 5]),
  (1049, 0, [IZ (-1), I 2147483640]),
  (1049, 1, [I 0, I 494])] [(1021, 0, 0, U 6), (1021, 0, 8, U 6), (1061, 0, 8, I 8)]
noncomputable def m43 : Memo := ⟨[.ptr 1061 0, I 0], h51, .agg [I 0, I 1, I 0, U 0, I 0, U 0, IZ (-1), I 0], h52⟩
theorem m43_run : ranTo (evCall (cxX Tryz.prog bad [] [] ((44, pureFn l8) :: q0)) 1000 60 19 m43.args m43.h) m43.v m43.h' = true := by kernel_rfl
theorem m43_ok {σ : Nat → Int} {W0 : World} (hL : L0 W0) : MemoOk Tryz.prog 26623 σ W0 19 m43 := memo_ok fit (Known2.nil σ) (FnsOk.cons (pure_fn_ok (l8_ok hL)) ((q0_ok hL))) m43_run
noncomputable def h53 : H := hUpd h52 4609 [] [] []
noncomputable def h54 : H := hUpc h52 4792 [] [] [(1017, 0, [I 16, .slice 3225 0 2 2 10 false, I 6]),
  (1049, 0, [IZ (-1), I 2147483639]),
  (1049, 1, [I 0, I 493])] [(1021, 0, 1, U 2), (1021, 0, 8, U 7), (1061, 0, 8, I 9)]
noncomputable def m44 : Memo := ⟨[.ptr 1061 0, I 0], h53, .agg [I 0, I 1, I 0, U 0, I 0, U 0, IZ (-1), I 0], h54⟩
theorem m44_run : ranTo (evCall (cxX Tryz.prog bad [] [] ((44, pureFn l8) :: q0)) 1000 60 19 m44.args m44.h) m44.v m44.h' = true := by kernel_rfl
theorem m44_ok {σ : Nat → Int} {W0 : World} (hL : L0 W0) : MemoOk Tryz.prog 26623 σ W0 19 m44 := memo_ok fit (Known2.nil σ) (FnsOk.cons (pure_fn_ok (l8_ok hL)) ((q0_ok hL))) m44_run
noncomputable def h55 : H := hUpd h54 4793 [] [] []
noncomputable def h56 : H := hUpc h50 5336 [] [] [(1017, 0, [I 16, .slice 3225 0 2 2 10 false, I 7]),
  (1049, 0, [IZ (-1), I 2147483638]),
  (1049, 1, [I 0, I 492])] [(1021, 0, 8, U 8), (1021, 1, 8, U 2), (1061, 0, 8, I 10)]
noncomputable def m45 : Memo := ⟨[.ptr 1061 0, I 0], h55, .agg [I 0, I 2, I 0, U 6, I 4, U 0, IZ (-1), I 0], h56⟩
noncomputable def l9 : List (Pur) := p33 :: p29 :: l8
theorem l9_ok {σ : Nat → Int} {W0 : World} (hL : L0 W0) : ∀ x ∈ l9, PureOk Tryz.prog 26623 σ W0 44 x := all_cons (p33_ok hL) (all_cons (p29_ok hL) ((l8_ok hL)))
theorem m45_run : ranTo (evCall (cxX Tryz.prog bad [] [] ((44, pureFn l9) :: q0)) 1000 60 19 m45.args m45.h) m45.v m45.h' = true := by kernel_rfl
theorem m45_ok {σ : Nat → Int} {W0 : World} (hL : L0 W0) : MemoOk Tryz.prog 26623 σ W0 19 m45 := memo_ok fit (Known2.nil σ) (FnsOk.cons (pure_fn_ok (l9_ok hL)) ((q0_ok hL))) m45_run
noncomputable def h57 : H := hUpd h56 5337 [] [] []
noncomputable def h58 : H := hUpc h56 5841 [] [] [(2270, 0, [I 1]),
  (1017, 0, [I 16, .slice 3225 0 2 2 10 false, I 8]),
  (1049, 0, [IZ (-1), I 2147483637]),
  (1049, 1, [I 0, I 491])] [(1021, 0, 8, U 9), (1021, 0, 9, I 1), (1021, 1, 9, I 3), (1061, 0, 8, I 11)]
noncomputable def m46 : Memo := ⟨[.ptr 1061 0, I 0], h57, .agg [I 0, I 2, I 1, U 0, I 6, U 0, I 1, I 0], h58⟩
theorem m46_run : ranTo (evCall (cxX Tryz.prog bad [] [] ((44, pureFn l9) :: q0)) 1000 60 19 m46.args m46.h) m46.v m46.h' = true := by kernel_rfl
theorem m46_ok {σ : Nat → Int} {W0 : World} (hL : L0 W0) : MemoOk Tryz.prog 26623 σ W0 19 m46 := memo_ok fit (Known2.nil σ) (FnsOk.cons (pure_fn_ok (l9_ok hL)) ((q0_ok hL))) m46_run
noncomputable def h59 : H := hUpd h58 5842 [] [] []
noncomputable def h60 : H := hUpc h58 6022 [] [] [(1017, 0, [I 16, .slice 3225 0 2 2 10 false, I 9]),
  (1049, 0, [IZ (-1), I 2147483636]),
  (1049, 2, [I 0, I 499])] [(1021, 1, 5, U 77), (1021, 1, 8, U 3), (1061, 0, 8, I 12)]
noncomputable def m47 : Memo := ⟨[.ptr 1061 0, I 0], h59, .agg [I 1, I 1, I 0, U 0, I 0, U 0, IZ (-1), I 0], h60⟩
theorem m47_run : ranTo (evCall (cxX Tryz.prog bad [] [] ((44, pureFn l5) :: q0)) 1000 60 19 m47.args m47.h) m47.v m47.h' = true := by kernel_rfl
theorem m47_ok {σ : Nat → Int} {W0 : World} (hL : L0 W0) : MemoOk Tryz.prog 26623 σ W0 19 m47 := memo_ok fit (Known2.nil σ) (FnsOk.cons (pure_fn_ok (l5_ok hL)) ((q0_ok hL))) m47_run
noncomputable def h61 : H := hUpd h60 6023 [] [] []
noncomputable def h62 : H := hUpc h60 6193 [] [] [(2270, 0, [I 0]),
  (1060, 0, [.slice 2270 0 0 1 1 false]),
  (1017, 0, [I 16, .slice 3225 0 2 2 10 false, I 10]),
  (1049, 0, [IZ (-1), I 2147483635]),
  (1049, 2, [I 0, I 498])] [(1021, 1, 8, U 4), (1021, 1, 9, I 4), (1061, 0, 8, I 13)]
noncomputable def m48 : Memo := ⟨[.ptr 1061 0, I 0], h61, .agg [I 1, I 4, I 0, U 0, I 0, U 0, IZ (-1), I 0], h62⟩
theorem m48_run : ranTo (evCall (cxX Tryz.prog bad [] [] ((44, pureFn l5) :: q0)) 1000 60 19 m48.args m48.h) m48.v m48.h' = true := by kernel_rfl
theorem m48_ok {σ : Nat → Int} {W0 : World} (hL : L0 W0) : MemoOk Tryz.prog 26623 σ W0 19 m48 := memo_ok fit (Known2.nil σ) (FnsOk.cons (pure_fn_ok (l5_ok hL)) ((q0_ok hL))) m48_run
noncomputable def l10 : List (Pur) := p19 :: p21 :: p33 :: p29 :: p18 :: p25 :: p24 :: p23 :: p22 :: p30 :: p20 :: []
theorem l10_ok {σ : Nat → Int} {W0 : World} (hL : L0 W0) : ∀ x ∈ l10, PureOk Tryz.prog 26623 σ W0 44 x := all_cons (p19_ok hL) (all_cons (p21_ok hL) (all_cons (p33_ok hL) (all_cons (p29_ok hL) (all_cons (p18_ok hL) (all_cons (p25_ok hL) (all_cons (p24_ok hL) (all_cons (p23_ok hL) (all_cons (p22_ok hL) (all_cons (p30_ok hL) (all_cons (p20_ok hL) (all_nil)))))))))))
noncomputable def l11 : List (Memo) := m48 :: m47 :: m46 :: m45 :: m44 :: m43 :: m42 :: m41 :: m40 :: m39 :: m38 :: m37 :: m34 :: []
theorem l11_ok {σ : Nat → Int} {W0 : World} (hL : L0 W0) : ∀ x ∈ l11, MemoOk Tryz.prog 26623 σ W0 19 x := all_cons (m48_ok hL) (all_cons (m47_ok hL) (all_cons (m46_ok hL) (all_cons (m45_ok hL) (all_cons (m44_ok hL) (all_cons (m43_ok hL) (all_cons (m42_ok hL) (all_cons (m41_ok hL) (all_cons (m40_ok hL) (all_cons (m39_ok hL) (all_cons (m38_ok hL) (all_cons (m37_ok hL) (all_cons (m34_ok hL) (all_nil)))))))))))))
noncomputable def q1 : Fns := [(7, pureFn [p0]), (14, frameFn [m32]), (295, isFn 453), (122, atoiFullFn 384), (123, itoaFullFn), (195, joinFn), (307, countFn), (352, indexFn), (308, cutOf Tryz.prog 26623 bad [(307, countFn), (352, indexFn)] 1000 20 308)]
theorem q1_ok {σ : Nat → Int} {W0 : World} (hL : L0 W0) : FnsOk Tryz.prog 26623 σ W0 q1 := FnsOk.cons (pure_fn_ok (all_cons (p0_ok hL) (all_nil))) (FnsOk.cons (frame_fn_ok (all_cons (m32_ok hL) (all_nil))) (FnsOk.cons (ext_is hL) (FnsOk.cons (ext_atoi hL) (FnsOk.cons (ext_itoa hL) (FnsOk.cons (ext_join hL) (FnsOk.cons (ext_count hL) (FnsOk.cons (ext_index hL) (FnsOk.cons (ext_cut308 hL) (FnsOk.nil)))))))))
theorem run0 : isTrue (evCall (cxX Tryz.prog bad [] [] ((8, numExtE [(0, 9, .lit 0)]) :: (19, frameFn l11) :: (44, pureFn l10) :: (9, frameFn [m10, m15]) :: q1)) 1000 60 4 [.int .i64 (.var 0), bF] (sentH 453 20 errTab)) = true := by kernel_rfl
abbrev CaseS (rng : Rg) (facts : List (Bool × E × E × Bool)) (tab : NumTabE) (vs : List V) : Prop := ∀ {σ : Nat → Int} {W : World} (hL : L0 W) (hk : Known2 σ rng facts) (hT : TabOk Tryz.prog bad 8 σ tab) {xs : Array Value} (hv : ∀ ρ, VRs σ ρ vs xs.toList), Calls Tryz.prog 4 xs W fun e w' => e = .returned (.bool true) ∧ Below W.heap.size W w'
theorem caseS {rng : Rg} {facts : List (Bool × E × E × Bool)} {tab : NumTabE} {vs : List V} {fs : Fns} (hx : ∀ {σ : Nat → Int} {W : World}, L0 W → Known2 σ rng facts → TabOk Tryz.prog bad 8 σ tab → FnsOk Tryz.prog 26623 σ W fs)
    (run : isTrue (evCall (cxX Tryz.prog bad rng facts fs) 1000 60 4 vs (sentH 453 20 errTab)) = true) : CaseS rng facts tab vs := by
  intro σ W hL hk hT xs hv
  obtain ⟨ads, h1, h2, h3⟩ := errs_sents hL
  exact law_case_x fit h1 h2 h3 errs_all errs_lt (by kernel_rfl) hk (hx hL hk hT) hv ⟨_, Tryz.func4, rfl⟩ run
theorem case0 : CaseS [] [] [(0, 9, .lit 0)] [.int .i64 (.var 0), bF] := caseS (fun hL hk hT => FnsOk.cons (hT.ok fit) (FnsOk.cons (frame_fn_ok (l11_ok hL)) (FnsOk.cons (pure_fn_ok (l10_ok hL)) (FnsOk.cons (frame_fn_ok (all_cons (m10_ok hL) (all_cons (m15_ok hL) (all_nil)))) ((q1_ok hL)))))) run0
noncomputable def h63 : H := hUpd h23 837 [] [] [(768, 0, [.str [119, 111, 114, 100]]),
  (768, 1, [.str [51]])]
noncomputable def m49 : Memo := ⟨[.slice 768 0 2 2 1 false, .map 785], h63, .tuple [U 3, .inil], h63⟩
theorem m49_run : ranTo (evCall (cxX Tryz.prog bad [] [] q0) 1000 60 84 m49.args m49.h) m49.v m49.h' = true := by kernel_rfl
theorem m49_ok {σ : Nat → Int} {W0 : World} (hL : L0 W0) : MemoOk Tryz.prog 26623 σ W0 84 m49 := memo_ok fit (Known2.nil σ) ((q0_ok hL)) m49_run
noncomputable def h64 : H := hUpd h25 839 [] [] []
noncomputable def h65 : H := hUpd h25 900 [] [] []
noncomputable def m50 : Memo := ⟨[.slice 777 0 3 3 1 false, .map 785], h64, .tuple [U 22020173, .inil], h65⟩
theorem m50_run : ranTo (evCall (cxX Tryz.prog bad [] [] q0) 1000 60 84 m50.args m50.h) m50.v m50.h' = true := by kernel_rfl
theorem m50_ok {σ : Nat → Int} {W0 : World} (hL : L0 W0) : MemoOk Tryz.prog 26623 σ W0 84 m50 := memo_ok fit (Known2.nil σ) ((q0_ok hL)) m50_run
noncomputable def h66 : H := hUpd h27 902 [] [] []
noncomputable def h67 : H := hUpd h27 951 [] [] []
noncomputable def m51 : Memo := ⟨[.slice 782 0 1 1 1 false, .map 785], h66, .tuple [U 218103808, .inil], h67⟩
theorem m51_run : ranTo (evCall (cxX Tryz.prog bad [] [] q0) 1000 60 84 m51.args m51.h) m51.v m51.h' = true := by kernel_rfl
theorem m51_ok {σ : Nat → Int} {W0 : World} (hL : L0 W0) : MemoOk Tryz.prog 26623 σ W0 84 m51 := memo_ok fit (Known2.nil σ) ((q0_ok hL)) m51_run
noncomputable def h68 : H := hUpd h29 758 [] [] [(757, 1, [.str [119, 111, 114, 100, 32, 51]])]
noncomputable def h69 : H := hUpd h68 953 [] [(952, .cells 1 ([[U 201326592], [U 3], [U 22020173], [U 218103808]]) false)] []
noncomputable def m52 : Memo := ⟨[bT, I 100, .snil, .slice 757 0 4 4 1 true], h68, .agg [.slice 952 0 4 4 1 false, I 100, .snil, bT], h69⟩
noncomputable def l12 : List (Memo) := m51 :: m50 :: m49 :: m11 :: []
theorem l12_ok {σ : Nat → Int} {W0 : World} (hL : L0 W0) : ∀ x ∈ l12, MemoOk Tryz.prog 26623 σ W0 84 x := all_cons (m51_ok hL) (all_cons (m50_ok hL) (all_cons (m49_ok hL) (all_cons (m11_ok hL) (all_nil))))
theorem m52_run : ranTo (evCall (cxX Tryz.prog bad [] [] ((84, frameFn l12) :: q0)) 1000 60 9 m52.args m52.h) m52.v m52.h' = true := by kernel_rfl
theorem m52_ok {σ : Nat → Int} {W0 : World} (hL : L0 W0) : MemoOk Tryz.prog 26623 σ W0 9 m52 := memo_ok fit (Known2.nil σ) (FnsOk.cons (frame_fn_ok (l12_ok hL)) ((q0_ok hL))) m52_run
noncomputable def h70 : H := hUpd h35 1043 [] [(958, .cells 3 (rp 16 ([bF, I 0, bF]) ([])) false),
  (1006, .cells 3 (rp 6 ([bF, I 0, bF]) ([])) false),
  (982, .cells 1 ([[.snil]]) false),
  (998, .cells 1 ([[.slice 997 0 12 12 3 true]]) false),
  (966, .cells 2 ([[.ptr 961 0, .ptr 965 0]]) false),
  (1002, .cells 1 ([[.slice 1001 0 8 8 3 true]]) false),
  (970, .cells 1 ([[.slice 969 0 8 8 3 true]]) false),
  (1010, .cells 1 ([[.snil]]) false),
  (994, .cells 1 ([[.snil]]) false),
  (962, .cells 3 (rp 24 ([bF, I 0, bF]) ([])) false),
  (988, .cells 1 ([[.snil]]) false),
  (1004, .map [] 0),
  (972, .cells 3 ([[.ptr 970 0, .slice 971 0 8 8 107 true, .slice 996 0 8 8 1 false]]) false),
  (996, .cells 1 ([[.ptr 973 0], [.ptr 976 0], [.ptr 979 0], [.ptr 982 0], [.ptr 985 0], [.ptr 988 0], [.ptr 991 0], [.ptr 994 0]]) false),
  (964, .cells 32 (rp 24 (rp 32 (U 0) ([])) ([])) false),
  (1000, .cells 2 ([[.ptr 998 0, .slice 999 0 12 12 2 true]]) false),
  (968, .cells 3 ([[.ptr 966 0, I 16, .ptr 967 0]]) false),
  (1008, .cells 31 (rp 6 ((bF) :: rp 4 (I 0) ((U 0) :: rp 4 (I 0) ((U 0) :: rp 4 (I 0) ((U 0) :: rp 4 (I 0) ((U 0) :: rp 4 (I 0) ((U 0) :: rp 4 (I 0) ([U 0]))))))) ([])) false),
  (976, .cells 1 ([[.snil]]) false),
  (960, .cells 80 (rp 16 (rp 4 (I 0) ((U 0) :: rp 4 (I 0) ((U 0) :: rp 4 (I 0) ((U 0) :: rp 4 (I 0) ((U 0) :: rp 4 (I 0) ((U 0) :: rp 4 (I 0) ((U 0) :: rp 4 (I 0) ((U 0) :: rp 4 (I 0) ((U 0) :: rp 4 (I 0) ((U 0) :: rp 4 (I 0) ((U 0) :: rp 4 (I 0) ((U 0) :: rp 4 (I 0) ((U 0) :: rp 4 (I 0) ((U 0) :: rp 4 (I 0) ((U 0) :: rp 4 (I 0) ((U 0) :: rp 4 (I 0) ([U 0]))))))))))))))))) ([])) false),
  (1005, .cells 5 ([[.ptr 1002 0, .slice 1003 0 8 8 3 true, .map 1004, .ptr 968 0, .ptr 972 0]]) false),
  (973, .cells 1 ([[.snil]]) false),
  (997, .cells 3 ([bT, I 0, bF] :: rp 11 ([bF, I 0, bF]) ([])) false),
  (965, .cells 2 ([[.ptr 963 0, .slice 964 0 24 24 32 true]]) false),
  (985, .cells 1 ([[.snil]]) false),
  (1001, .cells 3 ([bT, I 0, bF] :: rp 7 ([bF, I 0, bF]) ([])) false),
  (969, .cells 3 (rp 8 ([bF, I 0, bF]) ([])) false),
  (1009, .cells 2 ([[.ptr 1007 0, .slice 1008 0 6 6 31 true]]) false),
  (961, .cells 2 ([[.ptr 959 0, .slice 960 0 16 16 80 true]]) false),
  (1003, .cells 3 ([IZ (-1), I 60, I 0] :: rp 7 ([I 0, I 0, I 0]) ([])) false),
  (971, .cells 107 (rp 8 (rp 9 (U 0) (rp 6 (I 0) ((U 0) :: rp 4 (I 0) ((U 0) :: rp 4 (I 0) ((U 0) :: rp 4 (I 0) ((U 0) :: rp 4 (I 0) ((U 0) :: rp 4 (I 0) ((U 0) :: rp 4 (I 0) ((U 0) :: rp 4 (I 0) ((U 0) :: rp 4 (I 0) ((U 0) :: rp 4 (I 0) ((U 0) :: rp 4 (I 0) ((U 0) :: rp 4 (I 0) ((U 0) :: rp 4 (I 0) ((U 0) :: rp 4 (I 0) ((U 0) :: rp 4 (I 0) ((U 0) :: rp 4 (I 0) ((U 0) :: rp 4 (I 0) ((U 0) :: rp 4 (I 0) ((U 0) :: rp 4 (I 0) ([U 0, I 0]))))))))))))))))))))) ([])) false),
  (1011, .cells 9 ([[.ptr 968 0, .ptr 972 0, .ptr 1000 0, .ptr 1005 0, .ptr 1009 0, .ptr 1010 0, .snil, .snil, I 0]]) false),
  (979, .cells 1 ([[.snil]]) false),
  (963, .cells 1 ([[.slice 962 0 24 24 3 true]]) false),
  (999, .cells 2 ([IZ (-1), I 2147483647] :: rp 11 ([I 0, I 0]) ([])) false),
  (967, .cells 3 ([[I 16, .snil, I 0]]) false),
  (1007, .cells 1 ([[.slice 1006 0 6 6 3 true]]) false),
  (991, .cells 1 ([[.snil]]) false),
  (959, .cells 1 ([[.slice 958 0 16 16 3 true]]) false)] []
noncomputable def h71 : H := hUpc h70 1518 [] [(1004, .map [(.agg [I 3, I 0], .agg [I 0, I 0], 0), (.agg [I 3, I 1], .agg [I 0, I 0], 1), (.agg [I 2, I 0], .agg [I 0, I 0], 2), (.agg [I 4, I 0], .agg [I 0, I 0], 3)] 4)] [(958, 0, [bT, I 0, bF]),
  (962, 0, [bT, I 0, bF]),
  (962, 1, [bT, I 0, bF]),
  (964, 0, (U 142540800) :: (U 141295616) :: (U 16777217) :: (U 17826292) :: (U 185118720) :: (U 16777222) :: (U 17825794) :: (U 184987648) :: (U 186101760) :: rp 23 (U 0) ([])),
  (997, 1, [bT, I 0, bF]),
  (969, 0, [bT, I 0, bF]),
  (1003, 0, [IZ (-1), I 60, I 4]),
  (999, 1, [I 0, I 500])] [(960, 0, 0, I 3), (960, 0, 5, I 3), (960, 0, 6, I 1), (971, 0, 9, I 1), (971, 0, 11, I 8), (971, 0, 16, I 7), (971, 0, 17, I 1), (971, 0, 21, I 11), (971, 0, 26, I 12), (971, 0, 31, I 13), (971, 0, 36, I 14), (971, 0, 91, I 2), (971, 0, 95, U 1), (971, 0, 96, I 7), (971, 0, 97, I 1)]
noncomputable def m53 : Memo := ⟨[.ptr 1011 0, .agg [.slice 755 0 9 9 1 false, I 500, .snil, bF]], h70, .tuple [I 0, .inil], h71⟩
theorem m53_run : ranTo (evCall (cxX Tryz.prog bad [] [] ((44, pureFn l2) :: q0)) 1000 60 88 m53.args m53.h) m53.v m53.h' = true := by kernel_rfl
theorem m53_ok {σ : Nat → Int} {W0 : World} (hL : L0 W0) : MemoOk Tryz.prog 26623 σ W0 88 m53 := memo_ok fit (Known2.nil σ) (FnsOk.cons (pure_fn_ok (l2_ok hL)) ((q0_ok hL))) m53_run
noncomputable def h72 : H := hUpd h71 1521 [755] [(952, .cells 1 ([[U 201326592], [U 3], [U 22020173], [U 218103808]]) false)] []
noncomputable def h73 : H := hUpc h72 1996 [] [(1004, .map [(.agg [I 3, I 0], .agg [I 0, I 0], 0), (.agg [I 3, I 1], .agg [I 0, I 0], 1), (.agg [I 2, I 0], .agg [I 0, I 0], 2), (.agg [I 4, I 0], .agg [I 0, I 0], 3), (.agg [I 3, I 2], .agg [I 0, I 0], 4), (.agg [I 3, I 3], .agg [I 0, I 0], 5), (.agg [I 2, I 1], .agg [I 0, I 0], 6), (.agg [I 4, I 1], .agg [I 0, I 0], 7)] 8)] [(958, 1, [bT, I 0, bF]),
  (962, 2, [bT, I 0, bF]),
  (962, 3, [bT, I 0, bF]),
  (997, 2, [bT, I 0, bF]),
  (969, 1, [bT, I 0, bF]),
  (1003, 0, [IZ (-1), I 60, I 8]),
  (999, 2, [I 0, I 100])] [(964, 2, 0, U 201326592), (964, 2, 1, U 3), (964, 2, 2, U 22020173), (964, 2, 3, U 218103808), (960, 1, 0, I 3), (960, 1, 1, I 2), (960, 1, 5, I 3), (960, 1, 6, I 3), (971, 1, 9, I 1), (971, 1, 11, I 8), (971, 1, 16, I 7), (971, 1, 17, I 2), (971, 1, 21, I 11), (971, 1, 26, I 12), (971, 1, 31, I 13), (971, 1, 36, I 14), (971, 1, 91, I 2), (971, 1, 92, I 1), (971, 1, 95, U 1), (971, 1, 96, I 7), (971, 1, 97, I 2)]
noncomputable def m54 : Memo := ⟨[.ptr 1011 0, .agg [.slice 952 0 4 4 1 false, I 100, .snil, bT]], h72, .tuple [I 1, .inil], h73⟩
theorem m54_run : ranTo (evCall (cxX Tryz.prog bad [] [] ((44, pureFn l3) :: q0)) 1000 60 88 m54.args m54.h) m54.v m54.h' = true := by kernel_rfl
theorem m54_ok {σ : Nat → Int} {W0 : World} (hL : L0 W0) : MemoOk Tryz.prog 26623 σ W0 88 m54 := memo_ok fit (Known2.nil σ) (FnsOk.cons (pure_fn_ok (l3_ok hL)) ((q0_ok hL))) m54_run
noncomputable def h74 : H := hUpd h35 955 [1002, 1004] [(954, .cells 4 ([[.slice 755 0 9 9 1 false, I 500, .snil, bF], [.slice 952 0 4 4 1 false, I 100, .snil, bT]]) false),
  (952, .cells 1 ([[U 201326592], [U 3], [U 22020173], [U 218103808]]) false)] []
noncomputable def h75 : H := hUpc h73 2221 [] [(954, .cells 4 ([[.slice 755 0 9 9 1 false, I 500, .snil, bF], [.slice 952 0 4 4 1 false, I 100, .snil, bT]]) false),
  (2220, .cells 1 ([[I 1]]) false),
  (755, .cells 1 ([[U 142540800], [U 141295616], [U 16777217], [U 17826292], [U 185118720], [U 16777222], [U 17825794], [U 184987648], [U 186101760]]) false)] [(1010, 0, [.slice 2220 0 1 1 1 false])] [(971, 1, 9, I 3)]
noncomputable def m55 : Memo := ⟨[.slice 954 0 2 2 4 true], h74, .ptr 1011 0, h75⟩
theorem m55_run : ranTo (evCall (cxX Tryz.prog bad [] [] ((44, pureFn l4) :: (88, frameFn [m53, m54]) :: q0)) 1000 60 14 m55.args m55.h) m55.v m55.h' = true := by kernel_rfl
theorem m55_ok {σ : Nat → Int} {W0 : World} (hL : L0 W0) : MemoOk Tryz.prog 26623 σ W0 14 m55 := memo_ok fit (Known2.nil σ) (FnsOk.cons (pure_fn_ok (l4_ok hL)) (FnsOk.cons (frame_fn_ok (all_cons (m53_ok hL) (all_cons (m54_ok hL) (all_nil)))) ((q0_ok hL)))) m55_run
noncomputable def h76 : H := hUpc h75 2329 [954, 952, 755] [] [] [(971, 0, 51, I 7), (971, 0, 52, I 2), (971, 1, 101, I 5), (971, 1, 105, U 9)]
noncomputable def h77 : H := hUpc h76 2634 [] [(2548, .cells 10 ([[I 2, I 1, I 0, I 0, U 1, U 0, .slice 2515 0 1 1 1 false, I 2, I 0, bF]]) false),
  (2515, .cells 1 ([[I 1]]) false)] [(999, 0, [IZ (-1), I 2147483646]),
  (999, 2, [I 0, I 99]),
  (967, 0, [I 16, .slice 2548 0 1 1 10 false, I 0])] [(971, 1, 8, U 1), (1011, 0, 8, I 1)]
noncomputable def m56 : Memo := ⟨[.ptr 1011 0, I 0], h76, .agg [I 1, I 3, I 0, U 0, I 0, U 0, IZ (-1), I 0], h77⟩
theorem m56_run : ranTo (evCall (cxX Tryz.prog bad [] [] ((44, pureFn l5) :: q0)) 1000 60 19 m56.args m56.h) m56.v m56.h' = true := by kernel_rfl
theorem m56_ok {σ : Nat → Int} {W0 : World} (hL : L0 W0) : MemoOk Tryz.prog 26623 σ W0 19 m56 := memo_ok fit (Known2.nil σ) (FnsOk.cons (pure_fn_ok (l5_ok hL)) ((q0_ok hL))) m56_run
noncomputable def h78 : H := hUpd h77 2635 [] [] []
noncomputable def h79 : H := hUpc h77 3017 [] [] [(2220, 0, [I 0]),
  (999, 0, [IZ (-1), I 2147483645]),
  (999, 2, [I 0, I 98]),
  (967, 0, [I 16, .slice 2548 0 1 1 10 false, I 1])] [(971, 0, 0, U 1001), (971, 0, 1, U 1), (971, 0, 2, U 1), (971, 0, 3, U 1), (971, 0, 4, U 9), (971, 0, 9, I 3), (971, 0, 71, I 4), (971, 0, 72, I 1), (971, 0, 86, I 6), (971, 0, 87, I 1), (971, 0, 90, U 1), (971, 1, 9, I 2), (971, 1, 10, I 1), (971, 1, 106, I 1), (1011, 0, 8, I 2)]
noncomputable def m57 : Memo := ⟨[.ptr 1011 0, I 0], h78, .agg [I 1, I 5, I 0, U 0, I 0, U 0, I 0, I 1], h79⟩
theorem m57_run : ranTo (evCall (cxX Tryz.prog bad [] [] ((44, pureFn l6) :: q0)) 1000 60 19 m57.args m57.h) m57.v m57.h' = true := by kernel_rfl
theorem m57_ok {σ : Nat → Int} {W0 : World} (hL : L0 W0) : MemoOk Tryz.prog 26623 σ W0 19 m57 := memo_ok fit (Known2.nil σ) (FnsOk.cons (pure_fn_ok (l6_ok hL)) ((q0_ok hL))) m57_run
noncomputable def h80 : H := hUpd h79 3018 [] [] []
noncomputable def h81 : H := hUpc h79 3340 [2548] [(3240, .cells 10 ([[I 2, I 1, I 0, I 0, U 1, U 0, .slice 2515 0 1 1 1 false, I 2, I 0, bF], [I 2, I 0, I 0, I 0, U 1, U 0, .slice 3207 0 1 1 1 false, I 0, I 0, bF]]) false),
  (3207, .cells 1 ([[I 0]]) false)] [(999, 0, [IZ (-1), I 2147483644]),
  (999, 1, [I 0, I 499]),
  (967, 0, [I 16, .slice 3240 0 2 2 10 false, I 1])] [(971, 0, 8, U 1), (971, 0, 46, I 6), (971, 0, 47, I 1), (971, 0, 50, U 1), (1011, 0, 8, I 3)]
noncomputable def m58 : Memo := ⟨[.ptr 1011 0, I 0], h80, .agg [I 0, I 1, I 0, U 0, I 0, U 0, IZ (-1), I 0], h81⟩
theorem m58_run : ranTo (evCall (cxX Tryz.prog bad [] [] ((44, pureFn l7) :: q0)) 1000 60 19 m58.args m58.h) m58.v m58.h' = true := by kernel_rfl
theorem m58_ok {σ : Nat → Int} {W0 : World} (hL : L0 W0) : MemoOk Tryz.prog 26623 σ W0 19 m58 := memo_ok fit (Known2.nil σ) (FnsOk.cons (pure_fn_ok (l7_ok hL)) ((q0_ok hL))) m58_run
noncomputable def h82 : H := hUpd h81 3341 [] [] []
noncomputable def h83 : H := hUpc h81 3529 [] [] [(999, 0, [IZ (-1), I 2147483643]),
  (999, 1, [I 0, I 498]),
  (967, 0, [I 16, .slice 3240 0 2 2 10 false, I 2])] [(971, 0, 8, U 2), (971, 0, 41, I 4), (971, 0, 42, I 1), (1011, 0, 8, I 4)]
noncomputable def m59 : Memo := ⟨[.ptr 1011 0, I 0], h82, .agg [I 0, I 1, I 0, U 0, I 0, U 0, IZ (-1), I 0], h83⟩
theorem m59_run : ranTo (evCall (cxX Tryz.prog bad [] [] ((44, pureFn l8) :: q0)) 1000 60 19 m59.args m59.h) m59.v m59.h' = true := by kernel_rfl
theorem m59_ok {σ : Nat → Int} {W0 : World} (hL : L0 W0) : MemoOk Tryz.prog 26623 σ W0 19 m59 := memo_ok fit (Known2.nil σ) (FnsOk.cons (pure_fn_ok (l8_ok hL)) ((q0_ok hL))) m59_run
noncomputable def h84 : H := hUpd h83 3530 [] [] []
noncomputable def h85 : H := hUpc h83 3713 [] [] [(999, 0, [IZ (-1), I 2147483642]),
  (999, 1, [I 0, I 497]),
  (967, 0, [I 16, .slice 3240 0 2 2 10 false, I 3])] [(971, 0, 0, U 1), (971, 0, 8, U 3), (1011, 0, 8, I 5)]
noncomputable def m60 : Memo := ⟨[.ptr 1011 0, I 0], h84, .agg [I 0, I 1, I 0, U 0, I 0, U 0, IZ (-1), I 0], h85⟩
theorem m60_run : ranTo (evCall (cxX Tryz.prog bad [] [] ((44, pureFn l8) :: q0)) 1000 60 19 m60.args m60.h) m60.v m60.h' = true := by kernel_rfl
theorem m60_ok {σ : Nat → Int} {W0 : World} (hL : L0 W0) : MemoOk Tryz.prog 26623 σ W0 19 m60 := memo_ok fit (Known2.nil σ) (FnsOk.cons (pure_fn_ok (l8_ok hL)) ((q0_ok hL))) m60_run
noncomputable def h86 : H := hUpd h85 3714 [] [] []
noncomputable def h87 : H := hUpc h85 3897 [] [] [(999, 0, [IZ (-1), I 2147483641]),
  (999, 1, [I 0, I 496]),
  (967, 0, [I 16, .slice 3240 0 2 2 10 false, I 4])] [(971, 0, 1, U 500), (971, 0, 8, U 4), (1011, 0, 8, I 6)]
noncomputable def m61 : Memo := ⟨[.ptr 1011 0, I 0], h86, .agg [I 0, I 1, I 0, U 0, I 0, U 0, IZ (-1), I 0], h87⟩
theorem m61_run : ranTo (evCall (cxX Tryz.prog bad [] [] ((44, pureFn l8) :: q0)) 1000 60 19 m61.args m61.h) m61.v m61.h' = true := by kernel_rfl
theorem m61_ok {σ : Nat → Int} {W0 : World} (hL : L0 W0) : MemoOk Tryz.prog 26623 σ W0 19 m61 := memo_ok fit (Known2.nil σ) (FnsOk.cons (pure_fn_ok (l8_ok hL)) ((q0_ok hL))) m61_run
noncomputable def h88 : H := hUpd h87 3898 [] [] []
noncomputable def h89 : H := hUpc h83 4439 [] [] [(999, 0, [IZ (-1), I 2147483640]),
  (999, 1, [I 0, I 495]),
  (999, 2, [I 0, I 598]),
  (967, 0, [I 16, .slice 3240 0 2 2 10 false, I 5])] [(971, 0, 0, U 0), (971, 0, 1, U 0), (971, 0, 2, U 0), (971, 0, 3, U 0), (971, 0, 4, U 0), (971, 0, 8, U 5), (971, 0, 71, I 0), (971, 0, 72, I 0), (971, 0, 86, I 0), (971, 0, 87, I 0), (971, 0, 90, U 0), (1011, 0, 8, I 7)]
noncomputable def m62 : Memo := ⟨[.ptr 1011 0, I 0], h88, .agg [I 0, I 2, I 0, U 1, I 7, U 0, IZ (-1), I 0], h89⟩
theorem m62_run : ranTo (evCall (cxX Tryz.prog bad [] [] ((44, pureFn l8) :: q0)) 1000 60 19 m62.args m62.h) m62.v m62.h' = true := by kernel_rfl
theorem m62_ok {σ : Nat → Int} {W0 : World} (hL : L0 W0) : MemoOk Tryz.prog 26623 σ W0 19 m62 := memo_ok fit (Known2.nil σ) (FnsOk.cons (pure_fn_ok (l8_ok hL)) ((q0_ok hL))) m62_run
noncomputable def h90 : H := hUpd h89 4440 [] [] []
noncomputable def h91 : H := hUpc h89 4623 [] [] [(999, 0, [IZ (-1), I 2147483639]),
  (999, 1, [I 0, I 494]),
  (967, 0, [I 16, .slice 3240 0 2 2 10 false, I 6])] [(971, 0, 0, U 6), (971, 0, 8, U 6), (1011, 0, 8, I 8)]
noncomputable def m63 : Memo := ⟨[.ptr 1011 0, I 0], h90, .agg [I 0, I 1, I 0, U 0, I 0, U 0, IZ (-1), I 0], h91⟩
theorem m63_run : ranTo (evCall (cxX Tryz.prog bad [] [] ((44, pureFn l8) :: q0)) 1000 60 19 m63.args m63.h) m63.v m63.h' = true := by kernel_rfl
theorem m63_ok {σ : Nat → Int} {W0 : World} (hL : L0 W0) : MemoOk Tryz.prog 26623 σ W0 19 m63 := memo_ok fit (Known2.nil σ) (FnsOk.cons (pure_fn_ok (l8_ok hL)) ((q0_ok hL))) m63_run
noncomputable def h92 : H := hUpd h91 4624 [] [] []
noncomputable def h93 : H := hUpc h91 4807 [] [] [(999, 0, [IZ (-1), I 2147483638]),
  (999, 1, [I 0, I 493]),
  (967, 0, [I 16, .slice 3240 0 2 2 10 false, I 7])] [(971, 0, 1, U 2), (971, 0, 8, U 7), (1011, 0, 8, I 9)]
noncomputable def m64 : Memo := ⟨[.ptr 1011 0, I 0], h92, .agg [I 0, I 1, I 0, U 0, I 0, U 0, IZ (-1), I 0], h93⟩
theorem m64_run : ranTo (evCall (cxX Tryz.prog bad [] [] ((44, pureFn l8) :: q0)) 1000 60 19 m64.args m64.h) m64.v m64.h' = true := by kernel_rfl
theorem m64_ok {σ : Nat → Int} {W0 : World} (hL : L0 W0) : MemoOk Tryz.prog 26623 σ W0 19 m64 := memo_ok fit (Known2.nil σ) (FnsOk.cons (pure_fn_ok (l8_ok hL)) ((q0_ok hL))) m64_run
noncomputable def h94 : H := hUpd h93 4808 [] [] []
noncomputable def h95 : H := hUpc h89 5351 [] [] [(999, 0, [IZ (-1), I 2147483637]),
  (999, 1, [I 0, I 492]),
  (967, 0, [I 16, .slice 3240 0 2 2 10 false, I 8])] [(971, 0, 8, U 8), (971, 1, 8, U 2), (1011, 0, 8, I 10)]
noncomputable def m65 : Memo := ⟨[.ptr 1011 0, I 0], h94, .agg [I 0, I 2, I 0, U 6, I 4, U 0, IZ (-1), I 0], h95⟩
theorem m65_run : ranTo (evCall (cxX Tryz.prog bad [] [] ((44, pureFn l9) :: q0)) 1000 60 19 m65.args m65.h) m65.v m65.h' = true := by kernel_rfl
theorem m65_ok {σ : Nat → Int} {W0 : World} (hL : L0 W0) : MemoOk Tryz.prog 26623 σ W0 19 m65 := memo_ok fit (Known2.nil σ) (FnsOk.cons (pure_fn_ok (l9_ok hL)) ((q0_ok hL))) m65_run
noncomputable def h96 : H := hUpd h95 5352 [] [] []
noncomputable def h97 : H := hUpc h95 5856 [] [] [(2220, 0, [I 1]),
  (999, 0, [IZ (-1), I 2147483636]),
  (999, 1, [I 0, I 491]),
  (967, 0, [I 16, .slice 3240 0 2 2 10 false, I 9])] [(971, 0, 8, U 9), (971, 0, 9, I 1), (971, 1, 9, I 3), (1011, 0, 8, I 11)]
noncomputable def m66 : Memo := ⟨[.ptr 1011 0, I 0], h96, .agg [I 0, I 2, I 1, U 0, I 6, U 0, I 1, I 0], h97⟩
theorem m66_run : ranTo (evCall (cxX Tryz.prog bad [] [] ((44, pureFn l9) :: q0)) 1000 60 19 m66.args m66.h) m66.v m66.h' = true := by kernel_rfl
theorem m66_ok {σ : Nat → Int} {W0 : World} (hL : L0 W0) : MemoOk Tryz.prog 26623 σ W0 19 m66 := memo_ok fit (Known2.nil σ) (FnsOk.cons (pure_fn_ok (l9_ok hL)) ((q0_ok hL))) m66_run
noncomputable def h98 : H := hUpd h97 5857 [] [] []
noncomputable def h99 : H := hUpc h97 6037 [] [] [(999, 0, [IZ (-1), I 2147483635]),
  (999, 2, [I 0, I 597]),
  (967, 0, [I 16, .slice 3240 0 2 2 10 false, I 10])] [(971, 1, 5, U 77), (971, 1, 8, U 3), (1011, 0, 8, I 12)]
noncomputable def m67 : Memo := ⟨[.ptr 1011 0, I 0], h98, .agg [I 1, I 1, I 0, U 0, I 0, U 0, IZ (-1), I 0], h99⟩
theorem m67_run : ranTo (evCall (cxX Tryz.prog bad [] [] ((44, pureFn l5) :: q0)) 1000 60 19 m67.args m67.h) m67.v m67.h' = true := by kernel_rfl
theorem m67_ok {σ : Nat → Int} {W0 : World} (hL : L0 W0) : MemoOk Tryz.prog 26623 σ W0 19 m67 := memo_ok fit (Known2.nil σ) (FnsOk.cons (pure_fn_ok (l5_ok hL)) ((q0_ok hL))) m67_run
noncomputable def h100 : H := hUpd h99 6038 [] [] []
noncomputable def h101 : H := hUpc h99 6208 [] [] [(1010, 0, [.slice 2220 0 0 1 1 false]),
  (2220, 0, [I 0]),
  (999, 0, [IZ (-1), I 2147483634]),
  (999, 2, [I 0, I 596]),
  (967, 0, [I 16, .slice 3240 0 2 2 10 false, I 11])] [(971, 1, 8, U 4), (971, 1, 9, I 4), (1011, 0, 8, I 13)]
noncomputable def m68 : Memo := ⟨[.ptr 1011 0, I 0], h100, .agg [I 1, I 4, I 0, U 0, I 0, U 0, IZ (-1), I 0], h101⟩
theorem m68_run : ranTo (evCall (cxX Tryz.prog bad [] [] ((44, pureFn l5) :: q0)) 1000 60 19 m68.args m68.h) m68.v m68.h' = true := by kernel_rfl
theorem m68_ok {σ : Nat → Int} {W0 : World} (hL : L0 W0) : MemoOk Tryz.prog 26623 σ W0 19 m68 := memo_ok fit (Known2.nil σ) (FnsOk.cons (pure_fn_ok (l5_ok hL)) ((q0_ok hL))) m68_run
noncomputable def l13 : List (Memo) := m68 :: m67 :: m66 :: m65 :: m64 :: m63 :: m62 :: m61 :: m60 :: m59 :: m58 :: m57 :: m56 :: []
theorem l13_ok {σ : Nat → Int} {W0 : World} (hL : L0 W0) : ∀ x ∈ l13, MemoOk Tryz.prog 26623 σ W0 19 x := all_cons (m68_ok hL) (all_cons (m67_ok hL) (all_cons (m66_ok hL) (all_cons (m65_ok hL) (all_cons (m64_ok hL) (all_cons (m63_ok hL) (all_cons (m62_ok hL) (all_cons (m61_ok hL) (all_cons (m60_ok hL) (all_cons (m59_ok hL) (all_cons (m58_ok hL) (all_cons (m57_ok hL) (all_cons (m56_ok hL) (all_nil)))))))))))))
noncomputable def q2 : Fns := [(7, pureFn [p0]), (14, frameFn [m55]), (295, isFn 453), (122, atoiFullFn 384), (123, itoaFullFn), (195, joinFn), (307, countFn), (352, indexFn), (308, cutOf Tryz.prog 26623 bad [(307, countFn), (352, indexFn)] 1000 20 308)]
theorem q2_ok {σ : Nat → Int} {W0 : World} (hL : L0 W0) : FnsOk Tryz.prog 26623 σ W0 q2 := FnsOk.cons (pure_fn_ok (all_cons (p0_ok hL) (all_nil))) (FnsOk.cons (frame_fn_ok (all_cons (m55_ok hL) (all_nil))) (FnsOk.cons (ext_is hL) (FnsOk.cons (ext_atoi hL) (FnsOk.cons (ext_itoa hL) (FnsOk.cons (ext_join hL) (FnsOk.cons (ext_count hL) (FnsOk.cons (ext_index hL) (FnsOk.cons (ext_cut308 hL) (FnsOk.nil)))))))))
theorem run1 : isTrue (evCall (cxX Tryz.prog bad [] [] ((8, numExtE [(0, 9, .lit 0)]) :: (19, frameFn l13) :: (44, pureFn l10) :: (9, frameFn [m10, m52]) :: q2)) 1000 60 4 [.int .i64 (.var 0), bT] (sentH 453 20 errTab)) = true := by kernel_rfl
theorem case1 : CaseS [] [] [(0, 9, .lit 0)] [.int .i64 (.var 0), bT] := caseS (fun hL hk hT => FnsOk.cons (hT.ok fit) (FnsOk.cons (frame_fn_ok (l13_ok hL)) (FnsOk.cons (pure_fn_ok (l10_ok hL)) (FnsOk.cons (frame_fn_ok (all_cons (m10_ok hL) (all_cons (m52_ok hL) (all_nil)))) ((q2_ok hL)))))) run1
noncomputable def m69 : Memo := ⟨[bT, I 2, .snil, .slice 757 0 4 4 1 true], h29, .agg [.slice 1002 0 4 4 1 false, I 2, .snil, bT], h30⟩
theorem m69_run : ranTo (evCall (cxX Tryz.prog bad [] [] ((84, frameFn l1) :: q0)) 1000 60 9 m69.args m69.h) m69.v m69.h' = true := by kernel_rfl
theorem m69_ok {σ : Nat → Int} {W0 : World} (hL : L0 W0) : MemoOk Tryz.prog 26623 σ W0 9 m69 := memo_ok fit (Known2.nil σ) (FnsOk.cons (frame_fn_ok (l1_ok hL)) ((q0_ok hL))) m69_run
noncomputable def h102 : H := hUpc h62 2046 [2270, 3192, 2565, 3225] [(1002, .cells 1 ([[U 201326592], [U 67108864], [U 22020173], [U 218103808]]) false)] [(1060, 0, [.snil]),
  (1017, 0, [I 16, .snil, I 0]),
  (1049, 0, [IZ (-1), I 2147483647]),
  (1049, 1, [I 0, I 500]),
  (1049, 2, [I 0, I 2])] [(1021, 0, 8, U 0), (1021, 0, 41, I 0), (1021, 0, 42, I 0), (1021, 0, 46, I 0), (1021, 0, 47, I 0), (1021, 0, 50, U 0), (1021, 0, 51, I 0), (1021, 0, 52, I 0), (1021, 1, 5, U 0), (1021, 1, 8, U 0), (1021, 1, 9, I 1), (1021, 1, 10, I 0), (1021, 1, 101, I 0), (1021, 1, 105, U 0), (1021, 1, 106, I 0), (1061, 0, 8, I 0)]
noncomputable def m70 : Memo := ⟨[.ptr 1061 0, .agg [.slice 1002 0 4 4 1 false, I 2, .snil, bT]], h33, .tuple [I 1, .inil], h102⟩
theorem m70_run : ranTo (evCall (cxX Tryz.prog bad [] [] ((44, pureFn l3) :: q0)) 1000 60 88 m70.args m70.h) m70.v m70.h' = true := by kernel_rfl
theorem m70_ok {σ : Nat → Int} {W0 : World} (hL : L0 W0) : MemoOk Tryz.prog 26623 σ W0 88 m70 := memo_ok fit (Known2.nil σ) (FnsOk.cons (pure_fn_ok (l3_ok hL)) ((q0_ok hL))) m70_run
noncomputable def h103 : H := hUpd h74 1005 [954, 952] [(1002, .cells 1 ([[U 201326592], [U 67108864], [U 22020173], [U 218103808]]) false),
  (1004, .cells 4 ([[.slice 755 0 9 9 1 false, I 500, .snil, bF], [.slice 1002 0 4 4 1 false, I 2, .snil, bT]]) false)] []
noncomputable def h104 : H := hUpc h102 2271 [] [(2270, .cells 1 ([[I 1]]) false),
  (1004, .cells 4 ([[.slice 755 0 9 9 1 false, I 500, .snil, bF], [.slice 1002 0 4 4 1 false, I 2, .snil, bT]]) false),
  (755, .cells 1 ([[U 142540800], [U 141295616], [U 16777217], [U 17826292], [U 185118720], [U 16777222], [U 17825794], [U 184987648], [U 186101760]]) false)] [(1060, 0, [.slice 2270 0 1 1 1 false])] [(1021, 1, 9, I 3)]
noncomputable def m71 : Memo := ⟨[.slice 1004 0 2 2 4 true], h103, .ptr 1061 0, h104⟩
theorem m71_run : ranTo (evCall (cxX Tryz.prog bad [] [] ((44, pureFn l4) :: (88, frameFn [m26, m70]) :: q0)) 1000 60 14 m71.args m71.h) m71.v m71.h' = true := by kernel_rfl
theorem m71_ok {σ : Nat → Int} {W0 : World} (hL : L0 W0) : MemoOk Tryz.prog 26623 σ W0 14 m71 := memo_ok fit (Known2.nil σ) (FnsOk.cons (pure_fn_ok (l4_ok hL)) (FnsOk.cons (frame_fn_ok (all_cons (m26_ok hL) (all_cons (m70_ok hL) (all_nil)))) ((q0_ok hL)))) m71_run
noncomputable def h105 : H := hUpc h104 2379 [1002, 1004, 755] [] [] [(1021, 0, 51, I 7), (1021, 0, 52, I 2), (1021, 1, 101, I 5), (1021, 1, 105, U 9)]
noncomputable def h106 : H := hUpc h105 2684 [] [(2598, .cells 10 ([[I 2, I 1, I 0, I 0, U 1, U 0, .slice 2565 0 1 1 1 false, I 2, I 0, bF]]) false),
  (2565, .cells 1 ([[I 1]]) false)] [(1017, 0, [I 16, .slice 2598 0 1 1 10 false, I 0]),
  (1049, 0, [IZ (-1), I 2147483646]),
  (1049, 2, [I 0, I 1])] [(1021, 1, 8, U 1), (1061, 0, 8, I 1)]
noncomputable def m72 : Memo := ⟨[.ptr 1061 0, I 0], h105, .agg [I 1, I 3, I 0, U 0, I 0, U 0, IZ (-1), I 0], h106⟩
theorem m72_run : ranTo (evCall (cxX Tryz.prog bad [] [] ((44, pureFn l5) :: q0)) 1000 60 19 m72.args m72.h) m72.v m72.h' = true := by kernel_rfl
theorem m72_ok {σ : Nat → Int} {W0 : World} (hL : L0 W0) : MemoOk Tryz.prog 26623 σ W0 19 m72 := memo_ok fit (Known2.nil σ) (FnsOk.cons (pure_fn_ok (l5_ok hL)) ((q0_ok hL))) m72_run
noncomputable def h107 : H := hUpd h106 2685 [] [] []
noncomputable def h108 : H := hUpc h106 2856 [] [] [(1017, 0, [I 16, .slice 2598 0 1 1 10 false, I 1]),
  (1049, 0, [IZ (-1), I 2147483645]),
  (1049, 2, [I 0, I 0])] [(1021, 1, 8, U 0), (1061, 0, 8, I 2)]
noncomputable def m73 : Memo := ⟨[.ptr 1061 0, I 0], h107, .agg [I 1, I 1, I 0, U 0, I 0, U 0, IZ (-1), I 0], h108⟩
theorem m73_run : ranTo (evCall (cxX Tryz.prog bad [] [] ((44, pureFn l5) :: q0)) 1000 60 19 m73.args m73.h) m73.v m73.h' = true := by kernel_rfl
theorem m73_ok {σ : Nat → Int} {W0 : World} (hL : L0 W0) : MemoOk Tryz.prog 26623 σ W0 19 m73 := memo_ok fit (Known2.nil σ) (FnsOk.cons (pure_fn_ok (l5_ok hL)) ((q0_ok hL))) m73_run
noncomputable def h109 : H := hUpd h108 2857 [] [] []
noncomputable def h110 : H := hUpc h108 3174 [] [] [(2270, 0, [I 0])] [(1021, 0, 0, U 1006), (1021, 0, 3, U 1), (1021, 0, 4, U 9), (1021, 0, 9, I 3), (1021, 0, 71, I 4), (1021, 0, 72, I 1), (1021, 0, 86, I 6), (1021, 0, 87, I 1), (1021, 0, 90, U 1), (1021, 1, 9, I 2), (1021, 1, 10, I 6), (1021, 1, 106, I 1), (1061, 0, 8, I 3)]
noncomputable def m74 : Memo := ⟨[.ptr 1061 0, I 0], h109, .agg [I 1, I 5, I 0, U 0, I 0, U 0, I 0, I 6], h110⟩
theorem m74_run : ranTo (evCall (cxX Tryz.prog bad [] [] ((44, pureFn l6) :: q0)) 1000 60 19 m74.args m74.h) m74.v m74.h' = true := by kernel_rfl
theorem m74_ok {σ : Nat → Int} {W0 : World} (hL : L0 W0) : MemoOk Tryz.prog 26623 σ W0 19 m74 := memo_ok fit (Known2.nil σ) (FnsOk.cons (pure_fn_ok (l6_ok hL)) ((q0_ok hL))) m74_run
noncomputable def h111 : H := hUpd h110 3175 [] [] []
noncomputable def h112 : H := hUpc h110 3497 [2598] [(3364, .cells 1 ([[I 0]]) false),
  (3397, .cells 10 ([[I 2, I 1, I 0, I 0, U 1, U 0, .slice 2565 0 1 1 1 false, I 2, I 0, bF], [I 2, I 0, I 0, I 0, U 1, U 0, .slice 3364 0 1 1 1 false, I 0, I 0, bF]]) false)] [(1017, 0, [I 16, .slice 3397 0 2 2 10 false, I 1]),
  (1049, 0, [IZ (-1), I 2147483644]),
  (1049, 1, [I 0, I 499])] [(1021, 0, 8, U 1), (1021, 0, 46, I 6), (1021, 0, 47, I 1), (1021, 0, 50, U 1), (1061, 0, 8, I 4)]
noncomputable def m75 : Memo := ⟨[.ptr 1061 0, I 0], h111, .agg [I 0, I 1, I 0, U 0, I 0, U 0, IZ (-1), I 0], h112⟩
theorem m75_run : ranTo (evCall (cxX Tryz.prog bad [] [] ((44, pureFn l7) :: q0)) 1000 60 19 m75.args m75.h) m75.v m75.h' = true := by kernel_rfl
theorem m75_ok {σ : Nat → Int} {W0 : World} (hL : L0 W0) : MemoOk Tryz.prog 26623 σ W0 19 m75 := memo_ok fit (Known2.nil σ) (FnsOk.cons (pure_fn_ok (l7_ok hL)) ((q0_ok hL))) m75_run
noncomputable def h113 : H := hUpd h112 3498 [] [] []
noncomputable def h114 : H := hUpc h112 3686 [] [] [(1017, 0, [I 16, .slice 3397 0 2 2 10 false, I 2]),
  (1049, 0, [IZ (-1), I 2147483643]),
  (1049, 1, [I 0, I 498])] [(1021, 0, 8, U 2), (1021, 0, 41, I 4), (1021, 0, 42, I 1), (1061, 0, 8, I 5)]
noncomputable def m76 : Memo := ⟨[.ptr 1061 0, I 0], h113, .agg [I 0, I 1, I 0, U 0, I 0, U 0, IZ (-1), I 0], h114⟩
theorem m76_run : ranTo (evCall (cxX Tryz.prog bad [] [] ((44, pureFn l8) :: q0)) 1000 60 19 m76.args m76.h) m76.v m76.h' = true := by kernel_rfl
theorem m76_ok {σ : Nat → Int} {W0 : World} (hL : L0 W0) : MemoOk Tryz.prog 26623 σ W0 19 m76 := memo_ok fit (Known2.nil σ) (FnsOk.cons (pure_fn_ok (l8_ok hL)) ((q0_ok hL))) m76_run
noncomputable def h115 : H := hUpd h114 3687 [] [] []
noncomputable def h116 : H := hUpc h114 3870 [] [] [(1017, 0, [I 16, .slice 3397 0 2 2 10 false, I 3]),
  (1049, 0, [IZ (-1), I 2147483642]),
  (1049, 1, [I 0, I 497])] [(1021, 0, 0, U 1), (1021, 0, 8, U 3), (1061, 0, 8, I 6)]
noncomputable def m77 : Memo := ⟨[.ptr 1061 0, I 0], h115, .agg [I 0, I 1, I 0, U 0, I 0, U 0, IZ (-1), I 0], h116⟩
theorem m77_run : ranTo (evCall (cxX Tryz.prog bad [] [] ((44, pureFn l8) :: q0)) 1000 60 19 m77.args m77.h) m77.v m77.h' = true := by kernel_rfl
theorem m77_ok {σ : Nat → Int} {W0 : World} (hL : L0 W0) : MemoOk Tryz.prog 26623 σ W0 19 m77 := memo_ok fit (Known2.nil σ) (FnsOk.cons (pure_fn_ok (l8_ok hL)) ((q0_ok hL))) m77_run
noncomputable def h117 : H := hUpd h116 3871 [] [] []
noncomputable def h118 : H := hUpc h116 4054 [] [] [(1017, 0, [I 16, .slice 3397 0 2 2 10 false, I 4]),
  (1049, 0, [IZ (-1), I 2147483641]),
  (1049, 1, [I 0, I 496])] [(1021, 0, 1, U 500), (1021, 0, 8, U 4), (1061, 0, 8, I 7)]
noncomputable def m78 : Memo := ⟨[.ptr 1061 0, I 0], h117, .agg [I 0, I 1, I 0, U 0, I 0, U 0, IZ (-1), I 0], h118⟩
theorem m78_run : ranTo (evCall (cxX Tryz.prog bad [] [] ((44, pureFn l8) :: q0)) 1000 60 19 m78.args m78.h) m78.v m78.h' = true := by kernel_rfl
theorem m78_ok {σ : Nat → Int} {W0 : World} (hL : L0 W0) : MemoOk Tryz.prog 26623 σ W0 19 m78 := memo_ok fit (Known2.nil σ) (FnsOk.cons (pure_fn_ok (l8_ok hL)) ((q0_ok hL))) m78_run
noncomputable def h119 : H := hUpd h118 4055 [] [] []
noncomputable def h120 : H := hUpc h114 4596 [] [] [(1017, 0, [I 16, .slice 3397 0 2 2 10 false, I 5]),
  (1049, 0, [IZ (-1), I 2147483640]),
  (1049, 1, [I 0, I 495]),
  (1049, 2, [I 0, I 500])] [(1021, 0, 0, U 0), (1021, 0, 3, U 0), (1021, 0, 4, U 0), (1021, 0, 8, U 5), (1021, 0, 71, I 0), (1021, 0, 72, I 0), (1021, 0, 86, I 0), (1021, 0, 87, I 0), (1021, 0, 90, U 0), (1061, 0, 8, I 8)]
noncomputable def m79 : Memo := ⟨[.ptr 1061 0, I 0], h119, .agg [I 0, I 2, I 0, U 1, I 7, U 0, IZ (-1), I 0], h120⟩
theorem m79_run : ranTo (evCall (cxX Tryz.prog bad [] [] ((44, pureFn l8) :: q0)) 1000 60 19 m79.args m79.h) m79.v m79.h' = true := by kernel_rfl
theorem m79_ok {σ : Nat → Int} {W0 : World} (hL : L0 W0) : MemoOk Tryz.prog 26623 σ W0 19 m79 := memo_ok fit (Known2.nil σ) (FnsOk.cons (pure_fn_ok (l8_ok hL)) ((q0_ok hL))) m79_run
noncomputable def h121 : H := hUpd h120 4597 [] [] []
noncomputable def h122 : H := hUpc h120 4780 [] [] [(1017, 0, [I 16, .slice 3397 0 2 2 10 false, I 6]),
  (1049, 0, [IZ (-1), I 2147483639]),
  (1049, 1, [I 0, I 494])] [(1021, 0, 0, U 6), (1021, 0, 8, U 6), (1061, 0, 8, I 9)]
noncomputable def m80 : Memo := ⟨[.ptr 1061 0, I 0], h121, .agg [I 0, I 1, I 0, U 0, I 0, U 0, IZ (-1), I 0], h122⟩
theorem m80_run : ranTo (evCall (cxX Tryz.prog bad [] [] ((44, pureFn l8) :: q0)) 1000 60 19 m80.args m80.h) m80.v m80.h' = true := by kernel_rfl
theorem m80_ok {σ : Nat → Int} {W0 : World} (hL : L0 W0) : MemoOk Tryz.prog 26623 σ W0 19 m80 := memo_ok fit (Known2.nil σ) (FnsOk.cons (pure_fn_ok (l8_ok hL)) ((q0_ok hL))) m80_run
noncomputable def h123 : H := hUpd h122 4781 [] [] []
noncomputable def h124 : H := hUpc h122 4964 [] [] [(1017, 0, [I 16, .slice 3397 0 2 2 10 false, I 7]),
  (1049, 0, [IZ (-1), I 2147483638]),
  (1049, 1, [I 0, I 493])] [(1021, 0, 1, U 2), (1021, 0, 8, U 7), (1061, 0, 8, I 10)]
noncomputable def m81 : Memo := ⟨[.ptr 1061 0, I 0], h123, .agg [I 0, I 1, I 0, U 0, I 0, U 0, IZ (-1), I 0], h124⟩
theorem m81_run : ranTo (evCall (cxX Tryz.prog bad [] [] ((44, pureFn l8) :: q0)) 1000 60 19 m81.args m81.h) m81.v m81.h' = true := by kernel_rfl
theorem m81_ok {σ : Nat → Int} {W0 : World} (hL : L0 W0) : MemoOk Tryz.prog 26623 σ W0 19 m81 := memo_ok fit (Known2.nil σ) (FnsOk.cons (pure_fn_ok (l8_ok hL)) ((q0_ok hL))) m81_run
noncomputable def h125 : H := hUpd h124 4965 [] [] []
noncomputable def h126 : H := hUpc h120 5508 [] [] [(1017, 0, [I 16, .slice 3397 0 2 2 10 false, I 8]),
  (1049, 0, [IZ (-1), I 2147483637]),
  (1049, 1, [I 0, I 492])] [(1021, 0, 8, U 8), (1021, 1, 8, U 2), (1061, 0, 8, I 11)]
noncomputable def m82 : Memo := ⟨[.ptr 1061 0, I 0], h125, .agg [I 0, I 2, I 0, U 6, I 4, U 0, IZ (-1), I 0], h126⟩
theorem m82_run : ranTo (evCall (cxX Tryz.prog bad [] [] ((44, pureFn l9) :: q0)) 1000 60 19 m82.args m82.h) m82.v m82.h' = true := by kernel_rfl
theorem m82_ok {σ : Nat → Int} {W0 : World} (hL : L0 W0) : MemoOk Tryz.prog 26623 σ W0 19 m82 := memo_ok fit (Known2.nil σ) (FnsOk.cons (pure_fn_ok (l9_ok hL)) ((q0_ok hL))) m82_run
noncomputable def h127 : H := hUpd h126 5509 [] [] []
noncomputable def h128 : H := hUpc h126 6013 [] [] [(2270, 0, [I 1]),
  (1017, 0, [I 16, .slice 3397 0 2 2 10 false, I 9]),
  (1049, 0, [IZ (-1), I 2147483636]),
  (1049, 1, [I 0, I 491])] [(1021, 0, 8, U 9), (1021, 0, 9, I 1), (1021, 1, 9, I 3), (1061, 0, 8, I 12)]
noncomputable def m83 : Memo := ⟨[.ptr 1061 0, I 0], h127, .agg [I 0, I 2, I 1, U 0, I 6, U 0, I 1, I 0], h128⟩
theorem m83_run : ranTo (evCall (cxX Tryz.prog bad [] [] ((44, pureFn l9) :: q0)) 1000 60 19 m83.args m83.h) m83.v m83.h' = true := by kernel_rfl
theorem m83_ok {σ : Nat → Int} {W0 : World} (hL : L0 W0) : MemoOk Tryz.prog 26623 σ W0 19 m83 := memo_ok fit (Known2.nil σ) (FnsOk.cons (pure_fn_ok (l9_ok hL)) ((q0_ok hL))) m83_run
noncomputable def h129 : H := hUpd h128 6014 [] [] []
noncomputable def h130 : H := hUpc h128 6194 [] [] [(1017, 0, [I 16, .slice 3397 0 2 2 10 false, I 10]),
  (1049, 0, [IZ (-1), I 2147483635]),
  (1049, 2, [I 0, I 499])] [(1021, 1, 5, U 77), (1021, 1, 8, U 3), (1061, 0, 8, I 13)]
noncomputable def m84 : Memo := ⟨[.ptr 1061 0, I 0], h129, .agg [I 1, I 1, I 0, U 0, I 0, U 0, IZ (-1), I 0], h130⟩
theorem m84_run : ranTo (evCall (cxX Tryz.prog bad [] [] ((44, pureFn l5) :: q0)) 1000 60 19 m84.args m84.h) m84.v m84.h' = true := by kernel_rfl
theorem m84_ok {σ : Nat → Int} {W0 : World} (hL : L0 W0) : MemoOk Tryz.prog 26623 σ W0 19 m84 := memo_ok fit (Known2.nil σ) (FnsOk.cons (pure_fn_ok (l5_ok hL)) ((q0_ok hL))) m84_run
noncomputable def h131 : H := hUpd h130 6195 [] [] []
noncomputable def h132 : H := hUpc h130 6365 [] [] [(2270, 0, [I 0]),
  (1060, 0, [.slice 2270 0 0 1 1 false]),
  (1017, 0, [I 16, .slice 3397 0 2 2 10 false, I 11]),
  (1049, 0, [IZ (-1), I 2147483634]),
  (1049, 2, [I 0, I 498])] [(1021, 1, 8, U 4), (1021, 1, 9, I 4), (1061, 0, 8, I 14)]
noncomputable def m85 : Memo := ⟨[.ptr 1061 0, I 0], h131, .agg [I 1, I 4, I 0, U 0, I 0, U 0, IZ (-1), I 0], h132⟩
theorem m85_run : ranTo (evCall (cxX Tryz.prog bad [] [] ((44, pureFn l5) :: q0)) 1000 60 19 m85.args m85.h) m85.v m85.h' = true := by kernel_rfl
theorem m85_ok {σ : Nat → Int} {W0 : World} (hL : L0 W0) : MemoOk Tryz.prog 26623 σ W0 19 m85 := memo_ok fit (Known2.nil σ) (FnsOk.cons (pure_fn_ok (l5_ok hL)) ((q0_ok hL))) m85_run
noncomputable def l14 : List (Memo) := m85 :: m84 :: m83 :: m82 :: m81 :: m80 :: m79 :: m78 :: m77 :: m76 :: m75 :: m74 :: m73 :: m72 :: []
theorem l14_ok {σ : Nat → Int} {W0 : World} (hL : L0 W0) : ∀ x ∈ l14, MemoOk Tryz.prog 26623 σ W0 19 x := all_cons (m85_ok hL) (all_cons (m84_ok hL) (all_cons (m83_ok hL) (all_cons (m82_ok hL) (all_cons (m81_ok hL) (all_cons (m80_ok hL) (all_cons (m79_ok hL) (all_cons (m78_ok hL) (all_cons (m77_ok hL) (all_cons (m76_ok hL) (all_cons (m75_ok hL) (all_cons (m74_ok hL) (all_cons (m73_ok hL) (all_cons (m72_ok hL) (all_nil))))))))))))))
noncomputable def q3 : Fns := [(7, pureFn [p0]), (14, frameFn [m71]), (295, isFn 453), (122, atoiFullFn 384), (123, itoaFullFn), (195, joinFn), (307, countFn), (352, indexFn), (308, cutOf Tryz.prog 26623 bad [(307, countFn), (352, indexFn)] 1000 20 308)]
theorem q3_ok {σ : Nat → Int} {W0 : World} (hL : L0 W0) : FnsOk Tryz.prog 26623 σ W0 q3 := FnsOk.cons (pure_fn_ok (all_cons (p0_ok hL) (all_nil))) (FnsOk.cons (frame_fn_ok (all_cons (m71_ok hL) (all_nil))) (FnsOk.cons (ext_is hL) (FnsOk.cons (ext_atoi hL) (FnsOk.cons (ext_itoa hL) (FnsOk.cons (ext_join hL) (FnsOk.cons (ext_count hL) (FnsOk.cons (ext_index hL) (FnsOk.cons (ext_cut308 hL) (FnsOk.nil)))))))))
theorem run2 : isTrue (evCall (cxX Tryz.prog bad [] [] ((8, numExtE [(0, 9, .lit 1)]) :: (19, frameFn l14) :: (44, pureFn l10) :: (9, frameFn [m10, m69]) :: q3)) 1000 60 4 [.int .i64 (.var 0), bF] (sentH 453 20 errTab)) = true := by kernel_rfl
theorem case2 : CaseS [] [] [(0, 9, .lit 1)] [.int .i64 (.var 0), bF] := caseS (fun hL hk hT => FnsOk.cons (hT.ok fit) (FnsOk.cons (frame_fn_ok (l14_ok hL)) (FnsOk.cons (pure_fn_ok (l10_ok hL)) (FnsOk.cons (frame_fn_ok (all_cons (m10_ok hL) (all_cons (m69_ok hL) (all_nil)))) ((q3_ok hL)))))) run2
theorem run3 : isTrue (evCall (cxX Tryz.prog bad [] [] ((8, numExtE [(0, 9, .lit 1)]) :: (19, frameFn l13) :: (44, pureFn l10) :: (9, frameFn [m10, m52]) :: q2)) 1000 60 4 [.int .i64 (.var 0), bT] (sentH 453 20 errTab)) = true := by kernel_rfl
theorem case3 : CaseS [] [] [(0, 9, .lit 1)] [.int .i64 (.var 0), bT] := caseS (fun hL hk hT => FnsOk.cons (hT.ok fit) (FnsOk.cons (frame_fn_ok (l13_ok hL)) (FnsOk.cons (pure_fn_ok (l10_ok hL)) (FnsOk.cons (frame_fn_ok (all_cons (m10_ok hL) (all_cons (m52_ok hL) (all_nil)))) ((q2_ok hL)))))) run3
noncomputable def m86 : Memo := ⟨[bT, I 3, .snil, .slice 757 0 4 4 1 true], h29, .agg [.slice 1002 0 4 4 1 false, I 3, .snil, bT], h30⟩
theorem m86_run : ranTo (evCall (cxX Tryz.prog bad [] [] ((84, frameFn l1) :: q0)) 1000 60 9 m86.args m86.h) m86.v m86.h' = true := by kernel_rfl
theorem m86_ok {σ : Nat → Int} {W0 : World} (hL : L0 W0) : MemoOk Tryz.prog 26623 σ W0 9 m86 := memo_ok fit (Known2.nil σ) (FnsOk.cons (frame_fn_ok (l1_ok hL)) ((q0_ok hL))) m86_run
noncomputable def h133 : H := hUpd h102 2046 [] [] [(1049, 2, [I 0, I 3])]
noncomputable def m87 : Memo := ⟨[.ptr 1061 0, .agg [.slice 1002 0 4 4 1 false, I 3, .snil, bT]], h33, .tuple [I 1, .inil], h133⟩
theorem m87_run : ranTo (evCall (cxX Tryz.prog bad [] [] ((44, pureFn l3) :: q0)) 1000 60 88 m87.args m87.h) m87.v m87.h' = true := by kernel_rfl
theorem m87_ok {σ : Nat → Int} {W0 : World} (hL : L0 W0) : MemoOk Tryz.prog 26623 σ W0 88 m87 := memo_ok fit (Known2.nil σ) (FnsOk.cons (pure_fn_ok (l3_ok hL)) ((q0_ok hL))) m87_run
noncomputable def h134 : H := hUpc h103 1005 [] [] [] [(1004, 1, 1, I 3)]
noncomputable def h135 : H := hUpc h104 2271 [] [] [(1049, 2, [I 0, I 3])] [(1004, 1, 1, I 3)]
noncomputable def m88 : Memo := ⟨[.slice 1004 0 2 2 4 true], h134, .ptr 1061 0, h135⟩
theorem m88_run : ranTo (evCall (cxX Tryz.prog bad [] [] ((44, pureFn l4) :: (88, frameFn [m26, m87]) :: q0)) 1000 60 14 m88.args m88.h) m88.v m88.h' = true := by kernel_rfl
theorem m88_ok {σ : Nat → Int} {W0 : World} (hL : L0 W0) : MemoOk Tryz.prog 26623 σ W0 14 m88 := memo_ok fit (Known2.nil σ) (FnsOk.cons (pure_fn_ok (l4_ok hL)) (FnsOk.cons (frame_fn_ok (all_cons (m26_ok hL) (all_cons (m87_ok hL) (all_nil)))) ((q0_ok hL)))) m88_run
noncomputable def h136 : H := hUpd h105 2379 [] [] [(1049, 2, [I 0, I 3])]
noncomputable def h137 : H := hUpd h106 2684 [] [] [(1049, 2, [I 0, I 2])]
noncomputable def m89 : Memo := ⟨[.ptr 1061 0, I 0], h136, .agg [I 1, I 3, I 0, U 0, I 0, U 0, IZ (-1), I 0], h137⟩
theorem m89_run : ranTo (evCall (cxX Tryz.prog bad [] [] ((44, pureFn l5) :: q0)) 1000 60 19 m89.args m89.h) m89.v m89.h' = true := by kernel_rfl
theorem m89_ok {σ : Nat → Int} {W0 : World} (hL : L0 W0) : MemoOk Tryz.prog 26623 σ W0 19 m89 := memo_ok fit (Known2.nil σ) (FnsOk.cons (pure_fn_ok (l5_ok hL)) ((q0_ok hL))) m89_run
noncomputable def h138 : H := hUpd h137 2685 [] [] []
noncomputable def h139 : H := hUpd h108 2856 [] [] [(1049, 2, [I 0, I 1])]
noncomputable def m90 : Memo := ⟨[.ptr 1061 0, I 0], h138, .agg [I 1, I 1, I 0, U 0, I 0, U 0, IZ (-1), I 0], h139⟩
theorem m90_run : ranTo (evCall (cxX Tryz.prog bad [] [] ((44, pureFn l5) :: q0)) 1000 60 19 m90.args m90.h) m90.v m90.h' = true := by kernel_rfl
theorem m90_ok {σ : Nat → Int} {W0 : World} (hL : L0 W0) : MemoOk Tryz.prog 26623 σ W0 19 m90 := memo_ok fit (Known2.nil σ) (FnsOk.cons (pure_fn_ok (l5_ok hL)) ((q0_ok hL))) m90_run
noncomputable def h140 : H := hUpd h139 2857 [] [] []
noncomputable def h141 : H := hUpc h106 3028 [] [] [(1017, 0, [I 16, .slice 2598 0 1 1 10 false, I 2]),
  (1049, 0, [IZ (-1), I 2147483644]),
  (1049, 2, [I 0, I 0])] [(1061, 0, 8, I 3)]
noncomputable def m91 : Memo := ⟨[.ptr 1061 0, I 0], h140, .agg [I 1, I 3, I 0, U 0, I 0, U 0, IZ (-1), I 0], h141⟩
theorem m91_run : ranTo (evCall (cxX Tryz.prog bad [] [] ((44, pureFn l5) :: q0)) 1000 60 19 m91.args m91.h) m91.v m91.h' = true := by kernel_rfl
theorem m91_ok {σ : Nat → Int} {W0 : World} (hL : L0 W0) : MemoOk Tryz.prog 26623 σ W0 19 m91 := memo_ok fit (Known2.nil σ) (FnsOk.cons (pure_fn_ok (l5_ok hL)) ((q0_ok hL))) m91_run
noncomputable def h142 : H := hUpd h141 3029 [] [] []
noncomputable def h143 : H := hUpc h110 3346 [] [] [(1017, 0, [I 16, .slice 2598 0 1 1 10 false, I 2]),
  (1049, 0, [IZ (-1), I 2147483644])] [(1021, 0, 1, U 1), (1021, 1, 8, U 1), (1061, 0, 8, I 4)]
noncomputable def m92 : Memo := ⟨[.ptr 1061 0, I 0], h142, .agg [I 1, I 5, I 0, U 0, I 0, U 0, I 0, I 6], h143⟩
theorem m92_run : ranTo (evCall (cxX Tryz.prog bad [] [] ((44, pureFn l6) :: q0)) 1000 60 19 m92.args m92.h) m92.v m92.h' = true := by kernel_rfl
theorem m92_ok {σ : Nat → Int} {W0 : World} (hL : L0 W0) : MemoOk Tryz.prog 26623 σ W0 19 m92 := memo_ok fit (Known2.nil σ) (FnsOk.cons (pure_fn_ok (l6_ok hL)) ((q0_ok hL))) m92_run
noncomputable def h144 : H := hUpd h143 3347 [] [] []
noncomputable def h145 : H := hUpc h112 3669 [3364, 3397] [(3536, .cells 1 ([[I 0]]) false),
  (3569, .cells 10 ([[I 2, I 1, I 0, I 0, U 1, U 0, .slice 2565 0 1 1 1 false, I 2, I 0, bF], [I 2, I 0, I 0, I 0, U 1, U 0, .slice 3536 0 1 1 1 false, I 0, I 0, bF]]) false)] [(1017, 0, [I 16, .slice 3569 0 2 2 10 false, I 2]),
  (1049, 0, [IZ (-1), I 2147483643])] [(1021, 0, 1, U 1), (1021, 1, 8, U 1), (1061, 0, 8, I 5)]
noncomputable def m93 : Memo := ⟨[.ptr 1061 0, I 0], h144, .agg [I 0, I 1, I 0, U 0, I 0, U 0, IZ (-1), I 0], h145⟩
theorem m93_run : ranTo (evCall (cxX Tryz.prog bad [] [] ((44, pureFn l7) :: q0)) 1000 60 19 m93.args m93.h) m93.v m93.h' = true := by kernel_rfl
theorem m93_ok {σ : Nat → Int} {W0 : World} (hL : L0 W0) : MemoOk Tryz.prog 26623 σ W0 19 m93 := memo_ok fit (Known2.nil σ) (FnsOk.cons (pure_fn_ok (l7_ok hL)) ((q0_ok hL))) m93_run
noncomputable def h146 : H := hUpd h145 3670 [] [] []
noncomputable def h147 : H := hUpc h145 3858 [] [] [(1017, 0, [I 16, .slice 3569 0 2 2 10 false, I 3]),
  (1049, 0, [IZ (-1), I 2147483642]),
  (1049, 1, [I 0, I 498])] [(1021, 0, 8, U 2), (1021, 0, 41, I 4), (1021, 0, 42, I 1), (1061, 0, 8, I 6)]
noncomputable def m94 : Memo := ⟨[.ptr 1061 0, I 0], h146, .agg [I 0, I 1, I 0, U 0, I 0, U 0, IZ (-1), I 0], h147⟩
theorem m94_run : ranTo (evCall (cxX Tryz.prog bad [] [] ((44, pureFn l8) :: q0)) 1000 60 19 m94.args m94.h) m94.v m94.h' = true := by kernel_rfl
theorem m94_ok {σ : Nat → Int} {W0 : World} (hL : L0 W0) : MemoOk Tryz.prog 26623 σ W0 19 m94 := memo_ok fit (Known2.nil σ) (FnsOk.cons (pure_fn_ok (l8_ok hL)) ((q0_ok hL))) m94_run
noncomputable def h148 : H := hUpd h147 3859 [] [] []
noncomputable def h149 : H := hUpc h147 4042 [] [] [(1017, 0, [I 16, .slice 3569 0 2 2 10 false, I 4]),
  (1049, 0, [IZ (-1), I 2147483641]),
  (1049, 1, [I 0, I 497])] [(1021, 0, 0, U 1), (1021, 0, 8, U 3), (1061, 0, 8, I 7)]
noncomputable def m95 : Memo := ⟨[.ptr 1061 0, I 0], h148, .agg [I 0, I 1, I 0, U 0, I 0, U 0, IZ (-1), I 0], h149⟩
theorem m95_run : ranTo (evCall (cxX Tryz.prog bad [] [] ((44, pureFn l8) :: q0)) 1000 60 19 m95.args m95.h) m95.v m95.h' = true := by kernel_rfl
theorem m95_ok {σ : Nat → Int} {W0 : World} (hL : L0 W0) : MemoOk Tryz.prog 26623 σ W0 19 m95 := memo_ok fit (Known2.nil σ) (FnsOk.cons (pure_fn_ok (l8_ok hL)) ((q0_ok hL))) m95_run
noncomputable def h150 : H := hUpd h149 4043 [] [] []
noncomputable def h151 : H := hUpc h149 4226 [] [] [(1017, 0, [I 16, .slice 3569 0 2 2 10 false, I 5]),
  (1049, 0, [IZ (-1), I 2147483640]),
  (1049, 1, [I 0, I 496])] [(1021, 0, 1, U 500), (1021, 0, 8, U 4), (1061, 0, 8, I 8)]
noncomputable def m96 : Memo := ⟨[.ptr 1061 0, I 0], h150, .agg [I 0, I 1, I 0, U 0, I 0, U 0, IZ (-1), I 0], h151⟩
theorem m96_run : ranTo (evCall (cxX Tryz.prog bad [] [] ((44, pureFn l8) :: q0)) 1000 60 19 m96.args m96.h) m96.v m96.h' = true := by kernel_rfl
theorem m96_ok {σ : Nat → Int} {W0 : World} (hL : L0 W0) : MemoOk Tryz.prog 26623 σ W0 19 m96 := memo_ok fit (Known2.nil σ) (FnsOk.cons (pure_fn_ok (l8_ok hL)) ((q0_ok hL))) m96_run
noncomputable def h152 : H := hUpd h151 4227 [] [] []
noncomputable def h153 : H := hUpc h147 4768 [] [] [(1017, 0, [I 16, .slice 3569 0 2 2 10 false, I 6]),
  (1049, 0, [IZ (-1), I 2147483639]),
  (1049, 1, [I 0, I 495]),
  (1049, 2, [I 0, I 500])] [(1021, 0, 0, U 0), (1021, 0, 1, U 0), (1021, 0, 3, U 0), (1021, 0, 4, U 0), (1021, 0, 8, U 5), (1021, 0, 71, I 0), (1021, 0, 72, I 0), (1021, 0, 86, I 0), (1021, 0, 87, I 0), (1021, 0, 90, U 0), (1061, 0, 8, I 9)]
noncomputable def m97 : Memo := ⟨[.ptr 1061 0, I 0], h152, .agg [I 0, I 2, I 0, U 1, I 7, U 0, IZ (-1), I 0], h153⟩
theorem m97_run : ranTo (evCall (cxX Tryz.prog bad [] [] ((44, pureFn l8) :: q0)) 1000 60 19 m97.args m97.h) m97.v m97.h' = true := by kernel_rfl
theorem m97_ok {σ : Nat → Int} {W0 : World} (hL : L0 W0) : MemoOk Tryz.prog 26623 σ W0 19 m97 := memo_ok fit (Known2.nil σ) (FnsOk.cons (pure_fn_ok (l8_ok hL)) ((q0_ok hL))) m97_run
noncomputable def h154 : H := hUpd h153 4769 [] [] []
noncomputable def h155 : H := hUpc h153 4952 [] [] [(1017, 0, [I 16, .slice 3569 0 2 2 10 false, I 7]),
  (1049, 0, [IZ (-1), I 2147483638]),
  (1049, 1, [I 0, I 494])] [(1021, 0, 0, U 6), (1021, 0, 8, U 6), (1061, 0, 8, I 10)]
noncomputable def m98 : Memo := ⟨[.ptr 1061 0, I 0], h154, .agg [I 0, I 1, I 0, U 0, I 0, U 0, IZ (-1), I 0], h155⟩
theorem m98_run : ranTo (evCall (cxX Tryz.prog bad [] [] ((44, pureFn l8) :: q0)) 1000 60 19 m98.args m98.h) m98.v m98.h' = true := by kernel_rfl
theorem m98_ok {σ : Nat → Int} {W0 : World} (hL : L0 W0) : MemoOk Tryz.prog 26623 σ W0 19 m98 := memo_ok fit (Known2.nil σ) (FnsOk.cons (pure_fn_ok (l8_ok hL)) ((q0_ok hL))) m98_run
noncomputable def h156 : H := hUpd h155 4953 [] [] []
noncomputable def h157 : H := hUpc h155 5136 [] [] [(1017, 0, [I 16, .slice 3569 0 2 2 10 false, I 8]),
  (1049, 0, [IZ (-1), I 2147483637]),
  (1049, 1, [I 0, I 493])] [(1021, 0, 1, U 2), (1021, 0, 8, U 7), (1061, 0, 8, I 11)]
noncomputable def m99 : Memo := ⟨[.ptr 1061 0, I 0], h156, .agg [I 0, I 1, I 0, U 0, I 0, U 0, IZ (-1), I 0], h157⟩
theorem m99_run : ranTo (evCall (cxX Tryz.prog bad [] [] ((44, pureFn l8) :: q0)) 1000 60 19 m99.args m99.h) m99.v m99.h' = true := by kernel_rfl
theorem m99_ok {σ : Nat → Int} {W0 : World} (hL : L0 W0) : MemoOk Tryz.prog 26623 σ W0 19 m99 := memo_ok fit (Known2.nil σ) (FnsOk.cons (pure_fn_ok (l8_ok hL)) ((q0_ok hL))) m99_run
noncomputable def h158 : H := hUpd h157 5137 [] [] []
noncomputable def h159 : H := hUpc h153 5680 [] [] [(1017, 0, [I 16, .slice 3569 0 2 2 10 false, I 9]),
  (1049, 0, [IZ (-1), I 2147483636]),
  (1049, 1, [I 0, I 492])] [(1021, 0, 8, U 8), (1021, 1, 8, U 2), (1061, 0, 8, I 12)]
noncomputable def m100 : Memo := ⟨[.ptr 1061 0, I 0], h158, .agg [I 0, I 2, I 0, U 6, I 4, U 0, IZ (-1), I 0], h159⟩
theorem m100_run : ranTo (evCall (cxX Tryz.prog bad [] [] ((44, pureFn l9) :: q0)) 1000 60 19 m100.args m100.h) m100.v m100.h' = true := by kernel_rfl
theorem m100_ok {σ : Nat → Int} {W0 : World} (hL : L0 W0) : MemoOk Tryz.prog 26623 σ W0 19 m100 := memo_ok fit (Known2.nil σ) (FnsOk.cons (pure_fn_ok (l9_ok hL)) ((q0_ok hL))) m100_run
noncomputable def h160 : H := hUpd h159 5681 [] [] []
noncomputable def h161 : H := hUpc h159 6185 [] [] [(2270, 0, [I 1]),
  (1017, 0, [I 16, .slice 3569 0 2 2 10 false, I 10]),
  (1049, 0, [IZ (-1), I 2147483635]),
  (1049, 1, [I 0, I 491])] [(1021, 0, 8, U 9), (1021, 0, 9, I 1), (1021, 1, 9, I 3), (1061, 0, 8, I 13)]
noncomputable def m101 : Memo := ⟨[.ptr 1061 0, I 0], h160, .agg [I 0, I 2, I 1, U 0, I 6, U 0, I 1, I 0], h161⟩
theorem m101_run : ranTo (evCall (cxX Tryz.prog bad [] [] ((44, pureFn l9) :: q0)) 1000 60 19 m101.args m101.h) m101.v m101.h' = true := by kernel_rfl
theorem m101_ok {σ : Nat → Int} {W0 : World} (hL : L0 W0) : MemoOk Tryz.prog 26623 σ W0 19 m101 := memo_ok fit (Known2.nil σ) (FnsOk.cons (pure_fn_ok (l9_ok hL)) ((q0_ok hL))) m101_run
noncomputable def h162 : H := hUpd h161 6186 [] [] []
noncomputable def h163 : H := hUpc h161 6366 [] [] [(1017, 0, [I 16, .slice 3569 0 2 2 10 false, I 11]),
  (1049, 0, [IZ (-1), I 2147483634]),
  (1049, 2, [I 0, I 499])] [(1021, 1, 5, U 77), (1021, 1, 8, U 3), (1061, 0, 8, I 14)]
noncomputable def m102 : Memo := ⟨[.ptr 1061 0, I 0], h162, .agg [I 1, I 1, I 0, U 0, I 0, U 0, IZ (-1), I 0], h163⟩
theorem m102_run : ranTo (evCall (cxX Tryz.prog bad [] [] ((44, pureFn l5) :: q0)) 1000 60 19 m102.args m102.h) m102.v m102.h' = true := by kernel_rfl
theorem m102_ok {σ : Nat → Int} {W0 : World} (hL : L0 W0) : MemoOk Tryz.prog 26623 σ W0 19 m102 := memo_ok fit (Known2.nil σ) (FnsOk.cons (pure_fn_ok (l5_ok hL)) ((q0_ok hL))) m102_run
noncomputable def h164 : H := hUpd h163 6367 [] [] []
noncomputable def h165 : H := hUpc h163 6537 [] [] [(2270, 0, [I 0]),
  (1060, 0, [.slice 2270 0 0 1 1 false]),
  (1017, 0, [I 16, .slice 3569 0 2 2 10 false, I 12]),
  (1049, 0, [IZ (-1), I 2147483633]),
  (1049, 2, [I 0, I 498])] [(1021, 1, 8, U 4), (1021, 1, 9, I 4), (1061, 0, 8, I 15)]
noncomputable def m103 : Memo := ⟨[.ptr 1061 0, I 0], h164, .agg [I 1, I 4, I 0, U 0, I 0, U 0, IZ (-1), I 0], h165⟩
theorem m103_run : ranTo (evCall (cxX Tryz.prog bad [] [] ((44, pureFn l5) :: q0)) 1000 60 19 m103.args m103.h) m103.v m103.h' = true := by kernel_rfl
theorem m103_ok {σ : Nat → Int} {W0 : World} (hL : L0 W0) : MemoOk Tryz.prog 26623 σ W0 19 m103 := memo_ok fit (Known2.nil σ) (FnsOk.cons (pure_fn_ok (l5_ok hL)) ((q0_ok hL))) m103_run
noncomputable def l15 : List (Memo) := m103 :: m102 :: m101 :: m100 :: m99 :: m98 :: m97 :: m96 :: m95 :: m94 :: m93 :: m92 :: m91 :: m90 :: m89 :: []
theorem l15_ok {σ : Nat → Int} {W0 : World} (hL : L0 W0) : ∀ x ∈ l15, MemoOk Tryz.prog 26623 σ W0 19 x := all_cons (m103_ok hL) (all_cons (m102_ok hL) (all_cons (m101_ok hL) (all_cons (m100_ok hL) (all_cons (m99_ok hL) (all_cons (m98_ok hL) (all_cons (m97_ok hL) (all_cons (m96_ok hL) (all_cons (m95_ok hL) (all_cons (m94_ok hL) (all_cons (m93_ok hL) (all_cons (m92_ok hL) (all_cons (m91_ok hL) (all_cons (m90_ok hL) (all_cons (m89_ok hL) (all_nil)))))))))))))))
noncomputable def q4 : Fns := [(7, pureFn [p0]), (14, frameFn [m88]), (295, isFn 453), (122, atoiFullFn 384), (123, itoaFullFn), (195, joinFn), (307, countFn), (352, indexFn), (308, cutOf Tryz.prog 26623 bad [(307, countFn), (352, indexFn)] 1000 20 308)]
theorem q4_ok {σ : Nat → Int} {W0 : World} (hL : L0 W0) : FnsOk Tryz.prog 26623 σ W0 q4 := FnsOk.cons (pure_fn_ok (all_cons (p0_ok hL) (all_nil))) (FnsOk.cons (frame_fn_ok (all_cons (m88_ok hL) (all_nil))) (FnsOk.cons (ext_is hL) (FnsOk.cons (ext_atoi hL) (FnsOk.cons (ext_itoa hL) (FnsOk.cons (ext_join hL) (FnsOk.cons (ext_count hL) (FnsOk.cons (ext_index hL) (FnsOk.cons (ext_cut308 hL) (FnsOk.nil)))))))))
theorem run4 : isTrue (evCall (cxX Tryz.prog bad [] [] ((8, numExtE [(0, 9, .lit 2)]) :: (19, frameFn l15) :: (44, pureFn l10) :: (9, frameFn [m10, m86]) :: q4)) 1000 60 4 [.int .i64 (.var 0), bF] (sentH 453 20 errTab)) = true := by kernel_rfl
theorem case4 : CaseS [] [] [(0, 9, .lit 2)] [.int .i64 (.var 0), bF] := caseS (fun hL hk hT => FnsOk.cons (hT.ok fit) (FnsOk.cons (frame_fn_ok (l15_ok hL)) (FnsOk.cons (pure_fn_ok (l10_ok hL)) (FnsOk.cons (frame_fn_ok (all_cons (m10_ok hL) (all_cons (m86_ok hL) (all_nil)))) ((q4_ok hL)))))) run4
theorem run5 : isTrue (evCall (cxX Tryz.prog bad [] [] ((8, numExtE [(0, 9, .lit 2)]) :: (19, frameFn l13) :: (44, pureFn l10) :: (9, frameFn [m10, m52]) :: q2)) 1000 60 4 [.int .i64 (.var 0), bT] (sentH 453 20 errTab)) = true := by kernel_rfl
theorem case5 : CaseS [] [] [(0, 9, .lit 2)] [.int .i64 (.var 0), bT] := caseS (fun hL hk hT => FnsOk.cons (hT.ok fit) (FnsOk.cons (frame_fn_ok (l13_ok hL)) (FnsOk.cons (pure_fn_ok (l10_ok hL)) (FnsOk.cons (frame_fn_ok (all_cons (m10_ok hL) (all_cons (m52_ok hL) (all_nil)))) ((q2_ok hL)))))) run5
noncomputable def m104 : Memo := ⟨[bT, I 4, .snil, .slice 757 0 4 4 1 true], h29, .agg [.slice 1002 0 4 4 1 false, I 4, .snil, bT], h30⟩
theorem m104_run : ranTo (evCall (cxX Tryz.prog bad [] [] ((84, frameFn l1) :: q0)) 1000 60 9 m104.args m104.h) m104.v m104.h' = true := by kernel_rfl
theorem m104_ok {σ : Nat → Int} {W0 : World} (hL : L0 W0) : MemoOk Tryz.prog 26623 σ W0 9 m104 := memo_ok fit (Known2.nil σ) (FnsOk.cons (frame_fn_ok (l1_ok hL)) ((q0_ok hL))) m104_run
noncomputable def h166 : H := hUpd h133 2046 [] [] [(1049, 2, [I 0, I 4])]
noncomputable def m105 : Memo := ⟨[.ptr 1061 0, .agg [.slice 1002 0 4 4 1 false, I 4, .snil, bT]], h33, .tuple [I 1, .inil], h166⟩
theorem m105_run : ranTo (evCall (cxX Tryz.prog bad [] [] ((44, pureFn l3) :: q0)) 1000 60 88 m105.args m105.h) m105.v m105.h' = true := by kernel_rfl
theorem m105_ok {σ : Nat → Int} {W0 : World} (hL : L0 W0) : MemoOk Tryz.prog 26623 σ W0 88 m105 := memo_ok fit (Known2.nil σ) (FnsOk.cons (pure_fn_ok (l3_ok hL)) ((q0_ok hL))) m105_run
noncomputable def h167 : H := hUpc h134 1005 [] [] [] [(1004, 1, 1, I 4)]
noncomputable def h168 : H := hUpc h135 2271 [] [] [(1049, 2, [I 0, I 4])] [(1004, 1, 1, I 4)]
noncomputable def m106 : Memo := ⟨[.slice 1004 0 2 2 4 true], h167, .ptr 1061 0, h168⟩
theorem m106_run : ranTo (evCall (cxX Tryz.prog bad [] [] ((44, pureFn l4) :: (88, frameFn [m26, m105]) :: q0)) 1000 60 14 m106.args m106.h) m106.v m106.h' = true := by kernel_rfl
theorem m106_ok {σ : Nat → Int} {W0 : World} (hL : L0 W0) : MemoOk Tryz.prog 26623 σ W0 14 m106 := memo_ok fit (Known2.nil σ) (FnsOk.cons (pure_fn_ok (l4_ok hL)) (FnsOk.cons (frame_fn_ok (all_cons (m26_ok hL) (all_cons (m105_ok hL) (all_nil)))) ((q0_ok hL)))) m106_run
noncomputable def h169 : H := hUpd h136 2379 [] [] [(1049, 2, [I 0, I 4])]
noncomputable def h170 : H := hUpd h137 2684 [] [] [(1049, 2, [I 0, I 3])]
noncomputable def m107 : Memo := ⟨[.ptr 1061 0, I 0], h169, .agg [I 1, I 3, I 0, U 0, I 0, U 0, IZ (-1), I 0], h170⟩
theorem m107_run : ranTo (evCall (cxX Tryz.prog bad [] [] ((44, pureFn l5) :: q0)) 1000 60 19 m107.args m107.h) m107.v m107.h' = true := by kernel_rfl
theorem m107_ok {σ : Nat → Int} {W0 : World} (hL : L0 W0) : MemoOk Tryz.prog 26623 σ W0 19 m107 := memo_ok fit (Known2.nil σ) (FnsOk.cons (pure_fn_ok (l5_ok hL)) ((q0_ok hL))) m107_run
noncomputable def h171 : H := hUpd h170 2685 [] [] []
noncomputable def h172 : H := hUpd h139 2856 [] [] [(1049, 2, [I 0, I 2])]
noncomputable def m108 : Memo := ⟨[.ptr 1061 0, I 0], h171, .agg [I 1, I 1, I 0, U 0, I 0, U 0, IZ (-1), I 0], h172⟩
theorem m108_run : ranTo (evCall (cxX Tryz.prog bad [] [] ((44, pureFn l5) :: q0)) 1000 60 19 m108.args m108.h) m108.v m108.h' = true := by kernel_rfl
theorem m108_ok {σ : Nat → Int} {W0 : World} (hL : L0 W0) : MemoOk Tryz.prog 26623 σ W0 19 m108 := memo_ok fit (Known2.nil σ) (FnsOk.cons (pure_fn_ok (l5_ok hL)) ((q0_ok hL))) m108_run
noncomputable def h173 : H := hUpd h172 2857 [] [] []
noncomputable def h174 : H := hUpd h141 3028 [] [] [(1049, 2, [I 0, I 1])]
noncomputable def m109 : Memo := ⟨[.ptr 1061 0, I 0], h173, .agg [I 1, I 3, I 0, U 0, I 0, U 0, IZ (-1), I 0], h174⟩
theorem m109_run : ranTo (evCall (cxX Tryz.prog bad [] [] ((44, pureFn l5) :: q0)) 1000 60 19 m109.args m109.h) m109.v m109.h' = true := by kernel_rfl
theorem m109_ok {σ : Nat → Int} {W0 : World} (hL : L0 W0) : MemoOk Tryz.prog 26623 σ W0 19 m109 := memo_ok fit (Known2.nil σ) (FnsOk.cons (pure_fn_ok (l5_ok hL)) ((q0_ok hL))) m109_run
noncomputable def h175 : H := hUpd h174 3029 [] [] []
noncomputable def h176 : H := hUpc h139 3200 [] [] [(1017, 0, [I 16, .slice 2598 0 1 1 10 false, I 3]),
  (1049, 0, [IZ (-1), I 2147483643]),
  (1049, 2, [I 0, I 0])] [(1061, 0, 8, I 4)]
noncomputable def m110 : Memo := ⟨[.ptr 1061 0, I 0], h175, .agg [I 1, I 1, I 0, U 0, I 0, U 0, IZ (-1), I 0], h176⟩
theorem m110_run : ranTo (evCall (cxX Tryz.prog bad [] [] ((44, pureFn l5) :: q0)) 1000 60 19 m110.args m110.h) m110.v m110.h' = true := by kernel_rfl
theorem m110_ok {σ : Nat → Int} {W0 : World} (hL : L0 W0) : MemoOk Tryz.prog 26623 σ W0 19 m110 := memo_ok fit (Known2.nil σ) (FnsOk.cons (pure_fn_ok (l5_ok hL)) ((q0_ok hL))) m110_run
noncomputable def h177 : H := hUpd h176 3201 [] [] []
noncomputable def h178 : H := hUpc h143 3518 [] [] [(1017, 0, [I 16, .slice 2598 0 1 1 10 false, I 3]),
  (1049, 0, [IZ (-1), I 2147483643])] [(1021, 0, 1, U 0), (1021, 1, 8, U 0), (1061, 0, 8, I 5)]
noncomputable def m111 : Memo := ⟨[.ptr 1061 0, I 0], h177, .agg [I 1, I 5, I 0, U 0, I 0, U 0, I 0, I 6], h178⟩
theorem m111_run : ranTo (evCall (cxX Tryz.prog bad [] [] ((44, pureFn l6) :: q0)) 1000 60 19 m111.args m111.h) m111.v m111.h' = true := by kernel_rfl
theorem m111_ok {σ : Nat → Int} {W0 : World} (hL : L0 W0) : MemoOk Tryz.prog 26623 σ W0 19 m111 := memo_ok fit (Known2.nil σ) (FnsOk.cons (pure_fn_ok (l6_ok hL)) ((q0_ok hL))) m111_run
noncomputable def h179 : H := hUpd h178 3519 [] [] []
noncomputable def h180 : H := hUpc h145 3841 [3536, 3569] [(3708, .cells 1 ([[I 0]]) false),
  (3741, .cells 10 ([[I 2, I 1, I 0, I 0, U 1, U 0, .slice 2565 0 1 1 1 false, I 2, I 0, bF], [I 2, I 0, I 0, I 0, U 1, U 0, .slice 3708 0 1 1 1 false, I 0, I 0, bF]]) false)] [(1017, 0, [I 16, .slice 3741 0 2 2 10 false, I 3]),
  (1049, 0, [IZ (-1), I 2147483642])] [(1021, 0, 1, U 0), (1021, 1, 8, U 0), (1061, 0, 8, I 6)]
noncomputable def m112 : Memo := ⟨[.ptr 1061 0, I 0], h179, .agg [I 0, I 1, I 0, U 0, I 0, U 0, IZ (-1), I 0], h180⟩
theorem m112_run : ranTo (evCall (cxX Tryz.prog bad [] [] ((44, pureFn l7) :: q0)) 1000 60 19 m112.args m112.h) m112.v m112.h' = true := by kernel_rfl
theorem m112_ok {σ : Nat → Int} {W0 : World} (hL : L0 W0) : MemoOk Tryz.prog 26623 σ W0 19 m112 := memo_ok fit (Known2.nil σ) (FnsOk.cons (pure_fn_ok (l7_ok hL)) ((q0_ok hL))) m112_run
noncomputable def h181 : H := hUpd h180 3842 [] [] []
noncomputable def h182 : H := hUpc h180 4030 [] [] [(1017, 0, [I 16, .slice 3741 0 2 2 10 false, I 4]),
  (1049, 0, [IZ (-1), I 2147483641]),
  (1049, 1, [I 0, I 498])] [(1021, 0, 8, U 2), (1021, 0, 41, I 4), (1021, 0, 42, I 1), (1061, 0, 8, I 7)]
noncomputable def m113 : Memo := ⟨[.ptr 1061 0, I 0], h181, .agg [I 0, I 1, I 0, U 0, I 0, U 0, IZ (-1), I 0], h182⟩
theorem m113_run : ranTo (evCall (cxX Tryz.prog bad [] [] ((44, pureFn l8) :: q0)) 1000 60 19 m113.args m113.h) m113.v m113.h' = true := by kernel_rfl
theorem m113_ok {σ : Nat → Int} {W0 : World} (hL : L0 W0) : MemoOk Tryz.prog 26623 σ W0 19 m113 := memo_ok fit (Known2.nil σ) (FnsOk.cons (pure_fn_ok (l8_ok hL)) ((q0_ok hL))) m113_run
noncomputable def h183 : H := hUpd h182 4031 [] [] []
noncomputable def h184 : H := hUpc h182 4214 [] [] [(1017, 0, [I 16, .slice 3741 0 2 2 10 false, I 5]),
  (1049, 0, [IZ (-1), I 2147483640]),
  (1049, 1, [I 0, I 497])] [(1021, 0, 0, U 1), (1021, 0, 8, U 3), (1061, 0, 8, I 8)]
noncomputable def m114 : Memo := ⟨[.ptr 1061 0, I 0], h183, .agg [I 0, I 1, I 0, U 0, I 0, U 0, IZ (-1), I 0], h184⟩
theorem m114_run : ranTo (evCall (cxX Tryz.prog bad [] [] ((44, pureFn l8) :: q0)) 1000 60 19 m114.args m114.h) m114.v m114.h' = true := by kernel_rfl
theorem m114_ok {σ : Nat → Int} {W0 : World} (hL : L0 W0) : MemoOk Tryz.prog 26623 σ W0 19 m114 := memo_ok fit (Known2.nil σ) (FnsOk.cons (pure_fn_ok (l8_ok hL)) ((q0_ok hL))) m114_run
noncomputable def h185 : H := hUpd h184 4215 [] [] []
noncomputable def h186 : H := hUpc h184 4398 [] [] [(1017, 0, [I 16, .slice 3741 0 2 2 10 false, I 6]),
  (1049, 0, [IZ (-1), I 2147483639]),
  (1049, 1, [I 0, I 496])] [(1021, 0, 1, U 500), (1021, 0, 8, U 4), (1061, 0, 8, I 9)]
noncomputable def m115 : Memo := ⟨[.ptr 1061 0, I 0], h185, .agg [I 0, I 1, I 0, U 0, I 0, U 0, IZ (-1), I 0], h186⟩
theorem m115_run : ranTo (evCall (cxX Tryz.prog bad [] [] ((44, pureFn l8) :: q0)) 1000 60 19 m115.args m115.h) m115.v m115.h' = true := by kernel_rfl
theorem m115_ok {σ : Nat → Int} {W0 : World} (hL : L0 W0) : MemoOk Tryz.prog 26623 σ W0 19 m115 := memo_ok fit (Known2.nil σ) (FnsOk.cons (pure_fn_ok (l8_ok hL)) ((q0_ok hL))) m115_run
noncomputable def h187 : H := hUpd h186 4399 [] [] []
noncomputable def h188 : H := hUpc h182 4940 [] [] [(1017, 0, [I 16, .slice 3741 0 2 2 10 false, I 7]),
  (1049, 0, [IZ (-1), I 2147483638]),
  (1049, 1, [I 0, I 495]),
  (1049, 2, [I 0, I 500])] [(1021, 0, 0, U 0), (1021, 0, 3, U 0), (1021, 0, 4, U 0), (1021, 0, 8, U 5), (1021, 0, 71, I 0), (1021, 0, 72, I 0), (1021, 0, 86, I 0), (1021, 0, 87, I 0), (1021, 0, 90, U 0), (1061, 0, 8, I 10)]
noncomputable def m116 : Memo := ⟨[.ptr 1061 0, I 0], h187, .agg [I 0, I 2, I 0, U 1, I 7, U 0, IZ (-1), I 0], h188⟩
theorem m116_run : ranTo (evCall (cxX Tryz.prog bad [] [] ((44, pureFn l8) :: q0)) 1000 60 19 m116.args m116.h) m116.v m116.h' = true := by kernel_rfl
theorem m116_ok {σ : Nat → Int} {W0 : World} (hL : L0 W0) : MemoOk Tryz.prog 26623 σ W0 19 m116 := memo_ok fit (Known2.nil σ) (FnsOk.cons (pure_fn_ok (l8_ok hL)) ((q0_ok hL))) m116_run
noncomputable def h189 : H := hUpd h188 4941 [] [] []
noncomputable def h190 : H := hUpc h188 5124 [] [] [(1017, 0, [I 16, .slice 3741 0 2 2 10 false, I 8]),
  (1049, 0, [IZ (-1), I 2147483637]),
  (1049, 1, [I 0, I 494])] [(1021, 0, 0, U 6), (1021, 0, 8, U 6), (1061, 0, 8, I 11)]
noncomputable def m117 : Memo := ⟨[.ptr 1061 0, I 0], h189, .agg [I 0, I 1, I 0, U 0, I 0, U 0, IZ (-1), I 0], h190⟩
theorem m117_run : ranTo (evCall (cxX Tryz.prog bad [] [] ((44, pureFn l8) :: q0)) 1000 60 19 m117.args m117.h) m117.v m117.h' = true := by kernel_rfl
theorem m117_ok {σ : Nat → Int} {W0 : World} (hL : L0 W0) : MemoOk Tryz.prog 26623 σ W0 19 m117 := memo_ok fit (Known2.nil σ) (FnsOk.cons (pure_fn_ok (l8_ok hL)) ((q0_ok hL))) m117_run
noncomputable def h191 : H := hUpd h190 5125 [] [] []
noncomputable def h192 : H := hUpc h190 5308 [] [] [(1017, 0, [I 16, .slice 3741 0 2 2 10 false, I 9]),
  (1049, 0, [IZ (-1), I 2147483636]),
  (1049, 1, [I 0, I 493])] [(1021, 0, 1, U 2), (1021, 0, 8, U 7), (1061, 0, 8, I 12)]
noncomputable def m118 : Memo := ⟨[.ptr 1061 0, I 0], h191, .agg [I 0, I 1, I 0, U 0, I 0, U 0, IZ (-1), I 0], h192⟩
theorem m118_run : ranTo (evCall (cxX Tryz.prog bad [] [] ((44, pureFn l8) :: q0)) 1000 60 19 m118.args m118.h) m118.v m118.h' = true := by kernel_rfl
theorem m118_ok {σ : Nat → Int} {W0 : World} (hL : L0 W0) : MemoOk Tryz.prog 26623 σ W0 19 m118 := memo_ok fit (Known2.nil σ) (FnsOk.cons (pure_fn_ok (l8_ok hL)) ((q0_ok hL))) m118_run
noncomputable def h193 : H := hUpd h192 5309 [] [] []
noncomputable def h194 : H := hUpc h188 5852 [] [] [(1017, 0, [I 16, .slice 3741 0 2 2 10 false, I 10]),
  (1049, 0, [IZ (-1), I 2147483635]),
  (1049, 1, [I 0, I 492])] [(1021, 0, 8, U 8), (1021, 1, 8, U 2), (1061, 0, 8, I 13)]
noncomputable def m119 : Memo := ⟨[.ptr 1061 0, I 0], h193, .agg [I 0, I 2, I 0, U 6, I 4, U 0, IZ (-1), I 0], h194⟩
theorem m119_run : ranTo (evCall (cxX Tryz.prog bad [] [] ((44, pureFn l9) :: q0)) 1000 60 19 m119.args m119.h) m119.v m119.h' = true := by kernel_rfl
theorem m119_ok {σ : Nat → Int} {W0 : World} (hL : L0 W0) : MemoOk Tryz.prog 26623 σ W0 19 m119 := memo_ok fit (Known2.nil σ) (FnsOk.cons (pure_fn_ok (l9_ok hL)) ((q0_ok hL))) m119_run
noncomputable def h195 : H := hUpd h194 5853 [] [] []
noncomputable def h196 : H := hUpc h194 6357 [] [] [(2270, 0, [I 1]),
  (1017, 0, [I 16, .slice 3741 0 2 2 10 false, I 11]),
  (1049, 0, [IZ (-1), I 2147483634]),
  (1049, 1, [I 0, I 491])] [(1021, 0, 8, U 9), (1021, 0, 9, I 1), (1021, 1, 9, I 3), (1061, 0, 8, I 14)]
noncomputable def m120 : Memo := ⟨[.ptr 1061 0, I 0], h195, .agg [I 0, I 2, I 1, U 0, I 6, U 0, I 1, I 0], h196⟩
theorem m120_run : ranTo (evCall (cxX Tryz.prog bad [] [] ((44, pureFn l9) :: q0)) 1000 60 19 m120.args m120.h) m120.v m120.h' = true := by kernel_rfl
theorem m120_ok {σ : Nat → Int} {W0 : World} (hL : L0 W0) : MemoOk Tryz.prog 26623 σ W0 19 m120 := memo_ok fit (Known2.nil σ) (FnsOk.cons (pure_fn_ok (l9_ok hL)) ((q0_ok hL))) m120_run
noncomputable def h197 : H := hUpd h196 6358 [] [] []
noncomputable def h198 : H := hUpc h196 6538 [] [] [(1017, 0, [I 16, .slice 3741 0 2 2 10 false, I 12]),
  (1049, 0, [IZ (-1), I 2147483633]),
  (1049, 2, [I 0, I 499])] [(1021, 1, 5, U 77), (1021, 1, 8, U 3), (1061, 0, 8, I 15)]
noncomputable def m121 : Memo := ⟨[.ptr 1061 0, I 0], h197, .agg [I 1, I 1, I 0, U 0, I 0, U 0, IZ (-1), I 0], h198⟩
theorem m121_run : ranTo (evCall (cxX Tryz.prog bad [] [] ((44, pureFn l5) :: q0)) 1000 60 19 m121.args m121.h) m121.v m121.h' = true := by kernel_rfl
theorem m121_ok {σ : Nat → Int} {W0 : World} (hL : L0 W0) : MemoOk Tryz.prog 26623 σ W0 19 m121 := memo_ok fit (Known2.nil σ) (FnsOk.cons (pure_fn_ok (l5_ok hL)) ((q0_ok hL))) m121_run
noncomputable def h199 : H := hUpd h198 6539 [] [] []
noncomputable def h200 : H := hUpc h198 6709 [] [] [(2270, 0, [I 0]),
  (1060, 0, [.slice 2270 0 0 1 1 false]),
  (1017, 0, [I 16, .slice 3741 0 2 2 10 false, I 13]),
  (1049, 0, [IZ (-1), I 2147483632]),
  (1049, 2, [I 0, I 498])] [(1021, 1, 8, U 4), (1021, 1, 9, I 4), (1061, 0, 8, I 16)]
noncomputable def m122 : Memo := ⟨[.ptr 1061 0, I 0], h199, .agg [I 1, I 4, I 0, U 0, I 0, U 0, IZ (-1), I 0], h200⟩
theorem m122_run : ranTo (evCall (cxX Tryz.prog bad [] [] ((44, pureFn l5) :: q0)) 1000 60 19 m122.args m122.h) m122.v m122.h' = true := by kernel_rfl
theorem m122_ok {σ : Nat → Int} {W0 : World} (hL : L0 W0) : MemoOk Tryz.prog 26623 σ W0 19 m122 := memo_ok fit (Known2.nil σ) (FnsOk.cons (pure_fn_ok (l5_ok hL)) ((q0_ok hL))) m122_run
noncomputable def l16 : List (Memo) := m122 :: m121 :: m120 :: m119 :: m118 :: m117 :: m116 :: m115 :: m114 :: m113 :: m112 :: m111 :: m110 :: m109 :: m108 :: m107 :: []
theorem l16_ok {σ : Nat → Int} {W0 : World} (hL : L0 W0) : ∀ x ∈ l16, MemoOk Tryz.prog 26623 σ W0 19 x := all_cons (m122_ok hL) (all_cons (m121_ok hL) (all_cons (m120_ok hL) (all_cons (m119_ok hL) (all_cons (m118_ok hL) (all_cons (m117_ok hL) (all_cons (m116_ok hL) (all_cons (m115_ok hL) (all_cons (m114_ok hL) (all_cons (m113_ok hL) (all_cons (m112_ok hL) (all_cons (m111_ok hL) (all_cons (m110_ok hL) (all_cons (m109_ok hL) (all_cons (m108_ok hL) (all_cons (m107_ok hL) (all_nil))))))))))))))))
noncomputable def q5 : Fns := [(7, pureFn [p0]), (14, frameFn [m106]), (295, isFn 453), (122, atoiFullFn 384), (123, itoaFullFn), (195, joinFn), (307, countFn), (352, indexFn), (308, cutOf Tryz.prog 26623 bad [(307, countFn), (352, indexFn)] 1000 20 308)]
theorem q5_ok {σ : Nat → Int} {W0 : World} (hL : L0 W0) : FnsOk Tryz.prog 26623 σ W0 q5 := FnsOk.cons (pure_fn_ok (all_cons (p0_ok hL) (all_nil))) (FnsOk.cons (frame_fn_ok (all_cons (m106_ok hL) (all_nil))) (FnsOk.cons (ext_is hL) (FnsOk.cons (ext_atoi hL) (FnsOk.cons (ext_itoa hL) (FnsOk.cons (ext_join hL) (FnsOk.cons (ext_count hL) (FnsOk.cons (ext_index hL) (FnsOk.cons (ext_cut308 hL) (FnsOk.nil)))))))))
theorem run6 : isTrue (evCall (cxX Tryz.prog bad [] [] ((8, numExtE [(0, 9, .lit 3)]) :: (19, frameFn l16) :: (44, pureFn l10) :: (9, frameFn [m10, m104]) :: q5)) 1000 60 4 [.int .i64 (.var 0), bF] (sentH 453 20 errTab)) = true := by kernel_rfl
theorem case6 : CaseS [] [] [(0, 9, .lit 3)] [.int .i64 (.var 0), bF] := caseS (fun hL hk hT => FnsOk.cons (hT.ok fit) (FnsOk.cons (frame_fn_ok (l16_ok hL)) (FnsOk.cons (pure_fn_ok (l10_ok hL)) (FnsOk.cons (frame_fn_ok (all_cons (m10_ok hL) (all_cons (m104_ok hL) (all_nil)))) ((q5_ok hL)))))) run6
theorem run7 : isTrue (evCall (cxX Tryz.prog bad [] [] ((8, numExtE [(0, 9, .lit 3)]) :: (19, frameFn l13) :: (44, pureFn l10) :: (9, frameFn [m10, m52]) :: q2)) 1000 60 4 [.int .i64 (.var 0), bT] (sentH 453 20 errTab)) = true := by kernel_rfl
theorem case7 : CaseS [] [] [(0, 9, .lit 3)] [.int .i64 (.var 0), bT] := caseS (fun hL hk hT => FnsOk.cons (hT.ok fit) (FnsOk.cons (frame_fn_ok (l13_ok hL)) (FnsOk.cons (pure_fn_ok (l10_ok hL)) (FnsOk.cons (frame_fn_ok (all_cons (m10_ok hL) (all_cons (m52_ok hL) (all_nil)))) ((q2_ok hL)))))) run7
noncomputable def m123 : Memo := ⟨[bT, I 5, .snil, .slice 757 0 4 4 1 true], h29, .agg [.slice 1002 0 4 4 1 false, I 5, .snil, bT], h30⟩
theorem m123_run : ranTo (evCall (cxX Tryz.prog bad [] [] ((84, frameFn l1) :: q0)) 1000 60 9 m123.args m123.h) m123.v m123.h' = true := by kernel_rfl
theorem m123_ok {σ : Nat → Int} {W0 : World} (hL : L0 W0) : MemoOk Tryz.prog 26623 σ W0 9 m123 := memo_ok fit (Known2.nil σ) (FnsOk.cons (frame_fn_ok (l1_ok hL)) ((q0_ok hL))) m123_run
noncomputable def h201 : H := hUpd h166 2046 [] [] [(1049, 2, [I 0, I 5])]
noncomputable def m124 : Memo := ⟨[.ptr 1061 0, .agg [.slice 1002 0 4 4 1 false, I 5, .snil, bT]], h33, .tuple [I 1, .inil], h201⟩
theorem m124_run : ranTo (evCall (cxX Tryz.prog bad [] [] ((44, pureFn l3) :: q0)) 1000 60 88 m124.args m124.h) m124.v m124.h' = true := by kernel_rfl
theorem m124_ok {σ : Nat → Int} {W0 : World} (hL : L0 W0) : MemoOk Tryz.prog 26623 σ W0 88 m124 := memo_ok fit (Known2.nil σ) (FnsOk.cons (pure_fn_ok (l3_ok hL)) ((q0_ok hL))) m124_run
noncomputable def h202 : H := hUpc h167 1005 [] [] [] [(1004, 1, 1, I 5)]
noncomputable def h203 : H := hUpc h168 2271 [] [] [(1049, 2, [I 0, I 5])] [(1004, 1, 1, I 5)]
noncomputable def m125 : Memo := ⟨[.slice 1004 0 2 2 4 true], h202, .ptr 1061 0, h203⟩
theorem m125_run : ranTo (evCall (cxX Tryz.prog bad [] [] ((44, pureFn l4) :: (88, frameFn [m26, m124]) :: q0)) 1000 60 14 m125.args m125.h) m125.v m125.h' = true := by kernel_rfl
theorem m125_ok {σ : Nat → Int} {W0 : World} (hL : L0 W0) : MemoOk Tryz.prog 26623 σ W0 14 m125 := memo_ok fit (Known2.nil σ) (FnsOk.cons (pure_fn_ok (l4_ok hL)) (FnsOk.cons (frame_fn_ok (all_cons (m26_ok hL) (all_cons (m124_ok hL) (all_nil)))) ((q0_ok hL)))) m125_run
noncomputable def h204 : H := hUpd h169 2379 [] [] [(1049, 2, [I 0, I 5])]
noncomputable def h205 : H := hUpd h170 2684 [] [] [(1049, 2, [I 0, I 4])]
noncomputable def m126 : Memo := ⟨[.ptr 1061 0, I 0], h204, .agg [I 1, I 3, I 0, U 0, I 0, U 0, IZ (-1), I 0], h205⟩
theorem m126_run : ranTo (evCall (cxX Tryz.prog bad [] [] ((44, pureFn l5) :: q0)) 1000 60 19 m126.args m126.h) m126.v m126.h' = true := by kernel_rfl
theorem m126_ok {σ : Nat → Int} {W0 : World} (hL : L0 W0) : MemoOk Tryz.prog 26623 σ W0 19 m126 := memo_ok fit (Known2.nil σ) (FnsOk.cons (pure_fn_ok (l5_ok hL)) ((q0_ok hL))) m126_run
noncomputable def h206 : H := hUpd h205 2685 [] [] []
noncomputable def h207 : H := hUpd h172 2856 [] [] [(1049, 2, [I 0, I 3])]
noncomputable def m127 : Memo := ⟨[.ptr 1061 0, I 0], h206, .agg [I 1, I 1, I 0, U 0, I 0, U 0, IZ (-1), I 0], h207⟩
theorem m127_run : ranTo (evCall (cxX Tryz.prog bad [] [] ((44, pureFn l5) :: q0)) 1000 60 19 m127.args m127.h) m127.v m127.h' = true := by kernel_rfl
theorem m127_ok {σ : Nat → Int} {W0 : World} (hL : L0 W0) : MemoOk Tryz.prog 26623 σ W0 19 m127 := memo_ok fit (Known2.nil σ) (FnsOk.cons (pure_fn_ok (l5_ok hL)) ((q0_ok hL))) m127_run
noncomputable def h208 : H := hUpd h207 2857 [] [] []
noncomputable def h209 : H := hUpd h174 3028 [] [] [(1049, 2, [I 0, I 2])]
noncomputable def m128 : Memo := ⟨[.ptr 1061 0, I 0], h208, .agg [I 1, I 3, I 0, U 0, I 0, U 0, IZ (-1), I 0], h209⟩
theorem m128_run : ranTo (evCall (cxX Tryz.prog bad [] [] ((44, pureFn l5) :: q0)) 1000 60 19 m128.args m128.h) m128.v m128.h' = true := by kernel_rfl
theorem m128_ok {σ : Nat → Int} {W0 : World} (hL : L0 W0) : MemoOk Tryz.prog 26623 σ W0 19 m128 := memo_ok fit (Known2.nil σ) (FnsOk.cons (pure_fn_ok (l5_ok hL)) ((q0_ok hL))) m128_run
noncomputable def h210 : H := hUpd h209 3029 [] [] []
noncomputable def h211 : H := hUpd h176 3200 [] [] [(1049, 2, [I 0, I 1])]
noncomputable def m129 : Memo := ⟨[.ptr 1061 0, I 0], h210, .agg [I 1, I 1, I 0, U 0, I 0, U 0, IZ (-1), I 0], h211⟩
theorem m129_run : ranTo (evCall (cxX Tryz.prog bad [] [] ((44, pureFn l5) :: q0)) 1000 60 19 m129.args m129.h) m129.v m129.h' = true := by kernel_rfl
theorem m129_ok {σ : Nat → Int} {W0 : World} (hL : L0 W0) : MemoOk Tryz.prog 26623 σ W0 19 m129 := memo_ok fit (Known2.nil σ) (FnsOk.cons (pure_fn_ok (l5_ok hL)) ((q0_ok hL))) m129_run
noncomputable def h212 : H := hUpd h211 3201 [] [] []
noncomputable def h213 : H := hUpc h174 3372 [] [] [(1017, 0, [I 16, .slice 2598 0 1 1 10 false, I 4]),
  (1049, 0, [IZ (-1), I 2147483642]),
  (1049, 2, [I 0, I 0])] [(1061, 0, 8, I 5)]
noncomputable def m130 : Memo := ⟨[.ptr 1061 0, I 0], h212, .agg [I 1, I 3, I 0, U 0, I 0, U 0, IZ (-1), I 0], h213⟩
theorem m130_run : ranTo (evCall (cxX Tryz.prog bad [] [] ((44, pureFn l5) :: q0)) 1000 60 19 m130.args m130.h) m130.v m130.h' = true := by kernel_rfl
theorem m130_ok {σ : Nat → Int} {W0 : World} (hL : L0 W0) : MemoOk Tryz.prog 26623 σ W0 19 m130 := memo_ok fit (Known2.nil σ) (FnsOk.cons (pure_fn_ok (l5_ok hL)) ((q0_ok hL))) m130_run
noncomputable def h214 : H := hUpd h213 3373 [] [] []
noncomputable def h215 : H := hUpc h178 3690 [] [] [(1017, 0, [I 16, .slice 2598 0 1 1 10 false, I 4]),
  (1049, 0, [IZ (-1), I 2147483642])] [(1021, 0, 1, U 1), (1021, 1, 8, U 1), (1061, 0, 8, I 6)]
noncomputable def m131 : Memo := ⟨[.ptr 1061 0, I 0], h214, .agg [I 1, I 5, I 0, U 0, I 0, U 0, I 0, I 6], h215⟩
theorem m131_run : ranTo (evCall (cxX Tryz.prog bad [] [] ((44, pureFn l6) :: q0)) 1000 60 19 m131.args m131.h) m131.v m131.h' = true := by kernel_rfl
theorem m131_ok {σ : Nat → Int} {W0 : World} (hL : L0 W0) : MemoOk Tryz.prog 26623 σ W0 19 m131 := memo_ok fit (Known2.nil σ) (FnsOk.cons (pure_fn_ok (l6_ok hL)) ((q0_ok hL))) m131_run
noncomputable def h216 : H := hUpd h215 3691 [] [] []
noncomputable def h217 : H := hUpc h180 4013 [3708, 3741] [(3880, .cells 1 ([[I 0]]) false),
  (3913, .cells 10 ([[I 2, I 1, I 0, I 0, U 1, U 0, .slice 2565 0 1 1 1 false, I 2, I 0, bF], [I 2, I 0, I 0, I 0, U 1, U 0, .slice 3880 0 1 1 1 false, I 0, I 0, bF]]) false)] [(1017, 0, [I 16, .slice 3913 0 2 2 10 false, I 4]),
  (1049, 0, [IZ (-1), I 2147483641])] [(1021, 0, 1, U 1), (1021, 1, 8, U 1), (1061, 0, 8, I 7)]
noncomputable def m132 : Memo := ⟨[.ptr 1061 0, I 0], h216, .agg [I 0, I 1, I 0, U 0, I 0, U 0, IZ (-1), I 0], h217⟩
theorem m132_run : ranTo (evCall (cxX Tryz.prog bad [] [] ((44, pureFn l7) :: q0)) 1000 60 19 m132.args m132.h) m132.v m132.h' = true := by kernel_rfl
theorem m132_ok {σ : Nat → Int} {W0 : World} (hL : L0 W0) : MemoOk Tryz.prog 26623 σ W0 19 m132 := memo_ok fit (Known2.nil σ) (FnsOk.cons (pure_fn_ok (l7_ok hL)) ((q0_ok hL))) m132_run
noncomputable def h218 : H := hUpd h217 4014 [] [] []
noncomputable def h219 : H := hUpc h217 4202 [] [] [(1017, 0, [I 16, .slice 3913 0 2 2 10 false, I 5]),
  (1049, 0, [IZ (-1), I 2147483640]),
  (1049, 1, [I 0, I 498])] [(1021, 0, 8, U 2), (1021, 0, 41, I 4), (1021, 0, 42, I 1), (1061, 0, 8, I 8)]
noncomputable def m133 : Memo := ⟨[.ptr 1061 0, I 0], h218, .agg [I 0, I 1, I 0, U 0, I 0, U 0, IZ (-1), I 0], h219⟩
theorem m133_run : ranTo (evCall (cxX Tryz.prog bad [] [] ((44, pureFn l8) :: q0)) 1000 60 19 m133.args m133.h) m133.v m133.h' = true := by kernel_rfl
theorem m133_ok {σ : Nat → Int} {W0 : World} (hL : L0 W0) : MemoOk Tryz.prog 26623 σ W0 19 m133 := memo_ok fit (Known2.nil σ) (FnsOk.cons (pure_fn_ok (l8_ok hL)) ((q0_ok hL))) m133_run
noncomputable def h220 : H := hUpd h219 4203 [] [] []
noncomputable def h221 : H := hUpc h219 4386 [] [] [(1017, 0, [I 16, .slice 3913 0 2 2 10 false, I 6]),
  (1049, 0, [IZ (-1), I 2147483639]),
  (1049, 1, [I 0, I 497])] [(1021, 0, 0, U 1), (1021, 0, 8, U 3), (1061, 0, 8, I 9)]
noncomputable def m134 : Memo := ⟨[.ptr 1061 0, I 0], h220, .agg [I 0, I 1, I 0, U 0, I 0, U 0, IZ (-1), I 0], h221⟩
theorem m134_run : ranTo (evCall (cxX Tryz.prog bad [] [] ((44, pureFn l8) :: q0)) 1000 60 19 m134.args m134.h) m134.v m134.h' = true := by kernel_rfl
theorem m134_ok {σ : Nat → Int} {W0 : World} (hL : L0 W0) : MemoOk Tryz.prog 26623 σ W0 19 m134 := memo_ok fit (Known2.nil σ) (FnsOk.cons (pure_fn_ok (l8_ok hL)) ((q0_ok hL))) m134_run
noncomputable def h222 : H := hUpd h221 4387 [] [] []
noncomputable def h223 : H := hUpc h221 4570 [] [] [(1017, 0, [I 16, .slice 3913 0 2 2 10 false, I 7]),
  (1049, 0, [IZ (-1), I 2147483638]),
  (1049, 1, [I 0, I 496])] [(1021, 0, 1, U 500), (1021, 0, 8, U 4), (1061, 0, 8, I 10)]
noncomputable def m135 : Memo := ⟨[.ptr 1061 0, I 0], h222, .agg [I 0, I 1, I 0, U 0, I 0, U 0, IZ (-1), I 0], h223⟩
theorem m135_run : ranTo (evCall (cxX Tryz.prog bad [] [] ((44, pureFn l8) :: q0)) 1000 60 19 m135.args m135.h) m135.v m135.h' = true := by kernel_rfl
theorem m135_ok {σ : Nat → Int} {W0 : World} (hL : L0 W0) : MemoOk Tryz.prog 26623 σ W0 19 m135 := memo_ok fit (Known2.nil σ) (FnsOk.cons (pure_fn_ok (l8_ok hL)) ((q0_ok hL))) m135_run
noncomputable def h224 : H := hUpd h223 4571 [] [] []
noncomputable def h225 : H := hUpc h219 5112 [] [] [(1017, 0, [I 16, .slice 3913 0 2 2 10 false, I 8]),
  (1049, 0, [IZ (-1), I 2147483637]),
  (1049, 1, [I 0, I 495]),
  (1049, 2, [I 0, I 500])] [(1021, 0, 0, U 0), (1021, 0, 1, U 0), (1021, 0, 3, U 0), (1021, 0, 4, U 0), (1021, 0, 8, U 5), (1021, 0, 71, I 0), (1021, 0, 72, I 0), (1021, 0, 86, I 0), (1021, 0, 87, I 0), (1021, 0, 90, U 0), (1061, 0, 8, I 11)]
noncomputable def m136 : Memo := ⟨[.ptr 1061 0, I 0], h224, .agg [I 0, I 2, I 0, U 1, I 7, U 0, IZ (-1), I 0], h225⟩
theorem m136_run : ranTo (evCall (cxX Tryz.prog bad [] [] ((44, pureFn l8) :: q0)) 1000 60 19 m136.args m136.h) m136.v m136.h' = true := by kernel_rfl
theorem m136_ok {σ : Nat → Int} {W0 : World} (hL : L0 W0) : MemoOk Tryz.prog 26623 σ W0 19 m136 := memo_ok fit (Known2.nil σ) (FnsOk.cons (pure_fn_ok (l8_ok hL)) ((q0_ok hL))) m136_run
noncomputable def h226 : H := hUpd h225 5113 [] [] []
noncomputable def h227 : H := hUpc h225 5296 [] [] [(1017, 0, [I 16, .slice 3913 0 2 2 10 false, I 9]),
  (1049, 0, [IZ (-1), I 2147483636]),
  (1049, 1, [I 0, I 494])] [(1021, 0, 0, U 6), (1021, 0, 8, U 6), (1061, 0, 8, I 12)]
noncomputable def m137 : Memo := ⟨[.ptr 1061 0, I 0], h226, .agg [I 0, I 1, I 0, U 0, I 0, U 0, IZ (-1), I 0], h227⟩
theorem m137_run : ranTo (evCall (cxX Tryz.prog bad [] [] ((44, pureFn l8) :: q0)) 1000 60 19 m137.args m137.h) m137.v m137.h' = true := by kernel_rfl
theorem m137_ok {σ : Nat → Int} {W0 : World} (hL : L0 W0) : MemoOk Tryz.prog 26623 σ W0 19 m137 := memo_ok fit (Known2.nil σ) (FnsOk.cons (pure_fn_ok (l8_ok hL)) ((q0_ok hL))) m137_run
noncomputable def h228 : H := hUpd h227 5297 [] [] []
noncomputable def h229 : H := hUpc h227 5480 [] [] [(1017, 0, [I 16, .slice 3913 0 2 2 10 false, I 10]),
  (1049, 0, [IZ (-1), I 2147483635]),
  (1049, 1, [I 0, I 493])] [(1021, 0, 1, U 2), (1021, 0, 8, U 7), (1061, 0, 8, I 13)]
noncomputable def m138 : Memo := ⟨[.ptr 1061 0, I 0], h228, .agg [I 0, I 1, I 0, U 0, I 0, U 0, IZ (-1), I 0], h229⟩
theorem m138_run : ranTo (evCall (cxX Tryz.prog bad [] [] ((44, pureFn l8) :: q0)) 1000 60 19 m138.args m138.h) m138.v m138.h' = true := by kernel_rfl
theorem m138_ok {σ : Nat → Int} {W0 : World} (hL : L0 W0) : MemoOk Tryz.prog 26623 σ W0 19 m138 := memo_ok fit (Known2.nil σ) (FnsOk.cons (pure_fn_ok (l8_ok hL)) ((q0_ok hL))) m138_run
noncomputable def h230 : H := hUpd h229 5481 [] [] []
noncomputable def h231 : H := hUpc h225 6024 [] [] [(1017, 0, [I 16, .slice 3913 0 2 2 10 false, I 11]),
  (1049, 0, [IZ (-1), I 2147483634]),
  (1049, 1, [I 0, I 492])] [(1021, 0, 8, U 8), (1021, 1, 8, U 2), (1061, 0, 8, I 14)]
noncomputable def m139 : Memo := ⟨[.ptr 1061 0, I 0], h230, .agg [I 0, I 2, I 0, U 6, I 4, U 0, IZ (-1), I 0], h231⟩
theorem m139_run : ranTo (evCall (cxX Tryz.prog bad [] [] ((44, pureFn l9) :: q0)) 1000 60 19 m139.args m139.h) m139.v m139.h' = true := by kernel_rfl
theorem m139_ok {σ : Nat → Int} {W0 : World} (hL : L0 W0) : MemoOk Tryz.prog 26623 σ W0 19 m139 := memo_ok fit (Known2.nil σ) (FnsOk.cons (pure_fn_ok (l9_ok hL)) ((q0_ok hL))) m139_run
noncomputable def h232 : H := hUpd h231 6025 [] [] []
noncomputable def h233 : H := hUpc h231 6529 [] [] [(2270, 0, [I 1]),
  (1017, 0, [I 16, .slice 3913 0 2 2 10 false, I 12]),
  (1049, 0, [IZ (-1), I 2147483633]),
  (1049, 1, [I 0, I 491])] [(1021, 0, 8, U 9), (1021, 0, 9, I 1), (1021, 1, 9, I 3), (1061, 0, 8, I 15)]
noncomputable def m140 : Memo := ⟨[.ptr 1061 0, I 0], h232, .agg [I 0, I 2, I 1, U 0, I 6, U 0, I 1, I 0], h233⟩
theorem m140_run : ranTo (evCall (cxX Tryz.prog bad [] [] ((44, pureFn l9) :: q0)) 1000 60 19 m140.args m140.h) m140.v m140.h' = true := by kernel_rfl
theorem m140_ok {σ : Nat → Int} {W0 : World} (hL : L0 W0) : MemoOk Tryz.prog 26623 σ W0 19 m140 := memo_ok fit (Known2.nil σ) (FnsOk.cons (pure_fn_ok (l9_ok hL)) ((q0_ok hL))) m140_run
noncomputable def h234 : H := hUpd h233 6530 [] [] []
noncomputable def h235 : H := hUpc h233 6710 [] [] [(1017, 0, [I 16, .slice 3913 0 2 2 10 false, I 13]),
  (1049, 0, [IZ (-1), I 2147483632]),
  (1049, 2, [I 0, I 499])] [(1021, 1, 5, U 77), (1021, 1, 8, U 3), (1061, 0, 8, I 16)]
noncomputable def m141 : Memo := ⟨[.ptr 1061 0, I 0], h234, .agg [I 1, I 1, I 0, U 0, I 0, U 0, IZ (-1), I 0], h235⟩
theorem m141_run : ranTo (evCall (cxX Tryz.prog bad [] [] ((44, pureFn l5) :: q0)) 1000 60 19 m141.args m141.h) m141.v m141.h' = true := by kernel_rfl
theorem m141_ok {σ : Nat → Int} {W0 : World} (hL : L0 W0) : MemoOk Tryz.prog 26623 σ W0 19 m141 := memo_ok fit (Known2.nil σ) (FnsOk.cons (pure_fn_ok (l5_ok hL)) ((q0_ok hL))) m141_run
noncomputable def h236 : H := hUpd h235 6711 [] [] []
noncomputable def h237 : H := hUpc h235 6881 [] [] [(2270, 0, [I 0]),
  (1060, 0, [.slice 2270 0 0 1 1 false]),
  (1017, 0, [I 16, .slice 3913 0 2 2 10 false, I 14]),
  (1049, 0, [IZ (-1), I 2147483631]),
  (1049, 2, [I 0, I 498])] [(1021, 1, 8, U 4), (1021, 1, 9, I 4), (1061, 0, 8, I 17)]
noncomputable def m142 : Memo := ⟨[.ptr 1061 0, I 0], h236, .agg [I 1, I 4, I 0, U 0, I 0, U 0, IZ (-1), I 0], h237⟩
theorem m142_run : ranTo (evCall (cxX Tryz.prog bad [] [] ((44, pureFn l5) :: q0)) 1000 60 19 m142.args m142.h) m142.v m142.h' = true := by kernel_rfl
theorem m142_ok {σ : Nat → Int} {W0 : World} (hL : L0 W0) : MemoOk Tryz.prog 26623 σ W0 19 m142 := memo_ok fit (Known2.nil σ) (FnsOk.cons (pure_fn_ok (l5_ok hL)) ((q0_ok hL))) m142_run
noncomputable def l17 : List (Memo) := m142 :: m141 :: m140 :: m139 :: m138 :: m137 :: m136 :: m135 :: m134 :: m133 :: m132 :: m131 :: m130 :: m129 :: m128 :: m127 :: m126 :: []
theorem l17_ok {σ : Nat → Int} {W0 : World} (hL : L0 W0) : ∀ x ∈ l17, MemoOk Tryz.prog 26623 σ W0 19 x := all_cons (m142_ok hL) (all_cons (m141_ok hL) (all_cons (m140_ok hL) (all_cons (m139_ok hL) (all_cons (m138_ok hL) (all_cons (m137_ok hL) (all_cons (m136_ok hL) (all_cons (m135_ok hL) (all_cons (m134_ok hL) (all_cons (m133_ok hL) (all_cons (m132_ok hL) (all_cons (m131_ok hL) (all_cons (m130_ok hL) (all_cons (m129_ok hL) (all_cons (m128_ok hL) (all_cons (m127_ok hL) (all_cons (m126_ok hL) (all_nil)))))))))))))))))
noncomputable def q6 : Fns := [(7, pureFn [p0]), (14, frameFn [m125]), (295, isFn 453), (122, atoiFullFn 384), (123, itoaFullFn), (195, joinFn), (307, countFn), (352, indexFn), (308, cutOf Tryz.prog 26623 bad [(307, countFn), (352, indexFn)] 1000 20 308)]
theorem q6_ok {σ : Nat → Int} {W0 : World} (hL : L0 W0) : FnsOk Tryz.prog 26623 σ W0 q6 := FnsOk.cons (pure_fn_ok (all_cons (p0_ok hL) (all_nil))) (FnsOk.cons (frame_fn_ok (all_cons (m125_ok hL) (all_nil))) (FnsOk.cons (ext_is hL) (FnsOk.cons (ext_atoi hL) (FnsOk.cons (ext_itoa hL) (FnsOk.cons (ext_join hL) (FnsOk.cons (ext_count hL) (FnsOk.cons (ext_index hL) (FnsOk.cons (ext_cut308 hL) (FnsOk.nil)))))))))
theorem run8 : isTrue (evCall (cxX Tryz.prog bad [] [] ((8, numExtE [(0, 9, .lit 4)]) :: (19, frameFn l17) :: (44, pureFn l10) :: (9, frameFn [m10, m123]) :: q6)) 1000 60 4 [.int .i64 (.var 0), bF] (sentH 453 20 errTab)) = true := by kernel_rfl
theorem case8 : CaseS [] [] [(0, 9, .lit 4)] [.int .i64 (.var 0), bF] := caseS (fun hL hk hT => FnsOk.cons (hT.ok fit) (FnsOk.cons (frame_fn_ok (l17_ok hL)) (FnsOk.cons (pure_fn_ok (l10_ok hL)) (FnsOk.cons (frame_fn_ok (all_cons (m10_ok hL) (all_cons (m123_ok hL) (all_nil)))) ((q6_ok hL)))))) run8
theorem run9 : isTrue (evCall (cxX Tryz.prog bad [] [] ((8, numExtE [(0, 9, .lit 4)]) :: (19, frameFn l13) :: (44, pureFn l10) :: (9, frameFn [m10, m52]) :: q2)) 1000 60 4 [.int .i64 (.var 0), bT] (sentH 453 20 errTab)) = true := by kernel_rfl
theorem case9 : CaseS [] [] [(0, 9, .lit 4)] [.int .i64 (.var 0), bT] := caseS (fun hL hk hT => FnsOk.cons (hT.ok fit) (FnsOk.cons (frame_fn_ok (l13_ok hL)) (FnsOk.cons (pure_fn_ok (l10_ok hL)) (FnsOk.cons (frame_fn_ok (all_cons (m10_ok hL) (all_cons (m52_ok hL) (all_nil)))) ((q2_ok hL)))))) run9
noncomputable def m143 : Memo := ⟨[bT, I 6, .snil, .slice 757 0 4 4 1 true], h29, .agg [.slice 1002 0 4 4 1 false, I 6, .snil, bT], h30⟩
theorem m143_run : ranTo (evCall (cxX Tryz.prog bad [] [] ((84, frameFn l1) :: q0)) 1000 60 9 m143.args m143.h) m143.v m143.h' = true := by kernel_rfl
theorem m143_ok {σ : Nat → Int} {W0 : World} (hL : L0 W0) : MemoOk Tryz.prog 26623 σ W0 9 m143 := memo_ok fit (Known2.nil σ) (FnsOk.cons (frame_fn_ok (l1_ok hL)) ((q0_ok hL))) m143_run
noncomputable def h238 : H := hUpd h201 2046 [] [] [(1049, 2, [I 0, I 6])]
noncomputable def m144 : Memo := ⟨[.ptr 1061 0, .agg [.slice 1002 0 4 4 1 false, I 6, .snil, bT]], h33, .tuple [I 1, .inil], h238⟩
theorem m144_run : ranTo (evCall (cxX Tryz.prog bad [] [] ((44, pureFn l3) :: q0)) 1000 60 88 m144.args m144.h) m144.v m144.h' = true := by kernel_rfl
theorem m144_ok {σ : Nat → Int} {W0 : World} (hL : L0 W0) : MemoOk Tryz.prog 26623 σ W0 88 m144 := memo_ok fit (Known2.nil σ) (FnsOk.cons (pure_fn_ok (l3_ok hL)) ((q0_ok hL))) m144_run
noncomputable def h239 : H := hUpc h202 1005 [] [] [] [(1004, 1, 1, I 6)]
noncomputable def h240 : H := hUpc h203 2271 [] [] [(1049, 2, [I 0, I 6])] [(1004, 1, 1, I 6)]
noncomputable def m145 : Memo := ⟨[.slice 1004 0 2 2 4 true], h239, .ptr 1061 0, h240⟩
theorem m145_run : ranTo (evCall (cxX Tryz.prog bad [] [] ((44, pureFn l4) :: (88, frameFn [m26, m144]) :: q0)) 1000 60 14 m145.args m145.h) m145.v m145.h' = true := by kernel_rfl
theorem m145_ok {σ : Nat → Int} {W0 : World} (hL : L0 W0) : MemoOk Tryz.prog 26623 σ W0 14 m145 := memo_ok fit (Known2.nil σ) (FnsOk.cons (pure_fn_ok (l4_ok hL)) (FnsOk.cons (frame_fn_ok (all_cons (m26_ok hL) (all_cons (m144_ok hL) (all_nil)))) ((q0_ok hL)))) m145_run
noncomputable def h241 : H := hUpd h204 2379 [] [] [(1049, 2, [I 0, I 6])]
noncomputable def h242 : H := hUpd h205 2684 [] [] [(1049, 2, [I 0, I 5])]
noncomputable def m146 : Memo := ⟨[.ptr 1061 0, I 0], h241, .agg [I 1, I 3, I 0, U 0, I 0, U 0, IZ (-1), I 0], h242⟩
theorem m146_run : ranTo (evCall (cxX Tryz.prog bad [] [] ((44, pureFn l5) :: q0)) 1000 60 19 m146.args m146.h) m146.v m146.h' = true := by kernel_rfl
theorem m146_ok {σ : Nat → Int} {W0 : World} (hL : L0 W0) : MemoOk Tryz.prog 26623 σ W0 19 m146 := memo_ok fit (Known2.nil σ) (FnsOk.cons (pure_fn_ok (l5_ok hL)) ((q0_ok hL))) m146_run
noncomputable def h243 : H := hUpd h242 2685 [] [] []
noncomputable def h244 : H := hUpd h207 2856 [] [] [(1049, 2, [I 0, I 4])]
noncomputable def m147 : Memo := ⟨[.ptr 1061 0, I 0], h243, .agg [I 1, I 1, I 0, U 0, I 0, U 0, IZ (-1), I 0], h244⟩
theorem m147_run : ranTo (evCall (cxX Tryz.prog bad [] [] ((44, pureFn l5) :: q0)) 1000 60 19 m147.args m147.h) m147.v m147.h' = true := by kernel_rfl
theorem m147_ok {σ : Nat → Int} {W0 : World} (hL : L0 W0) : MemoOk Tryz.prog 26623 σ W0 19 m147 := memo_ok fit (Known2.nil σ) (FnsOk.cons (pure_fn_ok (l5_ok hL)) ((q0_ok hL))) m147_run
noncomputable def h245 : H := hUpd h244 2857 [] [] []
noncomputable def h246 : H := hUpd h209 3028 [] [] [(1049, 2, [I 0, I 3])]
noncomputable def m148 : Memo := ⟨[.ptr 1061 0, I 0], h245, .agg [I 1, I 3, I 0, U 0, I 0, U 0, IZ (-1), I 0], h246⟩
theorem m148_run : ranTo (evCall (cxX Tryz.prog bad [] [] ((44, pureFn l5) :: q0)) 1000 60 19 m148.args m148.h) m148.v m148.h' = true := by kernel_rfl
theorem m148_ok {σ : Nat → Int} {W0 : World} (hL : L0 W0) : MemoOk Tryz.prog 26623 σ W0 19 m148 := memo_ok fit (Known2.nil σ) (FnsOk.cons (pure_fn_ok (l5_ok hL)) ((q0_ok hL))) m148_run
noncomputable def h247 : H := hUpd h246 3029 [] [] []
noncomputable def h248 : H := hUpd h211 3200 [] [] [(1049, 2, [I 0, I 2])]
noncomputable def m149 : Memo := ⟨[.ptr 1061 0, I 0], h247, .agg [I 1, I 1, I 0, U 0, I 0, U 0, IZ (-1), I 0], h248⟩
theorem m149_run : ranTo (evCall (cxX Tryz.prog bad [] [] ((44, pureFn l5) :: q0)) 1000 60 19 m149.args m149.h) m149.v m149.h' = true := by kernel_rfl
theorem m149_ok {σ : Nat → Int} {W0 : World} (hL : L0 W0) : MemoOk Tryz.prog 26623 σ W0 19 m149 := memo_ok fit (Known2.nil σ) (FnsOk.cons (pure_fn_ok (l5_ok hL)) ((q0_ok hL))) m149_run
noncomputable def h249 : H := hUpd h248 3201 [] [] []
noncomputable def h250 : H := hUpd h213 3372 [] [] [(1049, 2, [I 0, I 1])]
noncomputable def m150 : Memo := ⟨[.ptr 1061 0, I 0], h249, .agg [I 1, I 3, I 0, U 0, I 0, U 0, IZ (-1), I 0], h250⟩
theorem m150_run : ranTo (evCall (cxX Tryz.prog bad [] [] ((44, pureFn l5) :: q0)) 1000 60 19 m150.args m150.h) m150.v m150.h' = true := by kernel_rfl
theorem m150_ok {σ : Nat → Int} {W0 : World} (hL : L0 W0) : MemoOk Tryz.prog 26623 σ W0 19 m150 := memo_ok fit (Known2.nil σ) (FnsOk.cons (pure_fn_ok (l5_ok hL)) ((q0_ok hL))) m150_run
noncomputable def h251 : H := hUpd h250 3373 [] [] []
noncomputable def h252 : H := hUpc h212 3544 [] [] [(1017, 0, [I 16, .slice 2598 0 1 1 10 false, I 5]),
  (1049, 0, [IZ (-1), I 2147483641]),
  (1049, 2, [I 0, I 0])] [(1061, 0, 8, I 6)]
noncomputable def m151 : Memo := ⟨[.ptr 1061 0, I 0], h251, .agg [I 1, I 1, I 0, U 0, I 0, U 0, IZ (-1), I 0], h252⟩
theorem m151_run : ranTo (evCall (cxX Tryz.prog bad [] [] ((44, pureFn l5) :: q0)) 1000 60 19 m151.args m151.h) m151.v m151.h' = true := by kernel_rfl
theorem m151_ok {σ : Nat → Int} {W0 : World} (hL : L0 W0) : MemoOk Tryz.prog 26623 σ W0 19 m151 := memo_ok fit (Known2.nil σ) (FnsOk.cons (pure_fn_ok (l5_ok hL)) ((q0_ok hL))) m151_run
noncomputable def h253 : H := hUpd h252 3545 [] [] []
noncomputable def h254 : H := hUpc h215 3862 [] [] [(1017, 0, [I 16, .slice 2598 0 1 1 10 false, I 5]),
  (1049, 0, [IZ (-1), I 2147483641])] [(1021, 0, 1, U 0), (1021, 1, 8, U 0), (1061, 0, 8, I 7)]
noncomputable def m152 : Memo := ⟨[.ptr 1061 0, I 0], h253, .agg [I 1, I 5, I 0, U 0, I 0, U 0, I 0, I 6], h254⟩
theorem m152_run : ranTo (evCall (cxX Tryz.prog bad [] [] ((44, pureFn l6) :: q0)) 1000 60 19 m152.args m152.h) m152.v m152.h' = true := by kernel_rfl
theorem m152_ok {σ : Nat → Int} {W0 : World} (hL : L0 W0) : MemoOk Tryz.prog 26623 σ W0 19 m152 := memo_ok fit (Known2.nil σ) (FnsOk.cons (pure_fn_ok (l6_ok hL)) ((q0_ok hL))) m152_run
noncomputable def h255 : H := hUpd h254 3863 [] [] []
noncomputable def h256 : H := hUpc h217 4185 [3880, 3913] [(4052, .cells 1 ([[I 0]]) false),
  (4085, .cells 10 ([[I 2, I 1, I 0, I 0, U 1, U 0, .slice 2565 0 1 1 1 false, I 2, I 0, bF], [I 2, I 0, I 0, I 0, U 1, U 0, .slice 4052 0 1 1 1 false, I 0, I 0, bF]]) false)] [(1017, 0, [I 16, .slice 4085 0 2 2 10 false, I 5]),
  (1049, 0, [IZ (-1), I 2147483640])] [(1021, 0, 1, U 0), (1021, 1, 8, U 0), (1061, 0, 8, I 8)]
noncomputable def m153 : Memo := ⟨[.ptr 1061 0, I 0], h255, .agg [I 0, I 1, I 0, U 0, I 0, U 0, IZ (-1), I 0], h256⟩
theorem m153_run : ranTo (evCall (cxX Tryz.prog bad [] [] ((44, pureFn l7) :: q0)) 1000 60 19 m153.args m153.h) m153.v m153.h' = true := by kernel_rfl
theorem m153_ok {σ : Nat → Int} {W0 : World} (hL : L0 W0) : MemoOk Tryz.prog 26623 σ W0 19 m153 := memo_ok fit (Known2.nil σ) (FnsOk.cons (pure_fn_ok (l7_ok hL)) ((q0_ok hL))) m153_run
noncomputable def h257 : H := hUpd h256 4186 [] [] []
noncomputable def h258 : H := hUpc h256 4374 [] [] [(1017, 0, [I 16, .slice 4085 0 2 2 10 false, I 6]),
  (1049, 0, [IZ (-1), I 2147483639]),
  (1049, 1, [I 0, I 498])] [(1021, 0, 8, U 2), (1021, 0, 41, I 4), (1021, 0, 42, I 1), (1061, 0, 8, I 9)]
noncomputable def m154 : Memo := ⟨[.ptr 1061 0, I 0], h257, .agg [I 0, I 1, I 0, U 0, I 0, U 0, IZ (-1), I 0], h258⟩
theorem m154_run : ranTo (evCall (cxX Tryz.prog bad [] [] ((44, pureFn l8) :: q0)) 1000 60 19 m154.args m154.h) m154.v m154.h' = true := by kernel_rfl
theorem m154_ok {σ : Nat → Int} {W0 : World} (hL : L0 W0) : MemoOk Tryz.prog 26623 σ W0 19 m154 := memo_ok fit (Known2.nil σ) (FnsOk.cons (pure_fn_ok (l8_ok hL)) ((q0_ok hL))) m154_run
noncomputable def h259 : H := hUpd h258 4375 [] [] []
noncomputable def h260 : H := hUpc h258 4558 [] [] [(1017, 0, [I 16, .slice 4085 0 2 2 10 false, I 7]),
  (1049, 0, [IZ (-1), I 2147483638]),
  (1049, 1, [I 0, I 497])] [(1021, 0, 0, U 1), (1021, 0, 8, U 3), (1061, 0, 8, I 10)]
noncomputable def m155 : Memo := ⟨[.ptr 1061 0, I 0], h259, .agg [I 0, I 1, I 0, U 0, I 0, U 0, IZ (-1), I 0], h260⟩
theorem m155_run : ranTo (evCall (cxX Tryz.prog bad [] [] ((44, pureFn l8) :: q0)) 1000 60 19 m155.args m155.h) m155.v m155.h' = true := by kernel_rfl
theorem m155_ok {σ : Nat → Int} {W0 : World} (hL : L0 W0) : MemoOk Tryz.prog 26623 σ W0 19 m155 := memo_ok fit (Known2.nil σ) (FnsOk.cons (pure_fn_ok (l8_ok hL)) ((q0_ok hL))) m155_run
noncomputable def h261 : H := hUpd h260 4559 [] [] []
noncomputable def h262 : H := hUpc h260 4742 [] [] [(1017, 0, [I 16, .slice 4085 0 2 2 10 false, I 8]),
  (1049, 0, [IZ (-1), I 2147483637]),
  (1049, 1, [I 0, I 496])] [(1021, 0, 1, U 500), (1021, 0, 8, U 4), (1061, 0, 8, I 11)]
noncomputable def m156 : Memo := ⟨[.ptr 1061 0, I 0], h261, .agg [I 0, I 1, I 0, U 0, I 0, U 0, IZ (-1), I 0], h262⟩
theorem m156_run : ranTo (evCall (cxX Tryz.prog bad [] [] ((44, pureFn l8) :: q0)) 1000 60 19 m156.args m156.h) m156.v m156.h' = true := by kernel_rfl
theorem m156_ok {σ : Nat → Int} {W0 : World} (hL : L0 W0) : MemoOk Tryz.prog 26623 σ W0 19 m156 := memo_ok fit (Known2.nil σ) (FnsOk.cons (pure_fn_ok (l8_ok hL)) ((q0_ok hL))) m156_run
noncomputable def h263 : H := hUpd h262 4743 [] [] []
noncomputable def h264 : H := hUpc h258 5284 [] [] [(1017, 0, [I 16, .slice 4085 0 2 2 10 false, I 9]),
  (1049, 0, [IZ (-1), I 2147483636]),
  (1049, 1, [I 0, I 495]),
  (1049, 2, [I 0, I 500])] [(1021, 0, 0, U 0), (1021, 0, 3, U 0), (1021, 0, 4, U 0), (1021, 0, 8, U 5), (1021, 0, 71, I 0), (1021, 0, 72, I 0), (1021, 0, 86, I 0), (1021, 0, 87, I 0), (1021, 0, 90, U 0), (1061, 0, 8, I 12)]
noncomputable def m157 : Memo := ⟨[.ptr 1061 0, I 0], h263, .agg [I 0, I 2, I 0, U 1, I 7, U 0, IZ (-1), I 0], h264⟩
theorem m157_run : ranTo (evCall (cxX Tryz.prog bad [] [] ((44, pureFn l8) :: q0)) 1000 60 19 m157.args m157.h) m157.v m157.h' = true := by kernel_rfl
theorem m157_ok {σ : Nat → Int} {W0 : World} (hL : L0 W0) : MemoOk Tryz.prog 26623 σ W0 19 m157 := memo_ok fit (Known2.nil σ) (FnsOk.cons (pure_fn_ok (l8_ok hL)) ((q0_ok hL))) m157_run
noncomputable def h265 : H := hUpd h264 5285 [] [] []
noncomputable def h266 : H := hUpc h264 5468 [] [] [(1017, 0, [I 16, .slice 4085 0 2 2 10 false, I 10]),
  (1049, 0, [IZ (-1), I 2147483635]),
  (1049, 1, [I 0, I 494])] [(1021, 0, 0, U 6), (1021, 0, 8, U 6), (1061, 0, 8, I 13)]
noncomputable def m158 : Memo := ⟨[.ptr 1061 0, I 0], h265, .agg [I 0, I 1, I 0, U 0, I 0, U 0, IZ (-1), I 0], h266⟩
theorem m158_run : ranTo (evCall (cxX Tryz.prog bad [] [] ((44, pureFn l8) :: q0)) 1000 60 19 m158.args m158.h) m158.v m158.h' = true := by kernel_rfl
theorem m158_ok {σ : Nat → Int} {W0 : World} (hL : L0 W0) : MemoOk Tryz.prog 26623 σ W0 19 m158 := memo_ok fit (Known2.nil σ) (FnsOk.cons (pure_fn_ok (l8_ok hL)) ((q0_ok hL))) m158_run
noncomputable def h267 : H := hUpd h266 5469 [] [] []
noncomputable def h268 : H := hUpc h266 5652 [] [] [(1017, 0, [I 16, .slice 4085 0 2 2 10 false, I 11]),
  (1049, 0, [IZ (-1), I 2147483634]),
  (1049, 1, [I 0, I 493])] [(1021, 0, 1, U 2), (1021, 0, 8, U 7), (1061, 0, 8, I 14)]
noncomputable def m159 : Memo := ⟨[.ptr 1061 0, I 0], h267, .agg [I 0, I 1, I 0, U 0, I 0, U 0, IZ (-1), I 0], h268⟩
theorem m159_run : ranTo (evCall (cxX Tryz.prog bad [] [] ((44, pureFn l8) :: q0)) 1000 60 19 m159.args m159.h) m159.v m159.h' = true := by kernel_rfl
theorem m159_ok {σ : Nat → Int} {W0 : World} (hL : L0 W0) : MemoOk Tryz.prog 26623 σ W0 19 m159 := memo_ok fit (Known2.nil σ) (FnsOk.cons (pure_fn_ok (l8_ok hL)) ((q0_ok hL))) m159_run
noncomputable def h269 : H := hUpd h268 5653 [] [] []
noncomputable def h270 : H := hUpc h264 6196 [] [] [(1017, 0, [I 16, .slice 4085 0 2 2 10 false, I 12]),
  (1049, 0, [IZ (-1), I 2147483633]),
  (1049, 1, [I 0, I 492])] [(1021, 0, 8, U 8), (1021, 1, 8, U 2), (1061, 0, 8, I 15)]
noncomputable def m160 : Memo := ⟨[.ptr 1061 0, I 0], h269, .agg [I 0, I 2, I 0, U 6, I 4, U 0, IZ (-1), I 0], h270⟩
theorem m160_run : ranTo (evCall (cxX Tryz.prog bad [] [] ((44, pureFn l9) :: q0)) 1000 60 19 m160.args m160.h) m160.v m160.h' = true := by kernel_rfl
theorem m160_ok {σ : Nat → Int} {W0 : World} (hL : L0 W0) : MemoOk Tryz.prog 26623 σ W0 19 m160 := memo_ok fit (Known2.nil σ) (FnsOk.cons (pure_fn_ok (l9_ok hL)) ((q0_ok hL))) m160_run
noncomputable def h271 : H := hUpd h270 6197 [] [] []
noncomputable def h272 : H := hUpc h270 6701 [] [] [(2270, 0, [I 1]),
  (1017, 0, [I 16, .slice 4085 0 2 2 10 false, I 13]),
  (1049, 0, [IZ (-1), I 2147483632]),
  (1049, 1, [I 0, I 491])] [(1021, 0, 8, U 9), (1021, 0, 9, I 1), (1021, 1, 9, I 3), (1061, 0, 8, I 16)]
noncomputable def m161 : Memo := ⟨[.ptr 1061 0, I 0], h271, .agg [I 0, I 2, I 1, U 0, I 6, U 0, I 1, I 0], h272⟩
theorem m161_run : ranTo (evCall (cxX Tryz.prog bad [] [] ((44, pureFn l9) :: q0)) 1000 60 19 m161.args m161.h) m161.v m161.h' = true := by kernel_rfl
theorem m161_ok {σ : Nat → Int} {W0 : World} (hL : L0 W0) : MemoOk Tryz.prog 26623 σ W0 19 m161 := memo_ok fit (Known2.nil σ) (FnsOk.cons (pure_fn_ok (l9_ok hL)) ((q0_ok hL))) m161_run
noncomputable def h273 : H := hUpd h272 6702 [] [] []
noncomputable def h274 : H := hUpc h272 6882 [] [] [(1017, 0, [I 16, .slice 4085 0 2 2 10 false, I 14]),
  (1049, 0, [IZ (-1), I 2147483631]),
  (1049, 2, [I 0, I 499])] [(1021, 1, 5, U 77), (1021, 1, 8, U 3), (1061, 0, 8, I 17)]
noncomputable def m162 : Memo := ⟨[.ptr 1061 0, I 0], h273, .agg [I 1, I 1, I 0, U 0, I 0, U 0, IZ (-1), I 0], h274⟩
theorem m162_run : ranTo (evCall (cxX Tryz.prog bad [] [] ((44, pureFn l5) :: q0)) 1000 60 19 m162.args m162.h) m162.v m162.h' = true := by kernel_rfl
theorem m162_ok {σ : Nat → Int} {W0 : World} (hL : L0 W0) : MemoOk Tryz.prog 26623 σ W0 19 m162 := memo_ok fit (Known2.nil σ) (FnsOk.cons (pure_fn_ok (l5_ok hL)) ((q0_ok hL))) m162_run
noncomputable def h275 : H := hUpd h274 6883 [] [] []
noncomputable def h276 : H := hUpc h274 7053 [] [] [(2270, 0, [I 0]),
  (1060, 0, [.slice 2270 0 0 1 1 false]),
  (1017, 0, [I 16, .slice 4085 0 2 2 10 false, I 15]),
  (1049, 0, [IZ (-1), I 2147483630]),
  (1049, 2, [I 0, I 498])] [(1021, 1, 8, U 4), (1021, 1, 9, I 4), (1061, 0, 8, I 18)]
noncomputable def m163 : Memo := ⟨[.ptr 1061 0, I 0], h275, .agg [I 1, I 4, I 0, U 0, I 0, U 0, IZ (-1), I 0], h276⟩
theorem m163_run : ranTo (evCall (cxX Tryz.prog bad [] [] ((44, pureFn l5) :: q0)) 1000 60 19 m163.args m163.h) m163.v m163.h' = true := by kernel_rfl
theorem m163_ok {σ : Nat → Int} {W0 : World} (hL : L0 W0) : MemoOk Tryz.prog 26623 σ W0 19 m163 := memo_ok fit (Known2.nil σ) (FnsOk.cons (pure_fn_ok (l5_ok hL)) ((q0_ok hL))) m163_run
noncomputable def l18 : List (Memo) := m163 :: m162 :: m161 :: m160 :: m159 :: m158 :: m157 :: m156 :: m155 :: m154 :: m153 :: m152 :: m151 :: m150 :: m149 :: m148 :: m147 :: m146 :: []
theorem l18_ok {σ : Nat → Int} {W0 : World} (hL : L0 W0) : ∀ x ∈ l18, MemoOk Tryz.prog 26623 σ W0 19 x := all_cons (m163_ok hL) (all_cons (m162_ok hL) (all_cons (m161_ok hL) (all_cons (m160_ok hL) (all_cons (m159_ok hL) (all_cons (m158_ok hL) (all_cons (m157_ok hL) (all_cons (m156_ok hL) (all_cons (m155_ok hL) (all_cons (m154_ok hL) (all_cons (m153_ok hL) (all_cons (m152_ok hL) (all_cons (m151_ok hL) (all_cons (m150_ok hL) (all_cons (m149_ok hL) (all_cons (m148_ok hL) (all_cons (m147_ok hL) (all_cons (m146_ok hL) (all_nil))))))))))))))))))
noncomputable def q7 : Fns := [(7, pureFn [p0]), (14, frameFn [m145]), (295, isFn 453), (122, atoiFullFn 384), (123, itoaFullFn), (195, joinFn), (307, countFn), (352, indexFn), (308, cutOf Tryz.prog 26623 bad [(307, countFn), (352, indexFn)] 1000 20 308)]
theorem q7_ok {σ : Nat → Int} {W0 : World} (hL : L0 W0) : FnsOk Tryz.prog 26623 σ W0 q7 := FnsOk.cons (pure_fn_ok (all_cons (p0_ok hL) (all_nil))) (FnsOk.cons (frame_fn_ok (all_cons (m145_ok hL) (all_nil))) (FnsOk.cons (ext_is hL) (FnsOk.cons (ext_atoi hL) (FnsOk.cons (ext_itoa hL) (FnsOk.cons (ext_join hL) (FnsOk.cons (ext_count hL) (FnsOk.cons (ext_index hL) (FnsOk.cons (ext_cut308 hL) (FnsOk.nil)))))))))
theorem run10 : isTrue (evCall (cxX Tryz.prog bad [] [] ((8, numExtE [(0, 9, .lit 5)]) :: (19, frameFn l18) :: (44, pureFn l10) :: (9, frameFn [m10, m143]) :: q7)) 1000 60 4 [.int .i64 (.var 0), bF] (sentH 453 20 errTab)) = true := by kernel_rfl
theorem case10 : CaseS [] [] [(0, 9, .lit 5)] [.int .i64 (.var 0), bF] := caseS (fun hL hk hT => FnsOk.cons (hT.ok fit) (FnsOk.cons (frame_fn_ok (l18_ok hL)) (FnsOk.cons (pure_fn_ok (l10_ok hL)) (FnsOk.cons (frame_fn_ok (all_cons (m10_ok hL) (all_cons (m143_ok hL) (all_nil)))) ((q7_ok hL)))))) run10
theorem run11 : isTrue (evCall (cxX Tryz.prog bad [] [] ((8, numExtE [(0, 9, .lit 5)]) :: (19, frameFn l13) :: (44, pureFn l10) :: (9, frameFn [m10, m52]) :: q2)) 1000 60 4 [.int .i64 (.var 0), bT] (sentH 453 20 errTab)) = true := by kernel_rfl
theorem case11 : CaseS [] [] [(0, 9, .lit 5)] [.int .i64 (.var 0), bT] := caseS (fun hL hk hT => FnsOk.cons (hT.ok fit) (FnsOk.cons (frame_fn_ok (l13_ok hL)) (FnsOk.cons (pure_fn_ok (l10_ok hL)) (FnsOk.cons (frame_fn_ok (all_cons (m10_ok hL) (all_cons (m52_ok hL) (all_nil)))) ((q2_ok hL)))))) run11
noncomputable def m164 : Memo := ⟨[bT, I 7, .snil, .slice 757 0 4 4 1 true], h29, .agg [.slice 1002 0 4 4 1 false, I 7, .snil, bT], h30⟩
theorem m164_run : ranTo (evCall (cxX Tryz.prog bad [] [] ((84, frameFn l1) :: q0)) 1000 60 9 m164.args m164.h) m164.v m164.h' = true := by kernel_rfl
theorem m164_ok {σ : Nat → Int} {W0 : World} (hL : L0 W0) : MemoOk Tryz.prog 26623 σ W0 9 m164 := memo_ok fit (Known2.nil σ) (FnsOk.cons (frame_fn_ok (l1_ok hL)) ((q0_ok hL))) m164_run
noncomputable def h277 : H := hUpd h238 2046 [] [] [(1049, 2, [I 0, I 7])]
noncomputable def m165 : Memo := ⟨[.ptr 1061 0, .agg [.slice 1002 0 4 4 1 false, I 7, .snil, bT]], h33, .tuple [I 1, .inil], h277⟩
theorem m165_run : ranTo (evCall (cxX Tryz.prog bad [] [] ((44, pureFn l3) :: q0)) 1000 60 88 m165.args m165.h) m165.v m165.h' = true := by kernel_rfl
theorem m165_ok {σ : Nat → Int} {W0 : World} (hL : L0 W0) : MemoOk Tryz.prog 26623 σ W0 88 m165 := memo_ok fit (Known2.nil σ) (FnsOk.cons (pure_fn_ok (l3_ok hL)) ((q0_ok hL))) m165_run
noncomputable def h278 : H := hUpc h239 1005 [] [] [] [(1004, 1, 1, I 7)]
noncomputable def h279 : H := hUpc h240 2271 [] [] [(1049, 2, [I 0, I 7])] [(1004, 1, 1, I 7)]
noncomputable def m166 : Memo := ⟨[.slice 1004 0 2 2 4 true], h278, .ptr 1061 0, h279⟩
theorem m166_run : ranTo (evCall (cxX Tryz.prog bad [] [] ((44, pureFn l4) :: (88, frameFn [m26, m165]) :: q0)) 1000 60 14 m166.args m166.h) m166.v m166.h' = true := by kernel_rfl
theorem m166_ok {σ : Nat → Int} {W0 : World} (hL : L0 W0) : MemoOk Tryz.prog 26623 σ W0 14 m166 := memo_ok fit (Known2.nil σ) (FnsOk.cons (pure_fn_ok (l4_ok hL)) (FnsOk.cons (frame_fn_ok (all_cons (m26_ok hL) (all_cons (m165_ok hL) (all_nil)))) ((q0_ok hL)))) m166_run
noncomputable def h280 : H := hUpd h241 2379 [] [] [(1049, 2, [I 0, I 7])]
noncomputable def h281 : H := hUpd h242 2684 [] [] [(1049, 2, [I 0, I 6])]
noncomputable def m167 : Memo := ⟨[.ptr 1061 0, I 0], h280, .agg [I 1, I 3, I 0, U 0, I 0, U 0, IZ (-1), I 0], h281⟩
theorem m167_run : ranTo (evCall (cxX Tryz.prog bad [] [] ((44, pureFn l5) :: q0)) 1000 60 19 m167.args m167.h) m167.v m167.h' = true := by kernel_rfl
theorem m167_ok {σ : Nat → Int} {W0 : World} (hL : L0 W0) : MemoOk Tryz.prog 26623 σ W0 19 m167 := memo_ok fit (Known2.nil σ) (FnsOk.cons (pure_fn_ok (l5_ok hL)) ((q0_ok hL))) m167_run
noncomputable def h282 : H := hUpd h281 2685 [] [] []
noncomputable def h283 : H := hUpd h244 2856 [] [] [(1049, 2, [I 0, I 5])]
noncomputable def m168 : Memo := ⟨[.ptr 1061 0, I 0], h282, .agg [I 1, I 1, I 0, U 0, I 0, U 0, IZ (-1), I 0], h283⟩
theorem m168_run : ranTo (evCall (cxX Tryz.prog bad [] [] ((44, pureFn l5) :: q0)) 1000 60 19 m168.args m168.h) m168.v m168.h' = true := by kernel_rfl
theorem m168_ok {σ : Nat → Int} {W0 : World} (hL : L0 W0) : MemoOk Tryz.prog 26623 σ W0 19 m168 := memo_ok fit (Known2.nil σ) (FnsOk.cons (pure_fn_ok (l5_ok hL)) ((q0_ok hL))) m168_run
noncomputable def h284 : H := hUpd h283 2857 [] [] []
noncomputable def h285 : H := hUpd h246 3028 [] [] [(1049, 2, [I 0, I 4])]
noncomputable def m169 : Memo := ⟨[.ptr 1061 0, I 0], h284, .agg [I 1, I 3, I 0, U 0, I 0, U 0, IZ (-1), I 0], h285⟩
theorem m169_run : ranTo (evCall (cxX Tryz.prog bad [] [] ((44, pureFn l5) :: q0)) 1000 60 19 m169.args m169.h) m169.v m169.h' = true := by kernel_rfl
theorem m169_ok {σ : Nat → Int} {W0 : World} (hL : L0 W0) : MemoOk Tryz.prog 26623 σ W0 19 m169 := memo_ok fit (Known2.nil σ) (FnsOk.cons (pure_fn_ok (l5_ok hL)) ((q0_ok hL))) m169_run
noncomputable def h286 : H := hUpd h285 3029 [] [] []
noncomputable def h287 : H := hUpd h248 3200 [] [] [(1049, 2, [I 0, I 3])]
noncomputable def m170 : Memo := ⟨[.ptr 1061 0, I 0], h286, .agg [I 1, I 1, I 0, U 0, I 0, U 0, IZ (-1), I 0], h287⟩
theorem m170_run : ranTo (evCall (cxX Tryz.prog bad [] [] ((44, pureFn l5) :: q0)) 1000 60 19 m170.args m170.h) m170.v m170.h' = true := by kernel_rfl
theorem m170_ok {σ : Nat → Int} {W0 : World} (hL : L0 W0) : MemoOk Tryz.prog 26623 σ W0 19 m170 := memo_ok fit (Known2.nil σ) (FnsOk.cons (pure_fn_ok (l5_ok hL)) ((q0_ok hL))) m170_run
noncomputable def h288 : H := hUpd h287 3201 [] [] []
noncomputable def h289 : H := hUpd h250 3372 [] [] [(1049, 2, [I 0, I 2])]
noncomputable def m171 : Memo := ⟨[.ptr 1061 0, I 0], h288, .agg [I 1, I 3, I 0, U 0, I 0, U 0, IZ (-1), I 0], h289⟩
theorem m171_run : ranTo (evCall (cxX Tryz.prog bad [] [] ((44, pureFn l5) :: q0)) 1000 60 19 m171.args m171.h) m171.v m171.h' = true := by kernel_rfl
theorem m171_ok {σ : Nat → Int} {W0 : World} (hL : L0 W0) : MemoOk Tryz.prog 26623 σ W0 19 m171 := memo_ok fit (Known2.nil σ) (FnsOk.cons (pure_fn_ok (l5_ok hL)) ((q0_ok hL))) m171_run
noncomputable def h290 : H := hUpd h289 3373 [] [] []
noncomputable def h291 : H := hUpd h252 3544 [] [] [(1049, 2, [I 0, I 1])]
noncomputable def m172 : Memo := ⟨[.ptr 1061 0, I 0], h290, .agg [I 1, I 1, I 0, U 0, I 0, U 0, IZ (-1), I 0], h291⟩
theorem m172_run : ranTo (evCall (cxX Tryz.prog bad [] [] ((44, pureFn l5) :: q0)) 1000 60 19 m172.args m172.h) m172.v m172.h' = true := by kernel_rfl
theorem m172_ok {σ : Nat → Int} {W0 : World} (hL : L0 W0) : MemoOk Tryz.prog 26623 σ W0 19 m172 := memo_ok fit (Known2.nil σ) (FnsOk.cons (pure_fn_ok (l5_ok hL)) ((q0_ok hL))) m172_run
noncomputable def h292 : H := hUpd h291 3545 [] [] []
noncomputable def h293 : H := hUpc h281 3716 [] [] [(1017, 0, [I 16, .slice 2598 0 1 1 10 false, I 6]),
  (1049, 0, [IZ (-1), I 2147483640]),
  (1049, 2, [I 0, I 0])] [(1061, 0, 8, I 7)]
noncomputable def m173 : Memo := ⟨[.ptr 1061 0, I 0], h292, .agg [I 1, I 3, I 0, U 0, I 0, U 0, IZ (-1), I 0], h293⟩
theorem m173_run : ranTo (evCall (cxX Tryz.prog bad [] [] ((44, pureFn l5) :: q0)) 1000 60 19 m173.args m173.h) m173.v m173.h' = true := by kernel_rfl
theorem m173_ok {σ : Nat → Int} {W0 : World} (hL : L0 W0) : MemoOk Tryz.prog 26623 σ W0 19 m173 := memo_ok fit (Known2.nil σ) (FnsOk.cons (pure_fn_ok (l5_ok hL)) ((q0_ok hL))) m173_run
noncomputable def h294 : H := hUpd h293 3717 [] [] []
noncomputable def h295 : H := hUpc h255 4034 [] [] [(1017, 0, [I 16, .slice 2598 0 1 1 10 false, I 6]),
  (1049, 0, [IZ (-1), I 2147483640])] [(1021, 0, 1, U 1), (1021, 1, 8, U 1), (1061, 0, 8, I 8)]
noncomputable def m174 : Memo := ⟨[.ptr 1061 0, I 0], h294, .agg [I 1, I 5, I 0, U 0, I 0, U 0, I 0, I 6], h295⟩
theorem m174_run : ranTo (evCall (cxX Tryz.prog bad [] [] ((44, pureFn l6) :: q0)) 1000 60 19 m174.args m174.h) m174.v m174.h' = true := by kernel_rfl
theorem m174_ok {σ : Nat → Int} {W0 : World} (hL : L0 W0) : MemoOk Tryz.prog 26623 σ W0 19 m174 := memo_ok fit (Known2.nil σ) (FnsOk.cons (pure_fn_ok (l6_ok hL)) ((q0_ok hL))) m174_run
noncomputable def h296 : H := hUpd h295 4035 [] [] []
noncomputable def h297 : H := hUpc h257 4357 [4052, 4085] [(4224, .cells 1 ([[I 0]]) false),
  (4257, .cells 10 ([[I 2, I 1, I 0, I 0, U 1, U 0, .slice 2565 0 1 1 1 false, I 2, I 0, bF], [I 2, I 0, I 0, I 0, U 1, U 0, .slice 4224 0 1 1 1 false, I 0, I 0, bF]]) false)] [(1017, 0, [I 16, .slice 4257 0 2 2 10 false, I 6]),
  (1049, 0, [IZ (-1), I 2147483639])] [(1021, 0, 1, U 1), (1021, 1, 8, U 1), (1061, 0, 8, I 9)]
noncomputable def m175 : Memo := ⟨[.ptr 1061 0, I 0], h296, .agg [I 0, I 1, I 0, U 0, I 0, U 0, IZ (-1), I 0], h297⟩
theorem m175_run : ranTo (evCall (cxX Tryz.prog bad [] [] ((44, pureFn l7) :: q0)) 1000 60 19 m175.args m175.h) m175.v m175.h' = true := by kernel_rfl
theorem m175_ok {σ : Nat → Int} {W0 : World} (hL : L0 W0) : MemoOk Tryz.prog 26623 σ W0 19 m175 := memo_ok fit (Known2.nil σ) (FnsOk.cons (pure_fn_ok (l7_ok hL)) ((q0_ok hL))) m175_run
noncomputable def h298 : H := hUpd h297 4358 [] [] []
noncomputable def h299 : H := hUpc h297 4546 [] [] [(1017, 0, [I 16, .slice 4257 0 2 2 10 false, I 7]),
  (1049, 0, [IZ (-1), I 2147483638]),
  (1049, 1, [I 0, I 498])] [(1021, 0, 8, U 2), (1021, 0, 41, I 4), (1021, 0, 42, I 1), (1061, 0, 8, I 10)]
noncomputable def m176 : Memo := ⟨[.ptr 1061 0, I 0], h298, .agg [I 0, I 1, I 0, U 0, I 0, U 0, IZ (-1), I 0], h299⟩
theorem m176_run : ranTo (evCall (cxX Tryz.prog bad [] [] ((44, pureFn l8) :: q0)) 1000 60 19 m176.args m176.h) m176.v m176.h' = true := by kernel_rfl
theorem m176_ok {σ : Nat → Int} {W0 : World} (hL : L0 W0) : MemoOk Tryz.prog 26623 σ W0 19 m176 := memo_ok fit (Known2.nil σ) (FnsOk.cons (pure_fn_ok (l8_ok hL)) ((q0_ok hL))) m176_run
noncomputable def h300 : H := hUpd h299 4547 [] [] []
noncomputable def h301 : H := hUpc h299 4730 [] [] [(1017, 0, [I 16, .slice 4257 0 2 2 10 false, I 8]),
  (1049, 0, [IZ (-1), I 2147483637]),
  (1049, 1, [I 0, I 497])] [(1021, 0, 0, U 1), (1021, 0, 8, U 3), (1061, 0, 8, I 11)]
noncomputable def m177 : Memo := ⟨[.ptr 1061 0, I 0], h300, .agg [I 0, I 1, I 0, U 0, I 0, U 0, IZ (-1), I 0], h301⟩
theorem m177_run : ranTo (evCall (cxX Tryz.prog bad [] [] ((44, pureFn l8) :: q0)) 1000 60 19 m177.args m177.h) m177.v m177.h' = true := by kernel_rfl
theorem m177_ok {σ : Nat → Int} {W0 : World} (hL : L0 W0) : MemoOk Tryz.prog 26623 σ W0 19 m177 := memo_ok fit (Known2.nil σ) (FnsOk.cons (pure_fn_ok (l8_ok hL)) ((q0_ok hL))) m177_run
noncomputable def h302 : H := hUpd h301 4731 [] [] []
noncomputable def h303 : H := hUpc h301 4914 [] [] [(1017, 0, [I 16, .slice 4257 0 2 2 10 false, I 9]),
  (1049, 0, [IZ (-1), I 2147483636]),
  (1049, 1, [I 0, I 496])] [(1021, 0, 1, U 500), (1021, 0, 8, U 4), (1061, 0, 8, I 12)]
noncomputable def m178 : Memo := ⟨[.ptr 1061 0, I 0], h302, .agg [I 0, I 1, I 0, U 0, I 0, U 0, IZ (-1), I 0], h303⟩
theorem m178_run : ranTo (evCall (cxX Tryz.prog bad [] [] ((44, pureFn l8) :: q0)) 1000 60 19 m178.args m178.h) m178.v m178.h' = true := by kernel_rfl
theorem m178_ok {σ : Nat → Int} {W0 : World} (hL : L0 W0) : MemoOk Tryz.prog 26623 σ W0 19 m178 := memo_ok fit (Known2.nil σ) (FnsOk.cons (pure_fn_ok (l8_ok hL)) ((q0_ok hL))) m178_run
noncomputable def h304 : H := hUpd h303 4915 [] [] []
noncomputable def h305 : H := hUpc h299 5456 [] [] [(1017, 0, [I 16, .slice 4257 0 2 2 10 false, I 10]),
  (1049, 0, [IZ (-1), I 2147483635]),
  (1049, 1, [I 0, I 495]),
  (1049, 2, [I 0, I 500])] [(1021, 0, 0, U 0), (1021, 0, 1, U 0), (1021, 0, 3, U 0), (1021, 0, 4, U 0), (1021, 0, 8, U 5), (1021, 0, 71, I 0), (1021, 0, 72, I 0), (1021, 0, 86, I 0), (1021, 0, 87, I 0), (1021, 0, 90, U 0), (1061, 0, 8, I 13)]
noncomputable def m179 : Memo := ⟨[.ptr 1061 0, I 0], h304, .agg [I 0, I 2, I 0, U 1, I 7, U 0, IZ (-1), I 0], h305⟩
theorem m179_run : ranTo (evCall (cxX Tryz.prog bad [] [] ((44, pureFn l8) :: q0)) 1000 60 19 m179.args m179.h) m179.v m179.h' = true := by kernel_rfl
theorem m179_ok {σ : Nat → Int} {W0 : World} (hL : L0 W0) : MemoOk Tryz.prog 26623 σ W0 19 m179 := memo_ok fit (Known2.nil σ) (FnsOk.cons (pure_fn_ok (l8_ok hL)) ((q0_ok hL))) m179_run
noncomputable def h306 : H := hUpd h305 5457 [] [] []
noncomputable def h307 : H := hUpc h305 5640 [] [] [(1017, 0, [I 16, .slice 4257 0 2 2 10 false, I 11]),
  (1049, 0, [IZ (-1), I 2147483634]),
  (1049, 1, [I 0, I 494])] [(1021, 0, 0, U 6), (1021, 0, 8, U 6), (1061, 0, 8, I 14)]
noncomputable def m180 : Memo := ⟨[.ptr 1061 0, I 0], h306, .agg [I 0, I 1, I 0, U 0, I 0, U 0, IZ (-1), I 0], h307⟩
theorem m180_run : ranTo (evCall (cxX Tryz.prog bad [] [] ((44, pureFn l8) :: q0)) 1000 60 19 m180.args m180.h) m180.v m180.h' = true := by kernel_rfl
theorem m180_ok {σ : Nat → Int} {W0 : World} (hL : L0 W0) : MemoOk Tryz.prog 26623 σ W0 19 m180 := memo_ok fit (Known2.nil σ) (FnsOk.cons (pure_fn_ok (l8_ok hL)) ((q0_ok hL))) m180_run
noncomputable def h308 : H := hUpd h307 5641 [] [] []
noncomputable def h309 : H := hUpc h307 5824 [] [] [(1017, 0, [I 16, .slice 4257 0 2 2 10 false, I 12]),
  (1049, 0, [IZ (-1), I 2147483633]),
  (1049, 1, [I 0, I 493])] [(1021, 0, 1, U 2), (1021, 0, 8, U 7), (1061, 0, 8, I 15)]
noncomputable def m181 : Memo := ⟨[.ptr 1061 0, I 0], h308, .agg [I 0, I 1, I 0, U 0, I 0, U 0, IZ (-1), I 0], h309⟩
theorem m181_run : ranTo (evCall (cxX Tryz.prog bad [] [] ((44, pureFn l8) :: q0)) 1000 60 19 m181.args m181.h) m181.v m181.h' = true := by kernel_rfl
theorem m181_ok {σ : Nat → Int} {W0 : World} (hL : L0 W0) : MemoOk Tryz.prog 26623 σ W0 19 m181 := memo_ok fit (Known2.nil σ) (FnsOk.cons (pure_fn_ok (l8_ok hL)) ((q0_ok hL))) m181_run
noncomputable def h310 : H := hUpd h309 5825 [] [] []
noncomputable def h311 : H := hUpc h305 6368 [] [] [(1017, 0, [I 16, .slice 4257 0 2 2 10 false, I 13]),
  (1049, 0, [IZ (-1), I 2147483632]),
  (1049, 1, [I 0, I 492])] [(1021, 0, 8, U 8), (1021, 1, 8, U 2), (1061, 0, 8, I 16)]
noncomputable def m182 : Memo := ⟨[.ptr 1061 0, I 0], h310, .agg [I 0, I 2, I 0, U 6, I 4, U 0, IZ (-1), I 0], h311⟩
theorem m182_run : ranTo (evCall (cxX Tryz.prog bad [] [] ((44, pureFn l9) :: q0)) 1000 60 19 m182.args m182.h) m182.v m182.h' = true := by kernel_rfl
theorem m182_ok {σ : Nat → Int} {W0 : World} (hL : L0 W0) : MemoOk Tryz.prog 26623 σ W0 19 m182 := memo_ok fit (Known2.nil σ) (FnsOk.cons (pure_fn_ok (l9_ok hL)) ((q0_ok hL))) m182_run
noncomputable def h312 : H := hUpd h311 6369 [] [] []
noncomputable def h313 : H := hUpc h311 6873 [] [] [(2270, 0, [I 1]),
  (1017, 0, [I 16, .slice 4257 0 2 2 10 false, I 14]),
  (1049, 0, [IZ (-1), I 2147483631]),
  (1049, 1, [I 0, I 491])] [(1021, 0, 8, U 9), (1021, 0, 9, I 1), (1021, 1, 9, I 3), (1061, 0, 8, I 17)]
noncomputable def m183 : Memo := ⟨[.ptr 1061 0, I 0], h312, .agg [I 0, I 2, I 1, U 0, I 6, U 0, I 1, I 0], h313⟩
theorem m183_run : ranTo (evCall (cxX Tryz.prog bad [] [] ((44, pureFn l9) :: q0)) 1000 60 19 m183.args m183.h) m183.v m183.h' = true := by kernel_rfl
theorem m183_ok {σ : Nat → Int} {W0 : World} (hL : L0 W0) : MemoOk Tryz.prog 26623 σ W0 19 m183 := memo_ok fit (Known2.nil σ) (FnsOk.cons (pure_fn_ok (l9_ok hL)) ((q0_ok hL))) m183_run
noncomputable def h314 : H := hUpd h313 6874 [] [] []
noncomputable def h315 : H := hUpc h313 7054 [] [] [(1017, 0, [I 16, .slice 4257 0 2 2 10 false, I 15]),
  (1049, 0, [IZ (-1), I 2147483630]),
  (1049, 2, [I 0, I 499])] [(1021, 1, 5, U 77), (1021, 1, 8, U 3), (1061, 0, 8, I 18)]
noncomputable def m184 : Memo := ⟨[.ptr 1061 0, I 0], h314, .agg [I 1, I 1, I 0, U 0, I 0, U 0, IZ (-1), I 0], h315⟩
theorem m184_run : ranTo (evCall (cxX Tryz.prog bad [] [] ((44, pureFn l5) :: q0)) 1000 60 19 m184.args m184.h) m184.v m184.h' = true := by kernel_rfl
theorem m184_ok {σ : Nat → Int} {W0 : World} (hL : L0 W0) : MemoOk Tryz.prog 26623 σ W0 19 m184 := memo_ok fit (Known2.nil σ) (FnsOk.cons (pure_fn_ok (l5_ok hL)) ((q0_ok hL))) m184_run
noncomputable def h316 : H := hUpd h315 7055 [] [] []
noncomputable def h317 : H := hUpc h315 7225 [] [] [(2270, 0, [I 0]),
  (1060, 0, [.slice 2270 0 0 1 1 false]),
  (1017, 0, [I 16, .slice 4257 0 2 2 10 false, I 16]),
  (1049, 0, [IZ (-1), I 2147483629]),
  (1049, 2, [I 0, I 498])] [(1021, 1, 8, U 4), (1021, 1, 9, I 4), (1061, 0, 8, I 19)]
noncomputable def m185 : Memo := ⟨[.ptr 1061 0, I 0], h316, .agg [I 1, I 4, I 0, U 0, I 0, U 0, IZ (-1), I 0], h317⟩
theorem m185_run : ranTo (evCall (cxX Tryz.prog bad [] [] ((44, pureFn l5) :: q0)) 1000 60 19 m185.args m185.h) m185.v m185.h' = true := by kernel_rfl
theorem m185_ok {σ : Nat → Int} {W0 : World} (hL : L0 W0) : MemoOk Tryz.prog 26623 σ W0 19 m185 := memo_ok fit (Known2.nil σ) (FnsOk.cons (pure_fn_ok (l5_ok hL)) ((q0_ok hL))) m185_run
noncomputable def l19 : List (Memo) := m185 :: m184 :: m183 :: m182 :: m181 :: m180 :: m179 :: m178 :: m177 :: m176 :: m175 :: m174 :: m173 :: m172 :: m171 :: m170 :: m169 :: m168 :: m167 :: []
theorem l19_ok {σ : Nat → Int} {W0 : World} (hL : L0 W0) : ∀ x ∈ l19, MemoOk Tryz.prog 26623 σ W0 19 x := all_cons (m185_ok hL) (all_cons (m184_ok hL) (all_cons (m183_ok hL) (all_cons (m182_ok hL) (all_cons (m181_ok hL) (all_cons (m180_ok hL) (all_cons (m179_ok hL) (all_cons (m178_ok hL) (all_cons (m177_ok hL) (all_cons (m176_ok hL) (all_cons (m175_ok hL) (all_cons (m174_ok hL) (all_cons (m173_ok hL) (all_cons (m172_ok hL) (all_cons (m171_ok hL) (all_cons (m170_ok hL) (all_cons (m169_ok hL) (all_cons (m168_ok hL) (all_cons (m167_ok hL) (all_nil)))))))))))))))))))
noncomputable def q8 : Fns := [(7, pureFn [p0]), (14, frameFn [m166]), (295, isFn 453), (122, atoiFullFn 384), (123, itoaFullFn), (195, joinFn), (307, countFn), (352, indexFn), (308, cutOf Tryz.prog 26623 bad [(307, countFn), (352, indexFn)] 1000 20 308)]
theorem q8_ok {σ : Nat → Int} {W0 : World} (hL : L0 W0) : FnsOk Tryz.prog 26623 σ W0 q8 := FnsOk.cons (pure_fn_ok (all_cons (p0_ok hL) (all_nil))) (FnsOk.cons (frame_fn_ok (all_cons (m166_ok hL) (all_nil))) (FnsOk.cons (ext_is hL) (FnsOk.cons (ext_atoi hL) (FnsOk.cons (ext_itoa hL) (FnsOk.cons (ext_join hL) (FnsOk.cons (ext_count hL) (FnsOk.cons (ext_index hL) (FnsOk.cons (ext_cut308 hL) (FnsOk.nil)))))))))
theorem run12 : isTrue (evCall (cxX Tryz.prog bad [] [] ((8, numExtE [(0, 9, .lit 6)]) :: (19, frameFn l19) :: (44, pureFn l10) :: (9, frameFn [m10, m164]) :: q8)) 1000 60 4 [.int .i64 (.var 0), bF] (sentH 453 20 errTab)) = true := by kernel_rfl
theorem case12 : CaseS [] [] [(0, 9, .lit 6)] [.int .i64 (.var 0), bF] := caseS (fun hL hk hT => FnsOk.cons (hT.ok fit) (FnsOk.cons (frame_fn_ok (l19_ok hL)) (FnsOk.cons (pure_fn_ok (l10_ok hL)) (FnsOk.cons (frame_fn_ok (all_cons (m10_ok hL) (all_cons (m164_ok hL) (all_nil)))) ((q8_ok hL)))))) run12
theorem run13 : isTrue (evCall (cxX Tryz.prog bad [] [] ((8, numExtE [(0, 9, .lit 6)]) :: (19, frameFn l13) :: (44, pureFn l10) :: (9, frameFn [m10, m52]) :: q2)) 1000 60 4 [.int .i64 (.var 0), bT] (sentH 453 20 errTab)) = true := by kernel_rfl
theorem case13 : CaseS [] [] [(0, 9, .lit 6)] [.int .i64 (.var 0), bT] := caseS (fun hL hk hT => FnsOk.cons (hT.ok fit) (FnsOk.cons (frame_fn_ok (l13_ok hL)) (FnsOk.cons (pure_fn_ok (l10_ok hL)) (FnsOk.cons (frame_fn_ok (all_cons (m10_ok hL) (all_cons (m52_ok hL) (all_nil)))) ((q2_ok hL)))))) run13
noncomputable def m186 : Memo := ⟨[bT, I 8, .snil, .slice 757 0 4 4 1 true], h29, .agg [.slice 1002 0 4 4 1 false, I 8, .snil, bT], h30⟩
theorem m186_run : ranTo (evCall (cxX Tryz.prog bad [] [] ((84, frameFn l1) :: q0)) 1000 60 9 m186.args m186.h) m186.v m186.h' = true := by kernel_rfl
theorem m186_ok {σ : Nat → Int} {W0 : World} (hL : L0 W0) : MemoOk Tryz.prog 26623 σ W0 9 m186 := memo_ok fit (Known2.nil σ) (FnsOk.cons (frame_fn_ok (l1_ok hL)) ((q0_ok hL))) m186_run
noncomputable def h318 : H := hUpc h279 2046 [2270, 1004, 755] [] [(1060, 0, [.snil]),
  (1049, 2, [I 0, I 8])] [(1021, 1, 9, I 1)]
noncomputable def m187 : Memo := ⟨[.ptr 1061 0, .agg [.slice 1002 0 4 4 1 false, I 8, .snil, bT]], h33, .tuple [I 1, .inil], h318⟩
theorem m187_run : ranTo (evCall (cxX Tryz.prog bad [] [] ((44, pureFn l3) :: q0)) 1000 60 88 m187.args m187.h) m187.v m187.h' = true := by kernel_rfl
theorem m187_ok {σ : Nat → Int} {W0 : World} (hL : L0 W0) : MemoOk Tryz.prog 26623 σ W0 88 m187 := memo_ok fit (Known2.nil σ) (FnsOk.cons (pure_fn_ok (l3_ok hL)) ((q0_ok hL))) m187_run
noncomputable def h319 : H := hUpc h279 1005 [1022, 2270, 1054, 1038, 1014, 1046, 1018, 1050, 1010, 1058, 1026, 1020, 1052, 1012, 1044, 1060, 1016, 1048, 1032, 1008, 1056, 1021, 1053, 1013, 1061, 1029, 1017, 1049, 1009, 1041, 1057, 1019, 1051, 1035, 1011, 1059, 1015, 1047, 1055, 1023] [] [] [(1004, 1, 1, I 8)]
noncomputable def h320 : H := hUpc h318 2271 [] [(2270, .cells 1 ([[I 1]]) false),
  (1004, .cells 4 ([[.slice 755 0 9 9 1 false, I 500, .snil, bF], [.slice 1002 0 4 4 1 false, I 8, .snil, bT]]) false),
  (755, .cells 1 ([[U 142540800], [U 141295616], [U 16777217], [U 17826292], [U 185118720], [U 16777222], [U 17825794], [U 184987648], [U 186101760]]) false)] [(1060, 0, [.slice 2270 0 1 1 1 false])] [(1021, 1, 9, I 3)]
noncomputable def m188 : Memo := ⟨[.slice 1004 0 2 2 4 true], h319, .ptr 1061 0, h320⟩
theorem m188_run : ranTo (evCall (cxX Tryz.prog bad [] [] ((44, pureFn l4) :: (88, frameFn [m26, m187]) :: q0)) 1000 60 14 m188.args m188.h) m188.v m188.h' = true := by kernel_rfl
theorem m188_ok {σ : Nat → Int} {W0 : World} (hL : L0 W0) : MemoOk Tryz.prog 26623 σ W0 14 m188 := memo_ok fit (Known2.nil σ) (FnsOk.cons (pure_fn_ok (l4_ok hL)) (FnsOk.cons (frame_fn_ok (all_cons (m26_ok hL) (all_cons (m187_ok hL) (all_nil)))) ((q0_ok hL)))) m188_run
noncomputable def h321 : H := hUpc h283 2379 [2598, 2565] [] [(1017, 0, [I 16, .snil, I 0]),
  (1049, 0, [IZ (-1), I 2147483647]),
  (1049, 2, [I 0, I 8])] [(1061, 0, 8, I 0)]
noncomputable def h322 : H := hUpd h282 2684 [] [] [(1049, 2, [I 0, I 7])]
noncomputable def m189 : Memo := ⟨[.ptr 1061 0, I 0], h321, .agg [I 1, I 3, I 0, U 0, I 0, U 0, IZ (-1), I 0], h322⟩
theorem m189_run : ranTo (evCall (cxX Tryz.prog bad [] [] ((44, pureFn l5) :: q0)) 1000 60 19 m189.args m189.h) m189.v m189.h' = true := by kernel_rfl
theorem m189_ok {σ : Nat → Int} {W0 : World} (hL : L0 W0) : MemoOk Tryz.prog 26623 σ W0 19 m189 := memo_ok fit (Known2.nil σ) (FnsOk.cons (pure_fn_ok (l5_ok hL)) ((q0_ok hL))) m189_run
noncomputable def h323 : H := hUpd h322 2685 [] [] []
noncomputable def h324 : H := hUpd h284 2856 [] [] [(1049, 2, [I 0, I 6])]
noncomputable def m190 : Memo := ⟨[.ptr 1061 0, I 0], h323, .agg [I 1, I 1, I 0, U 0, I 0, U 0, IZ (-1), I 0], h324⟩
theorem m190_run : ranTo (evCall (cxX Tryz.prog bad [] [] ((44, pureFn l5) :: q0)) 1000 60 19 m190.args m190.h) m190.v m190.h' = true := by kernel_rfl
theorem m190_ok {σ : Nat → Int} {W0 : World} (hL : L0 W0) : MemoOk Tryz.prog 26623 σ W0 19 m190 := memo_ok fit (Known2.nil σ) (FnsOk.cons (pure_fn_ok (l5_ok hL)) ((q0_ok hL))) m190_run
noncomputable def h325 : H := hUpd h324 2857 [] [] []
noncomputable def h326 : H := hUpd h286 3028 [] [] [(1049, 2, [I 0, I 5])]
noncomputable def m191 : Memo := ⟨[.ptr 1061 0, I 0], h325, .agg [I 1, I 3, I 0, U 0, I 0, U 0, IZ (-1), I 0], h326⟩
theorem m191_run : ranTo (evCall (cxX Tryz.prog bad [] [] ((44, pureFn l5) :: q0)) 1000 60 19 m191.args m191.h) m191.v m191.h' = true := by kernel_rfl
theorem m191_ok {σ : Nat → Int} {W0 : World} (hL : L0 W0) : MemoOk Tryz.prog 26623 σ W0 19 m191 := memo_ok fit (Known2.nil σ) (FnsOk.cons (pure_fn_ok (l5_ok hL)) ((q0_ok hL))) m191_run
noncomputable def h327 : H := hUpd h326 3029 [] [] []
noncomputable def h328 : H := hUpd h288 3200 [] [] [(1049, 2, [I 0, I 4])]
noncomputable def m192 : Memo := ⟨[.ptr 1061 0, I 0], h327, .agg [I 1, I 1, I 0, U 0, I 0, U 0, IZ (-1), I 0], h328⟩
theorem m192_run : ranTo (evCall (cxX Tryz.prog bad [] [] ((44, pureFn l5) :: q0)) 1000 60 19 m192.args m192.h) m192.v m192.h' = true := by kernel_rfl
theorem m192_ok {σ : Nat → Int} {W0 : World} (hL : L0 W0) : MemoOk Tryz.prog 26623 σ W0 19 m192 := memo_ok fit (Known2.nil σ) (FnsOk.cons (pure_fn_ok (l5_ok hL)) ((q0_ok hL))) m192_run
noncomputable def h329 : H := hUpd h328 3201 [] [] []
noncomputable def h330 : H := hUpd h290 3372 [] [] [(1049, 2, [I 0, I 3])]
noncomputable def m193 : Memo := ⟨[.ptr 1061 0, I 0], h329, .agg [I 1, I 3, I 0, U 0, I 0, U 0, IZ (-1), I 0], h330⟩
theorem m193_run : ranTo (evCall (cxX Tryz.prog bad [] [] ((44, pureFn l5) :: q0)) 1000 60 19 m193.args m193.h) m193.v m193.h' = true := by kernel_rfl
theorem m193_ok {σ : Nat → Int} {W0 : World} (hL : L0 W0) : MemoOk Tryz.prog 26623 σ W0 19 m193 := memo_ok fit (Known2.nil σ) (FnsOk.cons (pure_fn_ok (l5_ok hL)) ((q0_ok hL))) m193_run
noncomputable def h331 : H := hUpd h330 3373 [] [] []
noncomputable def h332 : H := hUpd h292 3544 [] [] [(1049, 2, [I 0, I 2])]
noncomputable def m194 : Memo := ⟨[.ptr 1061 0, I 0], h331, .agg [I 1, I 1, I 0, U 0, I 0, U 0, IZ (-1), I 0], h332⟩
theorem m194_run : ranTo (evCall (cxX Tryz.prog bad [] [] ((44, pureFn l5) :: q0)) 1000 60 19 m194.args m194.h) m194.v m194.h' = true := by kernel_rfl
theorem m194_ok {σ : Nat → Int} {W0 : World} (hL : L0 W0) : MemoOk Tryz.prog 26623 σ W0 19 m194 := memo_ok fit (Known2.nil σ) (FnsOk.cons (pure_fn_ok (l5_ok hL)) ((q0_ok hL))) m194_run
noncomputable def h333 : H := hUpd h332 3545 [] [] []
noncomputable def h334 : H := hUpd h294 3716 [] [] [(1049, 2, [I 0, I 1])]
noncomputable def m195 : Memo := ⟨[.ptr 1061 0, I 0], h333, .agg [I 1, I 3, I 0, U 0, I 0, U 0, IZ (-1), I 0], h334⟩
theorem m195_run : ranTo (evCall (cxX Tryz.prog bad [] [] ((44, pureFn l5) :: q0)) 1000 60 19 m195.args m195.h) m195.v m195.h' = true := by kernel_rfl
theorem m195_ok {σ : Nat → Int} {W0 : World} (hL : L0 W0) : MemoOk Tryz.prog 26623 σ W0 19 m195 := memo_ok fit (Known2.nil σ) (FnsOk.cons (pure_fn_ok (l5_ok hL)) ((q0_ok hL))) m195_run
noncomputable def h335 : H := hUpd h334 3717 [] [] []
noncomputable def h336 : H := hUpc h324 3888 [] [] [(1017, 0, [I 16, .slice 2598 0 1 1 10 false, I 7]),
  (1049, 0, [IZ (-1), I 2147483639]),
  (1049, 2, [I 0, I 0])] [(1061, 0, 8, I 8)]
noncomputable def m196 : Memo := ⟨[.ptr 1061 0, I 0], h335, .agg [I 1, I 1, I 0, U 0, I 0, U 0, IZ (-1), I 0], h336⟩
theorem m196_run : ranTo (evCall (cxX Tryz.prog bad [] [] ((44, pureFn l5) :: q0)) 1000 60 19 m196.args m196.h) m196.v m196.h' = true := by kernel_rfl
theorem m196_ok {σ : Nat → Int} {W0 : World} (hL : L0 W0) : MemoOk Tryz.prog 26623 σ W0 19 m196 := memo_ok fit (Known2.nil σ) (FnsOk.cons (pure_fn_ok (l5_ok hL)) ((q0_ok hL))) m196_run
noncomputable def h337 : H := hUpd h336 3889 [] [] []
noncomputable def h338 : H := hUpc h336 4206 [] [] [(2270, 0, [I 0])] [(1021, 0, 0, U 1006), (1021, 0, 3, U 1), (1021, 0, 4, U 9), (1021, 0, 9, I 3), (1021, 0, 71, I 4), (1021, 0, 72, I 1), (1021, 0, 86, I 6), (1021, 0, 87, I 1), (1021, 0, 90, U 1), (1021, 1, 9, I 2), (1021, 1, 10, I 6), (1021, 1, 106, I 1), (1061, 0, 8, I 9)]
noncomputable def m197 : Memo := ⟨[.ptr 1061 0, I 0], h337, .agg [I 1, I 5, I 0, U 0, I 0, U 0, I 0, I 6], h338⟩
theorem m197_run : ranTo (evCall (cxX Tryz.prog bad [] [] ((44, pureFn l6) :: q0)) 1000 60 19 m197.args m197.h) m197.v m197.h' = true := by kernel_rfl
theorem m197_ok {σ : Nat → Int} {W0 : World} (hL : L0 W0) : MemoOk Tryz.prog 26623 σ W0 19 m197 := memo_ok fit (Known2.nil σ) (FnsOk.cons (pure_fn_ok (l6_ok hL)) ((q0_ok hL))) m197_run
noncomputable def h339 : H := hUpd h338 4207 [] [] []
noncomputable def h340 : H := hUpc h300 4529 [4224, 4257] [(4396, .cells 1 ([[I 0]]) false),
  (4429, .cells 10 ([[I 2, I 1, I 0, I 0, U 1, U 0, .slice 2565 0 1 1 1 false, I 2, I 0, bF], [I 2, I 0, I 0, I 0, U 1, U 0, .slice 4396 0 1 1 1 false, I 0, I 0, bF]]) false)] [(1017, 0, [I 16, .slice 4429 0 2 2 10 false, I 7]),
  (1049, 1, [I 0, I 499])] [(1021, 0, 1, U 0), (1021, 0, 8, U 1), (1021, 0, 41, I 0), (1021, 0, 42, I 0), (1021, 1, 8, U 0)]
noncomputable def m198 : Memo := ⟨[.ptr 1061 0, I 0], h339, .agg [I 0, I 1, I 0, U 0, I 0, U 0, IZ (-1), I 0], h340⟩
theorem m198_run : ranTo (evCall (cxX Tryz.prog bad [] [] ((44, pureFn l7) :: q0)) 1000 60 19 m198.args m198.h) m198.v m198.h' = true := by kernel_rfl
theorem m198_ok {σ : Nat → Int} {W0 : World} (hL : L0 W0) : MemoOk Tryz.prog 26623 σ W0 19 m198 := memo_ok fit (Known2.nil σ) (FnsOk.cons (pure_fn_ok (l7_ok hL)) ((q0_ok hL))) m198_run
noncomputable def h341 : H := hUpd h340 4530 [] [] []
noncomputable def h342 : H := hUpc h340 4718 [] [] [(1017, 0, [I 16, .slice 4429 0 2 2 10 false, I 8]),
  (1049, 0, [IZ (-1), I 2147483637]),
  (1049, 1, [I 0, I 498])] [(1021, 0, 8, U 2), (1021, 0, 41, I 4), (1021, 0, 42, I 1), (1061, 0, 8, I 11)]
noncomputable def m199 : Memo := ⟨[.ptr 1061 0, I 0], h341, .agg [I 0, I 1, I 0, U 0, I 0, U 0, IZ (-1), I 0], h342⟩
theorem m199_run : ranTo (evCall (cxX Tryz.prog bad [] [] ((44, pureFn l8) :: q0)) 1000 60 19 m199.args m199.h) m199.v m199.h' = true := by kernel_rfl
theorem m199_ok {σ : Nat → Int} {W0 : World} (hL : L0 W0) : MemoOk Tryz.prog 26623 σ W0 19 m199 := memo_ok fit (Known2.nil σ) (FnsOk.cons (pure_fn_ok (l8_ok hL)) ((q0_ok hL))) m199_run
noncomputable def h343 : H := hUpd h342 4719 [] [] []
noncomputable def h344 : H := hUpc h342 4902 [] [] [(1017, 0, [I 16, .slice 4429 0 2 2 10 false, I 9]),
  (1049, 0, [IZ (-1), I 2147483636]),
  (1049, 1, [I 0, I 497])] [(1021, 0, 0, U 1), (1021, 0, 8, U 3), (1061, 0, 8, I 12)]
noncomputable def m200 : Memo := ⟨[.ptr 1061 0, I 0], h343, .agg [I 0, I 1, I 0, U 0, I 0, U 0, IZ (-1), I 0], h344⟩
theorem m200_run : ranTo (evCall (cxX Tryz.prog bad [] [] ((44, pureFn l8) :: q0)) 1000 60 19 m200.args m200.h) m200.v m200.h' = true := by kernel_rfl
theorem m200_ok {σ : Nat → Int} {W0 : World} (hL : L0 W0) : MemoOk Tryz.prog 26623 σ W0 19 m200 := memo_ok fit (Known2.nil σ) (FnsOk.cons (pure_fn_ok (l8_ok hL)) ((q0_ok hL))) m200_run
noncomputable def h345 : H := hUpd h344 4903 [] [] []
noncomputable def h346 : H := hUpc h344 5086 [] [] [(1017, 0, [I 16, .slice 4429 0 2 2 10 false, I 10]),
  (1049, 0, [IZ (-1), I 2147483635]),
  (1049, 1, [I 0, I 496])] [(1021, 0, 1, U 500), (1021, 0, 8, U 4), (1061, 0, 8, I 13)]
noncomputable def m201 : Memo := ⟨[.ptr 1061 0, I 0], h345, .agg [I 0, I 1, I 0, U 0, I 0, U 0, IZ (-1), I 0], h346⟩
theorem m201_run : ranTo (evCall (cxX Tryz.prog bad [] [] ((44, pureFn l8) :: q0)) 1000 60 19 m201.args m201.h) m201.v m201.h' = true := by kernel_rfl
theorem m201_ok {σ : Nat → Int} {W0 : World} (hL : L0 W0) : MemoOk Tryz.prog 26623 σ W0 19 m201 := memo_ok fit (Known2.nil σ) (FnsOk.cons (pure_fn_ok (l8_ok hL)) ((q0_ok hL))) m201_run
noncomputable def h347 : H := hUpd h346 5087 [] [] []
noncomputable def h348 : H := hUpc h342 5628 [] [] [(1017, 0, [I 16, .slice 4429 0 2 2 10 false, I 11]),
  (1049, 0, [IZ (-1), I 2147483634]),
  (1049, 1, [I 0, I 495]),
  (1049, 2, [I 0, I 500])] [(1021, 0, 0, U 0), (1021, 0, 3, U 0), (1021, 0, 4, U 0), (1021, 0, 8, U 5), (1021, 0, 71, I 0), (1021, 0, 72, I 0), (1021, 0, 86, I 0), (1021, 0, 87, I 0), (1021, 0, 90, U 0), (1061, 0, 8, I 14)]
noncomputable def m202 : Memo := ⟨[.ptr 1061 0, I 0], h347, .agg [I 0, I 2, I 0, U 1, I 7, U 0, IZ (-1), I 0], h348⟩
theorem m202_run : ranTo (evCall (cxX Tryz.prog bad [] [] ((44, pureFn l8) :: q0)) 1000 60 19 m202.args m202.h) m202.v m202.h' = true := by kernel_rfl
theorem m202_ok {σ : Nat → Int} {W0 : World} (hL : L0 W0) : MemoOk Tryz.prog 26623 σ W0 19 m202 := memo_ok fit (Known2.nil σ) (FnsOk.cons (pure_fn_ok (l8_ok hL)) ((q0_ok hL))) m202_run
noncomputable def h349 : H := hUpd h348 5629 [] [] []
noncomputable def h350 : H := hUpc h348 5812 [] [] [(1017, 0, [I 16, .slice 4429 0 2 2 10 false, I 12]),
  (1049, 0, [IZ (-1), I 2147483633]),
  (1049, 1, [I 0, I 494])] [(1021, 0, 0, U 6), (1021, 0, 8, U 6), (1061, 0, 8, I 15)]
noncomputable def m203 : Memo := ⟨[.ptr 1061 0, I 0], h349, .agg [I 0, I 1, I 0, U 0, I 0, U 0, IZ (-1), I 0], h350⟩
theorem m203_run : ranTo (evCall (cxX Tryz.prog bad [] [] ((44, pureFn l8) :: q0)) 1000 60 19 m203.args m203.h) m203.v m203.h' = true := by kernel_rfl
theorem m203_ok {σ : Nat → Int} {W0 : World} (hL : L0 W0) : MemoOk Tryz.prog 26623 σ W0 19 m203 := memo_ok fit (Known2.nil σ) (FnsOk.cons (pure_fn_ok (l8_ok hL)) ((q0_ok hL))) m203_run
noncomputable def h351 : H := hUpd h350 5813 [] [] []
noncomputable def h352 : H := hUpc h350 5996 [] [] [(1017, 0, [I 16, .slice 4429 0 2 2 10 false, I 13]),
  (1049, 0, [IZ (-1), I 2147483632]),
  (1049, 1, [I 0, I 493])] [(1021, 0, 1, U 2), (1021, 0, 8, U 7), (1061, 0, 8, I 16)]
noncomputable def m204 : Memo := ⟨[.ptr 1061 0, I 0], h351, .agg [I 0, I 1, I 0, U 0, I 0, U 0, IZ (-1), I 0], h352⟩
theorem m204_run : ranTo (evCall (cxX Tryz.prog bad [] [] ((44, pureFn l8) :: q0)) 1000 60 19 m204.args m204.h) m204.v m204.h' = true := by kernel_rfl
theorem m204_ok {σ : Nat → Int} {W0 : World} (hL : L0 W0) : MemoOk Tryz.prog 26623 σ W0 19 m204 := memo_ok fit (Known2.nil σ) (FnsOk.cons (pure_fn_ok (l8_ok hL)) ((q0_ok hL))) m204_run
noncomputable def h353 : H := hUpd h352 5997 [] [] []
noncomputable def h354 : H := hUpc h348 6540 [] [] [(1017, 0, [I 16, .slice 4429 0 2 2 10 false, I 14]),
  (1049, 0, [IZ (-1), I 2147483631]),
  (1049, 1, [I 0, I 492])] [(1021, 0, 8, U 8), (1021, 1, 8, U 2), (1061, 0, 8, I 17)]
noncomputable def m205 : Memo := ⟨[.ptr 1061 0, I 0], h353, .agg [I 0, I 2, I 0, U 6, I 4, U 0, IZ (-1), I 0], h354⟩
theorem m205_run : ranTo (evCall (cxX Tryz.prog bad [] [] ((44, pureFn l9) :: q0)) 1000 60 19 m205.args m205.h) m205.v m205.h' = true := by kernel_rfl
theorem m205_ok {σ : Nat → Int} {W0 : World} (hL : L0 W0) : MemoOk Tryz.prog 26623 σ W0 19 m205 := memo_ok fit (Known2.nil σ) (FnsOk.cons (pure_fn_ok (l9_ok hL)) ((q0_ok hL))) m205_run
noncomputable def h355 : H := hUpd h354 6541 [] [] []
noncomputable def h356 : H := hUpc h354 7045 [] [] [(2270, 0, [I 1]),
  (1017, 0, [I 16, .slice 4429 0 2 2 10 false, I 15]),
  (1049, 0, [IZ (-1), I 2147483630]),
  (1049, 1, [I 0, I 491])] [(1021, 0, 8, U 9), (1021, 0, 9, I 1), (1021, 1, 9, I 3), (1061, 0, 8, I 18)]
noncomputable def m206 : Memo := ⟨[.ptr 1061 0, I 0], h355, .agg [I 0, I 2, I 1, U 0, I 6, U 0, I 1, I 0], h356⟩
theorem m206_run : ranTo (evCall (cxX Tryz.prog bad [] [] ((44, pureFn l9) :: q0)) 1000 60 19 m206.args m206.h) m206.v m206.h' = true := by kernel_rfl
theorem m206_ok {σ : Nat → Int} {W0 : World} (hL : L0 W0) : MemoOk Tryz.prog 26623 σ W0 19 m206 := memo_ok fit (Known2.nil σ) (FnsOk.cons (pure_fn_ok (l9_ok hL)) ((q0_ok hL))) m206_run
noncomputable def h357 : H := hUpd h356 7046 [] [] []
noncomputable def h358 : H := hUpc h356 7226 [] [] [(1017, 0, [I 16, .slice 4429 0 2 2 10 false, I 16]),
  (1049, 0, [IZ (-1), I 2147483629]),
  (1049, 2, [I 0, I 499])] [(1021, 1, 5, U 77), (1021, 1, 8, U 3), (1061, 0, 8, I 19)]
noncomputable def m207 : Memo := ⟨[.ptr 1061 0, I 0], h357, .agg [I 1, I 1, I 0, U 0, I 0, U 0, IZ (-1), I 0], h358⟩
theorem m207_run : ranTo (evCall (cxX Tryz.prog bad [] [] ((44, pureFn l5) :: q0)) 1000 60 19 m207.args m207.h) m207.v m207.h' = true := by kernel_rfl
theorem m207_ok {σ : Nat → Int} {W0 : World} (hL : L0 W0) : MemoOk Tryz.prog 26623 σ W0 19 m207 := memo_ok fit (Known2.nil σ) (FnsOk.cons (pure_fn_ok (l5_ok hL)) ((q0_ok hL))) m207_run
noncomputable def h359 : H := hUpd h358 7227 [] [] []
noncomputable def h360 : H := hUpc h358 7397 [] [] [(2270, 0, [I 0]),
  (1060, 0, [.slice 2270 0 0 1 1 false]),
  (1017, 0, [I 16, .slice 4429 0 2 2 10 false, I 17]),
  (1049, 0, [IZ (-1), I 2147483628]),
  (1049, 2, [I 0, I 498])] [(1021, 1, 8, U 4), (1021, 1, 9, I 4), (1061, 0, 8, I 20)]
noncomputable def m208 : Memo := ⟨[.ptr 1061 0, I 0], h359, .agg [I 1, I 4, I 0, U 0, I 0, U 0, IZ (-1), I 0], h360⟩
theorem m208_run : ranTo (evCall (cxX Tryz.prog bad [] [] ((44, pureFn l5) :: q0)) 1000 60 19 m208.args m208.h) m208.v m208.h' = true := by kernel_rfl
theorem m208_ok {σ : Nat → Int} {W0 : World} (hL : L0 W0) : MemoOk Tryz.prog 26623 σ W0 19 m208 := memo_ok fit (Known2.nil σ) (FnsOk.cons (pure_fn_ok (l5_ok hL)) ((q0_ok hL))) m208_run
noncomputable def l20 : List (Memo) := m208 :: m207 :: m206 :: m205 :: m204 :: m203 :: m202 :: m201 :: m200 :: m199 :: m198 :: m197 :: m196 :: m195 :: m194 :: m193 :: m192 :: m191 :: m190 :: m189 :: []
theorem l20_ok {σ : Nat → Int} {W0 : World} (hL : L0 W0) : ∀ x ∈ l20, MemoOk Tryz.prog 26623 σ W0 19 x := all_cons (m208_ok hL) (all_cons (m207_ok hL) (all_cons (m206_ok hL) (all_cons (m205_ok hL) (all_cons (m204_ok hL) (all_cons (m203_ok hL) (all_cons (m202_ok hL) (all_cons (m201_ok hL) (all_cons (m200_ok hL) (all_cons (m199_ok hL) (all_cons (m198_ok hL) (all_cons (m197_ok hL) (all_cons (m196_ok hL) (all_cons (m195_ok hL) (all_cons (m194_ok hL) (all_cons (m193_ok hL) (all_cons (m192_ok hL) (all_cons (m191_ok hL) (all_cons (m190_ok hL) (all_cons (m189_ok hL) (all_nil))))))))))))))))))))
noncomputable def q9 : Fns := [(7, pureFn [p0]), (14, frameFn [m188]), (295, isFn 453), (122, atoiFullFn 384), (123, itoaFullFn), (195, joinFn), (307, countFn), (352, indexFn), (308, cutOf Tryz.prog 26623 bad [(307, countFn), (352, indexFn)] 1000 20 308)]
theorem q9_ok {σ : Nat → Int} {W0 : World} (hL : L0 W0) : FnsOk Tryz.prog 26623 σ W0 q9 := FnsOk.cons (pure_fn_ok (all_cons (p0_ok hL) (all_nil))) (FnsOk.cons (frame_fn_ok (all_cons (m188_ok hL) (all_nil))) (FnsOk.cons (ext_is hL) (FnsOk.cons (ext_atoi hL) (FnsOk.cons (ext_itoa hL) (FnsOk.cons (ext_join hL) (FnsOk.cons (ext_count hL) (FnsOk.cons (ext_index hL) (FnsOk.cons (ext_cut308 hL) (FnsOk.nil)))))))))
theorem run14 : isTrue (evCall (cxX Tryz.prog bad [] [] ((8, numExtE [(0, 9, .lit 7)]) :: (19, frameFn l20) :: (44, pureFn l10) :: (9, frameFn [m10, m186]) :: q9)) 1000 60 4 [.int .i64 (.var 0), bF] (sentH 453 20 errTab)) = true := by kernel_rfl
theorem case14 : CaseS [] [] [(0, 9, .lit 7)] [.int .i64 (.var 0), bF] := caseS (fun hL hk hT => FnsOk.cons (hT.ok fit) (FnsOk.cons (frame_fn_ok (l20_ok hL)) (FnsOk.cons (pure_fn_ok (l10_ok hL)) (FnsOk.cons (frame_fn_ok (all_cons (m10_ok hL) (all_cons (m186_ok hL) (all_nil)))) ((q9_ok hL)))))) run14
theorem run15 : isTrue (evCall (cxX Tryz.prog bad [] [] ((8, numExtE [(0, 9, .lit 7)]) :: (19, frameFn l13) :: (44, pureFn l10) :: (9, frameFn [m10, m52]) :: q2)) 1000 60 4 [.int .i64 (.var 0), bT] (sentH 453 20 errTab)) = true := by kernel_rfl
theorem case15 : CaseS [] [] [(0, 9, .lit 7)] [.int .i64 (.var 0), bT] := caseS (fun hL hk hT => FnsOk.cons (hT.ok fit) (FnsOk.cons (frame_fn_ok (l13_ok hL)) (FnsOk.cons (pure_fn_ok (l10_ok hL)) (FnsOk.cons (frame_fn_ok (all_cons (m10_ok hL) (all_cons (m52_ok hL) (all_nil)))) ((q2_ok hL)))))) run15
noncomputable def m209 : Memo := ⟨[bT, I 9, .snil, .slice 757 0 4 4 1 true], h29, .agg [.slice 1002 0 4 4 1 false, I 9, .snil, bT], h30⟩
theorem m209_run : ranTo (evCall (cxX Tryz.prog bad [] [] ((84, frameFn l1) :: q0)) 1000 60 9 m209.args m209.h) m209.v m209.h' = true := by kernel_rfl
theorem m209_ok {σ : Nat → Int} {W0 : World} (hL : L0 W0) : MemoOk Tryz.prog 26623 σ W0 9 m209 := memo_ok fit (Known2.nil σ) (FnsOk.cons (frame_fn_ok (l1_ok hL)) ((q0_ok hL))) m209_run
noncomputable def h361 : H := hUpc h321 2046 [2270] [(1002, .cells 1 ([[U 201326592], [U 67108864], [U 22020173], [U 218103808]]) false)] [(1060, 0, [.snil]),
  (1049, 2, [I 0, I 9])] [(1021, 0, 51, I 0), (1021, 0, 52, I 0), (1021, 1, 9, I 1), (1021, 1, 101, I 0), (1021, 1, 105, U 0)]
noncomputable def m210 : Memo := ⟨[.ptr 1061 0, .agg [.slice 1002 0 4 4 1 false, I 9, .snil, bT]], h33, .tuple [I 1, .inil], h361⟩
theorem m210_run : ranTo (evCall (cxX Tryz.prog bad [] [] ((44, pureFn l3) :: q0)) 1000 60 88 m210.args m210.h) m210.v m210.h' = true := by kernel_rfl
theorem m210_ok {σ : Nat → Int} {W0 : World} (hL : L0 W0) : MemoOk Tryz.prog 26623 σ W0 88 m210 := memo_ok fit (Known2.nil σ) (FnsOk.cons (pure_fn_ok (l3_ok hL)) ((q0_ok hL))) m210_run
noncomputable def h362 : H := hUpd h0 1005 [] [(1002, .cells 1 ([[U 201326592], [U 67108864], [U 22020173], [U 218103808]]) false),
  (1004, .cells 4 ([[.slice 755 0 9 9 1 false, I 500, .snil, bF], [.slice 1002 0 4 4 1 false, I 9, .snil, bT]]) false),
  (755, .cells 1 ([[U 142540800], [U 141295616], [U 16777217], [U 17826292], [U 185118720], [U 16777222], [U 17825794], [U 184987648], [U 186101760]]) false)] []
noncomputable def h363 : H := hUpc h361 2271 [] [(2270, .cells 1 ([[I 1]]) false),
  (1004, .cells 4 ([[.slice 755 0 9 9 1 false, I 500, .snil, bF], [.slice 1002 0 4 4 1 false, I 9, .snil, bT]]) false),
  (755, .cells 1 ([[U 142540800], [U 141295616], [U 16777217], [U 17826292], [U 185118720], [U 16777222], [U 17825794], [U 184987648], [U 186101760]]) false)] [(1060, 0, [.slice 2270 0 1 1 1 false])] [(1021, 1, 9, I 3)]
noncomputable def m211 : Memo := ⟨[.slice 1004 0 2 2 4 true], h362, .ptr 1061 0, h363⟩
theorem m211_run : ranTo (evCall (cxX Tryz.prog bad [] [] ((44, pureFn l4) :: (88, frameFn [m26, m210]) :: q0)) 1000 60 14 m211.args m211.h) m211.v m211.h' = true := by kernel_rfl
theorem m211_ok {σ : Nat → Int} {W0 : World} (hL : L0 W0) : MemoOk Tryz.prog 26623 σ W0 14 m211 := memo_ok fit (Known2.nil σ) (FnsOk.cons (pure_fn_ok (l4_ok hL)) (FnsOk.cons (frame_fn_ok (all_cons (m26_ok hL) (all_cons (m210_ok hL) (all_nil)))) ((q0_ok hL)))) m211_run
noncomputable def h364 : H := hUpc h324 2379 [2598, 2565] [] [(1017, 0, [I 16, .snil, I 0]),
  (1049, 0, [IZ (-1), I 2147483647]),
  (1049, 2, [I 0, I 9])] [(1061, 0, 8, I 0)]
noncomputable def h365 : H := hUpc h326 2684 [] [] [(1017, 0, [I 16, .slice 2598 0 1 1 10 false, I 0]),
  (1049, 0, [IZ (-1), I 2147483646]),
  (1049, 2, [I 0, I 8])] [(1061, 0, 8, I 1)]
noncomputable def m212 : Memo := ⟨[.ptr 1061 0, I 0], h364, .agg [I 1, I 3, I 0, U 0, I 0, U 0, IZ (-1), I 0], h365⟩
theorem m212_run : ranTo (evCall (cxX Tryz.prog bad [] [] ((44, pureFn l5) :: q0)) 1000 60 19 m212.args m212.h) m212.v m212.h' = true := by kernel_rfl
theorem m212_ok {σ : Nat → Int} {W0 : World} (hL : L0 W0) : MemoOk Tryz.prog 26623 σ W0 19 m212 := memo_ok fit (Known2.nil σ) (FnsOk.cons (pure_fn_ok (l5_ok hL)) ((q0_ok hL))) m212_run
noncomputable def h366 : H := hUpd h365 2685 [] [] []
noncomputable def h367 : H := hUpc h328 2856 [] [] [(1017, 0, [I 16, .slice 2598 0 1 1 10 false, I 1]),
  (1049, 0, [IZ (-1), I 2147483645]),
  (1049, 2, [I 0, I 7])] [(1061, 0, 8, I 2)]
noncomputable def m213 : Memo := ⟨[.ptr 1061 0, I 0], h366, .agg [I 1, I 1, I 0, U 0, I 0, U 0, IZ (-1), I 0], h367⟩
theorem m213_run : ranTo (evCall (cxX Tryz.prog bad [] [] ((44, pureFn l5) :: q0)) 1000 60 19 m213.args m213.h) m213.v m213.h' = true := by kernel_rfl
theorem m213_ok {σ : Nat → Int} {W0 : World} (hL : L0 W0) : MemoOk Tryz.prog 26623 σ W0 19 m213 := memo_ok fit (Known2.nil σ) (FnsOk.cons (pure_fn_ok (l5_ok hL)) ((q0_ok hL))) m213_run
noncomputable def h368 : H := hUpd h367 2857 [] [] []
noncomputable def h369 : H := hUpc h330 3028 [] [] [(1017, 0, [I 16, .slice 2598 0 1 1 10 false, I 2]),
  (1049, 0, [IZ (-1), I 2147483644]),
  (1049, 2, [I 0, I 6])] [(1061, 0, 8, I 3)]
noncomputable def m214 : Memo := ⟨[.ptr 1061 0, I 0], h368, .agg [I 1, I 3, I 0, U 0, I 0, U 0, IZ (-1), I 0], h369⟩
theorem m214_run : ranTo (evCall (cxX Tryz.prog bad [] [] ((44, pureFn l5) :: q0)) 1000 60 19 m214.args m214.h) m214.v m214.h' = true := by kernel_rfl
theorem m214_ok {σ : Nat → Int} {W0 : World} (hL : L0 W0) : MemoOk Tryz.prog 26623 σ W0 19 m214 := memo_ok fit (Known2.nil σ) (FnsOk.cons (pure_fn_ok (l5_ok hL)) ((q0_ok hL))) m214_run
noncomputable def h370 : H := hUpd h369 3029 [] [] []
noncomputable def h371 : H := hUpc h332 3200 [] [] [(1017, 0, [I 16, .slice 2598 0 1 1 10 false, I 3]),
  (1049, 0, [IZ (-1), I 2147483643]),
  (1049, 2, [I 0, I 5])] [(1061, 0, 8, I 4)]
noncomputable def m215 : Memo := ⟨[.ptr 1061 0, I 0], h370, .agg [I 1, I 1, I 0, U 0, I 0, U 0, IZ (-1), I 0], h371⟩
theorem m215_run : ranTo (evCall (cxX Tryz.prog bad [] [] ((44, pureFn l5) :: q0)) 1000 60 19 m215.args m215.h) m215.v m215.h' = true := by kernel_rfl
theorem m215_ok {σ : Nat → Int} {W0 : World} (hL : L0 W0) : MemoOk Tryz.prog 26623 σ W0 19 m215 := memo_ok fit (Known2.nil σ) (FnsOk.cons (pure_fn_ok (l5_ok hL)) ((q0_ok hL))) m215_run
noncomputable def h372 : H := hUpd h371 3201 [] [] []
noncomputable def h373 : H := hUpc h334 3372 [] [] [(1017, 0, [I 16, .slice 2598 0 1 1 10 false, I 4]),
  (1049, 0, [IZ (-1), I 2147483642]),
  (1049, 2, [I 0, I 4])] [(1061, 0, 8, I 5)]
noncomputable def m216 : Memo := ⟨[.ptr 1061 0, I 0], h372, .agg [I 1, I 3, I 0, U 0, I 0, U 0, IZ (-1), I 0], h373⟩
theorem m216_run : ranTo (evCall (cxX Tryz.prog bad [] [] ((44, pureFn l5) :: q0)) 1000 60 19 m216.args m216.h) m216.v m216.h' = true := by kernel_rfl
theorem m216_ok {σ : Nat → Int} {W0 : World} (hL : L0 W0) : MemoOk Tryz.prog 26623 σ W0 19 m216 := memo_ok fit (Known2.nil σ) (FnsOk.cons (pure_fn_ok (l5_ok hL)) ((q0_ok hL))) m216_run
noncomputable def h374 : H := hUpd h373 3373 [] [] []
noncomputable def h375 : H := hUpc h336 3544 [] [] [(1017, 0, [I 16, .slice 2598 0 1 1 10 false, I 5]),
  (1049, 0, [IZ (-1), I 2147483641]),
  (1049, 2, [I 0, I 3])] [(1061, 0, 8, I 6)]
noncomputable def m217 : Memo := ⟨[.ptr 1061 0, I 0], h374, .agg [I 1, I 1, I 0, U 0, I 0, U 0, IZ (-1), I 0], h375⟩
theorem m217_run : ranTo (evCall (cxX Tryz.prog bad [] [] ((44, pureFn l5) :: q0)) 1000 60 19 m217.args m217.h) m217.v m217.h' = true := by kernel_rfl
theorem m217_ok {σ : Nat → Int} {W0 : World} (hL : L0 W0) : MemoOk Tryz.prog 26623 σ W0 19 m217 := memo_ok fit (Known2.nil σ) (FnsOk.cons (pure_fn_ok (l5_ok hL)) ((q0_ok hL))) m217_run
noncomputable def h376 : H := hUpd h375 3545 [] [] []
noncomputable def h377 : H := hUpc h365 3716 [] [] [(1017, 0, [I 16, .slice 2598 0 1 1 10 false, I 6]),
  (1049, 0, [IZ (-1), I 2147483640]),
  (1049, 2, [I 0, I 2])] [(1061, 0, 8, I 7)]
noncomputable def m218 : Memo := ⟨[.ptr 1061 0, I 0], h376, .agg [I 1, I 3, I 0, U 0, I 0, U 0, IZ (-1), I 0], h377⟩
theorem m218_run : ranTo (evCall (cxX Tryz.prog bad [] [] ((44, pureFn l5) :: q0)) 1000 60 19 m218.args m218.h) m218.v m218.h' = true := by kernel_rfl
theorem m218_ok {σ : Nat → Int} {W0 : World} (hL : L0 W0) : MemoOk Tryz.prog 26623 σ W0 19 m218 := memo_ok fit (Known2.nil σ) (FnsOk.cons (pure_fn_ok (l5_ok hL)) ((q0_ok hL))) m218_run
noncomputable def h378 : H := hUpd h377 3717 [] [] []
noncomputable def h379 : H := hUpc h367 3888 [] [] [(1017, 0, [I 16, .slice 2598 0 1 1 10 false, I 7]),
  (1049, 0, [IZ (-1), I 2147483639]),
  (1049, 2, [I 0, I 1])] [(1061, 0, 8, I 8)]
noncomputable def m219 : Memo := ⟨[.ptr 1061 0, I 0], h378, .agg [I 1, I 1, I 0, U 0, I 0, U 0, IZ (-1), I 0], h379⟩
theorem m219_run : ranTo (evCall (cxX Tryz.prog bad [] [] ((44, pureFn l5) :: q0)) 1000 60 19 m219.args m219.h) m219.v m219.h' = true := by kernel_rfl
theorem m219_ok {σ : Nat → Int} {W0 : World} (hL : L0 W0) : MemoOk Tryz.prog 26623 σ W0 19 m219 := memo_ok fit (Known2.nil σ) (FnsOk.cons (pure_fn_ok (l5_ok hL)) ((q0_ok hL))) m219_run
noncomputable def h380 : H := hUpd h379 3889 [] [] []
noncomputable def h381 : H := hUpc h365 4060 [] [] [(1017, 0, [I 16, .slice 2598 0 1 1 10 false, I 8]),
  (1049, 0, [IZ (-1), I 2147483638]),
  (1049, 2, [I 0, I 0])] [(1061, 0, 8, I 9)]
noncomputable def m220 : Memo := ⟨[.ptr 1061 0, I 0], h380, .agg [I 1, I 3, I 0, U 0, I 0, U 0, IZ (-1), I 0], h381⟩
theorem m220_run : ranTo (evCall (cxX Tryz.prog bad [] [] ((44, pureFn l5) :: q0)) 1000 60 19 m220.args m220.h) m220.v m220.h' = true := by kernel_rfl
theorem m220_ok {σ : Nat → Int} {W0 : World} (hL : L0 W0) : MemoOk Tryz.prog 26623 σ W0 19 m220 := memo_ok fit (Known2.nil σ) (FnsOk.cons (pure_fn_ok (l5_ok hL)) ((q0_ok hL))) m220_run
noncomputable def h382 : H := hUpd h381 4061 [] [] []
noncomputable def h383 : H := hUpc h381 4378 [] [] [(2270, 0, [I 0])] [(1021, 0, 0, U 1006), (1021, 0, 1, U 1), (1021, 0, 3, U 1), (1021, 0, 4, U 9), (1021, 0, 9, I 3), (1021, 0, 71, I 4), (1021, 0, 72, I 1), (1021, 0, 86, I 6), (1021, 0, 87, I 1), (1021, 0, 90, U 1), (1021, 1, 9, I 2), (1021, 1, 10, I 6), (1021, 1, 106, I 1), (1061, 0, 8, I 10)]
noncomputable def m221 : Memo := ⟨[.ptr 1061 0, I 0], h382, .agg [I 1, I 5, I 0, U 0, I 0, U 0, I 0, I 6], h383⟩
theorem m221_run : ranTo (evCall (cxX Tryz.prog bad [] [] ((44, pureFn l6) :: q0)) 1000 60 19 m221.args m221.h) m221.v m221.h' = true := by kernel_rfl
theorem m221_ok {σ : Nat → Int} {W0 : World} (hL : L0 W0) : MemoOk Tryz.prog 26623 σ W0 19 m221 := memo_ok fit (Known2.nil σ) (FnsOk.cons (pure_fn_ok (l6_ok hL)) ((q0_ok hL))) m221_run
noncomputable def h384 : H := hUpd h383 4379 [] [] []
noncomputable def h385 : H := hUpc h383 4701 [2598] [(4568, .cells 1 ([[I 0]]) false),
  (4601, .cells 10 ([[I 2, I 1, I 0, I 0, U 1, U 0, .slice 2565 0 1 1 1 false, I 2, I 0, bF], [I 2, I 0, I 0, I 0, U 1, U 0, .slice 4568 0 1 1 1 false, I 0, I 0, bF]]) false)] [(1017, 0, [I 16, .slice 4601 0 2 2 10 false, I 8]),
  (1049, 0, [IZ (-1), I 2147483637]),
  (1049, 1, [I 0, I 499])] [(1021, 0, 8, U 1), (1021, 0, 46, I 6), (1021, 0, 47, I 1), (1021, 0, 50, U 1), (1061, 0, 8, I 11)]
noncomputable def m222 : Memo := ⟨[.ptr 1061 0, I 0], h384, .agg [I 0, I 1, I 0, U 0, I 0, U 0, IZ (-1), I 0], h385⟩
theorem m222_run : ranTo (evCall (cxX Tryz.prog bad [] [] ((44, pureFn l7) :: q0)) 1000 60 19 m222.args m222.h) m222.v m222.h' = true := by kernel_rfl
theorem m222_ok {σ : Nat → Int} {W0 : World} (hL : L0 W0) : MemoOk Tryz.prog 26623 σ W0 19 m222 := memo_ok fit (Known2.nil σ) (FnsOk.cons (pure_fn_ok (l7_ok hL)) ((q0_ok hL))) m222_run
noncomputable def h386 : H := hUpd h385 4702 [] [] []
noncomputable def h387 : H := hUpc h385 4890 [] [] [(1017, 0, [I 16, .slice 4601 0 2 2 10 false, I 9]),
  (1049, 0, [IZ (-1), I 2147483636]),
  (1049, 1, [I 0, I 498])] [(1021, 0, 8, U 2), (1021, 0, 41, I 4), (1021, 0, 42, I 1), (1061, 0, 8, I 12)]
noncomputable def m223 : Memo := ⟨[.ptr 1061 0, I 0], h386, .agg [I 0, I 1, I 0, U 0, I 0, U 0, IZ (-1), I 0], h387⟩
theorem m223_run : ranTo (evCall (cxX Tryz.prog bad [] [] ((44, pureFn l8) :: q0)) 1000 60 19 m223.args m223.h) m223.v m223.h' = true := by kernel_rfl
theorem m223_ok {σ : Nat → Int} {W0 : World} (hL : L0 W0) : MemoOk Tryz.prog 26623 σ W0 19 m223 := memo_ok fit (Known2.nil σ) (FnsOk.cons (pure_fn_ok (l8_ok hL)) ((q0_ok hL))) m223_run
noncomputable def h388 : H := hUpd h387 4891 [] [] []
noncomputable def h389 : H := hUpc h387 5074 [] [] [(1017, 0, [I 16, .slice 4601 0 2 2 10 false, I 10]),
  (1049, 0, [IZ (-1), I 2147483635]),
  (1049, 1, [I 0, I 497])] [(1021, 0, 0, U 1), (1021, 0, 8, U 3), (1061, 0, 8, I 13)]
noncomputable def m224 : Memo := ⟨[.ptr 1061 0, I 0], h388, .agg [I 0, I 1, I 0, U 0, I 0, U 0, IZ (-1), I 0], h389⟩
theorem m224_run : ranTo (evCall (cxX Tryz.prog bad [] [] ((44, pureFn l8) :: q0)) 1000 60 19 m224.args m224.h) m224.v m224.h' = true := by kernel_rfl
theorem m224_ok {σ : Nat → Int} {W0 : World} (hL : L0 W0) : MemoOk Tryz.prog 26623 σ W0 19 m224 := memo_ok fit (Known2.nil σ) (FnsOk.cons (pure_fn_ok (l8_ok hL)) ((q0_ok hL))) m224_run
noncomputable def h390 : H := hUpd h389 5075 [] [] []
noncomputable def h391 : H := hUpc h389 5258 [] [] [(1017, 0, [I 16, .slice 4601 0 2 2 10 false, I 11]),
  (1049, 0, [IZ (-1), I 2147483634]),
  (1049, 1, [I 0, I 496])] [(1021, 0, 1, U 500), (1021, 0, 8, U 4), (1061, 0, 8, I 14)]
noncomputable def m225 : Memo := ⟨[.ptr 1061 0, I 0], h390, .agg [I 0, I 1, I 0, U 0, I 0, U 0, IZ (-1), I 0], h391⟩
theorem m225_run : ranTo (evCall (cxX Tryz.prog bad [] [] ((44, pureFn l8) :: q0)) 1000 60 19 m225.args m225.h) m225.v m225.h' = true := by kernel_rfl
theorem m225_ok {σ : Nat → Int} {W0 : World} (hL : L0 W0) : MemoOk Tryz.prog 26623 σ W0 19 m225 := memo_ok fit (Known2.nil σ) (FnsOk.cons (pure_fn_ok (l8_ok hL)) ((q0_ok hL))) m225_run
noncomputable def h392 : H := hUpd h391 5259 [] [] []
noncomputable def h393 : H := hUpc h387 5800 [] [] [(1017, 0, [I 16, .slice 4601 0 2 2 10 false, I 12]),
  (1049, 0, [IZ (-1), I 2147483633]),
  (1049, 1, [I 0, I 495]),
  (1049, 2, [I 0, I 500])] [(1021, 0, 0, U 0), (1021, 0, 1, U 0), (1021, 0, 3, U 0), (1021, 0, 4, U 0), (1021, 0, 8, U 5), (1021, 0, 71, I 0), (1021, 0, 72, I 0), (1021, 0, 86, I 0), (1021, 0, 87, I 0), (1021, 0, 90, U 0), (1061, 0, 8, I 15)]
noncomputable def m226 : Memo := ⟨[.ptr 1061 0, I 0], h392, .agg [I 0, I 2, I 0, U 1, I 7, U 0, IZ (-1), I 0], h393⟩
theorem m226_run : ranTo (evCall (cxX Tryz.prog bad [] [] ((44, pureFn l8) :: q0)) 1000 60 19 m226.args m226.h) m226.v m226.h' = true := by kernel_rfl
theorem m226_ok {σ : Nat → Int} {W0 : World} (hL : L0 W0) : MemoOk Tryz.prog 26623 σ W0 19 m226 := memo_ok fit (Known2.nil σ) (FnsOk.cons (pure_fn_ok (l8_ok hL)) ((q0_ok hL))) m226_run
noncomputable def h394 : H := hUpd h393 5801 [] [] []
noncomputable def h395 : H := hUpc h393 5984 [] [] [(1017, 0, [I 16, .slice 4601 0 2 2 10 false, I 13]),
  (1049, 0, [IZ (-1), I 2147483632]),
  (1049, 1, [I 0, I 494])] [(1021, 0, 0, U 6), (1021, 0, 8, U 6), (1061, 0, 8, I 16)]
noncomputable def m227 : Memo := ⟨[.ptr 1061 0, I 0], h394, .agg [I 0, I 1, I 0, U 0, I 0, U 0, IZ (-1), I 0], h395⟩
theorem m227_run : ranTo (evCall (cxX Tryz.prog bad [] [] ((44, pureFn l8) :: q0)) 1000 60 19 m227.args m227.h) m227.v m227.h' = true := by kernel_rfl
theorem m227_ok {σ : Nat → Int} {W0 : World} (hL : L0 W0) : MemoOk Tryz.prog 26623 σ W0 19 m227 := memo_ok fit (Known2.nil σ) (FnsOk.cons (pure_fn_ok (l8_ok hL)) ((q0_ok hL))) m227_run
noncomputable def h396 : H := hUpd h395 5985 [] [] []
noncomputable def h397 : H := hUpc h395 6168 [] [] [(1017, 0, [I 16, .slice 4601 0 2 2 10 false, I 14]),
  (1049, 0, [IZ (-1), I 2147483631]),
  (1049, 1, [I 0, I 493])] [(1021, 0, 1, U 2), (1021, 0, 8, U 7), (1061, 0, 8, I 17)]
noncomputable def m228 : Memo := ⟨[.ptr 1061 0, I 0], h396, .agg [I 0, I 1, I 0, U 0, I 0, U 0, IZ (-1), I 0], h397⟩
theorem m228_run : ranTo (evCall (cxX Tryz.prog bad [] [] ((44, pureFn l8) :: q0)) 1000 60 19 m228.args m228.h) m228.v m228.h' = true := by kernel_rfl
theorem m228_ok {σ : Nat → Int} {W0 : World} (hL : L0 W0) : MemoOk Tryz.prog 26623 σ W0 19 m228 := memo_ok fit (Known2.nil σ) (FnsOk.cons (pure_fn_ok (l8_ok hL)) ((q0_ok hL))) m228_run
noncomputable def h398 : H := hUpd h397 6169 [] [] []
noncomputable def h399 : H := hUpc h393 6712 [] [] [(1017, 0, [I 16, .slice 4601 0 2 2 10 false, I 15]),
  (1049, 0, [IZ (-1), I 2147483630]),
  (1049, 1, [I 0, I 492])] [(1021, 0, 8, U 8), (1021, 1, 8, U 2), (1061, 0, 8, I 18)]
noncomputable def m229 : Memo := ⟨[.ptr 1061 0, I 0], h398, .agg [I 0, I 2, I 0, U 6, I 4, U 0, IZ (-1), I 0], h399⟩
theorem m229_run : ranTo (evCall (cxX Tryz.prog bad [] [] ((44, pureFn l9) :: q0)) 1000 60 19 m229.args m229.h) m229.v m229.h' = true := by kernel_rfl
theorem m229_ok {σ : Nat → Int} {W0 : World} (hL : L0 W0) : MemoOk Tryz.prog 26623 σ W0 19 m229 := memo_ok fit (Known2.nil σ) (FnsOk.cons (pure_fn_ok (l9_ok hL)) ((q0_ok hL))) m229_run
noncomputable def h400 : H := hUpd h399 6713 [] [] []
noncomputable def h401 : H := hUpc h399 7217 [] [] [(2270, 0, [I 1]),
  (1017, 0, [I 16, .slice 4601 0 2 2 10 false, I 16]),
  (1049, 0, [IZ (-1), I 2147483629]),
  (1049, 1, [I 0, I 491])] [(1021, 0, 8, U 9), (1021, 0, 9, I 1), (1021, 1, 9, I 3), (1061, 0, 8, I 19)]
noncomputable def m230 : Memo := ⟨[.ptr 1061 0, I 0], h400, .agg [I 0, I 2, I 1, U 0, I 6, U 0, I 1, I 0], h401⟩
theorem m230_run : ranTo (evCall (cxX Tryz.prog bad [] [] ((44, pureFn l9) :: q0)) 1000 60 19 m230.args m230.h) m230.v m230.h' = true := by kernel_rfl
theorem m230_ok {σ : Nat → Int} {W0 : World} (hL : L0 W0) : MemoOk Tryz.prog 26623 σ W0 19 m230 := memo_ok fit (Known2.nil σ) (FnsOk.cons (pure_fn_ok (l9_ok hL)) ((q0_ok hL))) m230_run
noncomputable def h402 : H := hUpd h401 7218 [] [] []
noncomputable def h403 : H := hUpc h401 7398 [] [] [(1017, 0, [I 16, .slice 4601 0 2 2 10 false, I 17]),
  (1049, 0, [IZ (-1), I 2147483628]),
  (1049, 2, [I 0, I 499])] [(1021, 1, 5, U 77), (1021, 1, 8, U 3), (1061, 0, 8, I 20)]
noncomputable def m231 : Memo := ⟨[.ptr 1061 0, I 0], h402, .agg [I 1, I 1, I 0, U 0, I 0, U 0, IZ (-1), I 0], h403⟩
theorem m231_run : ranTo (evCall (cxX Tryz.prog bad [] [] ((44, pureFn l5) :: q0)) 1000 60 19 m231.args m231.h) m231.v m231.h' = true := by kernel_rfl
theorem m231_ok {σ : Nat → Int} {W0 : World} (hL : L0 W0) : MemoOk Tryz.prog 26623 σ W0 19 m231 := memo_ok fit (Known2.nil σ) (FnsOk.cons (pure_fn_ok (l5_ok hL)) ((q0_ok hL))) m231_run
noncomputable def h404 : H := hUpd h403 7399 [] [] []
noncomputable def h405 : H := hUpc h403 7569 [] [] [(2270, 0, [I 0]),
  (1060, 0, [.slice 2270 0 0 1 1 false]),
  (1017, 0, [I 16, .slice 4601 0 2 2 10 false, I 18]),
  (1049, 0, [IZ (-1), I 2147483627]),
  (1049, 2, [I 0, I 498])] [(1021, 1, 8, U 4), (1021, 1, 9, I 4), (1061, 0, 8, I 21)]
noncomputable def m232 : Memo := ⟨[.ptr 1061 0, I 0], h404, .agg [I 1, I 4, I 0, U 0, I 0, U 0, IZ (-1), I 0], h405⟩
theorem m232_run : ranTo (evCall (cxX Tryz.prog bad [] [] ((44, pureFn l5) :: q0)) 1000 60 19 m232.args m232.h) m232.v m232.h' = true := by kernel_rfl
theorem m232_ok {σ : Nat → Int} {W0 : World} (hL : L0 W0) : MemoOk Tryz.prog 26623 σ W0 19 m232 := memo_ok fit (Known2.nil σ) (FnsOk.cons (pure_fn_ok (l5_ok hL)) ((q0_ok hL))) m232_run
noncomputable def l21 : List (Memo) := m232 :: m231 :: m230 :: m229 :: m228 :: m227 :: m226 :: m225 :: m224 :: m223 :: m222 :: m221 :: m220 :: m219 :: m218 :: m217 :: m216 :: m215 :: m214 :: m213 :: m212 :: []
theorem l21_ok {σ : Nat → Int} {W0 : World} (hL : L0 W0) : ∀ x ∈ l21, MemoOk Tryz.prog 26623 σ W0 19 x := all_cons (m232_ok hL) (all_cons (m231_ok hL) (all_cons (m230_ok hL) (all_cons (m229_ok hL) (all_cons (m228_ok hL) (all_cons (m227_ok hL) (all_cons (m226_ok hL) (all_cons (m225_ok hL) (all_cons (m224_ok hL) (all_cons (m223_ok hL) (all_cons (m222_ok hL) (all_cons (m221_ok hL) (all_cons (m220_ok hL) (all_cons (m219_ok hL) (all_cons (m218_ok hL) (all_cons (m217_ok hL) (all_cons (m216_ok hL) (all_cons (m215_ok hL) (all_cons (m214_ok hL) (all_cons (m213_ok hL) (all_cons (m212_ok hL) (all_nil)))))))))))))))))))))
noncomputable def q10 : Fns := [(7, pureFn [p0]), (14, frameFn [m211]), (295, isFn 453), (122, atoiFullFn 384), (123, itoaFullFn), (195, joinFn), (307, countFn), (352, indexFn), (308, cutOf Tryz.prog 26623 bad [(307, countFn), (352, indexFn)] 1000 20 308)]
theorem q10_ok {σ : Nat → Int} {W0 : World} (hL : L0 W0) : FnsOk Tryz.prog 26623 σ W0 q10 := FnsOk.cons (pure_fn_ok (all_cons (p0_ok hL) (all_nil))) (FnsOk.cons (frame_fn_ok (all_cons (m211_ok hL) (all_nil))) (FnsOk.cons (ext_is hL) (FnsOk.cons (ext_atoi hL) (FnsOk.cons (ext_itoa hL) (FnsOk.cons (ext_join hL) (FnsOk.cons (ext_count hL) (FnsOk.cons (ext_index hL) (FnsOk.cons (ext_cut308 hL) (FnsOk.nil)))))))))
theorem run16 : isTrue (evCall (cxX Tryz.prog bad [] [] ((8, numExtE [(0, 9, .lit 8)]) :: (19, frameFn l21) :: (44, pureFn l10) :: (9, frameFn [m10, m209]) :: q10)) 1000 60 4 [.int .i64 (.var 0), bF] (sentH 453 20 errTab)) = true := by kernel_rfl
theorem case16 : CaseS [] [] [(0, 9, .lit 8)] [.int .i64 (.var 0), bF] := caseS (fun hL hk hT => FnsOk.cons (hT.ok fit) (FnsOk.cons (frame_fn_ok (l21_ok hL)) (FnsOk.cons (pure_fn_ok (l10_ok hL)) (FnsOk.cons (frame_fn_ok (all_cons (m10_ok hL) (all_cons (m209_ok hL) (all_nil)))) ((q10_ok hL)))))) run16
end Go.Proofs.YtkfhelmjaoepiabGreatDoor.worldKeeps
