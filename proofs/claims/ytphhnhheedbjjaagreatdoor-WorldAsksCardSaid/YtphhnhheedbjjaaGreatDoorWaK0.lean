/- worldAsks: calls that are run once, and the runs of the cases (part 0). -/
import Derived.Test.YtphhnhheedbjjaaGreatDoorEvWaF
set_option linter.unusedVariables false
set_option maxRecDepth 10000000
namespace Go.Proofs.YtphhnhheedbjjaaGreatDoor.worldAsks
open Tk
open Go.RowKit
noncomputable def h0 : H := sentH 373 19 errTab
noncomputable def q0 : Fns := [(272, isFn 373), (108, atoiFullFn 330), (19, itoaFullFn), (188, countDFn), (261, indexDFn), (189, cutOf Tryz.prog 412927 bad [(188, countDFn), (261, indexDFn)] 1000 20 189)]
theorem q0_ok {σ : Nat → Int} {W0 : World} (hL : L0 W0) : FnsOk Tryz.prog 412927 σ W0 q0 := FnsOk.cons (ext_is hL) (FnsOk.cons (ext_atoi hL) (FnsOk.cons (ext_itoa hL) (FnsOk.cons (ext_count hL) (FnsOk.cons (ext_index hL) (FnsOk.cons (ext_cut189 hL) (FnsOk.nil))))))
noncomputable def p0 : Pur := ([], bT, 1048576)
theorem p0_run : ranPure (evCall (cxX Tryz.prog bad [] [] q0) 1000 60 5 p0.1 ⟨.lf, p0.2.2⟩) p0.2.1 = true := by kernel_rfl
theorem p0_ok {σ : Nat → Int} {W0 : World} (hL : L0 W0) : PureOk Tryz.prog 412927 σ W0 5 p0 := pure_ok fit (Known2.nil σ) ((q0_ok hL)) p0_run
noncomputable def h1 : H := hUpd h0 136 [] [(40, .cells 1 ([[.str [108, 105]], [.str [114, 48]], [.str [49]]]) false),
  (135, .map [] 0)] []
noncomputable def h2 : H := hUpd h1 197 [] [] []
noncomputable def m1 : Memo := ⟨[.slice 40 0 3 3 1 false, .map 135], h1, .tuple [U 16777217, .inil], h2⟩
theorem m1_run : ranTo (evCall (cxX Tryz.prog bad [] [] q0) 1000 60 40 m1.args m1.h) m1.v m1.h' = true := by kernel_rfl
theorem m1_ok {σ : Nat → Int} {W0 : World} (hL : L0 W0) : MemoOk Tryz.prog 412927 σ W0 40 m1 := memo_ok fit (Known2.nil σ) ((q0_ok hL)) m1_run
noncomputable def h3 : H := hUpd h1 199 [40] [(51, .cells 1 ([[.str [105, 110, 118]], [.str [99, 97, 108, 108]], [.str [107, 48]], [.str [107, 49, 49]]]) false)] []
noncomputable def h4 : H := hUpd h3 274 [] [] []
noncomputable def m2 : Memo := ⟨[.slice 51 0 4 4 1 false, .map 135], h3, .tuple [U 184594432, .inil], h4⟩
theorem m2_run : ranTo (evCall (cxX Tryz.prog bad [] [] q0) 1000 60 40 m2.args m2.h) m2.v m2.h' = true := by kernel_rfl
theorem m2_ok {σ : Nat → Int} {W0 : World} (hL : L0 W0) : MemoOk Tryz.prog 412927 σ W0 40 m2 := memo_ok fit (Known2.nil σ) ((q0_ok hL)) m2_run
noncomputable def h5 : H := hUpd h1 276 [40] [(60, .cells 1 ([[.str [107, 109, 111, 118, 101]], [.str [107, 54]], [.str [107, 49, 50]]]) false)] []
noncomputable def h6 : H := hUpd h5 349 [] [] []
noncomputable def m3 : Memo := ⟨[.slice 60 0 3 3 1 false, .map 135], h5, .tuple [U 141295616, .inil], h6⟩
theorem m3_run : ranTo (evCall (cxX Tryz.prog bad [] [] q0) 1000 60 40 m3.args m3.h) m3.v m3.h' = true := by kernel_rfl
theorem m3_ok {σ : Nat → Int} {W0 : World} (hL : L0 W0) : MemoOk Tryz.prog 412927 σ W0 40 m3 := memo_ok fit (Known2.nil σ) ((q0_ok hL)) m3_run
noncomputable def h7 : H := hUpd h1 351 [40] [(69, .cells 1 ([[.str [108, 105]], [.str [114, 48]], [.str [49]]]) false)] []
noncomputable def h8 : H := hUpd h7 412 [] [] []
noncomputable def m4 : Memo := ⟨[.slice 69 0 3 3 1 false, .map 135], h7, .tuple [U 16777217, .inil], h8⟩
theorem m4_run : ranTo (evCall (cxX Tryz.prog bad [] [] q0) 1000 60 40 m4.args m4.h) m4.v m4.h' = true := by kernel_rfl
theorem m4_ok {σ : Nat → Int} {W0 : World} (hL : L0 W0) : MemoOk Tryz.prog 412927 σ W0 40 m4 := memo_ok fit (Known2.nil σ) ((q0_ok hL)) m4_run
noncomputable def h9 : H := hUpd h1 414 [40] [(78, .cells 1 ([[.str [108, 105]], [.str [114, 49]], [.str [48]]]) false)] []
noncomputable def h10 : H := hUpd h9 475 [] [] []
noncomputable def m5 : Memo := ⟨[.slice 78 0 3 3 1 false, .map 135], h9, .tuple [U 17825792, .inil], h10⟩
theorem m5_run : ranTo (evCall (cxX Tryz.prog bad [] [] q0) 1000 60 40 m5.args m5.h) m5.v m5.h' = true := by kernel_rfl
theorem m5_ok {σ : Nat → Int} {W0 : World} (hL : L0 W0) : MemoOk Tryz.prog 412927 σ W0 40 m5 := memo_ok fit (Known2.nil σ) ((q0_ok hL)) m5_run
noncomputable def h11 : H := hUpd h1 477 [40] [(87, .cells 1 ([[.str [108, 105]], [.str [114, 50]], [.strd [.d (.var 2) 1 0]]]) false)] []
noncomputable def h12 : H := hUpd h11 538 [] [] []
noncomputable def m6 : Memo := ⟨[.slice 87 0 3 3 1 false, .map 135], h11, .tuple [.int .u32 (.add (.lit 18874368) (.var 2)), .inil], h12⟩
noncomputable def q1 : Fns := [(272, isFn 373), (188, countDFn), (261, indexDFn), (189, cutOf Tryz.prog 412927 bad [(188, countDFn), (261, indexDFn)] 1000 20 189)]
theorem q1_ok {σ : Nat → Int} {W0 : World} (hL : L0 W0) : FnsOk Tryz.prog 412927 σ W0 q1 := FnsOk.cons (ext_is hL) (FnsOk.cons (ext_count hL) (FnsOk.cons (ext_index hL) (FnsOk.cons (ext_cut189 hL) (FnsOk.nil))))
theorem m6_run : ranTo (evCall (cxX Tryz.prog bad [((-9223372036854775808), 9223372036854775807), ((-9223372036854775808), 9223372036854775807), (0, 9)] [] ((108, atoiDFn (cxX Tryz.prog bad [((-9223372036854775808), 9223372036854775807), ((-9223372036854775808), 9223372036854775807), (0, 9)] [] []) (atoiFullFn 330)) :: (19, itoaDFn (cxX Tryz.prog bad [((-9223372036854775808), 9223372036854775807), ((-9223372036854775808), 9223372036854775807), (0, 9)] [] [])) :: q1)) 1000 60 40 m6.args m6.h) m6.v m6.h' = true := by kernel_rfl
theorem m6_ok {σ : Nat → Int} {W0 : World} (hL : L0 W0) (hk : Known2 σ [((-9223372036854775808), 9223372036854775807), ((-9223372036854775808), 9223372036854775807), (0, 9)] []) : MemoOk Tryz.prog 412927 σ W0 40 m6 := memo_ok fit hk (FnsOk.cons (ext_atoiD hL hk) (FnsOk.cons (ext_itoaD hL hk) ((q1_ok hL)))) m6_run
noncomputable def h13 : H := hUpd h1 540 [40] [(98, .cells 1 ([[.str [105, 110, 118]], [.str [99, 97, 108, 108]], [.str [107, 54]], [.str [107, 49, 49]]]) false)] []
noncomputable def h14 : H := hUpd h13 615 [] [] []
noncomputable def m7 : Memo := ⟨[.slice 98 0 4 4 1 false, .map 135], h13, .tuple [U 184987648, .inil], h14⟩
theorem m7_run : ranTo (evCall (cxX Tryz.prog bad [] [] q0) 1000 60 40 m7.args m7.h) m7.v m7.h' = true := by kernel_rfl
theorem m7_ok {σ : Nat → Int} {W0 : World} (hL : L0 W0) : MemoOk Tryz.prog 412927 σ W0 40 m7 := memo_ok fit (Known2.nil σ) ((q0_ok hL)) m7_run
noncomputable def h15 : H := hUpd h1 617 [40] [(107, .cells 1 ([[.str [108, 105]], [.str [114, 48]], [.str [48]]]) false)] []
noncomputable def h16 : H := hUpd h15 678 [] [] []
noncomputable def m8 : Memo := ⟨[.slice 107 0 3 3 1 false, .map 135], h15, .tuple [U 16777216, .inil], h16⟩
theorem m8_run : ranTo (evCall (cxX Tryz.prog bad [] [] q0) 1000 60 40 m8.args m8.h) m8.v m8.h' = true := by kernel_rfl
theorem m8_ok {σ : Nat → Int} {W0 : World} (hL : L0 W0) : MemoOk Tryz.prog 412927 σ W0 40 m8 := memo_ok fit (Known2.nil σ) ((q0_ok hL)) m8_run
noncomputable def h17 : H := hUpd h1 680 [40] [(116, .cells 1 ([[.str [108, 105]], [.str [114, 49]], [.str [48]]]) false)] []
noncomputable def h18 : H := hUpd h17 741 [] [] []
noncomputable def m9 : Memo := ⟨[.slice 116 0 3 3 1 false, .map 135], h17, .tuple [U 17825792, .inil], h18⟩
theorem m9_run : ranTo (evCall (cxX Tryz.prog bad [] [] q0) 1000 60 40 m9.args m9.h) m9.v m9.h' = true := by kernel_rfl
theorem m9_ok {σ : Nat → Int} {W0 : World} (hL : L0 W0) : MemoOk Tryz.prog 412927 σ W0 40 m9 := memo_ok fit (Known2.nil σ) ((q0_ok hL)) m9_run
noncomputable def h19 : H := hUpd h1 743 [40] [(127, .cells 1 ([[.str [105, 110, 118]], [.str [99, 97, 108, 108]], [.str [107, 54]], [.str [107, 49, 49]]]) false)] []
noncomputable def h20 : H := hUpd h19 818 [] [] []
noncomputable def m10 : Memo := ⟨[.slice 127 0 4 4 1 false, .map 135], h19, .tuple [U 184987648, .inil], h20⟩
theorem m10_run : ranTo (evCall (cxX Tryz.prog bad [] [] q0) 1000 60 40 m10.args m10.h) m10.v m10.h' = true := by kernel_rfl
theorem m10_ok {σ : Nat → Int} {W0 : World} (hL : L0 W0) : MemoOk Tryz.prog 412927 σ W0 40 m10 := memo_ok fit (Known2.nil σ) ((q0_ok hL)) m10_run
noncomputable def h21 : H := hUpd h1 820 [40] [(132, .cells 1 ([[.str [104, 97, 108, 116]]]) false)] []
noncomputable def h22 : H := hUpd h21 869 [] [] []
noncomputable def m11 : Memo := ⟨[.slice 132 0 1 1 1 false, .map 135], h21, .tuple [U 218103808, .inil], h22⟩
theorem m11_run : ranTo (evCall (cxX Tryz.prog bad [] [] q0) 1000 60 40 m11.args m11.h) m11.v m11.h' = true := by kernel_rfl
theorem m11_ok {σ : Nat → Int} {W0 : World} (hL : L0 W0) : MemoOk Tryz.prog 412927 σ W0 40 m11 := memo_ok fit (Known2.nil σ) ((q0_ok hL)) m11_run
noncomputable def h23 : H := hUpd h0 875 [] [] []
noncomputable def h24 : H := hUpd h0 930 [] [(894, .cells 1 ([[.snil]]) false),
  (926, .cells 31 (rp 6 ((bF) :: rp 4 (I 0) ((U 0) :: rp 4 (I 0) ((U 0) :: rp 4 (I 0) ((U 0) :: rp 4 (I 0) ((U 0) :: rp 4 (I 0) ((U 0) :: rp 4 (I 0) ([U 0]))))))) ([])) false),
  (878, .cells 80 (rp 16 (rp 4 (I 0) ((U 0) :: rp 4 (I 0) ((U 0) :: rp 4 (I 0) ((U 0) :: rp 4 (I 0) ((U 0) :: rp 4 (I 0) ((U 0) :: rp 4 (I 0) ((U 0) :: rp 4 (I 0) ((U 0) :: rp 4 (I 0) ((U 0) :: rp 4 (I 0) ((U 0) :: rp 4 (I 0) ((U 0) :: rp 4 (I 0) ((U 0) :: rp 4 (I 0) ((U 0) :: rp 4 (I 0) ((U 0) :: rp 4 (I 0) ((U 0) :: rp 4 (I 0) ((U 0) :: rp 4 (I 0) ([U 0]))))))))))))))))) ([])) false),
  (886, .cells 3 ([[.ptr 884 0, I 16, .ptr 885 0]]) false),
  (918, .cells 2 ([[.ptr 916 0, .slice 917 0 12 12 2 true]]) false),
  (890, .cells 3 ([[.ptr 888 0, .slice 889 0 8 8 107 true, .slice 914 0 8 8 1 false]]) false),
  (922, .map [] 0),
  (906, .cells 1 ([[.snil]]) false),
  (882, .cells 32 (rp 24 (rp 32 (U 0) ([])) ([])) false),
  (914, .cells 1 ([[.ptr 891 0], [.ptr 894 0], [.ptr 897 0], [.ptr 900 0], [.ptr 903 0], [.ptr 906 0], [.ptr 909 0], [.ptr 912 0]]) false),
  (924, .cells 3 (rp 6 ([bF, I 0, bF]) ([])) false),
  (876, .cells 3 (rp 16 ([bF, I 0, bF]) ([])) false),
  (884, .cells 2 ([[.ptr 879 0, .ptr 883 0]]) false),
  (916, .cells 1 ([[.slice 915 0 12 12 3 true]]) false),
  (900, .cells 1 ([[.snil]]) false),
  (888, .cells 1 ([[.slice 887 0 8 8 3 true]]) false),
  (920, .cells 1 ([[.slice 919 0 8 8 3 true]]) false),
  (880, .cells 3 (rp 24 ([bF, I 0, bF]) ([])) false),
  (912, .cells 1 ([[.snil]]) false),
  (928, .cells 1 ([[.snil]]) false),
  (925, .cells 1 ([[.slice 924 0 6 6 3 true]]) false),
  (877, .cells 1 ([[.slice 876 0 16 16 3 true]]) false),
  (909, .cells 1 ([[.snil]]) false),
  (885, .cells 3 ([[I 16, .snil, I 0]]) false),
  (917, .cells 2 (rp 12 ([I 0, I 0]) ([])) false),
  (889, .cells 107 (rp 8 (rp 9 (U 0) (rp 6 (I 0) ((U 0) :: rp 4 (I 0) ((U 0) :: rp 4 (I 0) ((U 0) :: rp 4 (I 0) ((U 0) :: rp 4 (I 0) ((U 0) :: rp 4 (I 0) ((U 0) :: rp 4 (I 0) ((U 0) :: rp 4 (I 0) ((U 0) :: rp 4 (I 0) ((U 0) :: rp 4 (I 0) ((U 0) :: rp 4 (I 0) ((U 0) :: rp 4 (I 0) ((U 0) :: rp 4 (I 0) ((U 0) :: rp 4 (I 0) ((U 0) :: rp 4 (I 0) ((U 0) :: rp 4 (I 0) ((U 0) :: rp 4 (I 0) ((U 0) :: rp 4 (I 0) ((U 0) :: rp 4 (I 0) ([U 0, I 0]))))))))))))))))))))) ([])) false),
  (921, .cells 3 (rp 8 ([I 0, I 0, I 0]) ([])) false),
  (881, .cells 1 ([[.slice 880 0 24 24 3 true]]) false),
  (929, .cells 9 ([[.ptr 886 0, .ptr 890 0, .ptr 918 0, .ptr 923 0, .ptr 927 0, .ptr 928 0, .snil, .snil, I 0]]) false),
  (897, .cells 1 ([[.snil]]) false),
  (891, .cells 1 ([[.snil]]) false),
  (923, .cells 5 ([[.ptr 920 0, .slice 921 0 8 8 3 true, .map 922, .ptr 886 0, .ptr 890 0]]) false),
  (883, .cells 2 ([[.ptr 881 0, .slice 882 0 24 24 32 true]]) false),
  (915, .cells 3 (rp 12 ([bF, I 0, bF]) ([])) false),
  (887, .cells 3 (rp 8 ([bF, I 0, bF]) ([])) false),
  (919, .cells 3 (rp 8 ([bF, I 0, bF]) ([])) false),
  (903, .cells 1 ([[.snil]]) false),
  (879, .cells 2 ([[.ptr 877 0, .slice 878 0 16 16 80 true]]) false),
  (927, .cells 2 ([[.ptr 925 0, .slice 926 0 6 6 31 true]]) false)] []
noncomputable def m12 : Memo := ⟨[.agg [I 16, I 24, I 8, I 12, I 8, I 6]], h23, .tuple [.ptr 929 0, .inil], h24⟩
theorem m12_run : ranTo (evCall (cxX Tryz.prog bad [] [] q0) 1000 60 42 m12.args m12.h) m12.v m12.h' = true := by kernel_rfl
theorem m12_ok {σ : Nat → Int} {W0 : World} (hL : L0 W0) : MemoOk Tryz.prog 412927 σ W0 42 m12 := memo_ok fit (Known2.nil σ) ((q0_ok hL)) m12_run
noncomputable def p13 : Pur := ([.agg [I 3, I 0, I 0, I 0, U 0]], .inil, 1048576)
theorem p13_run : ranPure (evCall (cxX Tryz.prog bad [] [] q0) 1000 60 80 p13.1 ⟨.lf, p13.2.2⟩) p13.2.1 = true := by kernel_rfl
theorem p13_ok {σ : Nat → Int} {W0 : World} (hL : L0 W0) : PureOk Tryz.prog 412927 σ W0 80 p13 := pure_ok fit (Known2.nil σ) ((q0_ok hL)) p13_run
noncomputable def p14 : Pur := ([.agg [I 3, I 1, I 0, I 0, U 0]], .inil, 1048576)
theorem p14_run : ranPure (evCall (cxX Tryz.prog bad [] [] q0) 1000 60 80 p14.1 ⟨.lf, p14.2.2⟩) p14.2.1 = true := by kernel_rfl
theorem p14_ok {σ : Nat → Int} {W0 : World} (hL : L0 W0) : PureOk Tryz.prog 412927 σ W0 80 p14 := pure_ok fit (Known2.nil σ) ((q0_ok hL)) p14_run
noncomputable def p15 : Pur := ([.agg [I 0, I 0, I 0, I 0, U 0]], .inil, 1048576)
theorem p15_run : ranPure (evCall (cxX Tryz.prog bad [] [] q0) 1000 60 80 p15.1 ⟨.lf, p15.2.2⟩) p15.2.1 = true := by kernel_rfl
theorem p15_ok {σ : Nat → Int} {W0 : World} (hL : L0 W0) : PureOk Tryz.prog 412927 σ W0 80 p15 := pure_ok fit (Known2.nil σ) ((q0_ok hL)) p15_run
noncomputable def p16 : Pur := ([.agg [I 2, I 0, I 0, I 0, U 1]], .inil, 1048576)
theorem p16_run : ranPure (evCall (cxX Tryz.prog bad [] [] q0) 1000 60 80 p16.1 ⟨.lf, p16.2.2⟩) p16.2.1 = true := by kernel_rfl
theorem p16_ok {σ : Nat → Int} {W0 : World} (hL : L0 W0) : PureOk Tryz.prog 412927 σ W0 80 p16 := pure_ok fit (Known2.nil σ) ((q0_ok hL)) p16_run
noncomputable def p17 : Pur := ([.agg [I 8, I 0, I 0, I 0, U 0]], .inil, 1048576)
theorem p17_run : ranPure (evCall (cxX Tryz.prog bad [] [] q0) 1000 60 80 p17.1 ⟨.lf, p17.2.2⟩) p17.2.1 = true := by kernel_rfl
theorem p17_ok {σ : Nat → Int} {W0 : World} (hL : L0 W0) : PureOk Tryz.prog 412927 σ W0 80 p17 := pure_ok fit (Known2.nil σ) ((q0_ok hL)) p17_run
noncomputable def p18 : Pur := ([.agg [I 7, I 1, I 0, I 0, U 0]], .inil, 1048576)
theorem p18_run : ranPure (evCall (cxX Tryz.prog bad [] [] q0) 1000 60 80 p18.1 ⟨.lf, p18.2.2⟩) p18.2.1 = true := by kernel_rfl
theorem p18_ok {σ : Nat → Int} {W0 : World} (hL : L0 W0) : PureOk Tryz.prog 412927 σ W0 80 p18 := pure_ok fit (Known2.nil σ) ((q0_ok hL)) p18_run
noncomputable def p19 : Pur := ([.agg [I 11, I 0, I 0, I 0, U 0]], .inil, 1048576)
theorem p19_run : ranPure (evCall (cxX Tryz.prog bad [] [] q0) 1000 60 80 p19.1 ⟨.lf, p19.2.2⟩) p19.2.1 = true := by kernel_rfl
theorem p19_ok {σ : Nat → Int} {W0 : World} (hL : L0 W0) : PureOk Tryz.prog 412927 σ W0 80 p19 := pure_ok fit (Known2.nil σ) ((q0_ok hL)) p19_run
noncomputable def p20 : Pur := ([.agg [I 12, I 0, I 0, I 0, U 0]], .inil, 1048576)
theorem p20_run : ranPure (evCall (cxX Tryz.prog bad [] [] q0) 1000 60 80 p20.1 ⟨.lf, p20.2.2⟩) p20.2.1 = true := by kernel_rfl
theorem p20_ok {σ : Nat → Int} {W0 : World} (hL : L0 W0) : PureOk Tryz.prog 412927 σ W0 80 p20 := pure_ok fit (Known2.nil σ) ((q0_ok hL)) p20_run
noncomputable def p21 : Pur := ([.agg [I 13, I 0, I 0, I 0, U 0]], .inil, 1048576)
theorem p21_run : ranPure (evCall (cxX Tryz.prog bad [] [] q0) 1000 60 80 p21.1 ⟨.lf, p21.2.2⟩) p21.2.1 = true := by kernel_rfl
theorem p21_ok {σ : Nat → Int} {W0 : World} (hL : L0 W0) : PureOk Tryz.prog 412927 σ W0 80 p21 := pure_ok fit (Known2.nil σ) ((q0_ok hL)) p21_run
noncomputable def p22 : Pur := ([.agg [I 14, I 0, I 0, I 0, U 0]], .inil, 1048576)
theorem p22_run : ranPure (evCall (cxX Tryz.prog bad [] [] q0) 1000 60 80 p22.1 ⟨.lf, p22.2.2⟩) p22.2.1 = true := by kernel_rfl
theorem p22_ok {σ : Nat → Int} {W0 : World} (hL : L0 W0) : PureOk Tryz.prog 412927 σ W0 80 p22 := pure_ok fit (Known2.nil σ) ((q0_ok hL)) p22_run
noncomputable def h25 : H := hUpd h0 72 [] [(46, .cells 2 ([IZ (-1), I 2147483647] :: rp 11 ([I 0, I 0]) ([])) false),
  (54, .cells 3 (rp 8 ([bF, I 0, bF]) ([])) false),
  (70, .cells 3 (rp 16 ([bF, I 0, bF]) ([])) false),
  (42, .cells 1 ([[.slice 54 0 8 8 3 true]]) false),
  (66, .cells 1 ([[.slice 70 0 16 16 3 true]]) false),
  (34, .cells 3 ([[.ptr 40 0, I 16, .ptr 41 0]]) false),
  (52, .cells 2 ([[.ptr 66 0, .slice 67 0 16 16 80 true]]) false),
  (68, .cells 1 ([[.slice 71 0 24 24 3 true]]) false),
  (36, .cells 2 ([[.ptr 45 0, .slice 46 0 12 12 2 true]]) false),
  (40, .cells 2 ([[.ptr 52 0, .ptr 53 0]]) false),
  (48, .cells 3 ([IZ (-1), I 60, I 0] :: rp 7 ([I 0, I 0, I 0]) ([])) false),
  (64, .cells 3 ([bT, I 0, bF] :: rp 7 ([bF, I 0, bF]) ([])) false),
  (32, .cells 9 ([[.ptr 34 0, .ptr 35 0, .ptr 36 0, .ptr 37 0, .ptr 38 0, .ptr 39 0, .snil, .snil, I 0]]) false),
  (45, .cells 1 ([[.slice 63 0 12 12 3 true]]) false),
  (53, .cells 2 ([[.ptr 68 0, .slice 69 0 24 24 32 true]]) false),
  (69, .cells 32 (rp 24 (rp 32 (U 0) ([])) ([])) false),
  (37, .cells 5 ([[.ptr 47 0, .slice 48 0 8 8 3 true, .map 49, .ptr 34 0, .ptr 35 0]]) false),
  (49, .map [] 0),
  (33, .cells 1 ([[U 16777217], [U 184594432], [U 141295616], [U 16777217], [.int .u32 (.var 0)], [.int .u32 (.var 1)], [U 184987648], [U 16777216], [.int .u32 (.var 2)], [U 184987648], [U 218103808]]) false),
  (43, .cells 107 (rp 8 (rp 9 (U 0) (rp 6 (I 0) ((U 0) :: rp 4 (I 0) ((U 0) :: rp 4 (I 0) ((U 0) :: rp 4 (I 0) ((U 0) :: rp 4 (I 0) ((U 0) :: rp 4 (I 0) ((U 0) :: rp 4 (I 0) ((U 0) :: rp 4 (I 0) ((U 0) :: rp 4 (I 0) ((U 0) :: rp 4 (I 0) ((U 0) :: rp 4 (I 0) ((U 0) :: rp 4 (I 0) ((U 0) :: rp 4 (I 0) ((U 0) :: rp 4 (I 0) ((U 0) :: rp 4 (I 0) ((U 0) :: rp 4 (I 0) ((U 0) :: rp 4 (I 0) ((U 0) :: rp 4 (I 0) ((U 0) :: rp 4 (I 0) ([U 0, I 0]))))))))))))))))))))) ([])) false),
  (67, .cells 80 (rp 16 (rp 4 (I 0) ((U 0) :: rp 4 (I 0) ((U 0) :: rp 4 (I 0) ((U 0) :: rp 4 (I 0) ((U 0) :: rp 4 (I 0) ((U 0) :: rp 4 (I 0) ((U 0) :: rp 4 (I 0) ((U 0) :: rp 4 (I 0) ((U 0) :: rp 4 (I 0) ((U 0) :: rp 4 (I 0) ((U 0) :: rp 4 (I 0) ((U 0) :: rp 4 (I 0) ((U 0) :: rp 4 (I 0) ((U 0) :: rp 4 (I 0) ((U 0) :: rp 4 (I 0) ((U 0) :: rp 4 (I 0) ([U 0]))))))))))))))))) ([])) false),
  (35, .cells 3 ([[.ptr 42 0, .slice 43 0 8 8 107 true, .slice 44 0 8 8 1 false]]) false),
  (71, .cells 3 (rp 24 ([bF, I 0, bF]) ([])) false),
  (47, .cells 1 ([[.slice 64 0 8 8 3 true]]) false),
  (63, .cells 3 ([bT, I 0, bF] :: rp 11 ([bF, I 0, bF]) ([])) false)] []
noncomputable def l2 : List (Pur) := p22 :: p21 :: p20 :: p19 :: p18 :: p17 :: p16 :: p15 :: p14 :: p13 :: []
theorem l2_ok {σ : Nat → Int} {W0 : World} (hL : L0 W0) : ∀ x ∈ l2, PureOk Tryz.prog 412927 σ W0 80 x := all_cons (p22_ok hL) (all_cons (p21_ok hL) (all_cons (p20_ok hL) (all_cons (p19_ok hL) (all_cons (p18_ok hL) (all_cons (p17_ok hL) (all_cons (p16_ok hL) (all_cons (p15_ok hL) (all_cons (p14_ok hL) (all_cons (p13_ok hL) (all_nil))))))))))
abbrev SO (f : FuncId) (x : Sym) : Prop := ∀ {W0 : World}, L0 W0 → SymOk Tryz.prog 412927 W0 f x
theorem so {f : FuncId} {x : Sym} {fs : Fns} (hx : ∀ {σ : Nat → Int} {W0 : World}, L0 W0 → FnsOk Tryz.prog 412927 σ W0 fs)
    (run : ranTo (evCall (cxX Tryz.prog bad x.rng x.facts fs) 1000 60 f x.args x.pre) x.v x.post = true) (h2 : listed x.names x.pre.tr 0 1 = true) : SO f x := fun hL => sym_ok fit (fun σ hk => hx hL) run h2
abbrev fa (v k : Nat) : Bool × E × E × Bool := (true, .bop .and .i64 (.bop .shr .i64 (.var v) (.lit (.ofNat k))) (.lit 15), .lit 0, true)
abbrev fs (v k : Nat) : Bool × E × E × Bool := (true, .bop .shr .i64 (.var v) (.lit 24), .lit (.ofNat k), true)
abbrev fi (v : Nat) : Bool × E × E × Bool := (false, .lit 0, .bop .and .i64 (.var v) (.lit 4095), false)
abbrev nm3 : List Nat := [32, 33, 34, 35, 36, 37, 40, 42, 43, 45, 46, 47, 48, 49, 52, 53, 54, 63, 64, 66, 67, 68, 69, 70, 71, 30, 22, 14, 26, 18, 10, 6, 28, 20, 24, 4, 2, 29, 21, 25, 17, 5, 27, 19, 11, 23, 31, 7, 3, 1, 0]
noncomputable def s0 : Sym := ⟨[.ptr 32 0, .agg [.slice 33 0 11 11 1 false, I 100, .snil, bT]], h25, nm3, [(0, 4294967295), (0, 4294967295), (0, 4294967295)],
  [],
  .tuple [I 0, .inil],
  [.cel 43 0 9 (I 1),
  .cel 43 0 11 (I 8),
  .cel 43 0 16 (I 7),
  .cel 43 0 17 (I 1),
  .cel 43 0 21 (I 11),
  .cel 43 0 26 (I 12),
  .cel 43 0 31 (I 13),
  .cel 43 0 36 (I 14),
  .cel 43 0 91 (I 2),
  .cel 43 0 95 (U 1),
  .cel 43 0 96 (I 7),
  .cel 43 0 97 (I 1),
  .row 46 1 ([I 0, I 100]),
  .row 48 0 ([IZ (-1), I 60, I 4]),
  .set 49 (.map [(.agg [I 3, I 0], .agg [I 0, I 0], 0), (.agg [I 3, I 1], .agg [I 0, I 0], 1), (.agg [I 2, I 0], .agg [I 0, I 0], 2), (.agg [I 4, I 0], .agg [I 0, I 0], 3)] 4),
  .row 54 0 ([bT, I 0, bF]),
  .row 63 1 ([bT, I 0, bF]),
  .cel 67 0 0 (I 3),
  .cel 67 0 5 (I 3),
  .cel 67 0 6 (I 1),
  .row 69 0 ((U 16777217) :: (U 184594432) :: (U 141295616) :: (U 16777217) :: (.int .u32 (.var 0)) :: (.int .u32 (.var 1)) :: (U 184987648) :: (U 16777216) :: (.int .u32 (.var 2)) :: (U 184987648) :: (U 218103808) :: rp 21 (U 0) ([])),
  .row 70 0 ([bT, I 0, bF]),
  .row 71 0 ([bT, I 0, bF]),
  .row 71 1 ([bT, I 0, bF])], 547⟩
noncomputable def f4 : Fns := ((80, pureFn l2) :: q0)
theorem f4_ok {σ : Nat → Int} {W0 : World} (hL : L0 W0) : FnsOk Tryz.prog 412927 σ W0 f4 := FnsOk.cons (pure_fn_ok (l2_ok hL)) ((q0_ok hL))
theorem s0_ok : SO 45 s0 := so f4_ok (by kernel_rfl) (by kernel_rfl)
noncomputable def h26 : H := hUpc h25 72 [46, 36, 48, 64, 37, 49, 43, 47] [(38, .cells 1 ([[.slice 51 0 1 1 1 false]]) false),
  (42, .cells 107 (((.int .u32 (.var 2)) :: (.int .u32 (.var 3)) :: rp 6 (U 0) ((.int .u32 (.var 4)) :: (I 3) :: (I 0) :: (I 8) :: (I 0) :: (I 0) :: (I 0) :: (U 0) :: (I 7) :: (I 1) :: (I 0) :: (I 0) :: (U 0) :: (I 11) :: (I 0) :: (I 0) :: (I 0) :: (U 0) :: (I 12) :: (I 0) :: (I 0) :: (I 0) :: (U 0) :: (I 13) :: (I 0) :: (I 0) :: (I 0) :: (U 0) :: (I 14) :: (I 0) :: (I 0) :: (I 0) :: (U 0) :: (.int .i64 (.var 5)) :: (I 0) :: (I 0) :: (I 0) :: (U 0) :: rp 4 (I 0) ((U 0) :: rp 4 (I 0) ((U 0) :: rp 4 (I 0) ((U 0) :: rp 4 (I 0) ((U 0) :: rp 4 (I 0) ((U 0) :: (.int .i64 (.var 6)) :: (I 0) :: (I 0) :: (I 0) :: (U 0) :: rp 4 (I 0) ((U 0) :: rp 4 (I 0) ((U 0) :: rp 4 (I 0) ((U 0) :: (I 2) :: (I 0) :: (I 0) :: (I 0) :: (U 1) :: (I 7) :: (I 1) :: (I 0) :: (I 0) :: (U 0) :: rp 4 (I 0) ([U 0, I 0]))))))))))) :: rp 7 (rp 9 (U 0) (rp 6 (I 0) ((U 0) :: rp 4 (I 0) ((U 0) :: rp 4 (I 0) ((U 0) :: rp 4 (I 0) ((U 0) :: rp 4 (I 0) ((U 0) :: rp 4 (I 0) ((U 0) :: rp 4 (I 0) ((U 0) :: rp 4 (I 0) ((U 0) :: rp 4 (I 0) ((U 0) :: rp 4 (I 0) ((U 0) :: rp 4 (I 0) ((U 0) :: rp 4 (I 0) ((U 0) :: rp 4 (I 0) ((U 0) :: rp 4 (I 0) ((U 0) :: rp 4 (I 0) ((U 0) :: rp 4 (I 0) ((U 0) :: rp 4 (I 0) ((U 0) :: rp 4 (I 0) ((U 0) :: rp 4 (I 0) ([U 0, I 0]))))))))))))))))))))) ([])) false),
  (44, .cells 1 ([[.slice 63 0 12 12 3 true]]) false),
  (40, .cells 3 ([[I 16, .snil, .int .i64 (.var 1)]]) false),
  (45, .cells 2 ([IZ (-1), .int .i64 (.var 7)] :: [I 0, .int .i64 (.var 8)] :: rp 10 ([I 0, I 0]) ([])) false),
  (41, .cells 1 ([[.slice 54 0 8 8 3 true]]) false),
  (33, .cells 3 ([[.ptr 39 0, I 16, .ptr 40 0]]) false),
  (51, .cells 1 ([[I 0]]) false),
  (35, .cells 2 ([[.ptr 44 0, .slice 45 0 12 12 2 true]]) false),
  (39, .cells 2 ([[.ptr 52 0, .ptr 53 0]]) false)] [(54, 0, [bT, I 0, bF]),
  (70, 0, [bT, I 0, bF]),
  (34, 0, [.ptr 41 0, .slice 42 0 8 8 107 true, .slice 43 0 8 8 1 false]),
  (32, 0, [.ptr 33 0, .ptr 34 0, .ptr 35 0, .ptr 36 0, .ptr 37 0, .ptr 38 0, .snil, .snil, .int .i64 (.var 0)]),
  (69, 0, (U 16777217) :: (U 184594432) :: (U 141295616) :: (U 16777217) :: (.int .u32 (.var 9)) :: (.int .u32 (.var 10)) :: (U 184987648) :: (U 16777216) :: (.int .u32 (.var 11)) :: (U 184987648) :: (U 218103808) :: rp 21 (U 0) ([])),
  (71, 0, [bT, I 0, bF]),
  (71, 1, [bT, I 0, bF]),
  (63, 1, [bT, I 0, bF])] [(67, 0, 0, I 3), (67, 0, 5, I 3), (67, 0, 6, I 1)]
abbrev nm5 : List Nat := [32, 33, 34, 39, 42, 52, 66, 70, 35, 45, 40, 41, 44, 53, 54, 69, 38, 51, 63, 67, 68, 71, 30, 22, 14, 26, 18, 10, 6, 28, 20, 24, 4, 2, 29, 21, 25, 17, 5, 27, 19, 11, 23, 31, 7, 3, 1, 0]
noncomputable abbrev rg6 : Rg := ((0, 1099511627775)) :: ((0, 1099511627775)) :: ((0, 4294967295)) :: ((0, 4294967295)) :: ((0, 4294967295)) :: rp 4 ((0, 1099511627775)) ([(0, 4294967295), (0, 4294967295), (0, 4294967295)])
noncomputable def s1 : Sym := ⟨[.ptr 32 0, I 0], h26, nm5, rg6,
  [(true, .bop .quo .u32 (.var 4) (.lit 32), .lit 0, true), (true, .bop .rem .u32 (.var 4) (.lit 32), .lit 0, true), (false, .var 8, .lit 1, false), (false, .var 7, .lit 1, false), (false, .var 4, .lit 512, true), (false, .lit 14, .var 5, false), (true, .var 5, .lit 2, false), (true, .var 5, .lit 3, false), (true, .var 5, .lit 4, false), (true, .var 5, .lit 5, false), (true, .var 5, .lit 6, false), (true, .var 5, .lit 7, false), (true, .var 5, .lit 8, false), (true, .var 5, .lit 9, false), (true, .var 5, .lit 10, false), (true, .var 5, .lit 1, false), (false, .lit 14, .var 6, false), (true, .var 6, .lit 2, false), (true, .var 6, .lit 3, false), (true, .var 6, .lit 4, false), (true, .var 6, .lit 5, false), (true, .var 6, .lit 6, false), (true, .var 6, .lit 7, false), (true, .var 6, .lit 8, false), (true, .var 6, .lit 9, false), (true, .var 6, .lit 10, false), (true, .var 6, .lit 1, false)],
  .agg [I 0, I 1, I 0, U 0, I 0, U 0, IZ (-1), I 0],
  [.cel 32 0 8 (.int .i64 (.add (.var 0) (.lit 1))),
  .row 40 0 ([I 16, .slice 317 0 1 1 10 false, .int .i64 (.var 1)]),
  .cel 42 0 0 (U 1),
  .cel 42 0 8 (.int .u32 (.wrap .u32 (.add (.var 4) (.lit 1)))),
  .row 45 0 ([IZ (-1), .int .i64 (.sub (.var 7) (.lit 1))]),
  .row 45 1 ([I 0, .int .i64 (.sub (.var 8) (.lit 1))]),
  .set 284 (.cells 1 ([[I 0]]) false),
  .set 317 (.cells 10 ([[I 2, I 0, I 0, I 0, U 1, U 0, .slice 284 0 1 1 1 false, I 0, I 0, bF]]) false)], 906⟩
noncomputable def f7 : Fns := q0
theorem f7_ok {σ : Nat → Int} {W0 : World} (hL : L0 W0) : FnsOk Tryz.prog 412927 σ W0 f7 := (q0_ok hL)
theorem s1_ok : SO 11 s1 := so f7_ok (by kernel_rfl) (by kernel_rfl)
noncomputable def p23 : Pur := ([.agg [I 3, I 2, I 0, I 0, U 0]], .inil, 1048576)
theorem p23_run : ranPure (evCall (cxX Tryz.prog bad [] [] q0) 1000 60 80 p23.1 ⟨.lf, p23.2.2⟩) p23.2.1 = true := by kernel_rfl
theorem p23_ok {σ : Nat → Int} {W0 : World} (hL : L0 W0) : PureOk Tryz.prog 412927 σ W0 80 p23 := pure_ok fit (Known2.nil σ) ((q0_ok hL)) p23_run
noncomputable def h27 : H := hUpc h26 74 [66, 52, 68, 67, 71, 63] [(46, .cells 1 ([[.slice 65 0 8 8 3 true]]) false),
  (54, .cells 10 ([[I 2, I 0, I 0, I 0, U 1, U 0, .slice 71 0 1 1 1 false, I 0, I 0, bF]]) false),
  (70, .cells 32 (((U 16777217) :: (U 184594432) :: (U 141295616) :: (U 16777217) :: (.int .u32 (.var 8)) :: (.int .u32 (.var 9)) :: (U 184987648) :: (U 16777216) :: (.int .u32 (.var 10)) :: (U 184987648) :: (U 218103808) :: rp 21 (U 0) ([])) :: rp 23 (rp 32 (U 0) ([])) ([])) false),
  (36, .cells 5 ([[.ptr 46 0, .slice 47 0 8 8 3 true, .map 48, .ptr 33 0, .ptr 34 0]]) false),
  (48, .map [(.agg [I 3, I 0], .agg [I 0, I 0], 0), (.agg [I 3, I 1], .agg [I 0, I 0], 1), (.agg [I 2, I 0], .agg [I 0, I 0], 2), (.agg [I 4, I 0], .agg [I 0, I 0], 3)] 4),
  (64, .cells 3 ([bT, I 0, bF] :: [bT, I 0, bF] :: rp 10 ([bF, I 0, bF]) ([])) false),
  (69, .cells 1 ([[.slice 73 0 24 24 3 true]]) false),
  (73, .cells 3 ([bT, I 0, bF] :: [bT, I 0, bF] :: rp 22 ([bF, I 0, bF]) ([])) false),
  (65, .cells 3 ([bT, I 0, bF] :: rp 7 ([bF, I 0, bF]) ([])) false),
  (55, .cells 3 ([bT, I 0, bF] :: rp 7 ([bF, I 0, bF]) ([])) false),
  (47, .cells 3 ([IZ (-1), I 60, .int .i64 (.var 7)] :: rp 7 ([I 0, I 0, I 0]) ([])) false)] [(44, 0, [.slice 64 0 12 12 3 true]),
  (40, 0, [I 16, .slice 54 0 1 1 10 false, .int .i64 (.var 1)]),
  (45, 0, [IZ (-1), .int .i64 (.var 5)]),
  (45, 1, [I 0, .int .i64 (.var 6)]),
  (53, 0, [.ptr 69 0, .slice 70 0 24 24 32 true]),
  (41, 0, [.slice 55 0 8 8 3 true])] [(42, 0, 0, U 1), (42, 0, 1, .int .u32 (.var 2)), (42, 0, 8, .int .u32 (.var 3)), (42, 0, 41, .int .i64 (.var 4)), (42, 0, 71, I 0)]
abbrev nm8 : List Nat := [32, 33, 34, 36, 39, 42, 53, 70, 35, 45, 40, 41, 44, 54, 69, 73, 38, 46, 47, 48, 51, 55, 64, 65, 30, 22, 14, 26, 18, 10, 6, 28, 20, 24, 4, 2, 29, 21, 25, 17, 5, 27, 19, 11, 23, 31, 7, 3, 1, 0]
noncomputable abbrev rg9 : Rg := ((0, 1099511627775)) :: ((0, 1099511627775)) :: ((0, 4294967295)) :: ((0, 4294967295)) :: rp 4 ((0, 1099511627775)) ([(0, 4294967295), (0, 4294967295), (0, 4294967295)])
noncomputable def s2 : Sym := ⟨[.ptr 32 0, I 0], h27, nm8, rg9,
  [(true, .bop .rem .u32 (.var 3) (.lit 32), .lit 1, true), (false, .var 6, .lit 1, false), (false, .var 5, .lit 1, false), (true, .bop .quo .u32 (.var 3) (.lit 32), .lit 0, true), (false, .lit 14, .var 4, false), (true, .var 4, .lit 2, false), (true, .var 4, .lit 3, false), (true, .var 4, .lit 4, false), (true, .var 4, .lit 5, false), (true, .var 4, .lit 6, false), (true, .var 4, .lit 7, false), (true, .var 4, .lit 8, false), (true, .var 4, .lit 9, false), (true, .var 4, .lit 10, false), (true, .var 4, .lit 1, false), (false, .sub (.lit 60) (.var 7), .lit 1, false)],
  .agg [I 0, I 2, I 0, U 1, I 8, U 0, IZ (-1), I 0],
  [.cel 32 0 8 (.int .i64 (.add (.var 0) (.lit 1))),
  .row 40 0 ([I 16, .slice 54 0 1 1 10 false, .int .i64 (.add (.var 1) (.lit 1))]),
  .cel 42 0 0 (U 0),
  .cel 42 0 1 (U 0),
  .cel 42 0 8 (.int .u32 (.wrap .u32 (.add (.var 3) (.lit 1)))),
  .cel 42 0 71 (I 3),
  .cel 42 0 72 (I 2),
  .row 45 0 ([IZ (-1), .int .i64 (.sub (.var 5) (.lit 1))]),
  .row 45 1 ([I 0, .int .i64 (.sub (.var 6) (.lit 1))]),
  .row 47 0 ([IZ (-1), I 60, .int .i64 (.add (.var 7) (.lit 1))]),
  .set 48 (.map [(.agg [I 3, I 0], .agg [I 0, I 0], 0), (.agg [I 3, I 1], .agg [I 0, I 0], 1), (.agg [I 2, I 0], .agg [I 0, I 0], 2), (.agg [I 4, I 0], .agg [I 0, I 0], 3), (.agg [I 3, I 2], .agg [I 0, I 0], 4)] 5),
  .row 73 2 ([bT, I 0, bF])], 1873⟩
theorem s2_ok : SO 11 s2 := so f7_ok (by kernel_rfl) (by kernel_rfl)
noncomputable def h28 : H := hUpc h27 74 [46, 36, 48, 65, 47] [] [(45, 0, [IZ (-1), .int .i64 (.var 8)]),
  (45, 1, [I 0, .int .i64 (.var 9)]),
  (73, 2, [bT, I 0, bF])] [(70, 0, 4, .int .u32 (.var 10)), (70, 0, 5, .int .u32 (.var 11)), (70, 0, 8, .int .u32 (.var 12)), (42, 0, 0, .int .u32 (.var 2)), (42, 0, 1, .int .u32 (.var 3)), (42, 0, 8, .int .u32 (.var 4)), (42, 0, 41, .int .i64 (.var 5)), (42, 0, 42, .int .i64 (.var 6)), (42, 0, 71, I 3), (42, 0, 72, .int .i64 (.var 7))]
abbrev nm10 : List Nat := [32, 33, 34, 39, 42, 53, 70, 35, 45, 40, 41, 44, 54, 69, 73, 38, 51, 55, 64, 30, 22, 14, 26, 18, 10, 6, 28, 20, 24, 4, 2, 29, 21, 25, 17, 5, 27, 19, 11, 23, 31, 7, 3, 1, 0]
noncomputable abbrev rg11 : Rg := ((0, 1099511627775)) :: ((0, 1099511627775)) :: ((0, 4294967295)) :: ((0, 4294967295)) :: ((0, 4294967295)) :: rp 5 ((0, 1099511627775)) ([(0, 4294967295), (0, 4294967295), (0, 4294967295)])
noncomputable def s3 : Sym := ⟨[.ptr 32 0, I 0], h28, nm10, rg11,
  [(true, .bop .rem .u32 (.var 4) (.lit 32), .lit 2, true), (false, .var 9, .lit 1, false), (false, .var 8, .lit 1, false), (true, .bop .quo .u32 (.var 4) (.lit 32), .lit 0, true), (false, .var 7, .lit 256, true)],
  .agg [I 0, I 1, I 0, U 0, I 0, U 0, IZ (-1), I 0],
  [.cel 32 0 8 (.int .i64 (.add (.var 0) (.lit 1))),
  .row 40 0 ([I 16, .slice 54 0 1 1 10 false, .int .i64 (.add (.var 1) (.lit 1))]),
  .cel 42 0 8 (.int .u32 (.wrap .u32 (.add (.var 4) (.lit 1)))),
  .cel 42 0 41 (I 3),
  .cel 42 0 42 (.int .i64 (.var 7)),
  .row 45 0 ([IZ (-1), .int .i64 (.sub (.var 8) (.lit 1))]),
  .row 45 1 ([I 0, .int .i64 (.sub (.var 9) (.lit 1))])], 779⟩
theorem s3_ok : SO 11 s3 := so f7_ok (by kernel_rfl) (by kernel_rfl)
noncomputable def h29 : H := hUpc h28 74 [] [] [(45, 0, [IZ (-1), .int .i64 (.var 7)]),
  (45, 1, [I 0, .int .i64 (.var 8)])] [(70, 0, 4, .int .u32 (.var 9)), (70, 0, 5, .int .u32 (.var 10)), (70, 0, 8, .int .u32 (.var 11)), (42, 0, 41, I 3), (42, 0, 42, .int .i64 (.var 5)), (42, 0, 72, .int .i64 (.var 6))]
noncomputable def s4 : Sym := ⟨[.ptr 32 0, I 0], h29, nm10, rg6,
  [(true, .bop .rem .u32 (.var 4) (.lit 32), .lit 3, true), (false, .var 8, .lit 1, false), (false, .var 7, .lit 1, false), (true, .bop .quo .u32 (.var 4) (.lit 32), .lit 0, true), (false, .var 5, .lit 256, true), (false, .var 6, .lit 256, true)],
  .agg [I 0, I 1, I 0, U 0, I 0, U 0, IZ (-1), I 0],
  [.cel 32 0 8 (.int .i64 (.add (.var 0) (.lit 1))),
  .row 40 0 ([I 16, .slice 54 0 1 1 10 false, .int .i64 (.add (.var 1) (.lit 1))]),
  .cel 42 0 0 (U 1),
  .cel 42 0 8 (.int .u32 (.wrap .u32 (.add (.var 4) (.lit 1)))),
  .row 45 0 ([IZ (-1), .int .i64 (.sub (.var 7) (.lit 1))]),
  .row 45 1 ([I 0, .int .i64 (.sub (.var 8) (.lit 1))])], 774⟩
theorem s4_ok : SO 11 s4 := so f7_ok (by kernel_rfl) (by kernel_rfl)
noncomputable def s5 : Sym := ⟨[.ptr 32 0, I 0], h29, nm10, rg6,
  [(true, .bop .rem .u32 (.var 4) (.lit 32), .lit 4, true), fs 9 1, (true, .bop .and .i64 (.bop .shr .i64 (.var 9) (.lit 20)) (.lit 15), .lit 1, true), (false, .var 8, .lit 1, false), (false, .var 7, .lit 1, false), (true, .bop .quo .u32 (.var 4) (.lit 32), .lit 0, true), fa 9 16, fa 9 12, (false, .var 5, .lit 256, true), (false, .var 6, .lit 256, true)],
  .agg [I 0, I 1, I 0, U 0, I 0, U 0, IZ (-1), I 0],
  [.cel 32 0 8 (.int .i64 (.add (.var 0) (.lit 1))),
  .row 40 0 ([I 16, .slice 54 0 1 1 10 false, .int .i64 (.add (.var 1) (.lit 1))]),
  .cel 42 0 1 (.int .u32 (.bop .and .i64 (.var 9) (.lit 4095))),
  .cel 42 0 8 (.int .u32 (.wrap .u32 (.add (.var 4) (.lit 1)))),
  .row 45 0 ([IZ (-1), .int .i64 (.sub (.var 7) (.lit 1))]),
  .row 45 1 ([I 0, .int .i64 (.sub (.var 8) (.lit 1))])], 774⟩
theorem s5_ok : SO 11 s5 := so f7_ok (by kernel_rfl) (by kernel_rfl)
noncomputable def s6 : Sym := ⟨[.ptr 32 0, I 0], h29, nm10, rg6,
  [(true, .bop .rem .u32 (.var 4) (.lit 32), .lit 5, true), fs 10 1, (true, .bop .and .i64 (.bop .shr .i64 (.var 10) (.lit 20)) (.lit 15), .lit 2, true), (false, .var 8, .lit 1, false), (false, .var 7, .lit 1, false), (true, .bop .quo .u32 (.var 4) (.lit 32), .lit 0, true), fa 10 16, fa 10 12, (false, .var 5, .lit 256, true), (false, .var 6, .lit 256, true)],
  .agg [I 0, I 1, I 0, U 0, I 0, U 0, IZ (-1), I 0],
  [.cel 32 0 8 (.int .i64 (.add (.var 0) (.lit 1))),
  .row 40 0 ([I 16, .slice 54 0 1 1 10 false, .int .i64 (.add (.var 1) (.lit 1))]),
  .cel 42 0 2 (.int .u32 (.bop .and .i64 (.var 10) (.lit 4095))),
  .cel 42 0 8 (.int .u32 (.wrap .u32 (.add (.var 4) (.lit 1)))),
  .row 45 0 ([IZ (-1), .int .i64 (.sub (.var 7) (.lit 1))]),
  .row 45 1 ([I 0, .int .i64 (.sub (.var 8) (.lit 1))])], 774⟩
theorem s6_ok : SO 11 s6 := so f7_ok (by kernel_rfl) (by kernel_rfl)
noncomputable def h30 : H := hUpc h29 74 [] [] [(45, 0, [IZ (-1), .int .i64 (.var 4)]),
  (45, 1, [I 0, .int .i64 (.var 5)])] [(70, 0, 4, .int .u32 (.var 6)), (70, 0, 5, .int .u32 (.var 7)), (70, 0, 8, .int .u32 (.var 8)), (42, 0, 0, U 1), (42, 0, 1, U 0), (42, 0, 2, .int .u32 (.var 2)), (42, 0, 8, .int .u32 (.var 3)), (42, 0, 42, I 2), (42, 0, 72, I 2)]
noncomputable def l12 : List (Pur) := p16 :: p15 :: p23 :: p22 :: p21 :: p20 :: p19 :: p17 :: p18 :: []
theorem l12_ok {σ : Nat → Int} {W0 : World} (hL : L0 W0) : ∀ x ∈ l12, PureOk Tryz.prog 412927 σ W0 80 x := all_cons (p16_ok hL) (all_cons (p15_ok hL) (all_cons (p23_ok hL) (all_cons (p22_ok hL) (all_cons (p21_ok hL) (all_cons (p20_ok hL) (all_cons (p19_ok hL) (all_cons (p17_ok hL) (all_cons (p18_ok hL) (all_nil)))))))))
noncomputable abbrev rg13 : Rg := [(0, 1099511627775), (0, 1099511627775), (0, 4294967295), (0, 4294967295), (0, 1099511627775), (0, 1099511627775), (0, 4294967295), (0, 4294967295), (0, 4294967295)]
noncomputable def s7 : Sym := ⟨[.ptr 32 0, I 0], h30, nm10, rg13,
  [(true, .bop .rem .u32 (.var 3) (.lit 32), .lit 6, true), (false, .var 5, .lit 1, false), (false, .var 4, .lit 1, false), (true, .bop .quo .u32 (.var 3) (.lit 32), .lit 0, true)],
  .agg [I 0, I 2, I 0, U 1, I 3, U 0, IZ (-1), I 0],
  [.cel 32 0 8 (.int .i64 (.add (.var 0) (.lit 1))),
  .row 40 0 ([I 16, .slice 54 0 1 1 10 false, .int .i64 (.add (.var 1) (.lit 1))]),
  .cel 42 0 0 (U 0),
  .cel 42 0 2 (U 0),
  .cel 42 0 8 (.int .u32 (.wrap .u32 (.add (.var 3) (.lit 1)))),
  .cel 42 0 71 (I 0),
  .cel 42 0 72 (I 0),
  .row 45 0 ([IZ (-1), .int .i64 (.sub (.var 4) (.lit 1))]),
  .row 45 1 ([I 0, .int .i64 (.sub (.var 5) (.lit 1))]),
  .cel 70 2 0 (.int .u32 (.var 2))], 691⟩
noncomputable def f14 : Fns := ((80, pureFn l12) :: q0)
theorem f14_ok {σ : Nat → Int} {W0 : World} (hL : L0 W0) : FnsOk Tryz.prog 412927 σ W0 f14 := FnsOk.cons (pure_fn_ok (l12_ok hL)) ((q0_ok hL))
theorem s7_ok : SO 11 s7 := so f14_ok (by kernel_rfl) (by kernel_rfl)
noncomputable def h31 : H := hUpc h29 74 [] [] [] [(70, 2, 0, .int .u32 (.var 12)), (42, 0, 71, .int .i64 (.var 6)), (42, 0, 72, I 0)]
noncomputable abbrev rg15 : Rg := ((0, 1099511627775)) :: ((0, 1099511627775)) :: ((0, 4294967295)) :: ((0, 4294967295)) :: ((0, 4294967295)) :: rp 4 ((0, 1099511627775)) (rp 4 ((0, 4294967295)) ([]))
noncomputable def s8 : Sym := ⟨[.ptr 32 0, I 0], h31, nm10, rg15,
  [(true, .bop .rem .u32 (.var 4) (.lit 32), .lit 7, true), (false, .var 8, .lit 1, false), (false, .var 7, .lit 1, false), (true, .bop .quo .u32 (.var 4) (.lit 32), .lit 0, true), (false, .var 5, .lit 256, true), (false, .lit 14, .var 6, false), (true, .var 6, .lit 2, false), (true, .var 6, .lit 3, false), (true, .var 6, .lit 4, false), (true, .var 6, .lit 5, false), (true, .var 6, .lit 6, false), (true, .var 6, .lit 7, false), (true, .var 6, .lit 8, false), (true, .var 6, .lit 9, false), (true, .var 6, .lit 10, false), (true, .var 6, .lit 1, false)],
  .agg [I 0, I 1, I 0, U 0, I 0, U 0, IZ (-1), I 0],
  [.cel 32 0 8 (.int .i64 (.add (.var 0) (.lit 1))),
  .row 40 0 ([I 16, .slice 54 0 1 1 10 false, .int .i64 (.add (.var 1) (.lit 1))]),
  .cel 42 0 0 (U 0),
  .cel 42 0 8 (.int .u32 (.wrap .u32 (.add (.var 4) (.lit 1)))),
  .row 45 0 ([IZ (-1), .int .i64 (.sub (.var 7) (.lit 1))]),
  .row 45 1 ([I 0, .int .i64 (.sub (.var 8) (.lit 1))])], 774⟩
theorem s8_ok : SO 11 s8 := so f7_ok (by kernel_rfl) (by kernel_rfl)
noncomputable def s9 : Sym := ⟨[.ptr 32 0, I 0], h31, nm10, rg15,
  [(true, .bop .rem .u32 (.var 4) (.lit 32), .lit 8, true), fs 11 1, (true, .bop .and .i64 (.bop .shr .i64 (.var 11) (.lit 20)) (.lit 15), .lit 1, true), (false, .var 8, .lit 1, false), (false, .var 7, .lit 1, false), (true, .bop .quo .u32 (.var 4) (.lit 32), .lit 0, true), fa 11 16, fa 11 12, (false, .var 5, .lit 256, true), (false, .lit 14, .var 6, false), (true, .var 6, .lit 2, false), (true, .var 6, .lit 3, false), (true, .var 6, .lit 4, false), (true, .var 6, .lit 5, false), (true, .var 6, .lit 6, false), (true, .var 6, .lit 7, false), (true, .var 6, .lit 8, false), (true, .var 6, .lit 9, false), (true, .var 6, .lit 10, false), (true, .var 6, .lit 1, false)],
  .agg [I 0, I 1, I 0, U 0, I 0, U 0, IZ (-1), I 0],
  [.cel 32 0 8 (.int .i64 (.add (.var 0) (.lit 1))),
  .row 40 0 ([I 16, .slice 54 0 1 1 10 false, .int .i64 (.add (.var 1) (.lit 1))]),
  .cel 42 0 1 (.int .u32 (.bop .and .i64 (.var 11) (.lit 4095))),
  .cel 42 0 8 (.int .u32 (.wrap .u32 (.add (.var 4) (.lit 1)))),
  .row 45 0 ([IZ (-1), .int .i64 (.sub (.var 7) (.lit 1))]),
  .row 45 1 ([I 0, .int .i64 (.sub (.var 8) (.lit 1))])], 774⟩
theorem s9_ok : SO 11 s9 := so f7_ok (by kernel_rfl) (by kernel_rfl)
noncomputable def h32 : H := hUpc h30 74 [] [] [(45, 0, [IZ (-1), .int .i64 (.var 3)]),
  (45, 1, [I 0, .int .i64 (.var 4)])] [(70, 0, 4, .int .u32 (.var 5)), (70, 0, 5, .int .u32 (.var 6)), (70, 0, 8, .int .u32 (.var 7)), (70, 2, 0, .int .u32 (.var 8)), (42, 0, 0, U 0), (42, 0, 2, U 0), (42, 0, 8, .int .u32 (.var 2)), (42, 0, 71, I 0), (42, 0, 72, I 0)]
noncomputable abbrev rg16 : Rg := ((0, 1099511627775)) :: ((0, 1099511627775)) :: ((0, 4294967295)) :: ((0, 1099511627775)) :: ((0, 1099511627775)) :: rp 4 ((0, 4294967295)) ([])
noncomputable def s10 : Sym := ⟨[.ptr 32 0, I 0], h32, nm10, rg16,
  [(true, .bop .rem .u32 (.var 2) (.lit 32), .lit 9, true), (false, .var 4, .lit 1, false), (false, .var 3, .lit 1, false), (true, .bop .quo .u32 (.var 2) (.lit 32), .lit 0, true)],
  .agg [I 0, I 2, I 0, U 0, I 3, U 0, IZ (-1), I 0],
  [.cel 32 0 8 (.int .i64 (.add (.var 0) (.lit 1))),
  .row 40 0 ([I 16, .slice 54 0 1 1 10 false, .int .i64 (.add (.var 1) (.lit 1))]),
  .cel 42 0 1 (.int .u32 (.var 8)),
  .cel 42 0 8 (.int .u32 (.wrap .u32 (.add (.var 2) (.lit 1)))),
  .row 45 0 ([IZ (-1), .int .i64 (.sub (.var 3) (.lit 1))]),
  .row 45 1 ([I 0, .int .i64 (.sub (.var 4) (.lit 1))])], 643⟩
theorem s10_ok : SO 11 s10 := so f14_ok (by kernel_rfl) (by kernel_rfl)
noncomputable def h33 : H := hUpd h31 74 [] [(56, .cells 1 ([[.snil]]) false),
  (43, .cells 1 ([[.ptr 56 0], [.ptr 57 0], [.ptr 58 0], [.ptr 59 0], [.ptr 60 0], [.ptr 61 0], [.ptr 62 0], [.ptr 63 0]]) false)] []
abbrev nm17 : List Nat := [32, 33, 34, 39, 42, 53, 70, 35, 45, 40, 41, 44, 54, 69, 73, 38, 43, 51, 55, 56, 64, 30, 22, 14, 26, 18, 10, 6, 28, 20, 24, 4, 2, 29, 21, 25, 17, 5, 27, 19, 11, 23, 31, 7, 3, 1, 0]
noncomputable def s11 : Sym := ⟨[.ptr 32 0, I 0], h33, nm17, rg15,
  [(true, .bop .rem .u32 (.var 4) (.lit 32), .lit 10, true), (false, .var 8, .lit 1, false), (false, .var 7, .lit 1, false), (true, .bop .quo .u32 (.var 4) (.lit 32), .lit 0, true), (false, .var 5, .lit 256, true), (false, .lit 14, .var 6, false), (true, .var 6, .lit 2, false), (true, .var 6, .lit 3, false), (true, .var 6, .lit 4, false), (true, .var 6, .lit 5, false), (true, .var 6, .lit 6, false), (true, .var 6, .lit 7, false), (true, .var 6, .lit 8, false), (true, .var 6, .lit 9, false), (true, .var 6, .lit 10, false), (true, .var 6, .lit 1, false)],
  .agg [I 0, I 4, I 0, U 0, I 0, U 0, IZ (-1), I 0],
  [.cel 32 0 8 (.int .i64 (.add (.var 0) (.lit 1))),
  .row 38 0 ([.slice 51 0 0 1 1 false]),
  .row 40 0 ([I 16, .slice 54 0 1 1 10 false, .int .i64 (.add (.var 1) (.lit 1))]),
  .cel 42 0 8 (.int .u32 (.wrap .u32 (.add (.var 4) (.lit 1)))),
  .cel 42 0 9 (I 4),
  .row 45 0 ([IZ (-1), .int .i64 (.sub (.var 7) (.lit 1))]),
  .row 45 1 ([I 0, .int .i64 (.sub (.var 8) (.lit 1))])], 764⟩
theorem s11_ok : SO 11 s11 := so f7_ok (by kernel_rfl) (by kernel_rfl)
noncomputable def h34 : H := hUpd h11 477 [] [] [(87, 2, [.strd [.d (.var 2) 2 0, .d (.var 2) 2 1]])]
noncomputable def h35 : H := hUpd h34 538 [] [] []
noncomputable def m24 : Memo := ⟨[.slice 87 0 3 3 1 false, .map 135], h34, .tuple [.int .u32 (.add (.lit 18874368) (.var 2)), .inil], h35⟩
theorem m24_run : ranTo (evCall (cxX Tryz.prog bad [((-9223372036854775808), 9223372036854775807), ((-9223372036854775808), 9223372036854775807), (10, 99)] [] ((108, atoiDFn (cxX Tryz.prog bad [((-9223372036854775808), 9223372036854775807), ((-9223372036854775808), 9223372036854775807), (10, 99)] [] []) (atoiFullFn 330)) :: (19, itoaDFn (cxX Tryz.prog bad [((-9223372036854775808), 9223372036854775807), ((-9223372036854775808), 9223372036854775807), (10, 99)] [] [])) :: q1)) 1000 60 40 m24.args m24.h) m24.v m24.h' = true := by kernel_rfl
theorem m24_ok {σ : Nat → Int} {W0 : World} (hL : L0 W0) (hk : Known2 σ [((-9223372036854775808), 9223372036854775807), ((-9223372036854775808), 9223372036854775807), (10, 99)] []) : MemoOk Tryz.prog 412927 σ W0 40 m24 := memo_ok fit hk (FnsOk.cons (ext_atoiD hL hk) (FnsOk.cons (ext_itoaD hL hk) ((q1_ok hL)))) m24_run
noncomputable def h36 : H := hUpd h11 477 [] [] [(87, 2, [.strd [.d (.var 2) 3 0, .d (.var 2) 3 1, .d (.var 2) 3 2]])]
noncomputable def h37 : H := hUpd h36 538 [] [] []
noncomputable def m25 : Memo := ⟨[.slice 87 0 3 3 1 false, .map 135], h36, .tuple [.int .u32 (.add (.lit 18874368) (.var 2)), .inil], h37⟩
theorem m25_run : ranTo (evCall (cxX Tryz.prog bad [((-9223372036854775808), 9223372036854775807), ((-9223372036854775808), 9223372036854775807), (100, 999)] [] ((108, atoiDFn (cxX Tryz.prog bad [((-9223372036854775808), 9223372036854775807), ((-9223372036854775808), 9223372036854775807), (100, 999)] [] []) (atoiFullFn 330)) :: (19, itoaDFn (cxX Tryz.prog bad [((-9223372036854775808), 9223372036854775807), ((-9223372036854775808), 9223372036854775807), (100, 999)] [] [])) :: q1)) 1000 60 40 m25.args m25.h) m25.v m25.h' = true := by kernel_rfl
theorem m25_ok {σ : Nat → Int} {W0 : World} (hL : L0 W0) (hk : Known2 σ [((-9223372036854775808), 9223372036854775807), ((-9223372036854775808), 9223372036854775807), (100, 999)] []) : MemoOk Tryz.prog 412927 σ W0 40 m25 := memo_ok fit hk (FnsOk.cons (ext_atoiD hL hk) (FnsOk.cons (ext_itoaD hL hk) ((q1_ok hL)))) m25_run
noncomputable def h38 : H := hUpd h11 477 [] [] [(87, 2, [.strd [.d (.var 2) 4 0, .d (.var 2) 4 1, .d (.var 2) 4 2, .d (.var 2) 4 3]])]
noncomputable def h39 : H := hUpd h38 538 [] [] []
noncomputable def m26 : Memo := ⟨[.slice 87 0 3 3 1 false, .map 135], h38, .tuple [.int .u32 (.add (.lit 18874368) (.var 2)), .inil], h39⟩
theorem m26_run : ranTo (evCall (cxX Tryz.prog bad [((-9223372036854775808), 9223372036854775807), ((-9223372036854775808), 9223372036854775807), (1000, 3999)] [] ((108, atoiDFn (cxX Tryz.prog bad [((-9223372036854775808), 9223372036854775807), ((-9223372036854775808), 9223372036854775807), (1000, 3999)] [] []) (atoiFullFn 330)) :: (19, itoaDFn (cxX Tryz.prog bad [((-9223372036854775808), 9223372036854775807), ((-9223372036854775808), 9223372036854775807), (1000, 3999)] [] [])) :: q1)) 1000 60 40 m26.args m26.h) m26.v m26.h' = true := by kernel_rfl
theorem m26_ok {σ : Nat → Int} {W0 : World} (hL : L0 W0) (hk : Known2 σ [((-9223372036854775808), 9223372036854775807), ((-9223372036854775808), 9223372036854775807), (1000, 3999)] []) : MemoOk Tryz.prog 412927 σ W0 40 m26 := memo_ok fit hk (FnsOk.cons (ext_atoiD hL hk) (FnsOk.cons (ext_itoaD hL hk) ((q1_ok hL)))) m26_run
noncomputable def h40 : H := hUpd h9 414 [] [] [(78, 2, [.str [49]])]
noncomputable def h41 : H := hUpd h40 475 [] [] []
noncomputable def m27 : Memo := ⟨[.slice 78 0 3 3 1 false, .map 135], h40, .tuple [U 17825793, .inil], h41⟩
theorem m27_run : ranTo (evCall (cxX Tryz.prog bad [] [] q0) 1000 60 40 m27.args m27.h) m27.v m27.h' = true := by kernel_rfl
theorem m27_ok {σ : Nat → Int} {W0 : World} (hL : L0 W0) : MemoOk Tryz.prog 412927 σ W0 40 m27 := memo_ok fit (Known2.nil σ) ((q0_ok hL)) m27_run
noncomputable def h42 : H := hUpd h17 680 [] [] [(116, 2, [.str [49]])]
noncomputable def h43 : H := hUpd h42 741 [] [] []
noncomputable def m28 : Memo := ⟨[.slice 116 0 3 3 1 false, .map 135], h42, .tuple [U 17825793, .inil], h43⟩
theorem m28_run : ranTo (evCall (cxX Tryz.prog bad [] [] q0) 1000 60 40 m28.args m28.h) m28.v m28.h' = true := by kernel_rfl
theorem m28_ok {σ : Nat → Int} {W0 : World} (hL : L0 W0) : MemoOk Tryz.prog 412927 σ W0 40 m28 := memo_ok fit (Known2.nil σ) ((q0_ok hL)) m28_run
noncomputable def h44 : H := hUpc h30 74 [] [] [] [(42, 0, 1, U 1)]
noncomputable def s12 : Sym := ⟨[.ptr 32 0, I 0], h44, nm10, rg13,
  [(true, .bop .rem .u32 (.var 3) (.lit 32), .lit 6, true), (false, .var 5, .lit 1, false), (false, .var 4, .lit 1, false), (true, .bop .quo .u32 (.var 3) (.lit 32), .lit 0, true)],
  .agg [I 0, I 2, I 0, U 1, I 3, U 0, IZ (-1), I 0],
  [.cel 32 0 8 (.int .i64 (.add (.var 0) (.lit 1))),
  .row 40 0 ([I 16, .slice 54 0 1 1 10 false, .int .i64 (.add (.var 1) (.lit 1))]),
  .cel 42 0 0 (U 0),
  .cel 42 0 1 (U 0),
  .cel 42 0 2 (U 0),
  .cel 42 0 8 (.int .u32 (.wrap .u32 (.add (.var 3) (.lit 1)))),
  .cel 42 0 71 (I 0),
  .cel 42 0 72 (I 0),
  .row 45 0 ([IZ (-1), .int .i64 (.sub (.var 4) (.lit 1))]),
  .row 45 1 ([I 0, .int .i64 (.sub (.var 5) (.lit 1))]),
  .cel 70 2 1 (.int .u32 (.var 2))], 691⟩
theorem s12_ok : SO 11 s12 := so f14_ok (by kernel_rfl) (by kernel_rfl)
noncomputable def h45 : H := hUpc h31 74 [] [] [] [(70, 2, 0, U 0), (70, 2, 1, .int .u32 (.var 12))]
noncomputable def s13 : Sym := ⟨[.ptr 32 0, I 0], h45, nm10, rg15,
  [(true, .bop .rem .u32 (.var 4) (.lit 32), .lit 7, true), (false, .var 8, .lit 1, false), (false, .var 7, .lit 1, false), (true, .bop .quo .u32 (.var 4) (.lit 32), .lit 0, true), (false, .var 5, .lit 256, true), (false, .lit 14, .var 6, false), (true, .var 6, .lit 2, false), (true, .var 6, .lit 3, false), (true, .var 6, .lit 4, false), (true, .var 6, .lit 5, false), (true, .var 6, .lit 6, false), (true, .var 6, .lit 7, false), (true, .var 6, .lit 8, false), (true, .var 6, .lit 9, false), (true, .var 6, .lit 10, false), (true, .var 6, .lit 1, false)],
  .agg [I 0, I 1, I 0, U 0, I 0, U 0, IZ (-1), I 0],
  [.cel 32 0 8 (.int .i64 (.add (.var 0) (.lit 1))),
  .row 40 0 ([I 16, .slice 54 0 1 1 10 false, .int .i64 (.add (.var 1) (.lit 1))]),
  .cel 42 0 0 (U 0),
  .cel 42 0 8 (.int .u32 (.wrap .u32 (.add (.var 4) (.lit 1)))),
  .row 45 0 ([IZ (-1), .int .i64 (.sub (.var 7) (.lit 1))]),
  .row 45 1 ([I 0, .int .i64 (.sub (.var 8) (.lit 1))])], 774⟩
theorem s13_ok : SO 11 s13 := so f7_ok (by kernel_rfl) (by kernel_rfl)
noncomputable def s14 : Sym := ⟨[.ptr 32 0, I 0], h45, nm10, rg15,
  [(true, .bop .rem .u32 (.var 4) (.lit 32), .lit 8, true), fs 11 1, (true, .bop .and .i64 (.bop .shr .i64 (.var 11) (.lit 20)) (.lit 15), .lit 1, true), (false, .var 8, .lit 1, false), (false, .var 7, .lit 1, false), (true, .bop .quo .u32 (.var 4) (.lit 32), .lit 0, true), fa 11 16, fa 11 12, (false, .var 5, .lit 256, true), (false, .lit 14, .var 6, false), (true, .var 6, .lit 2, false), (true, .var 6, .lit 3, false), (true, .var 6, .lit 4, false), (true, .var 6, .lit 5, false), (true, .var 6, .lit 6, false), (true, .var 6, .lit 7, false), (true, .var 6, .lit 8, false), (true, .var 6, .lit 9, false), (true, .var 6, .lit 10, false), (true, .var 6, .lit 1, false)],
  .agg [I 0, I 1, I 0, U 0, I 0, U 0, IZ (-1), I 0],
  [.cel 32 0 8 (.int .i64 (.add (.var 0) (.lit 1))),
  .row 40 0 ([I 16, .slice 54 0 1 1 10 false, .int .i64 (.add (.var 1) (.lit 1))]),
  .cel 42 0 1 (.int .u32 (.bop .and .i64 (.var 11) (.lit 4095))),
  .cel 42 0 8 (.int .u32 (.wrap .u32 (.add (.var 4) (.lit 1)))),
  .row 45 0 ([IZ (-1), .int .i64 (.sub (.var 7) (.lit 1))]),
  .row 45 1 ([I 0, .int .i64 (.sub (.var 8) (.lit 1))])], 774⟩
theorem s14_ok : SO 11 s14 := so f7_ok (by kernel_rfl) (by kernel_rfl)
noncomputable def h46 : H := hUpc h32 74 [] [] [] [(70, 2, 0, U 0), (70, 2, 1, .int .u32 (.var 8)), (42, 0, 1, U 1)]
noncomputable def s15 : Sym := ⟨[.ptr 32 0, I 0], h46, nm10, rg16,
  [(true, .bop .rem .u32 (.var 2) (.lit 32), .lit 9, true), (false, .var 4, .lit 1, false), (false, .var 3, .lit 1, false), (true, .bop .quo .u32 (.var 2) (.lit 32), .lit 0, true)],
  .agg [I 0, I 2, I 0, U 0, I 3, U 0, IZ (-1), I 0],
  [.cel 32 0 8 (.int .i64 (.add (.var 0) (.lit 1))),
  .row 40 0 ([I 16, .slice 54 0 1 1 10 false, .int .i64 (.add (.var 1) (.lit 1))]),
  .cel 42 0 1 (.int .u32 (.var 8)),
  .cel 42 0 8 (.int .u32 (.wrap .u32 (.add (.var 2) (.lit 1)))),
  .row 45 0 ([IZ (-1), .int .i64 (.sub (.var 3) (.lit 1))]),
  .row 45 1 ([I 0, .int .i64 (.sub (.var 4) (.lit 1))])], 643⟩
theorem s15_ok : SO 11 s15 := so f14_ok (by kernel_rfl) (by kernel_rfl)
noncomputable def h47 : H := hUpc h33 74 [] [] [] [(70, 2, 0, U 0), (70, 2, 1, .int .u32 (.var 12))]
noncomputable def s16 : Sym := ⟨[.ptr 32 0, I 0], h47, nm17, rg15,
  [(true, .bop .rem .u32 (.var 4) (.lit 32), .lit 10, true), (false, .var 8, .lit 1, false), (false, .var 7, .lit 1, false), (true, .bop .quo .u32 (.var 4) (.lit 32), .lit 0, true), (false, .var 5, .lit 256, true), (false, .lit 14, .var 6, false), (true, .var 6, .lit 2, false), (true, .var 6, .lit 3, false), (true, .var 6, .lit 4, false), (true, .var 6, .lit 5, false), (true, .var 6, .lit 6, false), (true, .var 6, .lit 7, false), (true, .var 6, .lit 8, false), (true, .var 6, .lit 9, false), (true, .var 6, .lit 10, false), (true, .var 6, .lit 1, false)],
  .agg [I 0, I 4, I 0, U 0, I 0, U 0, IZ (-1), I 0],
  [.cel 32 0 8 (.int .i64 (.add (.var 0) (.lit 1))),
  .row 38 0 ([.slice 51 0 0 1 1 false]),
  .row 40 0 ([I 16, .slice 54 0 1 1 10 false, .int .i64 (.add (.var 1) (.lit 1))]),
  .cel 42 0 8 (.int .u32 (.wrap .u32 (.add (.var 4) (.lit 1)))),
  .cel 42 0 9 (I 4),
  .row 45 0 ([IZ (-1), .int .i64 (.sub (.var 7) (.lit 1))]),
  .row 45 1 ([I 0, .int .i64 (.sub (.var 8) (.lit 1))])], 764⟩
theorem s16_ok : SO 11 s16 := so f7_ok (by kernel_rfl) (by kernel_rfl)
noncomputable def h48 : H := hUpd h9 414 [] [] [(78, 2, [.str [50]])]
noncomputable def h49 : H := hUpd h48 475 [] [] []
noncomputable def m29 : Memo := ⟨[.slice 78 0 3 3 1 false, .map 135], h48, .tuple [U 17825794, .inil], h49⟩
theorem m29_run : ranTo (evCall (cxX Tryz.prog bad [] [] q0) 1000 60 40 m29.args m29.h) m29.v m29.h' = true := by kernel_rfl
theorem m29_ok {σ : Nat → Int} {W0 : World} (hL : L0 W0) : MemoOk Tryz.prog 412927 σ W0 40 m29 := memo_ok fit (Known2.nil σ) ((q0_ok hL)) m29_run
noncomputable def h50 : H := hUpd h17 680 [] [] [(116, 2, [.str [50]])]
noncomputable def h51 : H := hUpd h50 741 [] [] []
noncomputable def m30 : Memo := ⟨[.slice 116 0 3 3 1 false, .map 135], h50, .tuple [U 17825794, .inil], h51⟩
theorem m30_run : ranTo (evCall (cxX Tryz.prog bad [] [] q0) 1000 60 40 m30.args m30.h) m30.v m30.h' = true := by kernel_rfl
theorem m30_ok {σ : Nat → Int} {W0 : World} (hL : L0 W0) : MemoOk Tryz.prog 412927 σ W0 40 m30 := memo_ok fit (Known2.nil σ) ((q0_ok hL)) m30_run
noncomputable def h52 : H := hUpc h30 74 [] [] [] [(42, 0, 1, U 2)]
noncomputable def s17 : Sym := ⟨[.ptr 32 0, I 0], h52, nm10, rg13,
  [(true, .bop .rem .u32 (.var 3) (.lit 32), .lit 6, true), (false, .var 5, .lit 1, false), (false, .var 4, .lit 1, false), (true, .bop .quo .u32 (.var 3) (.lit 32), .lit 0, true)],
  .agg [I 0, I 2, I 0, U 1, I 3, U 0, IZ (-1), I 0],
  [.cel 32 0 8 (.int .i64 (.add (.var 0) (.lit 1))),
  .row 40 0 ([I 16, .slice 54 0 1 1 10 false, .int .i64 (.add (.var 1) (.lit 1))]),
  .cel 42 0 0 (U 0),
  .cel 42 0 1 (U 0),
  .cel 42 0 2 (U 0),
  .cel 42 0 8 (.int .u32 (.wrap .u32 (.add (.var 3) (.lit 1)))),
  .cel 42 0 71 (I 0),
  .cel 42 0 72 (I 0),
  .row 45 0 ([IZ (-1), .int .i64 (.sub (.var 4) (.lit 1))]),
  .row 45 1 ([I 0, .int .i64 (.sub (.var 5) (.lit 1))]),
  .cel 70 2 2 (.int .u32 (.var 2))], 691⟩
theorem s17_ok : SO 11 s17 := so f14_ok (by kernel_rfl) (by kernel_rfl)
noncomputable def h53 : H := hUpc h31 74 [] [] [] [(70, 2, 0, U 0), (70, 2, 2, .int .u32 (.var 12))]
noncomputable def s18 : Sym := ⟨[.ptr 32 0, I 0], h53, nm10, rg15,
  [(true, .bop .rem .u32 (.var 4) (.lit 32), .lit 7, true), (false, .var 8, .lit 1, false), (false, .var 7, .lit 1, false), (true, .bop .quo .u32 (.var 4) (.lit 32), .lit 0, true), (false, .var 5, .lit 256, true), (false, .lit 14, .var 6, false), (true, .var 6, .lit 2, false), (true, .var 6, .lit 3, false), (true, .var 6, .lit 4, false), (true, .var 6, .lit 5, false), (true, .var 6, .lit 6, false), (true, .var 6, .lit 7, false), (true, .var 6, .lit 8, false), (true, .var 6, .lit 9, false), (true, .var 6, .lit 10, false), (true, .var 6, .lit 1, false)],
  .agg [I 0, I 1, I 0, U 0, I 0, U 0, IZ (-1), I 0],
  [.cel 32 0 8 (.int .i64 (.add (.var 0) (.lit 1))),
  .row 40 0 ([I 16, .slice 54 0 1 1 10 false, .int .i64 (.add (.var 1) (.lit 1))]),
  .cel 42 0 0 (U 0),
  .cel 42 0 8 (.int .u32 (.wrap .u32 (.add (.var 4) (.lit 1)))),
  .row 45 0 ([IZ (-1), .int .i64 (.sub (.var 7) (.lit 1))]),
  .row 45 1 ([I 0, .int .i64 (.sub (.var 8) (.lit 1))])], 774⟩
theorem s18_ok : SO 11 s18 := so f7_ok (by kernel_rfl) (by kernel_rfl)
noncomputable def s19 : Sym := ⟨[.ptr 32 0, I 0], h53, nm10, rg15,
  [(true, .bop .rem .u32 (.var 4) (.lit 32), .lit 8, true), fs 11 1, (true, .bop .and .i64 (.bop .shr .i64 (.var 11) (.lit 20)) (.lit 15), .lit 1, true), (false, .var 8, .lit 1, false), (false, .var 7, .lit 1, false), (true, .bop .quo .u32 (.var 4) (.lit 32), .lit 0, true), fa 11 16, fa 11 12, (false, .var 5, .lit 256, true), (false, .lit 14, .var 6, false), (true, .var 6, .lit 2, false), (true, .var 6, .lit 3, false), (true, .var 6, .lit 4, false), (true, .var 6, .lit 5, false), (true, .var 6, .lit 6, false), (true, .var 6, .lit 7, false), (true, .var 6, .lit 8, false), (true, .var 6, .lit 9, false), (true, .var 6, .lit 10, false), (true, .var 6, .lit 1, false)],
  .agg [I 0, I 1, I 0, U 0, I 0, U 0, IZ (-1), I 0],
  [.cel 32 0 8 (.int .i64 (.add (.var 0) (.lit 1))),
  .row 40 0 ([I 16, .slice 54 0 1 1 10 false, .int .i64 (.add (.var 1) (.lit 1))]),
  .cel 42 0 1 (.int .u32 (.bop .and .i64 (.var 11) (.lit 4095))),
  .cel 42 0 8 (.int .u32 (.wrap .u32 (.add (.var 4) (.lit 1)))),
  .row 45 0 ([IZ (-1), .int .i64 (.sub (.var 7) (.lit 1))]),
  .row 45 1 ([I 0, .int .i64 (.sub (.var 8) (.lit 1))])], 774⟩
theorem s19_ok : SO 11 s19 := so f7_ok (by kernel_rfl) (by kernel_rfl)
noncomputable def h54 : H := hUpc h32 74 [] [] [] [(70, 2, 0, U 0), (70, 2, 2, .int .u32 (.var 8)), (42, 0, 1, U 2)]
noncomputable def s20 : Sym := ⟨[.ptr 32 0, I 0], h54, nm10, rg16,
  [(true, .bop .rem .u32 (.var 2) (.lit 32), .lit 9, true), (false, .var 4, .lit 1, false), (false, .var 3, .lit 1, false), (true, .bop .quo .u32 (.var 2) (.lit 32), .lit 0, true)],
  .agg [I 0, I 2, I 0, U 0, I 3, U 0, IZ (-1), I 0],
  [.cel 32 0 8 (.int .i64 (.add (.var 0) (.lit 1))),
  .row 40 0 ([I 16, .slice 54 0 1 1 10 false, .int .i64 (.add (.var 1) (.lit 1))]),
  .cel 42 0 1 (.int .u32 (.var 8)),
  .cel 42 0 8 (.int .u32 (.wrap .u32 (.add (.var 2) (.lit 1)))),
  .row 45 0 ([IZ (-1), .int .i64 (.sub (.var 3) (.lit 1))]),
  .row 45 1 ([I 0, .int .i64 (.sub (.var 4) (.lit 1))])], 643⟩
theorem s20_ok : SO 11 s20 := so f14_ok (by kernel_rfl) (by kernel_rfl)
noncomputable def h55 : H := hUpc h33 74 [] [] [] [(70, 2, 0, U 0), (70, 2, 2, .int .u32 (.var 12))]
noncomputable def s21 : Sym := ⟨[.ptr 32 0, I 0], h55, nm17, rg15,
  [(true, .bop .rem .u32 (.var 4) (.lit 32), .lit 10, true), (false, .var 8, .lit 1, false), (false, .var 7, .lit 1, false), (true, .bop .quo .u32 (.var 4) (.lit 32), .lit 0, true), (false, .var 5, .lit 256, true), (false, .lit 14, .var 6, false), (true, .var 6, .lit 2, false), (true, .var 6, .lit 3, false), (true, .var 6, .lit 4, false), (true, .var 6, .lit 5, false), (true, .var 6, .lit 6, false), (true, .var 6, .lit 7, false), (true, .var 6, .lit 8, false), (true, .var 6, .lit 9, false), (true, .var 6, .lit 10, false), (true, .var 6, .lit 1, false)],
  .agg [I 0, I 4, I 0, U 0, I 0, U 0, IZ (-1), I 0],
  [.cel 32 0 8 (.int .i64 (.add (.var 0) (.lit 1))),
  .row 38 0 ([.slice 51 0 0 1 1 false]),
  .row 40 0 ([I 16, .slice 54 0 1 1 10 false, .int .i64 (.add (.var 1) (.lit 1))]),
  .cel 42 0 8 (.int .u32 (.wrap .u32 (.add (.var 4) (.lit 1)))),
  .cel 42 0 9 (I 4),
  .row 45 0 ([IZ (-1), .int .i64 (.sub (.var 7) (.lit 1))]),
  .row 45 1 ([I 0, .int .i64 (.sub (.var 8) (.lit 1))])], 764⟩
theorem s21_ok : SO 11 s21 := so f7_ok (by kernel_rfl) (by kernel_rfl)
noncomputable def h56 : H := hUpd h40 414 [] [] [(78, 2, [.str [51]])]
noncomputable def h57 : H := hUpd h56 475 [] [] []
noncomputable def m31 : Memo := ⟨[.slice 78 0 3 3 1 false, .map 135], h56, .tuple [U 17825795, .inil], h57⟩
theorem m31_run : ranTo (evCall (cxX Tryz.prog bad [] [] q0) 1000 60 40 m31.args m31.h) m31.v m31.h' = true := by kernel_rfl
theorem m31_ok {σ : Nat → Int} {W0 : World} (hL : L0 W0) : MemoOk Tryz.prog 412927 σ W0 40 m31 := memo_ok fit (Known2.nil σ) ((q0_ok hL)) m31_run
noncomputable def h58 : H := hUpd h18 680 [] [] [(116, 2, [.str [51]])]
noncomputable def h59 : H := hUpd h58 741 [] [] []
noncomputable def m32 : Memo := ⟨[.slice 116 0 3 3 1 false, .map 135], h58, .tuple [U 17825795, .inil], h59⟩
theorem m32_run : ranTo (evCall (cxX Tryz.prog bad [] [] q0) 1000 60 40 m32.args m32.h) m32.v m32.h' = true := by kernel_rfl
theorem m32_ok {σ : Nat → Int} {W0 : World} (hL : L0 W0) : MemoOk Tryz.prog 412927 σ W0 40 m32 := memo_ok fit (Known2.nil σ) ((q0_ok hL)) m32_run
noncomputable def h60 : H := hUpc h30 74 [] [] [] [(42, 0, 1, U 3)]
noncomputable def s22 : Sym := ⟨[.ptr 32 0, I 0], h60, nm10, rg13,
  [(true, .bop .rem .u32 (.var 3) (.lit 32), .lit 6, true), (false, .var 5, .lit 1, false), (false, .var 4, .lit 1, false), (true, .bop .quo .u32 (.var 3) (.lit 32), .lit 0, true)],
  .agg [I 0, I 2, I 0, U 1, I 3, U 0, IZ (-1), I 0],
  [.cel 32 0 8 (.int .i64 (.add (.var 0) (.lit 1))),
  .row 40 0 ([I 16, .slice 54 0 1 1 10 false, .int .i64 (.add (.var 1) (.lit 1))]),
  .cel 42 0 0 (U 0),
  .cel 42 0 1 (U 0),
  .cel 42 0 2 (U 0),
  .cel 42 0 8 (.int .u32 (.wrap .u32 (.add (.var 3) (.lit 1)))),
  .cel 42 0 71 (I 0),
  .cel 42 0 72 (I 0),
  .row 45 0 ([IZ (-1), .int .i64 (.sub (.var 4) (.lit 1))]),
  .row 45 1 ([I 0, .int .i64 (.sub (.var 5) (.lit 1))]),
  .cel 70 2 3 (.int .u32 (.var 2))], 691⟩
theorem s22_ok : SO 11 s22 := so f14_ok (by kernel_rfl) (by kernel_rfl)
noncomputable def h61 : H := hUpc h31 74 [] [] [] [(70, 2, 0, U 0), (70, 2, 3, .int .u32 (.var 12))]
noncomputable def s23 : Sym := ⟨[.ptr 32 0, I 0], h61, nm10, rg15,
  [(true, .bop .rem .u32 (.var 4) (.lit 32), .lit 7, true), (false, .var 8, .lit 1, false), (false, .var 7, .lit 1, false), (true, .bop .quo .u32 (.var 4) (.lit 32), .lit 0, true), (false, .var 5, .lit 256, true), (false, .lit 14, .var 6, false), (true, .var 6, .lit 2, false), (true, .var 6, .lit 3, false), (true, .var 6, .lit 4, false), (true, .var 6, .lit 5, false), (true, .var 6, .lit 6, false), (true, .var 6, .lit 7, false), (true, .var 6, .lit 8, false), (true, .var 6, .lit 9, false), (true, .var 6, .lit 10, false), (true, .var 6, .lit 1, false)],
  .agg [I 0, I 1, I 0, U 0, I 0, U 0, IZ (-1), I 0],
  [.cel 32 0 8 (.int .i64 (.add (.var 0) (.lit 1))),
  .row 40 0 ([I 16, .slice 54 0 1 1 10 false, .int .i64 (.add (.var 1) (.lit 1))]),
  .cel 42 0 0 (U 0),
  .cel 42 0 8 (.int .u32 (.wrap .u32 (.add (.var 4) (.lit 1)))),
  .row 45 0 ([IZ (-1), .int .i64 (.sub (.var 7) (.lit 1))]),
  .row 45 1 ([I 0, .int .i64 (.sub (.var 8) (.lit 1))])], 774⟩
theorem s23_ok : SO 11 s23 := so f7_ok (by kernel_rfl) (by kernel_rfl)
noncomputable def s24 : Sym := ⟨[.ptr 32 0, I 0], h61, nm10, rg15,
  [(true, .bop .rem .u32 (.var 4) (.lit 32), .lit 8, true), fs 11 1, (true, .bop .and .i64 (.bop .shr .i64 (.var 11) (.lit 20)) (.lit 15), .lit 1, true), (false, .var 8, .lit 1, false), (false, .var 7, .lit 1, false), (true, .bop .quo .u32 (.var 4) (.lit 32), .lit 0, true), fa 11 16, fa 11 12, (false, .var 5, .lit 256, true), (false, .lit 14, .var 6, false), (true, .var 6, .lit 2, false), (true, .var 6, .lit 3, false), (true, .var 6, .lit 4, false), (true, .var 6, .lit 5, false), (true, .var 6, .lit 6, false), (true, .var 6, .lit 7, false), (true, .var 6, .lit 8, false), (true, .var 6, .lit 9, false), (true, .var 6, .lit 10, false), (true, .var 6, .lit 1, false)],
  .agg [I 0, I 1, I 0, U 0, I 0, U 0, IZ (-1), I 0],
  [.cel 32 0 8 (.int .i64 (.add (.var 0) (.lit 1))),
  .row 40 0 ([I 16, .slice 54 0 1 1 10 false, .int .i64 (.add (.var 1) (.lit 1))]),
  .cel 42 0 1 (.int .u32 (.bop .and .i64 (.var 11) (.lit 4095))),
  .cel 42 0 8 (.int .u32 (.wrap .u32 (.add (.var 4) (.lit 1)))),
  .row 45 0 ([IZ (-1), .int .i64 (.sub (.var 7) (.lit 1))]),
  .row 45 1 ([I 0, .int .i64 (.sub (.var 8) (.lit 1))])], 774⟩
theorem s24_ok : SO 11 s24 := so f7_ok (by kernel_rfl) (by kernel_rfl)
noncomputable def h62 : H := hUpc h32 74 [] [] [] [(70, 2, 0, U 0), (70, 2, 3, .int .u32 (.var 8)), (42, 0, 1, U 3)]
noncomputable def s25 : Sym := ⟨[.ptr 32 0, I 0], h62, nm10, rg16,
  [(true, .bop .rem .u32 (.var 2) (.lit 32), .lit 9, true), (false, .var 4, .lit 1, false), (false, .var 3, .lit 1, false), (true, .bop .quo .u32 (.var 2) (.lit 32), .lit 0, true)],
  .agg [I 0, I 2, I 0, U 0, I 3, U 0, IZ (-1), I 0],
  [.cel 32 0 8 (.int .i64 (.add (.var 0) (.lit 1))),
  .row 40 0 ([I 16, .slice 54 0 1 1 10 false, .int .i64 (.add (.var 1) (.lit 1))]),
  .cel 42 0 1 (.int .u32 (.var 8)),
  .cel 42 0 8 (.int .u32 (.wrap .u32 (.add (.var 2) (.lit 1)))),
  .row 45 0 ([IZ (-1), .int .i64 (.sub (.var 3) (.lit 1))]),
  .row 45 1 ([I 0, .int .i64 (.sub (.var 4) (.lit 1))])], 643⟩
theorem s25_ok : SO 11 s25 := so f14_ok (by kernel_rfl) (by kernel_rfl)
noncomputable def h63 : H := hUpc h33 74 [] [] [] [(70, 2, 0, U 0), (70, 2, 3, .int .u32 (.var 12))]
noncomputable def s26 : Sym := ⟨[.ptr 32 0, I 0], h63, nm17, rg15,
  [(true, .bop .rem .u32 (.var 4) (.lit 32), .lit 10, true), (false, .var 8, .lit 1, false), (false, .var 7, .lit 1, false), (true, .bop .quo .u32 (.var 4) (.lit 32), .lit 0, true), (false, .var 5, .lit 256, true), (false, .lit 14, .var 6, false), (true, .var 6, .lit 2, false), (true, .var 6, .lit 3, false), (true, .var 6, .lit 4, false), (true, .var 6, .lit 5, false), (true, .var 6, .lit 6, false), (true, .var 6, .lit 7, false), (true, .var 6, .lit 8, false), (true, .var 6, .lit 9, false), (true, .var 6, .lit 10, false), (true, .var 6, .lit 1, false)],
  .agg [I 0, I 4, I 0, U 0, I 0, U 0, IZ (-1), I 0],
  [.cel 32 0 8 (.int .i64 (.add (.var 0) (.lit 1))),
  .row 38 0 ([.slice 51 0 0 1 1 false]),
  .row 40 0 ([I 16, .slice 54 0 1 1 10 false, .int .i64 (.add (.var 1) (.lit 1))]),
  .cel 42 0 8 (.int .u32 (.wrap .u32 (.add (.var 4) (.lit 1)))),
  .cel 42 0 9 (I 4),
  .row 45 0 ([IZ (-1), .int .i64 (.sub (.var 7) (.lit 1))]),
  .row 45 1 ([I 0, .int .i64 (.sub (.var 8) (.lit 1))])], 764⟩
theorem s26_ok : SO 11 s26 := so f7_ok (by kernel_rfl) (by kernel_rfl)
noncomputable def h64 : H := hUpd h40 414 [] [] [(78, 2, [.str [52]])]
noncomputable def h65 : H := hUpd h64 475 [] [] []
noncomputable def m33 : Memo := ⟨[.slice 78 0 3 3 1 false, .map 135], h64, .tuple [U 17825796, .inil], h65⟩
theorem m33_run : ranTo (evCall (cxX Tryz.prog bad [] [] q0) 1000 60 40 m33.args m33.h) m33.v m33.h' = true := by kernel_rfl
theorem m33_ok {σ : Nat → Int} {W0 : World} (hL : L0 W0) : MemoOk Tryz.prog 412927 σ W0 40 m33 := memo_ok fit (Known2.nil σ) ((q0_ok hL)) m33_run
noncomputable def h66 : H := hUpd h42 680 [] [] [(116, 2, [.str [52]])]
noncomputable def h67 : H := hUpd h66 741 [] [] []
noncomputable def m34 : Memo := ⟨[.slice 116 0 3 3 1 false, .map 135], h66, .tuple [U 17825796, .inil], h67⟩
theorem m34_run : ranTo (evCall (cxX Tryz.prog bad [] [] q0) 1000 60 40 m34.args m34.h) m34.v m34.h' = true := by kernel_rfl
theorem m34_ok {σ : Nat → Int} {W0 : World} (hL : L0 W0) : MemoOk Tryz.prog 412927 σ W0 40 m34 := memo_ok fit (Known2.nil σ) ((q0_ok hL)) m34_run
noncomputable def h68 : H := hUpc h30 74 [] [] [] [(42, 0, 1, U 4)]
noncomputable def s27 : Sym := ⟨[.ptr 32 0, I 0], h68, nm10, rg13,
  [(true, .bop .rem .u32 (.var 3) (.lit 32), .lit 6, true), (false, .var 5, .lit 1, false), (false, .var 4, .lit 1, false), (true, .bop .quo .u32 (.var 3) (.lit 32), .lit 0, true)],
  .agg [I 0, I 2, I 0, U 1, I 3, U 0, IZ (-1), I 0],
  [.cel 32 0 8 (.int .i64 (.add (.var 0) (.lit 1))),
  .row 40 0 ([I 16, .slice 54 0 1 1 10 false, .int .i64 (.add (.var 1) (.lit 1))]),
  .cel 42 0 0 (U 0),
  .cel 42 0 1 (U 0),
  .cel 42 0 2 (U 0),
  .cel 42 0 8 (.int .u32 (.wrap .u32 (.add (.var 3) (.lit 1)))),
  .cel 42 0 71 (I 0),
  .cel 42 0 72 (I 0),
  .row 45 0 ([IZ (-1), .int .i64 (.sub (.var 4) (.lit 1))]),
  .row 45 1 ([I 0, .int .i64 (.sub (.var 5) (.lit 1))]),
  .cel 70 2 4 (.int .u32 (.var 2))], 691⟩
theorem s27_ok : SO 11 s27 := so f14_ok (by kernel_rfl) (by kernel_rfl)
noncomputable def h69 : H := hUpc h31 74 [] [] [] [(70, 2, 0, U 0), (70, 2, 4, .int .u32 (.var 12))]
noncomputable def s28 : Sym := ⟨[.ptr 32 0, I 0], h69, nm10, rg15,
  [(true, .bop .rem .u32 (.var 4) (.lit 32), .lit 7, true), (false, .var 8, .lit 1, false), (false, .var 7, .lit 1, false), (true, .bop .quo .u32 (.var 4) (.lit 32), .lit 0, true), (false, .var 5, .lit 256, true), (false, .lit 14, .var 6, false), (true, .var 6, .lit 2, false), (true, .var 6, .lit 3, false), (true, .var 6, .lit 4, false), (true, .var 6, .lit 5, false), (true, .var 6, .lit 6, false), (true, .var 6, .lit 7, false), (true, .var 6, .lit 8, false), (true, .var 6, .lit 9, false), (true, .var 6, .lit 10, false), (true, .var 6, .lit 1, false)],
  .agg [I 0, I 1, I 0, U 0, I 0, U 0, IZ (-1), I 0],
  [.cel 32 0 8 (.int .i64 (.add (.var 0) (.lit 1))),
  .row 40 0 ([I 16, .slice 54 0 1 1 10 false, .int .i64 (.add (.var 1) (.lit 1))]),
  .cel 42 0 0 (U 0),
  .cel 42 0 8 (.int .u32 (.wrap .u32 (.add (.var 4) (.lit 1)))),
  .row 45 0 ([IZ (-1), .int .i64 (.sub (.var 7) (.lit 1))]),
  .row 45 1 ([I 0, .int .i64 (.sub (.var 8) (.lit 1))])], 774⟩
theorem s28_ok : SO 11 s28 := so f7_ok (by kernel_rfl) (by kernel_rfl)
noncomputable def s29 : Sym := ⟨[.ptr 32 0, I 0], h69, nm10, rg15,
  [(true, .bop .rem .u32 (.var 4) (.lit 32), .lit 8, true), fs 11 1, (true, .bop .and .i64 (.bop .shr .i64 (.var 11) (.lit 20)) (.lit 15), .lit 1, true), (false, .var 8, .lit 1, false), (false, .var 7, .lit 1, false), (true, .bop .quo .u32 (.var 4) (.lit 32), .lit 0, true), fa 11 16, fa 11 12, (false, .var 5, .lit 256, true), (false, .lit 14, .var 6, false), (true, .var 6, .lit 2, false), (true, .var 6, .lit 3, false), (true, .var 6, .lit 4, false), (true, .var 6, .lit 5, false), (true, .var 6, .lit 6, false), (true, .var 6, .lit 7, false), (true, .var 6, .lit 8, false), (true, .var 6, .lit 9, false), (true, .var 6, .lit 10, false), (true, .var 6, .lit 1, false)],
  .agg [I 0, I 1, I 0, U 0, I 0, U 0, IZ (-1), I 0],
  [.cel 32 0 8 (.int .i64 (.add (.var 0) (.lit 1))),
  .row 40 0 ([I 16, .slice 54 0 1 1 10 false, .int .i64 (.add (.var 1) (.lit 1))]),
  .cel 42 0 1 (.int .u32 (.bop .and .i64 (.var 11) (.lit 4095))),
  .cel 42 0 8 (.int .u32 (.wrap .u32 (.add (.var 4) (.lit 1)))),
  .row 45 0 ([IZ (-1), .int .i64 (.sub (.var 7) (.lit 1))]),
  .row 45 1 ([I 0, .int .i64 (.sub (.var 8) (.lit 1))])], 774⟩
theorem s29_ok : SO 11 s29 := so f7_ok (by kernel_rfl) (by kernel_rfl)
noncomputable def h70 : H := hUpc h32 74 [] [] [] [(70, 2, 0, U 0), (70, 2, 4, .int .u32 (.var 8)), (42, 0, 1, U 4)]
noncomputable def s30 : Sym := ⟨[.ptr 32 0, I 0], h70, nm10, rg16,
  [(true, .bop .rem .u32 (.var 2) (.lit 32), .lit 9, true), (false, .var 4, .lit 1, false), (false, .var 3, .lit 1, false), (true, .bop .quo .u32 (.var 2) (.lit 32), .lit 0, true)],
  .agg [I 0, I 2, I 0, U 0, I 3, U 0, IZ (-1), I 0],
  [.cel 32 0 8 (.int .i64 (.add (.var 0) (.lit 1))),
  .row 40 0 ([I 16, .slice 54 0 1 1 10 false, .int .i64 (.add (.var 1) (.lit 1))]),
  .cel 42 0 1 (.int .u32 (.var 8)),
  .cel 42 0 8 (.int .u32 (.wrap .u32 (.add (.var 2) (.lit 1)))),
  .row 45 0 ([IZ (-1), .int .i64 (.sub (.var 3) (.lit 1))]),
  .row 45 1 ([I 0, .int .i64 (.sub (.var 4) (.lit 1))])], 643⟩
theorem s30_ok : SO 11 s30 := so f14_ok (by kernel_rfl) (by kernel_rfl)
noncomputable def h71 : H := hUpc h33 74 [] [] [] [(70, 2, 0, U 0), (70, 2, 4, .int .u32 (.var 12))]
noncomputable def s31 : Sym := ⟨[.ptr 32 0, I 0], h71, nm17, rg15,
  [(true, .bop .rem .u32 (.var 4) (.lit 32), .lit 10, true), (false, .var 8, .lit 1, false), (false, .var 7, .lit 1, false), (true, .bop .quo .u32 (.var 4) (.lit 32), .lit 0, true), (false, .var 5, .lit 256, true), (false, .lit 14, .var 6, false), (true, .var 6, .lit 2, false), (true, .var 6, .lit 3, false), (true, .var 6, .lit 4, false), (true, .var 6, .lit 5, false), (true, .var 6, .lit 6, false), (true, .var 6, .lit 7, false), (true, .var 6, .lit 8, false), (true, .var 6, .lit 9, false), (true, .var 6, .lit 10, false), (true, .var 6, .lit 1, false)],
  .agg [I 0, I 4, I 0, U 0, I 0, U 0, IZ (-1), I 0],
  [.cel 32 0 8 (.int .i64 (.add (.var 0) (.lit 1))),
  .row 38 0 ([.slice 51 0 0 1 1 false]),
  .row 40 0 ([I 16, .slice 54 0 1 1 10 false, .int .i64 (.add (.var 1) (.lit 1))]),
  .cel 42 0 8 (.int .u32 (.wrap .u32 (.add (.var 4) (.lit 1)))),
  .cel 42 0 9 (I 4),
  .row 45 0 ([IZ (-1), .int .i64 (.sub (.var 7) (.lit 1))]),
  .row 45 1 ([I 0, .int .i64 (.sub (.var 8) (.lit 1))])], 764⟩
theorem s31_ok : SO 11 s31 := so f7_ok (by kernel_rfl) (by kernel_rfl)
noncomputable def h72 : H := hUpd h40 414 [] [] [(78, 2, [.str [53]])]
noncomputable def h73 : H := hUpd h72 475 [] [] []
noncomputable def m35 : Memo := ⟨[.slice 78 0 3 3 1 false, .map 135], h72, .tuple [U 17825797, .inil], h73⟩
theorem m35_run : ranTo (evCall (cxX Tryz.prog bad [] [] q0) 1000 60 40 m35.args m35.h) m35.v m35.h' = true := by kernel_rfl
theorem m35_ok {σ : Nat → Int} {W0 : World} (hL : L0 W0) : MemoOk Tryz.prog 412927 σ W0 40 m35 := memo_ok fit (Known2.nil σ) ((q0_ok hL)) m35_run
noncomputable def h74 : H := hUpd h42 680 [] [] [(116, 2, [.str [53]])]
noncomputable def h75 : H := hUpd h74 741 [] [] []
noncomputable def m36 : Memo := ⟨[.slice 116 0 3 3 1 false, .map 135], h74, .tuple [U 17825797, .inil], h75⟩
theorem m36_run : ranTo (evCall (cxX Tryz.prog bad [] [] q0) 1000 60 40 m36.args m36.h) m36.v m36.h' = true := by kernel_rfl
theorem m36_ok {σ : Nat → Int} {W0 : World} (hL : L0 W0) : MemoOk Tryz.prog 412927 σ W0 40 m36 := memo_ok fit (Known2.nil σ) ((q0_ok hL)) m36_run
noncomputable def h76 : H := hUpc h44 74 [] [] [] [(42, 0, 1, U 5)]
noncomputable def s32 : Sym := ⟨[.ptr 32 0, I 0], h76, nm10, rg13,
  [(true, .bop .rem .u32 (.var 3) (.lit 32), .lit 6, true), (false, .var 5, .lit 1, false), (false, .var 4, .lit 1, false), (true, .bop .quo .u32 (.var 3) (.lit 32), .lit 0, true)],
  .agg [I 0, I 2, I 0, U 1, I 3, U 0, IZ (-1), I 0],
  [.cel 32 0 8 (.int .i64 (.add (.var 0) (.lit 1))),
  .row 40 0 ([I 16, .slice 54 0 1 1 10 false, .int .i64 (.add (.var 1) (.lit 1))]),
  .cel 42 0 0 (U 0),
  .cel 42 0 1 (U 0),
  .cel 42 0 2 (U 0),
  .cel 42 0 8 (.int .u32 (.wrap .u32 (.add (.var 3) (.lit 1)))),
  .cel 42 0 71 (I 0),
  .cel 42 0 72 (I 0),
  .row 45 0 ([IZ (-1), .int .i64 (.sub (.var 4) (.lit 1))]),
  .row 45 1 ([I 0, .int .i64 (.sub (.var 5) (.lit 1))]),
  .cel 70 2 5 (.int .u32 (.var 2))], 691⟩
theorem s32_ok : SO 11 s32 := so f14_ok (by kernel_rfl) (by kernel_rfl)
noncomputable def h77 : H := hUpc h45 74 [] [] [] [(70, 2, 1, U 0), (70, 2, 5, .int .u32 (.var 12))]
noncomputable def s33 : Sym := ⟨[.ptr 32 0, I 0], h77, nm10, rg15,
  [(true, .bop .rem .u32 (.var 4) (.lit 32), .lit 7, true), (false, .var 8, .lit 1, false), (false, .var 7, .lit 1, false), (true, .bop .quo .u32 (.var 4) (.lit 32), .lit 0, true), (false, .var 5, .lit 256, true), (false, .lit 14, .var 6, false), (true, .var 6, .lit 2, false), (true, .var 6, .lit 3, false), (true, .var 6, .lit 4, false), (true, .var 6, .lit 5, false), (true, .var 6, .lit 6, false), (true, .var 6, .lit 7, false), (true, .var 6, .lit 8, false), (true, .var 6, .lit 9, false), (true, .var 6, .lit 10, false), (true, .var 6, .lit 1, false)],
  .agg [I 0, I 1, I 0, U 0, I 0, U 0, IZ (-1), I 0],
  [.cel 32 0 8 (.int .i64 (.add (.var 0) (.lit 1))),
  .row 40 0 ([I 16, .slice 54 0 1 1 10 false, .int .i64 (.add (.var 1) (.lit 1))]),
  .cel 42 0 0 (U 0),
  .cel 42 0 8 (.int .u32 (.wrap .u32 (.add (.var 4) (.lit 1)))),
  .row 45 0 ([IZ (-1), .int .i64 (.sub (.var 7) (.lit 1))]),
  .row 45 1 ([I 0, .int .i64 (.sub (.var 8) (.lit 1))])], 774⟩
theorem s33_ok : SO 11 s33 := so f7_ok (by kernel_rfl) (by kernel_rfl)
noncomputable def s34 : Sym := ⟨[.ptr 32 0, I 0], h77, nm10, rg15,
  [(true, .bop .rem .u32 (.var 4) (.lit 32), .lit 8, true), fs 11 1, (true, .bop .and .i64 (.bop .shr .i64 (.var 11) (.lit 20)) (.lit 15), .lit 1, true), (false, .var 8, .lit 1, false), (false, .var 7, .lit 1, false), (true, .bop .quo .u32 (.var 4) (.lit 32), .lit 0, true), fa 11 16, fa 11 12, (false, .var 5, .lit 256, true), (false, .lit 14, .var 6, false), (true, .var 6, .lit 2, false), (true, .var 6, .lit 3, false), (true, .var 6, .lit 4, false), (true, .var 6, .lit 5, false), (true, .var 6, .lit 6, false), (true, .var 6, .lit 7, false), (true, .var 6, .lit 8, false), (true, .var 6, .lit 9, false), (true, .var 6, .lit 10, false), (true, .var 6, .lit 1, false)],
  .agg [I 0, I 1, I 0, U 0, I 0, U 0, IZ (-1), I 0],
  [.cel 32 0 8 (.int .i64 (.add (.var 0) (.lit 1))),
  .row 40 0 ([I 16, .slice 54 0 1 1 10 false, .int .i64 (.add (.var 1) (.lit 1))]),
  .cel 42 0 1 (.int .u32 (.bop .and .i64 (.var 11) (.lit 4095))),
  .cel 42 0 8 (.int .u32 (.wrap .u32 (.add (.var 4) (.lit 1)))),
  .row 45 0 ([IZ (-1), .int .i64 (.sub (.var 7) (.lit 1))]),
  .row 45 1 ([I 0, .int .i64 (.sub (.var 8) (.lit 1))])], 774⟩
theorem s34_ok : SO 11 s34 := so f7_ok (by kernel_rfl) (by kernel_rfl)
noncomputable def h78 : H := hUpc h46 74 [] [] [] [(70, 2, 1, U 0), (70, 2, 5, .int .u32 (.var 8)), (42, 0, 1, U 5)]
noncomputable def s35 : Sym := ⟨[.ptr 32 0, I 0], h78, nm10, rg16,
  [(true, .bop .rem .u32 (.var 2) (.lit 32), .lit 9, true), (false, .var 4, .lit 1, false), (false, .var 3, .lit 1, false), (true, .bop .quo .u32 (.var 2) (.lit 32), .lit 0, true)],
  .agg [I 0, I 2, I 0, U 0, I 3, U 0, IZ (-1), I 0],
  [.cel 32 0 8 (.int .i64 (.add (.var 0) (.lit 1))),
  .row 40 0 ([I 16, .slice 54 0 1 1 10 false, .int .i64 (.add (.var 1) (.lit 1))]),
  .cel 42 0 1 (.int .u32 (.var 8)),
  .cel 42 0 8 (.int .u32 (.wrap .u32 (.add (.var 2) (.lit 1)))),
  .row 45 0 ([IZ (-1), .int .i64 (.sub (.var 3) (.lit 1))]),
  .row 45 1 ([I 0, .int .i64 (.sub (.var 4) (.lit 1))])], 643⟩
theorem s35_ok : SO 11 s35 := so f14_ok (by kernel_rfl) (by kernel_rfl)
noncomputable def h79 : H := hUpc h47 74 [] [] [] [(70, 2, 1, U 0), (70, 2, 5, .int .u32 (.var 12))]
noncomputable def s36 : Sym := ⟨[.ptr 32 0, I 0], h79, nm17, rg15,
  [(true, .bop .rem .u32 (.var 4) (.lit 32), .lit 10, true), (false, .var 8, .lit 1, false), (false, .var 7, .lit 1, false), (true, .bop .quo .u32 (.var 4) (.lit 32), .lit 0, true), (false, .var 5, .lit 256, true), (false, .lit 14, .var 6, false), (true, .var 6, .lit 2, false), (true, .var 6, .lit 3, false), (true, .var 6, .lit 4, false), (true, .var 6, .lit 5, false), (true, .var 6, .lit 6, false), (true, .var 6, .lit 7, false), (true, .var 6, .lit 8, false), (true, .var 6, .lit 9, false), (true, .var 6, .lit 10, false), (true, .var 6, .lit 1, false)],
  .agg [I 0, I 4, I 0, U 0, I 0, U 0, IZ (-1), I 0],
  [.cel 32 0 8 (.int .i64 (.add (.var 0) (.lit 1))),
  .row 38 0 ([.slice 51 0 0 1 1 false]),
  .row 40 0 ([I 16, .slice 54 0 1 1 10 false, .int .i64 (.add (.var 1) (.lit 1))]),
  .cel 42 0 8 (.int .u32 (.wrap .u32 (.add (.var 4) (.lit 1)))),
  .cel 42 0 9 (I 4),
  .row 45 0 ([IZ (-1), .int .i64 (.sub (.var 7) (.lit 1))]),
  .row 45 1 ([I 0, .int .i64 (.sub (.var 8) (.lit 1))])], 764⟩
theorem s36_ok : SO 11 s36 := so f7_ok (by kernel_rfl) (by kernel_rfl)
noncomputable def h80 : H := hUpd h40 414 [] [] [(78, 2, [.str [54]])]
noncomputable def h81 : H := hUpd h80 475 [] [] []
noncomputable def m37 : Memo := ⟨[.slice 78 0 3 3 1 false, .map 135], h80, .tuple [U 17825798, .inil], h81⟩
theorem m37_run : ranTo (evCall (cxX Tryz.prog bad [] [] q0) 1000 60 40 m37.args m37.h) m37.v m37.h' = true := by kernel_rfl
theorem m37_ok {σ : Nat → Int} {W0 : World} (hL : L0 W0) : MemoOk Tryz.prog 412927 σ W0 40 m37 := memo_ok fit (Known2.nil σ) ((q0_ok hL)) m37_run
noncomputable def h82 : H := hUpd h42 680 [] [] [(116, 2, [.str [54]])]
noncomputable def h83 : H := hUpd h82 741 [] [] []
noncomputable def m38 : Memo := ⟨[.slice 116 0 3 3 1 false, .map 135], h82, .tuple [U 17825798, .inil], h83⟩
theorem m38_run : ranTo (evCall (cxX Tryz.prog bad [] [] q0) 1000 60 40 m38.args m38.h) m38.v m38.h' = true := by kernel_rfl
theorem m38_ok {σ : Nat → Int} {W0 : World} (hL : L0 W0) : MemoOk Tryz.prog 412927 σ W0 40 m38 := memo_ok fit (Known2.nil σ) ((q0_ok hL)) m38_run
noncomputable def h84 : H := hUpc h44 74 [] [] [] [(42, 0, 1, U 6)]
noncomputable def s37 : Sym := ⟨[.ptr 32 0, I 0], h84, nm10, rg13,
  [(true, .bop .rem .u32 (.var 3) (.lit 32), .lit 6, true), (false, .var 5, .lit 1, false), (false, .var 4, .lit 1, false), (true, .bop .quo .u32 (.var 3) (.lit 32), .lit 0, true)],
  .agg [I 0, I 2, I 0, U 1, I 3, U 0, IZ (-1), I 0],
  [.cel 32 0 8 (.int .i64 (.add (.var 0) (.lit 1))),
  .row 40 0 ([I 16, .slice 54 0 1 1 10 false, .int .i64 (.add (.var 1) (.lit 1))]),
  .cel 42 0 0 (U 0),
  .cel 42 0 1 (U 0),
  .cel 42 0 2 (U 0),
  .cel 42 0 8 (.int .u32 (.wrap .u32 (.add (.var 3) (.lit 1)))),
  .cel 42 0 71 (I 0),
  .cel 42 0 72 (I 0),
  .row 45 0 ([IZ (-1), .int .i64 (.sub (.var 4) (.lit 1))]),
  .row 45 1 ([I 0, .int .i64 (.sub (.var 5) (.lit 1))]),
  .cel 70 2 6 (.int .u32 (.var 2))], 691⟩
theorem s37_ok : SO 11 s37 := so f14_ok (by kernel_rfl) (by kernel_rfl)
noncomputable def h85 : H := hUpc h45 74 [] [] [] [(70, 2, 1, U 0), (70, 2, 6, .int .u32 (.var 12))]
noncomputable def s38 : Sym := ⟨[.ptr 32 0, I 0], h85, nm10, rg15,
  [(true, .bop .rem .u32 (.var 4) (.lit 32), .lit 7, true), (false, .var 8, .lit 1, false), (false, .var 7, .lit 1, false), (true, .bop .quo .u32 (.var 4) (.lit 32), .lit 0, true), (false, .var 5, .lit 256, true), (false, .lit 14, .var 6, false), (true, .var 6, .lit 2, false), (true, .var 6, .lit 3, false), (true, .var 6, .lit 4, false), (true, .var 6, .lit 5, false), (true, .var 6, .lit 6, false), (true, .var 6, .lit 7, false), (true, .var 6, .lit 8, false), (true, .var 6, .lit 9, false), (true, .var 6, .lit 10, false), (true, .var 6, .lit 1, false)],
  .agg [I 0, I 1, I 0, U 0, I 0, U 0, IZ (-1), I 0],
  [.cel 32 0 8 (.int .i64 (.add (.var 0) (.lit 1))),
  .row 40 0 ([I 16, .slice 54 0 1 1 10 false, .int .i64 (.add (.var 1) (.lit 1))]),
  .cel 42 0 0 (U 0),
  .cel 42 0 8 (.int .u32 (.wrap .u32 (.add (.var 4) (.lit 1)))),
  .row 45 0 ([IZ (-1), .int .i64 (.sub (.var 7) (.lit 1))]),
  .row 45 1 ([I 0, .int .i64 (.sub (.var 8) (.lit 1))])], 774⟩
theorem s38_ok : SO 11 s38 := so f7_ok (by kernel_rfl) (by kernel_rfl)
noncomputable def s39 : Sym := ⟨[.ptr 32 0, I 0], h85, nm10, rg15,
  [(true, .bop .rem .u32 (.var 4) (.lit 32), .lit 8, true), fs 11 1, (true, .bop .and .i64 (.bop .shr .i64 (.var 11) (.lit 20)) (.lit 15), .lit 1, true), (false, .var 8, .lit 1, false), (false, .var 7, .lit 1, false), (true, .bop .quo .u32 (.var 4) (.lit 32), .lit 0, true), fa 11 16, fa 11 12, (false, .var 5, .lit 256, true), (false, .lit 14, .var 6, false), (true, .var 6, .lit 2, false), (true, .var 6, .lit 3, false), (true, .var 6, .lit 4, false), (true, .var 6, .lit 5, false), (true, .var 6, .lit 6, false), (true, .var 6, .lit 7, false), (true, .var 6, .lit 8, false), (true, .var 6, .lit 9, false), (true, .var 6, .lit 10, false), (true, .var 6, .lit 1, false)],
  .agg [I 0, I 1, I 0, U 0, I 0, U 0, IZ (-1), I 0],
  [.cel 32 0 8 (.int .i64 (.add (.var 0) (.lit 1))),
  .row 40 0 ([I 16, .slice 54 0 1 1 10 false, .int .i64 (.add (.var 1) (.lit 1))]),
  .cel 42 0 1 (.int .u32 (.bop .and .i64 (.var 11) (.lit 4095))),
  .cel 42 0 8 (.int .u32 (.wrap .u32 (.add (.var 4) (.lit 1)))),
  .row 45 0 ([IZ (-1), .int .i64 (.sub (.var 7) (.lit 1))]),
  .row 45 1 ([I 0, .int .i64 (.sub (.var 8) (.lit 1))])], 774⟩
theorem s39_ok : SO 11 s39 := so f7_ok (by kernel_rfl) (by kernel_rfl)
noncomputable def h86 : H := hUpc h46 74 [] [] [] [(70, 2, 1, U 0), (70, 2, 6, .int .u32 (.var 8)), (42, 0, 1, U 6)]
noncomputable def s40 : Sym := ⟨[.ptr 32 0, I 0], h86, nm10, rg16,
  [(true, .bop .rem .u32 (.var 2) (.lit 32), .lit 9, true), (false, .var 4, .lit 1, false), (false, .var 3, .lit 1, false), (true, .bop .quo .u32 (.var 2) (.lit 32), .lit 0, true)],
  .agg [I 0, I 2, I 0, U 0, I 3, U 0, IZ (-1), I 0],
  [.cel 32 0 8 (.int .i64 (.add (.var 0) (.lit 1))),
  .row 40 0 ([I 16, .slice 54 0 1 1 10 false, .int .i64 (.add (.var 1) (.lit 1))]),
  .cel 42 0 1 (.int .u32 (.var 8)),
  .cel 42 0 8 (.int .u32 (.wrap .u32 (.add (.var 2) (.lit 1)))),
  .row 45 0 ([IZ (-1), .int .i64 (.sub (.var 3) (.lit 1))]),
  .row 45 1 ([I 0, .int .i64 (.sub (.var 4) (.lit 1))])], 643⟩
theorem s40_ok : SO 11 s40 := so f14_ok (by kernel_rfl) (by kernel_rfl)
noncomputable def h87 : H := hUpc h47 74 [] [] [] [(70, 2, 1, U 0), (70, 2, 6, .int .u32 (.var 12))]
noncomputable def s41 : Sym := ⟨[.ptr 32 0, I 0], h87, nm17, rg15,
  [(true, .bop .rem .u32 (.var 4) (.lit 32), .lit 10, true), (false, .var 8, .lit 1, false), (false, .var 7, .lit 1, false), (true, .bop .quo .u32 (.var 4) (.lit 32), .lit 0, true), (false, .var 5, .lit 256, true), (false, .lit 14, .var 6, false), (true, .var 6, .lit 2, false), (true, .var 6, .lit 3, false), (true, .var 6, .lit 4, false), (true, .var 6, .lit 5, false), (true, .var 6, .lit 6, false), (true, .var 6, .lit 7, false), (true, .var 6, .lit 8, false), (true, .var 6, .lit 9, false), (true, .var 6, .lit 10, false), (true, .var 6, .lit 1, false)],
  .agg [I 0, I 4, I 0, U 0, I 0, U 0, IZ (-1), I 0],
  [.cel 32 0 8 (.int .i64 (.add (.var 0) (.lit 1))),
  .row 38 0 ([.slice 51 0 0 1 1 false]),
  .row 40 0 ([I 16, .slice 54 0 1 1 10 false, .int .i64 (.add (.var 1) (.lit 1))]),
  .cel 42 0 8 (.int .u32 (.wrap .u32 (.add (.var 4) (.lit 1)))),
  .cel 42 0 9 (I 4),
  .row 45 0 ([IZ (-1), .int .i64 (.sub (.var 7) (.lit 1))]),
  .row 45 1 ([I 0, .int .i64 (.sub (.var 8) (.lit 1))])], 764⟩
theorem s41_ok : SO 11 s41 := so f7_ok (by kernel_rfl) (by kernel_rfl)
noncomputable def h88 : H := hUpd h48 414 [] [] [(78, 2, [.str [55]])]
noncomputable def h89 : H := hUpd h88 475 [] [] []
noncomputable def m39 : Memo := ⟨[.slice 78 0 3 3 1 false, .map 135], h88, .tuple [U 17825799, .inil], h89⟩
theorem m39_run : ranTo (evCall (cxX Tryz.prog bad [] [] q0) 1000 60 40 m39.args m39.h) m39.v m39.h' = true := by kernel_rfl
theorem m39_ok {σ : Nat → Int} {W0 : World} (hL : L0 W0) : MemoOk Tryz.prog 412927 σ W0 40 m39 := memo_ok fit (Known2.nil σ) ((q0_ok hL)) m39_run
noncomputable def h90 : H := hUpd h50 680 [] [] [(116, 2, [.str [55]])]
noncomputable def h91 : H := hUpd h90 741 [] [] []
noncomputable def m40 : Memo := ⟨[.slice 116 0 3 3 1 false, .map 135], h90, .tuple [U 17825799, .inil], h91⟩
theorem m40_run : ranTo (evCall (cxX Tryz.prog bad [] [] q0) 1000 60 40 m40.args m40.h) m40.v m40.h' = true := by kernel_rfl
theorem m40_ok {σ : Nat → Int} {W0 : World} (hL : L0 W0) : MemoOk Tryz.prog 412927 σ W0 40 m40 := memo_ok fit (Known2.nil σ) ((q0_ok hL)) m40_run
noncomputable def h92 : H := hUpc h52 74 [] [] [] [(42, 0, 1, U 7)]
noncomputable def s42 : Sym := ⟨[.ptr 32 0, I 0], h92, nm10, rg13,
  [(true, .bop .rem .u32 (.var 3) (.lit 32), .lit 6, true), (false, .var 5, .lit 1, false), (false, .var 4, .lit 1, false), (true, .bop .quo .u32 (.var 3) (.lit 32), .lit 0, true)],
  .agg [I 0, I 2, I 0, U 1, I 3, U 0, IZ (-1), I 0],
  [.cel 32 0 8 (.int .i64 (.add (.var 0) (.lit 1))),
  .row 40 0 ([I 16, .slice 54 0 1 1 10 false, .int .i64 (.add (.var 1) (.lit 1))]),
  .cel 42 0 0 (U 0),
  .cel 42 0 1 (U 0),
  .cel 42 0 2 (U 0),
  .cel 42 0 8 (.int .u32 (.wrap .u32 (.add (.var 3) (.lit 1)))),
  .cel 42 0 71 (I 0),
  .cel 42 0 72 (I 0),
  .row 45 0 ([IZ (-1), .int .i64 (.sub (.var 4) (.lit 1))]),
  .row 45 1 ([I 0, .int .i64 (.sub (.var 5) (.lit 1))]),
  .cel 70 2 7 (.int .u32 (.var 2))], 691⟩
theorem s42_ok : SO 11 s42 := so f14_ok (by kernel_rfl) (by kernel_rfl)
noncomputable def h93 : H := hUpc h53 74 [] [] [] [(70, 2, 2, U 0), (70, 2, 7, .int .u32 (.var 12))]
noncomputable def s43 : Sym := ⟨[.ptr 32 0, I 0], h93, nm10, rg15,
  [(true, .bop .rem .u32 (.var 4) (.lit 32), .lit 7, true), (false, .var 8, .lit 1, false), (false, .var 7, .lit 1, false), (true, .bop .quo .u32 (.var 4) (.lit 32), .lit 0, true), (false, .var 5, .lit 256, true), (false, .lit 14, .var 6, false), (true, .var 6, .lit 2, false), (true, .var 6, .lit 3, false), (true, .var 6, .lit 4, false), (true, .var 6, .lit 5, false), (true, .var 6, .lit 6, false), (true, .var 6, .lit 7, false), (true, .var 6, .lit 8, false), (true, .var 6, .lit 9, false), (true, .var 6, .lit 10, false), (true, .var 6, .lit 1, false)],
  .agg [I 0, I 1, I 0, U 0, I 0, U 0, IZ (-1), I 0],
  [.cel 32 0 8 (.int .i64 (.add (.var 0) (.lit 1))),
  .row 40 0 ([I 16, .slice 54 0 1 1 10 false, .int .i64 (.add (.var 1) (.lit 1))]),
  .cel 42 0 0 (U 0),
  .cel 42 0 8 (.int .u32 (.wrap .u32 (.add (.var 4) (.lit 1)))),
  .row 45 0 ([IZ (-1), .int .i64 (.sub (.var 7) (.lit 1))]),
  .row 45 1 ([I 0, .int .i64 (.sub (.var 8) (.lit 1))])], 774⟩
theorem s43_ok : SO 11 s43 := so f7_ok (by kernel_rfl) (by kernel_rfl)
noncomputable def s44 : Sym := ⟨[.ptr 32 0, I 0], h93, nm10, rg15,
  [(true, .bop .rem .u32 (.var 4) (.lit 32), .lit 8, true), fs 11 1, (true, .bop .and .i64 (.bop .shr .i64 (.var 11) (.lit 20)) (.lit 15), .lit 1, true), (false, .var 8, .lit 1, false), (false, .var 7, .lit 1, false), (true, .bop .quo .u32 (.var 4) (.lit 32), .lit 0, true), fa 11 16, fa 11 12, (false, .var 5, .lit 256, true), (false, .lit 14, .var 6, false), (true, .var 6, .lit 2, false), (true, .var 6, .lit 3, false), (true, .var 6, .lit 4, false), (true, .var 6, .lit 5, false), (true, .var 6, .lit 6, false), (true, .var 6, .lit 7, false), (true, .var 6, .lit 8, false), (true, .var 6, .lit 9, false), (true, .var 6, .lit 10, false), (true, .var 6, .lit 1, false)],
  .agg [I 0, I 1, I 0, U 0, I 0, U 0, IZ (-1), I 0],
  [.cel 32 0 8 (.int .i64 (.add (.var 0) (.lit 1))),
  .row 40 0 ([I 16, .slice 54 0 1 1 10 false, .int .i64 (.add (.var 1) (.lit 1))]),
  .cel 42 0 1 (.int .u32 (.bop .and .i64 (.var 11) (.lit 4095))),
  .cel 42 0 8 (.int .u32 (.wrap .u32 (.add (.var 4) (.lit 1)))),
  .row 45 0 ([IZ (-1), .int .i64 (.sub (.var 7) (.lit 1))]),
  .row 45 1 ([I 0, .int .i64 (.sub (.var 8) (.lit 1))])], 774⟩
theorem s44_ok : SO 11 s44 := so f7_ok (by kernel_rfl) (by kernel_rfl)
noncomputable def h94 : H := hUpc h54 74 [] [] [] [(70, 2, 2, U 0), (70, 2, 7, .int .u32 (.var 8)), (42, 0, 1, U 7)]
noncomputable def s45 : Sym := ⟨[.ptr 32 0, I 0], h94, nm10, rg16,
  [(true, .bop .rem .u32 (.var 2) (.lit 32), .lit 9, true), (false, .var 4, .lit 1, false), (false, .var 3, .lit 1, false), (true, .bop .quo .u32 (.var 2) (.lit 32), .lit 0, true)],
  .agg [I 0, I 2, I 0, U 0, I 3, U 0, IZ (-1), I 0],
  [.cel 32 0 8 (.int .i64 (.add (.var 0) (.lit 1))),
  .row 40 0 ([I 16, .slice 54 0 1 1 10 false, .int .i64 (.add (.var 1) (.lit 1))]),
  .cel 42 0 1 (.int .u32 (.var 8)),
  .cel 42 0 8 (.int .u32 (.wrap .u32 (.add (.var 2) (.lit 1)))),
  .row 45 0 ([IZ (-1), .int .i64 (.sub (.var 3) (.lit 1))]),
  .row 45 1 ([I 0, .int .i64 (.sub (.var 4) (.lit 1))])], 643⟩
theorem s45_ok : SO 11 s45 := so f14_ok (by kernel_rfl) (by kernel_rfl)
noncomputable def h95 : H := hUpc h55 74 [] [] [] [(70, 2, 2, U 0), (70, 2, 7, .int .u32 (.var 12))]
noncomputable def s46 : Sym := ⟨[.ptr 32 0, I 0], h95, nm17, rg15,
  [(true, .bop .rem .u32 (.var 4) (.lit 32), .lit 10, true), (false, .var 8, .lit 1, false), (false, .var 7, .lit 1, false), (true, .bop .quo .u32 (.var 4) (.lit 32), .lit 0, true), (false, .var 5, .lit 256, true), (false, .lit 14, .var 6, false), (true, .var 6, .lit 2, false), (true, .var 6, .lit 3, false), (true, .var 6, .lit 4, false), (true, .var 6, .lit 5, false), (true, .var 6, .lit 6, false), (true, .var 6, .lit 7, false), (true, .var 6, .lit 8, false), (true, .var 6, .lit 9, false), (true, .var 6, .lit 10, false), (true, .var 6, .lit 1, false)],
  .agg [I 0, I 4, I 0, U 0, I 0, U 0, IZ (-1), I 0],
  [.cel 32 0 8 (.int .i64 (.add (.var 0) (.lit 1))),
  .row 38 0 ([.slice 51 0 0 1 1 false]),
  .row 40 0 ([I 16, .slice 54 0 1 1 10 false, .int .i64 (.add (.var 1) (.lit 1))]),
  .cel 42 0 8 (.int .u32 (.wrap .u32 (.add (.var 4) (.lit 1)))),
  .cel 42 0 9 (I 4),
  .row 45 0 ([IZ (-1), .int .i64 (.sub (.var 7) (.lit 1))]),
  .row 45 1 ([I 0, .int .i64 (.sub (.var 8) (.lit 1))])], 764⟩
theorem s46_ok : SO 11 s46 := so f7_ok (by kernel_rfl) (by kernel_rfl)
noncomputable def h96 : H := hUpd h56 414 [] [] [(78, 2, [.str [56]])]
noncomputable def h97 : H := hUpd h96 475 [] [] []
noncomputable def m41 : Memo := ⟨[.slice 78 0 3 3 1 false, .map 135], h96, .tuple [U 17825800, .inil], h97⟩
theorem m41_run : ranTo (evCall (cxX Tryz.prog bad [] [] q0) 1000 60 40 m41.args m41.h) m41.v m41.h' = true := by kernel_rfl
theorem m41_ok {σ : Nat → Int} {W0 : World} (hL : L0 W0) : MemoOk Tryz.prog 412927 σ W0 40 m41 := memo_ok fit (Known2.nil σ) ((q0_ok hL)) m41_run
noncomputable def h98 : H := hUpd h58 680 [] [] [(116, 2, [.str [56]])]
noncomputable def h99 : H := hUpd h98 741 [] [] []
noncomputable def m42 : Memo := ⟨[.slice 116 0 3 3 1 false, .map 135], h98, .tuple [U 17825800, .inil], h99⟩
theorem m42_run : ranTo (evCall (cxX Tryz.prog bad [] [] q0) 1000 60 40 m42.args m42.h) m42.v m42.h' = true := by kernel_rfl
theorem m42_ok {σ : Nat → Int} {W0 : World} (hL : L0 W0) : MemoOk Tryz.prog 412927 σ W0 40 m42 := memo_ok fit (Known2.nil σ) ((q0_ok hL)) m42_run
noncomputable def h100 : H := hUpc h60 74 [] [] [] [(42, 0, 1, U 8)]
noncomputable def s47 : Sym := ⟨[.ptr 32 0, I 0], h100, nm10, rg13,
  [(true, .bop .rem .u32 (.var 3) (.lit 32), .lit 6, true), (false, .var 5, .lit 1, false), (false, .var 4, .lit 1, false), (true, .bop .quo .u32 (.var 3) (.lit 32), .lit 0, true)],
  .agg [I 0, I 2, I 0, U 1, I 3, U 0, IZ (-1), I 0],
  [.cel 32 0 8 (.int .i64 (.add (.var 0) (.lit 1))),
  .row 40 0 ([I 16, .slice 54 0 1 1 10 false, .int .i64 (.add (.var 1) (.lit 1))]),
  .cel 42 0 0 (U 0),
  .cel 42 0 1 (U 0),
  .cel 42 0 2 (U 0),
  .cel 42 0 8 (.int .u32 (.wrap .u32 (.add (.var 3) (.lit 1)))),
  .cel 42 0 71 (I 0),
  .cel 42 0 72 (I 0),
  .row 45 0 ([IZ (-1), .int .i64 (.sub (.var 4) (.lit 1))]),
  .row 45 1 ([I 0, .int .i64 (.sub (.var 5) (.lit 1))]),
  .cel 70 2 8 (.int .u32 (.var 2))], 691⟩
theorem s47_ok : SO 11 s47 := so f14_ok (by kernel_rfl) (by kernel_rfl)
noncomputable def h101 : H := hUpc h61 74 [] [] [] [(70, 2, 3, U 0), (70, 2, 8, .int .u32 (.var 12))]
noncomputable def s48 : Sym := ⟨[.ptr 32 0, I 0], h101, nm10, rg15,
  [(true, .bop .rem .u32 (.var 4) (.lit 32), .lit 7, true), (false, .var 8, .lit 1, false), (false, .var 7, .lit 1, false), (true, .bop .quo .u32 (.var 4) (.lit 32), .lit 0, true), (false, .var 5, .lit 256, true), (false, .lit 14, .var 6, false), (true, .var 6, .lit 2, false), (true, .var 6, .lit 3, false), (true, .var 6, .lit 4, false), (true, .var 6, .lit 5, false), (true, .var 6, .lit 6, false), (true, .var 6, .lit 7, false), (true, .var 6, .lit 8, false), (true, .var 6, .lit 9, false), (true, .var 6, .lit 10, false), (true, .var 6, .lit 1, false)],
  .agg [I 0, I 1, I 0, U 0, I 0, U 0, IZ (-1), I 0],
  [.cel 32 0 8 (.int .i64 (.add (.var 0) (.lit 1))),
  .row 40 0 ([I 16, .slice 54 0 1 1 10 false, .int .i64 (.add (.var 1) (.lit 1))]),
  .cel 42 0 0 (U 0),
  .cel 42 0 8 (.int .u32 (.wrap .u32 (.add (.var 4) (.lit 1)))),
  .row 45 0 ([IZ (-1), .int .i64 (.sub (.var 7) (.lit 1))]),
  .row 45 1 ([I 0, .int .i64 (.sub (.var 8) (.lit 1))])], 774⟩
theorem s48_ok : SO 11 s48 := so f7_ok (by kernel_rfl) (by kernel_rfl)
noncomputable def s49 : Sym := ⟨[.ptr 32 0, I 0], h101, nm10, rg15,
  [(true, .bop .rem .u32 (.var 4) (.lit 32), .lit 8, true), fs 11 1, (true, .bop .and .i64 (.bop .shr .i64 (.var 11) (.lit 20)) (.lit 15), .lit 1, true), (false, .var 8, .lit 1, false), (false, .var 7, .lit 1, false), (true, .bop .quo .u32 (.var 4) (.lit 32), .lit 0, true), fa 11 16, fa 11 12, (false, .var 5, .lit 256, true), (false, .lit 14, .var 6, false), (true, .var 6, .lit 2, false), (true, .var 6, .lit 3, false), (true, .var 6, .lit 4, false), (true, .var 6, .lit 5, false), (true, .var 6, .lit 6, false), (true, .var 6, .lit 7, false), (true, .var 6, .lit 8, false), (true, .var 6, .lit 9, false), (true, .var 6, .lit 10, false), (true, .var 6, .lit 1, false)],
  .agg [I 0, I 1, I 0, U 0, I 0, U 0, IZ (-1), I 0],
  [.cel 32 0 8 (.int .i64 (.add (.var 0) (.lit 1))),
  .row 40 0 ([I 16, .slice 54 0 1 1 10 false, .int .i64 (.add (.var 1) (.lit 1))]),
  .cel 42 0 1 (.int .u32 (.bop .and .i64 (.var 11) (.lit 4095))),
  .cel 42 0 8 (.int .u32 (.wrap .u32 (.add (.var 4) (.lit 1)))),
  .row 45 0 ([IZ (-1), .int .i64 (.sub (.var 7) (.lit 1))]),
  .row 45 1 ([I 0, .int .i64 (.sub (.var 8) (.lit 1))])], 774⟩
theorem s49_ok : SO 11 s49 := so f7_ok (by kernel_rfl) (by kernel_rfl)
noncomputable def h102 : H := hUpc h62 74 [] [] [] [(70, 2, 3, U 0), (70, 2, 8, .int .u32 (.var 8)), (42, 0, 1, U 8)]
noncomputable def s50 : Sym := ⟨[.ptr 32 0, I 0], h102, nm10, rg16,
  [(true, .bop .rem .u32 (.var 2) (.lit 32), .lit 9, true), (false, .var 4, .lit 1, false), (false, .var 3, .lit 1, false), (true, .bop .quo .u32 (.var 2) (.lit 32), .lit 0, true)],
  .agg [I 0, I 2, I 0, U 0, I 3, U 0, IZ (-1), I 0],
  [.cel 32 0 8 (.int .i64 (.add (.var 0) (.lit 1))),
  .row 40 0 ([I 16, .slice 54 0 1 1 10 false, .int .i64 (.add (.var 1) (.lit 1))]),
  .cel 42 0 1 (.int .u32 (.var 8)),
  .cel 42 0 8 (.int .u32 (.wrap .u32 (.add (.var 2) (.lit 1)))),
  .row 45 0 ([IZ (-1), .int .i64 (.sub (.var 3) (.lit 1))]),
  .row 45 1 ([I 0, .int .i64 (.sub (.var 4) (.lit 1))])], 643⟩
theorem s50_ok : SO 11 s50 := so f14_ok (by kernel_rfl) (by kernel_rfl)
noncomputable def h103 : H := hUpc h63 74 [] [] [] [(70, 2, 3, U 0), (70, 2, 8, .int .u32 (.var 12))]
noncomputable def s51 : Sym := ⟨[.ptr 32 0, I 0], h103, nm17, rg15,
  [(true, .bop .rem .u32 (.var 4) (.lit 32), .lit 10, true), (false, .var 8, .lit 1, false), (false, .var 7, .lit 1, false), (true, .bop .quo .u32 (.var 4) (.lit 32), .lit 0, true), (false, .var 5, .lit 256, true), (false, .lit 14, .var 6, false), (true, .var 6, .lit 2, false), (true, .var 6, .lit 3, false), (true, .var 6, .lit 4, false), (true, .var 6, .lit 5, false), (true, .var 6, .lit 6, false), (true, .var 6, .lit 7, false), (true, .var 6, .lit 8, false), (true, .var 6, .lit 9, false), (true, .var 6, .lit 10, false), (true, .var 6, .lit 1, false)],
  .agg [I 0, I 4, I 0, U 0, I 0, U 0, IZ (-1), I 0],
  [.cel 32 0 8 (.int .i64 (.add (.var 0) (.lit 1))),
  .row 38 0 ([.slice 51 0 0 1 1 false]),
  .row 40 0 ([I 16, .slice 54 0 1 1 10 false, .int .i64 (.add (.var 1) (.lit 1))]),
  .cel 42 0 8 (.int .u32 (.wrap .u32 (.add (.var 4) (.lit 1)))),
  .cel 42 0 9 (I 4),
  .row 45 0 ([IZ (-1), .int .i64 (.sub (.var 7) (.lit 1))]),
  .row 45 1 ([I 0, .int .i64 (.sub (.var 8) (.lit 1))])], 764⟩
theorem s51_ok : SO 11 s51 := so f7_ok (by kernel_rfl) (by kernel_rfl)
noncomputable def h104 : H := hUpd h64 414 [] [] [(78, 2, [.str [57]])]
noncomputable def h105 : H := hUpd h104 475 [] [] []
noncomputable def m43 : Memo := ⟨[.slice 78 0 3 3 1 false, .map 135], h104, .tuple [U 17825801, .inil], h105⟩
theorem m43_run : ranTo (evCall (cxX Tryz.prog bad [] [] q0) 1000 60 40 m43.args m43.h) m43.v m43.h' = true := by kernel_rfl
theorem m43_ok {σ : Nat → Int} {W0 : World} (hL : L0 W0) : MemoOk Tryz.prog 412927 σ W0 40 m43 := memo_ok fit (Known2.nil σ) ((q0_ok hL)) m43_run
noncomputable def h106 : H := hUpd h66 680 [] [] [(116, 2, [.str [57]])]
noncomputable def h107 : H := hUpd h106 741 [] [] []
noncomputable def m44 : Memo := ⟨[.slice 116 0 3 3 1 false, .map 135], h106, .tuple [U 17825801, .inil], h107⟩
theorem m44_run : ranTo (evCall (cxX Tryz.prog bad [] [] q0) 1000 60 40 m44.args m44.h) m44.v m44.h' = true := by kernel_rfl
theorem m44_ok {σ : Nat → Int} {W0 : World} (hL : L0 W0) : MemoOk Tryz.prog 412927 σ W0 40 m44 := memo_ok fit (Known2.nil σ) ((q0_ok hL)) m44_run
noncomputable def h108 : H := hUpc h68 74 [] [] [] [(42, 0, 1, U 9)]
noncomputable def s52 : Sym := ⟨[.ptr 32 0, I 0], h108, nm10, rg13,
  [(true, .bop .rem .u32 (.var 3) (.lit 32), .lit 6, true), (false, .var 5, .lit 1, false), (false, .var 4, .lit 1, false), (true, .bop .quo .u32 (.var 3) (.lit 32), .lit 0, true)],
  .agg [I 0, I 2, I 0, U 1, I 3, U 0, IZ (-1), I 0],
  [.cel 32 0 8 (.int .i64 (.add (.var 0) (.lit 1))),
  .row 40 0 ([I 16, .slice 54 0 1 1 10 false, .int .i64 (.add (.var 1) (.lit 1))]),
  .cel 42 0 0 (U 0),
  .cel 42 0 1 (U 0),
  .cel 42 0 2 (U 0),
  .cel 42 0 8 (.int .u32 (.wrap .u32 (.add (.var 3) (.lit 1)))),
  .cel 42 0 71 (I 0),
  .cel 42 0 72 (I 0),
  .row 45 0 ([IZ (-1), .int .i64 (.sub (.var 4) (.lit 1))]),
  .row 45 1 ([I 0, .int .i64 (.sub (.var 5) (.lit 1))]),
  .cel 70 2 9 (.int .u32 (.var 2))], 691⟩
theorem s52_ok : SO 11 s52 := so f14_ok (by kernel_rfl) (by kernel_rfl)
noncomputable def h109 : H := hUpc h69 74 [] [] [] [(70, 2, 4, U 0), (70, 2, 9, .int .u32 (.var 12))]
noncomputable def s53 : Sym := ⟨[.ptr 32 0, I 0], h109, nm10, rg15,
  [(true, .bop .rem .u32 (.var 4) (.lit 32), .lit 7, true), (false, .var 8, .lit 1, false), (false, .var 7, .lit 1, false), (true, .bop .quo .u32 (.var 4) (.lit 32), .lit 0, true), (false, .var 5, .lit 256, true), (false, .lit 14, .var 6, false), (true, .var 6, .lit 2, false), (true, .var 6, .lit 3, false), (true, .var 6, .lit 4, false), (true, .var 6, .lit 5, false), (true, .var 6, .lit 6, false), (true, .var 6, .lit 7, false), (true, .var 6, .lit 8, false), (true, .var 6, .lit 9, false), (true, .var 6, .lit 10, false), (true, .var 6, .lit 1, false)],
  .agg [I 0, I 1, I 0, U 0, I 0, U 0, IZ (-1), I 0],
  [.cel 32 0 8 (.int .i64 (.add (.var 0) (.lit 1))),
  .row 40 0 ([I 16, .slice 54 0 1 1 10 false, .int .i64 (.add (.var 1) (.lit 1))]),
  .cel 42 0 0 (U 0),
  .cel 42 0 8 (.int .u32 (.wrap .u32 (.add (.var 4) (.lit 1)))),
  .row 45 0 ([IZ (-1), .int .i64 (.sub (.var 7) (.lit 1))]),
  .row 45 1 ([I 0, .int .i64 (.sub (.var 8) (.lit 1))])], 774⟩
theorem s53_ok : SO 11 s53 := so f7_ok (by kernel_rfl) (by kernel_rfl)
noncomputable def s54 : Sym := ⟨[.ptr 32 0, I 0], h109, nm10, rg15,
  [(true, .bop .rem .u32 (.var 4) (.lit 32), .lit 8, true), fs 11 1, (true, .bop .and .i64 (.bop .shr .i64 (.var 11) (.lit 20)) (.lit 15), .lit 1, true), (false, .var 8, .lit 1, false), (false, .var 7, .lit 1, false), (true, .bop .quo .u32 (.var 4) (.lit 32), .lit 0, true), fa 11 16, fa 11 12, (false, .var 5, .lit 256, true), (false, .lit 14, .var 6, false), (true, .var 6, .lit 2, false), (true, .var 6, .lit 3, false), (true, .var 6, .lit 4, false), (true, .var 6, .lit 5, false), (true, .var 6, .lit 6, false), (true, .var 6, .lit 7, false), (true, .var 6, .lit 8, false), (true, .var 6, .lit 9, false), (true, .var 6, .lit 10, false), (true, .var 6, .lit 1, false)],
  .agg [I 0, I 1, I 0, U 0, I 0, U 0, IZ (-1), I 0],
  [.cel 32 0 8 (.int .i64 (.add (.var 0) (.lit 1))),
  .row 40 0 ([I 16, .slice 54 0 1 1 10 false, .int .i64 (.add (.var 1) (.lit 1))]),
  .cel 42 0 1 (.int .u32 (.bop .and .i64 (.var 11) (.lit 4095))),
  .cel 42 0 8 (.int .u32 (.wrap .u32 (.add (.var 4) (.lit 1)))),
  .row 45 0 ([IZ (-1), .int .i64 (.sub (.var 7) (.lit 1))]),
  .row 45 1 ([I 0, .int .i64 (.sub (.var 8) (.lit 1))])], 774⟩
theorem s54_ok : SO 11 s54 := so f7_ok (by kernel_rfl) (by kernel_rfl)
end Go.Proofs.YtphhnhheedbjjaaGreatDoor.worldAsks
