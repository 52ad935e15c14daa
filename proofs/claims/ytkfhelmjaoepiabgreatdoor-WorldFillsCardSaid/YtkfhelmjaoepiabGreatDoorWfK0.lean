/- worldFills: calls that are run once, and the runs of the cases (part 0). -/
import Derived.Test.YtkfhelmjaoepiabGreatDoorEvWfF
set_option linter.unusedVariables false
set_option maxRecDepth 10000000
namespace Go.Proofs.YtkfhelmjaoepiabGreatDoor.worldFills
open Tk
open Go.RowKit
noncomputable def h0 : H := sentH 453 20 errTab
noncomputable def q0 : Fns := [(295, isFn 453), (122, atoiFullFn 384), (123, itoaFullFn), (195, joinFn), (307, countFn), (352, indexFn), (308, cutOf Tryz.prog 26623 bad [(307, countFn), (352, indexFn)] 1000 20 308)]
theorem q0_ok {σ : Nat → Int} {W0 : World} (hL : L0 W0) : FnsOk Tryz.prog 26623 σ W0 q0 := FnsOk.cons (ext_is hL) (FnsOk.cons (ext_atoi hL) (FnsOk.cons (ext_itoa hL) (FnsOk.cons (ext_join hL) (FnsOk.cons (ext_count hL) (FnsOk.cons (ext_index hL) (FnsOk.cons (ext_cut308 hL) (FnsOk.nil)))))))
noncomputable def p0 : Pur := ([], bT, 1048576)
theorem p0_run : ranPure (evCall (cxX Tryz.prog bad [] [] q0) 1000 60 7 p0.1 ⟨.lf, p0.2.2⟩) p0.2.1 = true := by kernel_rfl
theorem p0_ok {σ : Nat → Int} {W0 : World} (hL : L0 W0) : PureOk Tryz.prog 26623 σ W0 7 p0 := pure_ok fit (Known2.nil σ) ((q0_ok hL)) p0_run
noncomputable def h1 : H := hUpd h0 55 [] [(42, .cells 1 ([[.str [121, 105, 101, 108, 100]]]) false),
  (52, .map [(.str [97, 103, 97, 105, 110], I 0, 0)] 1)] []
noncomputable def h2 : H := hUpd h1 104 [] [] []
noncomputable def m1 : Memo := ⟨[.slice 42 0 1 1 1 false, .map 52], h1, .tuple [U 201326592, .inil], h2⟩
theorem m1_run : ranTo (evCall (cxX Tryz.prog bad [] [] q0) 1000 60 84 m1.args m1.h) m1.v m1.h' = true := by kernel_rfl
theorem m1_ok {σ : Nat → Int} {W0 : World} (hL : L0 W0) : MemoOk Tryz.prog 26623 σ W0 84 m1 := memo_ok fit (Known2.nil σ) ((q0_ok hL)) m1_run
noncomputable def h3 : H := hUpd h1 106 [42] [(49, .cells 1 ([[.str [106, 109, 112]], [.str [97, 103, 97, 105, 110]]]) false)] []
noncomputable def h4 : H := hUpd h3 156 [] [] []
noncomputable def m2 : Memo := ⟨[.slice 49 0 2 2 1 false, .map 52], h3, .tuple [U 67108864, .inil], h4⟩
theorem m2_run : ranTo (evCall (cxX Tryz.prog bad [] [] q0) 1000 60 84 m2.args m2.h) m2.v m2.h' = true := by kernel_rfl
theorem m2_ok {σ : Nat → Int} {W0 : World} (hL : L0 W0) : MemoOk Tryz.prog 26623 σ W0 84 m2 := memo_ok fit (Known2.nil σ) ((q0_ok hL)) m2_run
noncomputable def h5 : H := hUpd h0 34 [] [(33, .cells 1 ([[.str [97, 103, 97, 105, 110, 58]], [.str [121, 105, 101, 108, 100]], [.str [106, 109, 112, 32, 97, 103, 97, 105, 110]]]) false)] []
noncomputable def h6 : H := hUpd h5 158 [] [(157, .cells 1 ([[U 201326592], [U 67108864]]) false)] []
noncomputable def m3 : Memo := ⟨[bT, I 1, .snil, .slice 33 0 3 3 1 true], h5, .agg [.slice 157 0 2 2 1 false, I 1, .snil, bT], h6⟩
theorem m3_run : ranTo (evCall (cxX Tryz.prog bad [] [] ((84, frameFn [m1, m2]) :: q0)) 1000 60 9 m3.args m3.h) m3.v m3.h' = true := by kernel_rfl
theorem m3_ok {σ : Nat → Int} {W0 : World} (hL : L0 W0) : MemoOk Tryz.prog 26623 σ W0 9 m3 := memo_ok fit (Known2.nil σ) (FnsOk.cons (frame_fn_ok (all_cons (m1_ok hL) (all_cons (m2_ok hL) (all_nil)))) ((q0_ok hL))) m3_run
noncomputable def p4 : Pur := ([.agg [I 3, I 0, I 0, I 0, U 0]], .inil, 1048576)
theorem p4_run : ranPure (evCall (cxX Tryz.prog bad [] [] q0) 1000 60 44 p4.1 ⟨.lf, p4.2.2⟩) p4.2.1 = true := by kernel_rfl
theorem p4_ok {σ : Nat → Int} {W0 : World} (hL : L0 W0) : PureOk Tryz.prog 26623 σ W0 44 p4 := pure_ok fit (Known2.nil σ) ((q0_ok hL)) p4_run
noncomputable def p5 : Pur := ([.agg [I 3, I 1, I 0, I 0, U 0]], .inil, 1048576)
theorem p5_run : ranPure (evCall (cxX Tryz.prog bad [] [] q0) 1000 60 44 p5.1 ⟨.lf, p5.2.2⟩) p5.2.1 = true := by kernel_rfl
theorem p5_ok {σ : Nat → Int} {W0 : World} (hL : L0 W0) : PureOk Tryz.prog 26623 σ W0 44 p5 := pure_ok fit (Known2.nil σ) ((q0_ok hL)) p5_run
noncomputable def p6 : Pur := ([.agg [I 0, I 0, I 0, I 0, U 0]], .inil, 1048576)
theorem p6_run : ranPure (evCall (cxX Tryz.prog bad [] [] q0) 1000 60 44 p6.1 ⟨.lf, p6.2.2⟩) p6.2.1 = true := by kernel_rfl
theorem p6_ok {σ : Nat → Int} {W0 : World} (hL : L0 W0) : PureOk Tryz.prog 26623 σ W0 44 p6 := pure_ok fit (Known2.nil σ) ((q0_ok hL)) p6_run
noncomputable def p7 : Pur := ([.agg [I 2, I 0, I 0, I 0, U 1]], .inil, 1048576)
theorem p7_run : ranPure (evCall (cxX Tryz.prog bad [] [] q0) 1000 60 44 p7.1 ⟨.lf, p7.2.2⟩) p7.2.1 = true := by kernel_rfl
theorem p7_ok {σ : Nat → Int} {W0 : World} (hL : L0 W0) : PureOk Tryz.prog 26623 σ W0 44 p7 := pure_ok fit (Known2.nil σ) ((q0_ok hL)) p7_run
noncomputable def p8 : Pur := ([.agg [I 8, I 0, I 0, I 0, U 0]], .inil, 1048576)
theorem p8_run : ranPure (evCall (cxX Tryz.prog bad [] [] q0) 1000 60 44 p8.1 ⟨.lf, p8.2.2⟩) p8.2.1 = true := by kernel_rfl
theorem p8_ok {σ : Nat → Int} {W0 : World} (hL : L0 W0) : PureOk Tryz.prog 26623 σ W0 44 p8 := pure_ok fit (Known2.nil σ) ((q0_ok hL)) p8_run
noncomputable def p9 : Pur := ([.agg [I 7, I 1, I 0, I 0, U 0]], .inil, 1048576)
theorem p9_run : ranPure (evCall (cxX Tryz.prog bad [] [] q0) 1000 60 44 p9.1 ⟨.lf, p9.2.2⟩) p9.2.1 = true := by kernel_rfl
theorem p9_ok {σ : Nat → Int} {W0 : World} (hL : L0 W0) : PureOk Tryz.prog 26623 σ W0 44 p9 := pure_ok fit (Known2.nil σ) ((q0_ok hL)) p9_run
noncomputable def p10 : Pur := ([.agg [I 11, I 0, I 0, I 0, U 0]], .inil, 1048576)
theorem p10_run : ranPure (evCall (cxX Tryz.prog bad [] [] q0) 1000 60 44 p10.1 ⟨.lf, p10.2.2⟩) p10.2.1 = true := by kernel_rfl
theorem p10_ok {σ : Nat → Int} {W0 : World} (hL : L0 W0) : PureOk Tryz.prog 26623 σ W0 44 p10 := pure_ok fit (Known2.nil σ) ((q0_ok hL)) p10_run
noncomputable def p11 : Pur := ([.agg [I 12, I 0, I 0, I 0, U 0]], .inil, 1048576)
theorem p11_run : ranPure (evCall (cxX Tryz.prog bad [] [] q0) 1000 60 44 p11.1 ⟨.lf, p11.2.2⟩) p11.2.1 = true := by kernel_rfl
theorem p11_ok {σ : Nat → Int} {W0 : World} (hL : L0 W0) : PureOk Tryz.prog 26623 σ W0 44 p11 := pure_ok fit (Known2.nil σ) ((q0_ok hL)) p11_run
noncomputable def p12 : Pur := ([.agg [I 13, I 0, I 0, I 0, U 0]], .inil, 1048576)
theorem p12_run : ranPure (evCall (cxX Tryz.prog bad [] [] q0) 1000 60 44 p12.1 ⟨.lf, p12.2.2⟩) p12.2.1 = true := by kernel_rfl
theorem p12_ok {σ : Nat → Int} {W0 : World} (hL : L0 W0) : PureOk Tryz.prog 26623 σ W0 44 p12 := pure_ok fit (Known2.nil σ) ((q0_ok hL)) p12_run
noncomputable def p13 : Pur := ([.agg [I 14, I 0, I 0, I 0, U 0]], .inil, 1048576)
theorem p13_run : ranPure (evCall (cxX Tryz.prog bad [] [] q0) 1000 60 44 p13.1 ⟨.lf, p13.2.2⟩) p13.2.1 = true := by kernel_rfl
theorem p13_ok {σ : Nat → Int} {W0 : World} (hL : L0 W0) : PureOk Tryz.prog 26623 σ W0 44 p13 := pure_ok fit (Known2.nil σ) ((q0_ok hL)) p13_run
noncomputable def h7 : H := hUpd h6 258 [33] [(222, .cells 1 ([[.slice 221 0 6 6 3 true]]) false),
  (174, .cells 1 ([[.slice 173 0 16 16 3 true]]) false),
  (206, .cells 1 ([[.snil]]) false),
  (182, .cells 3 ([[I 16, .snil, I 0]]) false),
  (214, .cells 2 ([IZ (-1), I 2147483647] :: rp 11 ([I 0, I 0]) ([])) false),
  (186, .cells 107 (rp 8 (rp 9 (U 0) (rp 6 (I 0) ((U 0) :: rp 4 (I 0) ((U 0) :: rp 4 (I 0) ((U 0) :: rp 4 (I 0) ((U 0) :: rp 4 (I 0) ((U 0) :: rp 4 (I 0) ((U 0) :: rp 4 (I 0) ((U 0) :: rp 4 (I 0) ((U 0) :: rp 4 (I 0) ((U 0) :: rp 4 (I 0) ((U 0) :: rp 4 (I 0) ((U 0) :: rp 4 (I 0) ((U 0) :: rp 4 (I 0) ((U 0) :: rp 4 (I 0) ((U 0) :: rp 4 (I 0) ((U 0) :: rp 4 (I 0) ((U 0) :: rp 4 (I 0) ((U 0) :: rp 4 (I 0) ((U 0) :: rp 4 (I 0) ([U 0, I 0]))))))))))))))))))))) ([])) false),
  (218, .cells 3 ([IZ (-1), I 60, I 0] :: rp 7 ([I 0, I 0, I 0]) ([])) false),
  (178, .cells 1 ([[.slice 177 0 24 24 3 true]]) false),
  (226, .cells 9 ([[.ptr 183 0, .ptr 187 0, .ptr 215 0, .ptr 220 0, .ptr 224 0, .ptr 225 0, .snil, .snil, I 0]]) false),
  (194, .cells 1 ([[.snil]]) false),
  (188, .cells 1 ([[.snil]]) false),
  (220, .cells 5 ([[.ptr 217 0, .slice 218 0 8 8 3 true, .map 219, .ptr 183 0, .ptr 187 0]]) false),
  (180, .cells 2 ([[.ptr 178 0, .slice 179 0 24 24 32 true]]) false),
  (212, .cells 3 ([bT, I 0, bF] :: rp 11 ([bF, I 0, bF]) ([])) false),
  (184, .cells 3 (rp 8 ([bF, I 0, bF]) ([])) false),
  (216, .cells 3 ([bT, I 0, bF] :: rp 7 ([bF, I 0, bF]) ([])) false),
  (200, .cells 1 ([[.snil]]) false),
  (176, .cells 2 ([[.ptr 174 0, .slice 175 0 16 16 80 true]]) false),
  (224, .cells 2 ([[.ptr 222 0, .slice 223 0 6 6 31 true]]) false),
  (221, .cells 3 (rp 6 ([bF, I 0, bF]) ([])) false),
  (173, .cells 3 (rp 16 ([bF, I 0, bF]) ([])) false),
  (181, .cells 2 ([[.ptr 176 0, .ptr 180 0]]) false),
  (213, .cells 1 ([[.slice 212 0 12 12 3 true]]) false),
  (197, .cells 1 ([[.snil]]) false),
  (185, .cells 1 ([[.slice 184 0 8 8 3 true]]) false),
  (217, .cells 1 ([[.slice 216 0 8 8 3 true]]) false),
  (177, .cells 3 (rp 24 ([bF, I 0, bF]) ([])) false),
  (209, .cells 1 ([[.snil]]) false),
  (225, .cells 1 ([[.snil]]) false),
  (187, .cells 3 ([[.ptr 185 0, .slice 186 0 8 8 107 true, .slice 211 0 8 8 1 false]]) false),
  (219, .map [] 0),
  (203, .cells 1 ([[.snil]]) false),
  (179, .cells 32 (rp 24 (rp 32 (U 0) ([])) ([])) false),
  (211, .cells 1 ([[.ptr 188 0], [.ptr 191 0], [.ptr 194 0], [.ptr 197 0], [.ptr 200 0], [.ptr 203 0], [.ptr 206 0], [.ptr 209 0]]) false),
  (183, .cells 3 ([[.ptr 181 0, I 16, .ptr 182 0]]) false),
  (215, .cells 2 ([[.ptr 213 0, .slice 214 0 12 12 2 true]]) false),
  (175, .cells 80 (rp 16 (rp 4 (I 0) ((U 0) :: rp 4 (I 0) ((U 0) :: rp 4 (I 0) ((U 0) :: rp 4 (I 0) ((U 0) :: rp 4 (I 0) ((U 0) :: rp 4 (I 0) ((U 0) :: rp 4 (I 0) ((U 0) :: rp 4 (I 0) ((U 0) :: rp 4 (I 0) ((U 0) :: rp 4 (I 0) ((U 0) :: rp 4 (I 0) ((U 0) :: rp 4 (I 0) ((U 0) :: rp 4 (I 0) ((U 0) :: rp 4 (I 0) ((U 0) :: rp 4 (I 0) ((U 0) :: rp 4 (I 0) ([U 0]))))))))))))))))) ([])) false),
  (223, .cells 31 (rp 6 ((bF) :: rp 4 (I 0) ((U 0) :: rp 4 (I 0) ((U 0) :: rp 4 (I 0) ((U 0) :: rp 4 (I 0) ((U 0) :: rp 4 (I 0) ((U 0) :: rp 4 (I 0) ([U 0]))))))) ([])) false),
  (191, .cells 1 ([[.snil]]) false)] []
noncomputable def h8 : H := hUpc h7 733 [] [(219, .map [(.agg [I 3, I 0], .agg [I 0, I 0], 0), (.agg [I 3, I 1], .agg [I 0, I 0], 1), (.agg [I 2, I 0], .agg [I 0, I 0], 2), (.agg [I 4, I 0], .agg [I 0, I 0], 3)] 4)] [(214, 1, [I 0, I 1]),
  (218, 0, [IZ (-1), I 60, I 4]),
  (212, 1, [bT, I 0, bF]),
  (184, 0, [bT, I 0, bF]),
  (173, 0, [bT, I 0, bF]),
  (177, 0, [bT, I 0, bF]),
  (177, 1, [bT, I 0, bF])] [(186, 0, 9, I 1), (186, 0, 11, I 8), (186, 0, 16, I 7), (186, 0, 17, I 1), (186, 0, 21, I 11), (186, 0, 26, I 12), (186, 0, 31, I 13), (186, 0, 36, I 14), (186, 0, 91, I 2), (186, 0, 95, U 1), (186, 0, 96, I 7), (186, 0, 97, I 1), (179, 0, 0, U 201326592), (179, 0, 1, U 67108864), (175, 0, 0, I 3), (175, 0, 5, I 3), (175, 0, 6, I 1)]
noncomputable def m14 : Memo := ⟨[.ptr 226 0, .agg [.slice 157 0 2 2 1 false, I 1, .snil, bT]], h7, .tuple [I 0, .inil], h8⟩
noncomputable def l0 : List (Pur) := p13 :: p12 :: p11 :: p10 :: p9 :: p8 :: p7 :: p6 :: p5 :: p4 :: []
theorem l0_ok {σ : Nat → Int} {W0 : World} (hL : L0 W0) : ∀ x ∈ l0, PureOk Tryz.prog 26623 σ W0 44 x := all_cons (p13_ok hL) (all_cons (p12_ok hL) (all_cons (p11_ok hL) (all_cons (p10_ok hL) (all_cons (p9_ok hL) (all_cons (p8_ok hL) (all_cons (p7_ok hL) (all_cons (p6_ok hL) (all_cons (p5_ok hL) (all_cons (p4_ok hL) (all_nil))))))))))
theorem m14_run : ranTo (evCall (cxX Tryz.prog bad [] [] ((44, pureFn l0) :: q0)) 1000 60 88 m14.args m14.h) m14.v m14.h' = true := by kernel_rfl
theorem m14_ok {σ : Nat → Int} {W0 : World} (hL : L0 W0) : MemoOk Tryz.prog 26623 σ W0 88 m14 := memo_ok fit (Known2.nil σ) (FnsOk.cons (pure_fn_ok (l0_ok hL)) ((q0_ok hL))) m14_run
noncomputable def h9 : H := hUpd h6 170 [33] [(161, .cells 4 ([[.slice 157 0 2 2 1 false, I 1, .snil, bT]]) false)] []
noncomputable def h10 : H := hUpc h8 888 [] [(886, .cells 1 ([[I 0]]) false),
  (161, .cells 4 ([[.slice 157 0 2 2 1 false, I 1, .snil, bT]]) false),
  (887, .cells 2 ([[.ptr 226 0, .snil]]) false)] [(225, 0, [.slice 886 0 1 1 1 false])] [(186, 0, 9, I 3)]
noncomputable def m15 : Memo := ⟨[.agg [I 16, I 24, I 8, I 12, I 8, I 6, I 60, .slice 161 0 1 1 4 true]], h9, .tuple [.ptr 887 0, .inil], h10⟩
noncomputable def l1 : List (Pur) := p7 :: p6 :: p13 :: p12 :: p11 :: p10 :: p9 :: p8 :: []
theorem l1_ok {σ : Nat → Int} {W0 : World} (hL : L0 W0) : ∀ x ∈ l1, PureOk Tryz.prog 26623 σ W0 44 x := all_cons (p7_ok hL) (all_cons (p6_ok hL) (all_cons (p13_ok hL) (all_cons (p12_ok hL) (all_cons (p11_ok hL) (all_cons (p10_ok hL) (all_cons (p9_ok hL) (all_cons (p8_ok hL) (all_nil))))))))
noncomputable def q1 : Fns := [(88, frameFn [m14]), (295, isFn 453), (122, atoiFullFn 384), (123, itoaFullFn), (195, joinFn), (307, countFn), (352, indexFn), (308, cutOf Tryz.prog 26623 bad [(307, countFn), (352, indexFn)] 1000 20 308)]
theorem q1_ok {σ : Nat → Int} {W0 : World} (hL : L0 W0) : FnsOk Tryz.prog 26623 σ W0 q1 := FnsOk.cons (frame_fn_ok (all_cons (m14_ok hL) (all_nil))) (FnsOk.cons (ext_is hL) (FnsOk.cons (ext_atoi hL) (FnsOk.cons (ext_itoa hL) (FnsOk.cons (ext_join hL) (FnsOk.cons (ext_count hL) (FnsOk.cons (ext_index hL) (FnsOk.cons (ext_cut308 hL) (FnsOk.nil))))))))
theorem m15_run : ranTo (evCall (cxX Tryz.prog bad [] [] ((44, pureFn l1) :: q1)) 1000 60 10 m15.args m15.h) m15.v m15.h' = true := by kernel_rfl
theorem m15_ok {σ : Nat → Int} {W0 : World} (hL : L0 W0) : MemoOk Tryz.prog 26623 σ W0 10 m15 := memo_ok fit (Known2.nil σ) (FnsOk.cons (pure_fn_ok (l1_ok hL)) ((q1_ok hL))) m15_run
noncomputable def h11 : H := hUpd h10 891 [157, 161, 887] [] []
noncomputable def h12 : H := hUpc h11 1196 [] [(1110, .cells 10 ([[I 2, I 0, I 0, I 0, U 1, U 0, .slice 1077 0 1 1 1 false, I 0, I 0, bF]]) false),
  (1077, .cells 1 ([[I 0]]) false)] [(182, 0, [I 16, .slice 1110 0 1 1 10 false, I 0]),
  (214, 0, [IZ (-1), I 2147483646]),
  (214, 1, [I 0, I 0])] [(186, 0, 8, U 1), (226, 0, 8, I 1)]
noncomputable def m16 : Memo := ⟨[.ptr 226 0, I 0], h11, .agg [I 0, I 3, I 0, U 0, I 0, U 0, IZ (-1), I 0], h12⟩
noncomputable def l2 : List (Pur) := p7 :: p6 :: p13 :: p12 :: p11 :: p10 :: p8 :: p9 :: []
theorem l2_ok {σ : Nat → Int} {W0 : World} (hL : L0 W0) : ∀ x ∈ l2, PureOk Tryz.prog 26623 σ W0 44 x := all_cons (p7_ok hL) (all_cons (p6_ok hL) (all_cons (p13_ok hL) (all_cons (p12_ok hL) (all_cons (p11_ok hL) (all_cons (p10_ok hL) (all_cons (p8_ok hL) (all_cons (p9_ok hL) (all_nil))))))))
theorem m16_run : ranTo (evCall (cxX Tryz.prog bad [] [] ((44, pureFn l2) :: q0)) 1000 60 19 m16.args m16.h) m16.v m16.h' = true := by kernel_rfl
theorem m16_ok {σ : Nat → Int} {W0 : World} (hL : L0 W0) : MemoOk Tryz.prog 26623 σ W0 19 m16 := memo_ok fit (Known2.nil σ) (FnsOk.cons (pure_fn_ok (l2_ok hL)) ((q0_ok hL))) m16_run
noncomputable def h13 : H := hUpd h12 1233 [] [] []
noncomputable def h14 : H := hUpc h12 1353 [] [] [(225, 0, [.slice 886 0 0 1 1 false])] [(186, 0, 9, I 4), (186, 0, 10, I 6), (226, 0, 8, I 2)]
noncomputable def m17 : Memo := ⟨[.ptr 226 0, I 0], h13, .agg [I 0, I 5, I 0, U 0, I 0, U 0, IZ (-1), I 6], h14⟩
noncomputable def l3 : List (Pur) := p7 :: p13 :: p12 :: p11 :: p10 :: p8 :: p6 :: p9 :: []
theorem l3_ok {σ : Nat → Int} {W0 : World} (hL : L0 W0) : ∀ x ∈ l3, PureOk Tryz.prog 26623 σ W0 44 x := all_cons (p7_ok hL) (all_cons (p13_ok hL) (all_cons (p12_ok hL) (all_cons (p11_ok hL) (all_cons (p10_ok hL) (all_cons (p8_ok hL) (all_cons (p6_ok hL) (all_cons (p9_ok hL) (all_nil))))))))
theorem m17_run : ranTo (evCall (cxX Tryz.prog bad [] [] ((44, pureFn l3) :: q0)) 1000 60 19 m17.args m17.h) m17.v m17.h' = true := by kernel_rfl
theorem m17_ok {σ : Nat → Int} {W0 : World} (hL : L0 W0) : MemoOk Tryz.prog 26623 σ W0 19 m17 := memo_ok fit (Known2.nil σ) (FnsOk.cons (pure_fn_ok (l3_ok hL)) ((q0_ok hL))) m17_run
noncomputable def q2 : Fns := [(7, pureFn [p0]), (9, frameFn [m3]), (10, frameFn [m15]), (295, isFn 453), (122, atoiFullFn 384), (123, itoaFullFn), (195, joinFn), (307, countFn), (352, indexFn), (308, cutOf Tryz.prog 26623 bad [(307, countFn), (352, indexFn)] 1000 20 308)]
theorem q2_ok {σ : Nat → Int} {W0 : World} (hL : L0 W0) : FnsOk Tryz.prog 26623 σ W0 q2 := FnsOk.cons (pure_fn_ok (all_cons (p0_ok hL) (all_nil))) (FnsOk.cons (frame_fn_ok (all_cons (m3_ok hL) (all_nil))) (FnsOk.cons (frame_fn_ok (all_cons (m15_ok hL) (all_nil))) (FnsOk.cons (ext_is hL) (FnsOk.cons (ext_atoi hL) (FnsOk.cons (ext_itoa hL) (FnsOk.cons (ext_join hL) (FnsOk.cons (ext_count hL) (FnsOk.cons (ext_index hL) (FnsOk.cons (ext_cut308 hL) (FnsOk.nil))))))))))
theorem run0 : isTrue (evCall (cxX Tryz.prog bad [] [] ((8, numExtE [(0, 20, .lit 0)]) :: (19, frameFn [m16, m17]) :: q2)) 1000 60 3 [.int .i64 (.var 0), bF] (sentH 453 20 errTab)) = true := by kernel_rfl
abbrev CaseS (rng : Rg) (facts : List (Bool × E × E × Bool)) (tab : NumTabE) (vs : List V) : Prop := ∀ {σ : Nat → Int} {W : World} (hL : L0 W) (hk : Known2 σ rng facts) (hT : TabOk Tryz.prog bad 8 σ tab) {xs : Array Value} (hv : ∀ ρ, VRs σ ρ vs xs.toList), Calls Tryz.prog 3 xs W fun e w' => e = .returned (.bool true) ∧ Below W.heap.size W w'
theorem caseS {rng : Rg} {facts : List (Bool × E × E × Bool)} {tab : NumTabE} {vs : List V} {fs : Fns} (hx : ∀ {σ : Nat → Int} {W : World}, L0 W → Known2 σ rng facts → TabOk Tryz.prog bad 8 σ tab → FnsOk Tryz.prog 26623 σ W fs)
    (run : isTrue (evCall (cxX Tryz.prog bad rng facts fs) 1000 60 3 vs (sentH 453 20 errTab)) = true) : CaseS rng facts tab vs := by
  intro σ W hL hk hT xs hv
  obtain ⟨ads, h1, h2, h3⟩ := errs_sents hL
  exact law_case_x fit h1 h2 h3 errs_all errs_lt (by kernel_rfl) hk (hx hL hk hT) hv ⟨_, Tryz.func3, rfl⟩ run
theorem case0 : CaseS [] [] [(0, 20, .lit 0)] [.int .i64 (.var 0), bF] := caseS (fun hL hk hT => FnsOk.cons (hT.ok fit) (FnsOk.cons (frame_fn_ok (all_cons (m16_ok hL) (all_cons (m17_ok hL) (all_nil)))) ((q2_ok hL)))) run0
noncomputable def h15 : H := hUpd h12 1274 [] [] [(214, 1, [I 0, I 1000])]
noncomputable def h16 : H := hUpc h12 1445 [] [] [(182, 0, [I 16, .slice 1110 0 1 1 10 false, I 1]),
  (214, 0, [IZ (-1), I 2147483645]),
  (214, 1, [I 0, I 999])] [(186, 0, 8, U 0), (226, 0, 8, I 2)]
noncomputable def m18 : Memo := ⟨[.ptr 226 0, I 0], h15, .agg [I 0, I 1, I 0, U 0, I 0, U 0, IZ (-1), I 0], h16⟩
theorem m18_run : ranTo (evCall (cxX Tryz.prog bad [] [] ((44, pureFn l2) :: q0)) 1000 60 19 m18.args m18.h) m18.v m18.h' = true := by kernel_rfl
theorem m18_ok {σ : Nat → Int} {W0 : World} (hL : L0 W0) : MemoOk Tryz.prog 26623 σ W0 19 m18 := memo_ok fit (Known2.nil σ) (FnsOk.cons (pure_fn_ok (l2_ok hL)) ((q0_ok hL))) m18_run
theorem run1 : isTrue (evCall (cxX Tryz.prog bad [] [] ((8, numExtE [(0, 20, .lit 0)]) :: (19, frameFn [m16, m18]) :: q2)) 1000 60 3 [.int .i64 (.var 0), bT] (sentH 453 20 errTab)) = true := by kernel_rfl
theorem case1 : CaseS [] [] [(0, 20, .lit 0)] [.int .i64 (.var 0), bT] := caseS (fun hL hk hT => FnsOk.cons (hT.ok fit) (FnsOk.cons (frame_fn_ok (all_cons (m16_ok hL) (all_cons (m18_ok hL) (all_nil)))) ((q2_ok hL)))) run1
noncomputable def m19 : Memo := ⟨[bT, I 2, .snil, .slice 33 0 3 3 1 true], h5, .agg [.slice 157 0 2 2 1 false, I 2, .snil, bT], h6⟩
theorem m19_run : ranTo (evCall (cxX Tryz.prog bad [] [] ((84, frameFn [m1, m2]) :: q0)) 1000 60 9 m19.args m19.h) m19.v m19.h' = true := by kernel_rfl
theorem m19_ok {σ : Nat → Int} {W0 : World} (hL : L0 W0) : MemoOk Tryz.prog 26623 σ W0 9 m19 := memo_ok fit (Known2.nil σ) (FnsOk.cons (frame_fn_ok (all_cons (m1_ok hL) (all_cons (m2_ok hL) (all_nil)))) ((q0_ok hL))) m19_run
noncomputable def h17 : H := hUpd h8 733 [] [] [(214, 1, [I 0, I 2])]
noncomputable def m20 : Memo := ⟨[.ptr 226 0, .agg [.slice 157 0 2 2 1 false, I 2, .snil, bT]], h7, .tuple [I 0, .inil], h17⟩
theorem m20_run : ranTo (evCall (cxX Tryz.prog bad [] [] ((44, pureFn l0) :: q0)) 1000 60 88 m20.args m20.h) m20.v m20.h' = true := by kernel_rfl
theorem m20_ok {σ : Nat → Int} {W0 : World} (hL : L0 W0) : MemoOk Tryz.prog 26623 σ W0 88 m20 := memo_ok fit (Known2.nil σ) (FnsOk.cons (pure_fn_ok (l0_ok hL)) ((q0_ok hL))) m20_run
noncomputable def h18 : H := hUpc h9 170 [] [] [] [(161, 0, 1, I 2)]
noncomputable def h19 : H := hUpc h10 888 [] [] [(214, 1, [I 0, I 2])] [(161, 0, 1, I 2)]
noncomputable def m21 : Memo := ⟨[.agg [I 16, I 24, I 8, I 12, I 8, I 6, I 60, .slice 161 0 1 1 4 true]], h18, .tuple [.ptr 887 0, .inil], h19⟩
noncomputable def q3 : Fns := [(88, frameFn [m20]), (295, isFn 453), (122, atoiFullFn 384), (123, itoaFullFn), (195, joinFn), (307, countFn), (352, indexFn), (308, cutOf Tryz.prog 26623 bad [(307, countFn), (352, indexFn)] 1000 20 308)]
theorem q3_ok {σ : Nat → Int} {W0 : World} (hL : L0 W0) : FnsOk Tryz.prog 26623 σ W0 q3 := FnsOk.cons (frame_fn_ok (all_cons (m20_ok hL) (all_nil))) (FnsOk.cons (ext_is hL) (FnsOk.cons (ext_atoi hL) (FnsOk.cons (ext_itoa hL) (FnsOk.cons (ext_join hL) (FnsOk.cons (ext_count hL) (FnsOk.cons (ext_index hL) (FnsOk.cons (ext_cut308 hL) (FnsOk.nil))))))))
theorem m21_run : ranTo (evCall (cxX Tryz.prog bad [] [] ((44, pureFn l1) :: q3)) 1000 60 10 m21.args m21.h) m21.v m21.h' = true := by kernel_rfl
theorem m21_ok {σ : Nat → Int} {W0 : World} (hL : L0 W0) : MemoOk Tryz.prog 26623 σ W0 10 m21 := memo_ok fit (Known2.nil σ) (FnsOk.cons (pure_fn_ok (l1_ok hL)) ((q3_ok hL))) m21_run
noncomputable def h20 : H := hUpd h11 891 [] [] [(214, 1, [I 0, I 2])]
noncomputable def h21 : H := hUpd h12 1196 [] [] [(214, 1, [I 0, I 1])]
noncomputable def m22 : Memo := ⟨[.ptr 226 0, I 0], h20, .agg [I 0, I 3, I 0, U 0, I 0, U 0, IZ (-1), I 0], h21⟩
theorem m22_run : ranTo (evCall (cxX Tryz.prog bad [] [] ((44, pureFn l2) :: q0)) 1000 60 19 m22.args m22.h) m22.v m22.h' = true := by kernel_rfl
theorem m22_ok {σ : Nat → Int} {W0 : World} (hL : L0 W0) : MemoOk Tryz.prog 26623 σ W0 19 m22 := memo_ok fit (Known2.nil σ) (FnsOk.cons (pure_fn_ok (l2_ok hL)) ((q0_ok hL))) m22_run
noncomputable def h22 : H := hUpd h21 1233 [] [] []
noncomputable def h23 : H := hUpd h16 1404 [] [] [(214, 1, [I 0, I 0])]
noncomputable def m23 : Memo := ⟨[.ptr 226 0, I 0], h22, .agg [I 0, I 1, I 0, U 0, I 0, U 0, IZ (-1), I 0], h23⟩
theorem m23_run : ranTo (evCall (cxX Tryz.prog bad [] [] ((44, pureFn l2) :: q0)) 1000 60 19 m23.args m23.h) m23.v m23.h' = true := by kernel_rfl
theorem m23_ok {σ : Nat → Int} {W0 : World} (hL : L0 W0) : MemoOk Tryz.prog 26623 σ W0 19 m23 := memo_ok fit (Known2.nil σ) (FnsOk.cons (pure_fn_ok (l2_ok hL)) ((q0_ok hL))) m23_run
noncomputable def h24 : H := hUpd h23 1441 [] [] []
noncomputable def h25 : H := hUpc h23 1561 [] [] [(225, 0, [.slice 886 0 0 1 1 false])] [(186, 0, 9, I 4), (186, 0, 10, I 6), (226, 0, 8, I 3)]
noncomputable def m24 : Memo := ⟨[.ptr 226 0, I 0], h24, .agg [I 0, I 5, I 0, U 0, I 0, U 0, IZ (-1), I 6], h25⟩
theorem m24_run : ranTo (evCall (cxX Tryz.prog bad [] [] ((44, pureFn l3) :: q0)) 1000 60 19 m24.args m24.h) m24.v m24.h' = true := by kernel_rfl
theorem m24_ok {σ : Nat → Int} {W0 : World} (hL : L0 W0) : MemoOk Tryz.prog 26623 σ W0 19 m24 := memo_ok fit (Known2.nil σ) (FnsOk.cons (pure_fn_ok (l3_ok hL)) ((q0_ok hL))) m24_run
noncomputable def q4 : Fns := [(7, pureFn [p0]), (9, frameFn [m19]), (10, frameFn [m21]), (295, isFn 453), (122, atoiFullFn 384), (123, itoaFullFn), (195, joinFn), (307, countFn), (352, indexFn), (308, cutOf Tryz.prog 26623 bad [(307, countFn), (352, indexFn)] 1000 20 308)]
theorem q4_ok {σ : Nat → Int} {W0 : World} (hL : L0 W0) : FnsOk Tryz.prog 26623 σ W0 q4 := FnsOk.cons (pure_fn_ok (all_cons (p0_ok hL) (all_nil))) (FnsOk.cons (frame_fn_ok (all_cons (m19_ok hL) (all_nil))) (FnsOk.cons (frame_fn_ok (all_cons (m21_ok hL) (all_nil))) (FnsOk.cons (ext_is hL) (FnsOk.cons (ext_atoi hL) (FnsOk.cons (ext_itoa hL) (FnsOk.cons (ext_join hL) (FnsOk.cons (ext_count hL) (FnsOk.cons (ext_index hL) (FnsOk.cons (ext_cut308 hL) (FnsOk.nil))))))))))
theorem run2 : isTrue (evCall (cxX Tryz.prog bad [] [] ((8, numExtE [(0, 20, .lit 1)]) :: (19, frameFn [m22, m23, m24]) :: q4)) 1000 60 3 [.int .i64 (.var 0), bF] (sentH 453 20 errTab)) = true := by kernel_rfl
theorem case2 : CaseS [] [] [(0, 20, .lit 1)] [.int .i64 (.var 0), bF] := caseS (fun hL hk hT => FnsOk.cons (hT.ok fit) (FnsOk.cons (frame_fn_ok (all_cons (m22_ok hL) (all_cons (m23_ok hL) (all_cons (m24_ok hL) (all_nil))))) ((q4_ok hL)))) run2
noncomputable def h26 : H := hUpd h16 1482 [] [] [(214, 1, [I 0, I 1000])]
noncomputable def h27 : H := hUpc h12 1653 [] [] [(182, 0, [I 16, .slice 1110 0 1 1 10 false, I 2]),
  (214, 0, [IZ (-1), I 2147483644]),
  (214, 1, [I 0, I 999])] [(226, 0, 8, I 3)]
noncomputable def m25 : Memo := ⟨[.ptr 226 0, I 0], h26, .agg [I 0, I 3, I 0, U 0, I 0, U 0, IZ (-1), I 0], h27⟩
theorem m25_run : ranTo (evCall (cxX Tryz.prog bad [] [] ((44, pureFn l2) :: q0)) 1000 60 19 m25.args m25.h) m25.v m25.h' = true := by kernel_rfl
theorem m25_ok {σ : Nat → Int} {W0 : World} (hL : L0 W0) : MemoOk Tryz.prog 26623 σ W0 19 m25 := memo_ok fit (Known2.nil σ) (FnsOk.cons (pure_fn_ok (l2_ok hL)) ((q0_ok hL))) m25_run
theorem run3 : isTrue (evCall (cxX Tryz.prog bad [] [] ((8, numExtE [(0, 20, .lit 1)]) :: (19, frameFn [m22, m23, m25]) :: q4)) 1000 60 3 [.int .i64 (.var 0), bT] (sentH 453 20 errTab)) = true := by kernel_rfl
theorem case3 : CaseS [] [] [(0, 20, .lit 1)] [.int .i64 (.var 0), bT] := caseS (fun hL hk hT => FnsOk.cons (hT.ok fit) (FnsOk.cons (frame_fn_ok (all_cons (m22_ok hL) (all_cons (m23_ok hL) (all_cons (m25_ok hL) (all_nil))))) ((q4_ok hL)))) run3
noncomputable def m26 : Memo := ⟨[bT, I 3, .snil, .slice 33 0 3 3 1 true], h5, .agg [.slice 157 0 2 2 1 false, I 3, .snil, bT], h6⟩
theorem m26_run : ranTo (evCall (cxX Tryz.prog bad [] [] ((84, frameFn [m1, m2]) :: q0)) 1000 60 9 m26.args m26.h) m26.v m26.h' = true := by kernel_rfl
theorem m26_ok {σ : Nat → Int} {W0 : World} (hL : L0 W0) : MemoOk Tryz.prog 26623 σ W0 9 m26 := memo_ok fit (Known2.nil σ) (FnsOk.cons (frame_fn_ok (all_cons (m1_ok hL) (all_cons (m2_ok hL) (all_nil)))) ((q0_ok hL))) m26_run
noncomputable def h28 : H := hUpd h8 733 [] [] [(214, 1, [I 0, I 3])]
noncomputable def m27 : Memo := ⟨[.ptr 226 0, .agg [.slice 157 0 2 2 1 false, I 3, .snil, bT]], h7, .tuple [I 0, .inil], h28⟩
theorem m27_run : ranTo (evCall (cxX Tryz.prog bad [] [] ((44, pureFn l0) :: q0)) 1000 60 88 m27.args m27.h) m27.v m27.h' = true := by kernel_rfl
theorem m27_ok {σ : Nat → Int} {W0 : World} (hL : L0 W0) : MemoOk Tryz.prog 26623 σ W0 88 m27 := memo_ok fit (Known2.nil σ) (FnsOk.cons (pure_fn_ok (l0_ok hL)) ((q0_ok hL))) m27_run
noncomputable def h29 : H := hUpc h9 170 [] [] [] [(161, 0, 1, I 3)]
noncomputable def h30 : H := hUpc h10 888 [] [] [(214, 1, [I 0, I 3])] [(161, 0, 1, I 3)]
noncomputable def m28 : Memo := ⟨[.agg [I 16, I 24, I 8, I 12, I 8, I 6, I 60, .slice 161 0 1 1 4 true]], h29, .tuple [.ptr 887 0, .inil], h30⟩
noncomputable def q5 : Fns := [(88, frameFn [m27]), (295, isFn 453), (122, atoiFullFn 384), (123, itoaFullFn), (195, joinFn), (307, countFn), (352, indexFn), (308, cutOf Tryz.prog 26623 bad [(307, countFn), (352, indexFn)] 1000 20 308)]
theorem q5_ok {σ : Nat → Int} {W0 : World} (hL : L0 W0) : FnsOk Tryz.prog 26623 σ W0 q5 := FnsOk.cons (frame_fn_ok (all_cons (m27_ok hL) (all_nil))) (FnsOk.cons (ext_is hL) (FnsOk.cons (ext_atoi hL) (FnsOk.cons (ext_itoa hL) (FnsOk.cons (ext_join hL) (FnsOk.cons (ext_count hL) (FnsOk.cons (ext_index hL) (FnsOk.cons (ext_cut308 hL) (FnsOk.nil))))))))
theorem m28_run : ranTo (evCall (cxX Tryz.prog bad [] [] ((44, pureFn l1) :: q5)) 1000 60 10 m28.args m28.h) m28.v m28.h' = true := by kernel_rfl
theorem m28_ok {σ : Nat → Int} {W0 : World} (hL : L0 W0) : MemoOk Tryz.prog 26623 σ W0 10 m28 := memo_ok fit (Known2.nil σ) (FnsOk.cons (pure_fn_ok (l1_ok hL)) ((q5_ok hL))) m28_run
noncomputable def h31 : H := hUpd h11 891 [] [] [(214, 1, [I 0, I 3])]
noncomputable def h32 : H := hUpd h12 1196 [] [] [(214, 1, [I 0, I 2])]
noncomputable def m29 : Memo := ⟨[.ptr 226 0, I 0], h31, .agg [I 0, I 3, I 0, U 0, I 0, U 0, IZ (-1), I 0], h32⟩
theorem m29_run : ranTo (evCall (cxX Tryz.prog bad [] [] ((44, pureFn l2) :: q0)) 1000 60 19 m29.args m29.h) m29.v m29.h' = true := by kernel_rfl
theorem m29_ok {σ : Nat → Int} {W0 : World} (hL : L0 W0) : MemoOk Tryz.prog 26623 σ W0 19 m29 := memo_ok fit (Known2.nil σ) (FnsOk.cons (pure_fn_ok (l2_ok hL)) ((q0_ok hL))) m29_run
noncomputable def h33 : H := hUpd h32 1233 [] [] []
noncomputable def h34 : H := hUpd h16 1404 [] [] [(214, 1, [I 0, I 1])]
noncomputable def m30 : Memo := ⟨[.ptr 226 0, I 0], h33, .agg [I 0, I 1, I 0, U 0, I 0, U 0, IZ (-1), I 0], h34⟩
theorem m30_run : ranTo (evCall (cxX Tryz.prog bad [] [] ((44, pureFn l2) :: q0)) 1000 60 19 m30.args m30.h) m30.v m30.h' = true := by kernel_rfl
theorem m30_ok {σ : Nat → Int} {W0 : World} (hL : L0 W0) : MemoOk Tryz.prog 26623 σ W0 19 m30 := memo_ok fit (Known2.nil σ) (FnsOk.cons (pure_fn_ok (l2_ok hL)) ((q0_ok hL))) m30_run
noncomputable def h35 : H := hUpd h34 1441 [] [] []
noncomputable def h36 : H := hUpd h27 1612 [] [] [(214, 1, [I 0, I 0])]
noncomputable def m31 : Memo := ⟨[.ptr 226 0, I 0], h35, .agg [I 0, I 3, I 0, U 0, I 0, U 0, IZ (-1), I 0], h36⟩
theorem m31_run : ranTo (evCall (cxX Tryz.prog bad [] [] ((44, pureFn l2) :: q0)) 1000 60 19 m31.args m31.h) m31.v m31.h' = true := by kernel_rfl
theorem m31_ok {σ : Nat → Int} {W0 : World} (hL : L0 W0) : MemoOk Tryz.prog 26623 σ W0 19 m31 := memo_ok fit (Known2.nil σ) (FnsOk.cons (pure_fn_ok (l2_ok hL)) ((q0_ok hL))) m31_run
noncomputable def h37 : H := hUpd h36 1649 [] [] []
noncomputable def h38 : H := hUpc h14 1769 [] [] [(182, 0, [I 16, .slice 1110 0 1 1 10 false, I 2]),
  (214, 0, [IZ (-1), I 2147483644])] [(226, 0, 8, I 4)]
noncomputable def m32 : Memo := ⟨[.ptr 226 0, I 0], h37, .agg [I 0, I 5, I 0, U 0, I 0, U 0, IZ (-1), I 6], h38⟩
theorem m32_run : ranTo (evCall (cxX Tryz.prog bad [] [] ((44, pureFn l3) :: q0)) 1000 60 19 m32.args m32.h) m32.v m32.h' = true := by kernel_rfl
theorem m32_ok {σ : Nat → Int} {W0 : World} (hL : L0 W0) : MemoOk Tryz.prog 26623 σ W0 19 m32 := memo_ok fit (Known2.nil σ) (FnsOk.cons (pure_fn_ok (l3_ok hL)) ((q0_ok hL))) m32_run
noncomputable def l4 : List (Memo) := m32 :: m31 :: m30 :: m29 :: []
theorem l4_ok {σ : Nat → Int} {W0 : World} (hL : L0 W0) : ∀ x ∈ l4, MemoOk Tryz.prog 26623 σ W0 19 x := all_cons (m32_ok hL) (all_cons (m31_ok hL) (all_cons (m30_ok hL) (all_cons (m29_ok hL) (all_nil))))
noncomputable def q6 : Fns := [(7, pureFn [p0]), (9, frameFn [m26]), (10, frameFn [m28]), (295, isFn 453), (122, atoiFullFn 384), (123, itoaFullFn), (195, joinFn), (307, countFn), (352, indexFn), (308, cutOf Tryz.prog 26623 bad [(307, countFn), (352, indexFn)] 1000 20 308)]
theorem q6_ok {σ : Nat → Int} {W0 : World} (hL : L0 W0) : FnsOk Tryz.prog 26623 σ W0 q6 := FnsOk.cons (pure_fn_ok (all_cons (p0_ok hL) (all_nil))) (FnsOk.cons (frame_fn_ok (all_cons (m26_ok hL) (all_nil))) (FnsOk.cons (frame_fn_ok (all_cons (m28_ok hL) (all_nil))) (FnsOk.cons (ext_is hL) (FnsOk.cons (ext_atoi hL) (FnsOk.cons (ext_itoa hL) (FnsOk.cons (ext_join hL) (FnsOk.cons (ext_count hL) (FnsOk.cons (ext_index hL) (FnsOk.cons (ext_cut308 hL) (FnsOk.nil))))))))))
theorem run4 : isTrue (evCall (cxX Tryz.prog bad [] [] ((8, numExtE [(0, 20, .lit 2)]) :: (19, frameFn l4) :: q6)) 1000 60 3 [.int .i64 (.var 0), bF] (sentH 453 20 errTab)) = true := by kernel_rfl
theorem case4 : CaseS [] [] [(0, 20, .lit 2)] [.int .i64 (.var 0), bF] := caseS (fun hL hk hT => FnsOk.cons (hT.ok fit) (FnsOk.cons (frame_fn_ok (l4_ok hL)) ((q6_ok hL)))) run4
noncomputable def h39 : H := hUpd h27 1690 [] [] [(214, 1, [I 0, I 1000])]
noncomputable def h40 : H := hUpc h16 1861 [] [] [(182, 0, [I 16, .slice 1110 0 1 1 10 false, I 3]),
  (214, 0, [IZ (-1), I 2147483643])] [(226, 0, 8, I 4)]
noncomputable def m33 : Memo := ⟨[.ptr 226 0, I 0], h39, .agg [I 0, I 1, I 0, U 0, I 0, U 0, IZ (-1), I 0], h40⟩
theorem m33_run : ranTo (evCall (cxX Tryz.prog bad [] [] ((44, pureFn l2) :: q0)) 1000 60 19 m33.args m33.h) m33.v m33.h' = true := by kernel_rfl
theorem m33_ok {σ : Nat → Int} {W0 : World} (hL : L0 W0) : MemoOk Tryz.prog 26623 σ W0 19 m33 := memo_ok fit (Known2.nil σ) (FnsOk.cons (pure_fn_ok (l2_ok hL)) ((q0_ok hL))) m33_run
noncomputable def l5 : List (Memo) := m33 :: m31 :: m30 :: m29 :: []
theorem l5_ok {σ : Nat → Int} {W0 : World} (hL : L0 W0) : ∀ x ∈ l5, MemoOk Tryz.prog 26623 σ W0 19 x := all_cons (m33_ok hL) (all_cons (m31_ok hL) (all_cons (m30_ok hL) (all_cons (m29_ok hL) (all_nil))))
theorem run5 : isTrue (evCall (cxX Tryz.prog bad [] [] ((8, numExtE [(0, 20, .lit 2)]) :: (19, frameFn l5) :: q6)) 1000 60 3 [.int .i64 (.var 0), bT] (sentH 453 20 errTab)) = true := by kernel_rfl
theorem case5 : CaseS [] [] [(0, 20, .lit 2)] [.int .i64 (.var 0), bT] := caseS (fun hL hk hT => FnsOk.cons (hT.ok fit) (FnsOk.cons (frame_fn_ok (l5_ok hL)) ((q6_ok hL)))) run5
noncomputable def m34 : Memo := ⟨[bT, I 4, .snil, .slice 33 0 3 3 1 true], h5, .agg [.slice 157 0 2 2 1 false, I 4, .snil, bT], h6⟩
theorem m34_run : ranTo (evCall (cxX Tryz.prog bad [] [] ((84, frameFn [m1, m2]) :: q0)) 1000 60 9 m34.args m34.h) m34.v m34.h' = true := by kernel_rfl
theorem m34_ok {σ : Nat → Int} {W0 : World} (hL : L0 W0) : MemoOk Tryz.prog 26623 σ W0 9 m34 := memo_ok fit (Known2.nil σ) (FnsOk.cons (frame_fn_ok (all_cons (m1_ok hL) (all_cons (m2_ok hL) (all_nil)))) ((q0_ok hL))) m34_run
noncomputable def h41 : H := hUpd h8 733 [] [] [(214, 1, [I 0, I 4])]
noncomputable def m35 : Memo := ⟨[.ptr 226 0, .agg [.slice 157 0 2 2 1 false, I 4, .snil, bT]], h7, .tuple [I 0, .inil], h41⟩
theorem m35_run : ranTo (evCall (cxX Tryz.prog bad [] [] ((44, pureFn l0) :: q0)) 1000 60 88 m35.args m35.h) m35.v m35.h' = true := by kernel_rfl
theorem m35_ok {σ : Nat → Int} {W0 : World} (hL : L0 W0) : MemoOk Tryz.prog 26623 σ W0 88 m35 := memo_ok fit (Known2.nil σ) (FnsOk.cons (pure_fn_ok (l0_ok hL)) ((q0_ok hL))) m35_run
noncomputable def h42 : H := hUpc h9 170 [] [] [] [(161, 0, 1, I 4)]
noncomputable def h43 : H := hUpc h10 888 [] [] [(214, 1, [I 0, I 4])] [(161, 0, 1, I 4)]
noncomputable def m36 : Memo := ⟨[.agg [I 16, I 24, I 8, I 12, I 8, I 6, I 60, .slice 161 0 1 1 4 true]], h42, .tuple [.ptr 887 0, .inil], h43⟩
noncomputable def q7 : Fns := [(88, frameFn [m35]), (295, isFn 453), (122, atoiFullFn 384), (123, itoaFullFn), (195, joinFn), (307, countFn), (352, indexFn), (308, cutOf Tryz.prog 26623 bad [(307, countFn), (352, indexFn)] 1000 20 308)]
theorem q7_ok {σ : Nat → Int} {W0 : World} (hL : L0 W0) : FnsOk Tryz.prog 26623 σ W0 q7 := FnsOk.cons (frame_fn_ok (all_cons (m35_ok hL) (all_nil))) (FnsOk.cons (ext_is hL) (FnsOk.cons (ext_atoi hL) (FnsOk.cons (ext_itoa hL) (FnsOk.cons (ext_join hL) (FnsOk.cons (ext_count hL) (FnsOk.cons (ext_index hL) (FnsOk.cons (ext_cut308 hL) (FnsOk.nil))))))))
theorem m36_run : ranTo (evCall (cxX Tryz.prog bad [] [] ((44, pureFn l1) :: q7)) 1000 60 10 m36.args m36.h) m36.v m36.h' = true := by kernel_rfl
theorem m36_ok {σ : Nat → Int} {W0 : World} (hL : L0 W0) : MemoOk Tryz.prog 26623 σ W0 10 m36 := memo_ok fit (Known2.nil σ) (FnsOk.cons (pure_fn_ok (l1_ok hL)) ((q7_ok hL))) m36_run
noncomputable def h44 : H := hUpd h11 891 [] [] [(214, 1, [I 0, I 4])]
noncomputable def h45 : H := hUpd h12 1196 [] [] [(214, 1, [I 0, I 3])]
noncomputable def m37 : Memo := ⟨[.ptr 226 0, I 0], h44, .agg [I 0, I 3, I 0, U 0, I 0, U 0, IZ (-1), I 0], h45⟩
theorem m37_run : ranTo (evCall (cxX Tryz.prog bad [] [] ((44, pureFn l2) :: q0)) 1000 60 19 m37.args m37.h) m37.v m37.h' = true := by kernel_rfl
theorem m37_ok {σ : Nat → Int} {W0 : World} (hL : L0 W0) : MemoOk Tryz.prog 26623 σ W0 19 m37 := memo_ok fit (Known2.nil σ) (FnsOk.cons (pure_fn_ok (l2_ok hL)) ((q0_ok hL))) m37_run
noncomputable def h46 : H := hUpd h45 1233 [] [] []
noncomputable def h47 : H := hUpd h16 1404 [] [] [(214, 1, [I 0, I 2])]
noncomputable def m38 : Memo := ⟨[.ptr 226 0, I 0], h46, .agg [I 0, I 1, I 0, U 0, I 0, U 0, IZ (-1), I 0], h47⟩
theorem m38_run : ranTo (evCall (cxX Tryz.prog bad [] [] ((44, pureFn l2) :: q0)) 1000 60 19 m38.args m38.h) m38.v m38.h' = true := by kernel_rfl
theorem m38_ok {σ : Nat → Int} {W0 : World} (hL : L0 W0) : MemoOk Tryz.prog 26623 σ W0 19 m38 := memo_ok fit (Known2.nil σ) (FnsOk.cons (pure_fn_ok (l2_ok hL)) ((q0_ok hL))) m38_run
noncomputable def h48 : H := hUpd h47 1441 [] [] []
noncomputable def h49 : H := hUpd h27 1612 [] [] [(214, 1, [I 0, I 1])]
noncomputable def m39 : Memo := ⟨[.ptr 226 0, I 0], h48, .agg [I 0, I 3, I 0, U 0, I 0, U 0, IZ (-1), I 0], h49⟩
theorem m39_run : ranTo (evCall (cxX Tryz.prog bad [] [] ((44, pureFn l2) :: q0)) 1000 60 19 m39.args m39.h) m39.v m39.h' = true := by kernel_rfl
theorem m39_ok {σ : Nat → Int} {W0 : World} (hL : L0 W0) : MemoOk Tryz.prog 26623 σ W0 19 m39 := memo_ok fit (Known2.nil σ) (FnsOk.cons (pure_fn_ok (l2_ok hL)) ((q0_ok hL))) m39_run
noncomputable def h50 : H := hUpd h49 1649 [] [] []
noncomputable def h51 : H := hUpd h40 1820 [] [] [(214, 1, [I 0, I 0])]
noncomputable def m40 : Memo := ⟨[.ptr 226 0, I 0], h50, .agg [I 0, I 1, I 0, U 0, I 0, U 0, IZ (-1), I 0], h51⟩
theorem m40_run : ranTo (evCall (cxX Tryz.prog bad [] [] ((44, pureFn l2) :: q0)) 1000 60 19 m40.args m40.h) m40.v m40.h' = true := by kernel_rfl
theorem m40_ok {σ : Nat → Int} {W0 : World} (hL : L0 W0) : MemoOk Tryz.prog 26623 σ W0 19 m40 := memo_ok fit (Known2.nil σ) (FnsOk.cons (pure_fn_ok (l2_ok hL)) ((q0_ok hL))) m40_run
noncomputable def h52 : H := hUpd h51 1857 [] [] []
noncomputable def h53 : H := hUpc h25 1977 [] [] [(182, 0, [I 16, .slice 1110 0 1 1 10 false, I 3]),
  (214, 0, [IZ (-1), I 2147483643])] [(226, 0, 8, I 5)]
noncomputable def m41 : Memo := ⟨[.ptr 226 0, I 0], h52, .agg [I 0, I 5, I 0, U 0, I 0, U 0, IZ (-1), I 6], h53⟩
theorem m41_run : ranTo (evCall (cxX Tryz.prog bad [] [] ((44, pureFn l3) :: q0)) 1000 60 19 m41.args m41.h) m41.v m41.h' = true := by kernel_rfl
theorem m41_ok {σ : Nat → Int} {W0 : World} (hL : L0 W0) : MemoOk Tryz.prog 26623 σ W0 19 m41 := memo_ok fit (Known2.nil σ) (FnsOk.cons (pure_fn_ok (l3_ok hL)) ((q0_ok hL))) m41_run
noncomputable def l6 : List (Memo) := m41 :: m40 :: m39 :: m38 :: m37 :: []
theorem l6_ok {σ : Nat → Int} {W0 : World} (hL : L0 W0) : ∀ x ∈ l6, MemoOk Tryz.prog 26623 σ W0 19 x := all_cons (m41_ok hL) (all_cons (m40_ok hL) (all_cons (m39_ok hL) (all_cons (m38_ok hL) (all_cons (m37_ok hL) (all_nil)))))
noncomputable def q8 : Fns := [(7, pureFn [p0]), (9, frameFn [m34]), (10, frameFn [m36]), (295, isFn 453), (122, atoiFullFn 384), (123, itoaFullFn), (195, joinFn), (307, countFn), (352, indexFn), (308, cutOf Tryz.prog 26623 bad [(307, countFn), (352, indexFn)] 1000 20 308)]
theorem q8_ok {σ : Nat → Int} {W0 : World} (hL : L0 W0) : FnsOk Tryz.prog 26623 σ W0 q8 := FnsOk.cons (pure_fn_ok (all_cons (p0_ok hL) (all_nil))) (FnsOk.cons (frame_fn_ok (all_cons (m34_ok hL) (all_nil))) (FnsOk.cons (frame_fn_ok (all_cons (m36_ok hL) (all_nil))) (FnsOk.cons (ext_is hL) (FnsOk.cons (ext_atoi hL) (FnsOk.cons (ext_itoa hL) (FnsOk.cons (ext_join hL) (FnsOk.cons (ext_count hL) (FnsOk.cons (ext_index hL) (FnsOk.cons (ext_cut308 hL) (FnsOk.nil))))))))))
theorem run6 : isTrue (evCall (cxX Tryz.prog bad [] [] ((8, numExtE [(0, 20, .lit 3)]) :: (19, frameFn l6) :: q8)) 1000 60 3 [.int .i64 (.var 0), bF] (sentH 453 20 errTab)) = true := by kernel_rfl
theorem case6 : CaseS [] [] [(0, 20, .lit 3)] [.int .i64 (.var 0), bF] := caseS (fun hL hk hT => FnsOk.cons (hT.ok fit) (FnsOk.cons (frame_fn_ok (l6_ok hL)) ((q8_ok hL)))) run6
noncomputable def h54 : H := hUpd h40 1898 [] [] [(214, 1, [I 0, I 1000])]
noncomputable def h55 : H := hUpc h27 2069 [] [] [(182, 0, [I 16, .slice 1110 0 1 1 10 false, I 4]),
  (214, 0, [IZ (-1), I 2147483642])] [(226, 0, 8, I 5)]
noncomputable def m42 : Memo := ⟨[.ptr 226 0, I 0], h54, .agg [I 0, I 3, I 0, U 0, I 0, U 0, IZ (-1), I 0], h55⟩
theorem m42_run : ranTo (evCall (cxX Tryz.prog bad [] [] ((44, pureFn l2) :: q0)) 1000 60 19 m42.args m42.h) m42.v m42.h' = true := by kernel_rfl
theorem m42_ok {σ : Nat → Int} {W0 : World} (hL : L0 W0) : MemoOk Tryz.prog 26623 σ W0 19 m42 := memo_ok fit (Known2.nil σ) (FnsOk.cons (pure_fn_ok (l2_ok hL)) ((q0_ok hL))) m42_run
noncomputable def l7 : List (Memo) := m42 :: m40 :: m39 :: m38 :: m37 :: []
theorem l7_ok {σ : Nat → Int} {W0 : World} (hL : L0 W0) : ∀ x ∈ l7, MemoOk Tryz.prog 26623 σ W0 19 x := all_cons (m42_ok hL) (all_cons (m40_ok hL) (all_cons (m39_ok hL) (all_cons (m38_ok hL) (all_cons (m37_ok hL) (all_nil)))))
theorem run7 : isTrue (evCall (cxX Tryz.prog bad [] [] ((8, numExtE [(0, 20, .lit 3)]) :: (19, frameFn l7) :: q8)) 1000 60 3 [.int .i64 (.var 0), bT] (sentH 453 20 errTab)) = true := by kernel_rfl
theorem case7 : CaseS [] [] [(0, 20, .lit 3)] [.int .i64 (.var 0), bT] := caseS (fun hL hk hT => FnsOk.cons (hT.ok fit) (FnsOk.cons (frame_fn_ok (l7_ok hL)) ((q8_ok hL)))) run7
noncomputable def m43 : Memo := ⟨[bT, I 5, .snil, .slice 33 0 3 3 1 true], h5, .agg [.slice 157 0 2 2 1 false, I 5, .snil, bT], h6⟩
theorem m43_run : ranTo (evCall (cxX Tryz.prog bad [] [] ((84, frameFn [m1, m2]) :: q0)) 1000 60 9 m43.args m43.h) m43.v m43.h' = true := by kernel_rfl
theorem m43_ok {σ : Nat → Int} {W0 : World} (hL : L0 W0) : MemoOk Tryz.prog 26623 σ W0 9 m43 := memo_ok fit (Known2.nil σ) (FnsOk.cons (frame_fn_ok (all_cons (m1_ok hL) (all_cons (m2_ok hL) (all_nil)))) ((q0_ok hL))) m43_run
noncomputable def h56 : H := hUpd h17 733 [] [] [(214, 1, [I 0, I 5])]
noncomputable def m44 : Memo := ⟨[.ptr 226 0, .agg [.slice 157 0 2 2 1 false, I 5, .snil, bT]], h7, .tuple [I 0, .inil], h56⟩
theorem m44_run : ranTo (evCall (cxX Tryz.prog bad [] [] ((44, pureFn l0) :: q0)) 1000 60 88 m44.args m44.h) m44.v m44.h' = true := by kernel_rfl
theorem m44_ok {σ : Nat → Int} {W0 : World} (hL : L0 W0) : MemoOk Tryz.prog 26623 σ W0 88 m44 := memo_ok fit (Known2.nil σ) (FnsOk.cons (pure_fn_ok (l0_ok hL)) ((q0_ok hL))) m44_run
noncomputable def h57 : H := hUpc h18 170 [] [] [] [(161, 0, 1, I 5)]
noncomputable def h58 : H := hUpc h19 888 [] [] [(214, 1, [I 0, I 5])] [(161, 0, 1, I 5)]
noncomputable def m45 : Memo := ⟨[.agg [I 16, I 24, I 8, I 12, I 8, I 6, I 60, .slice 161 0 1 1 4 true]], h57, .tuple [.ptr 887 0, .inil], h58⟩
noncomputable def q9 : Fns := [(88, frameFn [m44]), (295, isFn 453), (122, atoiFullFn 384), (123, itoaFullFn), (195, joinFn), (307, countFn), (352, indexFn), (308, cutOf Tryz.prog 26623 bad [(307, countFn), (352, indexFn)] 1000 20 308)]
theorem q9_ok {σ : Nat → Int} {W0 : World} (hL : L0 W0) : FnsOk Tryz.prog 26623 σ W0 q9 := FnsOk.cons (frame_fn_ok (all_cons (m44_ok hL) (all_nil))) (FnsOk.cons (ext_is hL) (FnsOk.cons (ext_atoi hL) (FnsOk.cons (ext_itoa hL) (FnsOk.cons (ext_join hL) (FnsOk.cons (ext_count hL) (FnsOk.cons (ext_index hL) (FnsOk.cons (ext_cut308 hL) (FnsOk.nil))))))))
theorem m45_run : ranTo (evCall (cxX Tryz.prog bad [] [] ((44, pureFn l1) :: q9)) 1000 60 10 m45.args m45.h) m45.v m45.h' = true := by kernel_rfl
theorem m45_ok {σ : Nat → Int} {W0 : World} (hL : L0 W0) : MemoOk Tryz.prog 26623 σ W0 10 m45 := memo_ok fit (Known2.nil σ) (FnsOk.cons (pure_fn_ok (l1_ok hL)) ((q9_ok hL))) m45_run
noncomputable def h59 : H := hUpd h20 891 [] [] [(214, 1, [I 0, I 5])]
noncomputable def h60 : H := hUpd h21 1196 [] [] [(214, 1, [I 0, I 4])]
noncomputable def m46 : Memo := ⟨[.ptr 226 0, I 0], h59, .agg [I 0, I 3, I 0, U 0, I 0, U 0, IZ (-1), I 0], h60⟩
theorem m46_run : ranTo (evCall (cxX Tryz.prog bad [] [] ((44, pureFn l2) :: q0)) 1000 60 19 m46.args m46.h) m46.v m46.h' = true := by kernel_rfl
theorem m46_ok {σ : Nat → Int} {W0 : World} (hL : L0 W0) : MemoOk Tryz.prog 26623 σ W0 19 m46 := memo_ok fit (Known2.nil σ) (FnsOk.cons (pure_fn_ok (l2_ok hL)) ((q0_ok hL))) m46_run
noncomputable def h61 : H := hUpd h60 1233 [] [] []
noncomputable def h62 : H := hUpd h23 1404 [] [] [(214, 1, [I 0, I 3])]
noncomputable def m47 : Memo := ⟨[.ptr 226 0, I 0], h61, .agg [I 0, I 1, I 0, U 0, I 0, U 0, IZ (-1), I 0], h62⟩
theorem m47_run : ranTo (evCall (cxX Tryz.prog bad [] [] ((44, pureFn l2) :: q0)) 1000 60 19 m47.args m47.h) m47.v m47.h' = true := by kernel_rfl
theorem m47_ok {σ : Nat → Int} {W0 : World} (hL : L0 W0) : MemoOk Tryz.prog 26623 σ W0 19 m47 := memo_ok fit (Known2.nil σ) (FnsOk.cons (pure_fn_ok (l2_ok hL)) ((q0_ok hL))) m47_run
noncomputable def h63 : H := hUpd h62 1441 [] [] []
noncomputable def h64 : H := hUpd h27 1612 [] [] [(214, 1, [I 0, I 2])]
noncomputable def m48 : Memo := ⟨[.ptr 226 0, I 0], h63, .agg [I 0, I 3, I 0, U 0, I 0, U 0, IZ (-1), I 0], h64⟩
theorem m48_run : ranTo (evCall (cxX Tryz.prog bad [] [] ((44, pureFn l2) :: q0)) 1000 60 19 m48.args m48.h) m48.v m48.h' = true := by kernel_rfl
theorem m48_ok {σ : Nat → Int} {W0 : World} (hL : L0 W0) : MemoOk Tryz.prog 26623 σ W0 19 m48 := memo_ok fit (Known2.nil σ) (FnsOk.cons (pure_fn_ok (l2_ok hL)) ((q0_ok hL))) m48_run
noncomputable def h65 : H := hUpd h64 1649 [] [] []
noncomputable def h66 : H := hUpd h40 1820 [] [] [(214, 1, [I 0, I 1])]
noncomputable def m49 : Memo := ⟨[.ptr 226 0, I 0], h65, .agg [I 0, I 1, I 0, U 0, I 0, U 0, IZ (-1), I 0], h66⟩
theorem m49_run : ranTo (evCall (cxX Tryz.prog bad [] [] ((44, pureFn l2) :: q0)) 1000 60 19 m49.args m49.h) m49.v m49.h' = true := by kernel_rfl
theorem m49_ok {σ : Nat → Int} {W0 : World} (hL : L0 W0) : MemoOk Tryz.prog 26623 σ W0 19 m49 := memo_ok fit (Known2.nil σ) (FnsOk.cons (pure_fn_ok (l2_ok hL)) ((q0_ok hL))) m49_run
noncomputable def h67 : H := hUpd h66 1857 [] [] []
noncomputable def h68 : H := hUpd h55 2028 [] [] [(214, 1, [I 0, I 0])]
noncomputable def m50 : Memo := ⟨[.ptr 226 0, I 0], h67, .agg [I 0, I 3, I 0, U 0, I 0, U 0, IZ (-1), I 0], h68⟩
theorem m50_run : ranTo (evCall (cxX Tryz.prog bad [] [] ((44, pureFn l2) :: q0)) 1000 60 19 m50.args m50.h) m50.v m50.h' = true := by kernel_rfl
theorem m50_ok {σ : Nat → Int} {W0 : World} (hL : L0 W0) : MemoOk Tryz.prog 26623 σ W0 19 m50 := memo_ok fit (Known2.nil σ) (FnsOk.cons (pure_fn_ok (l2_ok hL)) ((q0_ok hL))) m50_run
noncomputable def h69 : H := hUpd h68 2065 [] [] []
noncomputable def h70 : H := hUpc h38 2185 [] [] [(182, 0, [I 16, .slice 1110 0 1 1 10 false, I 4]),
  (214, 0, [IZ (-1), I 2147483642])] [(226, 0, 8, I 6)]
noncomputable def m51 : Memo := ⟨[.ptr 226 0, I 0], h69, .agg [I 0, I 5, I 0, U 0, I 0, U 0, IZ (-1), I 6], h70⟩
theorem m51_run : ranTo (evCall (cxX Tryz.prog bad [] [] ((44, pureFn l3) :: q0)) 1000 60 19 m51.args m51.h) m51.v m51.h' = true := by kernel_rfl
theorem m51_ok {σ : Nat → Int} {W0 : World} (hL : L0 W0) : MemoOk Tryz.prog 26623 σ W0 19 m51 := memo_ok fit (Known2.nil σ) (FnsOk.cons (pure_fn_ok (l3_ok hL)) ((q0_ok hL))) m51_run
noncomputable def l8 : List (Memo) := m51 :: m50 :: m49 :: m48 :: m47 :: m46 :: []
theorem l8_ok {σ : Nat → Int} {W0 : World} (hL : L0 W0) : ∀ x ∈ l8, MemoOk Tryz.prog 26623 σ W0 19 x := all_cons (m51_ok hL) (all_cons (m50_ok hL) (all_cons (m49_ok hL) (all_cons (m48_ok hL) (all_cons (m47_ok hL) (all_cons (m46_ok hL) (all_nil))))))
noncomputable def q10 : Fns := [(7, pureFn [p0]), (9, frameFn [m43]), (10, frameFn [m45]), (295, isFn 453), (122, atoiFullFn 384), (123, itoaFullFn), (195, joinFn), (307, countFn), (352, indexFn), (308, cutOf Tryz.prog 26623 bad [(307, countFn), (352, indexFn)] 1000 20 308)]
theorem q10_ok {σ : Nat → Int} {W0 : World} (hL : L0 W0) : FnsOk Tryz.prog 26623 σ W0 q10 := FnsOk.cons (pure_fn_ok (all_cons (p0_ok hL) (all_nil))) (FnsOk.cons (frame_fn_ok (all_cons (m43_ok hL) (all_nil))) (FnsOk.cons (frame_fn_ok (all_cons (m45_ok hL) (all_nil))) (FnsOk.cons (ext_is hL) (FnsOk.cons (ext_atoi hL) (FnsOk.cons (ext_itoa hL) (FnsOk.cons (ext_join hL) (FnsOk.cons (ext_count hL) (FnsOk.cons (ext_index hL) (FnsOk.cons (ext_cut308 hL) (FnsOk.nil))))))))))
theorem run8 : isTrue (evCall (cxX Tryz.prog bad [] [] ((8, numExtE [(0, 20, .lit 4)]) :: (19, frameFn l8) :: q10)) 1000 60 3 [.int .i64 (.var 0), bF] (sentH 453 20 errTab)) = true := by kernel_rfl
theorem case8 : CaseS [] [] [(0, 20, .lit 4)] [.int .i64 (.var 0), bF] := caseS (fun hL hk hT => FnsOk.cons (hT.ok fit) (FnsOk.cons (frame_fn_ok (l8_ok hL)) ((q10_ok hL)))) run8
noncomputable def h71 : H := hUpd h55 2106 [] [] [(214, 1, [I 0, I 1000])]
noncomputable def h72 : H := hUpc h40 2277 [] [] [(182, 0, [I 16, .slice 1110 0 1 1 10 false, I 5]),
  (214, 0, [IZ (-1), I 2147483641])] [(226, 0, 8, I 6)]
noncomputable def m52 : Memo := ⟨[.ptr 226 0, I 0], h71, .agg [I 0, I 1, I 0, U 0, I 0, U 0, IZ (-1), I 0], h72⟩
theorem m52_run : ranTo (evCall (cxX Tryz.prog bad [] [] ((44, pureFn l2) :: q0)) 1000 60 19 m52.args m52.h) m52.v m52.h' = true := by kernel_rfl
theorem m52_ok {σ : Nat → Int} {W0 : World} (hL : L0 W0) : MemoOk Tryz.prog 26623 σ W0 19 m52 := memo_ok fit (Known2.nil σ) (FnsOk.cons (pure_fn_ok (l2_ok hL)) ((q0_ok hL))) m52_run
noncomputable def l9 : List (Memo) := m52 :: m50 :: m49 :: m48 :: m47 :: m46 :: []
theorem l9_ok {σ : Nat → Int} {W0 : World} (hL : L0 W0) : ∀ x ∈ l9, MemoOk Tryz.prog 26623 σ W0 19 x := all_cons (m52_ok hL) (all_cons (m50_ok hL) (all_cons (m49_ok hL) (all_cons (m48_ok hL) (all_cons (m47_ok hL) (all_cons (m46_ok hL) (all_nil))))))
theorem run9 : isTrue (evCall (cxX Tryz.prog bad [] [] ((8, numExtE [(0, 20, .lit 4)]) :: (19, frameFn l9) :: q10)) 1000 60 3 [.int .i64 (.var 0), bT] (sentH 453 20 errTab)) = true := by kernel_rfl
theorem case9 : CaseS [] [] [(0, 20, .lit 4)] [.int .i64 (.var 0), bT] := caseS (fun hL hk hT => FnsOk.cons (hT.ok fit) (FnsOk.cons (frame_fn_ok (l9_ok hL)) ((q10_ok hL)))) run9
noncomputable def m53 : Memo := ⟨[bT, I 6, .snil, .slice 33 0 3 3 1 true], h5, .agg [.slice 157 0 2 2 1 false, I 6, .snil, bT], h6⟩
theorem m53_run : ranTo (evCall (cxX Tryz.prog bad [] [] ((84, frameFn [m1, m2]) :: q0)) 1000 60 9 m53.args m53.h) m53.v m53.h' = true := by kernel_rfl
theorem m53_ok {σ : Nat → Int} {W0 : World} (hL : L0 W0) : MemoOk Tryz.prog 26623 σ W0 9 m53 := memo_ok fit (Known2.nil σ) (FnsOk.cons (frame_fn_ok (all_cons (m1_ok hL) (all_cons (m2_ok hL) (all_nil)))) ((q0_ok hL))) m53_run
noncomputable def h73 : H := hUpd h41 733 [] [] [(214, 1, [I 0, I 6])]
noncomputable def m54 : Memo := ⟨[.ptr 226 0, .agg [.slice 157 0 2 2 1 false, I 6, .snil, bT]], h7, .tuple [I 0, .inil], h73⟩
theorem m54_run : ranTo (evCall (cxX Tryz.prog bad [] [] ((44, pureFn l0) :: q0)) 1000 60 88 m54.args m54.h) m54.v m54.h' = true := by kernel_rfl
theorem m54_ok {σ : Nat → Int} {W0 : World} (hL : L0 W0) : MemoOk Tryz.prog 26623 σ W0 88 m54 := memo_ok fit (Known2.nil σ) (FnsOk.cons (pure_fn_ok (l0_ok hL)) ((q0_ok hL))) m54_run
noncomputable def h74 : H := hUpc h42 170 [] [] [] [(161, 0, 1, I 6)]
noncomputable def h75 : H := hUpc h43 888 [] [] [(214, 1, [I 0, I 6])] [(161, 0, 1, I 6)]
noncomputable def m55 : Memo := ⟨[.agg [I 16, I 24, I 8, I 12, I 8, I 6, I 60, .slice 161 0 1 1 4 true]], h74, .tuple [.ptr 887 0, .inil], h75⟩
noncomputable def q11 : Fns := [(88, frameFn [m54]), (295, isFn 453), (122, atoiFullFn 384), (123, itoaFullFn), (195, joinFn), (307, countFn), (352, indexFn), (308, cutOf Tryz.prog 26623 bad [(307, countFn), (352, indexFn)] 1000 20 308)]
theorem q11_ok {σ : Nat → Int} {W0 : World} (hL : L0 W0) : FnsOk Tryz.prog 26623 σ W0 q11 := FnsOk.cons (frame_fn_ok (all_cons (m54_ok hL) (all_nil))) (FnsOk.cons (ext_is hL) (FnsOk.cons (ext_atoi hL) (FnsOk.cons (ext_itoa hL) (FnsOk.cons (ext_join hL) (FnsOk.cons (ext_count hL) (FnsOk.cons (ext_index hL) (FnsOk.cons (ext_cut308 hL) (FnsOk.nil))))))))
theorem m55_run : ranTo (evCall (cxX Tryz.prog bad [] [] ((44, pureFn l1) :: q11)) 1000 60 10 m55.args m55.h) m55.v m55.h' = true := by kernel_rfl
theorem m55_ok {σ : Nat → Int} {W0 : World} (hL : L0 W0) : MemoOk Tryz.prog 26623 σ W0 10 m55 := memo_ok fit (Known2.nil σ) (FnsOk.cons (pure_fn_ok (l1_ok hL)) ((q11_ok hL))) m55_run
noncomputable def h76 : H := hUpd h44 891 [] [] [(214, 1, [I 0, I 6])]
noncomputable def h77 : H := hUpd h45 1196 [] [] [(214, 1, [I 0, I 5])]
noncomputable def m56 : Memo := ⟨[.ptr 226 0, I 0], h76, .agg [I 0, I 3, I 0, U 0, I 0, U 0, IZ (-1), I 0], h77⟩
theorem m56_run : ranTo (evCall (cxX Tryz.prog bad [] [] ((44, pureFn l2) :: q0)) 1000 60 19 m56.args m56.h) m56.v m56.h' = true := by kernel_rfl
theorem m56_ok {σ : Nat → Int} {W0 : World} (hL : L0 W0) : MemoOk Tryz.prog 26623 σ W0 19 m56 := memo_ok fit (Known2.nil σ) (FnsOk.cons (pure_fn_ok (l2_ok hL)) ((q0_ok hL))) m56_run
noncomputable def h78 : H := hUpd h77 1233 [] [] []
noncomputable def h79 : H := hUpd h47 1404 [] [] [(214, 1, [I 0, I 4])]
noncomputable def m57 : Memo := ⟨[.ptr 226 0, I 0], h78, .agg [I 0, I 1, I 0, U 0, I 0, U 0, IZ (-1), I 0], h79⟩
theorem m57_run : ranTo (evCall (cxX Tryz.prog bad [] [] ((44, pureFn l2) :: q0)) 1000 60 19 m57.args m57.h) m57.v m57.h' = true := by kernel_rfl
theorem m57_ok {σ : Nat → Int} {W0 : World} (hL : L0 W0) : MemoOk Tryz.prog 26623 σ W0 19 m57 := memo_ok fit (Known2.nil σ) (FnsOk.cons (pure_fn_ok (l2_ok hL)) ((q0_ok hL))) m57_run
noncomputable def h80 : H := hUpd h79 1441 [] [] []
noncomputable def h81 : H := hUpd h49 1612 [] [] [(214, 1, [I 0, I 3])]
noncomputable def m58 : Memo := ⟨[.ptr 226 0, I 0], h80, .agg [I 0, I 3, I 0, U 0, I 0, U 0, IZ (-1), I 0], h81⟩
theorem m58_run : ranTo (evCall (cxX Tryz.prog bad [] [] ((44, pureFn l2) :: q0)) 1000 60 19 m58.args m58.h) m58.v m58.h' = true := by kernel_rfl
theorem m58_ok {σ : Nat → Int} {W0 : World} (hL : L0 W0) : MemoOk Tryz.prog 26623 σ W0 19 m58 := memo_ok fit (Known2.nil σ) (FnsOk.cons (pure_fn_ok (l2_ok hL)) ((q0_ok hL))) m58_run
noncomputable def h82 : H := hUpd h81 1649 [] [] []
noncomputable def h83 : H := hUpd h51 1820 [] [] [(214, 1, [I 0, I 2])]
noncomputable def m59 : Memo := ⟨[.ptr 226 0, I 0], h82, .agg [I 0, I 1, I 0, U 0, I 0, U 0, IZ (-1), I 0], h83⟩
theorem m59_run : ranTo (evCall (cxX Tryz.prog bad [] [] ((44, pureFn l2) :: q0)) 1000 60 19 m59.args m59.h) m59.v m59.h' = true := by kernel_rfl
theorem m59_ok {σ : Nat → Int} {W0 : World} (hL : L0 W0) : MemoOk Tryz.prog 26623 σ W0 19 m59 := memo_ok fit (Known2.nil σ) (FnsOk.cons (pure_fn_ok (l2_ok hL)) ((q0_ok hL))) m59_run
noncomputable def h84 : H := hUpd h83 1857 [] [] []
noncomputable def h85 : H := hUpd h55 2028 [] [] [(214, 1, [I 0, I 1])]
noncomputable def m60 : Memo := ⟨[.ptr 226 0, I 0], h84, .agg [I 0, I 3, I 0, U 0, I 0, U 0, IZ (-1), I 0], h85⟩
theorem m60_run : ranTo (evCall (cxX Tryz.prog bad [] [] ((44, pureFn l2) :: q0)) 1000 60 19 m60.args m60.h) m60.v m60.h' = true := by kernel_rfl
theorem m60_ok {σ : Nat → Int} {W0 : World} (hL : L0 W0) : MemoOk Tryz.prog 26623 σ W0 19 m60 := memo_ok fit (Known2.nil σ) (FnsOk.cons (pure_fn_ok (l2_ok hL)) ((q0_ok hL))) m60_run
noncomputable def h86 : H := hUpd h85 2065 [] [] []
noncomputable def h87 : H := hUpd h72 2236 [] [] [(214, 1, [I 0, I 0])]
noncomputable def m61 : Memo := ⟨[.ptr 226 0, I 0], h86, .agg [I 0, I 1, I 0, U 0, I 0, U 0, IZ (-1), I 0], h87⟩
theorem m61_run : ranTo (evCall (cxX Tryz.prog bad [] [] ((44, pureFn l2) :: q0)) 1000 60 19 m61.args m61.h) m61.v m61.h' = true := by kernel_rfl
theorem m61_ok {σ : Nat → Int} {W0 : World} (hL : L0 W0) : MemoOk Tryz.prog 26623 σ W0 19 m61 := memo_ok fit (Known2.nil σ) (FnsOk.cons (pure_fn_ok (l2_ok hL)) ((q0_ok hL))) m61_run
noncomputable def h88 : H := hUpd h87 2273 [] [] []
noncomputable def h89 : H := hUpc h53 2393 [] [] [(182, 0, [I 16, .slice 1110 0 1 1 10 false, I 5]),
  (214, 0, [IZ (-1), I 2147483641])] [(226, 0, 8, I 7)]
noncomputable def m62 : Memo := ⟨[.ptr 226 0, I 0], h88, .agg [I 0, I 5, I 0, U 0, I 0, U 0, IZ (-1), I 6], h89⟩
theorem m62_run : ranTo (evCall (cxX Tryz.prog bad [] [] ((44, pureFn l3) :: q0)) 1000 60 19 m62.args m62.h) m62.v m62.h' = true := by kernel_rfl
theorem m62_ok {σ : Nat → Int} {W0 : World} (hL : L0 W0) : MemoOk Tryz.prog 26623 σ W0 19 m62 := memo_ok fit (Known2.nil σ) (FnsOk.cons (pure_fn_ok (l3_ok hL)) ((q0_ok hL))) m62_run
noncomputable def l10 : List (Memo) := m62 :: m61 :: m60 :: m59 :: m58 :: m57 :: m56 :: []
theorem l10_ok {σ : Nat → Int} {W0 : World} (hL : L0 W0) : ∀ x ∈ l10, MemoOk Tryz.prog 26623 σ W0 19 x := all_cons (m62_ok hL) (all_cons (m61_ok hL) (all_cons (m60_ok hL) (all_cons (m59_ok hL) (all_cons (m58_ok hL) (all_cons (m57_ok hL) (all_cons (m56_ok hL) (all_nil)))))))
noncomputable def q12 : Fns := [(7, pureFn [p0]), (9, frameFn [m53]), (10, frameFn [m55]), (295, isFn 453), (122, atoiFullFn 384), (123, itoaFullFn), (195, joinFn), (307, countFn), (352, indexFn), (308, cutOf Tryz.prog 26623 bad [(307, countFn), (352, indexFn)] 1000 20 308)]
theorem q12_ok {σ : Nat → Int} {W0 : World} (hL : L0 W0) : FnsOk Tryz.prog 26623 σ W0 q12 := FnsOk.cons (pure_fn_ok (all_cons (p0_ok hL) (all_nil))) (FnsOk.cons (frame_fn_ok (all_cons (m53_ok hL) (all_nil))) (FnsOk.cons (frame_fn_ok (all_cons (m55_ok hL) (all_nil))) (FnsOk.cons (ext_is hL) (FnsOk.cons (ext_atoi hL) (FnsOk.cons (ext_itoa hL) (FnsOk.cons (ext_join hL) (FnsOk.cons (ext_count hL) (FnsOk.cons (ext_index hL) (FnsOk.cons (ext_cut308 hL) (FnsOk.nil))))))))))
theorem run10 : isTrue (evCall (cxX Tryz.prog bad [] [] ((8, numExtE [(0, 20, .lit 5)]) :: (19, frameFn l10) :: q12)) 1000 60 3 [.int .i64 (.var 0), bF] (sentH 453 20 errTab)) = true := by kernel_rfl
theorem case10 : CaseS [] [] [(0, 20, .lit 5)] [.int .i64 (.var 0), bF] := caseS (fun hL hk hT => FnsOk.cons (hT.ok fit) (FnsOk.cons (frame_fn_ok (l10_ok hL)) ((q12_ok hL)))) run10
noncomputable def h90 : H := hUpd h72 2314 [] [] [(214, 1, [I 0, I 1000])]
noncomputable def h91 : H := hUpc h55 2485 [] [] [(182, 0, [I 16, .slice 1110 0 1 1 10 false, I 6]),
  (214, 0, [IZ (-1), I 2147483640])] [(226, 0, 8, I 7)]
noncomputable def m63 : Memo := ⟨[.ptr 226 0, I 0], h90, .agg [I 0, I 3, I 0, U 0, I 0, U 0, IZ (-1), I 0], h91⟩
theorem m63_run : ranTo (evCall (cxX Tryz.prog bad [] [] ((44, pureFn l2) :: q0)) 1000 60 19 m63.args m63.h) m63.v m63.h' = true := by kernel_rfl
theorem m63_ok {σ : Nat → Int} {W0 : World} (hL : L0 W0) : MemoOk Tryz.prog 26623 σ W0 19 m63 := memo_ok fit (Known2.nil σ) (FnsOk.cons (pure_fn_ok (l2_ok hL)) ((q0_ok hL))) m63_run
noncomputable def l11 : List (Memo) := m63 :: m61 :: m60 :: m59 :: m58 :: m57 :: m56 :: []
theorem l11_ok {σ : Nat → Int} {W0 : World} (hL : L0 W0) : ∀ x ∈ l11, MemoOk Tryz.prog 26623 σ W0 19 x := all_cons (m63_ok hL) (all_cons (m61_ok hL) (all_cons (m60_ok hL) (all_cons (m59_ok hL) (all_cons (m58_ok hL) (all_cons (m57_ok hL) (all_cons (m56_ok hL) (all_nil)))))))
theorem run11 : isTrue (evCall (cxX Tryz.prog bad [] [] ((8, numExtE [(0, 20, .lit 5)]) :: (19, frameFn l11) :: q12)) 1000 60 3 [.int .i64 (.var 0), bT] (sentH 453 20 errTab)) = true := by kernel_rfl
theorem case11 : CaseS [] [] [(0, 20, .lit 5)] [.int .i64 (.var 0), bT] := caseS (fun hL hk hT => FnsOk.cons (hT.ok fit) (FnsOk.cons (frame_fn_ok (l11_ok hL)) ((q12_ok hL)))) run11
noncomputable def m64 : Memo := ⟨[bT, I 7, .snil, .slice 33 0 3 3 1 true], h5, .agg [.slice 157 0 2 2 1 false, I 7, .snil, bT], h6⟩
theorem m64_run : ranTo (evCall (cxX Tryz.prog bad [] [] ((84, frameFn [m1, m2]) :: q0)) 1000 60 9 m64.args m64.h) m64.v m64.h' = true := by kernel_rfl
theorem m64_ok {σ : Nat → Int} {W0 : World} (hL : L0 W0) : MemoOk Tryz.prog 26623 σ W0 9 m64 := memo_ok fit (Known2.nil σ) (FnsOk.cons (frame_fn_ok (all_cons (m1_ok hL) (all_cons (m2_ok hL) (all_nil)))) ((q0_ok hL))) m64_run
noncomputable def h92 : H := hUpd h56 733 [] [] [(214, 1, [I 0, I 7])]
noncomputable def m65 : Memo := ⟨[.ptr 226 0, .agg [.slice 157 0 2 2 1 false, I 7, .snil, bT]], h7, .tuple [I 0, .inil], h92⟩
theorem m65_run : ranTo (evCall (cxX Tryz.prog bad [] [] ((44, pureFn l0) :: q0)) 1000 60 88 m65.args m65.h) m65.v m65.h' = true := by kernel_rfl
theorem m65_ok {σ : Nat → Int} {W0 : World} (hL : L0 W0) : MemoOk Tryz.prog 26623 σ W0 88 m65 := memo_ok fit (Known2.nil σ) (FnsOk.cons (pure_fn_ok (l0_ok hL)) ((q0_ok hL))) m65_run
noncomputable def h93 : H := hUpc h57 170 [] [] [] [(161, 0, 1, I 7)]
noncomputable def h94 : H := hUpc h58 888 [] [] [(214, 1, [I 0, I 7])] [(161, 0, 1, I 7)]
noncomputable def m66 : Memo := ⟨[.agg [I 16, I 24, I 8, I 12, I 8, I 6, I 60, .slice 161 0 1 1 4 true]], h93, .tuple [.ptr 887 0, .inil], h94⟩
noncomputable def q13 : Fns := [(88, frameFn [m65]), (295, isFn 453), (122, atoiFullFn 384), (123, itoaFullFn), (195, joinFn), (307, countFn), (352, indexFn), (308, cutOf Tryz.prog 26623 bad [(307, countFn), (352, indexFn)] 1000 20 308)]
theorem q13_ok {σ : Nat → Int} {W0 : World} (hL : L0 W0) : FnsOk Tryz.prog 26623 σ W0 q13 := FnsOk.cons (frame_fn_ok (all_cons (m65_ok hL) (all_nil))) (FnsOk.cons (ext_is hL) (FnsOk.cons (ext_atoi hL) (FnsOk.cons (ext_itoa hL) (FnsOk.cons (ext_join hL) (FnsOk.cons (ext_count hL) (FnsOk.cons (ext_index hL) (FnsOk.cons (ext_cut308 hL) (FnsOk.nil))))))))
theorem m66_run : ranTo (evCall (cxX Tryz.prog bad [] [] ((44, pureFn l1) :: q13)) 1000 60 10 m66.args m66.h) m66.v m66.h' = true := by kernel_rfl
theorem m66_ok {σ : Nat → Int} {W0 : World} (hL : L0 W0) : MemoOk Tryz.prog 26623 σ W0 10 m66 := memo_ok fit (Known2.nil σ) (FnsOk.cons (pure_fn_ok (l1_ok hL)) ((q13_ok hL))) m66_run
noncomputable def h95 : H := hUpd h59 891 [] [] [(214, 1, [I 0, I 7])]
noncomputable def h96 : H := hUpd h60 1196 [] [] [(214, 1, [I 0, I 6])]
noncomputable def m67 : Memo := ⟨[.ptr 226 0, I 0], h95, .agg [I 0, I 3, I 0, U 0, I 0, U 0, IZ (-1), I 0], h96⟩
theorem m67_run : ranTo (evCall (cxX Tryz.prog bad [] [] ((44, pureFn l2) :: q0)) 1000 60 19 m67.args m67.h) m67.v m67.h' = true := by kernel_rfl
theorem m67_ok {σ : Nat → Int} {W0 : World} (hL : L0 W0) : MemoOk Tryz.prog 26623 σ W0 19 m67 := memo_ok fit (Known2.nil σ) (FnsOk.cons (pure_fn_ok (l2_ok hL)) ((q0_ok hL))) m67_run
noncomputable def h97 : H := hUpd h96 1233 [] [] []
noncomputable def h98 : H := hUpd h62 1404 [] [] [(214, 1, [I 0, I 5])]
noncomputable def m68 : Memo := ⟨[.ptr 226 0, I 0], h97, .agg [I 0, I 1, I 0, U 0, I 0, U 0, IZ (-1), I 0], h98⟩
theorem m68_run : ranTo (evCall (cxX Tryz.prog bad [] [] ((44, pureFn l2) :: q0)) 1000 60 19 m68.args m68.h) m68.v m68.h' = true := by kernel_rfl
theorem m68_ok {σ : Nat → Int} {W0 : World} (hL : L0 W0) : MemoOk Tryz.prog 26623 σ W0 19 m68 := memo_ok fit (Known2.nil σ) (FnsOk.cons (pure_fn_ok (l2_ok hL)) ((q0_ok hL))) m68_run
noncomputable def h99 : H := hUpd h98 1441 [] [] []
noncomputable def h100 : H := hUpd h64 1612 [] [] [(214, 1, [I 0, I 4])]
noncomputable def m69 : Memo := ⟨[.ptr 226 0, I 0], h99, .agg [I 0, I 3, I 0, U 0, I 0, U 0, IZ (-1), I 0], h100⟩
theorem m69_run : ranTo (evCall (cxX Tryz.prog bad [] [] ((44, pureFn l2) :: q0)) 1000 60 19 m69.args m69.h) m69.v m69.h' = true := by kernel_rfl
theorem m69_ok {σ : Nat → Int} {W0 : World} (hL : L0 W0) : MemoOk Tryz.prog 26623 σ W0 19 m69 := memo_ok fit (Known2.nil σ) (FnsOk.cons (pure_fn_ok (l2_ok hL)) ((q0_ok hL))) m69_run
noncomputable def h101 : H := hUpd h100 1649 [] [] []
noncomputable def h102 : H := hUpd h66 1820 [] [] [(214, 1, [I 0, I 3])]
noncomputable def m70 : Memo := ⟨[.ptr 226 0, I 0], h101, .agg [I 0, I 1, I 0, U 0, I 0, U 0, IZ (-1), I 0], h102⟩
theorem m70_run : ranTo (evCall (cxX Tryz.prog bad [] [] ((44, pureFn l2) :: q0)) 1000 60 19 m70.args m70.h) m70.v m70.h' = true := by kernel_rfl
theorem m70_ok {σ : Nat → Int} {W0 : World} (hL : L0 W0) : MemoOk Tryz.prog 26623 σ W0 19 m70 := memo_ok fit (Known2.nil σ) (FnsOk.cons (pure_fn_ok (l2_ok hL)) ((q0_ok hL))) m70_run
noncomputable def h103 : H := hUpd h102 1857 [] [] []
noncomputable def h104 : H := hUpd h68 2028 [] [] [(214, 1, [I 0, I 2])]
noncomputable def m71 : Memo := ⟨[.ptr 226 0, I 0], h103, .agg [I 0, I 3, I 0, U 0, I 0, U 0, IZ (-1), I 0], h104⟩
theorem m71_run : ranTo (evCall (cxX Tryz.prog bad [] [] ((44, pureFn l2) :: q0)) 1000 60 19 m71.args m71.h) m71.v m71.h' = true := by kernel_rfl
theorem m71_ok {σ : Nat → Int} {W0 : World} (hL : L0 W0) : MemoOk Tryz.prog 26623 σ W0 19 m71 := memo_ok fit (Known2.nil σ) (FnsOk.cons (pure_fn_ok (l2_ok hL)) ((q0_ok hL))) m71_run
noncomputable def h105 : H := hUpd h104 2065 [] [] []
noncomputable def h106 : H := hUpd h72 2236 [] [] [(214, 1, [I 0, I 1])]
noncomputable def m72 : Memo := ⟨[.ptr 226 0, I 0], h105, .agg [I 0, I 1, I 0, U 0, I 0, U 0, IZ (-1), I 0], h106⟩
theorem m72_run : ranTo (evCall (cxX Tryz.prog bad [] [] ((44, pureFn l2) :: q0)) 1000 60 19 m72.args m72.h) m72.v m72.h' = true := by kernel_rfl
theorem m72_ok {σ : Nat → Int} {W0 : World} (hL : L0 W0) : MemoOk Tryz.prog 26623 σ W0 19 m72 := memo_ok fit (Known2.nil σ) (FnsOk.cons (pure_fn_ok (l2_ok hL)) ((q0_ok hL))) m72_run
noncomputable def h107 : H := hUpd h106 2273 [] [] []
noncomputable def h108 : H := hUpd h91 2444 [] [] [(214, 1, [I 0, I 0])]
noncomputable def m73 : Memo := ⟨[.ptr 226 0, I 0], h107, .agg [I 0, I 3, I 0, U 0, I 0, U 0, IZ (-1), I 0], h108⟩
theorem m73_run : ranTo (evCall (cxX Tryz.prog bad [] [] ((44, pureFn l2) :: q0)) 1000 60 19 m73.args m73.h) m73.v m73.h' = true := by kernel_rfl
theorem m73_ok {σ : Nat → Int} {W0 : World} (hL : L0 W0) : MemoOk Tryz.prog 26623 σ W0 19 m73 := memo_ok fit (Known2.nil σ) (FnsOk.cons (pure_fn_ok (l2_ok hL)) ((q0_ok hL))) m73_run
noncomputable def h109 : H := hUpd h108 2481 [] [] []
noncomputable def h110 : H := hUpc h70 2601 [] [] [(182, 0, [I 16, .slice 1110 0 1 1 10 false, I 6]),
  (214, 0, [IZ (-1), I 2147483640])] [(226, 0, 8, I 8)]
noncomputable def m74 : Memo := ⟨[.ptr 226 0, I 0], h109, .agg [I 0, I 5, I 0, U 0, I 0, U 0, IZ (-1), I 6], h110⟩
theorem m74_run : ranTo (evCall (cxX Tryz.prog bad [] [] ((44, pureFn l3) :: q0)) 1000 60 19 m74.args m74.h) m74.v m74.h' = true := by kernel_rfl
theorem m74_ok {σ : Nat → Int} {W0 : World} (hL : L0 W0) : MemoOk Tryz.prog 26623 σ W0 19 m74 := memo_ok fit (Known2.nil σ) (FnsOk.cons (pure_fn_ok (l3_ok hL)) ((q0_ok hL))) m74_run
noncomputable def l12 : List (Memo) := m74 :: m73 :: m72 :: m71 :: m70 :: m69 :: m68 :: m67 :: []
theorem l12_ok {σ : Nat → Int} {W0 : World} (hL : L0 W0) : ∀ x ∈ l12, MemoOk Tryz.prog 26623 σ W0 19 x := all_cons (m74_ok hL) (all_cons (m73_ok hL) (all_cons (m72_ok hL) (all_cons (m71_ok hL) (all_cons (m70_ok hL) (all_cons (m69_ok hL) (all_cons (m68_ok hL) (all_cons (m67_ok hL) (all_nil))))))))
noncomputable def q14 : Fns := [(7, pureFn [p0]), (9, frameFn [m64]), (10, frameFn [m66]), (295, isFn 453), (122, atoiFullFn 384), (123, itoaFullFn), (195, joinFn), (307, countFn), (352, indexFn), (308, cutOf Tryz.prog 26623 bad [(307, countFn), (352, indexFn)] 1000 20 308)]
theorem q14_ok {σ : Nat → Int} {W0 : World} (hL : L0 W0) : FnsOk Tryz.prog 26623 σ W0 q14 := FnsOk.cons (pure_fn_ok (all_cons (p0_ok hL) (all_nil))) (FnsOk.cons (frame_fn_ok (all_cons (m64_ok hL) (all_nil))) (FnsOk.cons (frame_fn_ok (all_cons (m66_ok hL) (all_nil))) (FnsOk.cons (ext_is hL) (FnsOk.cons (ext_atoi hL) (FnsOk.cons (ext_itoa hL) (FnsOk.cons (ext_join hL) (FnsOk.cons (ext_count hL) (FnsOk.cons (ext_index hL) (FnsOk.cons (ext_cut308 hL) (FnsOk.nil))))))))))
theorem run12 : isTrue (evCall (cxX Tryz.prog bad [] [] ((8, numExtE [(0, 20, .lit 6)]) :: (19, frameFn l12) :: q14)) 1000 60 3 [.int .i64 (.var 0), bF] (sentH 453 20 errTab)) = true := by kernel_rfl
theorem case12 : CaseS [] [] [(0, 20, .lit 6)] [.int .i64 (.var 0), bF] := caseS (fun hL hk hT => FnsOk.cons (hT.ok fit) (FnsOk.cons (frame_fn_ok (l12_ok hL)) ((q14_ok hL)))) run12
noncomputable def h111 : H := hUpd h91 2522 [] [] [(214, 1, [I 0, I 1000])]
noncomputable def h112 : H := hUpc h72 2693 [] [] [(182, 0, [I 16, .slice 1110 0 1 1 10 false, I 7]),
  (214, 0, [IZ (-1), I 2147483639])] [(226, 0, 8, I 8)]
noncomputable def m75 : Memo := ⟨[.ptr 226 0, I 0], h111, .agg [I 0, I 1, I 0, U 0, I 0, U 0, IZ (-1), I 0], h112⟩
theorem m75_run : ranTo (evCall (cxX Tryz.prog bad [] [] ((44, pureFn l2) :: q0)) 1000 60 19 m75.args m75.h) m75.v m75.h' = true := by kernel_rfl
theorem m75_ok {σ : Nat → Int} {W0 : World} (hL : L0 W0) : MemoOk Tryz.prog 26623 σ W0 19 m75 := memo_ok fit (Known2.nil σ) (FnsOk.cons (pure_fn_ok (l2_ok hL)) ((q0_ok hL))) m75_run
noncomputable def l13 : List (Memo) := m75 :: m73 :: m72 :: m71 :: m70 :: m69 :: m68 :: m67 :: []
theorem l13_ok {σ : Nat → Int} {W0 : World} (hL : L0 W0) : ∀ x ∈ l13, MemoOk Tryz.prog 26623 σ W0 19 x := all_cons (m75_ok hL) (all_cons (m73_ok hL) (all_cons (m72_ok hL) (all_cons (m71_ok hL) (all_cons (m70_ok hL) (all_cons (m69_ok hL) (all_cons (m68_ok hL) (all_cons (m67_ok hL) (all_nil))))))))
theorem run13 : isTrue (evCall (cxX Tryz.prog bad [] [] ((8, numExtE [(0, 20, .lit 6)]) :: (19, frameFn l13) :: q14)) 1000 60 3 [.int .i64 (.var 0), bT] (sentH 453 20 errTab)) = true := by kernel_rfl
theorem case13 : CaseS [] [] [(0, 20, .lit 6)] [.int .i64 (.var 0), bT] := caseS (fun hL hk hT => FnsOk.cons (hT.ok fit) (FnsOk.cons (frame_fn_ok (l13_ok hL)) ((q14_ok hL)))) run13
noncomputable def m76 : Memo := ⟨[bT, I 8, .snil, .slice 33 0 3 3 1 true], h5, .agg [.slice 157 0 2 2 1 false, I 8, .snil, bT], h6⟩
theorem m76_run : ranTo (evCall (cxX Tryz.prog bad [] [] ((84, frameFn [m1, m2]) :: q0)) 1000 60 9 m76.args m76.h) m76.v m76.h' = true := by kernel_rfl
theorem m76_ok {σ : Nat → Int} {W0 : World} (hL : L0 W0) : MemoOk Tryz.prog 26623 σ W0 9 m76 := memo_ok fit (Known2.nil σ) (FnsOk.cons (frame_fn_ok (all_cons (m1_ok hL) (all_cons (m2_ok hL) (all_nil)))) ((q0_ok hL))) m76_run
noncomputable def h113 : H := hUpd h73 733 [] [] [(214, 1, [I 0, I 8])]
noncomputable def m77 : Memo := ⟨[.ptr 226 0, .agg [.slice 157 0 2 2 1 false, I 8, .snil, bT]], h7, .tuple [I 0, .inil], h113⟩
theorem m77_run : ranTo (evCall (cxX Tryz.prog bad [] [] ((44, pureFn l0) :: q0)) 1000 60 88 m77.args m77.h) m77.v m77.h' = true := by kernel_rfl
theorem m77_ok {σ : Nat → Int} {W0 : World} (hL : L0 W0) : MemoOk Tryz.prog 26623 σ W0 88 m77 := memo_ok fit (Known2.nil σ) (FnsOk.cons (pure_fn_ok (l0_ok hL)) ((q0_ok hL))) m77_run
noncomputable def h114 : H := hUpc h74 170 [] [] [] [(161, 0, 1, I 8)]
noncomputable def h115 : H := hUpc h75 888 [] [] [(214, 1, [I 0, I 8])] [(161, 0, 1, I 8)]
noncomputable def m78 : Memo := ⟨[.agg [I 16, I 24, I 8, I 12, I 8, I 6, I 60, .slice 161 0 1 1 4 true]], h114, .tuple [.ptr 887 0, .inil], h115⟩
noncomputable def q15 : Fns := [(88, frameFn [m77]), (295, isFn 453), (122, atoiFullFn 384), (123, itoaFullFn), (195, joinFn), (307, countFn), (352, indexFn), (308, cutOf Tryz.prog 26623 bad [(307, countFn), (352, indexFn)] 1000 20 308)]
theorem q15_ok {σ : Nat → Int} {W0 : World} (hL : L0 W0) : FnsOk Tryz.prog 26623 σ W0 q15 := FnsOk.cons (frame_fn_ok (all_cons (m77_ok hL) (all_nil))) (FnsOk.cons (ext_is hL) (FnsOk.cons (ext_atoi hL) (FnsOk.cons (ext_itoa hL) (FnsOk.cons (ext_join hL) (FnsOk.cons (ext_count hL) (FnsOk.cons (ext_index hL) (FnsOk.cons (ext_cut308 hL) (FnsOk.nil))))))))
theorem m78_run : ranTo (evCall (cxX Tryz.prog bad [] [] ((44, pureFn l1) :: q15)) 1000 60 10 m78.args m78.h) m78.v m78.h' = true := by kernel_rfl
theorem m78_ok {σ : Nat → Int} {W0 : World} (hL : L0 W0) : MemoOk Tryz.prog 26623 σ W0 10 m78 := memo_ok fit (Known2.nil σ) (FnsOk.cons (pure_fn_ok (l1_ok hL)) ((q15_ok hL))) m78_run
noncomputable def h116 : H := hUpd h76 891 [] [] [(214, 1, [I 0, I 8])]
noncomputable def h117 : H := hUpd h77 1196 [] [] [(214, 1, [I 0, I 7])]
noncomputable def m79 : Memo := ⟨[.ptr 226 0, I 0], h116, .agg [I 0, I 3, I 0, U 0, I 0, U 0, IZ (-1), I 0], h117⟩
theorem m79_run : ranTo (evCall (cxX Tryz.prog bad [] [] ((44, pureFn l2) :: q0)) 1000 60 19 m79.args m79.h) m79.v m79.h' = true := by kernel_rfl
theorem m79_ok {σ : Nat → Int} {W0 : World} (hL : L0 W0) : MemoOk Tryz.prog 26623 σ W0 19 m79 := memo_ok fit (Known2.nil σ) (FnsOk.cons (pure_fn_ok (l2_ok hL)) ((q0_ok hL))) m79_run
noncomputable def h118 : H := hUpd h117 1233 [] [] []
noncomputable def h119 : H := hUpd h79 1404 [] [] [(214, 1, [I 0, I 6])]
noncomputable def m80 : Memo := ⟨[.ptr 226 0, I 0], h118, .agg [I 0, I 1, I 0, U 0, I 0, U 0, IZ (-1), I 0], h119⟩
theorem m80_run : ranTo (evCall (cxX Tryz.prog bad [] [] ((44, pureFn l2) :: q0)) 1000 60 19 m80.args m80.h) m80.v m80.h' = true := by kernel_rfl
theorem m80_ok {σ : Nat → Int} {W0 : World} (hL : L0 W0) : MemoOk Tryz.prog 26623 σ W0 19 m80 := memo_ok fit (Known2.nil σ) (FnsOk.cons (pure_fn_ok (l2_ok hL)) ((q0_ok hL))) m80_run
noncomputable def h120 : H := hUpd h119 1441 [] [] []
noncomputable def h121 : H := hUpd h81 1612 [] [] [(214, 1, [I 0, I 5])]
noncomputable def m81 : Memo := ⟨[.ptr 226 0, I 0], h120, .agg [I 0, I 3, I 0, U 0, I 0, U 0, IZ (-1), I 0], h121⟩
theorem m81_run : ranTo (evCall (cxX Tryz.prog bad [] [] ((44, pureFn l2) :: q0)) 1000 60 19 m81.args m81.h) m81.v m81.h' = true := by kernel_rfl
theorem m81_ok {σ : Nat → Int} {W0 : World} (hL : L0 W0) : MemoOk Tryz.prog 26623 σ W0 19 m81 := memo_ok fit (Known2.nil σ) (FnsOk.cons (pure_fn_ok (l2_ok hL)) ((q0_ok hL))) m81_run
noncomputable def h122 : H := hUpd h121 1649 [] [] []
noncomputable def h123 : H := hUpd h83 1820 [] [] [(214, 1, [I 0, I 4])]
noncomputable def m82 : Memo := ⟨[.ptr 226 0, I 0], h122, .agg [I 0, I 1, I 0, U 0, I 0, U 0, IZ (-1), I 0], h123⟩
theorem m82_run : ranTo (evCall (cxX Tryz.prog bad [] [] ((44, pureFn l2) :: q0)) 1000 60 19 m82.args m82.h) m82.v m82.h' = true := by kernel_rfl
theorem m82_ok {σ : Nat → Int} {W0 : World} (hL : L0 W0) : MemoOk Tryz.prog 26623 σ W0 19 m82 := memo_ok fit (Known2.nil σ) (FnsOk.cons (pure_fn_ok (l2_ok hL)) ((q0_ok hL))) m82_run
noncomputable def h124 : H := hUpd h123 1857 [] [] []
noncomputable def h125 : H := hUpd h85 2028 [] [] [(214, 1, [I 0, I 3])]
noncomputable def m83 : Memo := ⟨[.ptr 226 0, I 0], h124, .agg [I 0, I 3, I 0, U 0, I 0, U 0, IZ (-1), I 0], h125⟩
theorem m83_run : ranTo (evCall (cxX Tryz.prog bad [] [] ((44, pureFn l2) :: q0)) 1000 60 19 m83.args m83.h) m83.v m83.h' = true := by kernel_rfl
theorem m83_ok {σ : Nat → Int} {W0 : World} (hL : L0 W0) : MemoOk Tryz.prog 26623 σ W0 19 m83 := memo_ok fit (Known2.nil σ) (FnsOk.cons (pure_fn_ok (l2_ok hL)) ((q0_ok hL))) m83_run
noncomputable def h126 : H := hUpd h125 2065 [] [] []
noncomputable def h127 : H := hUpd h87 2236 [] [] [(214, 1, [I 0, I 2])]
noncomputable def m84 : Memo := ⟨[.ptr 226 0, I 0], h126, .agg [I 0, I 1, I 0, U 0, I 0, U 0, IZ (-1), I 0], h127⟩
theorem m84_run : ranTo (evCall (cxX Tryz.prog bad [] [] ((44, pureFn l2) :: q0)) 1000 60 19 m84.args m84.h) m84.v m84.h' = true := by kernel_rfl
theorem m84_ok {σ : Nat → Int} {W0 : World} (hL : L0 W0) : MemoOk Tryz.prog 26623 σ W0 19 m84 := memo_ok fit (Known2.nil σ) (FnsOk.cons (pure_fn_ok (l2_ok hL)) ((q0_ok hL))) m84_run
noncomputable def h128 : H := hUpd h127 2273 [] [] []
noncomputable def h129 : H := hUpd h91 2444 [] [] [(214, 1, [I 0, I 1])]
noncomputable def m85 : Memo := ⟨[.ptr 226 0, I 0], h128, .agg [I 0, I 3, I 0, U 0, I 0, U 0, IZ (-1), I 0], h129⟩
theorem m85_run : ranTo (evCall (cxX Tryz.prog bad [] [] ((44, pureFn l2) :: q0)) 1000 60 19 m85.args m85.h) m85.v m85.h' = true := by kernel_rfl
theorem m85_ok {σ : Nat → Int} {W0 : World} (hL : L0 W0) : MemoOk Tryz.prog 26623 σ W0 19 m85 := memo_ok fit (Known2.nil σ) (FnsOk.cons (pure_fn_ok (l2_ok hL)) ((q0_ok hL))) m85_run
noncomputable def h130 : H := hUpd h129 2481 [] [] []
noncomputable def h131 : H := hUpd h112 2652 [] [] [(214, 1, [I 0, I 0])]
noncomputable def m86 : Memo := ⟨[.ptr 226 0, I 0], h130, .agg [I 0, I 1, I 0, U 0, I 0, U 0, IZ (-1), I 0], h131⟩
theorem m86_run : ranTo (evCall (cxX Tryz.prog bad [] [] ((44, pureFn l2) :: q0)) 1000 60 19 m86.args m86.h) m86.v m86.h' = true := by kernel_rfl
theorem m86_ok {σ : Nat → Int} {W0 : World} (hL : L0 W0) : MemoOk Tryz.prog 26623 σ W0 19 m86 := memo_ok fit (Known2.nil σ) (FnsOk.cons (pure_fn_ok (l2_ok hL)) ((q0_ok hL))) m86_run
noncomputable def h132 : H := hUpd h131 2689 [] [] []
noncomputable def h133 : H := hUpc h131 2809 [] [] [(225, 0, [.slice 886 0 0 1 1 false])] [(186, 0, 9, I 4), (186, 0, 10, I 6), (226, 0, 8, I 9)]
noncomputable def m87 : Memo := ⟨[.ptr 226 0, I 0], h132, .agg [I 0, I 5, I 0, U 0, I 0, U 0, IZ (-1), I 6], h133⟩
theorem m87_run : ranTo (evCall (cxX Tryz.prog bad [] [] ((44, pureFn l3) :: q0)) 1000 60 19 m87.args m87.h) m87.v m87.h' = true := by kernel_rfl
theorem m87_ok {σ : Nat → Int} {W0 : World} (hL : L0 W0) : MemoOk Tryz.prog 26623 σ W0 19 m87 := memo_ok fit (Known2.nil σ) (FnsOk.cons (pure_fn_ok (l3_ok hL)) ((q0_ok hL))) m87_run
noncomputable def l14 : List (Memo) := m87 :: m86 :: m85 :: m84 :: m83 :: m82 :: m81 :: m80 :: m79 :: []
theorem l14_ok {σ : Nat → Int} {W0 : World} (hL : L0 W0) : ∀ x ∈ l14, MemoOk Tryz.prog 26623 σ W0 19 x := all_cons (m87_ok hL) (all_cons (m86_ok hL) (all_cons (m85_ok hL) (all_cons (m84_ok hL) (all_cons (m83_ok hL) (all_cons (m82_ok hL) (all_cons (m81_ok hL) (all_cons (m80_ok hL) (all_cons (m79_ok hL) (all_nil)))))))))
noncomputable def q16 : Fns := [(7, pureFn [p0]), (9, frameFn [m76]), (10, frameFn [m78]), (295, isFn 453), (122, atoiFullFn 384), (123, itoaFullFn), (195, joinFn), (307, countFn), (352, indexFn), (308, cutOf Tryz.prog 26623 bad [(307, countFn), (352, indexFn)] 1000 20 308)]
theorem q16_ok {σ : Nat → Int} {W0 : World} (hL : L0 W0) : FnsOk Tryz.prog 26623 σ W0 q16 := FnsOk.cons (pure_fn_ok (all_cons (p0_ok hL) (all_nil))) (FnsOk.cons (frame_fn_ok (all_cons (m76_ok hL) (all_nil))) (FnsOk.cons (frame_fn_ok (all_cons (m78_ok hL) (all_nil))) (FnsOk.cons (ext_is hL) (FnsOk.cons (ext_atoi hL) (FnsOk.cons (ext_itoa hL) (FnsOk.cons (ext_join hL) (FnsOk.cons (ext_count hL) (FnsOk.cons (ext_index hL) (FnsOk.cons (ext_cut308 hL) (FnsOk.nil))))))))))
theorem run14 : isTrue (evCall (cxX Tryz.prog bad [] [] ((8, numExtE [(0, 20, .lit 7)]) :: (19, frameFn l14) :: q16)) 1000 60 3 [.int .i64 (.var 0), bF] (sentH 453 20 errTab)) = true := by kernel_rfl
theorem case14 : CaseS [] [] [(0, 20, .lit 7)] [.int .i64 (.var 0), bF] := caseS (fun hL hk hT => FnsOk.cons (hT.ok fit) (FnsOk.cons (frame_fn_ok (l14_ok hL)) ((q16_ok hL)))) run14
noncomputable def h134 : H := hUpd h112 2730 [] [] [(214, 1, [I 0, I 1000])]
noncomputable def h135 : H := hUpc h96 2901 [] [] [(182, 0, [I 16, .slice 1110 0 1 1 10 false, I 8]),
  (214, 0, [IZ (-1), I 2147483638]),
  (214, 1, [I 0, I 999])] [(226, 0, 8, I 9)]
noncomputable def m88 : Memo := ⟨[.ptr 226 0, I 0], h134, .agg [I 0, I 3, I 0, U 0, I 0, U 0, IZ (-1), I 0], h135⟩
theorem m88_run : ranTo (evCall (cxX Tryz.prog bad [] [] ((44, pureFn l2) :: q0)) 1000 60 19 m88.args m88.h) m88.v m88.h' = true := by kernel_rfl
theorem m88_ok {σ : Nat → Int} {W0 : World} (hL : L0 W0) : MemoOk Tryz.prog 26623 σ W0 19 m88 := memo_ok fit (Known2.nil σ) (FnsOk.cons (pure_fn_ok (l2_ok hL)) ((q0_ok hL))) m88_run
noncomputable def l15 : List (Memo) := m88 :: m86 :: m85 :: m84 :: m83 :: m82 :: m81 :: m80 :: m79 :: []
theorem l15_ok {σ : Nat → Int} {W0 : World} (hL : L0 W0) : ∀ x ∈ l15, MemoOk Tryz.prog 26623 σ W0 19 x := all_cons (m88_ok hL) (all_cons (m86_ok hL) (all_cons (m85_ok hL) (all_cons (m84_ok hL) (all_cons (m83_ok hL) (all_cons (m82_ok hL) (all_cons (m81_ok hL) (all_cons (m80_ok hL) (all_cons (m79_ok hL) (all_nil)))))))))
theorem run15 : isTrue (evCall (cxX Tryz.prog bad [] [] ((8, numExtE [(0, 20, .lit 7)]) :: (19, frameFn l15) :: q16)) 1000 60 3 [.int .i64 (.var 0), bT] (sentH 453 20 errTab)) = true := by kernel_rfl
theorem case15 : CaseS [] [] [(0, 20, .lit 7)] [.int .i64 (.var 0), bT] := caseS (fun hL hk hT => FnsOk.cons (hT.ok fit) (FnsOk.cons (frame_fn_ok (l15_ok hL)) ((q16_ok hL)))) run15
noncomputable def m89 : Memo := ⟨[bT, I 9, .snil, .slice 33 0 3 3 1 true], h5, .agg [.slice 157 0 2 2 1 false, I 9, .snil, bT], h6⟩
theorem m89_run : ranTo (evCall (cxX Tryz.prog bad [] [] ((84, frameFn [m1, m2]) :: q0)) 1000 60 9 m89.args m89.h) m89.v m89.h' = true := by kernel_rfl
theorem m89_ok {σ : Nat → Int} {W0 : World} (hL : L0 W0) : MemoOk Tryz.prog 26623 σ W0 9 m89 := memo_ok fit (Known2.nil σ) (FnsOk.cons (frame_fn_ok (all_cons (m1_ok hL) (all_cons (m2_ok hL) (all_nil)))) ((q0_ok hL))) m89_run
noncomputable def h136 : H := hUpd h113 733 [] [] [(214, 1, [I 0, I 9])]
noncomputable def m90 : Memo := ⟨[.ptr 226 0, .agg [.slice 157 0 2 2 1 false, I 9, .snil, bT]], h7, .tuple [I 0, .inil], h136⟩
theorem m90_run : ranTo (evCall (cxX Tryz.prog bad [] [] ((44, pureFn l0) :: q0)) 1000 60 88 m90.args m90.h) m90.v m90.h' = true := by kernel_rfl
theorem m90_ok {σ : Nat → Int} {W0 : World} (hL : L0 W0) : MemoOk Tryz.prog 26623 σ W0 88 m90 := memo_ok fit (Known2.nil σ) (FnsOk.cons (pure_fn_ok (l0_ok hL)) ((q0_ok hL))) m90_run
noncomputable def h137 : H := hUpc h114 170 [] [] [] [(161, 0, 1, I 9)]
noncomputable def h138 : H := hUpc h115 888 [] [] [(214, 1, [I 0, I 9])] [(161, 0, 1, I 9)]
noncomputable def m91 : Memo := ⟨[.agg [I 16, I 24, I 8, I 12, I 8, I 6, I 60, .slice 161 0 1 1 4 true]], h137, .tuple [.ptr 887 0, .inil], h138⟩
noncomputable def q17 : Fns := [(88, frameFn [m90]), (295, isFn 453), (122, atoiFullFn 384), (123, itoaFullFn), (195, joinFn), (307, countFn), (352, indexFn), (308, cutOf Tryz.prog 26623 bad [(307, countFn), (352, indexFn)] 1000 20 308)]
theorem q17_ok {σ : Nat → Int} {W0 : World} (hL : L0 W0) : FnsOk Tryz.prog 26623 σ W0 q17 := FnsOk.cons (frame_fn_ok (all_cons (m90_ok hL) (all_nil))) (FnsOk.cons (ext_is hL) (FnsOk.cons (ext_atoi hL) (FnsOk.cons (ext_itoa hL) (FnsOk.cons (ext_join hL) (FnsOk.cons (ext_count hL) (FnsOk.cons (ext_index hL) (FnsOk.cons (ext_cut308 hL) (FnsOk.nil))))))))
theorem m91_run : ranTo (evCall (cxX Tryz.prog bad [] [] ((44, pureFn l1) :: q17)) 1000 60 10 m91.args m91.h) m91.v m91.h' = true := by kernel_rfl
theorem m91_ok {σ : Nat → Int} {W0 : World} (hL : L0 W0) : MemoOk Tryz.prog 26623 σ W0 10 m91 := memo_ok fit (Known2.nil σ) (FnsOk.cons (pure_fn_ok (l1_ok hL)) ((q17_ok hL))) m91_run
noncomputable def h139 : H := hUpd h116 891 [] [] [(214, 1, [I 0, I 9])]
noncomputable def h140 : H := hUpd h117 1196 [] [] [(214, 1, [I 0, I 8])]
noncomputable def m92 : Memo := ⟨[.ptr 226 0, I 0], h139, .agg [I 0, I 3, I 0, U 0, I 0, U 0, IZ (-1), I 0], h140⟩
theorem m92_run : ranTo (evCall (cxX Tryz.prog bad [] [] ((44, pureFn l2) :: q0)) 1000 60 19 m92.args m92.h) m92.v m92.h' = true := by kernel_rfl
theorem m92_ok {σ : Nat → Int} {W0 : World} (hL : L0 W0) : MemoOk Tryz.prog 26623 σ W0 19 m92 := memo_ok fit (Known2.nil σ) (FnsOk.cons (pure_fn_ok (l2_ok hL)) ((q0_ok hL))) m92_run
noncomputable def h141 : H := hUpd h140 1233 [] [] []
noncomputable def h142 : H := hUpd h119 1404 [] [] [(214, 1, [I 0, I 7])]
noncomputable def m93 : Memo := ⟨[.ptr 226 0, I 0], h141, .agg [I 0, I 1, I 0, U 0, I 0, U 0, IZ (-1), I 0], h142⟩
theorem m93_run : ranTo (evCall (cxX Tryz.prog bad [] [] ((44, pureFn l2) :: q0)) 1000 60 19 m93.args m93.h) m93.v m93.h' = true := by kernel_rfl
theorem m93_ok {σ : Nat → Int} {W0 : World} (hL : L0 W0) : MemoOk Tryz.prog 26623 σ W0 19 m93 := memo_ok fit (Known2.nil σ) (FnsOk.cons (pure_fn_ok (l2_ok hL)) ((q0_ok hL))) m93_run
noncomputable def h143 : H := hUpd h142 1441 [] [] []
noncomputable def h144 : H := hUpd h121 1612 [] [] [(214, 1, [I 0, I 6])]
noncomputable def m94 : Memo := ⟨[.ptr 226 0, I 0], h143, .agg [I 0, I 3, I 0, U 0, I 0, U 0, IZ (-1), I 0], h144⟩
theorem m94_run : ranTo (evCall (cxX Tryz.prog bad [] [] ((44, pureFn l2) :: q0)) 1000 60 19 m94.args m94.h) m94.v m94.h' = true := by kernel_rfl
theorem m94_ok {σ : Nat → Int} {W0 : World} (hL : L0 W0) : MemoOk Tryz.prog 26623 σ W0 19 m94 := memo_ok fit (Known2.nil σ) (FnsOk.cons (pure_fn_ok (l2_ok hL)) ((q0_ok hL))) m94_run
noncomputable def h145 : H := hUpd h144 1649 [] [] []
noncomputable def h146 : H := hUpd h123 1820 [] [] [(214, 1, [I 0, I 5])]
noncomputable def m95 : Memo := ⟨[.ptr 226 0, I 0], h145, .agg [I 0, I 1, I 0, U 0, I 0, U 0, IZ (-1), I 0], h146⟩
theorem m95_run : ranTo (evCall (cxX Tryz.prog bad [] [] ((44, pureFn l2) :: q0)) 1000 60 19 m95.args m95.h) m95.v m95.h' = true := by kernel_rfl
theorem m95_ok {σ : Nat → Int} {W0 : World} (hL : L0 W0) : MemoOk Tryz.prog 26623 σ W0 19 m95 := memo_ok fit (Known2.nil σ) (FnsOk.cons (pure_fn_ok (l2_ok hL)) ((q0_ok hL))) m95_run
noncomputable def h147 : H := hUpd h146 1857 [] [] []
noncomputable def h148 : H := hUpd h125 2028 [] [] [(214, 1, [I 0, I 4])]
noncomputable def m96 : Memo := ⟨[.ptr 226 0, I 0], h147, .agg [I 0, I 3, I 0, U 0, I 0, U 0, IZ (-1), I 0], h148⟩
theorem m96_run : ranTo (evCall (cxX Tryz.prog bad [] [] ((44, pureFn l2) :: q0)) 1000 60 19 m96.args m96.h) m96.v m96.h' = true := by kernel_rfl
theorem m96_ok {σ : Nat → Int} {W0 : World} (hL : L0 W0) : MemoOk Tryz.prog 26623 σ W0 19 m96 := memo_ok fit (Known2.nil σ) (FnsOk.cons (pure_fn_ok (l2_ok hL)) ((q0_ok hL))) m96_run
noncomputable def h149 : H := hUpd h148 2065 [] [] []
noncomputable def h150 : H := hUpd h127 2236 [] [] [(214, 1, [I 0, I 3])]
noncomputable def m97 : Memo := ⟨[.ptr 226 0, I 0], h149, .agg [I 0, I 1, I 0, U 0, I 0, U 0, IZ (-1), I 0], h150⟩
theorem m97_run : ranTo (evCall (cxX Tryz.prog bad [] [] ((44, pureFn l2) :: q0)) 1000 60 19 m97.args m97.h) m97.v m97.h' = true := by kernel_rfl
theorem m97_ok {σ : Nat → Int} {W0 : World} (hL : L0 W0) : MemoOk Tryz.prog 26623 σ W0 19 m97 := memo_ok fit (Known2.nil σ) (FnsOk.cons (pure_fn_ok (l2_ok hL)) ((q0_ok hL))) m97_run
noncomputable def h151 : H := hUpd h150 2273 [] [] []
noncomputable def h152 : H := hUpd h129 2444 [] [] [(214, 1, [I 0, I 2])]
noncomputable def m98 : Memo := ⟨[.ptr 226 0, I 0], h151, .agg [I 0, I 3, I 0, U 0, I 0, U 0, IZ (-1), I 0], h152⟩
theorem m98_run : ranTo (evCall (cxX Tryz.prog bad [] [] ((44, pureFn l2) :: q0)) 1000 60 19 m98.args m98.h) m98.v m98.h' = true := by kernel_rfl
theorem m98_ok {σ : Nat → Int} {W0 : World} (hL : L0 W0) : MemoOk Tryz.prog 26623 σ W0 19 m98 := memo_ok fit (Known2.nil σ) (FnsOk.cons (pure_fn_ok (l2_ok hL)) ((q0_ok hL))) m98_run
noncomputable def h153 : H := hUpd h152 2481 [] [] []
noncomputable def h154 : H := hUpd h131 2652 [] [] [(214, 1, [I 0, I 1])]
noncomputable def m99 : Memo := ⟨[.ptr 226 0, I 0], h153, .agg [I 0, I 1, I 0, U 0, I 0, U 0, IZ (-1), I 0], h154⟩
theorem m99_run : ranTo (evCall (cxX Tryz.prog bad [] [] ((44, pureFn l2) :: q0)) 1000 60 19 m99.args m99.h) m99.v m99.h' = true := by kernel_rfl
theorem m99_ok {σ : Nat → Int} {W0 : World} (hL : L0 W0) : MemoOk Tryz.prog 26623 σ W0 19 m99 := memo_ok fit (Known2.nil σ) (FnsOk.cons (pure_fn_ok (l2_ok hL)) ((q0_ok hL))) m99_run
noncomputable def h155 : H := hUpd h154 2689 [] [] []
noncomputable def h156 : H := hUpd h135 2860 [] [] [(214, 1, [I 0, I 0])]
noncomputable def m100 : Memo := ⟨[.ptr 226 0, I 0], h155, .agg [I 0, I 3, I 0, U 0, I 0, U 0, IZ (-1), I 0], h156⟩
theorem m100_run : ranTo (evCall (cxX Tryz.prog bad [] [] ((44, pureFn l2) :: q0)) 1000 60 19 m100.args m100.h) m100.v m100.h' = true := by kernel_rfl
theorem m100_ok {σ : Nat → Int} {W0 : World} (hL : L0 W0) : MemoOk Tryz.prog 26623 σ W0 19 m100 := memo_ok fit (Known2.nil σ) (FnsOk.cons (pure_fn_ok (l2_ok hL)) ((q0_ok hL))) m100_run
noncomputable def h157 : H := hUpd h156 2897 [] [] []
noncomputable def h158 : H := hUpc h156 3017 [] [] [(225, 0, [.slice 886 0 0 1 1 false])] [(186, 0, 9, I 4), (186, 0, 10, I 6), (226, 0, 8, I 10)]
noncomputable def m101 : Memo := ⟨[.ptr 226 0, I 0], h157, .agg [I 0, I 5, I 0, U 0, I 0, U 0, IZ (-1), I 6], h158⟩
theorem m101_run : ranTo (evCall (cxX Tryz.prog bad [] [] ((44, pureFn l3) :: q0)) 1000 60 19 m101.args m101.h) m101.v m101.h' = true := by kernel_rfl
theorem m101_ok {σ : Nat → Int} {W0 : World} (hL : L0 W0) : MemoOk Tryz.prog 26623 σ W0 19 m101 := memo_ok fit (Known2.nil σ) (FnsOk.cons (pure_fn_ok (l3_ok hL)) ((q0_ok hL))) m101_run
noncomputable def l16 : List (Memo) := m101 :: m100 :: m99 :: m98 :: m97 :: m96 :: m95 :: m94 :: m93 :: m92 :: []
theorem l16_ok {σ : Nat → Int} {W0 : World} (hL : L0 W0) : ∀ x ∈ l16, MemoOk Tryz.prog 26623 σ W0 19 x := all_cons (m101_ok hL) (all_cons (m100_ok hL) (all_cons (m99_ok hL) (all_cons (m98_ok hL) (all_cons (m97_ok hL) (all_cons (m96_ok hL) (all_cons (m95_ok hL) (all_cons (m94_ok hL) (all_cons (m93_ok hL) (all_cons (m92_ok hL) (all_nil))))))))))
noncomputable def q18 : Fns := [(7, pureFn [p0]), (9, frameFn [m89]), (10, frameFn [m91]), (295, isFn 453), (122, atoiFullFn 384), (123, itoaFullFn), (195, joinFn), (307, countFn), (352, indexFn), (308, cutOf Tryz.prog 26623 bad [(307, countFn), (352, indexFn)] 1000 20 308)]
theorem q18_ok {σ : Nat → Int} {W0 : World} (hL : L0 W0) : FnsOk Tryz.prog 26623 σ W0 q18 := FnsOk.cons (pure_fn_ok (all_cons (p0_ok hL) (all_nil))) (FnsOk.cons (frame_fn_ok (all_cons (m89_ok hL) (all_nil))) (FnsOk.cons (frame_fn_ok (all_cons (m91_ok hL) (all_nil))) (FnsOk.cons (ext_is hL) (FnsOk.cons (ext_atoi hL) (FnsOk.cons (ext_itoa hL) (FnsOk.cons (ext_join hL) (FnsOk.cons (ext_count hL) (FnsOk.cons (ext_index hL) (FnsOk.cons (ext_cut308 hL) (FnsOk.nil))))))))))
theorem run16 : isTrue (evCall (cxX Tryz.prog bad [] [] ((8, numExtE [(0, 20, .lit 8)]) :: (19, frameFn l16) :: q18)) 1000 60 3 [.int .i64 (.var 0), bF] (sentH 453 20 errTab)) = true := by kernel_rfl
theorem case16 : CaseS [] [] [(0, 20, .lit 8)] [.int .i64 (.var 0), bF] := caseS (fun hL hk hT => FnsOk.cons (hT.ok fit) (FnsOk.cons (frame_fn_ok (l16_ok hL)) ((q18_ok hL)))) run16
noncomputable def h159 : H := hUpd h135 2938 [] [] [(214, 1, [I 0, I 1000])]
noncomputable def h160 : H := hUpc h120 3109 [] [] [(182, 0, [I 16, .slice 1110 0 1 1 10 false, I 9]),
  (214, 0, [IZ (-1), I 2147483637]),
  (214, 1, [I 0, I 999])] [(226, 0, 8, I 10)]
noncomputable def m102 : Memo := ⟨[.ptr 226 0, I 0], h159, .agg [I 0, I 1, I 0, U 0, I 0, U 0, IZ (-1), I 0], h160⟩
theorem m102_run : ranTo (evCall (cxX Tryz.prog bad [] [] ((44, pureFn l2) :: q0)) 1000 60 19 m102.args m102.h) m102.v m102.h' = true := by kernel_rfl
theorem m102_ok {σ : Nat → Int} {W0 : World} (hL : L0 W0) : MemoOk Tryz.prog 26623 σ W0 19 m102 := memo_ok fit (Known2.nil σ) (FnsOk.cons (pure_fn_ok (l2_ok hL)) ((q0_ok hL))) m102_run
noncomputable def l17 : List (Memo) := m102 :: m100 :: m99 :: m98 :: m97 :: m96 :: m95 :: m94 :: m93 :: m92 :: []
theorem l17_ok {σ : Nat → Int} {W0 : World} (hL : L0 W0) : ∀ x ∈ l17, MemoOk Tryz.prog 26623 σ W0 19 x := all_cons (m102_ok hL) (all_cons (m100_ok hL) (all_cons (m99_ok hL) (all_cons (m98_ok hL) (all_cons (m97_ok hL) (all_cons (m96_ok hL) (all_cons (m95_ok hL) (all_cons (m94_ok hL) (all_cons (m93_ok hL) (all_cons (m92_ok hL) (all_nil))))))))))
theorem run17 : isTrue (evCall (cxX Tryz.prog bad [] [] ((8, numExtE [(0, 20, .lit 8)]) :: (19, frameFn l17) :: q18)) 1000 60 3 [.int .i64 (.var 0), bT] (sentH 453 20 errTab)) = true := by kernel_rfl
theorem case17 : CaseS [] [] [(0, 20, .lit 8)] [.int .i64 (.var 0), bT] := caseS (fun hL hk hT => FnsOk.cons (hT.ok fit) (FnsOk.cons (frame_fn_ok (l17_ok hL)) ((q18_ok hL)))) run17
noncomputable def m103 : Memo := ⟨[bT, I 10, .snil, .slice 33 0 3 3 1 true], h5, .agg [.slice 157 0 2 2 1 false, I 10, .snil, bT], h6⟩
theorem m103_run : ranTo (evCall (cxX Tryz.prog bad [] [] ((84, frameFn [m1, m2]) :: q0)) 1000 60 9 m103.args m103.h) m103.v m103.h' = true := by kernel_rfl
theorem m103_ok {σ : Nat → Int} {W0 : World} (hL : L0 W0) : MemoOk Tryz.prog 26623 σ W0 9 m103 := memo_ok fit (Known2.nil σ) (FnsOk.cons (frame_fn_ok (all_cons (m1_ok hL) (all_cons (m2_ok hL) (all_nil)))) ((q0_ok hL))) m103_run
noncomputable def h161 : H := hUpd h136 733 [] [] [(214, 1, [I 0, I 10])]
noncomputable def m104 : Memo := ⟨[.ptr 226 0, .agg [.slice 157 0 2 2 1 false, I 10, .snil, bT]], h7, .tuple [I 0, .inil], h161⟩
theorem m104_run : ranTo (evCall (cxX Tryz.prog bad [] [] ((44, pureFn l0) :: q0)) 1000 60 88 m104.args m104.h) m104.v m104.h' = true := by kernel_rfl
theorem m104_ok {σ : Nat → Int} {W0 : World} (hL : L0 W0) : MemoOk Tryz.prog 26623 σ W0 88 m104 := memo_ok fit (Known2.nil σ) (FnsOk.cons (pure_fn_ok (l0_ok hL)) ((q0_ok hL))) m104_run
noncomputable def h162 : H := hUpc h137 170 [] [] [] [(161, 0, 1, I 10)]
noncomputable def h163 : H := hUpc h138 888 [] [] [(214, 1, [I 0, I 10])] [(161, 0, 1, I 10)]
noncomputable def m105 : Memo := ⟨[.agg [I 16, I 24, I 8, I 12, I 8, I 6, I 60, .slice 161 0 1 1 4 true]], h162, .tuple [.ptr 887 0, .inil], h163⟩
noncomputable def q19 : Fns := [(88, frameFn [m104]), (295, isFn 453), (122, atoiFullFn 384), (123, itoaFullFn), (195, joinFn), (307, countFn), (352, indexFn), (308, cutOf Tryz.prog 26623 bad [(307, countFn), (352, indexFn)] 1000 20 308)]
theorem q19_ok {σ : Nat → Int} {W0 : World} (hL : L0 W0) : FnsOk Tryz.prog 26623 σ W0 q19 := FnsOk.cons (frame_fn_ok (all_cons (m104_ok hL) (all_nil))) (FnsOk.cons (ext_is hL) (FnsOk.cons (ext_atoi hL) (FnsOk.cons (ext_itoa hL) (FnsOk.cons (ext_join hL) (FnsOk.cons (ext_count hL) (FnsOk.cons (ext_index hL) (FnsOk.cons (ext_cut308 hL) (FnsOk.nil))))))))
theorem m105_run : ranTo (evCall (cxX Tryz.prog bad [] [] ((44, pureFn l1) :: q19)) 1000 60 10 m105.args m105.h) m105.v m105.h' = true := by kernel_rfl
theorem m105_ok {σ : Nat → Int} {W0 : World} (hL : L0 W0) : MemoOk Tryz.prog 26623 σ W0 10 m105 := memo_ok fit (Known2.nil σ) (FnsOk.cons (pure_fn_ok (l1_ok hL)) ((q19_ok hL))) m105_run
noncomputable def h164 : H := hUpd h139 891 [] [] [(214, 1, [I 0, I 10])]
noncomputable def h165 : H := hUpd h140 1196 [] [] [(214, 1, [I 0, I 9])]
noncomputable def m106 : Memo := ⟨[.ptr 226 0, I 0], h164, .agg [I 0, I 3, I 0, U 0, I 0, U 0, IZ (-1), I 0], h165⟩
theorem m106_run : ranTo (evCall (cxX Tryz.prog bad [] [] ((44, pureFn l2) :: q0)) 1000 60 19 m106.args m106.h) m106.v m106.h' = true := by kernel_rfl
theorem m106_ok {σ : Nat → Int} {W0 : World} (hL : L0 W0) : MemoOk Tryz.prog 26623 σ W0 19 m106 := memo_ok fit (Known2.nil σ) (FnsOk.cons (pure_fn_ok (l2_ok hL)) ((q0_ok hL))) m106_run
noncomputable def h166 : H := hUpd h165 1233 [] [] []
noncomputable def h167 : H := hUpd h142 1404 [] [] [(214, 1, [I 0, I 8])]
noncomputable def m107 : Memo := ⟨[.ptr 226 0, I 0], h166, .agg [I 0, I 1, I 0, U 0, I 0, U 0, IZ (-1), I 0], h167⟩
theorem m107_run : ranTo (evCall (cxX Tryz.prog bad [] [] ((44, pureFn l2) :: q0)) 1000 60 19 m107.args m107.h) m107.v m107.h' = true := by kernel_rfl
theorem m107_ok {σ : Nat → Int} {W0 : World} (hL : L0 W0) : MemoOk Tryz.prog 26623 σ W0 19 m107 := memo_ok fit (Known2.nil σ) (FnsOk.cons (pure_fn_ok (l2_ok hL)) ((q0_ok hL))) m107_run
noncomputable def h168 : H := hUpd h167 1441 [] [] []
noncomputable def h169 : H := hUpd h144 1612 [] [] [(214, 1, [I 0, I 7])]
noncomputable def m108 : Memo := ⟨[.ptr 226 0, I 0], h168, .agg [I 0, I 3, I 0, U 0, I 0, U 0, IZ (-1), I 0], h169⟩
theorem m108_run : ranTo (evCall (cxX Tryz.prog bad [] [] ((44, pureFn l2) :: q0)) 1000 60 19 m108.args m108.h) m108.v m108.h' = true := by kernel_rfl
theorem m108_ok {σ : Nat → Int} {W0 : World} (hL : L0 W0) : MemoOk Tryz.prog 26623 σ W0 19 m108 := memo_ok fit (Known2.nil σ) (FnsOk.cons (pure_fn_ok (l2_ok hL)) ((q0_ok hL))) m108_run
noncomputable def h170 : H := hUpd h169 1649 [] [] []
noncomputable def h171 : H := hUpd h146 1820 [] [] [(214, 1, [I 0, I 6])]
noncomputable def m109 : Memo := ⟨[.ptr 226 0, I 0], h170, .agg [I 0, I 1, I 0, U 0, I 0, U 0, IZ (-1), I 0], h171⟩
theorem m109_run : ranTo (evCall (cxX Tryz.prog bad [] [] ((44, pureFn l2) :: q0)) 1000 60 19 m109.args m109.h) m109.v m109.h' = true := by kernel_rfl
theorem m109_ok {σ : Nat → Int} {W0 : World} (hL : L0 W0) : MemoOk Tryz.prog 26623 σ W0 19 m109 := memo_ok fit (Known2.nil σ) (FnsOk.cons (pure_fn_ok (l2_ok hL)) ((q0_ok hL))) m109_run
noncomputable def h172 : H := hUpd h171 1857 [] [] []
noncomputable def h173 : H := hUpd h148 2028 [] [] [(214, 1, [I 0, I 5])]
noncomputable def m110 : Memo := ⟨[.ptr 226 0, I 0], h172, .agg [I 0, I 3, I 0, U 0, I 0, U 0, IZ (-1), I 0], h173⟩
theorem m110_run : ranTo (evCall (cxX Tryz.prog bad [] [] ((44, pureFn l2) :: q0)) 1000 60 19 m110.args m110.h) m110.v m110.h' = true := by kernel_rfl
theorem m110_ok {σ : Nat → Int} {W0 : World} (hL : L0 W0) : MemoOk Tryz.prog 26623 σ W0 19 m110 := memo_ok fit (Known2.nil σ) (FnsOk.cons (pure_fn_ok (l2_ok hL)) ((q0_ok hL))) m110_run
noncomputable def h174 : H := hUpd h173 2065 [] [] []
noncomputable def h175 : H := hUpd h150 2236 [] [] [(214, 1, [I 0, I 4])]
noncomputable def m111 : Memo := ⟨[.ptr 226 0, I 0], h174, .agg [I 0, I 1, I 0, U 0, I 0, U 0, IZ (-1), I 0], h175⟩
theorem m111_run : ranTo (evCall (cxX Tryz.prog bad [] [] ((44, pureFn l2) :: q0)) 1000 60 19 m111.args m111.h) m111.v m111.h' = true := by kernel_rfl
theorem m111_ok {σ : Nat → Int} {W0 : World} (hL : L0 W0) : MemoOk Tryz.prog 26623 σ W0 19 m111 := memo_ok fit (Known2.nil σ) (FnsOk.cons (pure_fn_ok (l2_ok hL)) ((q0_ok hL))) m111_run
noncomputable def h176 : H := hUpd h175 2273 [] [] []
noncomputable def h177 : H := hUpd h152 2444 [] [] [(214, 1, [I 0, I 3])]
noncomputable def m112 : Memo := ⟨[.ptr 226 0, I 0], h176, .agg [I 0, I 3, I 0, U 0, I 0, U 0, IZ (-1), I 0], h177⟩
theorem m112_run : ranTo (evCall (cxX Tryz.prog bad [] [] ((44, pureFn l2) :: q0)) 1000 60 19 m112.args m112.h) m112.v m112.h' = true := by kernel_rfl
theorem m112_ok {σ : Nat → Int} {W0 : World} (hL : L0 W0) : MemoOk Tryz.prog 26623 σ W0 19 m112 := memo_ok fit (Known2.nil σ) (FnsOk.cons (pure_fn_ok (l2_ok hL)) ((q0_ok hL))) m112_run
noncomputable def h178 : H := hUpd h177 2481 [] [] []
noncomputable def h179 : H := hUpd h154 2652 [] [] [(214, 1, [I 0, I 2])]
noncomputable def m113 : Memo := ⟨[.ptr 226 0, I 0], h178, .agg [I 0, I 1, I 0, U 0, I 0, U 0, IZ (-1), I 0], h179⟩
theorem m113_run : ranTo (evCall (cxX Tryz.prog bad [] [] ((44, pureFn l2) :: q0)) 1000 60 19 m113.args m113.h) m113.v m113.h' = true := by kernel_rfl
theorem m113_ok {σ : Nat → Int} {W0 : World} (hL : L0 W0) : MemoOk Tryz.prog 26623 σ W0 19 m113 := memo_ok fit (Known2.nil σ) (FnsOk.cons (pure_fn_ok (l2_ok hL)) ((q0_ok hL))) m113_run
noncomputable def h180 : H := hUpd h179 2689 [] [] []
noncomputable def h181 : H := hUpd h156 2860 [] [] [(214, 1, [I 0, I 1])]
noncomputable def m114 : Memo := ⟨[.ptr 226 0, I 0], h180, .agg [I 0, I 3, I 0, U 0, I 0, U 0, IZ (-1), I 0], h181⟩
theorem m114_run : ranTo (evCall (cxX Tryz.prog bad [] [] ((44, pureFn l2) :: q0)) 1000 60 19 m114.args m114.h) m114.v m114.h' = true := by kernel_rfl
theorem m114_ok {σ : Nat → Int} {W0 : World} (hL : L0 W0) : MemoOk Tryz.prog 26623 σ W0 19 m114 := memo_ok fit (Known2.nil σ) (FnsOk.cons (pure_fn_ok (l2_ok hL)) ((q0_ok hL))) m114_run
noncomputable def h182 : H := hUpd h181 2897 [] [] []
noncomputable def h183 : H := hUpd h160 3068 [] [] [(214, 1, [I 0, I 0])]
noncomputable def m115 : Memo := ⟨[.ptr 226 0, I 0], h182, .agg [I 0, I 1, I 0, U 0, I 0, U 0, IZ (-1), I 0], h183⟩
theorem m115_run : ranTo (evCall (cxX Tryz.prog bad [] [] ((44, pureFn l2) :: q0)) 1000 60 19 m115.args m115.h) m115.v m115.h' = true := by kernel_rfl
theorem m115_ok {σ : Nat → Int} {W0 : World} (hL : L0 W0) : MemoOk Tryz.prog 26623 σ W0 19 m115 := memo_ok fit (Known2.nil σ) (FnsOk.cons (pure_fn_ok (l2_ok hL)) ((q0_ok hL))) m115_run
noncomputable def h184 : H := hUpd h183 3105 [] [] []
noncomputable def h185 : H := hUpc h183 3225 [] [] [(225, 0, [.slice 886 0 0 1 1 false])] [(186, 0, 9, I 4), (186, 0, 10, I 6), (226, 0, 8, I 11)]
noncomputable def m116 : Memo := ⟨[.ptr 226 0, I 0], h184, .agg [I 0, I 5, I 0, U 0, I 0, U 0, IZ (-1), I 6], h185⟩
theorem m116_run : ranTo (evCall (cxX Tryz.prog bad [] [] ((44, pureFn l3) :: q0)) 1000 60 19 m116.args m116.h) m116.v m116.h' = true := by kernel_rfl
theorem m116_ok {σ : Nat → Int} {W0 : World} (hL : L0 W0) : MemoOk Tryz.prog 26623 σ W0 19 m116 := memo_ok fit (Known2.nil σ) (FnsOk.cons (pure_fn_ok (l3_ok hL)) ((q0_ok hL))) m116_run
noncomputable def l18 : List (Memo) := m116 :: m115 :: m114 :: m113 :: m112 :: m111 :: m110 :: m109 :: m108 :: m107 :: m106 :: []
theorem l18_ok {σ : Nat → Int} {W0 : World} (hL : L0 W0) : ∀ x ∈ l18, MemoOk Tryz.prog 26623 σ W0 19 x := all_cons (m116_ok hL) (all_cons (m115_ok hL) (all_cons (m114_ok hL) (all_cons (m113_ok hL) (all_cons (m112_ok hL) (all_cons (m111_ok hL) (all_cons (m110_ok hL) (all_cons (m109_ok hL) (all_cons (m108_ok hL) (all_cons (m107_ok hL) (all_cons (m106_ok hL) (all_nil)))))))))))
noncomputable def q20 : Fns := [(7, pureFn [p0]), (9, frameFn [m103]), (10, frameFn [m105]), (295, isFn 453), (122, atoiFullFn 384), (123, itoaFullFn), (195, joinFn), (307, countFn), (352, indexFn), (308, cutOf Tryz.prog 26623 bad [(307, countFn), (352, indexFn)] 1000 20 308)]
theorem q20_ok {σ : Nat → Int} {W0 : World} (hL : L0 W0) : FnsOk Tryz.prog 26623 σ W0 q20 := FnsOk.cons (pure_fn_ok (all_cons (p0_ok hL) (all_nil))) (FnsOk.cons (frame_fn_ok (all_cons (m103_ok hL) (all_nil))) (FnsOk.cons (frame_fn_ok (all_cons (m105_ok hL) (all_nil))) (FnsOk.cons (ext_is hL) (FnsOk.cons (ext_atoi hL) (FnsOk.cons (ext_itoa hL) (FnsOk.cons (ext_join hL) (FnsOk.cons (ext_count hL) (FnsOk.cons (ext_index hL) (FnsOk.cons (ext_cut308 hL) (FnsOk.nil))))))))))
theorem run18 : isTrue (evCall (cxX Tryz.prog bad [] [] ((8, numExtE [(0, 20, .lit 9)]) :: (19, frameFn l18) :: q20)) 1000 60 3 [.int .i64 (.var 0), bF] (sentH 453 20 errTab)) = true := by kernel_rfl
theorem case18 : CaseS [] [] [(0, 20, .lit 9)] [.int .i64 (.var 0), bF] := caseS (fun hL hk hT => FnsOk.cons (hT.ok fit) (FnsOk.cons (frame_fn_ok (l18_ok hL)) ((q20_ok hL)))) run18
noncomputable def h186 : H := hUpd h160 3146 [] [] [(214, 1, [I 0, I 1000])]
noncomputable def h187 : H := hUpc h148 3317 [] [] [(182, 0, [I 16, .slice 1110 0 1 1 10 false, I 10]),
  (214, 0, [IZ (-1), I 2147483636]),
  (214, 1, [I 0, I 999])] [(226, 0, 8, I 11)]
noncomputable def m117 : Memo := ⟨[.ptr 226 0, I 0], h186, .agg [I 0, I 3, I 0, U 0, I 0, U 0, IZ (-1), I 0], h187⟩
theorem m117_run : ranTo (evCall (cxX Tryz.prog bad [] [] ((44, pureFn l2) :: q0)) 1000 60 19 m117.args m117.h) m117.v m117.h' = true := by kernel_rfl
theorem m117_ok {σ : Nat → Int} {W0 : World} (hL : L0 W0) : MemoOk Tryz.prog 26623 σ W0 19 m117 := memo_ok fit (Known2.nil σ) (FnsOk.cons (pure_fn_ok (l2_ok hL)) ((q0_ok hL))) m117_run
noncomputable def l19 : List (Memo) := m117 :: m115 :: m114 :: m113 :: m112 :: m111 :: m110 :: m109 :: m108 :: m107 :: m106 :: []
theorem l19_ok {σ : Nat → Int} {W0 : World} (hL : L0 W0) : ∀ x ∈ l19, MemoOk Tryz.prog 26623 σ W0 19 x := all_cons (m117_ok hL) (all_cons (m115_ok hL) (all_cons (m114_ok hL) (all_cons (m113_ok hL) (all_cons (m112_ok hL) (all_cons (m111_ok hL) (all_cons (m110_ok hL) (all_cons (m109_ok hL) (all_cons (m108_ok hL) (all_cons (m107_ok hL) (all_cons (m106_ok hL) (all_nil)))))))))))
theorem run19 : isTrue (evCall (cxX Tryz.prog bad [] [] ((8, numExtE [(0, 20, .lit 9)]) :: (19, frameFn l19) :: q20)) 1000 60 3 [.int .i64 (.var 0), bT] (sentH 453 20 errTab)) = true := by kernel_rfl
theorem case19 : CaseS [] [] [(0, 20, .lit 9)] [.int .i64 (.var 0), bT] := caseS (fun hL hk hT => FnsOk.cons (hT.ok fit) (FnsOk.cons (frame_fn_ok (l19_ok hL)) ((q20_ok hL)))) run19
noncomputable def m118 : Memo := ⟨[bT, I 11, .snil, .slice 33 0 3 3 1 true], h5, .agg [.slice 157 0 2 2 1 false, I 11, .snil, bT], h6⟩
theorem m118_run : ranTo (evCall (cxX Tryz.prog bad [] [] ((84, frameFn [m1, m2]) :: q0)) 1000 60 9 m118.args m118.h) m118.v m118.h' = true := by kernel_rfl
theorem m118_ok {σ : Nat → Int} {W0 : World} (hL : L0 W0) : MemoOk Tryz.prog 26623 σ W0 9 m118 := memo_ok fit (Known2.nil σ) (FnsOk.cons (frame_fn_ok (all_cons (m1_ok hL) (all_cons (m2_ok hL) (all_nil)))) ((q0_ok hL))) m118_run
noncomputable def h188 : H := hUpd h161 733 [] [] [(214, 1, [I 0, I 11])]
noncomputable def m119 : Memo := ⟨[.ptr 226 0, .agg [.slice 157 0 2 2 1 false, I 11, .snil, bT]], h7, .tuple [I 0, .inil], h188⟩
theorem m119_run : ranTo (evCall (cxX Tryz.prog bad [] [] ((44, pureFn l0) :: q0)) 1000 60 88 m119.args m119.h) m119.v m119.h' = true := by kernel_rfl
theorem m119_ok {σ : Nat → Int} {W0 : World} (hL : L0 W0) : MemoOk Tryz.prog 26623 σ W0 88 m119 := memo_ok fit (Known2.nil σ) (FnsOk.cons (pure_fn_ok (l0_ok hL)) ((q0_ok hL))) m119_run
noncomputable def h189 : H := hUpc h162 170 [] [] [] [(161, 0, 1, I 11)]
noncomputable def h190 : H := hUpc h163 888 [] [] [(214, 1, [I 0, I 11])] [(161, 0, 1, I 11)]
noncomputable def m120 : Memo := ⟨[.agg [I 16, I 24, I 8, I 12, I 8, I 6, I 60, .slice 161 0 1 1 4 true]], h189, .tuple [.ptr 887 0, .inil], h190⟩
noncomputable def q21 : Fns := [(88, frameFn [m119]), (295, isFn 453), (122, atoiFullFn 384), (123, itoaFullFn), (195, joinFn), (307, countFn), (352, indexFn), (308, cutOf Tryz.prog 26623 bad [(307, countFn), (352, indexFn)] 1000 20 308)]
theorem q21_ok {σ : Nat → Int} {W0 : World} (hL : L0 W0) : FnsOk Tryz.prog 26623 σ W0 q21 := FnsOk.cons (frame_fn_ok (all_cons (m119_ok hL) (all_nil))) (FnsOk.cons (ext_is hL) (FnsOk.cons (ext_atoi hL) (FnsOk.cons (ext_itoa hL) (FnsOk.cons (ext_join hL) (FnsOk.cons (ext_count hL) (FnsOk.cons (ext_index hL) (FnsOk.cons (ext_cut308 hL) (FnsOk.nil))))))))
theorem m120_run : ranTo (evCall (cxX Tryz.prog bad [] [] ((44, pureFn l1) :: q21)) 1000 60 10 m120.args m120.h) m120.v m120.h' = true := by kernel_rfl
theorem m120_ok {σ : Nat → Int} {W0 : World} (hL : L0 W0) : MemoOk Tryz.prog 26623 σ W0 10 m120 := memo_ok fit (Known2.nil σ) (FnsOk.cons (pure_fn_ok (l1_ok hL)) ((q21_ok hL))) m120_run
noncomputable def h191 : H := hUpd h164 891 [] [] [(214, 1, [I 0, I 11])]
noncomputable def h192 : H := hUpd h165 1196 [] [] [(214, 1, [I 0, I 10])]
noncomputable def m121 : Memo := ⟨[.ptr 226 0, I 0], h191, .agg [I 0, I 3, I 0, U 0, I 0, U 0, IZ (-1), I 0], h192⟩
theorem m121_run : ranTo (evCall (cxX Tryz.prog bad [] [] ((44, pureFn l2) :: q0)) 1000 60 19 m121.args m121.h) m121.v m121.h' = true := by kernel_rfl
theorem m121_ok {σ : Nat → Int} {W0 : World} (hL : L0 W0) : MemoOk Tryz.prog 26623 σ W0 19 m121 := memo_ok fit (Known2.nil σ) (FnsOk.cons (pure_fn_ok (l2_ok hL)) ((q0_ok hL))) m121_run
noncomputable def h193 : H := hUpd h192 1233 [] [] []
noncomputable def h194 : H := hUpd h167 1404 [] [] [(214, 1, [I 0, I 9])]
noncomputable def m122 : Memo := ⟨[.ptr 226 0, I 0], h193, .agg [I 0, I 1, I 0, U 0, I 0, U 0, IZ (-1), I 0], h194⟩
theorem m122_run : ranTo (evCall (cxX Tryz.prog bad [] [] ((44, pureFn l2) :: q0)) 1000 60 19 m122.args m122.h) m122.v m122.h' = true := by kernel_rfl
theorem m122_ok {σ : Nat → Int} {W0 : World} (hL : L0 W0) : MemoOk Tryz.prog 26623 σ W0 19 m122 := memo_ok fit (Known2.nil σ) (FnsOk.cons (pure_fn_ok (l2_ok hL)) ((q0_ok hL))) m122_run
noncomputable def h195 : H := hUpd h194 1441 [] [] []
noncomputable def h196 : H := hUpd h169 1612 [] [] [(214, 1, [I 0, I 8])]
noncomputable def m123 : Memo := ⟨[.ptr 226 0, I 0], h195, .agg [I 0, I 3, I 0, U 0, I 0, U 0, IZ (-1), I 0], h196⟩
theorem m123_run : ranTo (evCall (cxX Tryz.prog bad [] [] ((44, pureFn l2) :: q0)) 1000 60 19 m123.args m123.h) m123.v m123.h' = true := by kernel_rfl
theorem m123_ok {σ : Nat → Int} {W0 : World} (hL : L0 W0) : MemoOk Tryz.prog 26623 σ W0 19 m123 := memo_ok fit (Known2.nil σ) (FnsOk.cons (pure_fn_ok (l2_ok hL)) ((q0_ok hL))) m123_run
noncomputable def h197 : H := hUpd h196 1649 [] [] []
noncomputable def h198 : H := hUpd h171 1820 [] [] [(214, 1, [I 0, I 7])]
noncomputable def m124 : Memo := ⟨[.ptr 226 0, I 0], h197, .agg [I 0, I 1, I 0, U 0, I 0, U 0, IZ (-1), I 0], h198⟩
theorem m124_run : ranTo (evCall (cxX Tryz.prog bad [] [] ((44, pureFn l2) :: q0)) 1000 60 19 m124.args m124.h) m124.v m124.h' = true := by kernel_rfl
theorem m124_ok {σ : Nat → Int} {W0 : World} (hL : L0 W0) : MemoOk Tryz.prog 26623 σ W0 19 m124 := memo_ok fit (Known2.nil σ) (FnsOk.cons (pure_fn_ok (l2_ok hL)) ((q0_ok hL))) m124_run
noncomputable def h199 : H := hUpd h198 1857 [] [] []
noncomputable def h200 : H := hUpd h173 2028 [] [] [(214, 1, [I 0, I 6])]
noncomputable def m125 : Memo := ⟨[.ptr 226 0, I 0], h199, .agg [I 0, I 3, I 0, U 0, I 0, U 0, IZ (-1), I 0], h200⟩
theorem m125_run : ranTo (evCall (cxX Tryz.prog bad [] [] ((44, pureFn l2) :: q0)) 1000 60 19 m125.args m125.h) m125.v m125.h' = true := by kernel_rfl
theorem m125_ok {σ : Nat → Int} {W0 : World} (hL : L0 W0) : MemoOk Tryz.prog 26623 σ W0 19 m125 := memo_ok fit (Known2.nil σ) (FnsOk.cons (pure_fn_ok (l2_ok hL)) ((q0_ok hL))) m125_run
noncomputable def h201 : H := hUpd h200 2065 [] [] []
noncomputable def h202 : H := hUpd h175 2236 [] [] [(214, 1, [I 0, I 5])]
noncomputable def m126 : Memo := ⟨[.ptr 226 0, I 0], h201, .agg [I 0, I 1, I 0, U 0, I 0, U 0, IZ (-1), I 0], h202⟩
theorem m126_run : ranTo (evCall (cxX Tryz.prog bad [] [] ((44, pureFn l2) :: q0)) 1000 60 19 m126.args m126.h) m126.v m126.h' = true := by kernel_rfl
theorem m126_ok {σ : Nat → Int} {W0 : World} (hL : L0 W0) : MemoOk Tryz.prog 26623 σ W0 19 m126 := memo_ok fit (Known2.nil σ) (FnsOk.cons (pure_fn_ok (l2_ok hL)) ((q0_ok hL))) m126_run
noncomputable def h203 : H := hUpd h202 2273 [] [] []
noncomputable def h204 : H := hUpd h177 2444 [] [] [(214, 1, [I 0, I 4])]
noncomputable def m127 : Memo := ⟨[.ptr 226 0, I 0], h203, .agg [I 0, I 3, I 0, U 0, I 0, U 0, IZ (-1), I 0], h204⟩
theorem m127_run : ranTo (evCall (cxX Tryz.prog bad [] [] ((44, pureFn l2) :: q0)) 1000 60 19 m127.args m127.h) m127.v m127.h' = true := by kernel_rfl
theorem m127_ok {σ : Nat → Int} {W0 : World} (hL : L0 W0) : MemoOk Tryz.prog 26623 σ W0 19 m127 := memo_ok fit (Known2.nil σ) (FnsOk.cons (pure_fn_ok (l2_ok hL)) ((q0_ok hL))) m127_run
noncomputable def h205 : H := hUpd h204 2481 [] [] []
noncomputable def h206 : H := hUpd h179 2652 [] [] [(214, 1, [I 0, I 3])]
noncomputable def m128 : Memo := ⟨[.ptr 226 0, I 0], h205, .agg [I 0, I 1, I 0, U 0, I 0, U 0, IZ (-1), I 0], h206⟩
theorem m128_run : ranTo (evCall (cxX Tryz.prog bad [] [] ((44, pureFn l2) :: q0)) 1000 60 19 m128.args m128.h) m128.v m128.h' = true := by kernel_rfl
theorem m128_ok {σ : Nat → Int} {W0 : World} (hL : L0 W0) : MemoOk Tryz.prog 26623 σ W0 19 m128 := memo_ok fit (Known2.nil σ) (FnsOk.cons (pure_fn_ok (l2_ok hL)) ((q0_ok hL))) m128_run
noncomputable def h207 : H := hUpd h206 2689 [] [] []
noncomputable def h208 : H := hUpd h181 2860 [] [] [(214, 1, [I 0, I 2])]
noncomputable def m129 : Memo := ⟨[.ptr 226 0, I 0], h207, .agg [I 0, I 3, I 0, U 0, I 0, U 0, IZ (-1), I 0], h208⟩
theorem m129_run : ranTo (evCall (cxX Tryz.prog bad [] [] ((44, pureFn l2) :: q0)) 1000 60 19 m129.args m129.h) m129.v m129.h' = true := by kernel_rfl
theorem m129_ok {σ : Nat → Int} {W0 : World} (hL : L0 W0) : MemoOk Tryz.prog 26623 σ W0 19 m129 := memo_ok fit (Known2.nil σ) (FnsOk.cons (pure_fn_ok (l2_ok hL)) ((q0_ok hL))) m129_run
noncomputable def h209 : H := hUpd h208 2897 [] [] []
noncomputable def h210 : H := hUpd h183 3068 [] [] [(214, 1, [I 0, I 1])]
noncomputable def m130 : Memo := ⟨[.ptr 226 0, I 0], h209, .agg [I 0, I 1, I 0, U 0, I 0, U 0, IZ (-1), I 0], h210⟩
theorem m130_run : ranTo (evCall (cxX Tryz.prog bad [] [] ((44, pureFn l2) :: q0)) 1000 60 19 m130.args m130.h) m130.v m130.h' = true := by kernel_rfl
theorem m130_ok {σ : Nat → Int} {W0 : World} (hL : L0 W0) : MemoOk Tryz.prog 26623 σ W0 19 m130 := memo_ok fit (Known2.nil σ) (FnsOk.cons (pure_fn_ok (l2_ok hL)) ((q0_ok hL))) m130_run
noncomputable def h211 : H := hUpd h210 3105 [] [] []
noncomputable def h212 : H := hUpd h187 3276 [] [] [(214, 1, [I 0, I 0])]
noncomputable def m131 : Memo := ⟨[.ptr 226 0, I 0], h211, .agg [I 0, I 3, I 0, U 0, I 0, U 0, IZ (-1), I 0], h212⟩
theorem m131_run : ranTo (evCall (cxX Tryz.prog bad [] [] ((44, pureFn l2) :: q0)) 1000 60 19 m131.args m131.h) m131.v m131.h' = true := by kernel_rfl
theorem m131_ok {σ : Nat → Int} {W0 : World} (hL : L0 W0) : MemoOk Tryz.prog 26623 σ W0 19 m131 := memo_ok fit (Known2.nil σ) (FnsOk.cons (pure_fn_ok (l2_ok hL)) ((q0_ok hL))) m131_run
noncomputable def h213 : H := hUpd h212 3313 [] [] []
noncomputable def h214 : H := hUpc h212 3433 [] [] [(225, 0, [.slice 886 0 0 1 1 false])] [(186, 0, 9, I 4), (186, 0, 10, I 6), (226, 0, 8, I 12)]
noncomputable def m132 : Memo := ⟨[.ptr 226 0, I 0], h213, .agg [I 0, I 5, I 0, U 0, I 0, U 0, IZ (-1), I 6], h214⟩
theorem m132_run : ranTo (evCall (cxX Tryz.prog bad [] [] ((44, pureFn l3) :: q0)) 1000 60 19 m132.args m132.h) m132.v m132.h' = true := by kernel_rfl
theorem m132_ok {σ : Nat → Int} {W0 : World} (hL : L0 W0) : MemoOk Tryz.prog 26623 σ W0 19 m132 := memo_ok fit (Known2.nil σ) (FnsOk.cons (pure_fn_ok (l3_ok hL)) ((q0_ok hL))) m132_run
noncomputable def l20 : List (Memo) := m132 :: m131 :: m130 :: m129 :: m128 :: m127 :: m126 :: m125 :: m124 :: m123 :: m122 :: m121 :: []
theorem l20_ok {σ : Nat → Int} {W0 : World} (hL : L0 W0) : ∀ x ∈ l20, MemoOk Tryz.prog 26623 σ W0 19 x := all_cons (m132_ok hL) (all_cons (m131_ok hL) (all_cons (m130_ok hL) (all_cons (m129_ok hL) (all_cons (m128_ok hL) (all_cons (m127_ok hL) (all_cons (m126_ok hL) (all_cons (m125_ok hL) (all_cons (m124_ok hL) (all_cons (m123_ok hL) (all_cons (m122_ok hL) (all_cons (m121_ok hL) (all_nil))))))))))))
noncomputable def q22 : Fns := [(7, pureFn [p0]), (9, frameFn [m118]), (10, frameFn [m120]), (295, isFn 453), (122, atoiFullFn 384), (123, itoaFullFn), (195, joinFn), (307, countFn), (352, indexFn), (308, cutOf Tryz.prog 26623 bad [(307, countFn), (352, indexFn)] 1000 20 308)]
theorem q22_ok {σ : Nat → Int} {W0 : World} (hL : L0 W0) : FnsOk Tryz.prog 26623 σ W0 q22 := FnsOk.cons (pure_fn_ok (all_cons (p0_ok hL) (all_nil))) (FnsOk.cons (frame_fn_ok (all_cons (m118_ok hL) (all_nil))) (FnsOk.cons (frame_fn_ok (all_cons (m120_ok hL) (all_nil))) (FnsOk.cons (ext_is hL) (FnsOk.cons (ext_atoi hL) (FnsOk.cons (ext_itoa hL) (FnsOk.cons (ext_join hL) (FnsOk.cons (ext_count hL) (FnsOk.cons (ext_index hL) (FnsOk.cons (ext_cut308 hL) (FnsOk.nil))))))))))
theorem run20 : isTrue (evCall (cxX Tryz.prog bad [] [] ((8, numExtE [(0, 20, .lit 10)]) :: (19, frameFn l20) :: q22)) 1000 60 3 [.int .i64 (.var 0), bF] (sentH 453 20 errTab)) = true := by kernel_rfl
theorem case20 : CaseS [] [] [(0, 20, .lit 10)] [.int .i64 (.var 0), bF] := caseS (fun hL hk hT => FnsOk.cons (hT.ok fit) (FnsOk.cons (frame_fn_ok (l20_ok hL)) ((q22_ok hL)))) run20
noncomputable def h215 : H := hUpd h187 3354 [] [] [(214, 1, [I 0, I 1000])]
noncomputable def h216 : H := hUpc h176 3525 [] [] [(182, 0, [I 16, .slice 1110 0 1 1 10 false, I 11]),
  (214, 0, [IZ (-1), I 2147483635]),
  (214, 1, [I 0, I 999])] [(226, 0, 8, I 12)]
noncomputable def m133 : Memo := ⟨[.ptr 226 0, I 0], h215, .agg [I 0, I 1, I 0, U 0, I 0, U 0, IZ (-1), I 0], h216⟩
theorem m133_run : ranTo (evCall (cxX Tryz.prog bad [] [] ((44, pureFn l2) :: q0)) 1000 60 19 m133.args m133.h) m133.v m133.h' = true := by kernel_rfl
theorem m133_ok {σ : Nat → Int} {W0 : World} (hL : L0 W0) : MemoOk Tryz.prog 26623 σ W0 19 m133 := memo_ok fit (Known2.nil σ) (FnsOk.cons (pure_fn_ok (l2_ok hL)) ((q0_ok hL))) m133_run
noncomputable def l21 : List (Memo) := m133 :: m131 :: m130 :: m129 :: m128 :: m127 :: m126 :: m125 :: m124 :: m123 :: m122 :: m121 :: []
theorem l21_ok {σ : Nat → Int} {W0 : World} (hL : L0 W0) : ∀ x ∈ l21, MemoOk Tryz.prog 26623 σ W0 19 x := all_cons (m133_ok hL) (all_cons (m131_ok hL) (all_cons (m130_ok hL) (all_cons (m129_ok hL) (all_cons (m128_ok hL) (all_cons (m127_ok hL) (all_cons (m126_ok hL) (all_cons (m125_ok hL) (all_cons (m124_ok hL) (all_cons (m123_ok hL) (all_cons (m122_ok hL) (all_cons (m121_ok hL) (all_nil))))))))))))
theorem run21 : isTrue (evCall (cxX Tryz.prog bad [] [] ((8, numExtE [(0, 20, .lit 10)]) :: (19, frameFn l21) :: q22)) 1000 60 3 [.int .i64 (.var 0), bT] (sentH 453 20 errTab)) = true := by kernel_rfl
theorem case21 : CaseS [] [] [(0, 20, .lit 10)] [.int .i64 (.var 0), bT] := caseS (fun hL hk hT => FnsOk.cons (hT.ok fit) (FnsOk.cons (frame_fn_ok (l21_ok hL)) ((q22_ok hL)))) run21
noncomputable def m134 : Memo := ⟨[bT, I 12, .snil, .slice 33 0 3 3 1 true], h5, .agg [.slice 157 0 2 2 1 false, I 12, .snil, bT], h6⟩
theorem m134_run : ranTo (evCall (cxX Tryz.prog bad [] [] ((84, frameFn [m1, m2]) :: q0)) 1000 60 9 m134.args m134.h) m134.v m134.h' = true := by kernel_rfl
theorem m134_ok {σ : Nat → Int} {W0 : World} (hL : L0 W0) : MemoOk Tryz.prog 26623 σ W0 9 m134 := memo_ok fit (Known2.nil σ) (FnsOk.cons (frame_fn_ok (all_cons (m1_ok hL) (all_cons (m2_ok hL) (all_nil)))) ((q0_ok hL))) m134_run
noncomputable def h217 : H := hUpd h188 733 [] [] [(214, 1, [I 0, I 12])]
noncomputable def m135 : Memo := ⟨[.ptr 226 0, .agg [.slice 157 0 2 2 1 false, I 12, .snil, bT]], h7, .tuple [I 0, .inil], h217⟩
theorem m135_run : ranTo (evCall (cxX Tryz.prog bad [] [] ((44, pureFn l0) :: q0)) 1000 60 88 m135.args m135.h) m135.v m135.h' = true := by kernel_rfl
theorem m135_ok {σ : Nat → Int} {W0 : World} (hL : L0 W0) : MemoOk Tryz.prog 26623 σ W0 88 m135 := memo_ok fit (Known2.nil σ) (FnsOk.cons (pure_fn_ok (l0_ok hL)) ((q0_ok hL))) m135_run
noncomputable def h218 : H := hUpc h189 170 [] [] [] [(161, 0, 1, I 12)]
noncomputable def h219 : H := hUpc h190 888 [] [] [(214, 1, [I 0, I 12])] [(161, 0, 1, I 12)]
noncomputable def m136 : Memo := ⟨[.agg [I 16, I 24, I 8, I 12, I 8, I 6, I 60, .slice 161 0 1 1 4 true]], h218, .tuple [.ptr 887 0, .inil], h219⟩
noncomputable def q23 : Fns := [(88, frameFn [m135]), (295, isFn 453), (122, atoiFullFn 384), (123, itoaFullFn), (195, joinFn), (307, countFn), (352, indexFn), (308, cutOf Tryz.prog 26623 bad [(307, countFn), (352, indexFn)] 1000 20 308)]
theorem q23_ok {σ : Nat → Int} {W0 : World} (hL : L0 W0) : FnsOk Tryz.prog 26623 σ W0 q23 := FnsOk.cons (frame_fn_ok (all_cons (m135_ok hL) (all_nil))) (FnsOk.cons (ext_is hL) (FnsOk.cons (ext_atoi hL) (FnsOk.cons (ext_itoa hL) (FnsOk.cons (ext_join hL) (FnsOk.cons (ext_count hL) (FnsOk.cons (ext_index hL) (FnsOk.cons (ext_cut308 hL) (FnsOk.nil))))))))
theorem m136_run : ranTo (evCall (cxX Tryz.prog bad [] [] ((44, pureFn l1) :: q23)) 1000 60 10 m136.args m136.h) m136.v m136.h' = true := by kernel_rfl
theorem m136_ok {σ : Nat → Int} {W0 : World} (hL : L0 W0) : MemoOk Tryz.prog 26623 σ W0 10 m136 := memo_ok fit (Known2.nil σ) (FnsOk.cons (pure_fn_ok (l1_ok hL)) ((q23_ok hL))) m136_run
noncomputable def h220 : H := hUpd h191 891 [] [] [(214, 1, [I 0, I 12])]
noncomputable def h221 : H := hUpd h192 1196 [] [] [(214, 1, [I 0, I 11])]
noncomputable def m137 : Memo := ⟨[.ptr 226 0, I 0], h220, .agg [I 0, I 3, I 0, U 0, I 0, U 0, IZ (-1), I 0], h221⟩
theorem m137_run : ranTo (evCall (cxX Tryz.prog bad [] [] ((44, pureFn l2) :: q0)) 1000 60 19 m137.args m137.h) m137.v m137.h' = true := by kernel_rfl
theorem m137_ok {σ : Nat → Int} {W0 : World} (hL : L0 W0) : MemoOk Tryz.prog 26623 σ W0 19 m137 := memo_ok fit (Known2.nil σ) (FnsOk.cons (pure_fn_ok (l2_ok hL)) ((q0_ok hL))) m137_run
noncomputable def h222 : H := hUpd h221 1233 [] [] []
noncomputable def h223 : H := hUpd h194 1404 [] [] [(214, 1, [I 0, I 10])]
noncomputable def m138 : Memo := ⟨[.ptr 226 0, I 0], h222, .agg [I 0, I 1, I 0, U 0, I 0, U 0, IZ (-1), I 0], h223⟩
theorem m138_run : ranTo (evCall (cxX Tryz.prog bad [] [] ((44, pureFn l2) :: q0)) 1000 60 19 m138.args m138.h) m138.v m138.h' = true := by kernel_rfl
theorem m138_ok {σ : Nat → Int} {W0 : World} (hL : L0 W0) : MemoOk Tryz.prog 26623 σ W0 19 m138 := memo_ok fit (Known2.nil σ) (FnsOk.cons (pure_fn_ok (l2_ok hL)) ((q0_ok hL))) m138_run
noncomputable def h224 : H := hUpd h223 1441 [] [] []
noncomputable def h225 : H := hUpd h196 1612 [] [] [(214, 1, [I 0, I 9])]
noncomputable def m139 : Memo := ⟨[.ptr 226 0, I 0], h224, .agg [I 0, I 3, I 0, U 0, I 0, U 0, IZ (-1), I 0], h225⟩
theorem m139_run : ranTo (evCall (cxX Tryz.prog bad [] [] ((44, pureFn l2) :: q0)) 1000 60 19 m139.args m139.h) m139.v m139.h' = true := by kernel_rfl
theorem m139_ok {σ : Nat → Int} {W0 : World} (hL : L0 W0) : MemoOk Tryz.prog 26623 σ W0 19 m139 := memo_ok fit (Known2.nil σ) (FnsOk.cons (pure_fn_ok (l2_ok hL)) ((q0_ok hL))) m139_run
noncomputable def h226 : H := hUpd h225 1649 [] [] []
noncomputable def h227 : H := hUpd h198 1820 [] [] [(214, 1, [I 0, I 8])]
noncomputable def m140 : Memo := ⟨[.ptr 226 0, I 0], h226, .agg [I 0, I 1, I 0, U 0, I 0, U 0, IZ (-1), I 0], h227⟩
theorem m140_run : ranTo (evCall (cxX Tryz.prog bad [] [] ((44, pureFn l2) :: q0)) 1000 60 19 m140.args m140.h) m140.v m140.h' = true := by kernel_rfl
theorem m140_ok {σ : Nat → Int} {W0 : World} (hL : L0 W0) : MemoOk Tryz.prog 26623 σ W0 19 m140 := memo_ok fit (Known2.nil σ) (FnsOk.cons (pure_fn_ok (l2_ok hL)) ((q0_ok hL))) m140_run
noncomputable def h228 : H := hUpd h227 1857 [] [] []
noncomputable def h229 : H := hUpd h200 2028 [] [] [(214, 1, [I 0, I 7])]
noncomputable def m141 : Memo := ⟨[.ptr 226 0, I 0], h228, .agg [I 0, I 3, I 0, U 0, I 0, U 0, IZ (-1), I 0], h229⟩
theorem m141_run : ranTo (evCall (cxX Tryz.prog bad [] [] ((44, pureFn l2) :: q0)) 1000 60 19 m141.args m141.h) m141.v m141.h' = true := by kernel_rfl
theorem m141_ok {σ : Nat → Int} {W0 : World} (hL : L0 W0) : MemoOk Tryz.prog 26623 σ W0 19 m141 := memo_ok fit (Known2.nil σ) (FnsOk.cons (pure_fn_ok (l2_ok hL)) ((q0_ok hL))) m141_run
noncomputable def h230 : H := hUpd h229 2065 [] [] []
noncomputable def h231 : H := hUpd h202 2236 [] [] [(214, 1, [I 0, I 6])]
noncomputable def m142 : Memo := ⟨[.ptr 226 0, I 0], h230, .agg [I 0, I 1, I 0, U 0, I 0, U 0, IZ (-1), I 0], h231⟩
theorem m142_run : ranTo (evCall (cxX Tryz.prog bad [] [] ((44, pureFn l2) :: q0)) 1000 60 19 m142.args m142.h) m142.v m142.h' = true := by kernel_rfl
theorem m142_ok {σ : Nat → Int} {W0 : World} (hL : L0 W0) : MemoOk Tryz.prog 26623 σ W0 19 m142 := memo_ok fit (Known2.nil σ) (FnsOk.cons (pure_fn_ok (l2_ok hL)) ((q0_ok hL))) m142_run
noncomputable def h232 : H := hUpd h231 2273 [] [] []
noncomputable def h233 : H := hUpd h204 2444 [] [] [(214, 1, [I 0, I 5])]
noncomputable def m143 : Memo := ⟨[.ptr 226 0, I 0], h232, .agg [I 0, I 3, I 0, U 0, I 0, U 0, IZ (-1), I 0], h233⟩
theorem m143_run : ranTo (evCall (cxX Tryz.prog bad [] [] ((44, pureFn l2) :: q0)) 1000 60 19 m143.args m143.h) m143.v m143.h' = true := by kernel_rfl
theorem m143_ok {σ : Nat → Int} {W0 : World} (hL : L0 W0) : MemoOk Tryz.prog 26623 σ W0 19 m143 := memo_ok fit (Known2.nil σ) (FnsOk.cons (pure_fn_ok (l2_ok hL)) ((q0_ok hL))) m143_run
noncomputable def h234 : H := hUpd h233 2481 [] [] []
noncomputable def h235 : H := hUpd h206 2652 [] [] [(214, 1, [I 0, I 4])]
noncomputable def m144 : Memo := ⟨[.ptr 226 0, I 0], h234, .agg [I 0, I 1, I 0, U 0, I 0, U 0, IZ (-1), I 0], h235⟩
theorem m144_run : ranTo (evCall (cxX Tryz.prog bad [] [] ((44, pureFn l2) :: q0)) 1000 60 19 m144.args m144.h) m144.v m144.h' = true := by kernel_rfl
theorem m144_ok {σ : Nat → Int} {W0 : World} (hL : L0 W0) : MemoOk Tryz.prog 26623 σ W0 19 m144 := memo_ok fit (Known2.nil σ) (FnsOk.cons (pure_fn_ok (l2_ok hL)) ((q0_ok hL))) m144_run
noncomputable def h236 : H := hUpd h235 2689 [] [] []
noncomputable def h237 : H := hUpd h208 2860 [] [] [(214, 1, [I 0, I 3])]
noncomputable def m145 : Memo := ⟨[.ptr 226 0, I 0], h236, .agg [I 0, I 3, I 0, U 0, I 0, U 0, IZ (-1), I 0], h237⟩
theorem m145_run : ranTo (evCall (cxX Tryz.prog bad [] [] ((44, pureFn l2) :: q0)) 1000 60 19 m145.args m145.h) m145.v m145.h' = true := by kernel_rfl
theorem m145_ok {σ : Nat → Int} {W0 : World} (hL : L0 W0) : MemoOk Tryz.prog 26623 σ W0 19 m145 := memo_ok fit (Known2.nil σ) (FnsOk.cons (pure_fn_ok (l2_ok hL)) ((q0_ok hL))) m145_run
noncomputable def h238 : H := hUpd h237 2897 [] [] []
noncomputable def h239 : H := hUpd h210 3068 [] [] [(214, 1, [I 0, I 2])]
noncomputable def m146 : Memo := ⟨[.ptr 226 0, I 0], h238, .agg [I 0, I 1, I 0, U 0, I 0, U 0, IZ (-1), I 0], h239⟩
theorem m146_run : ranTo (evCall (cxX Tryz.prog bad [] [] ((44, pureFn l2) :: q0)) 1000 60 19 m146.args m146.h) m146.v m146.h' = true := by kernel_rfl
theorem m146_ok {σ : Nat → Int} {W0 : World} (hL : L0 W0) : MemoOk Tryz.prog 26623 σ W0 19 m146 := memo_ok fit (Known2.nil σ) (FnsOk.cons (pure_fn_ok (l2_ok hL)) ((q0_ok hL))) m146_run
noncomputable def h240 : H := hUpd h239 3105 [] [] []
noncomputable def h241 : H := hUpd h212 3276 [] [] [(214, 1, [I 0, I 1])]
noncomputable def m147 : Memo := ⟨[.ptr 226 0, I 0], h240, .agg [I 0, I 3, I 0, U 0, I 0, U 0, IZ (-1), I 0], h241⟩
theorem m147_run : ranTo (evCall (cxX Tryz.prog bad [] [] ((44, pureFn l2) :: q0)) 1000 60 19 m147.args m147.h) m147.v m147.h' = true := by kernel_rfl
theorem m147_ok {σ : Nat → Int} {W0 : World} (hL : L0 W0) : MemoOk Tryz.prog 26623 σ W0 19 m147 := memo_ok fit (Known2.nil σ) (FnsOk.cons (pure_fn_ok (l2_ok hL)) ((q0_ok hL))) m147_run
noncomputable def h242 : H := hUpd h241 3313 [] [] []
noncomputable def h243 : H := hUpd h216 3484 [] [] [(214, 1, [I 0, I 0])]
noncomputable def m148 : Memo := ⟨[.ptr 226 0, I 0], h242, .agg [I 0, I 1, I 0, U 0, I 0, U 0, IZ (-1), I 0], h243⟩
theorem m148_run : ranTo (evCall (cxX Tryz.prog bad [] [] ((44, pureFn l2) :: q0)) 1000 60 19 m148.args m148.h) m148.v m148.h' = true := by kernel_rfl
theorem m148_ok {σ : Nat → Int} {W0 : World} (hL : L0 W0) : MemoOk Tryz.prog 26623 σ W0 19 m148 := memo_ok fit (Known2.nil σ) (FnsOk.cons (pure_fn_ok (l2_ok hL)) ((q0_ok hL))) m148_run
noncomputable def h244 : H := hUpd h243 3521 [] [] []
noncomputable def h245 : H := hUpc h243 3641 [] [] [(225, 0, [.slice 886 0 0 1 1 false])] [(186, 0, 9, I 4), (186, 0, 10, I 6), (226, 0, 8, I 13)]
noncomputable def m149 : Memo := ⟨[.ptr 226 0, I 0], h244, .agg [I 0, I 5, I 0, U 0, I 0, U 0, IZ (-1), I 6], h245⟩
theorem m149_run : ranTo (evCall (cxX Tryz.prog bad [] [] ((44, pureFn l3) :: q0)) 1000 60 19 m149.args m149.h) m149.v m149.h' = true := by kernel_rfl
theorem m149_ok {σ : Nat → Int} {W0 : World} (hL : L0 W0) : MemoOk Tryz.prog 26623 σ W0 19 m149 := memo_ok fit (Known2.nil σ) (FnsOk.cons (pure_fn_ok (l3_ok hL)) ((q0_ok hL))) m149_run
noncomputable def l22 : List (Memo) := m149 :: m148 :: m147 :: m146 :: m145 :: m144 :: m143 :: m142 :: m141 :: m140 :: m139 :: m138 :: m137 :: []
theorem l22_ok {σ : Nat → Int} {W0 : World} (hL : L0 W0) : ∀ x ∈ l22, MemoOk Tryz.prog 26623 σ W0 19 x := all_cons (m149_ok hL) (all_cons (m148_ok hL) (all_cons (m147_ok hL) (all_cons (m146_ok hL) (all_cons (m145_ok hL) (all_cons (m144_ok hL) (all_cons (m143_ok hL) (all_cons (m142_ok hL) (all_cons (m141_ok hL) (all_cons (m140_ok hL) (all_cons (m139_ok hL) (all_cons (m138_ok hL) (all_cons (m137_ok hL) (all_nil)))))))))))))
noncomputable def q24 : Fns := [(7, pureFn [p0]), (9, frameFn [m134]), (10, frameFn [m136]), (295, isFn 453), (122, atoiFullFn 384), (123, itoaFullFn), (195, joinFn), (307, countFn), (352, indexFn), (308, cutOf Tryz.prog 26623 bad [(307, countFn), (352, indexFn)] 1000 20 308)]
theorem q24_ok {σ : Nat → Int} {W0 : World} (hL : L0 W0) : FnsOk Tryz.prog 26623 σ W0 q24 := FnsOk.cons (pure_fn_ok (all_cons (p0_ok hL) (all_nil))) (FnsOk.cons (frame_fn_ok (all_cons (m134_ok hL) (all_nil))) (FnsOk.cons (frame_fn_ok (all_cons (m136_ok hL) (all_nil))) (FnsOk.cons (ext_is hL) (FnsOk.cons (ext_atoi hL) (FnsOk.cons (ext_itoa hL) (FnsOk.cons (ext_join hL) (FnsOk.cons (ext_count hL) (FnsOk.cons (ext_index hL) (FnsOk.cons (ext_cut308 hL) (FnsOk.nil))))))))))
theorem run22 : isTrue (evCall (cxX Tryz.prog bad [] [] ((8, numExtE [(0, 20, .lit 11)]) :: (19, frameFn l22) :: q24)) 1000 60 3 [.int .i64 (.var 0), bF] (sentH 453 20 errTab)) = true := by kernel_rfl
theorem case22 : CaseS [] [] [(0, 20, .lit 11)] [.int .i64 (.var 0), bF] := caseS (fun hL hk hT => FnsOk.cons (hT.ok fit) (FnsOk.cons (frame_fn_ok (l22_ok hL)) ((q24_ok hL)))) run22
noncomputable def h246 : H := hUpd h216 3562 [] [] [(214, 1, [I 0, I 1000])]
noncomputable def h247 : H := hUpc h208 3733 [] [] [(182, 0, [I 16, .slice 1110 0 1 1 10 false, I 12]),
  (214, 0, [IZ (-1), I 2147483634]),
  (214, 1, [I 0, I 999])] [(226, 0, 8, I 13)]
noncomputable def m150 : Memo := ⟨[.ptr 226 0, I 0], h246, .agg [I 0, I 3, I 0, U 0, I 0, U 0, IZ (-1), I 0], h247⟩
theorem m150_run : ranTo (evCall (cxX Tryz.prog bad [] [] ((44, pureFn l2) :: q0)) 1000 60 19 m150.args m150.h) m150.v m150.h' = true := by kernel_rfl
theorem m150_ok {σ : Nat → Int} {W0 : World} (hL : L0 W0) : MemoOk Tryz.prog 26623 σ W0 19 m150 := memo_ok fit (Known2.nil σ) (FnsOk.cons (pure_fn_ok (l2_ok hL)) ((q0_ok hL))) m150_run
noncomputable def l23 : List (Memo) := m150 :: m148 :: m147 :: m146 :: m145 :: m144 :: m143 :: m142 :: m141 :: m140 :: m139 :: m138 :: m137 :: []
theorem l23_ok {σ : Nat → Int} {W0 : World} (hL : L0 W0) : ∀ x ∈ l23, MemoOk Tryz.prog 26623 σ W0 19 x := all_cons (m150_ok hL) (all_cons (m148_ok hL) (all_cons (m147_ok hL) (all_cons (m146_ok hL) (all_cons (m145_ok hL) (all_cons (m144_ok hL) (all_cons (m143_ok hL) (all_cons (m142_ok hL) (all_cons (m141_ok hL) (all_cons (m140_ok hL) (all_cons (m139_ok hL) (all_cons (m138_ok hL) (all_cons (m137_ok hL) (all_nil)))))))))))))
theorem run23 : isTrue (evCall (cxX Tryz.prog bad [] [] ((8, numExtE [(0, 20, .lit 11)]) :: (19, frameFn l23) :: q24)) 1000 60 3 [.int .i64 (.var 0), bT] (sentH 453 20 errTab)) = true := by kernel_rfl
theorem case23 : CaseS [] [] [(0, 20, .lit 11)] [.int .i64 (.var 0), bT] := caseS (fun hL hk hT => FnsOk.cons (hT.ok fit) (FnsOk.cons (frame_fn_ok (l23_ok hL)) ((q24_ok hL)))) run23
noncomputable def m151 : Memo := ⟨[bT, I 13, .snil, .slice 33 0 3 3 1 true], h5, .agg [.slice 157 0 2 2 1 false, I 13, .snil, bT], h6⟩
theorem m151_run : ranTo (evCall (cxX Tryz.prog bad [] [] ((84, frameFn [m1, m2]) :: q0)) 1000 60 9 m151.args m151.h) m151.v m151.h' = true := by kernel_rfl
theorem m151_ok {σ : Nat → Int} {W0 : World} (hL : L0 W0) : MemoOk Tryz.prog 26623 σ W0 9 m151 := memo_ok fit (Known2.nil σ) (FnsOk.cons (frame_fn_ok (all_cons (m1_ok hL) (all_cons (m2_ok hL) (all_nil)))) ((q0_ok hL))) m151_run
noncomputable def h248 : H := hUpd h217 733 [] [] [(214, 1, [I 0, I 13])]
noncomputable def m152 : Memo := ⟨[.ptr 226 0, .agg [.slice 157 0 2 2 1 false, I 13, .snil, bT]], h7, .tuple [I 0, .inil], h248⟩
theorem m152_run : ranTo (evCall (cxX Tryz.prog bad [] [] ((44, pureFn l0) :: q0)) 1000 60 88 m152.args m152.h) m152.v m152.h' = true := by kernel_rfl
theorem m152_ok {σ : Nat → Int} {W0 : World} (hL : L0 W0) : MemoOk Tryz.prog 26623 σ W0 88 m152 := memo_ok fit (Known2.nil σ) (FnsOk.cons (pure_fn_ok (l0_ok hL)) ((q0_ok hL))) m152_run
noncomputable def h249 : H := hUpc h218 170 [] [] [] [(161, 0, 1, I 13)]
noncomputable def h250 : H := hUpc h219 888 [] [] [(214, 1, [I 0, I 13])] [(161, 0, 1, I 13)]
noncomputable def m153 : Memo := ⟨[.agg [I 16, I 24, I 8, I 12, I 8, I 6, I 60, .slice 161 0 1 1 4 true]], h249, .tuple [.ptr 887 0, .inil], h250⟩
noncomputable def q25 : Fns := [(88, frameFn [m152]), (295, isFn 453), (122, atoiFullFn 384), (123, itoaFullFn), (195, joinFn), (307, countFn), (352, indexFn), (308, cutOf Tryz.prog 26623 bad [(307, countFn), (352, indexFn)] 1000 20 308)]
theorem q25_ok {σ : Nat → Int} {W0 : World} (hL : L0 W0) : FnsOk Tryz.prog 26623 σ W0 q25 := FnsOk.cons (frame_fn_ok (all_cons (m152_ok hL) (all_nil))) (FnsOk.cons (ext_is hL) (FnsOk.cons (ext_atoi hL) (FnsOk.cons (ext_itoa hL) (FnsOk.cons (ext_join hL) (FnsOk.cons (ext_count hL) (FnsOk.cons (ext_index hL) (FnsOk.cons (ext_cut308 hL) (FnsOk.nil))))))))
theorem m153_run : ranTo (evCall (cxX Tryz.prog bad [] [] ((44, pureFn l1) :: q25)) 1000 60 10 m153.args m153.h) m153.v m153.h' = true := by kernel_rfl
theorem m153_ok {σ : Nat → Int} {W0 : World} (hL : L0 W0) : MemoOk Tryz.prog 26623 σ W0 10 m153 := memo_ok fit (Known2.nil σ) (FnsOk.cons (pure_fn_ok (l1_ok hL)) ((q25_ok hL))) m153_run
noncomputable def h251 : H := hUpd h220 891 [] [] [(214, 1, [I 0, I 13])]
noncomputable def h252 : H := hUpd h221 1196 [] [] [(214, 1, [I 0, I 12])]
noncomputable def m154 : Memo := ⟨[.ptr 226 0, I 0], h251, .agg [I 0, I 3, I 0, U 0, I 0, U 0, IZ (-1), I 0], h252⟩
theorem m154_run : ranTo (evCall (cxX Tryz.prog bad [] [] ((44, pureFn l2) :: q0)) 1000 60 19 m154.args m154.h) m154.v m154.h' = true := by kernel_rfl
theorem m154_ok {σ : Nat → Int} {W0 : World} (hL : L0 W0) : MemoOk Tryz.prog 26623 σ W0 19 m154 := memo_ok fit (Known2.nil σ) (FnsOk.cons (pure_fn_ok (l2_ok hL)) ((q0_ok hL))) m154_run
noncomputable def h253 : H := hUpd h252 1233 [] [] []
noncomputable def h254 : H := hUpd h223 1404 [] [] [(214, 1, [I 0, I 11])]
noncomputable def m155 : Memo := ⟨[.ptr 226 0, I 0], h253, .agg [I 0, I 1, I 0, U 0, I 0, U 0, IZ (-1), I 0], h254⟩
theorem m155_run : ranTo (evCall (cxX Tryz.prog bad [] [] ((44, pureFn l2) :: q0)) 1000 60 19 m155.args m155.h) m155.v m155.h' = true := by kernel_rfl
theorem m155_ok {σ : Nat → Int} {W0 : World} (hL : L0 W0) : MemoOk Tryz.prog 26623 σ W0 19 m155 := memo_ok fit (Known2.nil σ) (FnsOk.cons (pure_fn_ok (l2_ok hL)) ((q0_ok hL))) m155_run
noncomputable def h255 : H := hUpd h254 1441 [] [] []
noncomputable def h256 : H := hUpd h225 1612 [] [] [(214, 1, [I 0, I 10])]
noncomputable def m156 : Memo := ⟨[.ptr 226 0, I 0], h255, .agg [I 0, I 3, I 0, U 0, I 0, U 0, IZ (-1), I 0], h256⟩
theorem m156_run : ranTo (evCall (cxX Tryz.prog bad [] [] ((44, pureFn l2) :: q0)) 1000 60 19 m156.args m156.h) m156.v m156.h' = true := by kernel_rfl
theorem m156_ok {σ : Nat → Int} {W0 : World} (hL : L0 W0) : MemoOk Tryz.prog 26623 σ W0 19 m156 := memo_ok fit (Known2.nil σ) (FnsOk.cons (pure_fn_ok (l2_ok hL)) ((q0_ok hL))) m156_run
noncomputable def h257 : H := hUpd h256 1649 [] [] []
noncomputable def h258 : H := hUpd h227 1820 [] [] [(214, 1, [I 0, I 9])]
noncomputable def m157 : Memo := ⟨[.ptr 226 0, I 0], h257, .agg [I 0, I 1, I 0, U 0, I 0, U 0, IZ (-1), I 0], h258⟩
theorem m157_run : ranTo (evCall (cxX Tryz.prog bad [] [] ((44, pureFn l2) :: q0)) 1000 60 19 m157.args m157.h) m157.v m157.h' = true := by kernel_rfl
theorem m157_ok {σ : Nat → Int} {W0 : World} (hL : L0 W0) : MemoOk Tryz.prog 26623 σ W0 19 m157 := memo_ok fit (Known2.nil σ) (FnsOk.cons (pure_fn_ok (l2_ok hL)) ((q0_ok hL))) m157_run
noncomputable def h259 : H := hUpd h258 1857 [] [] []
noncomputable def h260 : H := hUpd h229 2028 [] [] [(214, 1, [I 0, I 8])]
noncomputable def m158 : Memo := ⟨[.ptr 226 0, I 0], h259, .agg [I 0, I 3, I 0, U 0, I 0, U 0, IZ (-1), I 0], h260⟩
theorem m158_run : ranTo (evCall (cxX Tryz.prog bad [] [] ((44, pureFn l2) :: q0)) 1000 60 19 m158.args m158.h) m158.v m158.h' = true := by kernel_rfl
theorem m158_ok {σ : Nat → Int} {W0 : World} (hL : L0 W0) : MemoOk Tryz.prog 26623 σ W0 19 m158 := memo_ok fit (Known2.nil σ) (FnsOk.cons (pure_fn_ok (l2_ok hL)) ((q0_ok hL))) m158_run
noncomputable def h261 : H := hUpd h260 2065 [] [] []
noncomputable def h262 : H := hUpd h231 2236 [] [] [(214, 1, [I 0, I 7])]
noncomputable def m159 : Memo := ⟨[.ptr 226 0, I 0], h261, .agg [I 0, I 1, I 0, U 0, I 0, U 0, IZ (-1), I 0], h262⟩
theorem m159_run : ranTo (evCall (cxX Tryz.prog bad [] [] ((44, pureFn l2) :: q0)) 1000 60 19 m159.args m159.h) m159.v m159.h' = true := by kernel_rfl
theorem m159_ok {σ : Nat → Int} {W0 : World} (hL : L0 W0) : MemoOk Tryz.prog 26623 σ W0 19 m159 := memo_ok fit (Known2.nil σ) (FnsOk.cons (pure_fn_ok (l2_ok hL)) ((q0_ok hL))) m159_run
noncomputable def h263 : H := hUpd h262 2273 [] [] []
noncomputable def h264 : H := hUpd h233 2444 [] [] [(214, 1, [I 0, I 6])]
noncomputable def m160 : Memo := ⟨[.ptr 226 0, I 0], h263, .agg [I 0, I 3, I 0, U 0, I 0, U 0, IZ (-1), I 0], h264⟩
theorem m160_run : ranTo (evCall (cxX Tryz.prog bad [] [] ((44, pureFn l2) :: q0)) 1000 60 19 m160.args m160.h) m160.v m160.h' = true := by kernel_rfl
theorem m160_ok {σ : Nat → Int} {W0 : World} (hL : L0 W0) : MemoOk Tryz.prog 26623 σ W0 19 m160 := memo_ok fit (Known2.nil σ) (FnsOk.cons (pure_fn_ok (l2_ok hL)) ((q0_ok hL))) m160_run
noncomputable def h265 : H := hUpd h264 2481 [] [] []
noncomputable def h266 : H := hUpd h235 2652 [] [] [(214, 1, [I 0, I 5])]
noncomputable def m161 : Memo := ⟨[.ptr 226 0, I 0], h265, .agg [I 0, I 1, I 0, U 0, I 0, U 0, IZ (-1), I 0], h266⟩
theorem m161_run : ranTo (evCall (cxX Tryz.prog bad [] [] ((44, pureFn l2) :: q0)) 1000 60 19 m161.args m161.h) m161.v m161.h' = true := by kernel_rfl
theorem m161_ok {σ : Nat → Int} {W0 : World} (hL : L0 W0) : MemoOk Tryz.prog 26623 σ W0 19 m161 := memo_ok fit (Known2.nil σ) (FnsOk.cons (pure_fn_ok (l2_ok hL)) ((q0_ok hL))) m161_run
noncomputable def h267 : H := hUpd h266 2689 [] [] []
noncomputable def h268 : H := hUpd h237 2860 [] [] [(214, 1, [I 0, I 4])]
noncomputable def m162 : Memo := ⟨[.ptr 226 0, I 0], h267, .agg [I 0, I 3, I 0, U 0, I 0, U 0, IZ (-1), I 0], h268⟩
theorem m162_run : ranTo (evCall (cxX Tryz.prog bad [] [] ((44, pureFn l2) :: q0)) 1000 60 19 m162.args m162.h) m162.v m162.h' = true := by kernel_rfl
theorem m162_ok {σ : Nat → Int} {W0 : World} (hL : L0 W0) : MemoOk Tryz.prog 26623 σ W0 19 m162 := memo_ok fit (Known2.nil σ) (FnsOk.cons (pure_fn_ok (l2_ok hL)) ((q0_ok hL))) m162_run
noncomputable def h269 : H := hUpd h268 2897 [] [] []
noncomputable def h270 : H := hUpd h239 3068 [] [] [(214, 1, [I 0, I 3])]
noncomputable def m163 : Memo := ⟨[.ptr 226 0, I 0], h269, .agg [I 0, I 1, I 0, U 0, I 0, U 0, IZ (-1), I 0], h270⟩
theorem m163_run : ranTo (evCall (cxX Tryz.prog bad [] [] ((44, pureFn l2) :: q0)) 1000 60 19 m163.args m163.h) m163.v m163.h' = true := by kernel_rfl
theorem m163_ok {σ : Nat → Int} {W0 : World} (hL : L0 W0) : MemoOk Tryz.prog 26623 σ W0 19 m163 := memo_ok fit (Known2.nil σ) (FnsOk.cons (pure_fn_ok (l2_ok hL)) ((q0_ok hL))) m163_run
noncomputable def h271 : H := hUpd h270 3105 [] [] []
noncomputable def h272 : H := hUpd h241 3276 [] [] [(214, 1, [I 0, I 2])]
noncomputable def m164 : Memo := ⟨[.ptr 226 0, I 0], h271, .agg [I 0, I 3, I 0, U 0, I 0, U 0, IZ (-1), I 0], h272⟩
theorem m164_run : ranTo (evCall (cxX Tryz.prog bad [] [] ((44, pureFn l2) :: q0)) 1000 60 19 m164.args m164.h) m164.v m164.h' = true := by kernel_rfl
theorem m164_ok {σ : Nat → Int} {W0 : World} (hL : L0 W0) : MemoOk Tryz.prog 26623 σ W0 19 m164 := memo_ok fit (Known2.nil σ) (FnsOk.cons (pure_fn_ok (l2_ok hL)) ((q0_ok hL))) m164_run
noncomputable def h273 : H := hUpd h272 3313 [] [] []
noncomputable def h274 : H := hUpd h243 3484 [] [] [(214, 1, [I 0, I 1])]
noncomputable def m165 : Memo := ⟨[.ptr 226 0, I 0], h273, .agg [I 0, I 1, I 0, U 0, I 0, U 0, IZ (-1), I 0], h274⟩
theorem m165_run : ranTo (evCall (cxX Tryz.prog bad [] [] ((44, pureFn l2) :: q0)) 1000 60 19 m165.args m165.h) m165.v m165.h' = true := by kernel_rfl
theorem m165_ok {σ : Nat → Int} {W0 : World} (hL : L0 W0) : MemoOk Tryz.prog 26623 σ W0 19 m165 := memo_ok fit (Known2.nil σ) (FnsOk.cons (pure_fn_ok (l2_ok hL)) ((q0_ok hL))) m165_run
noncomputable def h275 : H := hUpd h274 3521 [] [] []
noncomputable def h276 : H := hUpd h247 3692 [] [] [(214, 1, [I 0, I 0])]
noncomputable def m166 : Memo := ⟨[.ptr 226 0, I 0], h275, .agg [I 0, I 3, I 0, U 0, I 0, U 0, IZ (-1), I 0], h276⟩
theorem m166_run : ranTo (evCall (cxX Tryz.prog bad [] [] ((44, pureFn l2) :: q0)) 1000 60 19 m166.args m166.h) m166.v m166.h' = true := by kernel_rfl
theorem m166_ok {σ : Nat → Int} {W0 : World} (hL : L0 W0) : MemoOk Tryz.prog 26623 σ W0 19 m166 := memo_ok fit (Known2.nil σ) (FnsOk.cons (pure_fn_ok (l2_ok hL)) ((q0_ok hL))) m166_run
noncomputable def h277 : H := hUpd h276 3729 [] [] []
noncomputable def h278 : H := hUpc h276 3849 [] [] [(225, 0, [.slice 886 0 0 1 1 false])] [(186, 0, 9, I 4), (186, 0, 10, I 6), (226, 0, 8, I 14)]
noncomputable def m167 : Memo := ⟨[.ptr 226 0, I 0], h277, .agg [I 0, I 5, I 0, U 0, I 0, U 0, IZ (-1), I 6], h278⟩
theorem m167_run : ranTo (evCall (cxX Tryz.prog bad [] [] ((44, pureFn l3) :: q0)) 1000 60 19 m167.args m167.h) m167.v m167.h' = true := by kernel_rfl
theorem m167_ok {σ : Nat → Int} {W0 : World} (hL : L0 W0) : MemoOk Tryz.prog 26623 σ W0 19 m167 := memo_ok fit (Known2.nil σ) (FnsOk.cons (pure_fn_ok (l3_ok hL)) ((q0_ok hL))) m167_run
noncomputable def l24 : List (Memo) := m167 :: m166 :: m165 :: m164 :: m163 :: m162 :: m161 :: m160 :: m159 :: m158 :: m157 :: m156 :: m155 :: m154 :: []
theorem l24_ok {σ : Nat → Int} {W0 : World} (hL : L0 W0) : ∀ x ∈ l24, MemoOk Tryz.prog 26623 σ W0 19 x := all_cons (m167_ok hL) (all_cons (m166_ok hL) (all_cons (m165_ok hL) (all_cons (m164_ok hL) (all_cons (m163_ok hL) (all_cons (m162_ok hL) (all_cons (m161_ok hL) (all_cons (m160_ok hL) (all_cons (m159_ok hL) (all_cons (m158_ok hL) (all_cons (m157_ok hL) (all_cons (m156_ok hL) (all_cons (m155_ok hL) (all_cons (m154_ok hL) (all_nil))))))))))))))
noncomputable def q26 : Fns := [(7, pureFn [p0]), (9, frameFn [m151]), (10, frameFn [m153]), (295, isFn 453), (122, atoiFullFn 384), (123, itoaFullFn), (195, joinFn), (307, countFn), (352, indexFn), (308, cutOf Tryz.prog 26623 bad [(307, countFn), (352, indexFn)] 1000 20 308)]
theorem q26_ok {σ : Nat → Int} {W0 : World} (hL : L0 W0) : FnsOk Tryz.prog 26623 σ W0 q26 := FnsOk.cons (pure_fn_ok (all_cons (p0_ok hL) (all_nil))) (FnsOk.cons (frame_fn_ok (all_cons (m151_ok hL) (all_nil))) (FnsOk.cons (frame_fn_ok (all_cons (m153_ok hL) (all_nil))) (FnsOk.cons (ext_is hL) (FnsOk.cons (ext_atoi hL) (FnsOk.cons (ext_itoa hL) (FnsOk.cons (ext_join hL) (FnsOk.cons (ext_count hL) (FnsOk.cons (ext_index hL) (FnsOk.cons (ext_cut308 hL) (FnsOk.nil))))))))))
theorem run24 : isTrue (evCall (cxX Tryz.prog bad [] [] ((8, numExtE [(0, 20, .lit 12)]) :: (19, frameFn l24) :: q26)) 1000 60 3 [.int .i64 (.var 0), bF] (sentH 453 20 errTab)) = true := by kernel_rfl
theorem case24 : CaseS [] [] [(0, 20, .lit 12)] [.int .i64 (.var 0), bF] := caseS (fun hL hk hT => FnsOk.cons (hT.ok fit) (FnsOk.cons (frame_fn_ok (l24_ok hL)) ((q26_ok hL)))) run24
noncomputable def h279 : H := hUpd h247 3770 [] [] [(214, 1, [I 0, I 1000])]
noncomputable def h280 : H := hUpc h240 3941 [] [] [(182, 0, [I 16, .slice 1110 0 1 1 10 false, I 13]),
  (214, 0, [IZ (-1), I 2147483633]),
  (214, 1, [I 0, I 999])] [(226, 0, 8, I 14)]
noncomputable def m168 : Memo := ⟨[.ptr 226 0, I 0], h279, .agg [I 0, I 1, I 0, U 0, I 0, U 0, IZ (-1), I 0], h280⟩
theorem m168_run : ranTo (evCall (cxX Tryz.prog bad [] [] ((44, pureFn l2) :: q0)) 1000 60 19 m168.args m168.h) m168.v m168.h' = true := by kernel_rfl
theorem m168_ok {σ : Nat → Int} {W0 : World} (hL : L0 W0) : MemoOk Tryz.prog 26623 σ W0 19 m168 := memo_ok fit (Known2.nil σ) (FnsOk.cons (pure_fn_ok (l2_ok hL)) ((q0_ok hL))) m168_run
noncomputable def l25 : List (Memo) := m168 :: m166 :: m165 :: m164 :: m163 :: m162 :: m161 :: m160 :: m159 :: m158 :: m157 :: m156 :: m155 :: m154 :: []
theorem l25_ok {σ : Nat → Int} {W0 : World} (hL : L0 W0) : ∀ x ∈ l25, MemoOk Tryz.prog 26623 σ W0 19 x := all_cons (m168_ok hL) (all_cons (m166_ok hL) (all_cons (m165_ok hL) (all_cons (m164_ok hL) (all_cons (m163_ok hL) (all_cons (m162_ok hL) (all_cons (m161_ok hL) (all_cons (m160_ok hL) (all_cons (m159_ok hL) (all_cons (m158_ok hL) (all_cons (m157_ok hL) (all_cons (m156_ok hL) (all_cons (m155_ok hL) (all_cons (m154_ok hL) (all_nil))))))))))))))
theorem run25 : isTrue (evCall (cxX Tryz.prog bad [] [] ((8, numExtE [(0, 20, .lit 12)]) :: (19, frameFn l25) :: q26)) 1000 60 3 [.int .i64 (.var 0), bT] (sentH 453 20 errTab)) = true := by kernel_rfl
theorem case25 : CaseS [] [] [(0, 20, .lit 12)] [.int .i64 (.var 0), bT] := caseS (fun hL hk hT => FnsOk.cons (hT.ok fit) (FnsOk.cons (frame_fn_ok (l25_ok hL)) ((q26_ok hL)))) run25
noncomputable def m169 : Memo := ⟨[bT, I 14, .snil, .slice 33 0 3 3 1 true], h5, .agg [.slice 157 0 2 2 1 false, I 14, .snil, bT], h6⟩
theorem m169_run : ranTo (evCall (cxX Tryz.prog bad [] [] ((84, frameFn [m1, m2]) :: q0)) 1000 60 9 m169.args m169.h) m169.v m169.h' = true := by kernel_rfl
theorem m169_ok {σ : Nat → Int} {W0 : World} (hL : L0 W0) : MemoOk Tryz.prog 26623 σ W0 9 m169 := memo_ok fit (Known2.nil σ) (FnsOk.cons (frame_fn_ok (all_cons (m1_ok hL) (all_cons (m2_ok hL) (all_nil)))) ((q0_ok hL))) m169_run
noncomputable def h281 : H := hUpd h248 733 [] [] [(214, 1, [I 0, I 14])]
noncomputable def m170 : Memo := ⟨[.ptr 226 0, .agg [.slice 157 0 2 2 1 false, I 14, .snil, bT]], h7, .tuple [I 0, .inil], h281⟩
theorem m170_run : ranTo (evCall (cxX Tryz.prog bad [] [] ((44, pureFn l0) :: q0)) 1000 60 88 m170.args m170.h) m170.v m170.h' = true := by kernel_rfl
theorem m170_ok {σ : Nat → Int} {W0 : World} (hL : L0 W0) : MemoOk Tryz.prog 26623 σ W0 88 m170 := memo_ok fit (Known2.nil σ) (FnsOk.cons (pure_fn_ok (l0_ok hL)) ((q0_ok hL))) m170_run
noncomputable def h282 : H := hUpc h249 170 [] [] [] [(161, 0, 1, I 14)]
noncomputable def h283 : H := hUpc h250 888 [] [] [(214, 1, [I 0, I 14])] [(161, 0, 1, I 14)]
noncomputable def m171 : Memo := ⟨[.agg [I 16, I 24, I 8, I 12, I 8, I 6, I 60, .slice 161 0 1 1 4 true]], h282, .tuple [.ptr 887 0, .inil], h283⟩
noncomputable def q27 : Fns := [(88, frameFn [m170]), (295, isFn 453), (122, atoiFullFn 384), (123, itoaFullFn), (195, joinFn), (307, countFn), (352, indexFn), (308, cutOf Tryz.prog 26623 bad [(307, countFn), (352, indexFn)] 1000 20 308)]
theorem q27_ok {σ : Nat → Int} {W0 : World} (hL : L0 W0) : FnsOk Tryz.prog 26623 σ W0 q27 := FnsOk.cons (frame_fn_ok (all_cons (m170_ok hL) (all_nil))) (FnsOk.cons (ext_is hL) (FnsOk.cons (ext_atoi hL) (FnsOk.cons (ext_itoa hL) (FnsOk.cons (ext_join hL) (FnsOk.cons (ext_count hL) (FnsOk.cons (ext_index hL) (FnsOk.cons (ext_cut308 hL) (FnsOk.nil))))))))
theorem m171_run : ranTo (evCall (cxX Tryz.prog bad [] [] ((44, pureFn l1) :: q27)) 1000 60 10 m171.args m171.h) m171.v m171.h' = true := by kernel_rfl
theorem m171_ok {σ : Nat → Int} {W0 : World} (hL : L0 W0) : MemoOk Tryz.prog 26623 σ W0 10 m171 := memo_ok fit (Known2.nil σ) (FnsOk.cons (pure_fn_ok (l1_ok hL)) ((q27_ok hL))) m171_run
noncomputable def h284 : H := hUpd h251 891 [] [] [(214, 1, [I 0, I 14])]
noncomputable def h285 : H := hUpd h252 1196 [] [] [(214, 1, [I 0, I 13])]
noncomputable def m172 : Memo := ⟨[.ptr 226 0, I 0], h284, .agg [I 0, I 3, I 0, U 0, I 0, U 0, IZ (-1), I 0], h285⟩
theorem m172_run : ranTo (evCall (cxX Tryz.prog bad [] [] ((44, pureFn l2) :: q0)) 1000 60 19 m172.args m172.h) m172.v m172.h' = true := by kernel_rfl
theorem m172_ok {σ : Nat → Int} {W0 : World} (hL : L0 W0) : MemoOk Tryz.prog 26623 σ W0 19 m172 := memo_ok fit (Known2.nil σ) (FnsOk.cons (pure_fn_ok (l2_ok hL)) ((q0_ok hL))) m172_run
noncomputable def h286 : H := hUpd h285 1233 [] [] []
noncomputable def h287 : H := hUpd h254 1404 [] [] [(214, 1, [I 0, I 12])]
noncomputable def m173 : Memo := ⟨[.ptr 226 0, I 0], h286, .agg [I 0, I 1, I 0, U 0, I 0, U 0, IZ (-1), I 0], h287⟩
theorem m173_run : ranTo (evCall (cxX Tryz.prog bad [] [] ((44, pureFn l2) :: q0)) 1000 60 19 m173.args m173.h) m173.v m173.h' = true := by kernel_rfl
theorem m173_ok {σ : Nat → Int} {W0 : World} (hL : L0 W0) : MemoOk Tryz.prog 26623 σ W0 19 m173 := memo_ok fit (Known2.nil σ) (FnsOk.cons (pure_fn_ok (l2_ok hL)) ((q0_ok hL))) m173_run
noncomputable def h288 : H := hUpd h287 1441 [] [] []
noncomputable def h289 : H := hUpd h256 1612 [] [] [(214, 1, [I 0, I 11])]
noncomputable def m174 : Memo := ⟨[.ptr 226 0, I 0], h288, .agg [I 0, I 3, I 0, U 0, I 0, U 0, IZ (-1), I 0], h289⟩
theorem m174_run : ranTo (evCall (cxX Tryz.prog bad [] [] ((44, pureFn l2) :: q0)) 1000 60 19 m174.args m174.h) m174.v m174.h' = true := by kernel_rfl
theorem m174_ok {σ : Nat → Int} {W0 : World} (hL : L0 W0) : MemoOk Tryz.prog 26623 σ W0 19 m174 := memo_ok fit (Known2.nil σ) (FnsOk.cons (pure_fn_ok (l2_ok hL)) ((q0_ok hL))) m174_run
noncomputable def h290 : H := hUpd h289 1649 [] [] []
noncomputable def h291 : H := hUpd h258 1820 [] [] [(214, 1, [I 0, I 10])]
noncomputable def m175 : Memo := ⟨[.ptr 226 0, I 0], h290, .agg [I 0, I 1, I 0, U 0, I 0, U 0, IZ (-1), I 0], h291⟩
theorem m175_run : ranTo (evCall (cxX Tryz.prog bad [] [] ((44, pureFn l2) :: q0)) 1000 60 19 m175.args m175.h) m175.v m175.h' = true := by kernel_rfl
theorem m175_ok {σ : Nat → Int} {W0 : World} (hL : L0 W0) : MemoOk Tryz.prog 26623 σ W0 19 m175 := memo_ok fit (Known2.nil σ) (FnsOk.cons (pure_fn_ok (l2_ok hL)) ((q0_ok hL))) m175_run
noncomputable def h292 : H := hUpd h291 1857 [] [] []
noncomputable def h293 : H := hUpd h260 2028 [] [] [(214, 1, [I 0, I 9])]
noncomputable def m176 : Memo := ⟨[.ptr 226 0, I 0], h292, .agg [I 0, I 3, I 0, U 0, I 0, U 0, IZ (-1), I 0], h293⟩
theorem m176_run : ranTo (evCall (cxX Tryz.prog bad [] [] ((44, pureFn l2) :: q0)) 1000 60 19 m176.args m176.h) m176.v m176.h' = true := by kernel_rfl
theorem m176_ok {σ : Nat → Int} {W0 : World} (hL : L0 W0) : MemoOk Tryz.prog 26623 σ W0 19 m176 := memo_ok fit (Known2.nil σ) (FnsOk.cons (pure_fn_ok (l2_ok hL)) ((q0_ok hL))) m176_run
noncomputable def h294 : H := hUpd h293 2065 [] [] []
noncomputable def h295 : H := hUpd h262 2236 [] [] [(214, 1, [I 0, I 8])]
noncomputable def m177 : Memo := ⟨[.ptr 226 0, I 0], h294, .agg [I 0, I 1, I 0, U 0, I 0, U 0, IZ (-1), I 0], h295⟩
theorem m177_run : ranTo (evCall (cxX Tryz.prog bad [] [] ((44, pureFn l2) :: q0)) 1000 60 19 m177.args m177.h) m177.v m177.h' = true := by kernel_rfl
theorem m177_ok {σ : Nat → Int} {W0 : World} (hL : L0 W0) : MemoOk Tryz.prog 26623 σ W0 19 m177 := memo_ok fit (Known2.nil σ) (FnsOk.cons (pure_fn_ok (l2_ok hL)) ((q0_ok hL))) m177_run
noncomputable def h296 : H := hUpd h295 2273 [] [] []
noncomputable def h297 : H := hUpd h264 2444 [] [] [(214, 1, [I 0, I 7])]
noncomputable def m178 : Memo := ⟨[.ptr 226 0, I 0], h296, .agg [I 0, I 3, I 0, U 0, I 0, U 0, IZ (-1), I 0], h297⟩
theorem m178_run : ranTo (evCall (cxX Tryz.prog bad [] [] ((44, pureFn l2) :: q0)) 1000 60 19 m178.args m178.h) m178.v m178.h' = true := by kernel_rfl
theorem m178_ok {σ : Nat → Int} {W0 : World} (hL : L0 W0) : MemoOk Tryz.prog 26623 σ W0 19 m178 := memo_ok fit (Known2.nil σ) (FnsOk.cons (pure_fn_ok (l2_ok hL)) ((q0_ok hL))) m178_run
noncomputable def h298 : H := hUpd h297 2481 [] [] []
noncomputable def h299 : H := hUpd h266 2652 [] [] [(214, 1, [I 0, I 6])]
noncomputable def m179 : Memo := ⟨[.ptr 226 0, I 0], h298, .agg [I 0, I 1, I 0, U 0, I 0, U 0, IZ (-1), I 0], h299⟩
theorem m179_run : ranTo (evCall (cxX Tryz.prog bad [] [] ((44, pureFn l2) :: q0)) 1000 60 19 m179.args m179.h) m179.v m179.h' = true := by kernel_rfl
theorem m179_ok {σ : Nat → Int} {W0 : World} (hL : L0 W0) : MemoOk Tryz.prog 26623 σ W0 19 m179 := memo_ok fit (Known2.nil σ) (FnsOk.cons (pure_fn_ok (l2_ok hL)) ((q0_ok hL))) m179_run
noncomputable def h300 : H := hUpd h299 2689 [] [] []
noncomputable def h301 : H := hUpd h268 2860 [] [] [(214, 1, [I 0, I 5])]
noncomputable def m180 : Memo := ⟨[.ptr 226 0, I 0], h300, .agg [I 0, I 3, I 0, U 0, I 0, U 0, IZ (-1), I 0], h301⟩
theorem m180_run : ranTo (evCall (cxX Tryz.prog bad [] [] ((44, pureFn l2) :: q0)) 1000 60 19 m180.args m180.h) m180.v m180.h' = true := by kernel_rfl
theorem m180_ok {σ : Nat → Int} {W0 : World} (hL : L0 W0) : MemoOk Tryz.prog 26623 σ W0 19 m180 := memo_ok fit (Known2.nil σ) (FnsOk.cons (pure_fn_ok (l2_ok hL)) ((q0_ok hL))) m180_run
noncomputable def h302 : H := hUpd h301 2897 [] [] []
noncomputable def h303 : H := hUpd h270 3068 [] [] [(214, 1, [I 0, I 4])]
noncomputable def m181 : Memo := ⟨[.ptr 226 0, I 0], h302, .agg [I 0, I 1, I 0, U 0, I 0, U 0, IZ (-1), I 0], h303⟩
theorem m181_run : ranTo (evCall (cxX Tryz.prog bad [] [] ((44, pureFn l2) :: q0)) 1000 60 19 m181.args m181.h) m181.v m181.h' = true := by kernel_rfl
theorem m181_ok {σ : Nat → Int} {W0 : World} (hL : L0 W0) : MemoOk Tryz.prog 26623 σ W0 19 m181 := memo_ok fit (Known2.nil σ) (FnsOk.cons (pure_fn_ok (l2_ok hL)) ((q0_ok hL))) m181_run
noncomputable def h304 : H := hUpd h303 3105 [] [] []
noncomputable def h305 : H := hUpd h272 3276 [] [] [(214, 1, [I 0, I 3])]
noncomputable def m182 : Memo := ⟨[.ptr 226 0, I 0], h304, .agg [I 0, I 3, I 0, U 0, I 0, U 0, IZ (-1), I 0], h305⟩
theorem m182_run : ranTo (evCall (cxX Tryz.prog bad [] [] ((44, pureFn l2) :: q0)) 1000 60 19 m182.args m182.h) m182.v m182.h' = true := by kernel_rfl
theorem m182_ok {σ : Nat → Int} {W0 : World} (hL : L0 W0) : MemoOk Tryz.prog 26623 σ W0 19 m182 := memo_ok fit (Known2.nil σ) (FnsOk.cons (pure_fn_ok (l2_ok hL)) ((q0_ok hL))) m182_run
noncomputable def h306 : H := hUpd h305 3313 [] [] []
noncomputable def h307 : H := hUpd h274 3484 [] [] [(214, 1, [I 0, I 2])]
noncomputable def m183 : Memo := ⟨[.ptr 226 0, I 0], h306, .agg [I 0, I 1, I 0, U 0, I 0, U 0, IZ (-1), I 0], h307⟩
theorem m183_run : ranTo (evCall (cxX Tryz.prog bad [] [] ((44, pureFn l2) :: q0)) 1000 60 19 m183.args m183.h) m183.v m183.h' = true := by kernel_rfl
theorem m183_ok {σ : Nat → Int} {W0 : World} (hL : L0 W0) : MemoOk Tryz.prog 26623 σ W0 19 m183 := memo_ok fit (Known2.nil σ) (FnsOk.cons (pure_fn_ok (l2_ok hL)) ((q0_ok hL))) m183_run
noncomputable def h308 : H := hUpd h307 3521 [] [] []
noncomputable def h309 : H := hUpd h276 3692 [] [] [(214, 1, [I 0, I 1])]
noncomputable def m184 : Memo := ⟨[.ptr 226 0, I 0], h308, .agg [I 0, I 3, I 0, U 0, I 0, U 0, IZ (-1), I 0], h309⟩
theorem m184_run : ranTo (evCall (cxX Tryz.prog bad [] [] ((44, pureFn l2) :: q0)) 1000 60 19 m184.args m184.h) m184.v m184.h' = true := by kernel_rfl
theorem m184_ok {σ : Nat → Int} {W0 : World} (hL : L0 W0) : MemoOk Tryz.prog 26623 σ W0 19 m184 := memo_ok fit (Known2.nil σ) (FnsOk.cons (pure_fn_ok (l2_ok hL)) ((q0_ok hL))) m184_run
noncomputable def h310 : H := hUpd h309 3729 [] [] []
noncomputable def h311 : H := hUpd h280 3900 [] [] [(214, 1, [I 0, I 0])]
noncomputable def m185 : Memo := ⟨[.ptr 226 0, I 0], h310, .agg [I 0, I 1, I 0, U 0, I 0, U 0, IZ (-1), I 0], h311⟩
theorem m185_run : ranTo (evCall (cxX Tryz.prog bad [] [] ((44, pureFn l2) :: q0)) 1000 60 19 m185.args m185.h) m185.v m185.h' = true := by kernel_rfl
theorem m185_ok {σ : Nat → Int} {W0 : World} (hL : L0 W0) : MemoOk Tryz.prog 26623 σ W0 19 m185 := memo_ok fit (Known2.nil σ) (FnsOk.cons (pure_fn_ok (l2_ok hL)) ((q0_ok hL))) m185_run
noncomputable def h312 : H := hUpd h311 3937 [] [] []
noncomputable def h313 : H := hUpc h311 4057 [] [] [(225, 0, [.slice 886 0 0 1 1 false])] [(186, 0, 9, I 4), (186, 0, 10, I 6), (226, 0, 8, I 15)]
noncomputable def m186 : Memo := ⟨[.ptr 226 0, I 0], h312, .agg [I 0, I 5, I 0, U 0, I 0, U 0, IZ (-1), I 6], h313⟩
theorem m186_run : ranTo (evCall (cxX Tryz.prog bad [] [] ((44, pureFn l3) :: q0)) 1000 60 19 m186.args m186.h) m186.v m186.h' = true := by kernel_rfl
theorem m186_ok {σ : Nat → Int} {W0 : World} (hL : L0 W0) : MemoOk Tryz.prog 26623 σ W0 19 m186 := memo_ok fit (Known2.nil σ) (FnsOk.cons (pure_fn_ok (l3_ok hL)) ((q0_ok hL))) m186_run
noncomputable def l26 : List (Memo) := m186 :: m185 :: m184 :: m183 :: m182 :: m181 :: m180 :: m179 :: m178 :: m177 :: m176 :: m175 :: m174 :: m173 :: m172 :: []
theorem l26_ok {σ : Nat → Int} {W0 : World} (hL : L0 W0) : ∀ x ∈ l26, MemoOk Tryz.prog 26623 σ W0 19 x := all_cons (m186_ok hL) (all_cons (m185_ok hL) (all_cons (m184_ok hL) (all_cons (m183_ok hL) (all_cons (m182_ok hL) (all_cons (m181_ok hL) (all_cons (m180_ok hL) (all_cons (m179_ok hL) (all_cons (m178_ok hL) (all_cons (m177_ok hL) (all_cons (m176_ok hL) (all_cons (m175_ok hL) (all_cons (m174_ok hL) (all_cons (m173_ok hL) (all_cons (m172_ok hL) (all_nil)))))))))))))))
noncomputable def q28 : Fns := [(7, pureFn [p0]), (9, frameFn [m169]), (10, frameFn [m171]), (295, isFn 453), (122, atoiFullFn 384), (123, itoaFullFn), (195, joinFn), (307, countFn), (352, indexFn), (308, cutOf Tryz.prog 26623 bad [(307, countFn), (352, indexFn)] 1000 20 308)]
theorem q28_ok {σ : Nat → Int} {W0 : World} (hL : L0 W0) : FnsOk Tryz.prog 26623 σ W0 q28 := FnsOk.cons (pure_fn_ok (all_cons (p0_ok hL) (all_nil))) (FnsOk.cons (frame_fn_ok (all_cons (m169_ok hL) (all_nil))) (FnsOk.cons (frame_fn_ok (all_cons (m171_ok hL) (all_nil))) (FnsOk.cons (ext_is hL) (FnsOk.cons (ext_atoi hL) (FnsOk.cons (ext_itoa hL) (FnsOk.cons (ext_join hL) (FnsOk.cons (ext_count hL) (FnsOk.cons (ext_index hL) (FnsOk.cons (ext_cut308 hL) (FnsOk.nil))))))))))
theorem run26 : isTrue (evCall (cxX Tryz.prog bad [] [] ((8, numExtE [(0, 20, .lit 13)]) :: (19, frameFn l26) :: q28)) 1000 60 3 [.int .i64 (.var 0), bF] (sentH 453 20 errTab)) = true := by kernel_rfl
theorem case26 : CaseS [] [] [(0, 20, .lit 13)] [.int .i64 (.var 0), bF] := caseS (fun hL hk hT => FnsOk.cons (hT.ok fit) (FnsOk.cons (frame_fn_ok (l26_ok hL)) ((q28_ok hL)))) run26
noncomputable def h314 : H := hUpd h280 3978 [] [] [(214, 1, [I 0, I 1000])]
noncomputable def h315 : H := hUpc h276 4149 [] [] [(182, 0, [I 16, .slice 1110 0 1 1 10 false, I 14]),
  (214, 0, [IZ (-1), I 2147483632]),
  (214, 1, [I 0, I 999])] [(226, 0, 8, I 15)]
noncomputable def m187 : Memo := ⟨[.ptr 226 0, I 0], h314, .agg [I 0, I 3, I 0, U 0, I 0, U 0, IZ (-1), I 0], h315⟩
theorem m187_run : ranTo (evCall (cxX Tryz.prog bad [] [] ((44, pureFn l2) :: q0)) 1000 60 19 m187.args m187.h) m187.v m187.h' = true := by kernel_rfl
theorem m187_ok {σ : Nat → Int} {W0 : World} (hL : L0 W0) : MemoOk Tryz.prog 26623 σ W0 19 m187 := memo_ok fit (Known2.nil σ) (FnsOk.cons (pure_fn_ok (l2_ok hL)) ((q0_ok hL))) m187_run
noncomputable def l27 : List (Memo) := m187 :: m185 :: m184 :: m183 :: m182 :: m181 :: m180 :: m179 :: m178 :: m177 :: m176 :: m175 :: m174 :: m173 :: m172 :: []
theorem l27_ok {σ : Nat → Int} {W0 : World} (hL : L0 W0) : ∀ x ∈ l27, MemoOk Tryz.prog 26623 σ W0 19 x := all_cons (m187_ok hL) (all_cons (m185_ok hL) (all_cons (m184_ok hL) (all_cons (m183_ok hL) (all_cons (m182_ok hL) (all_cons (m181_ok hL) (all_cons (m180_ok hL) (all_cons (m179_ok hL) (all_cons (m178_ok hL) (all_cons (m177_ok hL) (all_cons (m176_ok hL) (all_cons (m175_ok hL) (all_cons (m174_ok hL) (all_cons (m173_ok hL) (all_cons (m172_ok hL) (all_nil)))))))))))))))
theorem run27 : isTrue (evCall (cxX Tryz.prog bad [] [] ((8, numExtE [(0, 20, .lit 13)]) :: (19, frameFn l27) :: q28)) 1000 60 3 [.int .i64 (.var 0), bT] (sentH 453 20 errTab)) = true := by kernel_rfl
theorem case27 : CaseS [] [] [(0, 20, .lit 13)] [.int .i64 (.var 0), bT] := caseS (fun hL hk hT => FnsOk.cons (hT.ok fit) (FnsOk.cons (frame_fn_ok (l27_ok hL)) ((q28_ok hL)))) run27
noncomputable def m188 : Memo := ⟨[bT, I 15, .snil, .slice 33 0 3 3 1 true], h5, .agg [.slice 157 0 2 2 1 false, I 15, .snil, bT], h6⟩
theorem m188_run : ranTo (evCall (cxX Tryz.prog bad [] [] ((84, frameFn [m1, m2]) :: q0)) 1000 60 9 m188.args m188.h) m188.v m188.h' = true := by kernel_rfl
theorem m188_ok {σ : Nat → Int} {W0 : World} (hL : L0 W0) : MemoOk Tryz.prog 26623 σ W0 9 m188 := memo_ok fit (Known2.nil σ) (FnsOk.cons (frame_fn_ok (all_cons (m1_ok hL) (all_cons (m2_ok hL) (all_nil)))) ((q0_ok hL))) m188_run
noncomputable def h316 : H := hUpd h281 733 [] [] [(214, 1, [I 0, I 15])]
noncomputable def m189 : Memo := ⟨[.ptr 226 0, .agg [.slice 157 0 2 2 1 false, I 15, .snil, bT]], h7, .tuple [I 0, .inil], h316⟩
theorem m189_run : ranTo (evCall (cxX Tryz.prog bad [] [] ((44, pureFn l0) :: q0)) 1000 60 88 m189.args m189.h) m189.v m189.h' = true := by kernel_rfl
theorem m189_ok {σ : Nat → Int} {W0 : World} (hL : L0 W0) : MemoOk Tryz.prog 26623 σ W0 88 m189 := memo_ok fit (Known2.nil σ) (FnsOk.cons (pure_fn_ok (l0_ok hL)) ((q0_ok hL))) m189_run
noncomputable def h317 : H := hUpc h282 170 [] [] [] [(161, 0, 1, I 15)]
noncomputable def h318 : H := hUpc h283 888 [] [] [(214, 1, [I 0, I 15])] [(161, 0, 1, I 15)]
noncomputable def m190 : Memo := ⟨[.agg [I 16, I 24, I 8, I 12, I 8, I 6, I 60, .slice 161 0 1 1 4 true]], h317, .tuple [.ptr 887 0, .inil], h318⟩
noncomputable def q29 : Fns := [(88, frameFn [m189]), (295, isFn 453), (122, atoiFullFn 384), (123, itoaFullFn), (195, joinFn), (307, countFn), (352, indexFn), (308, cutOf Tryz.prog 26623 bad [(307, countFn), (352, indexFn)] 1000 20 308)]
theorem q29_ok {σ : Nat → Int} {W0 : World} (hL : L0 W0) : FnsOk Tryz.prog 26623 σ W0 q29 := FnsOk.cons (frame_fn_ok (all_cons (m189_ok hL) (all_nil))) (FnsOk.cons (ext_is hL) (FnsOk.cons (ext_atoi hL) (FnsOk.cons (ext_itoa hL) (FnsOk.cons (ext_join hL) (FnsOk.cons (ext_count hL) (FnsOk.cons (ext_index hL) (FnsOk.cons (ext_cut308 hL) (FnsOk.nil))))))))
theorem m190_run : ranTo (evCall (cxX Tryz.prog bad [] [] ((44, pureFn l1) :: q29)) 1000 60 10 m190.args m190.h) m190.v m190.h' = true := by kernel_rfl
theorem m190_ok {σ : Nat → Int} {W0 : World} (hL : L0 W0) : MemoOk Tryz.prog 26623 σ W0 10 m190 := memo_ok fit (Known2.nil σ) (FnsOk.cons (pure_fn_ok (l1_ok hL)) ((q29_ok hL))) m190_run
noncomputable def h319 : H := hUpd h284 891 [] [] [(214, 1, [I 0, I 15])]
noncomputable def h320 : H := hUpd h285 1196 [] [] [(214, 1, [I 0, I 14])]
noncomputable def m191 : Memo := ⟨[.ptr 226 0, I 0], h319, .agg [I 0, I 3, I 0, U 0, I 0, U 0, IZ (-1), I 0], h320⟩
theorem m191_run : ranTo (evCall (cxX Tryz.prog bad [] [] ((44, pureFn l2) :: q0)) 1000 60 19 m191.args m191.h) m191.v m191.h' = true := by kernel_rfl
theorem m191_ok {σ : Nat → Int} {W0 : World} (hL : L0 W0) : MemoOk Tryz.prog 26623 σ W0 19 m191 := memo_ok fit (Known2.nil σ) (FnsOk.cons (pure_fn_ok (l2_ok hL)) ((q0_ok hL))) m191_run
noncomputable def h321 : H := hUpd h320 1233 [] [] []
noncomputable def h322 : H := hUpd h287 1404 [] [] [(214, 1, [I 0, I 13])]
noncomputable def m192 : Memo := ⟨[.ptr 226 0, I 0], h321, .agg [I 0, I 1, I 0, U 0, I 0, U 0, IZ (-1), I 0], h322⟩
theorem m192_run : ranTo (evCall (cxX Tryz.prog bad [] [] ((44, pureFn l2) :: q0)) 1000 60 19 m192.args m192.h) m192.v m192.h' = true := by kernel_rfl
theorem m192_ok {σ : Nat → Int} {W0 : World} (hL : L0 W0) : MemoOk Tryz.prog 26623 σ W0 19 m192 := memo_ok fit (Known2.nil σ) (FnsOk.cons (pure_fn_ok (l2_ok hL)) ((q0_ok hL))) m192_run
noncomputable def h323 : H := hUpd h322 1441 [] [] []
noncomputable def h324 : H := hUpd h289 1612 [] [] [(214, 1, [I 0, I 12])]
noncomputable def m193 : Memo := ⟨[.ptr 226 0, I 0], h323, .agg [I 0, I 3, I 0, U 0, I 0, U 0, IZ (-1), I 0], h324⟩
theorem m193_run : ranTo (evCall (cxX Tryz.prog bad [] [] ((44, pureFn l2) :: q0)) 1000 60 19 m193.args m193.h) m193.v m193.h' = true := by kernel_rfl
theorem m193_ok {σ : Nat → Int} {W0 : World} (hL : L0 W0) : MemoOk Tryz.prog 26623 σ W0 19 m193 := memo_ok fit (Known2.nil σ) (FnsOk.cons (pure_fn_ok (l2_ok hL)) ((q0_ok hL))) m193_run
noncomputable def h325 : H := hUpd h324 1649 [] [] []
noncomputable def h326 : H := hUpd h291 1820 [] [] [(214, 1, [I 0, I 11])]
noncomputable def m194 : Memo := ⟨[.ptr 226 0, I 0], h325, .agg [I 0, I 1, I 0, U 0, I 0, U 0, IZ (-1), I 0], h326⟩
theorem m194_run : ranTo (evCall (cxX Tryz.prog bad [] [] ((44, pureFn l2) :: q0)) 1000 60 19 m194.args m194.h) m194.v m194.h' = true := by kernel_rfl
theorem m194_ok {σ : Nat → Int} {W0 : World} (hL : L0 W0) : MemoOk Tryz.prog 26623 σ W0 19 m194 := memo_ok fit (Known2.nil σ) (FnsOk.cons (pure_fn_ok (l2_ok hL)) ((q0_ok hL))) m194_run
noncomputable def h327 : H := hUpd h326 1857 [] [] []
noncomputable def h328 : H := hUpd h293 2028 [] [] [(214, 1, [I 0, I 10])]
noncomputable def m195 : Memo := ⟨[.ptr 226 0, I 0], h327, .agg [I 0, I 3, I 0, U 0, I 0, U 0, IZ (-1), I 0], h328⟩
theorem m195_run : ranTo (evCall (cxX Tryz.prog bad [] [] ((44, pureFn l2) :: q0)) 1000 60 19 m195.args m195.h) m195.v m195.h' = true := by kernel_rfl
theorem m195_ok {σ : Nat → Int} {W0 : World} (hL : L0 W0) : MemoOk Tryz.prog 26623 σ W0 19 m195 := memo_ok fit (Known2.nil σ) (FnsOk.cons (pure_fn_ok (l2_ok hL)) ((q0_ok hL))) m195_run
noncomputable def h329 : H := hUpd h328 2065 [] [] []
noncomputable def h330 : H := hUpd h295 2236 [] [] [(214, 1, [I 0, I 9])]
noncomputable def m196 : Memo := ⟨[.ptr 226 0, I 0], h329, .agg [I 0, I 1, I 0, U 0, I 0, U 0, IZ (-1), I 0], h330⟩
theorem m196_run : ranTo (evCall (cxX Tryz.prog bad [] [] ((44, pureFn l2) :: q0)) 1000 60 19 m196.args m196.h) m196.v m196.h' = true := by kernel_rfl
theorem m196_ok {σ : Nat → Int} {W0 : World} (hL : L0 W0) : MemoOk Tryz.prog 26623 σ W0 19 m196 := memo_ok fit (Known2.nil σ) (FnsOk.cons (pure_fn_ok (l2_ok hL)) ((q0_ok hL))) m196_run
noncomputable def h331 : H := hUpd h330 2273 [] [] []
noncomputable def h332 : H := hUpd h297 2444 [] [] [(214, 1, [I 0, I 8])]
noncomputable def m197 : Memo := ⟨[.ptr 226 0, I 0], h331, .agg [I 0, I 3, I 0, U 0, I 0, U 0, IZ (-1), I 0], h332⟩
theorem m197_run : ranTo (evCall (cxX Tryz.prog bad [] [] ((44, pureFn l2) :: q0)) 1000 60 19 m197.args m197.h) m197.v m197.h' = true := by kernel_rfl
theorem m197_ok {σ : Nat → Int} {W0 : World} (hL : L0 W0) : MemoOk Tryz.prog 26623 σ W0 19 m197 := memo_ok fit (Known2.nil σ) (FnsOk.cons (pure_fn_ok (l2_ok hL)) ((q0_ok hL))) m197_run
noncomputable def h333 : H := hUpd h332 2481 [] [] []
noncomputable def h334 : H := hUpd h299 2652 [] [] [(214, 1, [I 0, I 7])]
noncomputable def m198 : Memo := ⟨[.ptr 226 0, I 0], h333, .agg [I 0, I 1, I 0, U 0, I 0, U 0, IZ (-1), I 0], h334⟩
theorem m198_run : ranTo (evCall (cxX Tryz.prog bad [] [] ((44, pureFn l2) :: q0)) 1000 60 19 m198.args m198.h) m198.v m198.h' = true := by kernel_rfl
theorem m198_ok {σ : Nat → Int} {W0 : World} (hL : L0 W0) : MemoOk Tryz.prog 26623 σ W0 19 m198 := memo_ok fit (Known2.nil σ) (FnsOk.cons (pure_fn_ok (l2_ok hL)) ((q0_ok hL))) m198_run
noncomputable def h335 : H := hUpd h334 2689 [] [] []
noncomputable def h336 : H := hUpd h301 2860 [] [] [(214, 1, [I 0, I 6])]
noncomputable def m199 : Memo := ⟨[.ptr 226 0, I 0], h335, .agg [I 0, I 3, I 0, U 0, I 0, U 0, IZ (-1), I 0], h336⟩
theorem m199_run : ranTo (evCall (cxX Tryz.prog bad [] [] ((44, pureFn l2) :: q0)) 1000 60 19 m199.args m199.h) m199.v m199.h' = true := by kernel_rfl
theorem m199_ok {σ : Nat → Int} {W0 : World} (hL : L0 W0) : MemoOk Tryz.prog 26623 σ W0 19 m199 := memo_ok fit (Known2.nil σ) (FnsOk.cons (pure_fn_ok (l2_ok hL)) ((q0_ok hL))) m199_run
noncomputable def h337 : H := hUpd h336 2897 [] [] []
noncomputable def h338 : H := hUpd h303 3068 [] [] [(214, 1, [I 0, I 5])]
noncomputable def m200 : Memo := ⟨[.ptr 226 0, I 0], h337, .agg [I 0, I 1, I 0, U 0, I 0, U 0, IZ (-1), I 0], h338⟩
theorem m200_run : ranTo (evCall (cxX Tryz.prog bad [] [] ((44, pureFn l2) :: q0)) 1000 60 19 m200.args m200.h) m200.v m200.h' = true := by kernel_rfl
theorem m200_ok {σ : Nat → Int} {W0 : World} (hL : L0 W0) : MemoOk Tryz.prog 26623 σ W0 19 m200 := memo_ok fit (Known2.nil σ) (FnsOk.cons (pure_fn_ok (l2_ok hL)) ((q0_ok hL))) m200_run
noncomputable def h339 : H := hUpd h338 3105 [] [] []
noncomputable def h340 : H := hUpd h305 3276 [] [] [(214, 1, [I 0, I 4])]
noncomputable def m201 : Memo := ⟨[.ptr 226 0, I 0], h339, .agg [I 0, I 3, I 0, U 0, I 0, U 0, IZ (-1), I 0], h340⟩
theorem m201_run : ranTo (evCall (cxX Tryz.prog bad [] [] ((44, pureFn l2) :: q0)) 1000 60 19 m201.args m201.h) m201.v m201.h' = true := by kernel_rfl
theorem m201_ok {σ : Nat → Int} {W0 : World} (hL : L0 W0) : MemoOk Tryz.prog 26623 σ W0 19 m201 := memo_ok fit (Known2.nil σ) (FnsOk.cons (pure_fn_ok (l2_ok hL)) ((q0_ok hL))) m201_run
noncomputable def h341 : H := hUpd h340 3313 [] [] []
noncomputable def h342 : H := hUpd h307 3484 [] [] [(214, 1, [I 0, I 3])]
noncomputable def m202 : Memo := ⟨[.ptr 226 0, I 0], h341, .agg [I 0, I 1, I 0, U 0, I 0, U 0, IZ (-1), I 0], h342⟩
theorem m202_run : ranTo (evCall (cxX Tryz.prog bad [] [] ((44, pureFn l2) :: q0)) 1000 60 19 m202.args m202.h) m202.v m202.h' = true := by kernel_rfl
theorem m202_ok {σ : Nat → Int} {W0 : World} (hL : L0 W0) : MemoOk Tryz.prog 26623 σ W0 19 m202 := memo_ok fit (Known2.nil σ) (FnsOk.cons (pure_fn_ok (l2_ok hL)) ((q0_ok hL))) m202_run
noncomputable def h343 : H := hUpd h342 3521 [] [] []
noncomputable def h344 : H := hUpd h309 3692 [] [] [(214, 1, [I 0, I 2])]
noncomputable def m203 : Memo := ⟨[.ptr 226 0, I 0], h343, .agg [I 0, I 3, I 0, U 0, I 0, U 0, IZ (-1), I 0], h344⟩
theorem m203_run : ranTo (evCall (cxX Tryz.prog bad [] [] ((44, pureFn l2) :: q0)) 1000 60 19 m203.args m203.h) m203.v m203.h' = true := by kernel_rfl
theorem m203_ok {σ : Nat → Int} {W0 : World} (hL : L0 W0) : MemoOk Tryz.prog 26623 σ W0 19 m203 := memo_ok fit (Known2.nil σ) (FnsOk.cons (pure_fn_ok (l2_ok hL)) ((q0_ok hL))) m203_run
noncomputable def h345 : H := hUpd h344 3729 [] [] []
noncomputable def h346 : H := hUpd h311 3900 [] [] [(214, 1, [I 0, I 1])]
noncomputable def m204 : Memo := ⟨[.ptr 226 0, I 0], h345, .agg [I 0, I 1, I 0, U 0, I 0, U 0, IZ (-1), I 0], h346⟩
theorem m204_run : ranTo (evCall (cxX Tryz.prog bad [] [] ((44, pureFn l2) :: q0)) 1000 60 19 m204.args m204.h) m204.v m204.h' = true := by kernel_rfl
theorem m204_ok {σ : Nat → Int} {W0 : World} (hL : L0 W0) : MemoOk Tryz.prog 26623 σ W0 19 m204 := memo_ok fit (Known2.nil σ) (FnsOk.cons (pure_fn_ok (l2_ok hL)) ((q0_ok hL))) m204_run
noncomputable def h347 : H := hUpd h346 3937 [] [] []
noncomputable def h348 : H := hUpd h315 4108 [] [] [(214, 1, [I 0, I 0])]
noncomputable def m205 : Memo := ⟨[.ptr 226 0, I 0], h347, .agg [I 0, I 3, I 0, U 0, I 0, U 0, IZ (-1), I 0], h348⟩
theorem m205_run : ranTo (evCall (cxX Tryz.prog bad [] [] ((44, pureFn l2) :: q0)) 1000 60 19 m205.args m205.h) m205.v m205.h' = true := by kernel_rfl
theorem m205_ok {σ : Nat → Int} {W0 : World} (hL : L0 W0) : MemoOk Tryz.prog 26623 σ W0 19 m205 := memo_ok fit (Known2.nil σ) (FnsOk.cons (pure_fn_ok (l2_ok hL)) ((q0_ok hL))) m205_run
noncomputable def h349 : H := hUpd h348 4145 [] [] []
noncomputable def h350 : H := hUpc h348 4265 [] [] [(225, 0, [.slice 886 0 0 1 1 false])] [(186, 0, 9, I 4), (186, 0, 10, I 6), (226, 0, 8, I 16)]
noncomputable def m206 : Memo := ⟨[.ptr 226 0, I 0], h349, .agg [I 0, I 5, I 0, U 0, I 0, U 0, IZ (-1), I 6], h350⟩
theorem m206_run : ranTo (evCall (cxX Tryz.prog bad [] [] ((44, pureFn l3) :: q0)) 1000 60 19 m206.args m206.h) m206.v m206.h' = true := by kernel_rfl
theorem m206_ok {σ : Nat → Int} {W0 : World} (hL : L0 W0) : MemoOk Tryz.prog 26623 σ W0 19 m206 := memo_ok fit (Known2.nil σ) (FnsOk.cons (pure_fn_ok (l3_ok hL)) ((q0_ok hL))) m206_run
noncomputable def l28 : List (Memo) := m206 :: m205 :: m204 :: m203 :: m202 :: m201 :: m200 :: m199 :: m198 :: m197 :: m196 :: m195 :: m194 :: m193 :: m192 :: m191 :: []
theorem l28_ok {σ : Nat → Int} {W0 : World} (hL : L0 W0) : ∀ x ∈ l28, MemoOk Tryz.prog 26623 σ W0 19 x := all_cons (m206_ok hL) (all_cons (m205_ok hL) (all_cons (m204_ok hL) (all_cons (m203_ok hL) (all_cons (m202_ok hL) (all_cons (m201_ok hL) (all_cons (m200_ok hL) (all_cons (m199_ok hL) (all_cons (m198_ok hL) (all_cons (m197_ok hL) (all_cons (m196_ok hL) (all_cons (m195_ok hL) (all_cons (m194_ok hL) (all_cons (m193_ok hL) (all_cons (m192_ok hL) (all_cons (m191_ok hL) (all_nil))))))))))))))))
noncomputable def q30 : Fns := [(7, pureFn [p0]), (9, frameFn [m188]), (10, frameFn [m190]), (295, isFn 453), (122, atoiFullFn 384), (123, itoaFullFn), (195, joinFn), (307, countFn), (352, indexFn), (308, cutOf Tryz.prog 26623 bad [(307, countFn), (352, indexFn)] 1000 20 308)]
theorem q30_ok {σ : Nat → Int} {W0 : World} (hL : L0 W0) : FnsOk Tryz.prog 26623 σ W0 q30 := FnsOk.cons (pure_fn_ok (all_cons (p0_ok hL) (all_nil))) (FnsOk.cons (frame_fn_ok (all_cons (m188_ok hL) (all_nil))) (FnsOk.cons (frame_fn_ok (all_cons (m190_ok hL) (all_nil))) (FnsOk.cons (ext_is hL) (FnsOk.cons (ext_atoi hL) (FnsOk.cons (ext_itoa hL) (FnsOk.cons (ext_join hL) (FnsOk.cons (ext_count hL) (FnsOk.cons (ext_index hL) (FnsOk.cons (ext_cut308 hL) (FnsOk.nil))))))))))
theorem run28 : isTrue (evCall (cxX Tryz.prog bad [] [] ((8, numExtE [(0, 20, .lit 14)]) :: (19, frameFn l28) :: q30)) 1000 60 3 [.int .i64 (.var 0), bF] (sentH 453 20 errTab)) = true := by kernel_rfl
theorem case28 : CaseS [] [] [(0, 20, .lit 14)] [.int .i64 (.var 0), bF] := caseS (fun hL hk hT => FnsOk.cons (hT.ok fit) (FnsOk.cons (frame_fn_ok (l28_ok hL)) ((q30_ok hL)))) run28
noncomputable def h351 : H := hUpd h315 4186 [] [] [(214, 1, [I 0, I 1000])]
noncomputable def h352 : H := hUpc h312 4357 [] [] [(182, 0, [I 16, .slice 1110 0 1 1 10 false, I 15]),
  (214, 0, [IZ (-1), I 2147483631]),
  (214, 1, [I 0, I 999])] [(226, 0, 8, I 16)]
noncomputable def m207 : Memo := ⟨[.ptr 226 0, I 0], h351, .agg [I 0, I 1, I 0, U 0, I 0, U 0, IZ (-1), I 0], h352⟩
theorem m207_run : ranTo (evCall (cxX Tryz.prog bad [] [] ((44, pureFn l2) :: q0)) 1000 60 19 m207.args m207.h) m207.v m207.h' = true := by kernel_rfl
theorem m207_ok {σ : Nat → Int} {W0 : World} (hL : L0 W0) : MemoOk Tryz.prog 26623 σ W0 19 m207 := memo_ok fit (Known2.nil σ) (FnsOk.cons (pure_fn_ok (l2_ok hL)) ((q0_ok hL))) m207_run
noncomputable def l29 : List (Memo) := m207 :: m205 :: m204 :: m203 :: m202 :: m201 :: m200 :: m199 :: m198 :: m197 :: m196 :: m195 :: m194 :: m193 :: m192 :: m191 :: []
theorem l29_ok {σ : Nat → Int} {W0 : World} (hL : L0 W0) : ∀ x ∈ l29, MemoOk Tryz.prog 26623 σ W0 19 x := all_cons (m207_ok hL) (all_cons (m205_ok hL) (all_cons (m204_ok hL) (all_cons (m203_ok hL) (all_cons (m202_ok hL) (all_cons (m201_ok hL) (all_cons (m200_ok hL) (all_cons (m199_ok hL) (all_cons (m198_ok hL) (all_cons (m197_ok hL) (all_cons (m196_ok hL) (all_cons (m195_ok hL) (all_cons (m194_ok hL) (all_cons (m193_ok hL) (all_cons (m192_ok hL) (all_cons (m191_ok hL) (all_nil))))))))))))))))
theorem run29 : isTrue (evCall (cxX Tryz.prog bad [] [] ((8, numExtE [(0, 20, .lit 14)]) :: (19, frameFn l29) :: q30)) 1000 60 3 [.int .i64 (.var 0), bT] (sentH 453 20 errTab)) = true := by kernel_rfl
theorem case29 : CaseS [] [] [(0, 20, .lit 14)] [.int .i64 (.var 0), bT] := caseS (fun hL hk hT => FnsOk.cons (hT.ok fit) (FnsOk.cons (frame_fn_ok (l29_ok hL)) ((q30_ok hL)))) run29
noncomputable def m208 : Memo := ⟨[bT, I 16, .snil, .slice 33 0 3 3 1 true], h5, .agg [.slice 157 0 2 2 1 false, I 16, .snil, bT], h6⟩
theorem m208_run : ranTo (evCall (cxX Tryz.prog bad [] [] ((84, frameFn [m1, m2]) :: q0)) 1000 60 9 m208.args m208.h) m208.v m208.h' = true := by kernel_rfl
theorem m208_ok {σ : Nat → Int} {W0 : World} (hL : L0 W0) : MemoOk Tryz.prog 26623 σ W0 9 m208 := memo_ok fit (Known2.nil σ) (FnsOk.cons (frame_fn_ok (all_cons (m1_ok hL) (all_cons (m2_ok hL) (all_nil)))) ((q0_ok hL))) m208_run
noncomputable def h353 : H := hUpd h316 733 [] [] [(214, 1, [I 0, I 16])]
noncomputable def m209 : Memo := ⟨[.ptr 226 0, .agg [.slice 157 0 2 2 1 false, I 16, .snil, bT]], h7, .tuple [I 0, .inil], h353⟩
theorem m209_run : ranTo (evCall (cxX Tryz.prog bad [] [] ((44, pureFn l0) :: q0)) 1000 60 88 m209.args m209.h) m209.v m209.h' = true := by kernel_rfl
theorem m209_ok {σ : Nat → Int} {W0 : World} (hL : L0 W0) : MemoOk Tryz.prog 26623 σ W0 88 m209 := memo_ok fit (Known2.nil σ) (FnsOk.cons (pure_fn_ok (l0_ok hL)) ((q0_ok hL))) m209_run
noncomputable def h354 : H := hUpc h317 170 [] [] [] [(161, 0, 1, I 16)]
noncomputable def h355 : H := hUpc h318 888 [] [] [(214, 1, [I 0, I 16])] [(161, 0, 1, I 16)]
noncomputable def m210 : Memo := ⟨[.agg [I 16, I 24, I 8, I 12, I 8, I 6, I 60, .slice 161 0 1 1 4 true]], h354, .tuple [.ptr 887 0, .inil], h355⟩
noncomputable def q31 : Fns := [(88, frameFn [m209]), (295, isFn 453), (122, atoiFullFn 384), (123, itoaFullFn), (195, joinFn), (307, countFn), (352, indexFn), (308, cutOf Tryz.prog 26623 bad [(307, countFn), (352, indexFn)] 1000 20 308)]
theorem q31_ok {σ : Nat → Int} {W0 : World} (hL : L0 W0) : FnsOk Tryz.prog 26623 σ W0 q31 := FnsOk.cons (frame_fn_ok (all_cons (m209_ok hL) (all_nil))) (FnsOk.cons (ext_is hL) (FnsOk.cons (ext_atoi hL) (FnsOk.cons (ext_itoa hL) (FnsOk.cons (ext_join hL) (FnsOk.cons (ext_count hL) (FnsOk.cons (ext_index hL) (FnsOk.cons (ext_cut308 hL) (FnsOk.nil))))))))
theorem m210_run : ranTo (evCall (cxX Tryz.prog bad [] [] ((44, pureFn l1) :: q31)) 1000 60 10 m210.args m210.h) m210.v m210.h' = true := by kernel_rfl
theorem m210_ok {σ : Nat → Int} {W0 : World} (hL : L0 W0) : MemoOk Tryz.prog 26623 σ W0 10 m210 := memo_ok fit (Known2.nil σ) (FnsOk.cons (pure_fn_ok (l1_ok hL)) ((q31_ok hL))) m210_run
noncomputable def h356 : H := hUpd h319 891 [] [] [(214, 1, [I 0, I 16])]
noncomputable def h357 : H := hUpd h320 1196 [] [] [(214, 1, [I 0, I 15])]
noncomputable def m211 : Memo := ⟨[.ptr 226 0, I 0], h356, .agg [I 0, I 3, I 0, U 0, I 0, U 0, IZ (-1), I 0], h357⟩
theorem m211_run : ranTo (evCall (cxX Tryz.prog bad [] [] ((44, pureFn l2) :: q0)) 1000 60 19 m211.args m211.h) m211.v m211.h' = true := by kernel_rfl
theorem m211_ok {σ : Nat → Int} {W0 : World} (hL : L0 W0) : MemoOk Tryz.prog 26623 σ W0 19 m211 := memo_ok fit (Known2.nil σ) (FnsOk.cons (pure_fn_ok (l2_ok hL)) ((q0_ok hL))) m211_run
noncomputable def h358 : H := hUpd h357 1233 [] [] []
noncomputable def h359 : H := hUpd h322 1404 [] [] [(214, 1, [I 0, I 14])]
noncomputable def m212 : Memo := ⟨[.ptr 226 0, I 0], h358, .agg [I 0, I 1, I 0, U 0, I 0, U 0, IZ (-1), I 0], h359⟩
theorem m212_run : ranTo (evCall (cxX Tryz.prog bad [] [] ((44, pureFn l2) :: q0)) 1000 60 19 m212.args m212.h) m212.v m212.h' = true := by kernel_rfl
theorem m212_ok {σ : Nat → Int} {W0 : World} (hL : L0 W0) : MemoOk Tryz.prog 26623 σ W0 19 m212 := memo_ok fit (Known2.nil σ) (FnsOk.cons (pure_fn_ok (l2_ok hL)) ((q0_ok hL))) m212_run
noncomputable def h360 : H := hUpd h359 1441 [] [] []
noncomputable def h361 : H := hUpd h324 1612 [] [] [(214, 1, [I 0, I 13])]
noncomputable def m213 : Memo := ⟨[.ptr 226 0, I 0], h360, .agg [I 0, I 3, I 0, U 0, I 0, U 0, IZ (-1), I 0], h361⟩
theorem m213_run : ranTo (evCall (cxX Tryz.prog bad [] [] ((44, pureFn l2) :: q0)) 1000 60 19 m213.args m213.h) m213.v m213.h' = true := by kernel_rfl
theorem m213_ok {σ : Nat → Int} {W0 : World} (hL : L0 W0) : MemoOk Tryz.prog 26623 σ W0 19 m213 := memo_ok fit (Known2.nil σ) (FnsOk.cons (pure_fn_ok (l2_ok hL)) ((q0_ok hL))) m213_run
noncomputable def h362 : H := hUpd h361 1649 [] [] []
noncomputable def h363 : H := hUpd h326 1820 [] [] [(214, 1, [I 0, I 12])]
noncomputable def m214 : Memo := ⟨[.ptr 226 0, I 0], h362, .agg [I 0, I 1, I 0, U 0, I 0, U 0, IZ (-1), I 0], h363⟩
theorem m214_run : ranTo (evCall (cxX Tryz.prog bad [] [] ((44, pureFn l2) :: q0)) 1000 60 19 m214.args m214.h) m214.v m214.h' = true := by kernel_rfl
theorem m214_ok {σ : Nat → Int} {W0 : World} (hL : L0 W0) : MemoOk Tryz.prog 26623 σ W0 19 m214 := memo_ok fit (Known2.nil σ) (FnsOk.cons (pure_fn_ok (l2_ok hL)) ((q0_ok hL))) m214_run
noncomputable def h364 : H := hUpd h363 1857 [] [] []
noncomputable def h365 : H := hUpd h328 2028 [] [] [(214, 1, [I 0, I 11])]
noncomputable def m215 : Memo := ⟨[.ptr 226 0, I 0], h364, .agg [I 0, I 3, I 0, U 0, I 0, U 0, IZ (-1), I 0], h365⟩
theorem m215_run : ranTo (evCall (cxX Tryz.prog bad [] [] ((44, pureFn l2) :: q0)) 1000 60 19 m215.args m215.h) m215.v m215.h' = true := by kernel_rfl
theorem m215_ok {σ : Nat → Int} {W0 : World} (hL : L0 W0) : MemoOk Tryz.prog 26623 σ W0 19 m215 := memo_ok fit (Known2.nil σ) (FnsOk.cons (pure_fn_ok (l2_ok hL)) ((q0_ok hL))) m215_run
noncomputable def h366 : H := hUpd h365 2065 [] [] []
noncomputable def h367 : H := hUpd h330 2236 [] [] [(214, 1, [I 0, I 10])]
noncomputable def m216 : Memo := ⟨[.ptr 226 0, I 0], h366, .agg [I 0, I 1, I 0, U 0, I 0, U 0, IZ (-1), I 0], h367⟩
theorem m216_run : ranTo (evCall (cxX Tryz.prog bad [] [] ((44, pureFn l2) :: q0)) 1000 60 19 m216.args m216.h) m216.v m216.h' = true := by kernel_rfl
theorem m216_ok {σ : Nat → Int} {W0 : World} (hL : L0 W0) : MemoOk Tryz.prog 26623 σ W0 19 m216 := memo_ok fit (Known2.nil σ) (FnsOk.cons (pure_fn_ok (l2_ok hL)) ((q0_ok hL))) m216_run
noncomputable def h368 : H := hUpd h367 2273 [] [] []
noncomputable def h369 : H := hUpd h332 2444 [] [] [(214, 1, [I 0, I 9])]
noncomputable def m217 : Memo := ⟨[.ptr 226 0, I 0], h368, .agg [I 0, I 3, I 0, U 0, I 0, U 0, IZ (-1), I 0], h369⟩
theorem m217_run : ranTo (evCall (cxX Tryz.prog bad [] [] ((44, pureFn l2) :: q0)) 1000 60 19 m217.args m217.h) m217.v m217.h' = true := by kernel_rfl
theorem m217_ok {σ : Nat → Int} {W0 : World} (hL : L0 W0) : MemoOk Tryz.prog 26623 σ W0 19 m217 := memo_ok fit (Known2.nil σ) (FnsOk.cons (pure_fn_ok (l2_ok hL)) ((q0_ok hL))) m217_run
noncomputable def h370 : H := hUpd h369 2481 [] [] []
noncomputable def h371 : H := hUpd h334 2652 [] [] [(214, 1, [I 0, I 8])]
noncomputable def m218 : Memo := ⟨[.ptr 226 0, I 0], h370, .agg [I 0, I 1, I 0, U 0, I 0, U 0, IZ (-1), I 0], h371⟩
theorem m218_run : ranTo (evCall (cxX Tryz.prog bad [] [] ((44, pureFn l2) :: q0)) 1000 60 19 m218.args m218.h) m218.v m218.h' = true := by kernel_rfl
theorem m218_ok {σ : Nat → Int} {W0 : World} (hL : L0 W0) : MemoOk Tryz.prog 26623 σ W0 19 m218 := memo_ok fit (Known2.nil σ) (FnsOk.cons (pure_fn_ok (l2_ok hL)) ((q0_ok hL))) m218_run
noncomputable def h372 : H := hUpd h371 2689 [] [] []
noncomputable def h373 : H := hUpd h336 2860 [] [] [(214, 1, [I 0, I 7])]
noncomputable def m219 : Memo := ⟨[.ptr 226 0, I 0], h372, .agg [I 0, I 3, I 0, U 0, I 0, U 0, IZ (-1), I 0], h373⟩
theorem m219_run : ranTo (evCall (cxX Tryz.prog bad [] [] ((44, pureFn l2) :: q0)) 1000 60 19 m219.args m219.h) m219.v m219.h' = true := by kernel_rfl
theorem m219_ok {σ : Nat → Int} {W0 : World} (hL : L0 W0) : MemoOk Tryz.prog 26623 σ W0 19 m219 := memo_ok fit (Known2.nil σ) (FnsOk.cons (pure_fn_ok (l2_ok hL)) ((q0_ok hL))) m219_run
noncomputable def h374 : H := hUpd h373 2897 [] [] []
noncomputable def h375 : H := hUpd h338 3068 [] [] [(214, 1, [I 0, I 6])]
noncomputable def m220 : Memo := ⟨[.ptr 226 0, I 0], h374, .agg [I 0, I 1, I 0, U 0, I 0, U 0, IZ (-1), I 0], h375⟩
theorem m220_run : ranTo (evCall (cxX Tryz.prog bad [] [] ((44, pureFn l2) :: q0)) 1000 60 19 m220.args m220.h) m220.v m220.h' = true := by kernel_rfl
theorem m220_ok {σ : Nat → Int} {W0 : World} (hL : L0 W0) : MemoOk Tryz.prog 26623 σ W0 19 m220 := memo_ok fit (Known2.nil σ) (FnsOk.cons (pure_fn_ok (l2_ok hL)) ((q0_ok hL))) m220_run
noncomputable def h376 : H := hUpd h375 3105 [] [] []
noncomputable def h377 : H := hUpd h340 3276 [] [] [(214, 1, [I 0, I 5])]
noncomputable def m221 : Memo := ⟨[.ptr 226 0, I 0], h376, .agg [I 0, I 3, I 0, U 0, I 0, U 0, IZ (-1), I 0], h377⟩
theorem m221_run : ranTo (evCall (cxX Tryz.prog bad [] [] ((44, pureFn l2) :: q0)) 1000 60 19 m221.args m221.h) m221.v m221.h' = true := by kernel_rfl
theorem m221_ok {σ : Nat → Int} {W0 : World} (hL : L0 W0) : MemoOk Tryz.prog 26623 σ W0 19 m221 := memo_ok fit (Known2.nil σ) (FnsOk.cons (pure_fn_ok (l2_ok hL)) ((q0_ok hL))) m221_run
noncomputable def h378 : H := hUpd h377 3313 [] [] []
noncomputable def h379 : H := hUpd h342 3484 [] [] [(214, 1, [I 0, I 4])]
noncomputable def m222 : Memo := ⟨[.ptr 226 0, I 0], h378, .agg [I 0, I 1, I 0, U 0, I 0, U 0, IZ (-1), I 0], h379⟩
theorem m222_run : ranTo (evCall (cxX Tryz.prog bad [] [] ((44, pureFn l2) :: q0)) 1000 60 19 m222.args m222.h) m222.v m222.h' = true := by kernel_rfl
theorem m222_ok {σ : Nat → Int} {W0 : World} (hL : L0 W0) : MemoOk Tryz.prog 26623 σ W0 19 m222 := memo_ok fit (Known2.nil σ) (FnsOk.cons (pure_fn_ok (l2_ok hL)) ((q0_ok hL))) m222_run
noncomputable def h380 : H := hUpd h379 3521 [] [] []
noncomputable def h381 : H := hUpd h344 3692 [] [] [(214, 1, [I 0, I 3])]
noncomputable def m223 : Memo := ⟨[.ptr 226 0, I 0], h380, .agg [I 0, I 3, I 0, U 0, I 0, U 0, IZ (-1), I 0], h381⟩
theorem m223_run : ranTo (evCall (cxX Tryz.prog bad [] [] ((44, pureFn l2) :: q0)) 1000 60 19 m223.args m223.h) m223.v m223.h' = true := by kernel_rfl
theorem m223_ok {σ : Nat → Int} {W0 : World} (hL : L0 W0) : MemoOk Tryz.prog 26623 σ W0 19 m223 := memo_ok fit (Known2.nil σ) (FnsOk.cons (pure_fn_ok (l2_ok hL)) ((q0_ok hL))) m223_run
noncomputable def h382 : H := hUpd h381 3729 [] [] []
noncomputable def h383 : H := hUpd h346 3900 [] [] [(214, 1, [I 0, I 2])]
noncomputable def m224 : Memo := ⟨[.ptr 226 0, I 0], h382, .agg [I 0, I 1, I 0, U 0, I 0, U 0, IZ (-1), I 0], h383⟩
theorem m224_run : ranTo (evCall (cxX Tryz.prog bad [] [] ((44, pureFn l2) :: q0)) 1000 60 19 m224.args m224.h) m224.v m224.h' = true := by kernel_rfl
theorem m224_ok {σ : Nat → Int} {W0 : World} (hL : L0 W0) : MemoOk Tryz.prog 26623 σ W0 19 m224 := memo_ok fit (Known2.nil σ) (FnsOk.cons (pure_fn_ok (l2_ok hL)) ((q0_ok hL))) m224_run
noncomputable def h384 : H := hUpd h383 3937 [] [] []
noncomputable def h385 : H := hUpd h348 4108 [] [] [(214, 1, [I 0, I 1])]
noncomputable def m225 : Memo := ⟨[.ptr 226 0, I 0], h384, .agg [I 0, I 3, I 0, U 0, I 0, U 0, IZ (-1), I 0], h385⟩
theorem m225_run : ranTo (evCall (cxX Tryz.prog bad [] [] ((44, pureFn l2) :: q0)) 1000 60 19 m225.args m225.h) m225.v m225.h' = true := by kernel_rfl
theorem m225_ok {σ : Nat → Int} {W0 : World} (hL : L0 W0) : MemoOk Tryz.prog 26623 σ W0 19 m225 := memo_ok fit (Known2.nil σ) (FnsOk.cons (pure_fn_ok (l2_ok hL)) ((q0_ok hL))) m225_run
noncomputable def h386 : H := hUpd h385 4145 [] [] []
noncomputable def h387 : H := hUpd h352 4316 [] [] [(214, 1, [I 0, I 0])]
noncomputable def m226 : Memo := ⟨[.ptr 226 0, I 0], h386, .agg [I 0, I 1, I 0, U 0, I 0, U 0, IZ (-1), I 0], h387⟩
theorem m226_run : ranTo (evCall (cxX Tryz.prog bad [] [] ((44, pureFn l2) :: q0)) 1000 60 19 m226.args m226.h) m226.v m226.h' = true := by kernel_rfl
theorem m226_ok {σ : Nat → Int} {W0 : World} (hL : L0 W0) : MemoOk Tryz.prog 26623 σ W0 19 m226 := memo_ok fit (Known2.nil σ) (FnsOk.cons (pure_fn_ok (l2_ok hL)) ((q0_ok hL))) m226_run
noncomputable def h388 : H := hUpd h387 4353 [] [] []
noncomputable def h389 : H := hUpc h387 4473 [] [] [(225, 0, [.slice 886 0 0 1 1 false])] [(186, 0, 9, I 4), (186, 0, 10, I 6), (226, 0, 8, I 17)]
noncomputable def m227 : Memo := ⟨[.ptr 226 0, I 0], h388, .agg [I 0, I 5, I 0, U 0, I 0, U 0, IZ (-1), I 6], h389⟩
theorem m227_run : ranTo (evCall (cxX Tryz.prog bad [] [] ((44, pureFn l3) :: q0)) 1000 60 19 m227.args m227.h) m227.v m227.h' = true := by kernel_rfl
theorem m227_ok {σ : Nat → Int} {W0 : World} (hL : L0 W0) : MemoOk Tryz.prog 26623 σ W0 19 m227 := memo_ok fit (Known2.nil σ) (FnsOk.cons (pure_fn_ok (l3_ok hL)) ((q0_ok hL))) m227_run
noncomputable def l30 : List (Memo) := m227 :: m226 :: m225 :: m224 :: m223 :: m222 :: m221 :: m220 :: m219 :: m218 :: m217 :: m216 :: m215 :: m214 :: m213 :: m212 :: m211 :: []
theorem l30_ok {σ : Nat → Int} {W0 : World} (hL : L0 W0) : ∀ x ∈ l30, MemoOk Tryz.prog 26623 σ W0 19 x := all_cons (m227_ok hL) (all_cons (m226_ok hL) (all_cons (m225_ok hL) (all_cons (m224_ok hL) (all_cons (m223_ok hL) (all_cons (m222_ok hL) (all_cons (m221_ok hL) (all_cons (m220_ok hL) (all_cons (m219_ok hL) (all_cons (m218_ok hL) (all_cons (m217_ok hL) (all_cons (m216_ok hL) (all_cons (m215_ok hL) (all_cons (m214_ok hL) (all_cons (m213_ok hL) (all_cons (m212_ok hL) (all_cons (m211_ok hL) (all_nil)))))))))))))))))
noncomputable def q32 : Fns := [(7, pureFn [p0]), (9, frameFn [m208]), (10, frameFn [m210]), (295, isFn 453), (122, atoiFullFn 384), (123, itoaFullFn), (195, joinFn), (307, countFn), (352, indexFn), (308, cutOf Tryz.prog 26623 bad [(307, countFn), (352, indexFn)] 1000 20 308)]
theorem q32_ok {σ : Nat → Int} {W0 : World} (hL : L0 W0) : FnsOk Tryz.prog 26623 σ W0 q32 := FnsOk.cons (pure_fn_ok (all_cons (p0_ok hL) (all_nil))) (FnsOk.cons (frame_fn_ok (all_cons (m208_ok hL) (all_nil))) (FnsOk.cons (frame_fn_ok (all_cons (m210_ok hL) (all_nil))) (FnsOk.cons (ext_is hL) (FnsOk.cons (ext_atoi hL) (FnsOk.cons (ext_itoa hL) (FnsOk.cons (ext_join hL) (FnsOk.cons (ext_count hL) (FnsOk.cons (ext_index hL) (FnsOk.cons (ext_cut308 hL) (FnsOk.nil))))))))))
theorem run30 : isTrue (evCall (cxX Tryz.prog bad [] [] ((8, numExtE [(0, 20, .lit 15)]) :: (19, frameFn l30) :: q32)) 1000 60 3 [.int .i64 (.var 0), bF] (sentH 453 20 errTab)) = true := by kernel_rfl
theorem case30 : CaseS [] [] [(0, 20, .lit 15)] [.int .i64 (.var 0), bF] := caseS (fun hL hk hT => FnsOk.cons (hT.ok fit) (FnsOk.cons (frame_fn_ok (l30_ok hL)) ((q32_ok hL)))) run30
noncomputable def h390 : H := hUpd h352 4394 [] [] [(214, 1, [I 0, I 1000])]
noncomputable def h391 : H := hUpc h351 4565 [] [] [(182, 0, [I 16, .slice 1110 0 1 1 10 false, I 16]),
  (214, 0, [IZ (-1), I 2147483630]),
  (214, 1, [I 0, I 999])] [(226, 0, 8, I 17)]
noncomputable def m228 : Memo := ⟨[.ptr 226 0, I 0], h390, .agg [I 0, I 3, I 0, U 0, I 0, U 0, IZ (-1), I 0], h391⟩
theorem m228_run : ranTo (evCall (cxX Tryz.prog bad [] [] ((44, pureFn l2) :: q0)) 1000 60 19 m228.args m228.h) m228.v m228.h' = true := by kernel_rfl
theorem m228_ok {σ : Nat → Int} {W0 : World} (hL : L0 W0) : MemoOk Tryz.prog 26623 σ W0 19 m228 := memo_ok fit (Known2.nil σ) (FnsOk.cons (pure_fn_ok (l2_ok hL)) ((q0_ok hL))) m228_run
noncomputable def l31 : List (Memo) := m228 :: m226 :: m225 :: m224 :: m223 :: m222 :: m221 :: m220 :: m219 :: m218 :: m217 :: m216 :: m215 :: m214 :: m213 :: m212 :: m211 :: []
theorem l31_ok {σ : Nat → Int} {W0 : World} (hL : L0 W0) : ∀ x ∈ l31, MemoOk Tryz.prog 26623 σ W0 19 x := all_cons (m228_ok hL) (all_cons (m226_ok hL) (all_cons (m225_ok hL) (all_cons (m224_ok hL) (all_cons (m223_ok hL) (all_cons (m222_ok hL) (all_cons (m221_ok hL) (all_cons (m220_ok hL) (all_cons (m219_ok hL) (all_cons (m218_ok hL) (all_cons (m217_ok hL) (all_cons (m216_ok hL) (all_cons (m215_ok hL) (all_cons (m214_ok hL) (all_cons (m213_ok hL) (all_cons (m212_ok hL) (all_cons (m211_ok hL) (all_nil)))))))))))))))))
theorem run31 : isTrue (evCall (cxX Tryz.prog bad [] [] ((8, numExtE [(0, 20, .lit 15)]) :: (19, frameFn l31) :: q32)) 1000 60 3 [.int .i64 (.var 0), bT] (sentH 453 20 errTab)) = true := by kernel_rfl
theorem case31 : CaseS [] [] [(0, 20, .lit 15)] [.int .i64 (.var 0), bT] := caseS (fun hL hk hT => FnsOk.cons (hT.ok fit) (FnsOk.cons (frame_fn_ok (l31_ok hL)) ((q32_ok hL)))) run31
noncomputable def m229 : Memo := ⟨[bT, I 17, .snil, .slice 33 0 3 3 1 true], h5, .agg [.slice 157 0 2 2 1 false, I 17, .snil, bT], h6⟩
theorem m229_run : ranTo (evCall (cxX Tryz.prog bad [] [] ((84, frameFn [m1, m2]) :: q0)) 1000 60 9 m229.args m229.h) m229.v m229.h' = true := by kernel_rfl
theorem m229_ok {σ : Nat → Int} {W0 : World} (hL : L0 W0) : MemoOk Tryz.prog 26623 σ W0 9 m229 := memo_ok fit (Known2.nil σ) (FnsOk.cons (frame_fn_ok (all_cons (m1_ok hL) (all_cons (m2_ok hL) (all_nil)))) ((q0_ok hL))) m229_run
noncomputable def h392 : H := hUpd h353 733 [] [] [(214, 1, [I 0, I 17])]
noncomputable def m230 : Memo := ⟨[.ptr 226 0, .agg [.slice 157 0 2 2 1 false, I 17, .snil, bT]], h7, .tuple [I 0, .inil], h392⟩
theorem m230_run : ranTo (evCall (cxX Tryz.prog bad [] [] ((44, pureFn l0) :: q0)) 1000 60 88 m230.args m230.h) m230.v m230.h' = true := by kernel_rfl
theorem m230_ok {σ : Nat → Int} {W0 : World} (hL : L0 W0) : MemoOk Tryz.prog 26623 σ W0 88 m230 := memo_ok fit (Known2.nil σ) (FnsOk.cons (pure_fn_ok (l0_ok hL)) ((q0_ok hL))) m230_run
noncomputable def h393 : H := hUpc h354 170 [] [] [] [(161, 0, 1, I 17)]
noncomputable def h394 : H := hUpc h355 888 [] [] [(214, 1, [I 0, I 17])] [(161, 0, 1, I 17)]
noncomputable def m231 : Memo := ⟨[.agg [I 16, I 24, I 8, I 12, I 8, I 6, I 60, .slice 161 0 1 1 4 true]], h393, .tuple [.ptr 887 0, .inil], h394⟩
noncomputable def q33 : Fns := [(88, frameFn [m230]), (295, isFn 453), (122, atoiFullFn 384), (123, itoaFullFn), (195, joinFn), (307, countFn), (352, indexFn), (308, cutOf Tryz.prog 26623 bad [(307, countFn), (352, indexFn)] 1000 20 308)]
theorem q33_ok {σ : Nat → Int} {W0 : World} (hL : L0 W0) : FnsOk Tryz.prog 26623 σ W0 q33 := FnsOk.cons (frame_fn_ok (all_cons (m230_ok hL) (all_nil))) (FnsOk.cons (ext_is hL) (FnsOk.cons (ext_atoi hL) (FnsOk.cons (ext_itoa hL) (FnsOk.cons (ext_join hL) (FnsOk.cons (ext_count hL) (FnsOk.cons (ext_index hL) (FnsOk.cons (ext_cut308 hL) (FnsOk.nil))))))))
theorem m231_run : ranTo (evCall (cxX Tryz.prog bad [] [] ((44, pureFn l1) :: q33)) 1000 60 10 m231.args m231.h) m231.v m231.h' = true := by kernel_rfl
theorem m231_ok {σ : Nat → Int} {W0 : World} (hL : L0 W0) : MemoOk Tryz.prog 26623 σ W0 10 m231 := memo_ok fit (Known2.nil σ) (FnsOk.cons (pure_fn_ok (l1_ok hL)) ((q33_ok hL))) m231_run
noncomputable def h395 : H := hUpd h356 891 [] [] [(214, 1, [I 0, I 17])]
noncomputable def h396 : H := hUpd h357 1196 [] [] [(214, 1, [I 0, I 16])]
noncomputable def m232 : Memo := ⟨[.ptr 226 0, I 0], h395, .agg [I 0, I 3, I 0, U 0, I 0, U 0, IZ (-1), I 0], h396⟩
theorem m232_run : ranTo (evCall (cxX Tryz.prog bad [] [] ((44, pureFn l2) :: q0)) 1000 60 19 m232.args m232.h) m232.v m232.h' = true := by kernel_rfl
theorem m232_ok {σ : Nat → Int} {W0 : World} (hL : L0 W0) : MemoOk Tryz.prog 26623 σ W0 19 m232 := memo_ok fit (Known2.nil σ) (FnsOk.cons (pure_fn_ok (l2_ok hL)) ((q0_ok hL))) m232_run
noncomputable def h397 : H := hUpd h396 1233 [] [] []
noncomputable def h398 : H := hUpd h359 1404 [] [] [(214, 1, [I 0, I 15])]
noncomputable def m233 : Memo := ⟨[.ptr 226 0, I 0], h397, .agg [I 0, I 1, I 0, U 0, I 0, U 0, IZ (-1), I 0], h398⟩
theorem m233_run : ranTo (evCall (cxX Tryz.prog bad [] [] ((44, pureFn l2) :: q0)) 1000 60 19 m233.args m233.h) m233.v m233.h' = true := by kernel_rfl
theorem m233_ok {σ : Nat → Int} {W0 : World} (hL : L0 W0) : MemoOk Tryz.prog 26623 σ W0 19 m233 := memo_ok fit (Known2.nil σ) (FnsOk.cons (pure_fn_ok (l2_ok hL)) ((q0_ok hL))) m233_run
noncomputable def h399 : H := hUpd h398 1441 [] [] []
noncomputable def h400 : H := hUpd h361 1612 [] [] [(214, 1, [I 0, I 14])]
noncomputable def m234 : Memo := ⟨[.ptr 226 0, I 0], h399, .agg [I 0, I 3, I 0, U 0, I 0, U 0, IZ (-1), I 0], h400⟩
theorem m234_run : ranTo (evCall (cxX Tryz.prog bad [] [] ((44, pureFn l2) :: q0)) 1000 60 19 m234.args m234.h) m234.v m234.h' = true := by kernel_rfl
theorem m234_ok {σ : Nat → Int} {W0 : World} (hL : L0 W0) : MemoOk Tryz.prog 26623 σ W0 19 m234 := memo_ok fit (Known2.nil σ) (FnsOk.cons (pure_fn_ok (l2_ok hL)) ((q0_ok hL))) m234_run
noncomputable def h401 : H := hUpd h400 1649 [] [] []
noncomputable def h402 : H := hUpd h363 1820 [] [] [(214, 1, [I 0, I 13])]
noncomputable def m235 : Memo := ⟨[.ptr 226 0, I 0], h401, .agg [I 0, I 1, I 0, U 0, I 0, U 0, IZ (-1), I 0], h402⟩
theorem m235_run : ranTo (evCall (cxX Tryz.prog bad [] [] ((44, pureFn l2) :: q0)) 1000 60 19 m235.args m235.h) m235.v m235.h' = true := by kernel_rfl
theorem m235_ok {σ : Nat → Int} {W0 : World} (hL : L0 W0) : MemoOk Tryz.prog 26623 σ W0 19 m235 := memo_ok fit (Known2.nil σ) (FnsOk.cons (pure_fn_ok (l2_ok hL)) ((q0_ok hL))) m235_run
noncomputable def h403 : H := hUpd h402 1857 [] [] []
noncomputable def h404 : H := hUpd h365 2028 [] [] [(214, 1, [I 0, I 12])]
noncomputable def m236 : Memo := ⟨[.ptr 226 0, I 0], h403, .agg [I 0, I 3, I 0, U 0, I 0, U 0, IZ (-1), I 0], h404⟩
theorem m236_run : ranTo (evCall (cxX Tryz.prog bad [] [] ((44, pureFn l2) :: q0)) 1000 60 19 m236.args m236.h) m236.v m236.h' = true := by kernel_rfl
theorem m236_ok {σ : Nat → Int} {W0 : World} (hL : L0 W0) : MemoOk Tryz.prog 26623 σ W0 19 m236 := memo_ok fit (Known2.nil σ) (FnsOk.cons (pure_fn_ok (l2_ok hL)) ((q0_ok hL))) m236_run
noncomputable def h405 : H := hUpd h404 2065 [] [] []
noncomputable def h406 : H := hUpd h367 2236 [] [] [(214, 1, [I 0, I 11])]
noncomputable def m237 : Memo := ⟨[.ptr 226 0, I 0], h405, .agg [I 0, I 1, I 0, U 0, I 0, U 0, IZ (-1), I 0], h406⟩
theorem m237_run : ranTo (evCall (cxX Tryz.prog bad [] [] ((44, pureFn l2) :: q0)) 1000 60 19 m237.args m237.h) m237.v m237.h' = true := by kernel_rfl
theorem m237_ok {σ : Nat → Int} {W0 : World} (hL : L0 W0) : MemoOk Tryz.prog 26623 σ W0 19 m237 := memo_ok fit (Known2.nil σ) (FnsOk.cons (pure_fn_ok (l2_ok hL)) ((q0_ok hL))) m237_run
noncomputable def h407 : H := hUpd h406 2273 [] [] []
noncomputable def h408 : H := hUpd h369 2444 [] [] [(214, 1, [I 0, I 10])]
noncomputable def m238 : Memo := ⟨[.ptr 226 0, I 0], h407, .agg [I 0, I 3, I 0, U 0, I 0, U 0, IZ (-1), I 0], h408⟩
theorem m238_run : ranTo (evCall (cxX Tryz.prog bad [] [] ((44, pureFn l2) :: q0)) 1000 60 19 m238.args m238.h) m238.v m238.h' = true := by kernel_rfl
theorem m238_ok {σ : Nat → Int} {W0 : World} (hL : L0 W0) : MemoOk Tryz.prog 26623 σ W0 19 m238 := memo_ok fit (Known2.nil σ) (FnsOk.cons (pure_fn_ok (l2_ok hL)) ((q0_ok hL))) m238_run
noncomputable def h409 : H := hUpd h408 2481 [] [] []
noncomputable def h410 : H := hUpd h371 2652 [] [] [(214, 1, [I 0, I 9])]
noncomputable def m239 : Memo := ⟨[.ptr 226 0, I 0], h409, .agg [I 0, I 1, I 0, U 0, I 0, U 0, IZ (-1), I 0], h410⟩
theorem m239_run : ranTo (evCall (cxX Tryz.prog bad [] [] ((44, pureFn l2) :: q0)) 1000 60 19 m239.args m239.h) m239.v m239.h' = true := by kernel_rfl
theorem m239_ok {σ : Nat → Int} {W0 : World} (hL : L0 W0) : MemoOk Tryz.prog 26623 σ W0 19 m239 := memo_ok fit (Known2.nil σ) (FnsOk.cons (pure_fn_ok (l2_ok hL)) ((q0_ok hL))) m239_run
noncomputable def h411 : H := hUpd h410 2689 [] [] []
noncomputable def h412 : H := hUpd h373 2860 [] [] [(214, 1, [I 0, I 8])]
noncomputable def m240 : Memo := ⟨[.ptr 226 0, I 0], h411, .agg [I 0, I 3, I 0, U 0, I 0, U 0, IZ (-1), I 0], h412⟩
theorem m240_run : ranTo (evCall (cxX Tryz.prog bad [] [] ((44, pureFn l2) :: q0)) 1000 60 19 m240.args m240.h) m240.v m240.h' = true := by kernel_rfl
theorem m240_ok {σ : Nat → Int} {W0 : World} (hL : L0 W0) : MemoOk Tryz.prog 26623 σ W0 19 m240 := memo_ok fit (Known2.nil σ) (FnsOk.cons (pure_fn_ok (l2_ok hL)) ((q0_ok hL))) m240_run
noncomputable def h413 : H := hUpd h412 2897 [] [] []
noncomputable def h414 : H := hUpd h375 3068 [] [] [(214, 1, [I 0, I 7])]
noncomputable def m241 : Memo := ⟨[.ptr 226 0, I 0], h413, .agg [I 0, I 1, I 0, U 0, I 0, U 0, IZ (-1), I 0], h414⟩
theorem m241_run : ranTo (evCall (cxX Tryz.prog bad [] [] ((44, pureFn l2) :: q0)) 1000 60 19 m241.args m241.h) m241.v m241.h' = true := by kernel_rfl
theorem m241_ok {σ : Nat → Int} {W0 : World} (hL : L0 W0) : MemoOk Tryz.prog 26623 σ W0 19 m241 := memo_ok fit (Known2.nil σ) (FnsOk.cons (pure_fn_ok (l2_ok hL)) ((q0_ok hL))) m241_run
noncomputable def h415 : H := hUpd h414 3105 [] [] []
noncomputable def h416 : H := hUpd h377 3276 [] [] [(214, 1, [I 0, I 6])]
noncomputable def m242 : Memo := ⟨[.ptr 226 0, I 0], h415, .agg [I 0, I 3, I 0, U 0, I 0, U 0, IZ (-1), I 0], h416⟩
theorem m242_run : ranTo (evCall (cxX Tryz.prog bad [] [] ((44, pureFn l2) :: q0)) 1000 60 19 m242.args m242.h) m242.v m242.h' = true := by kernel_rfl
theorem m242_ok {σ : Nat → Int} {W0 : World} (hL : L0 W0) : MemoOk Tryz.prog 26623 σ W0 19 m242 := memo_ok fit (Known2.nil σ) (FnsOk.cons (pure_fn_ok (l2_ok hL)) ((q0_ok hL))) m242_run
noncomputable def h417 : H := hUpd h416 3313 [] [] []
noncomputable def h418 : H := hUpd h379 3484 [] [] [(214, 1, [I 0, I 5])]
noncomputable def m243 : Memo := ⟨[.ptr 226 0, I 0], h417, .agg [I 0, I 1, I 0, U 0, I 0, U 0, IZ (-1), I 0], h418⟩
theorem m243_run : ranTo (evCall (cxX Tryz.prog bad [] [] ((44, pureFn l2) :: q0)) 1000 60 19 m243.args m243.h) m243.v m243.h' = true := by kernel_rfl
theorem m243_ok {σ : Nat → Int} {W0 : World} (hL : L0 W0) : MemoOk Tryz.prog 26623 σ W0 19 m243 := memo_ok fit (Known2.nil σ) (FnsOk.cons (pure_fn_ok (l2_ok hL)) ((q0_ok hL))) m243_run
noncomputable def h419 : H := hUpd h418 3521 [] [] []
noncomputable def h420 : H := hUpd h381 3692 [] [] [(214, 1, [I 0, I 4])]
noncomputable def m244 : Memo := ⟨[.ptr 226 0, I 0], h419, .agg [I 0, I 3, I 0, U 0, I 0, U 0, IZ (-1), I 0], h420⟩
theorem m244_run : ranTo (evCall (cxX Tryz.prog bad [] [] ((44, pureFn l2) :: q0)) 1000 60 19 m244.args m244.h) m244.v m244.h' = true := by kernel_rfl
theorem m244_ok {σ : Nat → Int} {W0 : World} (hL : L0 W0) : MemoOk Tryz.prog 26623 σ W0 19 m244 := memo_ok fit (Known2.nil σ) (FnsOk.cons (pure_fn_ok (l2_ok hL)) ((q0_ok hL))) m244_run
noncomputable def h421 : H := hUpd h420 3729 [] [] []
noncomputable def h422 : H := hUpd h383 3900 [] [] [(214, 1, [I 0, I 3])]
noncomputable def m245 : Memo := ⟨[.ptr 226 0, I 0], h421, .agg [I 0, I 1, I 0, U 0, I 0, U 0, IZ (-1), I 0], h422⟩
theorem m245_run : ranTo (evCall (cxX Tryz.prog bad [] [] ((44, pureFn l2) :: q0)) 1000 60 19 m245.args m245.h) m245.v m245.h' = true := by kernel_rfl
theorem m245_ok {σ : Nat → Int} {W0 : World} (hL : L0 W0) : MemoOk Tryz.prog 26623 σ W0 19 m245 := memo_ok fit (Known2.nil σ) (FnsOk.cons (pure_fn_ok (l2_ok hL)) ((q0_ok hL))) m245_run
noncomputable def h423 : H := hUpd h422 3937 [] [] []
noncomputable def h424 : H := hUpd h385 4108 [] [] [(214, 1, [I 0, I 2])]
noncomputable def m246 : Memo := ⟨[.ptr 226 0, I 0], h423, .agg [I 0, I 3, I 0, U 0, I 0, U 0, IZ (-1), I 0], h424⟩
theorem m246_run : ranTo (evCall (cxX Tryz.prog bad [] [] ((44, pureFn l2) :: q0)) 1000 60 19 m246.args m246.h) m246.v m246.h' = true := by kernel_rfl
theorem m246_ok {σ : Nat → Int} {W0 : World} (hL : L0 W0) : MemoOk Tryz.prog 26623 σ W0 19 m246 := memo_ok fit (Known2.nil σ) (FnsOk.cons (pure_fn_ok (l2_ok hL)) ((q0_ok hL))) m246_run
noncomputable def h425 : H := hUpd h424 4145 [] [] []
noncomputable def h426 : H := hUpd h387 4316 [] [] [(214, 1, [I 0, I 1])]
noncomputable def m247 : Memo := ⟨[.ptr 226 0, I 0], h425, .agg [I 0, I 1, I 0, U 0, I 0, U 0, IZ (-1), I 0], h426⟩
theorem m247_run : ranTo (evCall (cxX Tryz.prog bad [] [] ((44, pureFn l2) :: q0)) 1000 60 19 m247.args m247.h) m247.v m247.h' = true := by kernel_rfl
theorem m247_ok {σ : Nat → Int} {W0 : World} (hL : L0 W0) : MemoOk Tryz.prog 26623 σ W0 19 m247 := memo_ok fit (Known2.nil σ) (FnsOk.cons (pure_fn_ok (l2_ok hL)) ((q0_ok hL))) m247_run
noncomputable def h427 : H := hUpd h426 4353 [] [] []
noncomputable def h428 : H := hUpd h391 4524 [] [] [(214, 1, [I 0, I 0])]
noncomputable def m248 : Memo := ⟨[.ptr 226 0, I 0], h427, .agg [I 0, I 3, I 0, U 0, I 0, U 0, IZ (-1), I 0], h428⟩
theorem m248_run : ranTo (evCall (cxX Tryz.prog bad [] [] ((44, pureFn l2) :: q0)) 1000 60 19 m248.args m248.h) m248.v m248.h' = true := by kernel_rfl
theorem m248_ok {σ : Nat → Int} {W0 : World} (hL : L0 W0) : MemoOk Tryz.prog 26623 σ W0 19 m248 := memo_ok fit (Known2.nil σ) (FnsOk.cons (pure_fn_ok (l2_ok hL)) ((q0_ok hL))) m248_run
noncomputable def h429 : H := hUpd h428 4561 [] [] []
noncomputable def h430 : H := hUpc h428 4681 [] [] [(225, 0, [.slice 886 0 0 1 1 false])] [(186, 0, 9, I 4), (186, 0, 10, I 6), (226, 0, 8, I 18)]
noncomputable def m249 : Memo := ⟨[.ptr 226 0, I 0], h429, .agg [I 0, I 5, I 0, U 0, I 0, U 0, IZ (-1), I 6], h430⟩
theorem m249_run : ranTo (evCall (cxX Tryz.prog bad [] [] ((44, pureFn l3) :: q0)) 1000 60 19 m249.args m249.h) m249.v m249.h' = true := by kernel_rfl
theorem m249_ok {σ : Nat → Int} {W0 : World} (hL : L0 W0) : MemoOk Tryz.prog 26623 σ W0 19 m249 := memo_ok fit (Known2.nil σ) (FnsOk.cons (pure_fn_ok (l3_ok hL)) ((q0_ok hL))) m249_run
noncomputable def l32 : List (Memo) := m249 :: m248 :: m247 :: m246 :: m245 :: m244 :: m243 :: m242 :: m241 :: m240 :: m239 :: m238 :: m237 :: m236 :: m235 :: m234 :: m233 :: m232 :: []
theorem l32_ok {σ : Nat → Int} {W0 : World} (hL : L0 W0) : ∀ x ∈ l32, MemoOk Tryz.prog 26623 σ W0 19 x := all_cons (m249_ok hL) (all_cons (m248_ok hL) (all_cons (m247_ok hL) (all_cons (m246_ok hL) (all_cons (m245_ok hL) (all_cons (m244_ok hL) (all_cons (m243_ok hL) (all_cons (m242_ok hL) (all_cons (m241_ok hL) (all_cons (m240_ok hL) (all_cons (m239_ok hL) (all_cons (m238_ok hL) (all_cons (m237_ok hL) (all_cons (m236_ok hL) (all_cons (m235_ok hL) (all_cons (m234_ok hL) (all_cons (m233_ok hL) (all_cons (m232_ok hL) (all_nil))))))))))))))))))
noncomputable def q34 : Fns := [(7, pureFn [p0]), (9, frameFn [m229]), (10, frameFn [m231]), (295, isFn 453), (122, atoiFullFn 384), (123, itoaFullFn), (195, joinFn), (307, countFn), (352, indexFn), (308, cutOf Tryz.prog 26623 bad [(307, countFn), (352, indexFn)] 1000 20 308)]
theorem q34_ok {σ : Nat → Int} {W0 : World} (hL : L0 W0) : FnsOk Tryz.prog 26623 σ W0 q34 := FnsOk.cons (pure_fn_ok (all_cons (p0_ok hL) (all_nil))) (FnsOk.cons (frame_fn_ok (all_cons (m229_ok hL) (all_nil))) (FnsOk.cons (frame_fn_ok (all_cons (m231_ok hL) (all_nil))) (FnsOk.cons (ext_is hL) (FnsOk.cons (ext_atoi hL) (FnsOk.cons (ext_itoa hL) (FnsOk.cons (ext_join hL) (FnsOk.cons (ext_count hL) (FnsOk.cons (ext_index hL) (FnsOk.cons (ext_cut308 hL) (FnsOk.nil))))))))))
theorem run32 : isTrue (evCall (cxX Tryz.prog bad [] [] ((8, numExtE [(0, 20, .lit 16)]) :: (19, frameFn l32) :: q34)) 1000 60 3 [.int .i64 (.var 0), bF] (sentH 453 20 errTab)) = true := by kernel_rfl
theorem case32 : CaseS [] [] [(0, 20, .lit 16)] [.int .i64 (.var 0), bF] := caseS (fun hL hk hT => FnsOk.cons (hT.ok fit) (FnsOk.cons (frame_fn_ok (l32_ok hL)) ((q34_ok hL)))) run32
end Go.Proofs.YtkfhelmjaoepiabGreatDoor.worldFills
