/- bootApart: calls that are run once, and the runs of the cases (part 3). -/
import Derived.Test.YtoldbgemlnkfkaaDoorBaK2
set_option linter.unusedVariables false
set_option maxRecDepth 10000000
namespace Go.Proofs.YtoldbgemlnkfkaaDoor.bootApart
open Tk
open Go.RowKit
abbrev bt0 : List (Int × Int) := [((-9223372036854775808), 9223372036854775807), (0, 4294967295), (0, 4), (0, 4), (0, 4), (0, 4), (0, 4), (0, 4), ((-9223372036854775808), 9223372036854775807), ((-9223372036854775808), 9223372036854775807), ((-9223372036854775808), 9223372036854775807), ((-9223372036854775808), 9223372036854775807), ((-9223372036854775808), 9223372036854775807), ((-9223372036854775808), 9223372036854775807)]
abbrev bt1 : List (Int × Int) := [((-9223372036854775808), 9223372036854775807), (0, 4294967295), (0, 4), (0, 4), (0, 4), (0, 4), (0, 4), (0, 4), ((-9223372036854775808), 9223372036854775807), ((-9223372036854775808), 9223372036854775807), ((-9223372036854775808), 9223372036854775807), ((-9223372036854775808), 9223372036854775807), ((-9223372036854775808), 9223372036854775807)]
abbrev bt2 : List (Int × Int) := [((-9223372036854775808), 9223372036854775807), (0, 4294967295), (0, 4), (0, 4), (0, 4), (0, 4), (0, 4), (0, 4), ((-9223372036854775808), 9223372036854775807), ((-9223372036854775808), 9223372036854775807), ((-9223372036854775808), 9223372036854775807), ((-9223372036854775808), 9223372036854775807)]
abbrev bt3 : List (Int × Int) := [(0, 4294967295), (0, 1099511627775), (0, 1099511627775), (0, 1099511627775), (0, 1099511627775), (0, 1099511627775), (0, 1099511627775), (0, 1099511627775), (0, 1099511627775), (0, 1099511627775), (0, 4294967295), (0, 1099511627775), (0, 1099511627775), (0, 1099511627775), (0, 1099511627775), (0, 1099511627775), (0, 1099511627775), (0, 1099511627775), (0, 1099511627775), (0, 1099511627775), (0, 1099511627775), (0, 1099511627775), (0, 1099511627775), (0, 4294967295), (0, 1099511627775), (0, 1099511627775), (0, 1099511627775), (0, 1099511627775), (0, 1099511627775), (0, 1099511627775), (0, 1099511627775), (0, 1099511627775), (0, 1099511627775), (0, 1099511627775), (0, 1099511627775), (0, 1099511627775), (0, 4294967295), (0, 1099511627775), (0, 1099511627775), (0, 1099511627775), (0, 1099511627775), (0, 1099511627775), (0, 1099511627775), (0, 1099511627775), (0, 1099511627775), (0, 1099511627775), (0, 1099511627775), (0, 1099511627775), (0, 1099511627775), (0, 4294967295), (0, 1099511627775), (0, 1099511627775), (0, 1099511627775), (0, 1099511627775), (0, 1099511627775), (0, 1099511627775), (0, 1099511627775), (0, 1099511627775), (0, 1099511627775), (0, 1099511627775), (0, 1099511627775), (0, 1099511627775), (0, 1099511627775), (0, 1099511627775), (0, 1099511627775), (0, 1099511627775), (0, 1099511627775), (0, 1099511627775), (0, 1099511627775), (0, 1099511627775), (0, 1099511627775), (0, 1099511627775), (0, 4294967295), (0, 4294967295), (0, 4294967295), (0, 4294967295)]
variable {σ : Nat → Int} {W0 : World}
noncomputable def p295 : Pur := ([.agg [I 5, .int .i64 (.var 5), I 0, I 0, U 3]], .inil, 1048576)
theorem p295_run : ranPure (evCall (cxX Tryd.prog bad bt2 [] []) 1000 60 65 p295.1 ⟨.lf, p295.2.2⟩) p295.2.1 = true := by kernel_rfl
theorem p295_ok (hL : L0 W0) (hk : Known2 σ bt2 []) : PureOk Tryd.prog 95 σ W0 65 p295 := pure_ok fit hk (FnsOk.nil) p295_run
noncomputable def p296 : Pur := ([.agg [I 5, .int .i64 (.var 2), I 0, I 0, U 4]], .inil, 1048576)
theorem p296_run : ranPure (evCall (cxX Tryd.prog bad bt2 [] []) 1000 60 65 p296.1 ⟨.lf, p296.2.2⟩) p296.2.1 = true := by kernel_rfl
theorem p296_ok (hL : L0 W0) (hk : Known2 σ bt2 []) : PureOk Tryd.prog 95 σ W0 65 p296 := pure_ok fit hk (FnsOk.nil) p296_run
noncomputable def p297 : Pur := ([.agg [I 5, .int .i64 (.var 3), I 0, I 0, U 4]], .inil, 1048576)
theorem p297_run : ranPure (evCall (cxX Tryd.prog bad bt2 [] []) 1000 60 65 p297.1 ⟨.lf, p297.2.2⟩) p297.2.1 = true := by kernel_rfl
theorem p297_ok (hL : L0 W0) (hk : Known2 σ bt2 []) : PureOk Tryd.prog 95 σ W0 65 p297 := pure_ok fit hk (FnsOk.nil) p297_run
noncomputable def p298 : Pur := ([.agg [I 5, .int .i64 (.var 4), I 0, I 0, U 4]], .inil, 1048576)
theorem p298_run : ranPure (evCall (cxX Tryd.prog bad bt2 [] []) 1000 60 65 p298.1 ⟨.lf, p298.2.2⟩) p298.2.1 = true := by kernel_rfl
theorem p298_ok (hL : L0 W0) (hk : Known2 σ bt2 []) : PureOk Tryd.prog 95 σ W0 65 p298 := pure_ok fit hk (FnsOk.nil) p298_run
noncomputable def p299 : Pur := ([.agg [I 5, .int .i64 (.var 5), I 0, I 0, U 4]], .inil, 1048576)
theorem p299_run : ranPure (evCall (cxX Tryd.prog bad bt2 [] []) 1000 60 65 p299.1 ⟨.lf, p299.2.2⟩) p299.2.1 = true := by kernel_rfl
theorem p299_ok (hL : L0 W0) (hk : Known2 σ bt2 []) : PureOk Tryd.prog 95 σ W0 65 p299 := pure_ok fit hk (FnsOk.nil) p299_run
noncomputable def y75 : List Sym := [s0, s7, s14, s1, s2, s3, s4, s5, s6, s8, s9, s10, s11, s12, s13, s21, s15, s16, s17, s18, s19, s20, s22, s23, s24, s25, s26, s27, s28, s29, s30, s31, s32]
theorem y75_ok {W0 : World} (hL : L0 W0) : ∀ x ∈ y75, SymOk Tryd.prog 95 W0 47 x := all_cons (s0_ok hL) (all_cons (s7_ok hL) (all_cons (s14_ok hL) (all_cons (s1_ok hL) (all_cons (s2_ok hL) (all_cons (s3_ok hL) (all_cons (s4_ok hL) (all_cons (s5_ok hL) (all_cons (s6_ok hL) (all_cons (s8_ok hL) (all_cons (s9_ok hL) (all_cons (s10_ok hL) (all_cons (s11_ok hL) (all_cons (s12_ok hL) (all_cons (s13_ok hL) (all_cons (s21_ok hL) (all_cons (s15_ok hL) (all_cons (s16_ok hL) (all_cons (s17_ok hL) (all_cons (s18_ok hL) (all_cons (s19_ok hL) (all_cons (s20_ok hL) (all_cons (s22_ok hL) (all_cons (s23_ok hL) (all_cons (s24_ok hL) (all_cons (s25_ok hL) (all_cons (s26_ok hL) (all_cons (s27_ok hL) (all_cons (s28_ok hL) (all_cons (s29_ok hL) (all_cons (s30_ok hL) (all_cons (s31_ok hL) (all_cons (s32_ok hL) (all_nil)))))))))))))))))))))))))))))))))
noncomputable def q76 : Fns := [(10, pureFn [p0]), (6, frameFn [m279])]
theorem q76_ok (hL : L0 W0) : FnsOk Tryd.prog 95 σ W0 q76 := FnsOk.cons (pure_fn_ok (all_cons (p0_ok hL) (all_nil))) (FnsOk.cons (frame_fn_ok (all_cons (m279_ok hL) (all_nil))) (FnsOk.nil))
theorem case41 : CaseR (rowH (sentH 225 12 errTab) [.int .i64 (.var 8), .int .i64 (.var 9), .int .i64 (.var 10), .int .i64 (.var 11)]) bt2 [] [(0, 5, .lit 4), (8, 5, .var 2), (9, 5, .var 3), (10, 5, .var 4), (11, 5, .var 5)] [.int .i64 (.var 0), .slice 18 0 4 4 1 false, .int .u32 (.var 1)] := caseR (fun hL hk hT => FnsOk.cons (hT.ok fit) (FnsOk.cons (pure_fn_ok (all_cons (p6_ok hL) (all_cons (p7_ok hL) (all_cons (p8_ok hL) (all_cons (p9_ok hL) (all_cons (p10_ok hL) (all_cons (p11_ok hL) (all_cons (p280_ok hL hk) (all_cons (p281_ok hL hk) (all_cons (p282_ok hL hk) (all_cons (p283_ok hL hk) (all_cons (p4_ok hL) (all_cons (p5_ok hL) (all_cons (p23_ok hL) (all_cons (p284_ok hL hk) (all_cons (p285_ok hL hk) (all_cons (p286_ok hL hk) (all_cons (p287_ok hL hk) (all_cons (p22_ok hL) (all_cons (p76_ok hL) (all_cons (p288_ok hL hk) (all_cons (p289_ok hL hk) (all_cons (p290_ok hL hk) (all_cons (p291_ok hL hk) (all_cons (p75_ok hL) (all_cons (p150_ok hL) (all_cons (p292_ok hL hk) (all_cons (p293_ok hL hk) (all_cons (p294_ok hL hk) (all_cons (p295_ok hL hk) (all_cons (p149_ok hL) (all_cons (p245_ok hL) (all_cons (p296_ok hL hk) (all_cons (p297_ok hL hk) (all_cons (p298_ok hL hk) (all_cons (p299_ok hL hk) (all_cons (p244_ok hL) (all_nil)))))))))))))))))))))))))))))))))))))) (FnsOk.cons (sym_fn_ok (Γ := cxX Tryd.prog bad bt2 [] []) (fix := 18) ⟨hk.rng, hk.facts⟩ (by decide) (y75_ok hL)) ((q76_ok hL))))) (by kernel_rfl : isTrue (evCall (cxX Tryd.prog bad bt2 [] ((11, numExtE [(0, 5, .lit 4), (8, 5, .var 2), (9, 5, .var 3), (10, 5, .var 4), (11, 5, .var 5)]) :: (65, pureFn [p6, p7, p8, p9, p10, p11, p280, p281, p282, p283, p4, p5, p23, p284, p285, p286, p287, p22, p76, p288, p289, p290, p291, p75, p150, p292, p293, p294, p295, p149, p245, p296, p297, p298, p299, p244]) :: (47, symFn (cxX Tryd.prog bad bt2 [] []) 18 y75) :: q76)) 1000 60 4 [.int .i64 (.var 0), .slice 18 0 4 4 1 false, .int .u32 (.var 1)] (rowH (sentH 225 12 errTab) [.int .i64 (.var 8), .int .i64 (.var 9), .int .i64 (.var 10), .int .i64 (.var 11)])) = true)
noncomputable def h77 : H := hUpd h45 366 [] [] []
noncomputable def h78 : H := hUpd h45 421 [] [(382, .cells 1 ([[.snil]]) false),
  (414, .cells 5 ([[.ptr 411 0, .slice 412 0 8 8 3 true, .map 413, .ptr 377 0, .ptr 381 0]]) false),
  (374, .cells 2 ([[.ptr 372 0, .slice 373 0 24 24 32 true]]) false),
  (406, .cells 3 (rp 12 ([bF, I 0, bF]) ([])) false),
  (378, .cells 3 (rp 8 ([bF, I 0, bF]) ([])) false),
  (410, .cells 3 (rp 8 ([bF, I 0, bF]) ([])) false),
  (394, .cells 1 ([[.snil]]) false),
  (370, .cells 2 ([[.ptr 368 0, .slice 369 0 16 16 80 true]]) false),
  (418, .cells 2 ([[.ptr 416 0, .slice 417 0 6 6 31 true]]) false),
  (380, .cells 107 (rp 8 (rp 9 (U 0) (rp 6 (I 0) ((U 0) :: rp 4 (I 0) ((U 0) :: rp 4 (I 0) ((U 0) :: rp 4 (I 0) ((U 0) :: rp 4 (I 0) ((U 0) :: rp 4 (I 0) ((U 0) :: rp 4 (I 0) ((U 0) :: rp 4 (I 0) ((U 0) :: rp 4 (I 0) ((U 0) :: rp 4 (I 0) ((U 0) :: rp 4 (I 0) ((U 0) :: rp 4 (I 0) ((U 0) :: rp 4 (I 0) ((U 0) :: rp 4 (I 0) ((U 0) :: rp 4 (I 0) ((U 0) :: rp 4 (I 0) ((U 0) :: rp 4 (I 0) ((U 0) :: rp 4 (I 0) ((U 0) :: rp 4 (I 0) ([U 0, I 0]))))))))))))))))))))) ([])) false),
  (412, .cells 3 (rp 8 ([I 0, I 0, I 0]) ([])) false),
  (372, .cells 1 ([[.slice 371 0 24 24 3 true]]) false),
  (420, .cells 9 ([[.ptr 377 0, .ptr 381 0, .ptr 409 0, .ptr 414 0, .ptr 418 0, .ptr 419 0, .snil, .snil, I 0]]) false),
  (388, .cells 1 ([[.snil]]) false),
  (376, .cells 3 ([[I 16, .snil, I 0]]) false),
  (408, .cells 2 (rp 12 ([I 0, I 0]) ([])) false),
  (368, .cells 1 ([[.slice 367 0 16 16 3 true]]) false),
  (400, .cells 1 ([[.snil]]) false),
  (416, .cells 1 ([[.slice 415 0 6 6 3 true]]) false),
  (381, .cells 3 ([[.ptr 379 0, .slice 380 0 8 8 107 true, .slice 405 0 8 8 1 false]]) false),
  (413, .map [] 0),
  (397, .cells 1 ([[.snil]]) false),
  (373, .cells 32 (rp 24 (rp 32 (U 0) ([])) ([])) false),
  (405, .cells 1 ([[.ptr 382 0], [.ptr 385 0], [.ptr 388 0], [.ptr 391 0], [.ptr 394 0], [.ptr 397 0], [.ptr 400 0], [.ptr 403 0]]) false),
  (377, .cells 3 ([[.ptr 375 0, I 16, .ptr 376 0]]) false),
  (409, .cells 2 ([[.ptr 407 0, .slice 408 0 12 12 2 true]]) false),
  (369, .cells 80 (rp 16 (rp 4 (I 0) ((U 0) :: rp 4 (I 0) ((U 0) :: rp 4 (I 0) ((U 0) :: rp 4 (I 0) ((U 0) :: rp 4 (I 0) ((U 0) :: rp 4 (I 0) ((U 0) :: rp 4 (I 0) ((U 0) :: rp 4 (I 0) ((U 0) :: rp 4 (I 0) ((U 0) :: rp 4 (I 0) ((U 0) :: rp 4 (I 0) ((U 0) :: rp 4 (I 0) ((U 0) :: rp 4 (I 0) ((U 0) :: rp 4 (I 0) ((U 0) :: rp 4 (I 0) ((U 0) :: rp 4 (I 0) ([U 0]))))))))))))))))) ([])) false),
  (417, .cells 31 (rp 6 ((bF) :: rp 4 (I 0) ((U 0) :: rp 4 (I 0) ((U 0) :: rp 4 (I 0) ((U 0) :: rp 4 (I 0) ((U 0) :: rp 4 (I 0) ((U 0) :: rp 4 (I 0) ([U 0]))))))) ([])) false),
  (385, .cells 1 ([[.snil]]) false),
  (379, .cells 1 ([[.slice 378 0 8 8 3 true]]) false),
  (411, .cells 1 ([[.slice 410 0 8 8 3 true]]) false),
  (371, .cells 3 (rp 24 ([bF, I 0, bF]) ([])) false),
  (403, .cells 1 ([[.snil]]) false),
  (419, .cells 1 ([[.snil]]) false),
  (375, .cells 2 ([[.ptr 370 0, .ptr 374 0]]) false),
  (407, .cells 1 ([[.slice 406 0 12 12 3 true]]) false),
  (391, .cells 1 ([[.snil]]) false),
  (367, .cells 3 (rp 16 ([bF, I 0, bF]) ([])) false),
  (415, .cells 3 (rp 6 ([bF, I 0, bF]) ([])) false)] []
noncomputable def m300 : Memo := ⟨[.agg [I 16, I 24, I 8, I 12, I 8, I 6]], h77, .tuple [.ptr 420 0, .inil], h78⟩
theorem m300_run : ranTo (evCall (cxX Tryd.prog bad [] [] []) 1000 60 6 m300.args m300.h) m300.v m300.h' = true := by kernel_rfl
theorem m300_ok (hL : L0 W0) : MemoOk Tryd.prog 95 σ W0 6 m300 := memo_ok fit (Known2.nil σ) (FnsOk.nil) m300_run
noncomputable def s33 : Sym := ⟨[.ptr 18 0, .agg [.slice 19 0 1 1 1 true, I 14, .slice 20 0 5 5 1 false, bT]], h70, [18, 21, 24, 27, 39, 40, 53, 56, 57, 23, 32, 35, 50, 55, 22, 29, 36, 41, 58, 33, 34, 54, 19, 30, 51, 14, 6, 12, 16, 4, 2, 13, 17, 15, 3, 1, 0], bt3,
  [(false, .sub (.lit 60) (.var 56), .lit 1, false), (false, .sub (.lit 60) (.add (.var 56) (.lit 1)), .lit 1, false), (false, .sub (.lit 60) (.add (.var 56) (.lit 2)), .lit 1, false), (false, .sub (.lit 60) (.add (.var 56) (.lit 3)), .lit 1, false)],
  .tuple [I 4, .inil],
  [.cel 30 4 9 (I 1),
  .cel 30 4 11 (I 8),
  .cel 30 4 16 (I 7),
  .cel 30 4 17 (I 5),
  .cel 30 4 21 (I 11),
  .cel 30 4 26 (I 12),
  .cel 30 4 31 (I 13),
  .cel 30 4 36 (I 14),
  .cel 30 4 91 (I 2),
  .cel 30 4 92 (I 4),
  .cel 30 4 95 (U 1),
  .cel 30 4 96 (I 7),
  .cel 30 4 97 (I 5),
  .row 33 5 ([I 0, I 14]),
  .row 35 0 ([IZ (-1), I 60, .int .i64 (.add (.var 56) (.lit 4))]),
  .set 36 (.map [(.agg [I 3, I 0], .agg [I 0, I 0], 0), (.agg [I 3, I 1], .agg [I 0, I 0], 1), (.agg [I 2, I 0], .agg [I 0, I 0], 2), (.agg [I 4, I 0], .agg [I 0, I 0], 3), (.agg [I 3, I 2], .agg [I 0, I 0], 4), (.agg [I 3, I 3], .agg [I 0, I 0], 5), (.agg [I 2, I 1], .agg [I 0, I 0], 6), (.agg [I 4, I 1], .agg [I 0, I 0], 7), (.agg [I 3, I 4], .agg [I 0, I 0], 8), (.agg [I 3, I 5], .agg [I 0, I 0], 9), (.agg [I 2, I 2], .agg [I 0, I 0], 10), (.agg [I 4, I 2], .agg [I 0, I 0], 11), (.agg [I 3, I 6], .agg [I 0, I 0], 12), (.agg [I 3, I 7], .agg [I 0, I 0], 13), (.agg [I 2, I 3], .agg [I 0, I 0], 14), (.agg [I 4, I 3], .agg [I 0, I 0], 15), (.agg [I 3, I 8], .agg [I 0, I 0], 16), (.agg [I 3, I 9], .agg [I 0, I 0], 17), (.agg [I 2, I 4], .agg [I 0, I 0], 18), (.agg [I 4, I 4], .agg [I 0, I 0], 19)] 20),
  .row 41 4 ([bT, I 0, bF]),
  .row 50 5 ([bT, I 0, bF]),
  .cel 54 4 0 (I 3),
  .cel 54 4 1 (I 8),
  .cel 54 4 5 (I 3),
  .cel 54 4 6 (I 9),
  .cel 56 8 0 (.int .u32 (.var 0)),
  .row 57 4 ([bT, I 0, bF]),
  .row 58 8 ([bT, I 0, bF]),
  .row 58 9 ([bT, I 0, bF])], 534⟩
theorem s33_run : ranTo (evCall (cxX Tryd.prog bad s33.rng s33.facts [(65, pureFn l65)]) 1000 60 47 s33.args s33.pre) s33.v s33.post = true := by kernel_rfl
theorem s33_ok {W0 : World} (hL : L0 W0) : SymOk Tryd.prog 95 W0 47 s33 := sym_ok fit (fun σ hk => FnsOk.cons (pure_fn_ok (l65_ok hL)) (FnsOk.nil)) s33_run (by kernel_rfl)
noncomputable def p301 : Pur := ([.agg [I 5, .int .i64 (.var 2), I 0, I 0, U 0]], .inil, 1048576)
theorem p301_run : ranPure (evCall (cxX Tryd.prog bad bt1 [] []) 1000 60 65 p301.1 ⟨.lf, p301.2.2⟩) p301.2.1 = true := by kernel_rfl
theorem p301_ok (hL : L0 W0) (hk : Known2 σ bt1 []) : PureOk Tryd.prog 95 σ W0 65 p301 := pure_ok fit hk (FnsOk.nil) p301_run
noncomputable def p302 : Pur := ([.agg [I 5, .int .i64 (.var 3), I 0, I 0, U 0]], .inil, 1048576)
theorem p302_run : ranPure (evCall (cxX Tryd.prog bad bt1 [] []) 1000 60 65 p302.1 ⟨.lf, p302.2.2⟩) p302.2.1 = true := by kernel_rfl
theorem p302_ok (hL : L0 W0) (hk : Known2 σ bt1 []) : PureOk Tryd.prog 95 σ W0 65 p302 := pure_ok fit hk (FnsOk.nil) p302_run
noncomputable def p303 : Pur := ([.agg [I 5, .int .i64 (.var 4), I 0, I 0, U 0]], .inil, 1048576)
theorem p303_run : ranPure (evCall (cxX Tryd.prog bad bt1 [] []) 1000 60 65 p303.1 ⟨.lf, p303.2.2⟩) p303.2.1 = true := by kernel_rfl
theorem p303_ok (hL : L0 W0) (hk : Known2 σ bt1 []) : PureOk Tryd.prog 95 σ W0 65 p303 := pure_ok fit hk (FnsOk.nil) p303_run
noncomputable def p304 : Pur := ([.agg [I 5, .int .i64 (.var 5), I 0, I 0, U 0]], .inil, 1048576)
theorem p304_run : ranPure (evCall (cxX Tryd.prog bad bt1 [] []) 1000 60 65 p304.1 ⟨.lf, p304.2.2⟩) p304.2.1 = true := by kernel_rfl
theorem p304_ok (hL : L0 W0) (hk : Known2 σ bt1 []) : PureOk Tryd.prog 95 σ W0 65 p304 := pure_ok fit hk (FnsOk.nil) p304_run
noncomputable def p305 : Pur := ([.agg [I 5, .int .i64 (.var 6), I 0, I 0, U 0]], .inil, 1048576)
theorem p305_run : ranPure (evCall (cxX Tryd.prog bad bt1 [] []) 1000 60 65 p305.1 ⟨.lf, p305.2.2⟩) p305.2.1 = true := by kernel_rfl
theorem p305_ok (hL : L0 W0) (hk : Known2 σ bt1 []) : PureOk Tryd.prog 95 σ W0 65 p305 := pure_ok fit hk (FnsOk.nil) p305_run
noncomputable def p306 : Pur := ([.agg [I 5, .int .i64 (.var 2), I 0, I 0, U 1]], .inil, 1048576)
theorem p306_run : ranPure (evCall (cxX Tryd.prog bad bt1 [] []) 1000 60 65 p306.1 ⟨.lf, p306.2.2⟩) p306.2.1 = true := by kernel_rfl
theorem p306_ok (hL : L0 W0) (hk : Known2 σ bt1 []) : PureOk Tryd.prog 95 σ W0 65 p306 := pure_ok fit hk (FnsOk.nil) p306_run
noncomputable def p307 : Pur := ([.agg [I 5, .int .i64 (.var 3), I 0, I 0, U 1]], .inil, 1048576)
theorem p307_run : ranPure (evCall (cxX Tryd.prog bad bt1 [] []) 1000 60 65 p307.1 ⟨.lf, p307.2.2⟩) p307.2.1 = true := by kernel_rfl
theorem p307_ok (hL : L0 W0) (hk : Known2 σ bt1 []) : PureOk Tryd.prog 95 σ W0 65 p307 := pure_ok fit hk (FnsOk.nil) p307_run
noncomputable def p308 : Pur := ([.agg [I 5, .int .i64 (.var 4), I 0, I 0, U 1]], .inil, 1048576)
theorem p308_run : ranPure (evCall (cxX Tryd.prog bad bt1 [] []) 1000 60 65 p308.1 ⟨.lf, p308.2.2⟩) p308.2.1 = true := by kernel_rfl
theorem p308_ok (hL : L0 W0) (hk : Known2 σ bt1 []) : PureOk Tryd.prog 95 σ W0 65 p308 := pure_ok fit hk (FnsOk.nil) p308_run
noncomputable def p309 : Pur := ([.agg [I 5, .int .i64 (.var 5), I 0, I 0, U 1]], .inil, 1048576)
theorem p309_run : ranPure (evCall (cxX Tryd.prog bad bt1 [] []) 1000 60 65 p309.1 ⟨.lf, p309.2.2⟩) p309.2.1 = true := by kernel_rfl
theorem p309_ok (hL : L0 W0) (hk : Known2 σ bt1 []) : PureOk Tryd.prog 95 σ W0 65 p309 := pure_ok fit hk (FnsOk.nil) p309_run
noncomputable def p310 : Pur := ([.agg [I 5, .int .i64 (.var 6), I 0, I 0, U 1]], .inil, 1048576)
theorem p310_run : ranPure (evCall (cxX Tryd.prog bad bt1 [] []) 1000 60 65 p310.1 ⟨.lf, p310.2.2⟩) p310.2.1 = true := by kernel_rfl
theorem p310_ok (hL : L0 W0) (hk : Known2 σ bt1 []) : PureOk Tryd.prog 95 σ W0 65 p310 := pure_ok fit hk (FnsOk.nil) p310_run
noncomputable def p311 : Pur := ([.agg [I 5, .int .i64 (.var 2), I 0, I 0, U 2]], .inil, 1048576)
theorem p311_run : ranPure (evCall (cxX Tryd.prog bad bt1 [] []) 1000 60 65 p311.1 ⟨.lf, p311.2.2⟩) p311.2.1 = true := by kernel_rfl
theorem p311_ok (hL : L0 W0) (hk : Known2 σ bt1 []) : PureOk Tryd.prog 95 σ W0 65 p311 := pure_ok fit hk (FnsOk.nil) p311_run
noncomputable def p312 : Pur := ([.agg [I 5, .int .i64 (.var 3), I 0, I 0, U 2]], .inil, 1048576)
theorem p312_run : ranPure (evCall (cxX Tryd.prog bad bt1 [] []) 1000 60 65 p312.1 ⟨.lf, p312.2.2⟩) p312.2.1 = true := by kernel_rfl
theorem p312_ok (hL : L0 W0) (hk : Known2 σ bt1 []) : PureOk Tryd.prog 95 σ W0 65 p312 := pure_ok fit hk (FnsOk.nil) p312_run
noncomputable def p313 : Pur := ([.agg [I 5, .int .i64 (.var 4), I 0, I 0, U 2]], .inil, 1048576)
theorem p313_run : ranPure (evCall (cxX Tryd.prog bad bt1 [] []) 1000 60 65 p313.1 ⟨.lf, p313.2.2⟩) p313.2.1 = true := by kernel_rfl
theorem p313_ok (hL : L0 W0) (hk : Known2 σ bt1 []) : PureOk Tryd.prog 95 σ W0 65 p313 := pure_ok fit hk (FnsOk.nil) p313_run
noncomputable def p314 : Pur := ([.agg [I 5, .int .i64 (.var 5), I 0, I 0, U 2]], .inil, 1048576)
theorem p314_run : ranPure (evCall (cxX Tryd.prog bad bt1 [] []) 1000 60 65 p314.1 ⟨.lf, p314.2.2⟩) p314.2.1 = true := by kernel_rfl
theorem p314_ok (hL : L0 W0) (hk : Known2 σ bt1 []) : PureOk Tryd.prog 95 σ W0 65 p314 := pure_ok fit hk (FnsOk.nil) p314_run
noncomputable def p315 : Pur := ([.agg [I 5, .int .i64 (.var 6), I 0, I 0, U 2]], .inil, 1048576)
theorem p315_run : ranPure (evCall (cxX Tryd.prog bad bt1 [] []) 1000 60 65 p315.1 ⟨.lf, p315.2.2⟩) p315.2.1 = true := by kernel_rfl
theorem p315_ok (hL : L0 W0) (hk : Known2 σ bt1 []) : PureOk Tryd.prog 95 σ W0 65 p315 := pure_ok fit hk (FnsOk.nil) p315_run
noncomputable def p316 : Pur := ([.agg [I 5, .int .i64 (.var 2), I 0, I 0, U 3]], .inil, 1048576)
theorem p316_run : ranPure (evCall (cxX Tryd.prog bad bt1 [] []) 1000 60 65 p316.1 ⟨.lf, p316.2.2⟩) p316.2.1 = true := by kernel_rfl
theorem p316_ok (hL : L0 W0) (hk : Known2 σ bt1 []) : PureOk Tryd.prog 95 σ W0 65 p316 := pure_ok fit hk (FnsOk.nil) p316_run
noncomputable def p317 : Pur := ([.agg [I 5, .int .i64 (.var 3), I 0, I 0, U 3]], .inil, 1048576)
theorem p317_run : ranPure (evCall (cxX Tryd.prog bad bt1 [] []) 1000 60 65 p317.1 ⟨.lf, p317.2.2⟩) p317.2.1 = true := by kernel_rfl
theorem p317_ok (hL : L0 W0) (hk : Known2 σ bt1 []) : PureOk Tryd.prog 95 σ W0 65 p317 := pure_ok fit hk (FnsOk.nil) p317_run
noncomputable def p318 : Pur := ([.agg [I 5, .int .i64 (.var 4), I 0, I 0, U 3]], .inil, 1048576)
theorem p318_run : ranPure (evCall (cxX Tryd.prog bad bt1 [] []) 1000 60 65 p318.1 ⟨.lf, p318.2.2⟩) p318.2.1 = true := by kernel_rfl
theorem p318_ok (hL : L0 W0) (hk : Known2 σ bt1 []) : PureOk Tryd.prog 95 σ W0 65 p318 := pure_ok fit hk (FnsOk.nil) p318_run
noncomputable def p319 : Pur := ([.agg [I 5, .int .i64 (.var 5), I 0, I 0, U 3]], .inil, 1048576)
theorem p319_run : ranPure (evCall (cxX Tryd.prog bad bt1 [] []) 1000 60 65 p319.1 ⟨.lf, p319.2.2⟩) p319.2.1 = true := by kernel_rfl
theorem p319_ok (hL : L0 W0) (hk : Known2 σ bt1 []) : PureOk Tryd.prog 95 σ W0 65 p319 := pure_ok fit hk (FnsOk.nil) p319_run
noncomputable def p320 : Pur := ([.agg [I 5, .int .i64 (.var 6), I 0, I 0, U 3]], .inil, 1048576)
theorem p320_run : ranPure (evCall (cxX Tryd.prog bad bt1 [] []) 1000 60 65 p320.1 ⟨.lf, p320.2.2⟩) p320.2.1 = true := by kernel_rfl
theorem p320_ok (hL : L0 W0) (hk : Known2 σ bt1 []) : PureOk Tryd.prog 95 σ W0 65 p320 := pure_ok fit hk (FnsOk.nil) p320_run
noncomputable def p321 : Pur := ([.agg [I 5, .int .i64 (.var 2), I 0, I 0, U 4]], .inil, 1048576)
theorem p321_run : ranPure (evCall (cxX Tryd.prog bad bt1 [] []) 1000 60 65 p321.1 ⟨.lf, p321.2.2⟩) p321.2.1 = true := by kernel_rfl
theorem p321_ok (hL : L0 W0) (hk : Known2 σ bt1 []) : PureOk Tryd.prog 95 σ W0 65 p321 := pure_ok fit hk (FnsOk.nil) p321_run
noncomputable def p322 : Pur := ([.agg [I 5, .int .i64 (.var 3), I 0, I 0, U 4]], .inil, 1048576)
theorem p322_run : ranPure (evCall (cxX Tryd.prog bad bt1 [] []) 1000 60 65 p322.1 ⟨.lf, p322.2.2⟩) p322.2.1 = true := by kernel_rfl
theorem p322_ok (hL : L0 W0) (hk : Known2 σ bt1 []) : PureOk Tryd.prog 95 σ W0 65 p322 := pure_ok fit hk (FnsOk.nil) p322_run
noncomputable def p323 : Pur := ([.agg [I 5, .int .i64 (.var 4), I 0, I 0, U 4]], .inil, 1048576)
theorem p323_run : ranPure (evCall (cxX Tryd.prog bad bt1 [] []) 1000 60 65 p323.1 ⟨.lf, p323.2.2⟩) p323.2.1 = true := by kernel_rfl
theorem p323_ok (hL : L0 W0) (hk : Known2 σ bt1 []) : PureOk Tryd.prog 95 σ W0 65 p323 := pure_ok fit hk (FnsOk.nil) p323_run
noncomputable def p324 : Pur := ([.agg [I 5, .int .i64 (.var 5), I 0, I 0, U 4]], .inil, 1048576)
theorem p324_run : ranPure (evCall (cxX Tryd.prog bad bt1 [] []) 1000 60 65 p324.1 ⟨.lf, p324.2.2⟩) p324.2.1 = true := by kernel_rfl
theorem p324_ok (hL : L0 W0) (hk : Known2 σ bt1 []) : PureOk Tryd.prog 95 σ W0 65 p324 := pure_ok fit hk (FnsOk.nil) p324_run
noncomputable def p325 : Pur := ([.agg [I 5, .int .i64 (.var 6), I 0, I 0, U 4]], .inil, 1048576)
theorem p325_run : ranPure (evCall (cxX Tryd.prog bad bt1 [] []) 1000 60 65 p325.1 ⟨.lf, p325.2.2⟩) p325.2.1 = true := by kernel_rfl
theorem p325_ok (hL : L0 W0) (hk : Known2 σ bt1 []) : PureOk Tryd.prog 95 σ W0 65 p325 := pure_ok fit hk (FnsOk.nil) p325_run
noncomputable def y77 : List Sym := [s0, s7, s14, s1, s2, s3, s4, s5, s6, s8, s9, s10, s11, s12, s13, s21, s15, s16, s17, s18, s19, s20, s22, s23, s24, s25, s26, s27, s28, s29, s30, s31, s32, s33]
theorem y77_ok {W0 : World} (hL : L0 W0) : ∀ x ∈ y77, SymOk Tryd.prog 95 W0 47 x := all_cons (s0_ok hL) (all_cons (s7_ok hL) (all_cons (s14_ok hL) (all_cons (s1_ok hL) (all_cons (s2_ok hL) (all_cons (s3_ok hL) (all_cons (s4_ok hL) (all_cons (s5_ok hL) (all_cons (s6_ok hL) (all_cons (s8_ok hL) (all_cons (s9_ok hL) (all_cons (s10_ok hL) (all_cons (s11_ok hL) (all_cons (s12_ok hL) (all_cons (s13_ok hL) (all_cons (s21_ok hL) (all_cons (s15_ok hL) (all_cons (s16_ok hL) (all_cons (s17_ok hL) (all_cons (s18_ok hL) (all_cons (s19_ok hL) (all_cons (s20_ok hL) (all_cons (s22_ok hL) (all_cons (s23_ok hL) (all_cons (s24_ok hL) (all_cons (s25_ok hL) (all_cons (s26_ok hL) (all_cons (s27_ok hL) (all_cons (s28_ok hL) (all_cons (s29_ok hL) (all_cons (s30_ok hL) (all_cons (s31_ok hL) (all_cons (s32_ok hL) (all_cons (s33_ok hL) (all_nil))))))))))))))))))))))))))))))))))
noncomputable def q78 : Fns := [(10, pureFn [p0]), (6, frameFn [m300])]
theorem q78_ok (hL : L0 W0) : FnsOk Tryd.prog 95 σ W0 q78 := FnsOk.cons (pure_fn_ok (all_cons (p0_ok hL) (all_nil))) (FnsOk.cons (frame_fn_ok (all_cons (m300_ok hL) (all_nil))) (FnsOk.nil))
theorem case42 : CaseR (rowH (sentH 225 12 errTab) [.int .i64 (.var 8), .int .i64 (.var 9), .int .i64 (.var 10), .int .i64 (.var 11), .int .i64 (.var 12)]) bt1 [] [(0, 5, .lit 4), (8, 5, .var 2), (9, 5, .var 3), (10, 5, .var 4), (11, 5, .var 5), (12, 5, .var 6)] [.int .i64 (.var 0), .slice 18 0 5 5 1 false, .int .u32 (.var 1)] := caseR (fun hL hk hT => FnsOk.cons (hT.ok fit) (FnsOk.cons (pure_fn_ok (all_cons (p6_ok hL) (all_cons (p7_ok hL) (all_cons (p8_ok hL) (all_cons (p9_ok hL) (all_cons (p10_ok hL) (all_cons (p11_ok hL) (all_cons (p301_ok hL hk) (all_cons (p302_ok hL hk) (all_cons (p303_ok hL hk) (all_cons (p304_ok hL hk) (all_cons (p305_ok hL hk) (all_cons (p4_ok hL) (all_cons (p5_ok hL) (all_cons (p23_ok hL) (all_cons (p306_ok hL hk) (all_cons (p307_ok hL hk) (all_cons (p308_ok hL hk) (all_cons (p309_ok hL hk) (all_cons (p310_ok hL hk) (all_cons (p22_ok hL) (all_cons (p76_ok hL) (all_cons (p311_ok hL hk) (all_cons (p312_ok hL hk) (all_cons (p313_ok hL hk) (all_cons (p314_ok hL hk) (all_cons (p315_ok hL hk) (all_cons (p75_ok hL) (all_cons (p150_ok hL) (all_cons (p316_ok hL hk) (all_cons (p317_ok hL hk) (all_cons (p318_ok hL hk) (all_cons (p319_ok hL hk) (all_cons (p320_ok hL hk) (all_cons (p149_ok hL) (all_cons (p245_ok hL) (all_cons (p321_ok hL hk) (all_cons (p322_ok hL hk) (all_cons (p323_ok hL hk) (all_cons (p324_ok hL hk) (all_cons (p325_ok hL hk) (all_cons (p244_ok hL) (all_nil))))))))))))))))))))))))))))))))))))))))))) (FnsOk.cons (sym_fn_ok (Γ := cxX Tryd.prog bad bt1 [] []) (fix := 18) ⟨hk.rng, hk.facts⟩ (by decide) (y77_ok hL)) ((q78_ok hL))))) (by kernel_rfl : isTrue (evCall (cxX Tryd.prog bad bt1 [] ((11, numExtE [(0, 5, .lit 4), (8, 5, .var 2), (9, 5, .var 3), (10, 5, .var 4), (11, 5, .var 5), (12, 5, .var 6)]) :: (65, pureFn [p6, p7, p8, p9, p10, p11, p301, p302, p303, p304, p305, p4, p5, p23, p306, p307, p308, p309, p310, p22, p76, p311, p312, p313, p314, p315, p75, p150, p316, p317, p318, p319, p320, p149, p245, p321, p322, p323, p324, p325, p244]) :: (47, symFn (cxX Tryd.prog bad bt1 [] []) 18 y77) :: q78)) 1000 60 4 [.int .i64 (.var 0), .slice 18 0 5 5 1 false, .int .u32 (.var 1)] (rowH (sentH 225 12 errTab) [.int .i64 (.var 8), .int .i64 (.var 9), .int .i64 (.var 10), .int .i64 (.var 11), .int .i64 (.var 12)])) = true)
noncomputable def h79 : H := hUpd h47 431 [] [] []
noncomputable def h80 : H := hUpd h47 486 [] [(446, .cells 3 ([[.ptr 444 0, .slice 445 0 8 8 107 true, .slice 470 0 8 8 1 false]]) false),
  (478, .map [] 0),
  (462, .cells 1 ([[.snil]]) false),
  (438, .cells 32 (rp 24 (rp 32 (U 0) ([])) ([])) false),
  (470, .cells 1 ([[.ptr 447 0], [.ptr 450 0], [.ptr 453 0], [.ptr 456 0], [.ptr 459 0], [.ptr 462 0], [.ptr 465 0], [.ptr 468 0]]) false),
  (442, .cells 3 ([[.ptr 440 0, I 16, .ptr 441 0]]) false),
  (474, .cells 2 ([[.ptr 472 0, .slice 473 0 12 12 2 true]]) false),
  (434, .cells 80 (rp 16 (rp 4 (I 0) ((U 0) :: rp 4 (I 0) ((U 0) :: rp 4 (I 0) ((U 0) :: rp 4 (I 0) ((U 0) :: rp 4 (I 0) ((U 0) :: rp 4 (I 0) ((U 0) :: rp 4 (I 0) ((U 0) :: rp 4 (I 0) ((U 0) :: rp 4 (I 0) ((U 0) :: rp 4 (I 0) ((U 0) :: rp 4 (I 0) ((U 0) :: rp 4 (I 0) ((U 0) :: rp 4 (I 0) ((U 0) :: rp 4 (I 0) ((U 0) :: rp 4 (I 0) ((U 0) :: rp 4 (I 0) ([U 0]))))))))))))))))) ([])) false),
  (482, .cells 31 (rp 6 ((bF) :: rp 4 (I 0) ((U 0) :: rp 4 (I 0) ((U 0) :: rp 4 (I 0) ((U 0) :: rp 4 (I 0) ((U 0) :: rp 4 (I 0) ((U 0) :: rp 4 (I 0) ([U 0]))))))) ([])) false),
  (450, .cells 1 ([[.snil]]) false),
  (444, .cells 1 ([[.slice 443 0 8 8 3 true]]) false),
  (476, .cells 1 ([[.slice 475 0 8 8 3 true]]) false),
  (436, .cells 3 (rp 24 ([bF, I 0, bF]) ([])) false),
  (468, .cells 1 ([[.snil]]) false),
  (484, .cells 1 ([[.snil]]) false),
  (440, .cells 2 ([[.ptr 435 0, .ptr 439 0]]) false),
  (472, .cells 1 ([[.slice 471 0 12 12 3 true]]) false),
  (456, .cells 1 ([[.snil]]) false),
  (432, .cells 3 (rp 16 ([bF, I 0, bF]) ([])) false),
  (480, .cells 3 (rp 6 ([bF, I 0, bF]) ([])) false),
  (445, .cells 107 (rp 8 (rp 9 (U 0) (rp 6 (I 0) ((U 0) :: rp 4 (I 0) ((U 0) :: rp 4 (I 0) ((U 0) :: rp 4 (I 0) ((U 0) :: rp 4 (I 0) ((U 0) :: rp 4 (I 0) ((U 0) :: rp 4 (I 0) ((U 0) :: rp 4 (I 0) ((U 0) :: rp 4 (I 0) ((U 0) :: rp 4 (I 0) ((U 0) :: rp 4 (I 0) ((U 0) :: rp 4 (I 0) ((U 0) :: rp 4 (I 0) ((U 0) :: rp 4 (I 0) ((U 0) :: rp 4 (I 0) ((U 0) :: rp 4 (I 0) ((U 0) :: rp 4 (I 0) ((U 0) :: rp 4 (I 0) ((U 0) :: rp 4 (I 0) ([U 0, I 0]))))))))))))))))))))) ([])) false),
  (477, .cells 3 (rp 8 ([I 0, I 0, I 0]) ([])) false),
  (437, .cells 1 ([[.slice 436 0 24 24 3 true]]) false),
  (485, .cells 9 ([[.ptr 442 0, .ptr 446 0, .ptr 474 0, .ptr 479 0, .ptr 483 0, .ptr 484 0, .snil, .snil, I 0]]) false),
  (453, .cells 1 ([[.snil]]) false),
  (441, .cells 3 ([[I 16, .snil, I 0]]) false),
  (473, .cells 2 (rp 12 ([I 0, I 0]) ([])) false),
  (433, .cells 1 ([[.slice 432 0 16 16 3 true]]) false),
  (465, .cells 1 ([[.snil]]) false),
  (481, .cells 1 ([[.slice 480 0 6 6 3 true]]) false),
  (443, .cells 3 (rp 8 ([bF, I 0, bF]) ([])) false),
  (475, .cells 3 (rp 8 ([bF, I 0, bF]) ([])) false),
  (459, .cells 1 ([[.snil]]) false),
  (435, .cells 2 ([[.ptr 433 0, .slice 434 0 16 16 80 true]]) false),
  (483, .cells 2 ([[.ptr 481 0, .slice 482 0 6 6 31 true]]) false),
  (439, .cells 2 ([[.ptr 437 0, .slice 438 0 24 24 32 true]]) false),
  (471, .cells 3 (rp 12 ([bF, I 0, bF]) ([])) false),
  (479, .cells 5 ([[.ptr 476 0, .slice 477 0 8 8 3 true, .map 478, .ptr 442 0, .ptr 446 0]]) false),
  (447, .cells 1 ([[.snil]]) false)] []
noncomputable def m326 : Memo := ⟨[.agg [I 16, I 24, I 8, I 12, I 8, I 6]], h79, .tuple [.ptr 485 0, .inil], h80⟩
theorem m326_run : ranTo (evCall (cxX Tryd.prog bad [] [] []) 1000 60 6 m326.args m326.h) m326.v m326.h' = true := by kernel_rfl
theorem m326_ok (hL : L0 W0) : MemoOk Tryd.prog 95 σ W0 6 m326 := memo_ok fit (Known2.nil σ) (FnsOk.nil) m326_run
noncomputable def s34 : Sym := ⟨[.ptr 18 0, .agg [.slice 19 0 1 1 1 true, I 14, .slice 20 0 6 6 1 false, bT]], h70, [18, 21, 24, 27, 39, 40, 53, 56, 57, 23, 32, 35, 50, 55, 22, 29, 36, 41, 58, 33, 34, 54, 19, 30, 51, 14, 6, 12, 16, 4, 2, 13, 17, 15, 3, 1, 0], bt3,
  [(false, .sub (.lit 60) (.var 56), .lit 1, false), (false, .sub (.lit 60) (.add (.var 56) (.lit 1)), .lit 1, false), (false, .sub (.lit 60) (.add (.var 56) (.lit 2)), .lit 1, false), (false, .sub (.lit 60) (.add (.var 56) (.lit 3)), .lit 1, false)],
  .tuple [I 4, .inil],
  [.cel 30 4 9 (I 1),
  .cel 30 4 11 (I 8),
  .cel 30 4 16 (I 7),
  .cel 30 4 17 (I 5),
  .cel 30 4 21 (I 11),
  .cel 30 4 26 (I 12),
  .cel 30 4 31 (I 13),
  .cel 30 4 36 (I 14),
  .cel 30 4 91 (I 2),
  .cel 30 4 92 (I 4),
  .cel 30 4 95 (U 1),
  .cel 30 4 96 (I 7),
  .cel 30 4 97 (I 5),
  .row 33 5 ([I 0, I 14]),
  .row 35 0 ([IZ (-1), I 60, .int .i64 (.add (.var 56) (.lit 4))]),
  .set 36 (.map [(.agg [I 3, I 0], .agg [I 0, I 0], 0), (.agg [I 3, I 1], .agg [I 0, I 0], 1), (.agg [I 2, I 0], .agg [I 0, I 0], 2), (.agg [I 4, I 0], .agg [I 0, I 0], 3), (.agg [I 3, I 2], .agg [I 0, I 0], 4), (.agg [I 3, I 3], .agg [I 0, I 0], 5), (.agg [I 2, I 1], .agg [I 0, I 0], 6), (.agg [I 4, I 1], .agg [I 0, I 0], 7), (.agg [I 3, I 4], .agg [I 0, I 0], 8), (.agg [I 3, I 5], .agg [I 0, I 0], 9), (.agg [I 2, I 2], .agg [I 0, I 0], 10), (.agg [I 4, I 2], .agg [I 0, I 0], 11), (.agg [I 3, I 6], .agg [I 0, I 0], 12), (.agg [I 3, I 7], .agg [I 0, I 0], 13), (.agg [I 2, I 3], .agg [I 0, I 0], 14), (.agg [I 4, I 3], .agg [I 0, I 0], 15), (.agg [I 3, I 8], .agg [I 0, I 0], 16), (.agg [I 3, I 9], .agg [I 0, I 0], 17), (.agg [I 2, I 4], .agg [I 0, I 0], 18), (.agg [I 4, I 4], .agg [I 0, I 0], 19)] 20),
  .row 41 4 ([bT, I 0, bF]),
  .row 50 5 ([bT, I 0, bF]),
  .cel 54 4 0 (I 3),
  .cel 54 4 1 (I 8),
  .cel 54 4 5 (I 3),
  .cel 54 4 6 (I 9),
  .cel 56 8 0 (.int .u32 (.var 0)),
  .row 57 4 ([bT, I 0, bF]),
  .row 58 8 ([bT, I 0, bF]),
  .row 58 9 ([bT, I 0, bF])], 534⟩
theorem s34_run : ranTo (evCall (cxX Tryd.prog bad s34.rng s34.facts [(65, pureFn l65)]) 1000 60 47 s34.args s34.pre) s34.v s34.post = true := by kernel_rfl
theorem s34_ok {W0 : World} (hL : L0 W0) : SymOk Tryd.prog 95 W0 47 s34 := sym_ok fit (fun σ hk => FnsOk.cons (pure_fn_ok (l65_ok hL)) (FnsOk.nil)) s34_run (by kernel_rfl)
noncomputable def p327 : Pur := ([.agg [I 5, .int .i64 (.var 2), I 0, I 0, U 0]], .inil, 1048576)
theorem p327_run : ranPure (evCall (cxX Tryd.prog bad bt0 [] []) 1000 60 65 p327.1 ⟨.lf, p327.2.2⟩) p327.2.1 = true := by kernel_rfl
theorem p327_ok (hL : L0 W0) (hk : Known2 σ bt0 []) : PureOk Tryd.prog 95 σ W0 65 p327 := pure_ok fit hk (FnsOk.nil) p327_run
noncomputable def p328 : Pur := ([.agg [I 5, .int .i64 (.var 3), I 0, I 0, U 0]], .inil, 1048576)
theorem p328_run : ranPure (evCall (cxX Tryd.prog bad bt0 [] []) 1000 60 65 p328.1 ⟨.lf, p328.2.2⟩) p328.2.1 = true := by kernel_rfl
theorem p328_ok (hL : L0 W0) (hk : Known2 σ bt0 []) : PureOk Tryd.prog 95 σ W0 65 p328 := pure_ok fit hk (FnsOk.nil) p328_run
noncomputable def p329 : Pur := ([.agg [I 5, .int .i64 (.var 4), I 0, I 0, U 0]], .inil, 1048576)
theorem p329_run : ranPure (evCall (cxX Tryd.prog bad bt0 [] []) 1000 60 65 p329.1 ⟨.lf, p329.2.2⟩) p329.2.1 = true := by kernel_rfl
theorem p329_ok (hL : L0 W0) (hk : Known2 σ bt0 []) : PureOk Tryd.prog 95 σ W0 65 p329 := pure_ok fit hk (FnsOk.nil) p329_run
noncomputable def p330 : Pur := ([.agg [I 5, .int .i64 (.var 5), I 0, I 0, U 0]], .inil, 1048576)
theorem p330_run : ranPure (evCall (cxX Tryd.prog bad bt0 [] []) 1000 60 65 p330.1 ⟨.lf, p330.2.2⟩) p330.2.1 = true := by kernel_rfl
theorem p330_ok (hL : L0 W0) (hk : Known2 σ bt0 []) : PureOk Tryd.prog 95 σ W0 65 p330 := pure_ok fit hk (FnsOk.nil) p330_run
noncomputable def p331 : Pur := ([.agg [I 5, .int .i64 (.var 6), I 0, I 0, U 0]], .inil, 1048576)
theorem p331_run : ranPure (evCall (cxX Tryd.prog bad bt0 [] []) 1000 60 65 p331.1 ⟨.lf, p331.2.2⟩) p331.2.1 = true := by kernel_rfl
theorem p331_ok (hL : L0 W0) (hk : Known2 σ bt0 []) : PureOk Tryd.prog 95 σ W0 65 p331 := pure_ok fit hk (FnsOk.nil) p331_run
noncomputable def p332 : Pur := ([.agg [I 5, .int .i64 (.var 7), I 0, I 0, U 0]], .inil, 1048576)
theorem p332_run : ranPure (evCall (cxX Tryd.prog bad bt0 [] []) 1000 60 65 p332.1 ⟨.lf, p332.2.2⟩) p332.2.1 = true := by kernel_rfl
theorem p332_ok (hL : L0 W0) (hk : Known2 σ bt0 []) : PureOk Tryd.prog 95 σ W0 65 p332 := pure_ok fit hk (FnsOk.nil) p332_run
noncomputable def p333 : Pur := ([.agg [I 5, .int .i64 (.var 2), I 0, I 0, U 1]], .inil, 1048576)
theorem p333_run : ranPure (evCall (cxX Tryd.prog bad bt0 [] []) 1000 60 65 p333.1 ⟨.lf, p333.2.2⟩) p333.2.1 = true := by kernel_rfl
theorem p333_ok (hL : L0 W0) (hk : Known2 σ bt0 []) : PureOk Tryd.prog 95 σ W0 65 p333 := pure_ok fit hk (FnsOk.nil) p333_run
noncomputable def p334 : Pur := ([.agg [I 5, .int .i64 (.var 3), I 0, I 0, U 1]], .inil, 1048576)
theorem p334_run : ranPure (evCall (cxX Tryd.prog bad bt0 [] []) 1000 60 65 p334.1 ⟨.lf, p334.2.2⟩) p334.2.1 = true := by kernel_rfl
theorem p334_ok (hL : L0 W0) (hk : Known2 σ bt0 []) : PureOk Tryd.prog 95 σ W0 65 p334 := pure_ok fit hk (FnsOk.nil) p334_run
noncomputable def p335 : Pur := ([.agg [I 5, .int .i64 (.var 4), I 0, I 0, U 1]], .inil, 1048576)
theorem p335_run : ranPure (evCall (cxX Tryd.prog bad bt0 [] []) 1000 60 65 p335.1 ⟨.lf, p335.2.2⟩) p335.2.1 = true := by kernel_rfl
theorem p335_ok (hL : L0 W0) (hk : Known2 σ bt0 []) : PureOk Tryd.prog 95 σ W0 65 p335 := pure_ok fit hk (FnsOk.nil) p335_run
noncomputable def p336 : Pur := ([.agg [I 5, .int .i64 (.var 5), I 0, I 0, U 1]], .inil, 1048576)
theorem p336_run : ranPure (evCall (cxX Tryd.prog bad bt0 [] []) 1000 60 65 p336.1 ⟨.lf, p336.2.2⟩) p336.2.1 = true := by kernel_rfl
theorem p336_ok (hL : L0 W0) (hk : Known2 σ bt0 []) : PureOk Tryd.prog 95 σ W0 65 p336 := pure_ok fit hk (FnsOk.nil) p336_run
noncomputable def p337 : Pur := ([.agg [I 5, .int .i64 (.var 6), I 0, I 0, U 1]], .inil, 1048576)
theorem p337_run : ranPure (evCall (cxX Tryd.prog bad bt0 [] []) 1000 60 65 p337.1 ⟨.lf, p337.2.2⟩) p337.2.1 = true := by kernel_rfl
theorem p337_ok (hL : L0 W0) (hk : Known2 σ bt0 []) : PureOk Tryd.prog 95 σ W0 65 p337 := pure_ok fit hk (FnsOk.nil) p337_run
noncomputable def p338 : Pur := ([.agg [I 5, .int .i64 (.var 7), I 0, I 0, U 1]], .inil, 1048576)
theorem p338_run : ranPure (evCall (cxX Tryd.prog bad bt0 [] []) 1000 60 65 p338.1 ⟨.lf, p338.2.2⟩) p338.2.1 = true := by kernel_rfl
theorem p338_ok (hL : L0 W0) (hk : Known2 σ bt0 []) : PureOk Tryd.prog 95 σ W0 65 p338 := pure_ok fit hk (FnsOk.nil) p338_run
noncomputable def p339 : Pur := ([.agg [I 5, .int .i64 (.var 2), I 0, I 0, U 2]], .inil, 1048576)
theorem p339_run : ranPure (evCall (cxX Tryd.prog bad bt0 [] []) 1000 60 65 p339.1 ⟨.lf, p339.2.2⟩) p339.2.1 = true := by kernel_rfl
theorem p339_ok (hL : L0 W0) (hk : Known2 σ bt0 []) : PureOk Tryd.prog 95 σ W0 65 p339 := pure_ok fit hk (FnsOk.nil) p339_run
noncomputable def p340 : Pur := ([.agg [I 5, .int .i64 (.var 3), I 0, I 0, U 2]], .inil, 1048576)
theorem p340_run : ranPure (evCall (cxX Tryd.prog bad bt0 [] []) 1000 60 65 p340.1 ⟨.lf, p340.2.2⟩) p340.2.1 = true := by kernel_rfl
theorem p340_ok (hL : L0 W0) (hk : Known2 σ bt0 []) : PureOk Tryd.prog 95 σ W0 65 p340 := pure_ok fit hk (FnsOk.nil) p340_run
noncomputable def p341 : Pur := ([.agg [I 5, .int .i64 (.var 4), I 0, I 0, U 2]], .inil, 1048576)
theorem p341_run : ranPure (evCall (cxX Tryd.prog bad bt0 [] []) 1000 60 65 p341.1 ⟨.lf, p341.2.2⟩) p341.2.1 = true := by kernel_rfl
theorem p341_ok (hL : L0 W0) (hk : Known2 σ bt0 []) : PureOk Tryd.prog 95 σ W0 65 p341 := pure_ok fit hk (FnsOk.nil) p341_run
noncomputable def p342 : Pur := ([.agg [I 5, .int .i64 (.var 5), I 0, I 0, U 2]], .inil, 1048576)
theorem p342_run : ranPure (evCall (cxX Tryd.prog bad bt0 [] []) 1000 60 65 p342.1 ⟨.lf, p342.2.2⟩) p342.2.1 = true := by kernel_rfl
theorem p342_ok (hL : L0 W0) (hk : Known2 σ bt0 []) : PureOk Tryd.prog 95 σ W0 65 p342 := pure_ok fit hk (FnsOk.nil) p342_run
noncomputable def p343 : Pur := ([.agg [I 5, .int .i64 (.var 6), I 0, I 0, U 2]], .inil, 1048576)
theorem p343_run : ranPure (evCall (cxX Tryd.prog bad bt0 [] []) 1000 60 65 p343.1 ⟨.lf, p343.2.2⟩) p343.2.1 = true := by kernel_rfl
theorem p343_ok (hL : L0 W0) (hk : Known2 σ bt0 []) : PureOk Tryd.prog 95 σ W0 65 p343 := pure_ok fit hk (FnsOk.nil) p343_run
noncomputable def p344 : Pur := ([.agg [I 5, .int .i64 (.var 7), I 0, I 0, U 2]], .inil, 1048576)
theorem p344_run : ranPure (evCall (cxX Tryd.prog bad bt0 [] []) 1000 60 65 p344.1 ⟨.lf, p344.2.2⟩) p344.2.1 = true := by kernel_rfl
theorem p344_ok (hL : L0 W0) (hk : Known2 σ bt0 []) : PureOk Tryd.prog 95 σ W0 65 p344 := pure_ok fit hk (FnsOk.nil) p344_run
noncomputable def p345 : Pur := ([.agg [I 5, .int .i64 (.var 2), I 0, I 0, U 3]], .inil, 1048576)
theorem p345_run : ranPure (evCall (cxX Tryd.prog bad bt0 [] []) 1000 60 65 p345.1 ⟨.lf, p345.2.2⟩) p345.2.1 = true := by kernel_rfl
theorem p345_ok (hL : L0 W0) (hk : Known2 σ bt0 []) : PureOk Tryd.prog 95 σ W0 65 p345 := pure_ok fit hk (FnsOk.nil) p345_run
noncomputable def p346 : Pur := ([.agg [I 5, .int .i64 (.var 3), I 0, I 0, U 3]], .inil, 1048576)
theorem p346_run : ranPure (evCall (cxX Tryd.prog bad bt0 [] []) 1000 60 65 p346.1 ⟨.lf, p346.2.2⟩) p346.2.1 = true := by kernel_rfl
theorem p346_ok (hL : L0 W0) (hk : Known2 σ bt0 []) : PureOk Tryd.prog 95 σ W0 65 p346 := pure_ok fit hk (FnsOk.nil) p346_run
noncomputable def p347 : Pur := ([.agg [I 5, .int .i64 (.var 4), I 0, I 0, U 3]], .inil, 1048576)
theorem p347_run : ranPure (evCall (cxX Tryd.prog bad bt0 [] []) 1000 60 65 p347.1 ⟨.lf, p347.2.2⟩) p347.2.1 = true := by kernel_rfl
theorem p347_ok (hL : L0 W0) (hk : Known2 σ bt0 []) : PureOk Tryd.prog 95 σ W0 65 p347 := pure_ok fit hk (FnsOk.nil) p347_run
noncomputable def p348 : Pur := ([.agg [I 5, .int .i64 (.var 5), I 0, I 0, U 3]], .inil, 1048576)
theorem p348_run : ranPure (evCall (cxX Tryd.prog bad bt0 [] []) 1000 60 65 p348.1 ⟨.lf, p348.2.2⟩) p348.2.1 = true := by kernel_rfl
theorem p348_ok (hL : L0 W0) (hk : Known2 σ bt0 []) : PureOk Tryd.prog 95 σ W0 65 p348 := pure_ok fit hk (FnsOk.nil) p348_run
noncomputable def p349 : Pur := ([.agg [I 5, .int .i64 (.var 6), I 0, I 0, U 3]], .inil, 1048576)
theorem p349_run : ranPure (evCall (cxX Tryd.prog bad bt0 [] []) 1000 60 65 p349.1 ⟨.lf, p349.2.2⟩) p349.2.1 = true := by kernel_rfl
theorem p349_ok (hL : L0 W0) (hk : Known2 σ bt0 []) : PureOk Tryd.prog 95 σ W0 65 p349 := pure_ok fit hk (FnsOk.nil) p349_run
noncomputable def p350 : Pur := ([.agg [I 5, .int .i64 (.var 7), I 0, I 0, U 3]], .inil, 1048576)
theorem p350_run : ranPure (evCall (cxX Tryd.prog bad bt0 [] []) 1000 60 65 p350.1 ⟨.lf, p350.2.2⟩) p350.2.1 = true := by kernel_rfl
theorem p350_ok (hL : L0 W0) (hk : Known2 σ bt0 []) : PureOk Tryd.prog 95 σ W0 65 p350 := pure_ok fit hk (FnsOk.nil) p350_run
noncomputable def p351 : Pur := ([.agg [I 5, .int .i64 (.var 2), I 0, I 0, U 4]], .inil, 1048576)
theorem p351_run : ranPure (evCall (cxX Tryd.prog bad bt0 [] []) 1000 60 65 p351.1 ⟨.lf, p351.2.2⟩) p351.2.1 = true := by kernel_rfl
theorem p351_ok (hL : L0 W0) (hk : Known2 σ bt0 []) : PureOk Tryd.prog 95 σ W0 65 p351 := pure_ok fit hk (FnsOk.nil) p351_run
noncomputable def p352 : Pur := ([.agg [I 5, .int .i64 (.var 3), I 0, I 0, U 4]], .inil, 1048576)
theorem p352_run : ranPure (evCall (cxX Tryd.prog bad bt0 [] []) 1000 60 65 p352.1 ⟨.lf, p352.2.2⟩) p352.2.1 = true := by kernel_rfl
theorem p352_ok (hL : L0 W0) (hk : Known2 σ bt0 []) : PureOk Tryd.prog 95 σ W0 65 p352 := pure_ok fit hk (FnsOk.nil) p352_run
noncomputable def p353 : Pur := ([.agg [I 5, .int .i64 (.var 4), I 0, I 0, U 4]], .inil, 1048576)
theorem p353_run : ranPure (evCall (cxX Tryd.prog bad bt0 [] []) 1000 60 65 p353.1 ⟨.lf, p353.2.2⟩) p353.2.1 = true := by kernel_rfl
theorem p353_ok (hL : L0 W0) (hk : Known2 σ bt0 []) : PureOk Tryd.prog 95 σ W0 65 p353 := pure_ok fit hk (FnsOk.nil) p353_run
noncomputable def p354 : Pur := ([.agg [I 5, .int .i64 (.var 5), I 0, I 0, U 4]], .inil, 1048576)
theorem p354_run : ranPure (evCall (cxX Tryd.prog bad bt0 [] []) 1000 60 65 p354.1 ⟨.lf, p354.2.2⟩) p354.2.1 = true := by kernel_rfl
theorem p354_ok (hL : L0 W0) (hk : Known2 σ bt0 []) : PureOk Tryd.prog 95 σ W0 65 p354 := pure_ok fit hk (FnsOk.nil) p354_run
noncomputable def p355 : Pur := ([.agg [I 5, .int .i64 (.var 6), I 0, I 0, U 4]], .inil, 1048576)
theorem p355_run : ranPure (evCall (cxX Tryd.prog bad bt0 [] []) 1000 60 65 p355.1 ⟨.lf, p355.2.2⟩) p355.2.1 = true := by kernel_rfl
theorem p355_ok (hL : L0 W0) (hk : Known2 σ bt0 []) : PureOk Tryd.prog 95 σ W0 65 p355 := pure_ok fit hk (FnsOk.nil) p355_run
noncomputable def p356 : Pur := ([.agg [I 5, .int .i64 (.var 7), I 0, I 0, U 4]], .inil, 1048576)
theorem p356_run : ranPure (evCall (cxX Tryd.prog bad bt0 [] []) 1000 60 65 p356.1 ⟨.lf, p356.2.2⟩) p356.2.1 = true := by kernel_rfl
theorem p356_ok (hL : L0 W0) (hk : Known2 σ bt0 []) : PureOk Tryd.prog 95 σ W0 65 p356 := pure_ok fit hk (FnsOk.nil) p356_run
noncomputable def y79 : List Sym := [s0, s7, s14, s1, s2, s3, s4, s5, s6, s8, s9, s10, s11, s12, s13, s21, s15, s16, s17, s18, s19, s20, s22, s23, s24, s25, s26, s27, s28, s29, s30, s31, s32, s33, s34]
theorem y79_ok {W0 : World} (hL : L0 W0) : ∀ x ∈ y79, SymOk Tryd.prog 95 W0 47 x := all_cons (s0_ok hL) (all_cons (s7_ok hL) (all_cons (s14_ok hL) (all_cons (s1_ok hL) (all_cons (s2_ok hL) (all_cons (s3_ok hL) (all_cons (s4_ok hL) (all_cons (s5_ok hL) (all_cons (s6_ok hL) (all_cons (s8_ok hL) (all_cons (s9_ok hL) (all_cons (s10_ok hL) (all_cons (s11_ok hL) (all_cons (s12_ok hL) (all_cons (s13_ok hL) (all_cons (s21_ok hL) (all_cons (s15_ok hL) (all_cons (s16_ok hL) (all_cons (s17_ok hL) (all_cons (s18_ok hL) (all_cons (s19_ok hL) (all_cons (s20_ok hL) (all_cons (s22_ok hL) (all_cons (s23_ok hL) (all_cons (s24_ok hL) (all_cons (s25_ok hL) (all_cons (s26_ok hL) (all_cons (s27_ok hL) (all_cons (s28_ok hL) (all_cons (s29_ok hL) (all_cons (s30_ok hL) (all_cons (s31_ok hL) (all_cons (s32_ok hL) (all_cons (s33_ok hL) (all_cons (s34_ok hL) (all_nil)))))))))))))))))))))))))))))))))))
noncomputable def q80 : Fns := [(10, pureFn [p0]), (6, frameFn [m326])]
theorem q80_ok (hL : L0 W0) : FnsOk Tryd.prog 95 σ W0 q80 := FnsOk.cons (pure_fn_ok (all_cons (p0_ok hL) (all_nil))) (FnsOk.cons (frame_fn_ok (all_cons (m326_ok hL) (all_nil))) (FnsOk.nil))
theorem case43 : CaseR (rowH (sentH 225 12 errTab) [.int .i64 (.var 8), .int .i64 (.var 9), .int .i64 (.var 10), .int .i64 (.var 11), .int .i64 (.var 12), .int .i64 (.var 13)]) bt0 [] [(0, 5, .lit 4), (8, 5, .var 2), (9, 5, .var 3), (10, 5, .var 4), (11, 5, .var 5), (12, 5, .var 6), (13, 5, .var 7)] [.int .i64 (.var 0), .slice 18 0 6 6 1 false, .int .u32 (.var 1)] := caseR (fun hL hk hT => FnsOk.cons (hT.ok fit) (FnsOk.cons (pure_fn_ok (all_cons (p6_ok hL) (all_cons (p7_ok hL) (all_cons (p8_ok hL) (all_cons (p9_ok hL) (all_cons (p10_ok hL) (all_cons (p11_ok hL) (all_cons (p327_ok hL hk) (all_cons (p328_ok hL hk) (all_cons (p329_ok hL hk) (all_cons (p330_ok hL hk) (all_cons (p331_ok hL hk) (all_cons (p332_ok hL hk) (all_cons (p4_ok hL) (all_cons (p5_ok hL) (all_cons (p23_ok hL) (all_cons (p333_ok hL hk) (all_cons (p334_ok hL hk) (all_cons (p335_ok hL hk) (all_cons (p336_ok hL hk) (all_cons (p337_ok hL hk) (all_cons (p338_ok hL hk) (all_cons (p22_ok hL) (all_cons (p76_ok hL) (all_cons (p339_ok hL hk) (all_cons (p340_ok hL hk) (all_cons (p341_ok hL hk) (all_cons (p342_ok hL hk) (all_cons (p343_ok hL hk) (all_cons (p344_ok hL hk) (all_cons (p75_ok hL) (all_cons (p150_ok hL) (all_cons (p345_ok hL hk) (all_cons (p346_ok hL hk) (all_cons (p347_ok hL hk) (all_cons (p348_ok hL hk) (all_cons (p349_ok hL hk) (all_cons (p350_ok hL hk) (all_cons (p149_ok hL) (all_cons (p245_ok hL) (all_cons (p351_ok hL hk) (all_cons (p352_ok hL hk) (all_cons (p353_ok hL hk) (all_cons (p354_ok hL hk) (all_cons (p355_ok hL hk) (all_cons (p356_ok hL hk) (all_cons (p244_ok hL) (all_nil)))))))))))))))))))))))))))))))))))))))))))))))) (FnsOk.cons (sym_fn_ok (Γ := cxX Tryd.prog bad bt0 [] []) (fix := 18) ⟨hk.rng, hk.facts⟩ (by decide) (y79_ok hL)) ((q80_ok hL))))) (by kernel_rfl : isTrue (evCall (cxX Tryd.prog bad bt0 [] ((11, numExtE [(0, 5, .lit 4), (8, 5, .var 2), (9, 5, .var 3), (10, 5, .var 4), (11, 5, .var 5), (12, 5, .var 6), (13, 5, .var 7)]) :: (65, pureFn [p6, p7, p8, p9, p10, p11, p327, p328, p329, p330, p331, p332, p4, p5, p23, p333, p334, p335, p336, p337, p338, p22, p76, p339, p340, p341, p342, p343, p344, p75, p150, p345, p346, p347, p348, p349, p350, p149, p245, p351, p352, p353, p354, p355, p356, p244]) :: (47, symFn (cxX Tryd.prog bad bt0 [] []) 18 y79) :: q80)) 1000 60 4 [.int .i64 (.var 0), .slice 18 0 6 6 1 false, .int .u32 (.var 1)] (rowH (sentH 225 12 errTab) [.int .i64 (.var 8), .int .i64 (.var 9), .int .i64 (.var 10), .int .i64 (.var 11), .int .i64 (.var 12), .int .i64 (.var 13)])) = true)
theorem case44 (m : Nat) : CaseR (nameH (sentH 225 12 errTab)) [] [] [(0, 5, .lit 4)] [.int .i64 (.var 0), .slice 18 0 (m + 7) (m + 7) 1 false, .int .u32 (.var 1)] := caseR (fun hL hk hT => FnsOk.cons (hT.ok fit) (FnsOk.cons (pure_fn_ok (all_cons (p0_ok hL) (all_nil))) (FnsOk.nil))) (by kernel_rfl : isTrue (evCall (cxX Tryd.prog bad [] [] [(11, numExtE [(0, 5, .lit 4)]), (10, pureFn [p0])]) 1000 60 4 [.int .i64 (.var 0), .slice 18 0 (m + 7) (m + 7) 1 false, .int .u32 (.var 1)] (nameH (sentH 225 12 errTab))) = true)
end Go.Proofs.YtoldbgemlnkfkaaDoor.bootApart
