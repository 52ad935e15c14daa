/- bootApart: calls that are run once, and the runs of the cases (part 1). -/
import Derived.Test.YtoldbgemlnkfkaaDoorBaK0
set_option linter.unusedVariables false
set_option maxRecDepth 10000000
namespace Go.Proofs.YtoldbgemlnkfkaaDoor.bootApart
open Tk
open Go.RowKit
theorem case17 (m : Nat) : CaseR (nameH (sentH 225 12 errTab)) [] [] [(0, 5, .lit 1)] [.int .i64 (.var 0), .slice 18 0 (m + 7) (m + 7) 1 false, .int .u32 (.var 1)] := caseR (fun hL hk hT => FnsOk.cons (hT.ok fit) (FnsOk.cons (pure_fn_ok (all_cons (p0_ok hL) (all_nil))) (FnsOk.nil))) (by kernel_rfl : isTrue (evCall (cxX Tryd.prog bad [] [] [(11, numExtE [(0, 5, .lit 1)]), (10, pureFn [p0])]) 1000 60 4 [.int .i64 (.var 0), .slice 18 0 (m + 7) (m + 7) 1 false, .int .u32 (.var 1)] (nameH (sentH 225 12 errTab))) = true)
noncomputable def h33 : H := hUpd h0 33 [] [] []
noncomputable def h34 : H := hUpd h18 88 [30, 54, 66, 60, 68, 32, 69, 57, 33, 51, 71, 63, 31] [(78, .cells 1 ([[.slice 77 0 8 8 3 true]]) false),
  (46, .cells 1 ([[.slice 45 0 8 8 3 true]]) false),
  (86, .cells 1 ([[.snil]]) false),
  (38, .cells 3 (rp 24 ([bF, I 0, bF]) ([])) false),
  (58, .cells 1 ([[.snil]]) false),
  (42, .cells 2 ([[.ptr 37 0, .ptr 41 0]]) false),
  (82, .cells 3 (rp 6 ([bF, I 0, bF]) ([])) false),
  (34, .cells 3 (rp 16 ([bF, I 0, bF]) ([])) false),
  (76, .cells 2 ([[.ptr 74 0, .slice 75 0 12 12 2 true]]) false),
  (84, .cells 31 (rp 6 ((bF) :: rp 4 (I 0) ((U 0) :: rp 4 (I 0) ((U 0) :: rp 4 (I 0) ((U 0) :: rp 4 (I 0) ((U 0) :: rp 4 (I 0) ((U 0) :: rp 4 (I 0) ([U 0]))))))) ([])) false),
  (52, .cells 1 ([[.snil]]) false),
  (36, .cells 80 (rp 16 (rp 4 (I 0) ((U 0) :: rp 4 (I 0) ((U 0) :: rp 4 (I 0) ((U 0) :: rp 4 (I 0) ((U 0) :: rp 4 (I 0) ((U 0) :: rp 4 (I 0) ((U 0) :: rp 4 (I 0) ((U 0) :: rp 4 (I 0) ((U 0) :: rp 4 (I 0) ((U 0) :: rp 4 (I 0) ((U 0) :: rp 4 (I 0) ((U 0) :: rp 4 (I 0) ((U 0) :: rp 4 (I 0) ((U 0) :: rp 4 (I 0) ((U 0) :: rp 4 (I 0) ((U 0) :: rp 4 (I 0) ([U 0]))))))))))))))))) ([])) false),
  (72, .cells 1 ([[.ptr 49 0], [.ptr 52 0], [.ptr 55 0], [.ptr 58 0], [.ptr 61 0], [.ptr 64 0], [.ptr 67 0], [.ptr 70 0]]) false),
  (40, .cells 32 (rp 24 (rp 32 (U 0) ([])) ([])) false),
  (80, .map [] 0),
  (48, .cells 3 ([[.ptr 46 0, .slice 47 0 8 8 107 true, .slice 72 0 8 8 1 false]]) false),
  (64, .cells 1 ([[.snil]]) false),
  (61, .cells 1 ([[.snil]]) false),
  (77, .cells 3 (rp 8 ([bF, I 0, bF]) ([])) false),
  (45, .cells 3 (rp 8 ([bF, I 0, bF]) ([])) false),
  (85, .cells 2 ([[.ptr 83 0, .slice 84 0 6 6 31 true]]) false),
  (73, .cells 3 (rp 12 ([bF, I 0, bF]) ([])) false),
  (41, .cells 2 ([[.ptr 39 0, .slice 40 0 24 24 32 true]]) false),
  (81, .cells 5 ([[.ptr 78 0, .slice 79 0 8 8 3 true, .map 80, .ptr 44 0, .ptr 48 0]]) false),
  (49, .cells 1 ([[.snil]]) false),
  (75, .cells 2 (rp 12 ([I 0, I 0]) ([])) false),
  (43, .cells 3 ([[I 16, .snil, I 0]]) false),
  (83, .cells 1 ([[.slice 82 0 6 6 3 true]]) false),
  (67, .cells 1 ([[.snil]]) false),
  (87, .cells 9 ([[.ptr 44 0, .ptr 48 0, .ptr 76 0, .ptr 81 0, .ptr 85 0, .ptr 86 0, .snil, .snil, I 0]]) false),
  (55, .cells 1 ([[.snil]]) false),
  (39, .cells 1 ([[.slice 38 0 24 24 3 true]]) false),
  (79, .cells 3 (rp 8 ([I 0, I 0, I 0]) ([])) false),
  (47, .cells 107 (rp 8 (rp 9 (U 0) (rp 6 (I 0) ((U 0) :: rp 4 (I 0) ((U 0) :: rp 4 (I 0) ((U 0) :: rp 4 (I 0) ((U 0) :: rp 4 (I 0) ((U 0) :: rp 4 (I 0) ((U 0) :: rp 4 (I 0) ((U 0) :: rp 4 (I 0) ((U 0) :: rp 4 (I 0) ((U 0) :: rp 4 (I 0) ((U 0) :: rp 4 (I 0) ((U 0) :: rp 4 (I 0) ((U 0) :: rp 4 (I 0) ((U 0) :: rp 4 (I 0) ((U 0) :: rp 4 (I 0) ((U 0) :: rp 4 (I 0) ((U 0) :: rp 4 (I 0) ((U 0) :: rp 4 (I 0) ((U 0) :: rp 4 (I 0) ([U 0, I 0]))))))))))))))))))))) ([])) false)] [(70, 0, [.snil]),
  (74, 0, [.slice 73 0 12 12 3 true]),
  (44, 0, [.ptr 42 0, I 16, .ptr 43 0]),
  (37, 0, [.ptr 35 0, .slice 36 0 16 16 80 true]),
  (35, 0, [.slice 34 0 16 16 3 true])]
noncomputable def m72 : Memo := ⟨[.agg [I 16, I 24, I 8, I 12, I 8, I 6]], h33, .tuple [.ptr 87 0, .inil], h34⟩
theorem m72_run : ranTo (evCall (cxX Tryd.prog bad [] [] []) 1000 60 6 m72.args m72.h) m72.v m72.h' = true := by kernel_rfl
theorem m72_ok {σ : Nat → Int} {W0 : World} (hL : L0 W0) : MemoOk Tryd.prog 95 σ W0 6 m72 := memo_ok fit (Known2.nil σ) (FnsOk.nil) m72_run
noncomputable def p73 : Pur := ([.agg [I 3, I 4, I 0, I 0, U 0]], .inil, 1048576)
theorem p73_run : ranPure (evCall (cxX Tryd.prog bad [] [] []) 1000 60 65 p73.1 ⟨.lf, p73.2.2⟩) p73.2.1 = true := by kernel_rfl
theorem p73_ok {σ : Nat → Int} {W0 : World} (hL : L0 W0) : PureOk Tryd.prog 95 σ W0 65 p73 := pure_ok fit (Known2.nil σ) (FnsOk.nil) p73_run
noncomputable def p74 : Pur := ([.agg [I 3, I 5, I 0, I 0, U 0]], .inil, 1048576)
theorem p74_run : ranPure (evCall (cxX Tryd.prog bad [] [] []) 1000 60 65 p74.1 ⟨.lf, p74.2.2⟩) p74.2.1 = true := by kernel_rfl
theorem p74_ok {σ : Nat → Int} {W0 : World} (hL : L0 W0) : PureOk Tryd.prog 95 σ W0 65 p74 := pure_ok fit (Known2.nil σ) (FnsOk.nil) p74_run
noncomputable def p75 : Pur := ([.agg [I 2, I 2, I 0, I 0, U 1]], .inil, 1048576)
theorem p75_run : ranPure (evCall (cxX Tryd.prog bad [] [] []) 1000 60 65 p75.1 ⟨.lf, p75.2.2⟩) p75.2.1 = true := by kernel_rfl
theorem p75_ok {σ : Nat → Int} {W0 : World} (hL : L0 W0) : PureOk Tryd.prog 95 σ W0 65 p75 := pure_ok fit (Known2.nil σ) (FnsOk.nil) p75_run
noncomputable def p76 : Pur := ([.agg [I 7, I 3, I 0, I 0, U 0]], .inil, 1048576)
theorem p76_run : ranPure (evCall (cxX Tryd.prog bad [] [] []) 1000 60 65 p76.1 ⟨.lf, p76.2.2⟩) p76.2.1 = true := by kernel_rfl
theorem p76_ok {σ : Nat → Int} {W0 : World} (hL : L0 W0) : PureOk Tryd.prog 95 σ W0 65 p76 := pure_ok fit (Known2.nil σ) (FnsOk.nil) p76_run
noncomputable def h35 : H := hUpc h19 58 [] [(35, .map [(.agg [I 3, I 0], .agg [I 0, I 0], 0), (.agg [I 3, I 1], .agg [I 0, I 0], 1), (.agg [I 2, I 0], .agg [I 0, I 0], 2), (.agg [I 4, I 0], .agg [I 0, I 0], 3), (.agg [I 3, I 2], .agg [I 0, I 0], 4), (.agg [I 3, I 3], .agg [I 0, I 0], 5), (.agg [I 2, I 1], .agg [I 0, I 0], 6), (.agg [I 4, I 1], .agg [I 0, I 0], 7)] 8)] [(56, 1, [bT, I 0, bF]),
  (40, 1, [bT, I 0, bF]),
  (57, 2, [bT, I 0, bF]),
  (57, 3, [bT, I 0, bF]),
  (49, 2, [bT, I 0, bF])] [(55, 2, 0, .int .u32 (.var 73))]
noncomputable def l33 : List (Pur) := p11 :: p10 :: p9 :: p8 :: p76 :: p6 :: p75 :: p4 :: p74 :: p73 :: []
theorem l33_ok {σ : Nat → Int} {W0 : World} (hL : L0 W0) : ∀ x ∈ l33, PureOk Tryd.prog 95 σ W0 65 x := all_cons (p11_ok hL) (all_cons (p10_ok hL) (all_cons (p9_ok hL) (all_cons (p8_ok hL) (all_cons (p76_ok hL) (all_cons (p6_ok hL) (all_cons (p75_ok hL) (all_cons (p4_ok hL) (all_cons (p74_ok hL) (all_cons (p73_ok hL) (all_nil))))))))))
noncomputable def s14 : Sym := ⟨[.ptr 18 0, .agg [.slice 19 0 1 1 1 true, I 12, .snil, bT]], h35, [18, 20, 26, 38, 39, 52, 54, 56, 57, 21, 23, 28, 33, 35, 40, 50, 55, 22, 31, 49, 29, 32, 34, 53, 19, 14, 6, 12, 16, 4, 2, 13, 17, 15, 3, 1, 0], [(0, 4294967295), (0, 1099511627775), (0, 1099511627775), (0, 1099511627775), (0, 1099511627775), (0, 1099511627775), (0, 1099511627775), (0, 1099511627775), (0, 1099511627775), (0, 1099511627775), (0, 4294967295), (0, 1099511627775), (0, 1099511627775), (0, 1099511627775), (0, 1099511627775), (0, 1099511627775), (0, 1099511627775), (0, 1099511627775), (0, 1099511627775), (0, 1099511627775), (0, 1099511627775), (0, 1099511627775), (0, 1099511627775), (0, 4294967295), (0, 1099511627775), (0, 1099511627775), (0, 1099511627775), (0, 1099511627775), (0, 1099511627775), (0, 1099511627775), (0, 1099511627775), (0, 1099511627775), (0, 1099511627775), (0, 1099511627775), (0, 1099511627775), (0, 1099511627775), (0, 4294967295), (0, 1099511627775), (0, 1099511627775), (0, 1099511627775), (0, 1099511627775), (0, 1099511627775), (0, 1099511627775), (0, 1099511627775), (0, 1099511627775), (0, 1099511627775), (0, 1099511627775), (0, 1099511627775), (0, 1099511627775), (0, 4294967295), (0, 1099511627775), (0, 1099511627775), (0, 1099511627775), (0, 1099511627775), (0, 1099511627775), (0, 1099511627775), (0, 1099511627775), (0, 1099511627775), (0, 1099511627775), (0, 1099511627775), (0, 1099511627775), (0, 1099511627775), (0, 1099511627775), (0, 1099511627775), (0, 1099511627775), (0, 1099511627775), (0, 1099511627775), (0, 1099511627775), (0, 1099511627775), (0, 1099511627775), (0, 1099511627775), (0, 1099511627775), (0, 4294967295), (0, 4294967295)],
  [(false, .sub (.lit 60) (.var 56), .lit 1, false), (false, .sub (.lit 60) (.add (.var 56) (.lit 1)), .lit 1, false), (false, .sub (.lit 60) (.add (.var 56) (.lit 2)), .lit 1, false), (false, .sub (.lit 60) (.add (.var 56) (.lit 3)), .lit 1, false)],
  .tuple [I 2, .inil],
  [.cel 29 2 9 (I 1),
  .cel 29 2 11 (I 8),
  .cel 29 2 16 (I 7),
  .cel 29 2 17 (I 3),
  .cel 29 2 21 (I 11),
  .cel 29 2 26 (I 12),
  .cel 29 2 31 (I 13),
  .cel 29 2 36 (I 14),
  .cel 29 2 91 (I 2),
  .cel 29 2 92 (I 2),
  .cel 29 2 95 (U 1),
  .cel 29 2 96 (I 7),
  .cel 29 2 97 (I 3),
  .row 32 3 ([I 0, I 12]),
  .row 34 0 ([IZ (-1), I 60, .int .i64 (.add (.var 56) (.lit 4))]),
  .set 35 (.map [(.agg [I 3, I 0], .agg [I 0, I 0], 0), (.agg [I 3, I 1], .agg [I 0, I 0], 1), (.agg [I 2, I 0], .agg [I 0, I 0], 2), (.agg [I 4, I 0], .agg [I 0, I 0], 3), (.agg [I 3, I 2], .agg [I 0, I 0], 4), (.agg [I 3, I 3], .agg [I 0, I 0], 5), (.agg [I 2, I 1], .agg [I 0, I 0], 6), (.agg [I 4, I 1], .agg [I 0, I 0], 7), (.agg [I 3, I 4], .agg [I 0, I 0], 8), (.agg [I 3, I 5], .agg [I 0, I 0], 9), (.agg [I 2, I 2], .agg [I 0, I 0], 10), (.agg [I 4, I 2], .agg [I 0, I 0], 11)] 12),
  .row 40 2 ([bT, I 0, bF]),
  .row 49 3 ([bT, I 0, bF]),
  .cel 53 2 0 (I 3),
  .cel 53 2 1 (I 4),
  .cel 53 2 5 (I 3),
  .cel 53 2 6 (I 5),
  .cel 55 4 0 (.int .u32 (.var 0)),
  .row 56 2 ([bT, I 0, bF]),
  .row 57 4 ([bT, I 0, bF]),
  .row 57 5 ([bT, I 0, bF])], 533⟩
theorem s14_run : ranTo (evCall (cxX Tryd.prog bad s14.rng s14.facts [(65, pureFn l33)]) 1000 60 47 s14.args s14.pre) s14.v s14.post = true := by kernel_rfl
theorem s14_ok {W0 : World} (hL : L0 W0) : SymOk Tryd.prog 95 W0 47 s14 := sym_ok fit (fun σ hk => FnsOk.cons (pure_fn_ok (l33_ok hL)) (FnsOk.nil)) s14_run (by kernel_rfl)
noncomputable def l34 : List (Pur) := p75 :: p76 :: l18
theorem l34_ok {σ : Nat → Int} {W0 : World} (hL : L0 W0) : ∀ x ∈ l34, PureOk Tryd.prog 95 σ W0 65 x := all_cons (p75_ok hL) (all_cons (p76_ok hL) ((l18_ok hL)))
noncomputable def y35 : List Sym := [s0, s7, s14, s1, s2, s3, s4, s5, s6, s8, s9, s10, s11, s12, s13]
theorem y35_ok {W0 : World} (hL : L0 W0) : ∀ x ∈ y35, SymOk Tryd.prog 95 W0 47 x := all_cons (s0_ok hL) (all_cons (s7_ok hL) (all_cons (s14_ok hL) (all_cons (s1_ok hL) (all_cons (s2_ok hL) (all_cons (s3_ok hL) (all_cons (s4_ok hL) (all_cons (s5_ok hL) (all_cons (s6_ok hL) (all_cons (s8_ok hL) (all_cons (s9_ok hL) (all_cons (s10_ok hL) (all_cons (s11_ok hL) (all_cons (s12_ok hL) (all_cons (s13_ok hL) (all_nil)))))))))))))))
noncomputable def q36 : Fns := [(10, pureFn [p0]), (6, frameFn [m72])]
theorem q36_ok {σ : Nat → Int} {W0 : World} (hL : L0 W0) : FnsOk Tryd.prog 95 σ W0 q36 := FnsOk.cons (pure_fn_ok (all_cons (p0_ok hL) (all_nil))) (FnsOk.cons (frame_fn_ok (all_cons (m72_ok hL) (all_nil))) (FnsOk.nil))
theorem case18 : CaseR (nameH (sentH 225 12 errTab)) [((-9223372036854775808), 9223372036854775807), (0, 4294967295), (0, 2), (0, 2), (0, 2), (0, 2), (0, 2), (0, 2)] [] [(0, 5, .lit 2)] [.int .i64 (.var 0), .snil, .int .u32 (.var 1)] := caseR (fun hL hk hT => FnsOk.cons (hT.ok fit) (FnsOk.cons (sym_fn_ok (Γ := cxX Tryd.prog bad [((-9223372036854775808), 9223372036854775807), (0, 4294967295), (0, 2), (0, 2), (0, 2), (0, 2), (0, 2), (0, 2)] [] []) (fix := 18) ⟨hk.rng, hk.facts⟩ (by decide) (y35_ok hL)) (FnsOk.cons (pure_fn_ok (l34_ok hL)) ((q36_ok hL))))) (by kernel_rfl : isTrue (evCall (cxX Tryd.prog bad [((-9223372036854775808), 9223372036854775807), (0, 4294967295), (0, 2), (0, 2), (0, 2), (0, 2), (0, 2), (0, 2)] [] ((11, numExtE [(0, 5, .lit 2)]) :: (47, symFn (cxX Tryd.prog bad [((-9223372036854775808), 9223372036854775807), (0, 4294967295), (0, 2), (0, 2), (0, 2), (0, 2), (0, 2), (0, 2)] [] []) 18 y35) :: (65, pureFn l34) :: q36)) 1000 60 4 [.int .i64 (.var 0), .snil, .int .u32 (.var 1)] (nameH (sentH 225 12 errTab))) = true)
theorem case19 : CaseR (nameH (sentH 225 12 errTab)) [((-9223372036854775808), 9223372036854775807), (0, 4294967295), (0, 2), (0, 2), (0, 2), (0, 2), (0, 2), (0, 2)] [] [(0, 5, .lit 2)] [.int .i64 (.var 0), .eslice false, .int .u32 (.var 1)] := caseR (fun hL hk hT => FnsOk.cons (hT.ok fit) (FnsOk.cons (sym_fn_ok (Γ := cxX Tryd.prog bad [((-9223372036854775808), 9223372036854775807), (0, 4294967295), (0, 2), (0, 2), (0, 2), (0, 2), (0, 2), (0, 2)] [] []) (fix := 18) ⟨hk.rng, hk.facts⟩ (by decide) (y35_ok hL)) (FnsOk.cons (pure_fn_ok (l34_ok hL)) ((q36_ok hL))))) (by kernel_rfl : isTrue (evCall (cxX Tryd.prog bad [((-9223372036854775808), 9223372036854775807), (0, 4294967295), (0, 2), (0, 2), (0, 2), (0, 2), (0, 2), (0, 2)] [] ((11, numExtE [(0, 5, .lit 2)]) :: (47, symFn (cxX Tryd.prog bad [((-9223372036854775808), 9223372036854775807), (0, 4294967295), (0, 2), (0, 2), (0, 2), (0, 2), (0, 2), (0, 2)] [] []) 18 y35) :: (65, pureFn l34) :: q36)) 1000 60 4 [.int .i64 (.var 0), .eslice false, .int .u32 (.var 1)] (nameH (sentH 225 12 errTab))) = true)
noncomputable def h36 : H := hUpd h4 72 [] [] []
noncomputable def h37 : H := hUpd h24 127 [134, 90, 130, 92, 132, 96, 128, 93, 133, 89, 129, 131, 135, 95, 127] [(126, .cells 9 ([[.ptr 83 0, .ptr 87 0, .ptr 115 0, .ptr 120 0, .ptr 124 0, .ptr 125 0, .snil, .snil, I 0]]) false),
  (78, .cells 1 ([[.slice 77 0 24 24 3 true]]) false),
  (118, .cells 3 (rp 8 ([I 0, I 0, I 0]) ([])) false),
  (86, .cells 107 (rp 8 (rp 9 (U 0) (rp 6 (I 0) ((U 0) :: rp 4 (I 0) ((U 0) :: rp 4 (I 0) ((U 0) :: rp 4 (I 0) ((U 0) :: rp 4 (I 0) ((U 0) :: rp 4 (I 0) ((U 0) :: rp 4 (I 0) ((U 0) :: rp 4 (I 0) ((U 0) :: rp 4 (I 0) ((U 0) :: rp 4 (I 0) ((U 0) :: rp 4 (I 0) ((U 0) :: rp 4 (I 0) ((U 0) :: rp 4 (I 0) ((U 0) :: rp 4 (I 0) ((U 0) :: rp 4 (I 0) ((U 0) :: rp 4 (I 0) ((U 0) :: rp 4 (I 0) ((U 0) :: rp 4 (I 0) ((U 0) :: rp 4 (I 0) ([U 0, I 0]))))))))))))))))))))) ([])) false),
  (74, .cells 1 ([[.slice 73 0 16 16 3 true]]) false),
  (114, .cells 2 (rp 12 ([I 0, I 0]) ([])) false),
  (82, .cells 3 ([[I 16, .snil, I 0]]) false),
  (76, .cells 2 ([[.ptr 74 0, .slice 75 0 16 16 80 true]]) false),
  (116, .cells 3 (rp 8 ([bF, I 0, bF]) ([])) false),
  (84, .cells 3 (rp 8 ([bF, I 0, bF]) ([])) false),
  (120, .cells 5 ([[.ptr 117 0, .slice 118 0 8 8 3 true, .map 119, .ptr 83 0, .ptr 87 0]]) false),
  (88, .cells 1 ([[.snil]]) false),
  (112, .cells 3 (rp 12 ([bF, I 0, bF]) ([])) false),
  (80, .cells 2 ([[.ptr 78 0, .slice 79 0 24 24 32 true]]) false),
  (125, .cells 1 ([[.snil]]) false),
  (77, .cells 3 (rp 24 ([bF, I 0, bF]) ([])) false),
  (117, .cells 1 ([[.slice 116 0 8 8 3 true]]) false),
  (85, .cells 1 ([[.slice 84 0 8 8 3 true]]) false),
  (121, .cells 3 (rp 6 ([bF, I 0, bF]) ([])) false),
  (73, .cells 3 (rp 16 ([bF, I 0, bF]) ([])) false),
  (113, .cells 1 ([[.slice 112 0 12 12 3 true]]) false),
  (81, .cells 2 ([[.ptr 76 0, .ptr 80 0]]) false),
  (123, .cells 31 (rp 6 ((bF) :: rp 4 (I 0) ((U 0) :: rp 4 (I 0) ((U 0) :: rp 4 (I 0) ((U 0) :: rp 4 (I 0) ((U 0) :: rp 4 (I 0) ((U 0) :: rp 4 (I 0) ([U 0]))))))) ([])) false),
  (91, .cells 1 ([[.snil]]) false),
  (75, .cells 80 (rp 16 (rp 4 (I 0) ((U 0) :: rp 4 (I 0) ((U 0) :: rp 4 (I 0) ((U 0) :: rp 4 (I 0) ((U 0) :: rp 4 (I 0) ((U 0) :: rp 4 (I 0) ((U 0) :: rp 4 (I 0) ((U 0) :: rp 4 (I 0) ((U 0) :: rp 4 (I 0) ((U 0) :: rp 4 (I 0) ((U 0) :: rp 4 (I 0) ((U 0) :: rp 4 (I 0) ((U 0) :: rp 4 (I 0) ((U 0) :: rp 4 (I 0) ((U 0) :: rp 4 (I 0) ((U 0) :: rp 4 (I 0) ([U 0]))))))))))))))))) ([])) false),
  (115, .cells 2 ([[.ptr 113 0, .slice 114 0 12 12 2 true]]) false),
  (83, .cells 3 ([[.ptr 81 0, I 16, .ptr 82 0]]) false),
  (119, .map [] 0),
  (87, .cells 3 ([[.ptr 85 0, .slice 86 0 8 8 107 true, .slice 111 0 8 8 1 false]]) false),
  (111, .cells 1 ([[.ptr 88 0], [.ptr 91 0], [.ptr 94 0], [.ptr 97 0], [.ptr 100 0], [.ptr 103 0], [.ptr 106 0], [.ptr 109 0]]) false),
  (79, .cells 32 (rp 24 (rp 32 (U 0) ([])) ([])) false)] [(94, 0, [.snil]),
  (122, 0, [.slice 121 0 6 6 3 true]),
  (18, 0, [.int .i64 (.var 8)]),
  (124, 0, [.ptr 122 0, .slice 123 0 6 6 31 true])]
noncomputable def m77 : Memo := ⟨[.agg [I 16, I 24, I 8, I 12, I 8, I 6]], h36, .tuple [.ptr 126 0, .inil], h37⟩
theorem m77_run : ranTo (evCall (cxX Tryd.prog bad [] [] []) 1000 60 6 m77.args m77.h) m77.v m77.h' = true := by kernel_rfl
theorem m77_ok {σ : Nat → Int} {W0 : World} (hL : L0 W0) : MemoOk Tryd.prog 95 σ W0 6 m77 := memo_ok fit (Known2.nil σ) (FnsOk.nil) m77_run
noncomputable def h38 : H := hUpc h22 59 [] [(36, .map [(.agg [I 3, I 0], .agg [I 0, I 0], 0), (.agg [I 3, I 1], .agg [I 0, I 0], 1), (.agg [I 2, I 0], .agg [I 0, I 0], 2), (.agg [I 4, I 0], .agg [I 0, I 0], 3), (.agg [I 3, I 2], .agg [I 0, I 0], 4), (.agg [I 3, I 3], .agg [I 0, I 0], 5), (.agg [I 2, I 1], .agg [I 0, I 0], 6), (.agg [I 4, I 1], .agg [I 0, I 0], 7)] 8)] [(58, 2, [bT, I 0, bF]),
  (58, 3, [bT, I 0, bF]),
  (50, 2, [bT, I 0, bF]),
  (57, 1, [bT, I 0, bF]),
  (41, 1, [bT, I 0, bF])] [(56, 2, 0, .int .u32 (.var 73))]
noncomputable def s15 : Sym := ⟨[.ptr 18 0, .agg [.slice 19 0 1 1 1 true, I 12, .slice 20 0 1 1 1 false, bT]], h38, [18, 21, 24, 27, 39, 40, 53, 56, 57, 23, 32, 35, 50, 55, 22, 29, 36, 41, 58, 33, 34, 54, 19, 30, 51, 14, 6, 12, 16, 4, 2, 13, 17, 15, 3, 1, 0], [(0, 4294967295), (0, 1099511627775), (0, 1099511627775), (0, 1099511627775), (0, 1099511627775), (0, 1099511627775), (0, 1099511627775), (0, 1099511627775), (0, 1099511627775), (0, 1099511627775), (0, 4294967295), (0, 1099511627775), (0, 1099511627775), (0, 1099511627775), (0, 1099511627775), (0, 1099511627775), (0, 1099511627775), (0, 1099511627775), (0, 1099511627775), (0, 1099511627775), (0, 1099511627775), (0, 1099511627775), (0, 1099511627775), (0, 4294967295), (0, 1099511627775), (0, 1099511627775), (0, 1099511627775), (0, 1099511627775), (0, 1099511627775), (0, 1099511627775), (0, 1099511627775), (0, 1099511627775), (0, 1099511627775), (0, 1099511627775), (0, 1099511627775), (0, 1099511627775), (0, 4294967295), (0, 1099511627775), (0, 1099511627775), (0, 1099511627775), (0, 1099511627775), (0, 1099511627775), (0, 1099511627775), (0, 1099511627775), (0, 1099511627775), (0, 1099511627775), (0, 1099511627775), (0, 1099511627775), (0, 1099511627775), (0, 4294967295), (0, 1099511627775), (0, 1099511627775), (0, 1099511627775), (0, 1099511627775), (0, 1099511627775), (0, 1099511627775), (0, 1099511627775), (0, 1099511627775), (0, 1099511627775), (0, 1099511627775), (0, 1099511627775), (0, 1099511627775), (0, 1099511627775), (0, 1099511627775), (0, 1099511627775), (0, 1099511627775), (0, 1099511627775), (0, 1099511627775), (0, 1099511627775), (0, 1099511627775), (0, 1099511627775), (0, 1099511627775), (0, 4294967295), (0, 4294967295)],
  [(false, .sub (.lit 60) (.var 56), .lit 1, false), (false, .sub (.lit 60) (.add (.var 56) (.lit 1)), .lit 1, false), (false, .sub (.lit 60) (.add (.var 56) (.lit 2)), .lit 1, false), (false, .sub (.lit 60) (.add (.var 56) (.lit 3)), .lit 1, false)],
  .tuple [I 2, .inil],
  [.cel 30 2 9 (I 1),
  .cel 30 2 11 (I 8),
  .cel 30 2 16 (I 7),
  .cel 30 2 17 (I 3),
  .cel 30 2 21 (I 11),
  .cel 30 2 26 (I 12),
  .cel 30 2 31 (I 13),
  .cel 30 2 36 (I 14),
  .cel 30 2 91 (I 2),
  .cel 30 2 92 (I 2),
  .cel 30 2 95 (U 1),
  .cel 30 2 96 (I 7),
  .cel 30 2 97 (I 3),
  .row 33 3 ([I 0, I 12]),
  .row 35 0 ([IZ (-1), I 60, .int .i64 (.add (.var 56) (.lit 4))]),
  .set 36 (.map [(.agg [I 3, I 0], .agg [I 0, I 0], 0), (.agg [I 3, I 1], .agg [I 0, I 0], 1), (.agg [I 2, I 0], .agg [I 0, I 0], 2), (.agg [I 4, I 0], .agg [I 0, I 0], 3), (.agg [I 3, I 2], .agg [I 0, I 0], 4), (.agg [I 3, I 3], .agg [I 0, I 0], 5), (.agg [I 2, I 1], .agg [I 0, I 0], 6), (.agg [I 4, I 1], .agg [I 0, I 0], 7), (.agg [I 3, I 4], .agg [I 0, I 0], 8), (.agg [I 3, I 5], .agg [I 0, I 0], 9), (.agg [I 2, I 2], .agg [I 0, I 0], 10), (.agg [I 4, I 2], .agg [I 0, I 0], 11)] 12),
  .row 41 2 ([bT, I 0, bF]),
  .row 50 3 ([bT, I 0, bF]),
  .cel 54 2 0 (I 3),
  .cel 54 2 1 (I 4),
  .cel 54 2 5 (I 3),
  .cel 54 2 6 (I 5),
  .cel 56 4 0 (.int .u32 (.var 0)),
  .row 57 2 ([bT, I 0, bF]),
  .row 58 4 ([bT, I 0, bF]),
  .row 58 5 ([bT, I 0, bF])], 534⟩
theorem s15_run : ranTo (evCall (cxX Tryd.prog bad s15.rng s15.facts [(65, pureFn l33)]) 1000 60 47 s15.args s15.pre) s15.v s15.post = true := by kernel_rfl
theorem s15_ok {W0 : World} (hL : L0 W0) : SymOk Tryd.prog 95 W0 47 s15 := sym_ok fit (fun σ hk => FnsOk.cons (pure_fn_ok (l33_ok hL)) (FnsOk.nil)) s15_run (by kernel_rfl)
noncomputable def p78 : Pur := ([.agg [I 5, .int .i64 (.var 2), I 0, I 0, U 0]], .inil, 1048576)
theorem p78_run : ranPure (evCall (cxX Tryd.prog bad [((-9223372036854775808), 9223372036854775807), (0, 4294967295), (0, 2), (0, 2), (0, 2), (0, 2), (0, 2), (0, 2), ((-9223372036854775808), 9223372036854775807)] [] []) 1000 60 65 p78.1 ⟨.lf, p78.2.2⟩) p78.2.1 = true := by kernel_rfl
theorem p78_ok {σ : Nat → Int} {W0 : World} (hL : L0 W0) (hk : Known2 σ [((-9223372036854775808), 9223372036854775807), (0, 4294967295), (0, 2), (0, 2), (0, 2), (0, 2), (0, 2), (0, 2), ((-9223372036854775808), 9223372036854775807)] []) : PureOk Tryd.prog 95 σ W0 65 p78 := pure_ok fit hk (FnsOk.nil) p78_run
noncomputable def p79 : Pur := ([.agg [I 5, .int .i64 (.var 2), I 0, I 0, U 1]], .inil, 1048576)
theorem p79_run : ranPure (evCall (cxX Tryd.prog bad [((-9223372036854775808), 9223372036854775807), (0, 4294967295), (0, 2), (0, 2), (0, 2), (0, 2), (0, 2), (0, 2), ((-9223372036854775808), 9223372036854775807)] [] []) 1000 60 65 p79.1 ⟨.lf, p79.2.2⟩) p79.2.1 = true := by kernel_rfl
theorem p79_ok {σ : Nat → Int} {W0 : World} (hL : L0 W0) (hk : Known2 σ [((-9223372036854775808), 9223372036854775807), (0, 4294967295), (0, 2), (0, 2), (0, 2), (0, 2), (0, 2), (0, 2), ((-9223372036854775808), 9223372036854775807)] []) : PureOk Tryd.prog 95 σ W0 65 p79 := pure_ok fit hk (FnsOk.nil) p79_run
noncomputable def p80 : Pur := ([.agg [I 5, .int .i64 (.var 2), I 0, I 0, U 2]], .inil, 1048576)
theorem p80_run : ranPure (evCall (cxX Tryd.prog bad [((-9223372036854775808), 9223372036854775807), (0, 4294967295), (0, 2), (0, 2), (0, 2), (0, 2), (0, 2), (0, 2), ((-9223372036854775808), 9223372036854775807)] [] []) 1000 60 65 p80.1 ⟨.lf, p80.2.2⟩) p80.2.1 = true := by kernel_rfl
theorem p80_ok {σ : Nat → Int} {W0 : World} (hL : L0 W0) (hk : Known2 σ [((-9223372036854775808), 9223372036854775807), (0, 4294967295), (0, 2), (0, 2), (0, 2), (0, 2), (0, 2), (0, 2), ((-9223372036854775808), 9223372036854775807)] []) : PureOk Tryd.prog 95 σ W0 65 p80 := pure_ok fit hk (FnsOk.nil) p80_run
noncomputable def y37 : List Sym := [s0, s7, s14, s1, s2, s3, s4, s5, s6, s8, s9, s10, s11, s12, s13, s15]
theorem y37_ok {W0 : World} (hL : L0 W0) : ∀ x ∈ y37, SymOk Tryd.prog 95 W0 47 x := all_cons (s0_ok hL) (all_cons (s7_ok hL) (all_cons (s14_ok hL) (all_cons (s1_ok hL) (all_cons (s2_ok hL) (all_cons (s3_ok hL) (all_cons (s4_ok hL) (all_cons (s5_ok hL) (all_cons (s6_ok hL) (all_cons (s8_ok hL) (all_cons (s9_ok hL) (all_cons (s10_ok hL) (all_cons (s11_ok hL) (all_cons (s12_ok hL) (all_cons (s13_ok hL) (all_cons (s15_ok hL) (all_nil))))))))))))))))
noncomputable def q38 : Fns := [(10, pureFn [p0]), (6, frameFn [m77])]
theorem q38_ok {σ : Nat → Int} {W0 : World} (hL : L0 W0) : FnsOk Tryd.prog 95 σ W0 q38 := FnsOk.cons (pure_fn_ok (all_cons (p0_ok hL) (all_nil))) (FnsOk.cons (frame_fn_ok (all_cons (m77_ok hL) (all_nil))) (FnsOk.nil))
theorem case20 : CaseR (rowH (sentH 225 12 errTab) [.int .i64 (.var 8)]) [((-9223372036854775808), 9223372036854775807), (0, 4294967295), (0, 2), (0, 2), (0, 2), (0, 2), (0, 2), (0, 2), ((-9223372036854775808), 9223372036854775807)] [] [(0, 5, .lit 2), (8, 3, .var 2)] [.int .i64 (.var 0), .slice 18 0 1 1 1 false, .int .u32 (.var 1)] := caseR (fun hL hk hT => FnsOk.cons (hT.ok fit) (FnsOk.cons (pure_fn_ok (all_cons (p6_ok hL) (all_cons (p7_ok hL) (all_cons (p8_ok hL) (all_cons (p9_ok hL) (all_cons (p10_ok hL) (all_cons (p11_ok hL) (all_cons (p78_ok hL hk) (all_cons (p4_ok hL) (all_cons (p5_ok hL) (all_cons (p23_ok hL) (all_cons (p79_ok hL hk) (all_cons (p22_ok hL) (all_cons (p76_ok hL) (all_cons (p80_ok hL hk) (all_cons (p75_ok hL) (all_nil))))))))))))))))) (FnsOk.cons (sym_fn_ok (Γ := cxX Tryd.prog bad [((-9223372036854775808), 9223372036854775807), (0, 4294967295), (0, 2), (0, 2), (0, 2), (0, 2), (0, 2), (0, 2), ((-9223372036854775808), 9223372036854775807)] [] []) (fix := 18) ⟨hk.rng, hk.facts⟩ (by decide) (y37_ok hL)) ((q38_ok hL))))) (by kernel_rfl : isTrue (evCall (cxX Tryd.prog bad [((-9223372036854775808), 9223372036854775807), (0, 4294967295), (0, 2), (0, 2), (0, 2), (0, 2), (0, 2), (0, 2), ((-9223372036854775808), 9223372036854775807)] [] ((11, numExtE [(0, 5, .lit 2), (8, 3, .var 2)]) :: (65, pureFn [p6, p7, p8, p9, p10, p11, p78, p4, p5, p23, p79, p22, p76, p80, p75]) :: (47, symFn (cxX Tryd.prog bad [((-9223372036854775808), 9223372036854775807), (0, 4294967295), (0, 2), (0, 2), (0, 2), (0, 2), (0, 2), (0, 2), ((-9223372036854775808), 9223372036854775807)] [] []) 18 y37) :: q38)) 1000 60 4 [.int .i64 (.var 0), .slice 18 0 1 1 1 false, .int .u32 (.var 1)] (rowH (sentH 225 12 errTab) [.int .i64 (.var 8)])) = true)
noncomputable def h39 : H := hUpd h7 111 [] [] []
noncomputable def h40 : H := hUpd h26 166 [110, 138, 146, 108, 132, 144, 109, 141, 149, 129, 147, 135, 111] [(126, .cells 3 ([[.ptr 124 0, .slice 125 0 8 8 107 true, .slice 150 0 8 8 1 false]]) false),
  (158, .map [] 0),
  (142, .cells 1 ([[.snil]]) false),
  (118, .cells 32 (rp 24 (rp 32 (U 0) ([])) ([])) false),
  (150, .cells 1 ([[.ptr 127 0], [.ptr 130 0], [.ptr 133 0], [.ptr 136 0], [.ptr 139 0], [.ptr 142 0], [.ptr 145 0], [.ptr 148 0]]) false),
  (154, .cells 2 ([[.ptr 152 0, .slice 153 0 12 12 2 true]]) false),
  (114, .cells 80 (rp 16 (rp 4 (I 0) ((U 0) :: rp 4 (I 0) ((U 0) :: rp 4 (I 0) ((U 0) :: rp 4 (I 0) ((U 0) :: rp 4 (I 0) ((U 0) :: rp 4 (I 0) ((U 0) :: rp 4 (I 0) ((U 0) :: rp 4 (I 0) ((U 0) :: rp 4 (I 0) ((U 0) :: rp 4 (I 0) ((U 0) :: rp 4 (I 0) ((U 0) :: rp 4 (I 0) ((U 0) :: rp 4 (I 0) ((U 0) :: rp 4 (I 0) ((U 0) :: rp 4 (I 0) ((U 0) :: rp 4 (I 0) ([U 0]))))))))))))))))) ([])) false),
  (162, .cells 31 (rp 6 ((bF) :: rp 4 (I 0) ((U 0) :: rp 4 (I 0) ((U 0) :: rp 4 (I 0) ((U 0) :: rp 4 (I 0) ((U 0) :: rp 4 (I 0) ((U 0) :: rp 4 (I 0) ([U 0]))))))) ([])) false),
  (130, .cells 1 ([[.snil]]) false),
  (124, .cells 1 ([[.slice 123 0 8 8 3 true]]) false),
  (156, .cells 1 ([[.slice 155 0 8 8 3 true]]) false),
  (116, .cells 3 (rp 24 ([bF, I 0, bF]) ([])) false),
  (164, .cells 1 ([[.snil]]) false),
  (120, .cells 2 ([[.ptr 115 0, .ptr 119 0]]) false),
  (136, .cells 1 ([[.snil]]) false),
  (112, .cells 3 (rp 16 ([bF, I 0, bF]) ([])) false),
  (160, .cells 3 (rp 6 ([bF, I 0, bF]) ([])) false),
  (125, .cells 107 (rp 8 (rp 9 (U 0) (rp 6 (I 0) ((U 0) :: rp 4 (I 0) ((U 0) :: rp 4 (I 0) ((U 0) :: rp 4 (I 0) ((U 0) :: rp 4 (I 0) ((U 0) :: rp 4 (I 0) ((U 0) :: rp 4 (I 0) ((U 0) :: rp 4 (I 0) ((U 0) :: rp 4 (I 0) ((U 0) :: rp 4 (I 0) ((U 0) :: rp 4 (I 0) ((U 0) :: rp 4 (I 0) ((U 0) :: rp 4 (I 0) ((U 0) :: rp 4 (I 0) ((U 0) :: rp 4 (I 0) ((U 0) :: rp 4 (I 0) ((U 0) :: rp 4 (I 0) ((U 0) :: rp 4 (I 0) ((U 0) :: rp 4 (I 0) ([U 0, I 0]))))))))))))))))))))) ([])) false),
  (157, .cells 3 (rp 8 ([I 0, I 0, I 0]) ([])) false),
  (117, .cells 1 ([[.slice 116 0 24 24 3 true]]) false),
  (165, .cells 9 ([[.ptr 122 0, .ptr 126 0, .ptr 154 0, .ptr 159 0, .ptr 163 0, .ptr 164 0, .snil, .snil, I 0]]) false),
  (133, .cells 1 ([[.snil]]) false),
  (121, .cells 3 ([[I 16, .snil, I 0]]) false),
  (153, .cells 2 (rp 12 ([I 0, I 0]) ([])) false),
  (145, .cells 1 ([[.snil]]) false),
  (161, .cells 1 ([[.slice 160 0 6 6 3 true]]) false),
  (123, .cells 3 (rp 8 ([bF, I 0, bF]) ([])) false),
  (155, .cells 3 (rp 8 ([bF, I 0, bF]) ([])) false),
  (139, .cells 1 ([[.snil]]) false),
  (163, .cells 2 ([[.ptr 161 0, .slice 162 0 6 6 31 true]]) false),
  (119, .cells 2 ([[.ptr 117 0, .slice 118 0 24 24 32 true]]) false),
  (151, .cells 3 (rp 12 ([bF, I 0, bF]) ([])) false),
  (159, .cells 5 ([[.ptr 156 0, .slice 157 0 8 8 3 true, .map 158, .ptr 122 0, .ptr 126 0]]) false),
  (127, .cells 1 ([[.snil]]) false)] [(122, 0, [.ptr 120 0, I 16, .ptr 121 0]),
  (18, 0, [.int .i64 (.var 8), .int .i64 (.var 9)]),
  (148, 0, [.snil]),
  (152, 0, [.slice 151 0 12 12 3 true]),
  (113, 0, [.slice 112 0 16 16 3 true]),
  (115, 0, [.ptr 113 0, .slice 114 0 16 16 80 true])]
noncomputable def m81 : Memo := ⟨[.agg [I 16, I 24, I 8, I 12, I 8, I 6]], h39, .tuple [.ptr 165 0, .inil], h40⟩
theorem m81_run : ranTo (evCall (cxX Tryd.prog bad [] [] []) 1000 60 6 m81.args m81.h) m81.v m81.h' = true := by kernel_rfl
theorem m81_ok {σ : Nat → Int} {W0 : World} (hL : L0 W0) : MemoOk Tryd.prog 95 σ W0 6 m81 := memo_ok fit (Known2.nil σ) (FnsOk.nil) m81_run
noncomputable def s16 : Sym := ⟨[.ptr 18 0, .agg [.slice 19 0 1 1 1 true, I 12, .slice 20 0 2 2 1 false, bT]], h38, [18, 21, 24, 27, 39, 40, 53, 56, 57, 23, 32, 35, 50, 55, 22, 29, 36, 41, 58, 33, 34, 54, 19, 30, 51, 14, 6, 12, 16, 4, 2, 13, 17, 15, 3, 1, 0], [(0, 4294967295), (0, 1099511627775), (0, 1099511627775), (0, 1099511627775), (0, 1099511627775), (0, 1099511627775), (0, 1099511627775), (0, 1099511627775), (0, 1099511627775), (0, 1099511627775), (0, 4294967295), (0, 1099511627775), (0, 1099511627775), (0, 1099511627775), (0, 1099511627775), (0, 1099511627775), (0, 1099511627775), (0, 1099511627775), (0, 1099511627775), (0, 1099511627775), (0, 1099511627775), (0, 1099511627775), (0, 1099511627775), (0, 4294967295), (0, 1099511627775), (0, 1099511627775), (0, 1099511627775), (0, 1099511627775), (0, 1099511627775), (0, 1099511627775), (0, 1099511627775), (0, 1099511627775), (0, 1099511627775), (0, 1099511627775), (0, 1099511627775), (0, 1099511627775), (0, 4294967295), (0, 1099511627775), (0, 1099511627775), (0, 1099511627775), (0, 1099511627775), (0, 1099511627775), (0, 1099511627775), (0, 1099511627775), (0, 1099511627775), (0, 1099511627775), (0, 1099511627775), (0, 1099511627775), (0, 1099511627775), (0, 4294967295), (0, 1099511627775), (0, 1099511627775), (0, 1099511627775), (0, 1099511627775), (0, 1099511627775), (0, 1099511627775), (0, 1099511627775), (0, 1099511627775), (0, 1099511627775), (0, 1099511627775), (0, 1099511627775), (0, 1099511627775), (0, 1099511627775), (0, 1099511627775), (0, 1099511627775), (0, 1099511627775), (0, 1099511627775), (0, 1099511627775), (0, 1099511627775), (0, 1099511627775), (0, 1099511627775), (0, 1099511627775), (0, 4294967295), (0, 4294967295)],
  [(false, .sub (.lit 60) (.var 56), .lit 1, false), (false, .sub (.lit 60) (.add (.var 56) (.lit 1)), .lit 1, false), (false, .sub (.lit 60) (.add (.var 56) (.lit 2)), .lit 1, false), (false, .sub (.lit 60) (.add (.var 56) (.lit 3)), .lit 1, false)],
  .tuple [I 2, .inil],
  [.cel 30 2 9 (I 1),
  .cel 30 2 11 (I 8),
  .cel 30 2 16 (I 7),
  .cel 30 2 17 (I 3),
  .cel 30 2 21 (I 11),
  .cel 30 2 26 (I 12),
  .cel 30 2 31 (I 13),
  .cel 30 2 36 (I 14),
  .cel 30 2 91 (I 2),
  .cel 30 2 92 (I 2),
  .cel 30 2 95 (U 1),
  .cel 30 2 96 (I 7),
  .cel 30 2 97 (I 3),
  .row 33 3 ([I 0, I 12]),
  .row 35 0 ([IZ (-1), I 60, .int .i64 (.add (.var 56) (.lit 4))]),
  .set 36 (.map [(.agg [I 3, I 0], .agg [I 0, I 0], 0), (.agg [I 3, I 1], .agg [I 0, I 0], 1), (.agg [I 2, I 0], .agg [I 0, I 0], 2), (.agg [I 4, I 0], .agg [I 0, I 0], 3), (.agg [I 3, I 2], .agg [I 0, I 0], 4), (.agg [I 3, I 3], .agg [I 0, I 0], 5), (.agg [I 2, I 1], .agg [I 0, I 0], 6), (.agg [I 4, I 1], .agg [I 0, I 0], 7), (.agg [I 3, I 4], .agg [I 0, I 0], 8), (.agg [I 3, I 5], .agg [I 0, I 0], 9), (.agg [I 2, I 2], .agg [I 0, I 0], 10), (.agg [I 4, I 2], .agg [I 0, I 0], 11)] 12),
  .row 41 2 ([bT, I 0, bF]),
  .row 50 3 ([bT, I 0, bF]),
  .cel 54 2 0 (I 3),
  .cel 54 2 1 (I 4),
  .cel 54 2 5 (I 3),
  .cel 54 2 6 (I 5),
  .cel 56 4 0 (.int .u32 (.var 0)),
  .row 57 2 ([bT, I 0, bF]),
  .row 58 4 ([bT, I 0, bF]),
  .row 58 5 ([bT, I 0, bF])], 534⟩
theorem s16_run : ranTo (evCall (cxX Tryd.prog bad s16.rng s16.facts [(65, pureFn l33)]) 1000 60 47 s16.args s16.pre) s16.v s16.post = true := by kernel_rfl
theorem s16_ok {W0 : World} (hL : L0 W0) : SymOk Tryd.prog 95 W0 47 s16 := sym_ok fit (fun σ hk => FnsOk.cons (pure_fn_ok (l33_ok hL)) (FnsOk.nil)) s16_run (by kernel_rfl)
noncomputable def p82 : Pur := ([.agg [I 5, .int .i64 (.var 2), I 0, I 0, U 0]], .inil, 1048576)
theorem p82_run : ranPure (evCall (cxX Tryd.prog bad [((-9223372036854775808), 9223372036854775807), (0, 4294967295), (0, 2), (0, 2), (0, 2), (0, 2), (0, 2), (0, 2), ((-9223372036854775808), 9223372036854775807), ((-9223372036854775808), 9223372036854775807)] [] []) 1000 60 65 p82.1 ⟨.lf, p82.2.2⟩) p82.2.1 = true := by kernel_rfl
theorem p82_ok {σ : Nat → Int} {W0 : World} (hL : L0 W0) (hk : Known2 σ [((-9223372036854775808), 9223372036854775807), (0, 4294967295), (0, 2), (0, 2), (0, 2), (0, 2), (0, 2), (0, 2), ((-9223372036854775808), 9223372036854775807), ((-9223372036854775808), 9223372036854775807)] []) : PureOk Tryd.prog 95 σ W0 65 p82 := pure_ok fit hk (FnsOk.nil) p82_run
noncomputable def p83 : Pur := ([.agg [I 5, .int .i64 (.var 3), I 0, I 0, U 0]], .inil, 1048576)
theorem p83_run : ranPure (evCall (cxX Tryd.prog bad [((-9223372036854775808), 9223372036854775807), (0, 4294967295), (0, 2), (0, 2), (0, 2), (0, 2), (0, 2), (0, 2), ((-9223372036854775808), 9223372036854775807), ((-9223372036854775808), 9223372036854775807)] [] []) 1000 60 65 p83.1 ⟨.lf, p83.2.2⟩) p83.2.1 = true := by kernel_rfl
theorem p83_ok {σ : Nat → Int} {W0 : World} (hL : L0 W0) (hk : Known2 σ [((-9223372036854775808), 9223372036854775807), (0, 4294967295), (0, 2), (0, 2), (0, 2), (0, 2), (0, 2), (0, 2), ((-9223372036854775808), 9223372036854775807), ((-9223372036854775808), 9223372036854775807)] []) : PureOk Tryd.prog 95 σ W0 65 p83 := pure_ok fit hk (FnsOk.nil) p83_run
noncomputable def p84 : Pur := ([.agg [I 5, .int .i64 (.var 2), I 0, I 0, U 1]], .inil, 1048576)
theorem p84_run : ranPure (evCall (cxX Tryd.prog bad [((-9223372036854775808), 9223372036854775807), (0, 4294967295), (0, 2), (0, 2), (0, 2), (0, 2), (0, 2), (0, 2), ((-9223372036854775808), 9223372036854775807), ((-9223372036854775808), 9223372036854775807)] [] []) 1000 60 65 p84.1 ⟨.lf, p84.2.2⟩) p84.2.1 = true := by kernel_rfl
theorem p84_ok {σ : Nat → Int} {W0 : World} (hL : L0 W0) (hk : Known2 σ [((-9223372036854775808), 9223372036854775807), (0, 4294967295), (0, 2), (0, 2), (0, 2), (0, 2), (0, 2), (0, 2), ((-9223372036854775808), 9223372036854775807), ((-9223372036854775808), 9223372036854775807)] []) : PureOk Tryd.prog 95 σ W0 65 p84 := pure_ok fit hk (FnsOk.nil) p84_run
noncomputable def p85 : Pur := ([.agg [I 5, .int .i64 (.var 3), I 0, I 0, U 1]], .inil, 1048576)
theorem p85_run : ranPure (evCall (cxX Tryd.prog bad [((-9223372036854775808), 9223372036854775807), (0, 4294967295), (0, 2), (0, 2), (0, 2), (0, 2), (0, 2), (0, 2), ((-9223372036854775808), 9223372036854775807), ((-9223372036854775808), 9223372036854775807)] [] []) 1000 60 65 p85.1 ⟨.lf, p85.2.2⟩) p85.2.1 = true := by kernel_rfl
theorem p85_ok {σ : Nat → Int} {W0 : World} (hL : L0 W0) (hk : Known2 σ [((-9223372036854775808), 9223372036854775807), (0, 4294967295), (0, 2), (0, 2), (0, 2), (0, 2), (0, 2), (0, 2), ((-9223372036854775808), 9223372036854775807), ((-9223372036854775808), 9223372036854775807)] []) : PureOk Tryd.prog 95 σ W0 65 p85 := pure_ok fit hk (FnsOk.nil) p85_run
noncomputable def p86 : Pur := ([.agg [I 5, .int .i64 (.var 2), I 0, I 0, U 2]], .inil, 1048576)
theorem p86_run : ranPure (evCall (cxX Tryd.prog bad [((-9223372036854775808), 9223372036854775807), (0, 4294967295), (0, 2), (0, 2), (0, 2), (0, 2), (0, 2), (0, 2), ((-9223372036854775808), 9223372036854775807), ((-9223372036854775808), 9223372036854775807)] [] []) 1000 60 65 p86.1 ⟨.lf, p86.2.2⟩) p86.2.1 = true := by kernel_rfl
theorem p86_ok {σ : Nat → Int} {W0 : World} (hL : L0 W0) (hk : Known2 σ [((-9223372036854775808), 9223372036854775807), (0, 4294967295), (0, 2), (0, 2), (0, 2), (0, 2), (0, 2), (0, 2), ((-9223372036854775808), 9223372036854775807), ((-9223372036854775808), 9223372036854775807)] []) : PureOk Tryd.prog 95 σ W0 65 p86 := pure_ok fit hk (FnsOk.nil) p86_run
noncomputable def p87 : Pur := ([.agg [I 5, .int .i64 (.var 3), I 0, I 0, U 2]], .inil, 1048576)
theorem p87_run : ranPure (evCall (cxX Tryd.prog bad [((-9223372036854775808), 9223372036854775807), (0, 4294967295), (0, 2), (0, 2), (0, 2), (0, 2), (0, 2), (0, 2), ((-9223372036854775808), 9223372036854775807), ((-9223372036854775808), 9223372036854775807)] [] []) 1000 60 65 p87.1 ⟨.lf, p87.2.2⟩) p87.2.1 = true := by kernel_rfl
theorem p87_ok {σ : Nat → Int} {W0 : World} (hL : L0 W0) (hk : Known2 σ [((-9223372036854775808), 9223372036854775807), (0, 4294967295), (0, 2), (0, 2), (0, 2), (0, 2), (0, 2), (0, 2), ((-9223372036854775808), 9223372036854775807), ((-9223372036854775808), 9223372036854775807)] []) : PureOk Tryd.prog 95 σ W0 65 p87 := pure_ok fit hk (FnsOk.nil) p87_run
noncomputable def y39 : List Sym := [s0, s7, s14, s1, s2, s3, s4, s5, s6, s8, s9, s10, s11, s12, s13, s15, s16]
theorem y39_ok {W0 : World} (hL : L0 W0) : ∀ x ∈ y39, SymOk Tryd.prog 95 W0 47 x := all_cons (s0_ok hL) (all_cons (s7_ok hL) (all_cons (s14_ok hL) (all_cons (s1_ok hL) (all_cons (s2_ok hL) (all_cons (s3_ok hL) (all_cons (s4_ok hL) (all_cons (s5_ok hL) (all_cons (s6_ok hL) (all_cons (s8_ok hL) (all_cons (s9_ok hL) (all_cons (s10_ok hL) (all_cons (s11_ok hL) (all_cons (s12_ok hL) (all_cons (s13_ok hL) (all_cons (s15_ok hL) (all_cons (s16_ok hL) (all_nil)))))))))))))))))
noncomputable def q40 : Fns := [(10, pureFn [p0]), (6, frameFn [m81])]
theorem q40_ok {σ : Nat → Int} {W0 : World} (hL : L0 W0) : FnsOk Tryd.prog 95 σ W0 q40 := FnsOk.cons (pure_fn_ok (all_cons (p0_ok hL) (all_nil))) (FnsOk.cons (frame_fn_ok (all_cons (m81_ok hL) (all_nil))) (FnsOk.nil))
theorem case21 : CaseR (rowH (sentH 225 12 errTab) [.int .i64 (.var 8), .int .i64 (.var 9)]) [((-9223372036854775808), 9223372036854775807), (0, 4294967295), (0, 2), (0, 2), (0, 2), (0, 2), (0, 2), (0, 2), ((-9223372036854775808), 9223372036854775807), ((-9223372036854775808), 9223372036854775807)] [] [(0, 5, .lit 2), (8, 3, .var 2), (9, 3, .var 3)] [.int .i64 (.var 0), .slice 18 0 2 2 1 false, .int .u32 (.var 1)] := caseR (fun hL hk hT => FnsOk.cons (hT.ok fit) (FnsOk.cons (pure_fn_ok (all_cons (p6_ok hL) (all_cons (p7_ok hL) (all_cons (p8_ok hL) (all_cons (p9_ok hL) (all_cons (p10_ok hL) (all_cons (p11_ok hL) (all_cons (p82_ok hL hk) (all_cons (p83_ok hL hk) (all_cons (p4_ok hL) (all_cons (p5_ok hL) (all_cons (p23_ok hL) (all_cons (p84_ok hL hk) (all_cons (p85_ok hL hk) (all_cons (p22_ok hL) (all_cons (p76_ok hL) (all_cons (p86_ok hL hk) (all_cons (p87_ok hL hk) (all_cons (p75_ok hL) (all_nil)))))))))))))))))))) (FnsOk.cons (sym_fn_ok (Γ := cxX Tryd.prog bad [((-9223372036854775808), 9223372036854775807), (0, 4294967295), (0, 2), (0, 2), (0, 2), (0, 2), (0, 2), (0, 2), ((-9223372036854775808), 9223372036854775807), ((-9223372036854775808), 9223372036854775807)] [] []) (fix := 18) ⟨hk.rng, hk.facts⟩ (by decide) (y39_ok hL)) ((q40_ok hL))))) (by kernel_rfl : isTrue (evCall (cxX Tryd.prog bad [((-9223372036854775808), 9223372036854775807), (0, 4294967295), (0, 2), (0, 2), (0, 2), (0, 2), (0, 2), (0, 2), ((-9223372036854775808), 9223372036854775807), ((-9223372036854775808), 9223372036854775807)] [] ((11, numExtE [(0, 5, .lit 2), (8, 3, .var 2), (9, 3, .var 3)]) :: (65, pureFn [p6, p7, p8, p9, p10, p11, p82, p83, p4, p5, p23, p84, p85, p22, p76, p86, p87, p75]) :: (47, symFn (cxX Tryd.prog bad [((-9223372036854775808), 9223372036854775807), (0, 4294967295), (0, 2), (0, 2), (0, 2), (0, 2), (0, 2), (0, 2), ((-9223372036854775808), 9223372036854775807), ((-9223372036854775808), 9223372036854775807)] [] []) 18 y39) :: q40)) 1000 60 4 [.int .i64 (.var 0), .slice 18 0 2 2 1 false, .int .u32 (.var 1)] (rowH (sentH 225 12 errTab) [.int .i64 (.var 8), .int .i64 (.var 9)])) = true)
noncomputable def h41 : H := hUpd h9 150 [] [] []
noncomputable def h42 : H := hUpd h30 205 [174, 206, 170, 210, 212, 168, 208, 173, 205, 213, 209, 171, 211, 167, 207] [(190, .cells 3 (rp 12 ([bF, I 0, bF]) ([])) false),
  (158, .cells 2 ([[.ptr 156 0, .slice 157 0 24 24 32 true]]) false),
  (166, .cells 1 ([[.snil]]) false),
  (198, .cells 5 ([[.ptr 195 0, .slice 196 0 8 8 3 true, .map 197, .ptr 161 0, .ptr 165 0]]) false),
  (154, .cells 2 ([[.ptr 152 0, .slice 153 0 16 16 80 true]]) false),
  (162, .cells 3 (rp 8 ([bF, I 0, bF]) ([])) false),
  (194, .cells 3 (rp 8 ([bF, I 0, bF]) ([])) false),
  (156, .cells 1 ([[.slice 155 0 24 24 3 true]]) false),
  (204, .cells 9 ([[.ptr 161 0, .ptr 165 0, .ptr 193 0, .ptr 198 0, .ptr 202 0, .ptr 203 0, .snil, .snil, I 0]]) false),
  (164, .cells 107 (rp 8 (rp 9 (U 0) (rp 6 (I 0) ((U 0) :: rp 4 (I 0) ((U 0) :: rp 4 (I 0) ((U 0) :: rp 4 (I 0) ((U 0) :: rp 4 (I 0) ((U 0) :: rp 4 (I 0) ((U 0) :: rp 4 (I 0) ((U 0) :: rp 4 (I 0) ((U 0) :: rp 4 (I 0) ((U 0) :: rp 4 (I 0) ((U 0) :: rp 4 (I 0) ((U 0) :: rp 4 (I 0) ((U 0) :: rp 4 (I 0) ((U 0) :: rp 4 (I 0) ((U 0) :: rp 4 (I 0) ((U 0) :: rp 4 (I 0) ((U 0) :: rp 4 (I 0) ((U 0) :: rp 4 (I 0) ((U 0) :: rp 4 (I 0) ([U 0, I 0]))))))))))))))))))))) ([])) false),
  (196, .cells 3 (rp 8 ([I 0, I 0, I 0]) ([])) false),
  (152, .cells 1 ([[.slice 151 0 16 16 3 true]]) false),
  (160, .cells 3 ([[I 16, .snil, I 0]]) false),
  (192, .cells 2 (rp 12 ([I 0, I 0]) ([])) false),
  (189, .cells 1 ([[.ptr 166 0], [.ptr 169 0], [.ptr 172 0], [.ptr 175 0], [.ptr 178 0], [.ptr 181 0], [.ptr 184 0], [.ptr 187 0]]) false),
  (157, .cells 32 (rp 24 (rp 32 (U 0) ([])) ([])) false),
  (165, .cells 3 ([[.ptr 163 0, .slice 164 0 8 8 107 true, .slice 189 0 8 8 1 false]]) false),
  (197, .map [] 0),
  (153, .cells 80 (rp 16 (rp 4 (I 0) ((U 0) :: rp 4 (I 0) ((U 0) :: rp 4 (I 0) ((U 0) :: rp 4 (I 0) ((U 0) :: rp 4 (I 0) ((U 0) :: rp 4 (I 0) ((U 0) :: rp 4 (I 0) ((U 0) :: rp 4 (I 0) ((U 0) :: rp 4 (I 0) ((U 0) :: rp 4 (I 0) ((U 0) :: rp 4 (I 0) ((U 0) :: rp 4 (I 0) ((U 0) :: rp 4 (I 0) ((U 0) :: rp 4 (I 0) ((U 0) :: rp 4 (I 0) ((U 0) :: rp 4 (I 0) ([U 0]))))))))))))))))) ([])) false),
  (169, .cells 1 ([[.snil]]) false),
  (201, .cells 31 (rp 6 ((bF) :: rp 4 (I 0) ((U 0) :: rp 4 (I 0) ((U 0) :: rp 4 (I 0) ((U 0) :: rp 4 (I 0) ((U 0) :: rp 4 (I 0) ((U 0) :: rp 4 (I 0) ([U 0]))))))) ([])) false),
  (161, .cells 3 ([[.ptr 159 0, I 16, .ptr 160 0]]) false),
  (193, .cells 2 ([[.ptr 191 0, .slice 192 0 12 12 2 true]]) false),
  (155, .cells 3 (rp 24 ([bF, I 0, bF]) ([])) false),
  (203, .cells 1 ([[.snil]]) false),
  (163, .cells 1 ([[.slice 162 0 8 8 3 true]]) false),
  (195, .cells 1 ([[.slice 194 0 8 8 3 true]]) false),
  (151, .cells 3 (rp 16 ([bF, I 0, bF]) ([])) false),
  (199, .cells 3 (rp 6 ([bF, I 0, bF]) ([])) false),
  (159, .cells 2 ([[.ptr 154 0, .ptr 158 0]]) false),
  (191, .cells 1 ([[.slice 190 0 12 12 3 true]]) false)] [(202, 0, [.ptr 200 0, .slice 201 0 6 6 31 true]),
  (18, 0, [.int .i64 (.var 8), .int .i64 (.var 9), .int .i64 (.var 10)]),
  (172, 0, [.snil]),
  (200, 0, [.slice 199 0 6 6 3 true])]
noncomputable def m88 : Memo := ⟨[.agg [I 16, I 24, I 8, I 12, I 8, I 6]], h41, .tuple [.ptr 204 0, .inil], h42⟩
theorem m88_run : ranTo (evCall (cxX Tryd.prog bad [] [] []) 1000 60 6 m88.args m88.h) m88.v m88.h' = true := by kernel_rfl
theorem m88_ok {σ : Nat → Int} {W0 : World} (hL : L0 W0) : MemoOk Tryd.prog 95 σ W0 6 m88 := memo_ok fit (Known2.nil σ) (FnsOk.nil) m88_run
noncomputable def s17 : Sym := ⟨[.ptr 18 0, .agg [.slice 19 0 1 1 1 true, I 12, .slice 20 0 3 3 1 false, bT]], h38, [18, 21, 24, 27, 39, 40, 53, 56, 57, 23, 32, 35, 50, 55, 22, 29, 36, 41, 58, 33, 34, 54, 19, 30, 51, 14, 6, 12, 16, 4, 2, 13, 17, 15, 3, 1, 0], [(0, 4294967295), (0, 1099511627775), (0, 1099511627775), (0, 1099511627775), (0, 1099511627775), (0, 1099511627775), (0, 1099511627775), (0, 1099511627775), (0, 1099511627775), (0, 1099511627775), (0, 4294967295), (0, 1099511627775), (0, 1099511627775), (0, 1099511627775), (0, 1099511627775), (0, 1099511627775), (0, 1099511627775), (0, 1099511627775), (0, 1099511627775), (0, 1099511627775), (0, 1099511627775), (0, 1099511627775), (0, 1099511627775), (0, 4294967295), (0, 1099511627775), (0, 1099511627775), (0, 1099511627775), (0, 1099511627775), (0, 1099511627775), (0, 1099511627775), (0, 1099511627775), (0, 1099511627775), (0, 1099511627775), (0, 1099511627775), (0, 1099511627775), (0, 1099511627775), (0, 4294967295), (0, 1099511627775), (0, 1099511627775), (0, 1099511627775), (0, 1099511627775), (0, 1099511627775), (0, 1099511627775), (0, 1099511627775), (0, 1099511627775), (0, 1099511627775), (0, 1099511627775), (0, 1099511627775), (0, 1099511627775), (0, 4294967295), (0, 1099511627775), (0, 1099511627775), (0, 1099511627775), (0, 1099511627775), (0, 1099511627775), (0, 1099511627775), (0, 1099511627775), (0, 1099511627775), (0, 1099511627775), (0, 1099511627775), (0, 1099511627775), (0, 1099511627775), (0, 1099511627775), (0, 1099511627775), (0, 1099511627775), (0, 1099511627775), (0, 1099511627775), (0, 1099511627775), (0, 1099511627775), (0, 1099511627775), (0, 1099511627775), (0, 1099511627775), (0, 4294967295), (0, 4294967295)],
  [(false, .sub (.lit 60) (.var 56), .lit 1, false), (false, .sub (.lit 60) (.add (.var 56) (.lit 1)), .lit 1, false), (false, .sub (.lit 60) (.add (.var 56) (.lit 2)), .lit 1, false), (false, .sub (.lit 60) (.add (.var 56) (.lit 3)), .lit 1, false)],
  .tuple [I 2, .inil],
  [.cel 30 2 9 (I 1),
  .cel 30 2 11 (I 8),
  .cel 30 2 16 (I 7),
  .cel 30 2 17 (I 3),
  .cel 30 2 21 (I 11),
  .cel 30 2 26 (I 12),
  .cel 30 2 31 (I 13),
  .cel 30 2 36 (I 14),
  .cel 30 2 91 (I 2),
  .cel 30 2 92 (I 2),
  .cel 30 2 95 (U 1),
  .cel 30 2 96 (I 7),
  .cel 30 2 97 (I 3),
  .row 33 3 ([I 0, I 12]),
  .row 35 0 ([IZ (-1), I 60, .int .i64 (.add (.var 56) (.lit 4))]),
  .set 36 (.map [(.agg [I 3, I 0], .agg [I 0, I 0], 0), (.agg [I 3, I 1], .agg [I 0, I 0], 1), (.agg [I 2, I 0], .agg [I 0, I 0], 2), (.agg [I 4, I 0], .agg [I 0, I 0], 3), (.agg [I 3, I 2], .agg [I 0, I 0], 4), (.agg [I 3, I 3], .agg [I 0, I 0], 5), (.agg [I 2, I 1], .agg [I 0, I 0], 6), (.agg [I 4, I 1], .agg [I 0, I 0], 7), (.agg [I 3, I 4], .agg [I 0, I 0], 8), (.agg [I 3, I 5], .agg [I 0, I 0], 9), (.agg [I 2, I 2], .agg [I 0, I 0], 10), (.agg [I 4, I 2], .agg [I 0, I 0], 11)] 12),
  .row 41 2 ([bT, I 0, bF]),
  .row 50 3 ([bT, I 0, bF]),
  .cel 54 2 0 (I 3),
  .cel 54 2 1 (I 4),
  .cel 54 2 5 (I 3),
  .cel 54 2 6 (I 5),
  .cel 56 4 0 (.int .u32 (.var 0)),
  .row 57 2 ([bT, I 0, bF]),
  .row 58 4 ([bT, I 0, bF]),
  .row 58 5 ([bT, I 0, bF])], 534⟩
theorem s17_run : ranTo (evCall (cxX Tryd.prog bad s17.rng s17.facts [(65, pureFn l33)]) 1000 60 47 s17.args s17.pre) s17.v s17.post = true := by kernel_rfl
theorem s17_ok {W0 : World} (hL : L0 W0) : SymOk Tryd.prog 95 W0 47 s17 := sym_ok fit (fun σ hk => FnsOk.cons (pure_fn_ok (l33_ok hL)) (FnsOk.nil)) s17_run (by kernel_rfl)
noncomputable def p89 : Pur := ([.agg [I 5, .int .i64 (.var 2), I 0, I 0, U 0]], .inil, 1048576)
theorem p89_run : ranPure (evCall (cxX Tryd.prog bad [((-9223372036854775808), 9223372036854775807), (0, 4294967295), (0, 2), (0, 2), (0, 2), (0, 2), (0, 2), (0, 2), ((-9223372036854775808), 9223372036854775807), ((-9223372036854775808), 9223372036854775807), ((-9223372036854775808), 9223372036854775807)] [] []) 1000 60 65 p89.1 ⟨.lf, p89.2.2⟩) p89.2.1 = true := by kernel_rfl
theorem p89_ok {σ : Nat → Int} {W0 : World} (hL : L0 W0) (hk : Known2 σ [((-9223372036854775808), 9223372036854775807), (0, 4294967295), (0, 2), (0, 2), (0, 2), (0, 2), (0, 2), (0, 2), ((-9223372036854775808), 9223372036854775807), ((-9223372036854775808), 9223372036854775807), ((-9223372036854775808), 9223372036854775807)] []) : PureOk Tryd.prog 95 σ W0 65 p89 := pure_ok fit hk (FnsOk.nil) p89_run
noncomputable def p90 : Pur := ([.agg [I 5, .int .i64 (.var 3), I 0, I 0, U 0]], .inil, 1048576)
theorem p90_run : ranPure (evCall (cxX Tryd.prog bad [((-9223372036854775808), 9223372036854775807), (0, 4294967295), (0, 2), (0, 2), (0, 2), (0, 2), (0, 2), (0, 2), ((-9223372036854775808), 9223372036854775807), ((-9223372036854775808), 9223372036854775807), ((-9223372036854775808), 9223372036854775807)] [] []) 1000 60 65 p90.1 ⟨.lf, p90.2.2⟩) p90.2.1 = true := by kernel_rfl
theorem p90_ok {σ : Nat → Int} {W0 : World} (hL : L0 W0) (hk : Known2 σ [((-9223372036854775808), 9223372036854775807), (0, 4294967295), (0, 2), (0, 2), (0, 2), (0, 2), (0, 2), (0, 2), ((-9223372036854775808), 9223372036854775807), ((-9223372036854775808), 9223372036854775807), ((-9223372036854775808), 9223372036854775807)] []) : PureOk Tryd.prog 95 σ W0 65 p90 := pure_ok fit hk (FnsOk.nil) p90_run
noncomputable def p91 : Pur := ([.agg [I 5, .int .i64 (.var 4), I 0, I 0, U 0]], .inil, 1048576)
theorem p91_run : ranPure (evCall (cxX Tryd.prog bad [((-9223372036854775808), 9223372036854775807), (0, 4294967295), (0, 2), (0, 2), (0, 2), (0, 2), (0, 2), (0, 2), ((-9223372036854775808), 9223372036854775807), ((-9223372036854775808), 9223372036854775807), ((-9223372036854775808), 9223372036854775807)] [] []) 1000 60 65 p91.1 ⟨.lf, p91.2.2⟩) p91.2.1 = true := by kernel_rfl
theorem p91_ok {σ : Nat → Int} {W0 : World} (hL : L0 W0) (hk : Known2 σ [((-9223372036854775808), 9223372036854775807), (0, 4294967295), (0, 2), (0, 2), (0, 2), (0, 2), (0, 2), (0, 2), ((-9223372036854775808), 9223372036854775807), ((-9223372036854775808), 9223372036854775807), ((-9223372036854775808), 9223372036854775807)] []) : PureOk Tryd.prog 95 σ W0 65 p91 := pure_ok fit hk (FnsOk.nil) p91_run
noncomputable def p92 : Pur := ([.agg [I 5, .int .i64 (.var 2), I 0, I 0, U 1]], .inil, 1048576)
theorem p92_run : ranPure (evCall (cxX Tryd.prog bad [((-9223372036854775808), 9223372036854775807), (0, 4294967295), (0, 2), (0, 2), (0, 2), (0, 2), (0, 2), (0, 2), ((-9223372036854775808), 9223372036854775807), ((-9223372036854775808), 9223372036854775807), ((-9223372036854775808), 9223372036854775807)] [] []) 1000 60 65 p92.1 ⟨.lf, p92.2.2⟩) p92.2.1 = true := by kernel_rfl
theorem p92_ok {σ : Nat → Int} {W0 : World} (hL : L0 W0) (hk : Known2 σ [((-9223372036854775808), 9223372036854775807), (0, 4294967295), (0, 2), (0, 2), (0, 2), (0, 2), (0, 2), (0, 2), ((-9223372036854775808), 9223372036854775807), ((-9223372036854775808), 9223372036854775807), ((-9223372036854775808), 9223372036854775807)] []) : PureOk Tryd.prog 95 σ W0 65 p92 := pure_ok fit hk (FnsOk.nil) p92_run
noncomputable def p93 : Pur := ([.agg [I 5, .int .i64 (.var 3), I 0, I 0, U 1]], .inil, 1048576)
theorem p93_run : ranPure (evCall (cxX Tryd.prog bad [((-9223372036854775808), 9223372036854775807), (0, 4294967295), (0, 2), (0, 2), (0, 2), (0, 2), (0, 2), (0, 2), ((-9223372036854775808), 9223372036854775807), ((-9223372036854775808), 9223372036854775807), ((-9223372036854775808), 9223372036854775807)] [] []) 1000 60 65 p93.1 ⟨.lf, p93.2.2⟩) p93.2.1 = true := by kernel_rfl
theorem p93_ok {σ : Nat → Int} {W0 : World} (hL : L0 W0) (hk : Known2 σ [((-9223372036854775808), 9223372036854775807), (0, 4294967295), (0, 2), (0, 2), (0, 2), (0, 2), (0, 2), (0, 2), ((-9223372036854775808), 9223372036854775807), ((-9223372036854775808), 9223372036854775807), ((-9223372036854775808), 9223372036854775807)] []) : PureOk Tryd.prog 95 σ W0 65 p93 := pure_ok fit hk (FnsOk.nil) p93_run
noncomputable def p94 : Pur := ([.agg [I 5, .int .i64 (.var 4), I 0, I 0, U 1]], .inil, 1048576)
theorem p94_run : ranPure (evCall (cxX Tryd.prog bad [((-9223372036854775808), 9223372036854775807), (0, 4294967295), (0, 2), (0, 2), (0, 2), (0, 2), (0, 2), (0, 2), ((-9223372036854775808), 9223372036854775807), ((-9223372036854775808), 9223372036854775807), ((-9223372036854775808), 9223372036854775807)] [] []) 1000 60 65 p94.1 ⟨.lf, p94.2.2⟩) p94.2.1 = true := by kernel_rfl
theorem p94_ok {σ : Nat → Int} {W0 : World} (hL : L0 W0) (hk : Known2 σ [((-9223372036854775808), 9223372036854775807), (0, 4294967295), (0, 2), (0, 2), (0, 2), (0, 2), (0, 2), (0, 2), ((-9223372036854775808), 9223372036854775807), ((-9223372036854775808), 9223372036854775807), ((-9223372036854775808), 9223372036854775807)] []) : PureOk Tryd.prog 95 σ W0 65 p94 := pure_ok fit hk (FnsOk.nil) p94_run
noncomputable def p95 : Pur := ([.agg [I 5, .int .i64 (.var 2), I 0, I 0, U 2]], .inil, 1048576)
theorem p95_run : ranPure (evCall (cxX Tryd.prog bad [((-9223372036854775808), 9223372036854775807), (0, 4294967295), (0, 2), (0, 2), (0, 2), (0, 2), (0, 2), (0, 2), ((-9223372036854775808), 9223372036854775807), ((-9223372036854775808), 9223372036854775807), ((-9223372036854775808), 9223372036854775807)] [] []) 1000 60 65 p95.1 ⟨.lf, p95.2.2⟩) p95.2.1 = true := by kernel_rfl
theorem p95_ok {σ : Nat → Int} {W0 : World} (hL : L0 W0) (hk : Known2 σ [((-9223372036854775808), 9223372036854775807), (0, 4294967295), (0, 2), (0, 2), (0, 2), (0, 2), (0, 2), (0, 2), ((-9223372036854775808), 9223372036854775807), ((-9223372036854775808), 9223372036854775807), ((-9223372036854775808), 9223372036854775807)] []) : PureOk Tryd.prog 95 σ W0 65 p95 := pure_ok fit hk (FnsOk.nil) p95_run
noncomputable def p96 : Pur := ([.agg [I 5, .int .i64 (.var 3), I 0, I 0, U 2]], .inil, 1048576)
theorem p96_run : ranPure (evCall (cxX Tryd.prog bad [((-9223372036854775808), 9223372036854775807), (0, 4294967295), (0, 2), (0, 2), (0, 2), (0, 2), (0, 2), (0, 2), ((-9223372036854775808), 9223372036854775807), ((-9223372036854775808), 9223372036854775807), ((-9223372036854775808), 9223372036854775807)] [] []) 1000 60 65 p96.1 ⟨.lf, p96.2.2⟩) p96.2.1 = true := by kernel_rfl
theorem p96_ok {σ : Nat → Int} {W0 : World} (hL : L0 W0) (hk : Known2 σ [((-9223372036854775808), 9223372036854775807), (0, 4294967295), (0, 2), (0, 2), (0, 2), (0, 2), (0, 2), (0, 2), ((-9223372036854775808), 9223372036854775807), ((-9223372036854775808), 9223372036854775807), ((-9223372036854775808), 9223372036854775807)] []) : PureOk Tryd.prog 95 σ W0 65 p96 := pure_ok fit hk (FnsOk.nil) p96_run
noncomputable def p97 : Pur := ([.agg [I 5, .int .i64 (.var 4), I 0, I 0, U 2]], .inil, 1048576)
theorem p97_run : ranPure (evCall (cxX Tryd.prog bad [((-9223372036854775808), 9223372036854775807), (0, 4294967295), (0, 2), (0, 2), (0, 2), (0, 2), (0, 2), (0, 2), ((-9223372036854775808), 9223372036854775807), ((-9223372036854775808), 9223372036854775807), ((-9223372036854775808), 9223372036854775807)] [] []) 1000 60 65 p97.1 ⟨.lf, p97.2.2⟩) p97.2.1 = true := by kernel_rfl
theorem p97_ok {σ : Nat → Int} {W0 : World} (hL : L0 W0) (hk : Known2 σ [((-9223372036854775808), 9223372036854775807), (0, 4294967295), (0, 2), (0, 2), (0, 2), (0, 2), (0, 2), (0, 2), ((-9223372036854775808), 9223372036854775807), ((-9223372036854775808), 9223372036854775807), ((-9223372036854775808), 9223372036854775807)] []) : PureOk Tryd.prog 95 σ W0 65 p97 := pure_ok fit hk (FnsOk.nil) p97_run
noncomputable def y41 : List Sym := [s0, s7, s14, s1, s2, s3, s4, s5, s6, s8, s9, s10, s11, s12, s13, s15, s16, s17]
theorem y41_ok {W0 : World} (hL : L0 W0) : ∀ x ∈ y41, SymOk Tryd.prog 95 W0 47 x := all_cons (s0_ok hL) (all_cons (s7_ok hL) (all_cons (s14_ok hL) (all_cons (s1_ok hL) (all_cons (s2_ok hL) (all_cons (s3_ok hL) (all_cons (s4_ok hL) (all_cons (s5_ok hL) (all_cons (s6_ok hL) (all_cons (s8_ok hL) (all_cons (s9_ok hL) (all_cons (s10_ok hL) (all_cons (s11_ok hL) (all_cons (s12_ok hL) (all_cons (s13_ok hL) (all_cons (s15_ok hL) (all_cons (s16_ok hL) (all_cons (s17_ok hL) (all_nil))))))))))))))))))
noncomputable def q42 : Fns := [(10, pureFn [p0]), (6, frameFn [m88])]
theorem q42_ok {σ : Nat → Int} {W0 : World} (hL : L0 W0) : FnsOk Tryd.prog 95 σ W0 q42 := FnsOk.cons (pure_fn_ok (all_cons (p0_ok hL) (all_nil))) (FnsOk.cons (frame_fn_ok (all_cons (m88_ok hL) (all_nil))) (FnsOk.nil))
theorem case22 : CaseR (rowH (sentH 225 12 errTab) [.int .i64 (.var 8), .int .i64 (.var 9), .int .i64 (.var 10)]) [((-9223372036854775808), 9223372036854775807), (0, 4294967295), (0, 2), (0, 2), (0, 2), (0, 2), (0, 2), (0, 2), ((-9223372036854775808), 9223372036854775807), ((-9223372036854775808), 9223372036854775807), ((-9223372036854775808), 9223372036854775807)] [] [(0, 5, .lit 2), (8, 3, .var 2), (9, 3, .var 3), (10, 3, .var 4)] [.int .i64 (.var 0), .slice 18 0 3 3 1 false, .int .u32 (.var 1)] := caseR (fun hL hk hT => FnsOk.cons (hT.ok fit) (FnsOk.cons (pure_fn_ok (all_cons (p6_ok hL) (all_cons (p7_ok hL) (all_cons (p8_ok hL) (all_cons (p9_ok hL) (all_cons (p10_ok hL) (all_cons (p11_ok hL) (all_cons (p89_ok hL hk) (all_cons (p90_ok hL hk) (all_cons (p91_ok hL hk) (all_cons (p4_ok hL) (all_cons (p5_ok hL) (all_cons (p23_ok hL) (all_cons (p92_ok hL hk) (all_cons (p93_ok hL hk) (all_cons (p94_ok hL hk) (all_cons (p22_ok hL) (all_cons (p76_ok hL) (all_cons (p95_ok hL hk) (all_cons (p96_ok hL hk) (all_cons (p97_ok hL hk) (all_cons (p75_ok hL) (all_nil))))))))))))))))))))))) (FnsOk.cons (sym_fn_ok (Γ := cxX Tryd.prog bad [((-9223372036854775808), 9223372036854775807), (0, 4294967295), (0, 2), (0, 2), (0, 2), (0, 2), (0, 2), (0, 2), ((-9223372036854775808), 9223372036854775807), ((-9223372036854775808), 9223372036854775807), ((-9223372036854775808), 9223372036854775807)] [] []) (fix := 18) ⟨hk.rng, hk.facts⟩ (by decide) (y41_ok hL)) ((q42_ok hL))))) (by kernel_rfl : isTrue (evCall (cxX Tryd.prog bad [((-9223372036854775808), 9223372036854775807), (0, 4294967295), (0, 2), (0, 2), (0, 2), (0, 2), (0, 2), (0, 2), ((-9223372036854775808), 9223372036854775807), ((-9223372036854775808), 9223372036854775807), ((-9223372036854775808), 9223372036854775807)] [] ((11, numExtE [(0, 5, .lit 2), (8, 3, .var 2), (9, 3, .var 3), (10, 3, .var 4)]) :: (65, pureFn [p6, p7, p8, p9, p10, p11, p89, p90, p91, p4, p5, p23, p92, p93, p94, p22, p76, p95, p96, p97, p75]) :: (47, symFn (cxX Tryd.prog bad [((-9223372036854775808), 9223372036854775807), (0, 4294967295), (0, 2), (0, 2), (0, 2), (0, 2), (0, 2), (0, 2), ((-9223372036854775808), 9223372036854775807), ((-9223372036854775808), 9223372036854775807), ((-9223372036854775808), 9223372036854775807)] [] []) 18 y41) :: q42)) 1000 60 4 [.int .i64 (.var 0), .slice 18 0 3 3 1 false, .int .u32 (.var 1)] (rowH (sentH 225 12 errTab) [.int .i64 (.var 8), .int .i64 (.var 9), .int .i64 (.var 10)])) = true)
noncomputable def h43 : H := hUpd h11 189 [] [] []
noncomputable def h44 : H := hUpd h11 244 [] [(190, .cells 3 (rp 16 ([bF, I 0, bF]) ([])) false),
  (238, .cells 3 (rp 6 ([bF, I 0, bF]) ([])) false),
  (214, .cells 1 ([[.snil]]) false),
  (230, .cells 1 ([[.slice 229 0 12 12 3 true]]) false),
  (198, .cells 2 ([[.ptr 193 0, .ptr 197 0]]) false),
  (234, .cells 1 ([[.slice 233 0 8 8 3 true]]) false),
  (202, .cells 1 ([[.slice 201 0 8 8 3 true]]) false),
  (242, .cells 1 ([[.snil]]) false),
  (226, .cells 1 ([[.snil]]) false),
  (194, .cells 3 (rp 24 ([bF, I 0, bF]) ([])) false),
  (220, .cells 1 ([[.snil]]) false),
  (236, .map [] 0),
  (204, .cells 3 ([[.ptr 202 0, .slice 203 0 8 8 107 true, .slice 228 0 8 8 1 false]]) false),
  (228, .cells 1 ([[.ptr 205 0], [.ptr 208 0], [.ptr 211 0], [.ptr 214 0], [.ptr 217 0], [.ptr 220 0], [.ptr 223 0], [.ptr 226 0]]) false),
  (196, .cells 32 (rp 24 (rp 32 (U 0) ([])) ([])) false),
  (232, .cells 2 ([[.ptr 230 0, .slice 231 0 12 12 2 true]]) false),
  (200, .cells 3 ([[.ptr 198 0, I 16, .ptr 199 0]]) false),
  (240, .cells 31 (rp 6 ((bF) :: rp 4 (I 0) ((U 0) :: rp 4 (I 0) ((U 0) :: rp 4 (I 0) ((U 0) :: rp 4 (I 0) ((U 0) :: rp 4 (I 0) ((U 0) :: rp 4 (I 0) ([U 0]))))))) ([])) false),
  (208, .cells 1 ([[.snil]]) false),
  (192, .cells 80 (rp 16 (rp 4 (I 0) ((U 0) :: rp 4 (I 0) ((U 0) :: rp 4 (I 0) ((U 0) :: rp 4 (I 0) ((U 0) :: rp 4 (I 0) ((U 0) :: rp 4 (I 0) ((U 0) :: rp 4 (I 0) ((U 0) :: rp 4 (I 0) ((U 0) :: rp 4 (I 0) ((U 0) :: rp 4 (I 0) ((U 0) :: rp 4 (I 0) ((U 0) :: rp 4 (I 0) ((U 0) :: rp 4 (I 0) ((U 0) :: rp 4 (I 0) ((U 0) :: rp 4 (I 0) ((U 0) :: rp 4 (I 0) ([U 0]))))))))))))))))) ([])) false),
  (237, .cells 5 ([[.ptr 234 0, .slice 235 0 8 8 3 true, .map 236, .ptr 200 0, .ptr 204 0]]) false),
  (205, .cells 1 ([[.snil]]) false),
  (229, .cells 3 (rp 12 ([bF, I 0, bF]) ([])) false),
  (197, .cells 2 ([[.ptr 195 0, .slice 196 0 24 24 32 true]]) false),
  (217, .cells 1 ([[.snil]]) false),
  (233, .cells 3 (rp 8 ([bF, I 0, bF]) ([])) false),
  (201, .cells 3 (rp 8 ([bF, I 0, bF]) ([])) false),
  (241, .cells 2 ([[.ptr 239 0, .slice 240 0 6 6 31 true]]) false),
  (193, .cells 2 ([[.ptr 191 0, .slice 192 0 16 16 80 true]]) false),
  (235, .cells 3 (rp 8 ([I 0, I 0, I 0]) ([])) false),
  (203, .cells 107 (rp 8 (rp 9 (U 0) (rp 6 (I 0) ((U 0) :: rp 4 (I 0) ((U 0) :: rp 4 (I 0) ((U 0) :: rp 4 (I 0) ((U 0) :: rp 4 (I 0) ((U 0) :: rp 4 (I 0) ((U 0) :: rp 4 (I 0) ((U 0) :: rp 4 (I 0) ((U 0) :: rp 4 (I 0) ((U 0) :: rp 4 (I 0) ((U 0) :: rp 4 (I 0) ((U 0) :: rp 4 (I 0) ((U 0) :: rp 4 (I 0) ((U 0) :: rp 4 (I 0) ((U 0) :: rp 4 (I 0) ((U 0) :: rp 4 (I 0) ((U 0) :: rp 4 (I 0) ((U 0) :: rp 4 (I 0) ((U 0) :: rp 4 (I 0) ([U 0, I 0]))))))))))))))))))))) ([])) false),
  (243, .cells 9 ([[.ptr 200 0, .ptr 204 0, .ptr 232 0, .ptr 237 0, .ptr 241 0, .ptr 242 0, .snil, .snil, I 0]]) false),
  (211, .cells 1 ([[.snil]]) false),
  (195, .cells 1 ([[.slice 194 0 24 24 3 true]]) false),
  (231, .cells 2 (rp 12 ([I 0, I 0]) ([])) false),
  (199, .cells 3 ([[I 16, .snil, I 0]]) false),
  (239, .cells 1 ([[.slice 238 0 6 6 3 true]]) false),
  (223, .cells 1 ([[.snil]]) false),
  (191, .cells 1 ([[.slice 190 0 16 16 3 true]]) false)] []
noncomputable def m98 : Memo := ⟨[.agg [I 16, I 24, I 8, I 12, I 8, I 6]], h43, .tuple [.ptr 243 0, .inil], h44⟩
theorem m98_run : ranTo (evCall (cxX Tryd.prog bad [] [] []) 1000 60 6 m98.args m98.h) m98.v m98.h' = true := by kernel_rfl
theorem m98_ok {σ : Nat → Int} {W0 : World} (hL : L0 W0) : MemoOk Tryd.prog 95 σ W0 6 m98 := memo_ok fit (Known2.nil σ) (FnsOk.nil) m98_run
noncomputable def s18 : Sym := ⟨[.ptr 18 0, .agg [.slice 19 0 1 1 1 true, I 12, .slice 20 0 4 4 1 false, bT]], h38, [18, 21, 24, 27, 39, 40, 53, 56, 57, 23, 32, 35, 50, 55, 22, 29, 36, 41, 58, 33, 34, 54, 19, 30, 51, 14, 6, 12, 16, 4, 2, 13, 17, 15, 3, 1, 0], [(0, 4294967295), (0, 1099511627775), (0, 1099511627775), (0, 1099511627775), (0, 1099511627775), (0, 1099511627775), (0, 1099511627775), (0, 1099511627775), (0, 1099511627775), (0, 1099511627775), (0, 4294967295), (0, 1099511627775), (0, 1099511627775), (0, 1099511627775), (0, 1099511627775), (0, 1099511627775), (0, 1099511627775), (0, 1099511627775), (0, 1099511627775), (0, 1099511627775), (0, 1099511627775), (0, 1099511627775), (0, 1099511627775), (0, 4294967295), (0, 1099511627775), (0, 1099511627775), (0, 1099511627775), (0, 1099511627775), (0, 1099511627775), (0, 1099511627775), (0, 1099511627775), (0, 1099511627775), (0, 1099511627775), (0, 1099511627775), (0, 1099511627775), (0, 1099511627775), (0, 4294967295), (0, 1099511627775), (0, 1099511627775), (0, 1099511627775), (0, 1099511627775), (0, 1099511627775), (0, 1099511627775), (0, 1099511627775), (0, 1099511627775), (0, 1099511627775), (0, 1099511627775), (0, 1099511627775), (0, 1099511627775), (0, 4294967295), (0, 1099511627775), (0, 1099511627775), (0, 1099511627775), (0, 1099511627775), (0, 1099511627775), (0, 1099511627775), (0, 1099511627775), (0, 1099511627775), (0, 1099511627775), (0, 1099511627775), (0, 1099511627775), (0, 1099511627775), (0, 1099511627775), (0, 1099511627775), (0, 1099511627775), (0, 1099511627775), (0, 1099511627775), (0, 1099511627775), (0, 1099511627775), (0, 1099511627775), (0, 1099511627775), (0, 1099511627775), (0, 4294967295), (0, 4294967295)],
  [(false, .sub (.lit 60) (.var 56), .lit 1, false), (false, .sub (.lit 60) (.add (.var 56) (.lit 1)), .lit 1, false), (false, .sub (.lit 60) (.add (.var 56) (.lit 2)), .lit 1, false), (false, .sub (.lit 60) (.add (.var 56) (.lit 3)), .lit 1, false)],
  .tuple [I 2, .inil],
  [.cel 30 2 9 (I 1),
  .cel 30 2 11 (I 8),
  .cel 30 2 16 (I 7),
  .cel 30 2 17 (I 3),
  .cel 30 2 21 (I 11),
  .cel 30 2 26 (I 12),
  .cel 30 2 31 (I 13),
  .cel 30 2 36 (I 14),
  .cel 30 2 91 (I 2),
  .cel 30 2 92 (I 2),
  .cel 30 2 95 (U 1),
  .cel 30 2 96 (I 7),
  .cel 30 2 97 (I 3),
  .row 33 3 ([I 0, I 12]),
  .row 35 0 ([IZ (-1), I 60, .int .i64 (.add (.var 56) (.lit 4))]),
  .set 36 (.map [(.agg [I 3, I 0], .agg [I 0, I 0], 0), (.agg [I 3, I 1], .agg [I 0, I 0], 1), (.agg [I 2, I 0], .agg [I 0, I 0], 2), (.agg [I 4, I 0], .agg [I 0, I 0], 3), (.agg [I 3, I 2], .agg [I 0, I 0], 4), (.agg [I 3, I 3], .agg [I 0, I 0], 5), (.agg [I 2, I 1], .agg [I 0, I 0], 6), (.agg [I 4, I 1], .agg [I 0, I 0], 7), (.agg [I 3, I 4], .agg [I 0, I 0], 8), (.agg [I 3, I 5], .agg [I 0, I 0], 9), (.agg [I 2, I 2], .agg [I 0, I 0], 10), (.agg [I 4, I 2], .agg [I 0, I 0], 11)] 12),
  .row 41 2 ([bT, I 0, bF]),
  .row 50 3 ([bT, I 0, bF]),
  .cel 54 2 0 (I 3),
  .cel 54 2 1 (I 4),
  .cel 54 2 5 (I 3),
  .cel 54 2 6 (I 5),
  .cel 56 4 0 (.int .u32 (.var 0)),
  .row 57 2 ([bT, I 0, bF]),
  .row 58 4 ([bT, I 0, bF]),
  .row 58 5 ([bT, I 0, bF])], 534⟩
theorem s18_run : ranTo (evCall (cxX Tryd.prog bad s18.rng s18.facts [(65, pureFn l33)]) 1000 60 47 s18.args s18.pre) s18.v s18.post = true := by kernel_rfl
theorem s18_ok {W0 : World} (hL : L0 W0) : SymOk Tryd.prog 95 W0 47 s18 := sym_ok fit (fun σ hk => FnsOk.cons (pure_fn_ok (l33_ok hL)) (FnsOk.nil)) s18_run (by kernel_rfl)
noncomputable def p99 : Pur := ([.agg [I 5, .int .i64 (.var 2), I 0, I 0, U 0]], .inil, 1048576)
theorem p99_run : ranPure (evCall (cxX Tryd.prog bad [((-9223372036854775808), 9223372036854775807), (0, 4294967295), (0, 2), (0, 2), (0, 2), (0, 2), (0, 2), (0, 2), ((-9223372036854775808), 9223372036854775807), ((-9223372036854775808), 9223372036854775807), ((-9223372036854775808), 9223372036854775807), ((-9223372036854775808), 9223372036854775807)] [] []) 1000 60 65 p99.1 ⟨.lf, p99.2.2⟩) p99.2.1 = true := by kernel_rfl
theorem p99_ok {σ : Nat → Int} {W0 : World} (hL : L0 W0) (hk : Known2 σ [((-9223372036854775808), 9223372036854775807), (0, 4294967295), (0, 2), (0, 2), (0, 2), (0, 2), (0, 2), (0, 2), ((-9223372036854775808), 9223372036854775807), ((-9223372036854775808), 9223372036854775807), ((-9223372036854775808), 9223372036854775807), ((-9223372036854775808), 9223372036854775807)] []) : PureOk Tryd.prog 95 σ W0 65 p99 := pure_ok fit hk (FnsOk.nil) p99_run
noncomputable def p100 : Pur := ([.agg [I 5, .int .i64 (.var 3), I 0, I 0, U 0]], .inil, 1048576)
theorem p100_run : ranPure (evCall (cxX Tryd.prog bad [((-9223372036854775808), 9223372036854775807), (0, 4294967295), (0, 2), (0, 2), (0, 2), (0, 2), (0, 2), (0, 2), ((-9223372036854775808), 9223372036854775807), ((-9223372036854775808), 9223372036854775807), ((-9223372036854775808), 9223372036854775807), ((-9223372036854775808), 9223372036854775807)] [] []) 1000 60 65 p100.1 ⟨.lf, p100.2.2⟩) p100.2.1 = true := by kernel_rfl
theorem p100_ok {σ : Nat → Int} {W0 : World} (hL : L0 W0) (hk : Known2 σ [((-9223372036854775808), 9223372036854775807), (0, 4294967295), (0, 2), (0, 2), (0, 2), (0, 2), (0, 2), (0, 2), ((-9223372036854775808), 9223372036854775807), ((-9223372036854775808), 9223372036854775807), ((-9223372036854775808), 9223372036854775807), ((-9223372036854775808), 9223372036854775807)] []) : PureOk Tryd.prog 95 σ W0 65 p100 := pure_ok fit hk (FnsOk.nil) p100_run
noncomputable def p101 : Pur := ([.agg [I 5, .int .i64 (.var 4), I 0, I 0, U 0]], .inil, 1048576)
theorem p101_run : ranPure (evCall (cxX Tryd.prog bad [((-9223372036854775808), 9223372036854775807), (0, 4294967295), (0, 2), (0, 2), (0, 2), (0, 2), (0, 2), (0, 2), ((-9223372036854775808), 9223372036854775807), ((-9223372036854775808), 9223372036854775807), ((-9223372036854775808), 9223372036854775807), ((-9223372036854775808), 9223372036854775807)] [] []) 1000 60 65 p101.1 ⟨.lf, p101.2.2⟩) p101.2.1 = true := by kernel_rfl
theorem p101_ok {σ : Nat → Int} {W0 : World} (hL : L0 W0) (hk : Known2 σ [((-9223372036854775808), 9223372036854775807), (0, 4294967295), (0, 2), (0, 2), (0, 2), (0, 2), (0, 2), (0, 2), ((-9223372036854775808), 9223372036854775807), ((-9223372036854775808), 9223372036854775807), ((-9223372036854775808), 9223372036854775807), ((-9223372036854775808), 9223372036854775807)] []) : PureOk Tryd.prog 95 σ W0 65 p101 := pure_ok fit hk (FnsOk.nil) p101_run
noncomputable def p102 : Pur := ([.agg [I 5, .int .i64 (.var 5), I 0, I 0, U 0]], .inil, 1048576)
theorem p102_run : ranPure (evCall (cxX Tryd.prog bad [((-9223372036854775808), 9223372036854775807), (0, 4294967295), (0, 2), (0, 2), (0, 2), (0, 2), (0, 2), (0, 2), ((-9223372036854775808), 9223372036854775807), ((-9223372036854775808), 9223372036854775807), ((-9223372036854775808), 9223372036854775807), ((-9223372036854775808), 9223372036854775807)] [] []) 1000 60 65 p102.1 ⟨.lf, p102.2.2⟩) p102.2.1 = true := by kernel_rfl
theorem p102_ok {σ : Nat → Int} {W0 : World} (hL : L0 W0) (hk : Known2 σ [((-9223372036854775808), 9223372036854775807), (0, 4294967295), (0, 2), (0, 2), (0, 2), (0, 2), (0, 2), (0, 2), ((-9223372036854775808), 9223372036854775807), ((-9223372036854775808), 9223372036854775807), ((-9223372036854775808), 9223372036854775807), ((-9223372036854775808), 9223372036854775807)] []) : PureOk Tryd.prog 95 σ W0 65 p102 := pure_ok fit hk (FnsOk.nil) p102_run
noncomputable def p103 : Pur := ([.agg [I 5, .int .i64 (.var 2), I 0, I 0, U 1]], .inil, 1048576)
theorem p103_run : ranPure (evCall (cxX Tryd.prog bad [((-9223372036854775808), 9223372036854775807), (0, 4294967295), (0, 2), (0, 2), (0, 2), (0, 2), (0, 2), (0, 2), ((-9223372036854775808), 9223372036854775807), ((-9223372036854775808), 9223372036854775807), ((-9223372036854775808), 9223372036854775807), ((-9223372036854775808), 9223372036854775807)] [] []) 1000 60 65 p103.1 ⟨.lf, p103.2.2⟩) p103.2.1 = true := by kernel_rfl
theorem p103_ok {σ : Nat → Int} {W0 : World} (hL : L0 W0) (hk : Known2 σ [((-9223372036854775808), 9223372036854775807), (0, 4294967295), (0, 2), (0, 2), (0, 2), (0, 2), (0, 2), (0, 2), ((-9223372036854775808), 9223372036854775807), ((-9223372036854775808), 9223372036854775807), ((-9223372036854775808), 9223372036854775807), ((-9223372036854775808), 9223372036854775807)] []) : PureOk Tryd.prog 95 σ W0 65 p103 := pure_ok fit hk (FnsOk.nil) p103_run
noncomputable def p104 : Pur := ([.agg [I 5, .int .i64 (.var 3), I 0, I 0, U 1]], .inil, 1048576)
theorem p104_run : ranPure (evCall (cxX Tryd.prog bad [((-9223372036854775808), 9223372036854775807), (0, 4294967295), (0, 2), (0, 2), (0, 2), (0, 2), (0, 2), (0, 2), ((-9223372036854775808), 9223372036854775807), ((-9223372036854775808), 9223372036854775807), ((-9223372036854775808), 9223372036854775807), ((-9223372036854775808), 9223372036854775807)] [] []) 1000 60 65 p104.1 ⟨.lf, p104.2.2⟩) p104.2.1 = true := by kernel_rfl
theorem p104_ok {σ : Nat → Int} {W0 : World} (hL : L0 W0) (hk : Known2 σ [((-9223372036854775808), 9223372036854775807), (0, 4294967295), (0, 2), (0, 2), (0, 2), (0, 2), (0, 2), (0, 2), ((-9223372036854775808), 9223372036854775807), ((-9223372036854775808), 9223372036854775807), ((-9223372036854775808), 9223372036854775807), ((-9223372036854775808), 9223372036854775807)] []) : PureOk Tryd.prog 95 σ W0 65 p104 := pure_ok fit hk (FnsOk.nil) p104_run
noncomputable def p105 : Pur := ([.agg [I 5, .int .i64 (.var 4), I 0, I 0, U 1]], .inil, 1048576)
theorem p105_run : ranPure (evCall (cxX Tryd.prog bad [((-9223372036854775808), 9223372036854775807), (0, 4294967295), (0, 2), (0, 2), (0, 2), (0, 2), (0, 2), (0, 2), ((-9223372036854775808), 9223372036854775807), ((-9223372036854775808), 9223372036854775807), ((-9223372036854775808), 9223372036854775807), ((-9223372036854775808), 9223372036854775807)] [] []) 1000 60 65 p105.1 ⟨.lf, p105.2.2⟩) p105.2.1 = true := by kernel_rfl
theorem p105_ok {σ : Nat → Int} {W0 : World} (hL : L0 W0) (hk : Known2 σ [((-9223372036854775808), 9223372036854775807), (0, 4294967295), (0, 2), (0, 2), (0, 2), (0, 2), (0, 2), (0, 2), ((-9223372036854775808), 9223372036854775807), ((-9223372036854775808), 9223372036854775807), ((-9223372036854775808), 9223372036854775807), ((-9223372036854775808), 9223372036854775807)] []) : PureOk Tryd.prog 95 σ W0 65 p105 := pure_ok fit hk (FnsOk.nil) p105_run
noncomputable def p106 : Pur := ([.agg [I 5, .int .i64 (.var 5), I 0, I 0, U 1]], .inil, 1048576)
theorem p106_run : ranPure (evCall (cxX Tryd.prog bad [((-9223372036854775808), 9223372036854775807), (0, 4294967295), (0, 2), (0, 2), (0, 2), (0, 2), (0, 2), (0, 2), ((-9223372036854775808), 9223372036854775807), ((-9223372036854775808), 9223372036854775807), ((-9223372036854775808), 9223372036854775807), ((-9223372036854775808), 9223372036854775807)] [] []) 1000 60 65 p106.1 ⟨.lf, p106.2.2⟩) p106.2.1 = true := by kernel_rfl
theorem p106_ok {σ : Nat → Int} {W0 : World} (hL : L0 W0) (hk : Known2 σ [((-9223372036854775808), 9223372036854775807), (0, 4294967295), (0, 2), (0, 2), (0, 2), (0, 2), (0, 2), (0, 2), ((-9223372036854775808), 9223372036854775807), ((-9223372036854775808), 9223372036854775807), ((-9223372036854775808), 9223372036854775807), ((-9223372036854775808), 9223372036854775807)] []) : PureOk Tryd.prog 95 σ W0 65 p106 := pure_ok fit hk (FnsOk.nil) p106_run
noncomputable def p107 : Pur := ([.agg [I 5, .int .i64 (.var 2), I 0, I 0, U 2]], .inil, 1048576)
theorem p107_run : ranPure (evCall (cxX Tryd.prog bad [((-9223372036854775808), 9223372036854775807), (0, 4294967295), (0, 2), (0, 2), (0, 2), (0, 2), (0, 2), (0, 2), ((-9223372036854775808), 9223372036854775807), ((-9223372036854775808), 9223372036854775807), ((-9223372036854775808), 9223372036854775807), ((-9223372036854775808), 9223372036854775807)] [] []) 1000 60 65 p107.1 ⟨.lf, p107.2.2⟩) p107.2.1 = true := by kernel_rfl
theorem p107_ok {σ : Nat → Int} {W0 : World} (hL : L0 W0) (hk : Known2 σ [((-9223372036854775808), 9223372036854775807), (0, 4294967295), (0, 2), (0, 2), (0, 2), (0, 2), (0, 2), (0, 2), ((-9223372036854775808), 9223372036854775807), ((-9223372036854775808), 9223372036854775807), ((-9223372036854775808), 9223372036854775807), ((-9223372036854775808), 9223372036854775807)] []) : PureOk Tryd.prog 95 σ W0 65 p107 := pure_ok fit hk (FnsOk.nil) p107_run
noncomputable def p108 : Pur := ([.agg [I 5, .int .i64 (.var 3), I 0, I 0, U 2]], .inil, 1048576)
theorem p108_run : ranPure (evCall (cxX Tryd.prog bad [((-9223372036854775808), 9223372036854775807), (0, 4294967295), (0, 2), (0, 2), (0, 2), (0, 2), (0, 2), (0, 2), ((-9223372036854775808), 9223372036854775807), ((-9223372036854775808), 9223372036854775807), ((-9223372036854775808), 9223372036854775807), ((-9223372036854775808), 9223372036854775807)] [] []) 1000 60 65 p108.1 ⟨.lf, p108.2.2⟩) p108.2.1 = true := by kernel_rfl
theorem p108_ok {σ : Nat → Int} {W0 : World} (hL : L0 W0) (hk : Known2 σ [((-9223372036854775808), 9223372036854775807), (0, 4294967295), (0, 2), (0, 2), (0, 2), (0, 2), (0, 2), (0, 2), ((-9223372036854775808), 9223372036854775807), ((-9223372036854775808), 9223372036854775807), ((-9223372036854775808), 9223372036854775807), ((-9223372036854775808), 9223372036854775807)] []) : PureOk Tryd.prog 95 σ W0 65 p108 := pure_ok fit hk (FnsOk.nil) p108_run
noncomputable def p109 : Pur := ([.agg [I 5, .int .i64 (.var 4), I 0, I 0, U 2]], .inil, 1048576)
theorem p109_run : ranPure (evCall (cxX Tryd.prog bad [((-9223372036854775808), 9223372036854775807), (0, 4294967295), (0, 2), (0, 2), (0, 2), (0, 2), (0, 2), (0, 2), ((-9223372036854775808), 9223372036854775807), ((-9223372036854775808), 9223372036854775807), ((-9223372036854775808), 9223372036854775807), ((-9223372036854775808), 9223372036854775807)] [] []) 1000 60 65 p109.1 ⟨.lf, p109.2.2⟩) p109.2.1 = true := by kernel_rfl
theorem p109_ok {σ : Nat → Int} {W0 : World} (hL : L0 W0) (hk : Known2 σ [((-9223372036854775808), 9223372036854775807), (0, 4294967295), (0, 2), (0, 2), (0, 2), (0, 2), (0, 2), (0, 2), ((-9223372036854775808), 9223372036854775807), ((-9223372036854775808), 9223372036854775807), ((-9223372036854775808), 9223372036854775807), ((-9223372036854775808), 9223372036854775807)] []) : PureOk Tryd.prog 95 σ W0 65 p109 := pure_ok fit hk (FnsOk.nil) p109_run
noncomputable def p110 : Pur := ([.agg [I 5, .int .i64 (.var 5), I 0, I 0, U 2]], .inil, 1048576)
theorem p110_run : ranPure (evCall (cxX Tryd.prog bad [((-9223372036854775808), 9223372036854775807), (0, 4294967295), (0, 2), (0, 2), (0, 2), (0, 2), (0, 2), (0, 2), ((-9223372036854775808), 9223372036854775807), ((-9223372036854775808), 9223372036854775807), ((-9223372036854775808), 9223372036854775807), ((-9223372036854775808), 9223372036854775807)] [] []) 1000 60 65 p110.1 ⟨.lf, p110.2.2⟩) p110.2.1 = true := by kernel_rfl
theorem p110_ok {σ : Nat → Int} {W0 : World} (hL : L0 W0) (hk : Known2 σ [((-9223372036854775808), 9223372036854775807), (0, 4294967295), (0, 2), (0, 2), (0, 2), (0, 2), (0, 2), (0, 2), ((-9223372036854775808), 9223372036854775807), ((-9223372036854775808), 9223372036854775807), ((-9223372036854775808), 9223372036854775807), ((-9223372036854775808), 9223372036854775807)] []) : PureOk Tryd.prog 95 σ W0 65 p110 := pure_ok fit hk (FnsOk.nil) p110_run
noncomputable def y43 : List Sym := [s0, s7, s14, s1, s2, s3, s4, s5, s6, s8, s9, s10, s11, s12, s13, s15, s16, s17, s18]
theorem y43_ok {W0 : World} (hL : L0 W0) : ∀ x ∈ y43, SymOk Tryd.prog 95 W0 47 x := all_cons (s0_ok hL) (all_cons (s7_ok hL) (all_cons (s14_ok hL) (all_cons (s1_ok hL) (all_cons (s2_ok hL) (all_cons (s3_ok hL) (all_cons (s4_ok hL) (all_cons (s5_ok hL) (all_cons (s6_ok hL) (all_cons (s8_ok hL) (all_cons (s9_ok hL) (all_cons (s10_ok hL) (all_cons (s11_ok hL) (all_cons (s12_ok hL) (all_cons (s13_ok hL) (all_cons (s15_ok hL) (all_cons (s16_ok hL) (all_cons (s17_ok hL) (all_cons (s18_ok hL) (all_nil)))))))))))))))))))
noncomputable def q44 : Fns := [(10, pureFn [p0]), (6, frameFn [m98])]
theorem q44_ok {σ : Nat → Int} {W0 : World} (hL : L0 W0) : FnsOk Tryd.prog 95 σ W0 q44 := FnsOk.cons (pure_fn_ok (all_cons (p0_ok hL) (all_nil))) (FnsOk.cons (frame_fn_ok (all_cons (m98_ok hL) (all_nil))) (FnsOk.nil))
theorem case23 : CaseR (rowH (sentH 225 12 errTab) [.int .i64 (.var 8), .int .i64 (.var 9), .int .i64 (.var 10), .int .i64 (.var 11)]) [((-9223372036854775808), 9223372036854775807), (0, 4294967295), (0, 2), (0, 2), (0, 2), (0, 2), (0, 2), (0, 2), ((-9223372036854775808), 9223372036854775807), ((-9223372036854775808), 9223372036854775807), ((-9223372036854775808), 9223372036854775807), ((-9223372036854775808), 9223372036854775807)] [] [(0, 5, .lit 2), (8, 3, .var 2), (9, 3, .var 3), (10, 3, .var 4), (11, 3, .var 5)] [.int .i64 (.var 0), .slice 18 0 4 4 1 false, .int .u32 (.var 1)] := caseR (fun hL hk hT => FnsOk.cons (hT.ok fit) (FnsOk.cons (pure_fn_ok (all_cons (p6_ok hL) (all_cons (p7_ok hL) (all_cons (p8_ok hL) (all_cons (p9_ok hL) (all_cons (p10_ok hL) (all_cons (p11_ok hL) (all_cons (p99_ok hL hk) (all_cons (p100_ok hL hk) (all_cons (p101_ok hL hk) (all_cons (p102_ok hL hk) (all_cons (p4_ok hL) (all_cons (p5_ok hL) (all_cons (p23_ok hL) (all_cons (p103_ok hL hk) (all_cons (p104_ok hL hk) (all_cons (p105_ok hL hk) (all_cons (p106_ok hL hk) (all_cons (p22_ok hL) (all_cons (p76_ok hL) (all_cons (p107_ok hL hk) (all_cons (p108_ok hL hk) (all_cons (p109_ok hL hk) (all_cons (p110_ok hL hk) (all_cons (p75_ok hL) (all_nil)))))))))))))))))))))))))) (FnsOk.cons (sym_fn_ok (Γ := cxX Tryd.prog bad [((-9223372036854775808), 9223372036854775807), (0, 4294967295), (0, 2), (0, 2), (0, 2), (0, 2), (0, 2), (0, 2), ((-9223372036854775808), 9223372036854775807), ((-9223372036854775808), 9223372036854775807), ((-9223372036854775808), 9223372036854775807), ((-9223372036854775808), 9223372036854775807)] [] []) (fix := 18) ⟨hk.rng, hk.facts⟩ (by decide) (y43_ok hL)) ((q44_ok hL))))) (by kernel_rfl : isTrue (evCall (cxX Tryd.prog bad [((-9223372036854775808), 9223372036854775807), (0, 4294967295), (0, 2), (0, 2), (0, 2), (0, 2), (0, 2), (0, 2), ((-9223372036854775808), 9223372036854775807), ((-9223372036854775808), 9223372036854775807), ((-9223372036854775808), 9223372036854775807), ((-9223372036854775808), 9223372036854775807)] [] ((11, numExtE [(0, 5, .lit 2), (8, 3, .var 2), (9, 3, .var 3), (10, 3, .var 4), (11, 3, .var 5)]) :: (65, pureFn [p6, p7, p8, p9, p10, p11, p99, p100, p101, p102, p4, p5, p23, p103, p104, p105, p106, p22, p76, p107, p108, p109, p110, p75]) :: (47, symFn (cxX Tryd.prog bad [((-9223372036854775808), 9223372036854775807), (0, 4294967295), (0, 2), (0, 2), (0, 2), (0, 2), (0, 2), (0, 2), ((-9223372036854775808), 9223372036854775807), ((-9223372036854775808), 9223372036854775807), ((-9223372036854775808), 9223372036854775807), ((-9223372036854775808), 9223372036854775807)] [] []) 18 y43) :: q44)) 1000 60 4 [.int .i64 (.var 0), .slice 18 0 4 4 1 false, .int .u32 (.var 1)] (rowH (sentH 225 12 errTab) [.int .i64 (.var 8), .int .i64 (.var 9), .int .i64 (.var 10), .int .i64 (.var 11)])) = true)
noncomputable def h45 : H := hUpd h13 228 [] [] []
noncomputable def h46 : H := hUpd h13 283 [] [(238, .cells 3 ([[I 16, .snil, I 0]]) false),
  (270, .cells 2 (rp 12 ([I 0, I 0]) ([])) false),
  (278, .cells 1 ([[.slice 277 0 6 6 3 true]]) false),
  (230, .cells 1 ([[.slice 229 0 16 16 3 true]]) false),
  (262, .cells 1 ([[.snil]]) false),
  (250, .cells 1 ([[.snil]]) false),
  (282, .cells 9 ([[.ptr 239 0, .ptr 243 0, .ptr 271 0, .ptr 276 0, .ptr 280 0, .ptr 281 0, .snil, .snil, I 0]]) false),
  (234, .cells 1 ([[.slice 233 0 24 24 3 true]]) false),
  (242, .cells 107 (rp 8 (rp 9 (U 0) (rp 6 (I 0) ((U 0) :: rp 4 (I 0) ((U 0) :: rp 4 (I 0) ((U 0) :: rp 4 (I 0) ((U 0) :: rp 4 (I 0) ((U 0) :: rp 4 (I 0) ((U 0) :: rp 4 (I 0) ((U 0) :: rp 4 (I 0) ((U 0) :: rp 4 (I 0) ((U 0) :: rp 4 (I 0) ((U 0) :: rp 4 (I 0) ((U 0) :: rp 4 (I 0) ((U 0) :: rp 4 (I 0) ((U 0) :: rp 4 (I 0) ((U 0) :: rp 4 (I 0) ((U 0) :: rp 4 (I 0) ((U 0) :: rp 4 (I 0) ((U 0) :: rp 4 (I 0) ((U 0) :: rp 4 (I 0) ([U 0, I 0]))))))))))))))))))))) ([])) false),
  (274, .cells 3 (rp 8 ([I 0, I 0, I 0]) ([])) false),
  (236, .cells 2 ([[.ptr 234 0, .slice 235 0 24 24 32 true]]) false),
  (268, .cells 3 (rp 12 ([bF, I 0, bF]) ([])) false),
  (244, .cells 1 ([[.snil]]) false),
  (276, .cells 5 ([[.ptr 273 0, .slice 274 0 8 8 3 true, .map 275, .ptr 239 0, .ptr 243 0]]) false),
  (280, .cells 2 ([[.ptr 278 0, .slice 279 0 6 6 31 true]]) false),
  (232, .cells 2 ([[.ptr 230 0, .slice 231 0 16 16 80 true]]) false),
  (240, .cells 3 (rp 8 ([bF, I 0, bF]) ([])) false),
  (272, .cells 3 (rp 8 ([bF, I 0, bF]) ([])) false),
  (256, .cells 1 ([[.snil]]) false),
  (253, .cells 1 ([[.snil]]) false),
  (237, .cells 2 ([[.ptr 232 0, .ptr 236 0]]) false),
  (269, .cells 1 ([[.slice 268 0 12 12 3 true]]) false),
  (277, .cells 3 (rp 6 ([bF, I 0, bF]) ([])) false),
  (229, .cells 3 (rp 16 ([bF, I 0, bF]) ([])) false),
  (281, .cells 1 ([[.snil]]) false),
  (233, .cells 3 (rp 24 ([bF, I 0, bF]) ([])) false),
  (265, .cells 1 ([[.snil]]) false),
  (241, .cells 1 ([[.slice 240 0 8 8 3 true]]) false),
  (273, .cells 1 ([[.slice 272 0 8 8 3 true]]) false),
  (235, .cells 32 (rp 24 (rp 32 (U 0) ([])) ([])) false),
  (267, .cells 1 ([[.ptr 244 0], [.ptr 247 0], [.ptr 250 0], [.ptr 253 0], [.ptr 256 0], [.ptr 259 0], [.ptr 262 0], [.ptr 265 0]]) false),
  (243, .cells 3 ([[.ptr 241 0, .slice 242 0 8 8 107 true, .slice 267 0 8 8 1 false]]) false),
  (275, .map [] 0),
  (259, .cells 1 ([[.snil]]) false),
  (247, .cells 1 ([[.snil]]) false),
  (279, .cells 31 (rp 6 ((bF) :: rp 4 (I 0) ((U 0) :: rp 4 (I 0) ((U 0) :: rp 4 (I 0) ((U 0) :: rp 4 (I 0) ((U 0) :: rp 4 (I 0) ((U 0) :: rp 4 (I 0) ([U 0]))))))) ([])) false),
  (231, .cells 80 (rp 16 (rp 4 (I 0) ((U 0) :: rp 4 (I 0) ((U 0) :: rp 4 (I 0) ((U 0) :: rp 4 (I 0) ((U 0) :: rp 4 (I 0) ((U 0) :: rp 4 (I 0) ((U 0) :: rp 4 (I 0) ((U 0) :: rp 4 (I 0) ((U 0) :: rp 4 (I 0) ((U 0) :: rp 4 (I 0) ((U 0) :: rp 4 (I 0) ((U 0) :: rp 4 (I 0) ((U 0) :: rp 4 (I 0) ((U 0) :: rp 4 (I 0) ((U 0) :: rp 4 (I 0) ((U 0) :: rp 4 (I 0) ([U 0]))))))))))))))))) ([])) false),
  (239, .cells 3 ([[.ptr 237 0, I 16, .ptr 238 0]]) false),
  (271, .cells 2 ([[.ptr 269 0, .slice 270 0 12 12 2 true]]) false)] []
noncomputable def m111 : Memo := ⟨[.agg [I 16, I 24, I 8, I 12, I 8, I 6]], h45, .tuple [.ptr 282 0, .inil], h46⟩
theorem m111_run : ranTo (evCall (cxX Tryd.prog bad [] [] []) 1000 60 6 m111.args m111.h) m111.v m111.h' = true := by kernel_rfl
theorem m111_ok {σ : Nat → Int} {W0 : World} (hL : L0 W0) : MemoOk Tryd.prog 95 σ W0 6 m111 := memo_ok fit (Known2.nil σ) (FnsOk.nil) m111_run
noncomputable def s19 : Sym := ⟨[.ptr 18 0, .agg [.slice 19 0 1 1 1 true, I 12, .slice 20 0 5 5 1 false, bT]], h38, [18, 21, 24, 27, 39, 40, 53, 56, 57, 23, 32, 35, 50, 55, 22, 29, 36, 41, 58, 33, 34, 54, 19, 30, 51, 14, 6, 12, 16, 4, 2, 13, 17, 15, 3, 1, 0], [(0, 4294967295), (0, 1099511627775), (0, 1099511627775), (0, 1099511627775), (0, 1099511627775), (0, 1099511627775), (0, 1099511627775), (0, 1099511627775), (0, 1099511627775), (0, 1099511627775), (0, 4294967295), (0, 1099511627775), (0, 1099511627775), (0, 1099511627775), (0, 1099511627775), (0, 1099511627775), (0, 1099511627775), (0, 1099511627775), (0, 1099511627775), (0, 1099511627775), (0, 1099511627775), (0, 1099511627775), (0, 1099511627775), (0, 4294967295), (0, 1099511627775), (0, 1099511627775), (0, 1099511627775), (0, 1099511627775), (0, 1099511627775), (0, 1099511627775), (0, 1099511627775), (0, 1099511627775), (0, 1099511627775), (0, 1099511627775), (0, 1099511627775), (0, 1099511627775), (0, 4294967295), (0, 1099511627775), (0, 1099511627775), (0, 1099511627775), (0, 1099511627775), (0, 1099511627775), (0, 1099511627775), (0, 1099511627775), (0, 1099511627775), (0, 1099511627775), (0, 1099511627775), (0, 1099511627775), (0, 1099511627775), (0, 4294967295), (0, 1099511627775), (0, 1099511627775), (0, 1099511627775), (0, 1099511627775), (0, 1099511627775), (0, 1099511627775), (0, 1099511627775), (0, 1099511627775), (0, 1099511627775), (0, 1099511627775), (0, 1099511627775), (0, 1099511627775), (0, 1099511627775), (0, 1099511627775), (0, 1099511627775), (0, 1099511627775), (0, 1099511627775), (0, 1099511627775), (0, 1099511627775), (0, 1099511627775), (0, 1099511627775), (0, 1099511627775), (0, 4294967295), (0, 4294967295)],
  [(false, .sub (.lit 60) (.var 56), .lit 1, false), (false, .sub (.lit 60) (.add (.var 56) (.lit 1)), .lit 1, false), (false, .sub (.lit 60) (.add (.var 56) (.lit 2)), .lit 1, false), (false, .sub (.lit 60) (.add (.var 56) (.lit 3)), .lit 1, false)],
  .tuple [I 2, .inil],
  [.cel 30 2 9 (I 1),
  .cel 30 2 11 (I 8),
  .cel 30 2 16 (I 7),
  .cel 30 2 17 (I 3),
  .cel 30 2 21 (I 11),
  .cel 30 2 26 (I 12),
  .cel 30 2 31 (I 13),
  .cel 30 2 36 (I 14),
  .cel 30 2 91 (I 2),
  .cel 30 2 92 (I 2),
  .cel 30 2 95 (U 1),
  .cel 30 2 96 (I 7),
  .cel 30 2 97 (I 3),
  .row 33 3 ([I 0, I 12]),
  .row 35 0 ([IZ (-1), I 60, .int .i64 (.add (.var 56) (.lit 4))]),
  .set 36 (.map [(.agg [I 3, I 0], .agg [I 0, I 0], 0), (.agg [I 3, I 1], .agg [I 0, I 0], 1), (.agg [I 2, I 0], .agg [I 0, I 0], 2), (.agg [I 4, I 0], .agg [I 0, I 0], 3), (.agg [I 3, I 2], .agg [I 0, I 0], 4), (.agg [I 3, I 3], .agg [I 0, I 0], 5), (.agg [I 2, I 1], .agg [I 0, I 0], 6), (.agg [I 4, I 1], .agg [I 0, I 0], 7), (.agg [I 3, I 4], .agg [I 0, I 0], 8), (.agg [I 3, I 5], .agg [I 0, I 0], 9), (.agg [I 2, I 2], .agg [I 0, I 0], 10), (.agg [I 4, I 2], .agg [I 0, I 0], 11)] 12),
  .row 41 2 ([bT, I 0, bF]),
  .row 50 3 ([bT, I 0, bF]),
  .cel 54 2 0 (I 3),
  .cel 54 2 1 (I 4),
  .cel 54 2 5 (I 3),
  .cel 54 2 6 (I 5),
  .cel 56 4 0 (.int .u32 (.var 0)),
  .row 57 2 ([bT, I 0, bF]),
  .row 58 4 ([bT, I 0, bF]),
  .row 58 5 ([bT, I 0, bF])], 534⟩
theorem s19_run : ranTo (evCall (cxX Tryd.prog bad s19.rng s19.facts [(65, pureFn l33)]) 1000 60 47 s19.args s19.pre) s19.v s19.post = true := by kernel_rfl
theorem s19_ok {W0 : World} (hL : L0 W0) : SymOk Tryd.prog 95 W0 47 s19 := sym_ok fit (fun σ hk => FnsOk.cons (pure_fn_ok (l33_ok hL)) (FnsOk.nil)) s19_run (by kernel_rfl)
noncomputable def p112 : Pur := ([.agg [I 5, .int .i64 (.var 2), I 0, I 0, U 0]], .inil, 1048576)
theorem p112_run : ranPure (evCall (cxX Tryd.prog bad [((-9223372036854775808), 9223372036854775807), (0, 4294967295), (0, 2), (0, 2), (0, 2), (0, 2), (0, 2), (0, 2), ((-9223372036854775808), 9223372036854775807), ((-9223372036854775808), 9223372036854775807), ((-9223372036854775808), 9223372036854775807), ((-9223372036854775808), 9223372036854775807), ((-9223372036854775808), 9223372036854775807)] [] []) 1000 60 65 p112.1 ⟨.lf, p112.2.2⟩) p112.2.1 = true := by kernel_rfl
theorem p112_ok {σ : Nat → Int} {W0 : World} (hL : L0 W0) (hk : Known2 σ [((-9223372036854775808), 9223372036854775807), (0, 4294967295), (0, 2), (0, 2), (0, 2), (0, 2), (0, 2), (0, 2), ((-9223372036854775808), 9223372036854775807), ((-9223372036854775808), 9223372036854775807), ((-9223372036854775808), 9223372036854775807), ((-9223372036854775808), 9223372036854775807), ((-9223372036854775808), 9223372036854775807)] []) : PureOk Tryd.prog 95 σ W0 65 p112 := pure_ok fit hk (FnsOk.nil) p112_run
noncomputable def p113 : Pur := ([.agg [I 5, .int .i64 (.var 3), I 0, I 0, U 0]], .inil, 1048576)
theorem p113_run : ranPure (evCall (cxX Tryd.prog bad [((-9223372036854775808), 9223372036854775807), (0, 4294967295), (0, 2), (0, 2), (0, 2), (0, 2), (0, 2), (0, 2), ((-9223372036854775808), 9223372036854775807), ((-9223372036854775808), 9223372036854775807), ((-9223372036854775808), 9223372036854775807), ((-9223372036854775808), 9223372036854775807), ((-9223372036854775808), 9223372036854775807)] [] []) 1000 60 65 p113.1 ⟨.lf, p113.2.2⟩) p113.2.1 = true := by kernel_rfl
theorem p113_ok {σ : Nat → Int} {W0 : World} (hL : L0 W0) (hk : Known2 σ [((-9223372036854775808), 9223372036854775807), (0, 4294967295), (0, 2), (0, 2), (0, 2), (0, 2), (0, 2), (0, 2), ((-9223372036854775808), 9223372036854775807), ((-9223372036854775808), 9223372036854775807), ((-9223372036854775808), 9223372036854775807), ((-9223372036854775808), 9223372036854775807), ((-9223372036854775808), 9223372036854775807)] []) : PureOk Tryd.prog 95 σ W0 65 p113 := pure_ok fit hk (FnsOk.nil) p113_run
noncomputable def p114 : Pur := ([.agg [I 5, .int .i64 (.var 4), I 0, I 0, U 0]], .inil, 1048576)
theorem p114_run : ranPure (evCall (cxX Tryd.prog bad [((-9223372036854775808), 9223372036854775807), (0, 4294967295), (0, 2), (0, 2), (0, 2), (0, 2), (0, 2), (0, 2), ((-9223372036854775808), 9223372036854775807), ((-9223372036854775808), 9223372036854775807), ((-9223372036854775808), 9223372036854775807), ((-9223372036854775808), 9223372036854775807), ((-9223372036854775808), 9223372036854775807)] [] []) 1000 60 65 p114.1 ⟨.lf, p114.2.2⟩) p114.2.1 = true := by kernel_rfl
theorem p114_ok {σ : Nat → Int} {W0 : World} (hL : L0 W0) (hk : Known2 σ [((-9223372036854775808), 9223372036854775807), (0, 4294967295), (0, 2), (0, 2), (0, 2), (0, 2), (0, 2), (0, 2), ((-9223372036854775808), 9223372036854775807), ((-9223372036854775808), 9223372036854775807), ((-9223372036854775808), 9223372036854775807), ((-9223372036854775808), 9223372036854775807), ((-9223372036854775808), 9223372036854775807)] []) : PureOk Tryd.prog 95 σ W0 65 p114 := pure_ok fit hk (FnsOk.nil) p114_run
noncomputable def p115 : Pur := ([.agg [I 5, .int .i64 (.var 5), I 0, I 0, U 0]], .inil, 1048576)
theorem p115_run : ranPure (evCall (cxX Tryd.prog bad [((-9223372036854775808), 9223372036854775807), (0, 4294967295), (0, 2), (0, 2), (0, 2), (0, 2), (0, 2), (0, 2), ((-9223372036854775808), 9223372036854775807), ((-9223372036854775808), 9223372036854775807), ((-9223372036854775808), 9223372036854775807), ((-9223372036854775808), 9223372036854775807), ((-9223372036854775808), 9223372036854775807)] [] []) 1000 60 65 p115.1 ⟨.lf, p115.2.2⟩) p115.2.1 = true := by kernel_rfl
theorem p115_ok {σ : Nat → Int} {W0 : World} (hL : L0 W0) (hk : Known2 σ [((-9223372036854775808), 9223372036854775807), (0, 4294967295), (0, 2), (0, 2), (0, 2), (0, 2), (0, 2), (0, 2), ((-9223372036854775808), 9223372036854775807), ((-9223372036854775808), 9223372036854775807), ((-9223372036854775808), 9223372036854775807), ((-9223372036854775808), 9223372036854775807), ((-9223372036854775808), 9223372036854775807)] []) : PureOk Tryd.prog 95 σ W0 65 p115 := pure_ok fit hk (FnsOk.nil) p115_run
noncomputable def p116 : Pur := ([.agg [I 5, .int .i64 (.var 6), I 0, I 0, U 0]], .inil, 1048576)
theorem p116_run : ranPure (evCall (cxX Tryd.prog bad [((-9223372036854775808), 9223372036854775807), (0, 4294967295), (0, 2), (0, 2), (0, 2), (0, 2), (0, 2), (0, 2), ((-9223372036854775808), 9223372036854775807), ((-9223372036854775808), 9223372036854775807), ((-9223372036854775808), 9223372036854775807), ((-9223372036854775808), 9223372036854775807), ((-9223372036854775808), 9223372036854775807)] [] []) 1000 60 65 p116.1 ⟨.lf, p116.2.2⟩) p116.2.1 = true := by kernel_rfl
theorem p116_ok {σ : Nat → Int} {W0 : World} (hL : L0 W0) (hk : Known2 σ [((-9223372036854775808), 9223372036854775807), (0, 4294967295), (0, 2), (0, 2), (0, 2), (0, 2), (0, 2), (0, 2), ((-9223372036854775808), 9223372036854775807), ((-9223372036854775808), 9223372036854775807), ((-9223372036854775808), 9223372036854775807), ((-9223372036854775808), 9223372036854775807), ((-9223372036854775808), 9223372036854775807)] []) : PureOk Tryd.prog 95 σ W0 65 p116 := pure_ok fit hk (FnsOk.nil) p116_run
noncomputable def p117 : Pur := ([.agg [I 5, .int .i64 (.var 2), I 0, I 0, U 1]], .inil, 1048576)
theorem p117_run : ranPure (evCall (cxX Tryd.prog bad [((-9223372036854775808), 9223372036854775807), (0, 4294967295), (0, 2), (0, 2), (0, 2), (0, 2), (0, 2), (0, 2), ((-9223372036854775808), 9223372036854775807), ((-9223372036854775808), 9223372036854775807), ((-9223372036854775808), 9223372036854775807), ((-9223372036854775808), 9223372036854775807), ((-9223372036854775808), 9223372036854775807)] [] []) 1000 60 65 p117.1 ⟨.lf, p117.2.2⟩) p117.2.1 = true := by kernel_rfl
theorem p117_ok {σ : Nat → Int} {W0 : World} (hL : L0 W0) (hk : Known2 σ [((-9223372036854775808), 9223372036854775807), (0, 4294967295), (0, 2), (0, 2), (0, 2), (0, 2), (0, 2), (0, 2), ((-9223372036854775808), 9223372036854775807), ((-9223372036854775808), 9223372036854775807), ((-9223372036854775808), 9223372036854775807), ((-9223372036854775808), 9223372036854775807), ((-9223372036854775808), 9223372036854775807)] []) : PureOk Tryd.prog 95 σ W0 65 p117 := pure_ok fit hk (FnsOk.nil) p117_run
noncomputable def p118 : Pur := ([.agg [I 5, .int .i64 (.var 3), I 0, I 0, U 1]], .inil, 1048576)
theorem p118_run : ranPure (evCall (cxX Tryd.prog bad [((-9223372036854775808), 9223372036854775807), (0, 4294967295), (0, 2), (0, 2), (0, 2), (0, 2), (0, 2), (0, 2), ((-9223372036854775808), 9223372036854775807), ((-9223372036854775808), 9223372036854775807), ((-9223372036854775808), 9223372036854775807), ((-9223372036854775808), 9223372036854775807), ((-9223372036854775808), 9223372036854775807)] [] []) 1000 60 65 p118.1 ⟨.lf, p118.2.2⟩) p118.2.1 = true := by kernel_rfl
theorem p118_ok {σ : Nat → Int} {W0 : World} (hL : L0 W0) (hk : Known2 σ [((-9223372036854775808), 9223372036854775807), (0, 4294967295), (0, 2), (0, 2), (0, 2), (0, 2), (0, 2), (0, 2), ((-9223372036854775808), 9223372036854775807), ((-9223372036854775808), 9223372036854775807), ((-9223372036854775808), 9223372036854775807), ((-9223372036854775808), 9223372036854775807), ((-9223372036854775808), 9223372036854775807)] []) : PureOk Tryd.prog 95 σ W0 65 p118 := pure_ok fit hk (FnsOk.nil) p118_run
noncomputable def p119 : Pur := ([.agg [I 5, .int .i64 (.var 4), I 0, I 0, U 1]], .inil, 1048576)
theorem p119_run : ranPure (evCall (cxX Tryd.prog bad [((-9223372036854775808), 9223372036854775807), (0, 4294967295), (0, 2), (0, 2), (0, 2), (0, 2), (0, 2), (0, 2), ((-9223372036854775808), 9223372036854775807), ((-9223372036854775808), 9223372036854775807), ((-9223372036854775808), 9223372036854775807), ((-9223372036854775808), 9223372036854775807), ((-9223372036854775808), 9223372036854775807)] [] []) 1000 60 65 p119.1 ⟨.lf, p119.2.2⟩) p119.2.1 = true := by kernel_rfl
theorem p119_ok {σ : Nat → Int} {W0 : World} (hL : L0 W0) (hk : Known2 σ [((-9223372036854775808), 9223372036854775807), (0, 4294967295), (0, 2), (0, 2), (0, 2), (0, 2), (0, 2), (0, 2), ((-9223372036854775808), 9223372036854775807), ((-9223372036854775808), 9223372036854775807), ((-9223372036854775808), 9223372036854775807), ((-9223372036854775808), 9223372036854775807), ((-9223372036854775808), 9223372036854775807)] []) : PureOk Tryd.prog 95 σ W0 65 p119 := pure_ok fit hk (FnsOk.nil) p119_run
noncomputable def p120 : Pur := ([.agg [I 5, .int .i64 (.var 5), I 0, I 0, U 1]], .inil, 1048576)
theorem p120_run : ranPure (evCall (cxX Tryd.prog bad [((-9223372036854775808), 9223372036854775807), (0, 4294967295), (0, 2), (0, 2), (0, 2), (0, 2), (0, 2), (0, 2), ((-9223372036854775808), 9223372036854775807), ((-9223372036854775808), 9223372036854775807), ((-9223372036854775808), 9223372036854775807), ((-9223372036854775808), 9223372036854775807), ((-9223372036854775808), 9223372036854775807)] [] []) 1000 60 65 p120.1 ⟨.lf, p120.2.2⟩) p120.2.1 = true := by kernel_rfl
theorem p120_ok {σ : Nat → Int} {W0 : World} (hL : L0 W0) (hk : Known2 σ [((-9223372036854775808), 9223372036854775807), (0, 4294967295), (0, 2), (0, 2), (0, 2), (0, 2), (0, 2), (0, 2), ((-9223372036854775808), 9223372036854775807), ((-9223372036854775808), 9223372036854775807), ((-9223372036854775808), 9223372036854775807), ((-9223372036854775808), 9223372036854775807), ((-9223372036854775808), 9223372036854775807)] []) : PureOk Tryd.prog 95 σ W0 65 p120 := pure_ok fit hk (FnsOk.nil) p120_run
noncomputable def p121 : Pur := ([.agg [I 5, .int .i64 (.var 6), I 0, I 0, U 1]], .inil, 1048576)
theorem p121_run : ranPure (evCall (cxX Tryd.prog bad [((-9223372036854775808), 9223372036854775807), (0, 4294967295), (0, 2), (0, 2), (0, 2), (0, 2), (0, 2), (0, 2), ((-9223372036854775808), 9223372036854775807), ((-9223372036854775808), 9223372036854775807), ((-9223372036854775808), 9223372036854775807), ((-9223372036854775808), 9223372036854775807), ((-9223372036854775808), 9223372036854775807)] [] []) 1000 60 65 p121.1 ⟨.lf, p121.2.2⟩) p121.2.1 = true := by kernel_rfl
theorem p121_ok {σ : Nat → Int} {W0 : World} (hL : L0 W0) (hk : Known2 σ [((-9223372036854775808), 9223372036854775807), (0, 4294967295), (0, 2), (0, 2), (0, 2), (0, 2), (0, 2), (0, 2), ((-9223372036854775808), 9223372036854775807), ((-9223372036854775808), 9223372036854775807), ((-9223372036854775808), 9223372036854775807), ((-9223372036854775808), 9223372036854775807), ((-9223372036854775808), 9223372036854775807)] []) : PureOk Tryd.prog 95 σ W0 65 p121 := pure_ok fit hk (FnsOk.nil) p121_run
noncomputable def p122 : Pur := ([.agg [I 5, .int .i64 (.var 2), I 0, I 0, U 2]], .inil, 1048576)
theorem p122_run : ranPure (evCall (cxX Tryd.prog bad [((-9223372036854775808), 9223372036854775807), (0, 4294967295), (0, 2), (0, 2), (0, 2), (0, 2), (0, 2), (0, 2), ((-9223372036854775808), 9223372036854775807), ((-9223372036854775808), 9223372036854775807), ((-9223372036854775808), 9223372036854775807), ((-9223372036854775808), 9223372036854775807), ((-9223372036854775808), 9223372036854775807)] [] []) 1000 60 65 p122.1 ⟨.lf, p122.2.2⟩) p122.2.1 = true := by kernel_rfl
theorem p122_ok {σ : Nat → Int} {W0 : World} (hL : L0 W0) (hk : Known2 σ [((-9223372036854775808), 9223372036854775807), (0, 4294967295), (0, 2), (0, 2), (0, 2), (0, 2), (0, 2), (0, 2), ((-9223372036854775808), 9223372036854775807), ((-9223372036854775808), 9223372036854775807), ((-9223372036854775808), 9223372036854775807), ((-9223372036854775808), 9223372036854775807), ((-9223372036854775808), 9223372036854775807)] []) : PureOk Tryd.prog 95 σ W0 65 p122 := pure_ok fit hk (FnsOk.nil) p122_run
noncomputable def p123 : Pur := ([.agg [I 5, .int .i64 (.var 3), I 0, I 0, U 2]], .inil, 1048576)
theorem p123_run : ranPure (evCall (cxX Tryd.prog bad [((-9223372036854775808), 9223372036854775807), (0, 4294967295), (0, 2), (0, 2), (0, 2), (0, 2), (0, 2), (0, 2), ((-9223372036854775808), 9223372036854775807), ((-9223372036854775808), 9223372036854775807), ((-9223372036854775808), 9223372036854775807), ((-9223372036854775808), 9223372036854775807), ((-9223372036854775808), 9223372036854775807)] [] []) 1000 60 65 p123.1 ⟨.lf, p123.2.2⟩) p123.2.1 = true := by kernel_rfl
theorem p123_ok {σ : Nat → Int} {W0 : World} (hL : L0 W0) (hk : Known2 σ [((-9223372036854775808), 9223372036854775807), (0, 4294967295), (0, 2), (0, 2), (0, 2), (0, 2), (0, 2), (0, 2), ((-9223372036854775808), 9223372036854775807), ((-9223372036854775808), 9223372036854775807), ((-9223372036854775808), 9223372036854775807), ((-9223372036854775808), 9223372036854775807), ((-9223372036854775808), 9223372036854775807)] []) : PureOk Tryd.prog 95 σ W0 65 p123 := pure_ok fit hk (FnsOk.nil) p123_run
noncomputable def p124 : Pur := ([.agg [I 5, .int .i64 (.var 4), I 0, I 0, U 2]], .inil, 1048576)
theorem p124_run : ranPure (evCall (cxX Tryd.prog bad [((-9223372036854775808), 9223372036854775807), (0, 4294967295), (0, 2), (0, 2), (0, 2), (0, 2), (0, 2), (0, 2), ((-9223372036854775808), 9223372036854775807), ((-9223372036854775808), 9223372036854775807), ((-9223372036854775808), 9223372036854775807), ((-9223372036854775808), 9223372036854775807), ((-9223372036854775808), 9223372036854775807)] [] []) 1000 60 65 p124.1 ⟨.lf, p124.2.2⟩) p124.2.1 = true := by kernel_rfl
theorem p124_ok {σ : Nat → Int} {W0 : World} (hL : L0 W0) (hk : Known2 σ [((-9223372036854775808), 9223372036854775807), (0, 4294967295), (0, 2), (0, 2), (0, 2), (0, 2), (0, 2), (0, 2), ((-9223372036854775808), 9223372036854775807), ((-9223372036854775808), 9223372036854775807), ((-9223372036854775808), 9223372036854775807), ((-9223372036854775808), 9223372036854775807), ((-9223372036854775808), 9223372036854775807)] []) : PureOk Tryd.prog 95 σ W0 65 p124 := pure_ok fit hk (FnsOk.nil) p124_run
noncomputable def p125 : Pur := ([.agg [I 5, .int .i64 (.var 5), I 0, I 0, U 2]], .inil, 1048576)
theorem p125_run : ranPure (evCall (cxX Tryd.prog bad [((-9223372036854775808), 9223372036854775807), (0, 4294967295), (0, 2), (0, 2), (0, 2), (0, 2), (0, 2), (0, 2), ((-9223372036854775808), 9223372036854775807), ((-9223372036854775808), 9223372036854775807), ((-9223372036854775808), 9223372036854775807), ((-9223372036854775808), 9223372036854775807), ((-9223372036854775808), 9223372036854775807)] [] []) 1000 60 65 p125.1 ⟨.lf, p125.2.2⟩) p125.2.1 = true := by kernel_rfl
theorem p125_ok {σ : Nat → Int} {W0 : World} (hL : L0 W0) (hk : Known2 σ [((-9223372036854775808), 9223372036854775807), (0, 4294967295), (0, 2), (0, 2), (0, 2), (0, 2), (0, 2), (0, 2), ((-9223372036854775808), 9223372036854775807), ((-9223372036854775808), 9223372036854775807), ((-9223372036854775808), 9223372036854775807), ((-9223372036854775808), 9223372036854775807), ((-9223372036854775808), 9223372036854775807)] []) : PureOk Tryd.prog 95 σ W0 65 p125 := pure_ok fit hk (FnsOk.nil) p125_run
noncomputable def p126 : Pur := ([.agg [I 5, .int .i64 (.var 6), I 0, I 0, U 2]], .inil, 1048576)
theorem p126_run : ranPure (evCall (cxX Tryd.prog bad [((-9223372036854775808), 9223372036854775807), (0, 4294967295), (0, 2), (0, 2), (0, 2), (0, 2), (0, 2), (0, 2), ((-9223372036854775808), 9223372036854775807), ((-9223372036854775808), 9223372036854775807), ((-9223372036854775808), 9223372036854775807), ((-9223372036854775808), 9223372036854775807), ((-9223372036854775808), 9223372036854775807)] [] []) 1000 60 65 p126.1 ⟨.lf, p126.2.2⟩) p126.2.1 = true := by kernel_rfl
theorem p126_ok {σ : Nat → Int} {W0 : World} (hL : L0 W0) (hk : Known2 σ [((-9223372036854775808), 9223372036854775807), (0, 4294967295), (0, 2), (0, 2), (0, 2), (0, 2), (0, 2), (0, 2), ((-9223372036854775808), 9223372036854775807), ((-9223372036854775808), 9223372036854775807), ((-9223372036854775808), 9223372036854775807), ((-9223372036854775808), 9223372036854775807), ((-9223372036854775808), 9223372036854775807)] []) : PureOk Tryd.prog 95 σ W0 65 p126 := pure_ok fit hk (FnsOk.nil) p126_run
noncomputable def y45 : List Sym := [s0, s7, s14, s1, s2, s3, s4, s5, s6, s8, s9, s10, s11, s12, s13, s15, s16, s17, s18, s19]
theorem y45_ok {W0 : World} (hL : L0 W0) : ∀ x ∈ y45, SymOk Tryd.prog 95 W0 47 x := all_cons (s0_ok hL) (all_cons (s7_ok hL) (all_cons (s14_ok hL) (all_cons (s1_ok hL) (all_cons (s2_ok hL) (all_cons (s3_ok hL) (all_cons (s4_ok hL) (all_cons (s5_ok hL) (all_cons (s6_ok hL) (all_cons (s8_ok hL) (all_cons (s9_ok hL) (all_cons (s10_ok hL) (all_cons (s11_ok hL) (all_cons (s12_ok hL) (all_cons (s13_ok hL) (all_cons (s15_ok hL) (all_cons (s16_ok hL) (all_cons (s17_ok hL) (all_cons (s18_ok hL) (all_cons (s19_ok hL) (all_nil))))))))))))))))))))
noncomputable def q46 : Fns := [(10, pureFn [p0]), (6, frameFn [m111])]
theorem q46_ok {σ : Nat → Int} {W0 : World} (hL : L0 W0) : FnsOk Tryd.prog 95 σ W0 q46 := FnsOk.cons (pure_fn_ok (all_cons (p0_ok hL) (all_nil))) (FnsOk.cons (frame_fn_ok (all_cons (m111_ok hL) (all_nil))) (FnsOk.nil))
theorem case24 : CaseR (rowH (sentH 225 12 errTab) [.int .i64 (.var 8), .int .i64 (.var 9), .int .i64 (.var 10), .int .i64 (.var 11), .int .i64 (.var 12)]) [((-9223372036854775808), 9223372036854775807), (0, 4294967295), (0, 2), (0, 2), (0, 2), (0, 2), (0, 2), (0, 2), ((-9223372036854775808), 9223372036854775807), ((-9223372036854775808), 9223372036854775807), ((-9223372036854775808), 9223372036854775807), ((-9223372036854775808), 9223372036854775807), ((-9223372036854775808), 9223372036854775807)] [] [(0, 5, .lit 2), (8, 3, .var 2), (9, 3, .var 3), (10, 3, .var 4), (11, 3, .var 5), (12, 3, .var 6)] [.int .i64 (.var 0), .slice 18 0 5 5 1 false, .int .u32 (.var 1)] := caseR (fun hL hk hT => FnsOk.cons (hT.ok fit) (FnsOk.cons (pure_fn_ok (all_cons (p6_ok hL) (all_cons (p7_ok hL) (all_cons (p8_ok hL) (all_cons (p9_ok hL) (all_cons (p10_ok hL) (all_cons (p11_ok hL) (all_cons (p112_ok hL hk) (all_cons (p113_ok hL hk) (all_cons (p114_ok hL hk) (all_cons (p115_ok hL hk) (all_cons (p116_ok hL hk) (all_cons (p4_ok hL) (all_cons (p5_ok hL) (all_cons (p23_ok hL) (all_cons (p117_ok hL hk) (all_cons (p118_ok hL hk) (all_cons (p119_ok hL hk) (all_cons (p120_ok hL hk) (all_cons (p121_ok hL hk) (all_cons (p22_ok hL) (all_cons (p76_ok hL) (all_cons (p122_ok hL hk) (all_cons (p123_ok hL hk) (all_cons (p124_ok hL hk) (all_cons (p125_ok hL hk) (all_cons (p126_ok hL hk) (all_cons (p75_ok hL) (all_nil))))))))))))))))))))))))))))) (FnsOk.cons (sym_fn_ok (Γ := cxX Tryd.prog bad [((-9223372036854775808), 9223372036854775807), (0, 4294967295), (0, 2), (0, 2), (0, 2), (0, 2), (0, 2), (0, 2), ((-9223372036854775808), 9223372036854775807), ((-9223372036854775808), 9223372036854775807), ((-9223372036854775808), 9223372036854775807), ((-9223372036854775808), 9223372036854775807), ((-9223372036854775808), 9223372036854775807)] [] []) (fix := 18) ⟨hk.rng, hk.facts⟩ (by decide) (y45_ok hL)) ((q46_ok hL))))) (by kernel_rfl : isTrue (evCall (cxX Tryd.prog bad [((-9223372036854775808), 9223372036854775807), (0, 4294967295), (0, 2), (0, 2), (0, 2), (0, 2), (0, 2), (0, 2), ((-9223372036854775808), 9223372036854775807), ((-9223372036854775808), 9223372036854775807), ((-9223372036854775808), 9223372036854775807), ((-9223372036854775808), 9223372036854775807), ((-9223372036854775808), 9223372036854775807)] [] ((11, numExtE [(0, 5, .lit 2), (8, 3, .var 2), (9, 3, .var 3), (10, 3, .var 4), (11, 3, .var 5), (12, 3, .var 6)]) :: (65, pureFn [p6, p7, p8, p9, p10, p11, p112, p113, p114, p115, p116, p4, p5, p23, p117, p118, p119, p120, p121, p22, p76, p122, p123, p124, p125, p126, p75]) :: (47, symFn (cxX Tryd.prog bad [((-9223372036854775808), 9223372036854775807), (0, 4294967295), (0, 2), (0, 2), (0, 2), (0, 2), (0, 2), (0, 2), ((-9223372036854775808), 9223372036854775807), ((-9223372036854775808), 9223372036854775807), ((-9223372036854775808), 9223372036854775807), ((-9223372036854775808), 9223372036854775807), ((-9223372036854775808), 9223372036854775807)] [] []) 18 y45) :: q46)) 1000 60 4 [.int .i64 (.var 0), .slice 18 0 5 5 1 false, .int .u32 (.var 1)] (rowH (sentH 225 12 errTab) [.int .i64 (.var 8), .int .i64 (.var 9), .int .i64 (.var 10), .int .i64 (.var 11), .int .i64 (.var 12)])) = true)
noncomputable def h47 : H := hUpd h15 267 [] [] []
noncomputable def h48 : H := hUpd h15 322 [] [(318, .cells 31 (rp 6 ((bF) :: rp 4 (I 0) ((U 0) :: rp 4 (I 0) ((U 0) :: rp 4 (I 0) ((U 0) :: rp 4 (I 0) ((U 0) :: rp 4 (I 0) ((U 0) :: rp 4 (I 0) ([U 0]))))))) ([])) false),
  (286, .cells 1 ([[.snil]]) false),
  (270, .cells 80 (rp 16 (rp 4 (I 0) ((U 0) :: rp 4 (I 0) ((U 0) :: rp 4 (I 0) ((U 0) :: rp 4 (I 0) ((U 0) :: rp 4 (I 0) ((U 0) :: rp 4 (I 0) ((U 0) :: rp 4 (I 0) ((U 0) :: rp 4 (I 0) ((U 0) :: rp 4 (I 0) ((U 0) :: rp 4 (I 0) ((U 0) :: rp 4 (I 0) ((U 0) :: rp 4 (I 0) ((U 0) :: rp 4 (I 0) ((U 0) :: rp 4 (I 0) ((U 0) :: rp 4 (I 0) ((U 0) :: rp 4 (I 0) ([U 0]))))))))))))))))) ([])) false),
  (310, .cells 2 ([[.ptr 308 0, .slice 309 0 12 12 2 true]]) false),
  (278, .cells 3 ([[.ptr 276 0, I 16, .ptr 277 0]]) false),
  (314, .map [] 0),
  (282, .cells 3 ([[.ptr 280 0, .slice 281 0 8 8 107 true, .slice 306 0 8 8 1 false]]) false),
  (298, .cells 1 ([[.snil]]) false),
  (306, .cells 1 ([[.ptr 283 0], [.ptr 286 0], [.ptr 289 0], [.ptr 292 0], [.ptr 295 0], [.ptr 298 0], [.ptr 301 0], [.ptr 304 0]]) false),
  (274, .cells 32 (rp 24 (rp 32 (U 0) ([])) ([])) false),
  (316, .cells 3 (rp 6 ([bF, I 0, bF]) ([])) false),
  (268, .cells 3 (rp 16 ([bF, I 0, bF]) ([])) false),
  (308, .cells 1 ([[.slice 307 0 12 12 3 true]]) false),
  (276, .cells 2 ([[.ptr 271 0, .ptr 275 0]]) false),
  (292, .cells 1 ([[.snil]]) false),
  (312, .cells 1 ([[.slice 311 0 8 8 3 true]]) false),
  (280, .cells 1 ([[.slice 279 0 8 8 3 true]]) false),
  (304, .cells 1 ([[.snil]]) false),
  (272, .cells 3 (rp 24 ([bF, I 0, bF]) ([])) false),
  (320, .cells 1 ([[.snil]]) false),
  (317, .cells 1 ([[.slice 316 0 6 6 3 true]]) false),
  (301, .cells 1 ([[.snil]]) false),
  (269, .cells 1 ([[.slice 268 0 16 16 3 true]]) false),
  (309, .cells 2 (rp 12 ([I 0, I 0]) ([])) false),
  (277, .cells 3 ([[I 16, .snil, I 0]]) false),
  (313, .cells 3 (rp 8 ([I 0, I 0, I 0]) ([])) false),
  (281, .cells 107 (rp 8 (rp 9 (U 0) (rp 6 (I 0) ((U 0) :: rp 4 (I 0) ((U 0) :: rp 4 (I 0) ((U 0) :: rp 4 (I 0) ((U 0) :: rp 4 (I 0) ((U 0) :: rp 4 (I 0) ((U 0) :: rp 4 (I 0) ((U 0) :: rp 4 (I 0) ((U 0) :: rp 4 (I 0) ((U 0) :: rp 4 (I 0) ((U 0) :: rp 4 (I 0) ((U 0) :: rp 4 (I 0) ((U 0) :: rp 4 (I 0) ((U 0) :: rp 4 (I 0) ((U 0) :: rp 4 (I 0) ((U 0) :: rp 4 (I 0) ((U 0) :: rp 4 (I 0) ((U 0) :: rp 4 (I 0) ((U 0) :: rp 4 (I 0) ([U 0, I 0]))))))))))))))))))))) ([])) false),
  (273, .cells 1 ([[.slice 272 0 24 24 3 true]]) false),
  (289, .cells 1 ([[.snil]]) false),
  (321, .cells 9 ([[.ptr 278 0, .ptr 282 0, .ptr 310 0, .ptr 315 0, .ptr 319 0, .ptr 320 0, .snil, .snil, I 0]]) false),
  (315, .cells 5 ([[.ptr 312 0, .slice 313 0 8 8 3 true, .map 314, .ptr 278 0, .ptr 282 0]]) false),
  (283, .cells 1 ([[.snil]]) false),
  (307, .cells 3 (rp 12 ([bF, I 0, bF]) ([])) false),
  (275, .cells 2 ([[.ptr 273 0, .slice 274 0 24 24 32 true]]) false),
  (311, .cells 3 (rp 8 ([bF, I 0, bF]) ([])) false),
  (279, .cells 3 (rp 8 ([bF, I 0, bF]) ([])) false),
  (295, .cells 1 ([[.snil]]) false),
  (271, .cells 2 ([[.ptr 269 0, .slice 270 0 16 16 80 true]]) false),
  (319, .cells 2 ([[.ptr 317 0, .slice 318 0 6 6 31 true]]) false)] []
noncomputable def m127 : Memo := ⟨[.agg [I 16, I 24, I 8, I 12, I 8, I 6]], h47, .tuple [.ptr 321 0, .inil], h48⟩
theorem m127_run : ranTo (evCall (cxX Tryd.prog bad [] [] []) 1000 60 6 m127.args m127.h) m127.v m127.h' = true := by kernel_rfl
theorem m127_ok {σ : Nat → Int} {W0 : World} (hL : L0 W0) : MemoOk Tryd.prog 95 σ W0 6 m127 := memo_ok fit (Known2.nil σ) (FnsOk.nil) m127_run
noncomputable def s20 : Sym := ⟨[.ptr 18 0, .agg [.slice 19 0 1 1 1 true, I 12, .slice 20 0 6 6 1 false, bT]], h38, [18, 21, 24, 27, 39, 40, 53, 56, 57, 23, 32, 35, 50, 55, 22, 29, 36, 41, 58, 33, 34, 54, 19, 30, 51, 14, 6, 12, 16, 4, 2, 13, 17, 15, 3, 1, 0], [(0, 4294967295), (0, 1099511627775), (0, 1099511627775), (0, 1099511627775), (0, 1099511627775), (0, 1099511627775), (0, 1099511627775), (0, 1099511627775), (0, 1099511627775), (0, 1099511627775), (0, 4294967295), (0, 1099511627775), (0, 1099511627775), (0, 1099511627775), (0, 1099511627775), (0, 1099511627775), (0, 1099511627775), (0, 1099511627775), (0, 1099511627775), (0, 1099511627775), (0, 1099511627775), (0, 1099511627775), (0, 1099511627775), (0, 4294967295), (0, 1099511627775), (0, 1099511627775), (0, 1099511627775), (0, 1099511627775), (0, 1099511627775), (0, 1099511627775), (0, 1099511627775), (0, 1099511627775), (0, 1099511627775), (0, 1099511627775), (0, 1099511627775), (0, 1099511627775), (0, 4294967295), (0, 1099511627775), (0, 1099511627775), (0, 1099511627775), (0, 1099511627775), (0, 1099511627775), (0, 1099511627775), (0, 1099511627775), (0, 1099511627775), (0, 1099511627775), (0, 1099511627775), (0, 1099511627775), (0, 1099511627775), (0, 4294967295), (0, 1099511627775), (0, 1099511627775), (0, 1099511627775), (0, 1099511627775), (0, 1099511627775), (0, 1099511627775), (0, 1099511627775), (0, 1099511627775), (0, 1099511627775), (0, 1099511627775), (0, 1099511627775), (0, 1099511627775), (0, 1099511627775), (0, 1099511627775), (0, 1099511627775), (0, 1099511627775), (0, 1099511627775), (0, 1099511627775), (0, 1099511627775), (0, 1099511627775), (0, 1099511627775), (0, 1099511627775), (0, 4294967295), (0, 4294967295)],
  [(false, .sub (.lit 60) (.var 56), .lit 1, false), (false, .sub (.lit 60) (.add (.var 56) (.lit 1)), .lit 1, false), (false, .sub (.lit 60) (.add (.var 56) (.lit 2)), .lit 1, false), (false, .sub (.lit 60) (.add (.var 56) (.lit 3)), .lit 1, false)],
  .tuple [I 2, .inil],
  [.cel 30 2 9 (I 1),
  .cel 30 2 11 (I 8),
  .cel 30 2 16 (I 7),
  .cel 30 2 17 (I 3),
  .cel 30 2 21 (I 11),
  .cel 30 2 26 (I 12),
  .cel 30 2 31 (I 13),
  .cel 30 2 36 (I 14),
  .cel 30 2 91 (I 2),
  .cel 30 2 92 (I 2),
  .cel 30 2 95 (U 1),
  .cel 30 2 96 (I 7),
  .cel 30 2 97 (I 3),
  .row 33 3 ([I 0, I 12]),
  .row 35 0 ([IZ (-1), I 60, .int .i64 (.add (.var 56) (.lit 4))]),
  .set 36 (.map [(.agg [I 3, I 0], .agg [I 0, I 0], 0), (.agg [I 3, I 1], .agg [I 0, I 0], 1), (.agg [I 2, I 0], .agg [I 0, I 0], 2), (.agg [I 4, I 0], .agg [I 0, I 0], 3), (.agg [I 3, I 2], .agg [I 0, I 0], 4), (.agg [I 3, I 3], .agg [I 0, I 0], 5), (.agg [I 2, I 1], .agg [I 0, I 0], 6), (.agg [I 4, I 1], .agg [I 0, I 0], 7), (.agg [I 3, I 4], .agg [I 0, I 0], 8), (.agg [I 3, I 5], .agg [I 0, I 0], 9), (.agg [I 2, I 2], .agg [I 0, I 0], 10), (.agg [I 4, I 2], .agg [I 0, I 0], 11)] 12),
  .row 41 2 ([bT, I 0, bF]),
  .row 50 3 ([bT, I 0, bF]),
  .cel 54 2 0 (I 3),
  .cel 54 2 1 (I 4),
  .cel 54 2 5 (I 3),
  .cel 54 2 6 (I 5),
  .cel 56 4 0 (.int .u32 (.var 0)),
  .row 57 2 ([bT, I 0, bF]),
  .row 58 4 ([bT, I 0, bF]),
  .row 58 5 ([bT, I 0, bF])], 534⟩
theorem s20_run : ranTo (evCall (cxX Tryd.prog bad s20.rng s20.facts [(65, pureFn l33)]) 1000 60 47 s20.args s20.pre) s20.v s20.post = true := by kernel_rfl
theorem s20_ok {W0 : World} (hL : L0 W0) : SymOk Tryd.prog 95 W0 47 s20 := sym_ok fit (fun σ hk => FnsOk.cons (pure_fn_ok (l33_ok hL)) (FnsOk.nil)) s20_run (by kernel_rfl)
noncomputable def p128 : Pur := ([.agg [I 5, .int .i64 (.var 2), I 0, I 0, U 0]], .inil, 1048576)
theorem p128_run : ranPure (evCall (cxX Tryd.prog bad [((-9223372036854775808), 9223372036854775807), (0, 4294967295), (0, 2), (0, 2), (0, 2), (0, 2), (0, 2), (0, 2), ((-9223372036854775808), 9223372036854775807), ((-9223372036854775808), 9223372036854775807), ((-9223372036854775808), 9223372036854775807), ((-9223372036854775808), 9223372036854775807), ((-9223372036854775808), 9223372036854775807), ((-9223372036854775808), 9223372036854775807)] [] []) 1000 60 65 p128.1 ⟨.lf, p128.2.2⟩) p128.2.1 = true := by kernel_rfl
theorem p128_ok {σ : Nat → Int} {W0 : World} (hL : L0 W0) (hk : Known2 σ [((-9223372036854775808), 9223372036854775807), (0, 4294967295), (0, 2), (0, 2), (0, 2), (0, 2), (0, 2), (0, 2), ((-9223372036854775808), 9223372036854775807), ((-9223372036854775808), 9223372036854775807), ((-9223372036854775808), 9223372036854775807), ((-9223372036854775808), 9223372036854775807), ((-9223372036854775808), 9223372036854775807), ((-9223372036854775808), 9223372036854775807)] []) : PureOk Tryd.prog 95 σ W0 65 p128 := pure_ok fit hk (FnsOk.nil) p128_run
noncomputable def p129 : Pur := ([.agg [I 5, .int .i64 (.var 3), I 0, I 0, U 0]], .inil, 1048576)
theorem p129_run : ranPure (evCall (cxX Tryd.prog bad [((-9223372036854775808), 9223372036854775807), (0, 4294967295), (0, 2), (0, 2), (0, 2), (0, 2), (0, 2), (0, 2), ((-9223372036854775808), 9223372036854775807), ((-9223372036854775808), 9223372036854775807), ((-9223372036854775808), 9223372036854775807), ((-9223372036854775808), 9223372036854775807), ((-9223372036854775808), 9223372036854775807), ((-9223372036854775808), 9223372036854775807)] [] []) 1000 60 65 p129.1 ⟨.lf, p129.2.2⟩) p129.2.1 = true := by kernel_rfl
theorem p129_ok {σ : Nat → Int} {W0 : World} (hL : L0 W0) (hk : Known2 σ [((-9223372036854775808), 9223372036854775807), (0, 4294967295), (0, 2), (0, 2), (0, 2), (0, 2), (0, 2), (0, 2), ((-9223372036854775808), 9223372036854775807), ((-9223372036854775808), 9223372036854775807), ((-9223372036854775808), 9223372036854775807), ((-9223372036854775808), 9223372036854775807), ((-9223372036854775808), 9223372036854775807), ((-9223372036854775808), 9223372036854775807)] []) : PureOk Tryd.prog 95 σ W0 65 p129 := pure_ok fit hk (FnsOk.nil) p129_run
noncomputable def p130 : Pur := ([.agg [I 5, .int .i64 (.var 4), I 0, I 0, U 0]], .inil, 1048576)
theorem p130_run : ranPure (evCall (cxX Tryd.prog bad [((-9223372036854775808), 9223372036854775807), (0, 4294967295), (0, 2), (0, 2), (0, 2), (0, 2), (0, 2), (0, 2), ((-9223372036854775808), 9223372036854775807), ((-9223372036854775808), 9223372036854775807), ((-9223372036854775808), 9223372036854775807), ((-9223372036854775808), 9223372036854775807), ((-9223372036854775808), 9223372036854775807), ((-9223372036854775808), 9223372036854775807)] [] []) 1000 60 65 p130.1 ⟨.lf, p130.2.2⟩) p130.2.1 = true := by kernel_rfl
theorem p130_ok {σ : Nat → Int} {W0 : World} (hL : L0 W0) (hk : Known2 σ [((-9223372036854775808), 9223372036854775807), (0, 4294967295), (0, 2), (0, 2), (0, 2), (0, 2), (0, 2), (0, 2), ((-9223372036854775808), 9223372036854775807), ((-9223372036854775808), 9223372036854775807), ((-9223372036854775808), 9223372036854775807), ((-9223372036854775808), 9223372036854775807), ((-9223372036854775808), 9223372036854775807), ((-9223372036854775808), 9223372036854775807)] []) : PureOk Tryd.prog 95 σ W0 65 p130 := pure_ok fit hk (FnsOk.nil) p130_run
noncomputable def p131 : Pur := ([.agg [I 5, .int .i64 (.var 5), I 0, I 0, U 0]], .inil, 1048576)
theorem p131_run : ranPure (evCall (cxX Tryd.prog bad [((-9223372036854775808), 9223372036854775807), (0, 4294967295), (0, 2), (0, 2), (0, 2), (0, 2), (0, 2), (0, 2), ((-9223372036854775808), 9223372036854775807), ((-9223372036854775808), 9223372036854775807), ((-9223372036854775808), 9223372036854775807), ((-9223372036854775808), 9223372036854775807), ((-9223372036854775808), 9223372036854775807), ((-9223372036854775808), 9223372036854775807)] [] []) 1000 60 65 p131.1 ⟨.lf, p131.2.2⟩) p131.2.1 = true := by kernel_rfl
theorem p131_ok {σ : Nat → Int} {W0 : World} (hL : L0 W0) (hk : Known2 σ [((-9223372036854775808), 9223372036854775807), (0, 4294967295), (0, 2), (0, 2), (0, 2), (0, 2), (0, 2), (0, 2), ((-9223372036854775808), 9223372036854775807), ((-9223372036854775808), 9223372036854775807), ((-9223372036854775808), 9223372036854775807), ((-9223372036854775808), 9223372036854775807), ((-9223372036854775808), 9223372036854775807), ((-9223372036854775808), 9223372036854775807)] []) : PureOk Tryd.prog 95 σ W0 65 p131 := pure_ok fit hk (FnsOk.nil) p131_run
noncomputable def p132 : Pur := ([.agg [I 5, .int .i64 (.var 6), I 0, I 0, U 0]], .inil, 1048576)
theorem p132_run : ranPure (evCall (cxX Tryd.prog bad [((-9223372036854775808), 9223372036854775807), (0, 4294967295), (0, 2), (0, 2), (0, 2), (0, 2), (0, 2), (0, 2), ((-9223372036854775808), 9223372036854775807), ((-9223372036854775808), 9223372036854775807), ((-9223372036854775808), 9223372036854775807), ((-9223372036854775808), 9223372036854775807), ((-9223372036854775808), 9223372036854775807), ((-9223372036854775808), 9223372036854775807)] [] []) 1000 60 65 p132.1 ⟨.lf, p132.2.2⟩) p132.2.1 = true := by kernel_rfl
theorem p132_ok {σ : Nat → Int} {W0 : World} (hL : L0 W0) (hk : Known2 σ [((-9223372036854775808), 9223372036854775807), (0, 4294967295), (0, 2), (0, 2), (0, 2), (0, 2), (0, 2), (0, 2), ((-9223372036854775808), 9223372036854775807), ((-9223372036854775808), 9223372036854775807), ((-9223372036854775808), 9223372036854775807), ((-9223372036854775808), 9223372036854775807), ((-9223372036854775808), 9223372036854775807), ((-9223372036854775808), 9223372036854775807)] []) : PureOk Tryd.prog 95 σ W0 65 p132 := pure_ok fit hk (FnsOk.nil) p132_run
noncomputable def p133 : Pur := ([.agg [I 5, .int .i64 (.var 7), I 0, I 0, U 0]], .inil, 1048576)
theorem p133_run : ranPure (evCall (cxX Tryd.prog bad [((-9223372036854775808), 9223372036854775807), (0, 4294967295), (0, 2), (0, 2), (0, 2), (0, 2), (0, 2), (0, 2), ((-9223372036854775808), 9223372036854775807), ((-9223372036854775808), 9223372036854775807), ((-9223372036854775808), 9223372036854775807), ((-9223372036854775808), 9223372036854775807), ((-9223372036854775808), 9223372036854775807), ((-9223372036854775808), 9223372036854775807)] [] []) 1000 60 65 p133.1 ⟨.lf, p133.2.2⟩) p133.2.1 = true := by kernel_rfl
theorem p133_ok {σ : Nat → Int} {W0 : World} (hL : L0 W0) (hk : Known2 σ [((-9223372036854775808), 9223372036854775807), (0, 4294967295), (0, 2), (0, 2), (0, 2), (0, 2), (0, 2), (0, 2), ((-9223372036854775808), 9223372036854775807), ((-9223372036854775808), 9223372036854775807), ((-9223372036854775808), 9223372036854775807), ((-9223372036854775808), 9223372036854775807), ((-9223372036854775808), 9223372036854775807), ((-9223372036854775808), 9223372036854775807)] []) : PureOk Tryd.prog 95 σ W0 65 p133 := pure_ok fit hk (FnsOk.nil) p133_run
noncomputable def p134 : Pur := ([.agg [I 5, .int .i64 (.var 2), I 0, I 0, U 1]], .inil, 1048576)
theorem p134_run : ranPure (evCall (cxX Tryd.prog bad [((-9223372036854775808), 9223372036854775807), (0, 4294967295), (0, 2), (0, 2), (0, 2), (0, 2), (0, 2), (0, 2), ((-9223372036854775808), 9223372036854775807), ((-9223372036854775808), 9223372036854775807), ((-9223372036854775808), 9223372036854775807), ((-9223372036854775808), 9223372036854775807), ((-9223372036854775808), 9223372036854775807), ((-9223372036854775808), 9223372036854775807)] [] []) 1000 60 65 p134.1 ⟨.lf, p134.2.2⟩) p134.2.1 = true := by kernel_rfl
theorem p134_ok {σ : Nat → Int} {W0 : World} (hL : L0 W0) (hk : Known2 σ [((-9223372036854775808), 9223372036854775807), (0, 4294967295), (0, 2), (0, 2), (0, 2), (0, 2), (0, 2), (0, 2), ((-9223372036854775808), 9223372036854775807), ((-9223372036854775808), 9223372036854775807), ((-9223372036854775808), 9223372036854775807), ((-9223372036854775808), 9223372036854775807), ((-9223372036854775808), 9223372036854775807), ((-9223372036854775808), 9223372036854775807)] []) : PureOk Tryd.prog 95 σ W0 65 p134 := pure_ok fit hk (FnsOk.nil) p134_run
noncomputable def p135 : Pur := ([.agg [I 5, .int .i64 (.var 3), I 0, I 0, U 1]], .inil, 1048576)
theorem p135_run : ranPure (evCall (cxX Tryd.prog bad [((-9223372036854775808), 9223372036854775807), (0, 4294967295), (0, 2), (0, 2), (0, 2), (0, 2), (0, 2), (0, 2), ((-9223372036854775808), 9223372036854775807), ((-9223372036854775808), 9223372036854775807), ((-9223372036854775808), 9223372036854775807), ((-9223372036854775808), 9223372036854775807), ((-9223372036854775808), 9223372036854775807), ((-9223372036854775808), 9223372036854775807)] [] []) 1000 60 65 p135.1 ⟨.lf, p135.2.2⟩) p135.2.1 = true := by kernel_rfl
theorem p135_ok {σ : Nat → Int} {W0 : World} (hL : L0 W0) (hk : Known2 σ [((-9223372036854775808), 9223372036854775807), (0, 4294967295), (0, 2), (0, 2), (0, 2), (0, 2), (0, 2), (0, 2), ((-9223372036854775808), 9223372036854775807), ((-9223372036854775808), 9223372036854775807), ((-9223372036854775808), 9223372036854775807), ((-9223372036854775808), 9223372036854775807), ((-9223372036854775808), 9223372036854775807), ((-9223372036854775808), 9223372036854775807)] []) : PureOk Tryd.prog 95 σ W0 65 p135 := pure_ok fit hk (FnsOk.nil) p135_run
noncomputable def p136 : Pur := ([.agg [I 5, .int .i64 (.var 4), I 0, I 0, U 1]], .inil, 1048576)
theorem p136_run : ranPure (evCall (cxX Tryd.prog bad [((-9223372036854775808), 9223372036854775807), (0, 4294967295), (0, 2), (0, 2), (0, 2), (0, 2), (0, 2), (0, 2), ((-9223372036854775808), 9223372036854775807), ((-9223372036854775808), 9223372036854775807), ((-9223372036854775808), 9223372036854775807), ((-9223372036854775808), 9223372036854775807), ((-9223372036854775808), 9223372036854775807), ((-9223372036854775808), 9223372036854775807)] [] []) 1000 60 65 p136.1 ⟨.lf, p136.2.2⟩) p136.2.1 = true := by kernel_rfl
theorem p136_ok {σ : Nat → Int} {W0 : World} (hL : L0 W0) (hk : Known2 σ [((-9223372036854775808), 9223372036854775807), (0, 4294967295), (0, 2), (0, 2), (0, 2), (0, 2), (0, 2), (0, 2), ((-9223372036854775808), 9223372036854775807), ((-9223372036854775808), 9223372036854775807), ((-9223372036854775808), 9223372036854775807), ((-9223372036854775808), 9223372036854775807), ((-9223372036854775808), 9223372036854775807), ((-9223372036854775808), 9223372036854775807)] []) : PureOk Tryd.prog 95 σ W0 65 p136 := pure_ok fit hk (FnsOk.nil) p136_run
noncomputable def p137 : Pur := ([.agg [I 5, .int .i64 (.var 5), I 0, I 0, U 1]], .inil, 1048576)
theorem p137_run : ranPure (evCall (cxX Tryd.prog bad [((-9223372036854775808), 9223372036854775807), (0, 4294967295), (0, 2), (0, 2), (0, 2), (0, 2), (0, 2), (0, 2), ((-9223372036854775808), 9223372036854775807), ((-9223372036854775808), 9223372036854775807), ((-9223372036854775808), 9223372036854775807), ((-9223372036854775808), 9223372036854775807), ((-9223372036854775808), 9223372036854775807), ((-9223372036854775808), 9223372036854775807)] [] []) 1000 60 65 p137.1 ⟨.lf, p137.2.2⟩) p137.2.1 = true := by kernel_rfl
theorem p137_ok {σ : Nat → Int} {W0 : World} (hL : L0 W0) (hk : Known2 σ [((-9223372036854775808), 9223372036854775807), (0, 4294967295), (0, 2), (0, 2), (0, 2), (0, 2), (0, 2), (0, 2), ((-9223372036854775808), 9223372036854775807), ((-9223372036854775808), 9223372036854775807), ((-9223372036854775808), 9223372036854775807), ((-9223372036854775808), 9223372036854775807), ((-9223372036854775808), 9223372036854775807), ((-9223372036854775808), 9223372036854775807)] []) : PureOk Tryd.prog 95 σ W0 65 p137 := pure_ok fit hk (FnsOk.nil) p137_run
noncomputable def p138 : Pur := ([.agg [I 5, .int .i64 (.var 6), I 0, I 0, U 1]], .inil, 1048576)
theorem p138_run : ranPure (evCall (cxX Tryd.prog bad [((-9223372036854775808), 9223372036854775807), (0, 4294967295), (0, 2), (0, 2), (0, 2), (0, 2), (0, 2), (0, 2), ((-9223372036854775808), 9223372036854775807), ((-9223372036854775808), 9223372036854775807), ((-9223372036854775808), 9223372036854775807), ((-9223372036854775808), 9223372036854775807), ((-9223372036854775808), 9223372036854775807), ((-9223372036854775808), 9223372036854775807)] [] []) 1000 60 65 p138.1 ⟨.lf, p138.2.2⟩) p138.2.1 = true := by kernel_rfl
theorem p138_ok {σ : Nat → Int} {W0 : World} (hL : L0 W0) (hk : Known2 σ [((-9223372036854775808), 9223372036854775807), (0, 4294967295), (0, 2), (0, 2), (0, 2), (0, 2), (0, 2), (0, 2), ((-9223372036854775808), 9223372036854775807), ((-9223372036854775808), 9223372036854775807), ((-9223372036854775808), 9223372036854775807), ((-9223372036854775808), 9223372036854775807), ((-9223372036854775808), 9223372036854775807), ((-9223372036854775808), 9223372036854775807)] []) : PureOk Tryd.prog 95 σ W0 65 p138 := pure_ok fit hk (FnsOk.nil) p138_run
noncomputable def p139 : Pur := ([.agg [I 5, .int .i64 (.var 7), I 0, I 0, U 1]], .inil, 1048576)
theorem p139_run : ranPure (evCall (cxX Tryd.prog bad [((-9223372036854775808), 9223372036854775807), (0, 4294967295), (0, 2), (0, 2), (0, 2), (0, 2), (0, 2), (0, 2), ((-9223372036854775808), 9223372036854775807), ((-9223372036854775808), 9223372036854775807), ((-9223372036854775808), 9223372036854775807), ((-9223372036854775808), 9223372036854775807), ((-9223372036854775808), 9223372036854775807), ((-9223372036854775808), 9223372036854775807)] [] []) 1000 60 65 p139.1 ⟨.lf, p139.2.2⟩) p139.2.1 = true := by kernel_rfl
theorem p139_ok {σ : Nat → Int} {W0 : World} (hL : L0 W0) (hk : Known2 σ [((-9223372036854775808), 9223372036854775807), (0, 4294967295), (0, 2), (0, 2), (0, 2), (0, 2), (0, 2), (0, 2), ((-9223372036854775808), 9223372036854775807), ((-9223372036854775808), 9223372036854775807), ((-9223372036854775808), 9223372036854775807), ((-9223372036854775808), 9223372036854775807), ((-9223372036854775808), 9223372036854775807), ((-9223372036854775808), 9223372036854775807)] []) : PureOk Tryd.prog 95 σ W0 65 p139 := pure_ok fit hk (FnsOk.nil) p139_run
noncomputable def p140 : Pur := ([.agg [I 5, .int .i64 (.var 2), I 0, I 0, U 2]], .inil, 1048576)
theorem p140_run : ranPure (evCall (cxX Tryd.prog bad [((-9223372036854775808), 9223372036854775807), (0, 4294967295), (0, 2), (0, 2), (0, 2), (0, 2), (0, 2), (0, 2), ((-9223372036854775808), 9223372036854775807), ((-9223372036854775808), 9223372036854775807), ((-9223372036854775808), 9223372036854775807), ((-9223372036854775808), 9223372036854775807), ((-9223372036854775808), 9223372036854775807), ((-9223372036854775808), 9223372036854775807)] [] []) 1000 60 65 p140.1 ⟨.lf, p140.2.2⟩) p140.2.1 = true := by kernel_rfl
theorem p140_ok {σ : Nat → Int} {W0 : World} (hL : L0 W0) (hk : Known2 σ [((-9223372036854775808), 9223372036854775807), (0, 4294967295), (0, 2), (0, 2), (0, 2), (0, 2), (0, 2), (0, 2), ((-9223372036854775808), 9223372036854775807), ((-9223372036854775808), 9223372036854775807), ((-9223372036854775808), 9223372036854775807), ((-9223372036854775808), 9223372036854775807), ((-9223372036854775808), 9223372036854775807), ((-9223372036854775808), 9223372036854775807)] []) : PureOk Tryd.prog 95 σ W0 65 p140 := pure_ok fit hk (FnsOk.nil) p140_run
noncomputable def p141 : Pur := ([.agg [I 5, .int .i64 (.var 3), I 0, I 0, U 2]], .inil, 1048576)
theorem p141_run : ranPure (evCall (cxX Tryd.prog bad [((-9223372036854775808), 9223372036854775807), (0, 4294967295), (0, 2), (0, 2), (0, 2), (0, 2), (0, 2), (0, 2), ((-9223372036854775808), 9223372036854775807), ((-9223372036854775808), 9223372036854775807), ((-9223372036854775808), 9223372036854775807), ((-9223372036854775808), 9223372036854775807), ((-9223372036854775808), 9223372036854775807), ((-9223372036854775808), 9223372036854775807)] [] []) 1000 60 65 p141.1 ⟨.lf, p141.2.2⟩) p141.2.1 = true := by kernel_rfl
theorem p141_ok {σ : Nat → Int} {W0 : World} (hL : L0 W0) (hk : Known2 σ [((-9223372036854775808), 9223372036854775807), (0, 4294967295), (0, 2), (0, 2), (0, 2), (0, 2), (0, 2), (0, 2), ((-9223372036854775808), 9223372036854775807), ((-9223372036854775808), 9223372036854775807), ((-9223372036854775808), 9223372036854775807), ((-9223372036854775808), 9223372036854775807), ((-9223372036854775808), 9223372036854775807), ((-9223372036854775808), 9223372036854775807)] []) : PureOk Tryd.prog 95 σ W0 65 p141 := pure_ok fit hk (FnsOk.nil) p141_run
noncomputable def p142 : Pur := ([.agg [I 5, .int .i64 (.var 4), I 0, I 0, U 2]], .inil, 1048576)
theorem p142_run : ranPure (evCall (cxX Tryd.prog bad [((-9223372036854775808), 9223372036854775807), (0, 4294967295), (0, 2), (0, 2), (0, 2), (0, 2), (0, 2), (0, 2), ((-9223372036854775808), 9223372036854775807), ((-9223372036854775808), 9223372036854775807), ((-9223372036854775808), 9223372036854775807), ((-9223372036854775808), 9223372036854775807), ((-9223372036854775808), 9223372036854775807), ((-9223372036854775808), 9223372036854775807)] [] []) 1000 60 65 p142.1 ⟨.lf, p142.2.2⟩) p142.2.1 = true := by kernel_rfl
theorem p142_ok {σ : Nat → Int} {W0 : World} (hL : L0 W0) (hk : Known2 σ [((-9223372036854775808), 9223372036854775807), (0, 4294967295), (0, 2), (0, 2), (0, 2), (0, 2), (0, 2), (0, 2), ((-9223372036854775808), 9223372036854775807), ((-9223372036854775808), 9223372036854775807), ((-9223372036854775808), 9223372036854775807), ((-9223372036854775808), 9223372036854775807), ((-9223372036854775808), 9223372036854775807), ((-9223372036854775808), 9223372036854775807)] []) : PureOk Tryd.prog 95 σ W0 65 p142 := pure_ok fit hk (FnsOk.nil) p142_run
noncomputable def p143 : Pur := ([.agg [I 5, .int .i64 (.var 5), I 0, I 0, U 2]], .inil, 1048576)
theorem p143_run : ranPure (evCall (cxX Tryd.prog bad [((-9223372036854775808), 9223372036854775807), (0, 4294967295), (0, 2), (0, 2), (0, 2), (0, 2), (0, 2), (0, 2), ((-9223372036854775808), 9223372036854775807), ((-9223372036854775808), 9223372036854775807), ((-9223372036854775808), 9223372036854775807), ((-9223372036854775808), 9223372036854775807), ((-9223372036854775808), 9223372036854775807), ((-9223372036854775808), 9223372036854775807)] [] []) 1000 60 65 p143.1 ⟨.lf, p143.2.2⟩) p143.2.1 = true := by kernel_rfl
theorem p143_ok {σ : Nat → Int} {W0 : World} (hL : L0 W0) (hk : Known2 σ [((-9223372036854775808), 9223372036854775807), (0, 4294967295), (0, 2), (0, 2), (0, 2), (0, 2), (0, 2), (0, 2), ((-9223372036854775808), 9223372036854775807), ((-9223372036854775808), 9223372036854775807), ((-9223372036854775808), 9223372036854775807), ((-9223372036854775808), 9223372036854775807), ((-9223372036854775808), 9223372036854775807), ((-9223372036854775808), 9223372036854775807)] []) : PureOk Tryd.prog 95 σ W0 65 p143 := pure_ok fit hk (FnsOk.nil) p143_run
noncomputable def p144 : Pur := ([.agg [I 5, .int .i64 (.var 6), I 0, I 0, U 2]], .inil, 1048576)
theorem p144_run : ranPure (evCall (cxX Tryd.prog bad [((-9223372036854775808), 9223372036854775807), (0, 4294967295), (0, 2), (0, 2), (0, 2), (0, 2), (0, 2), (0, 2), ((-9223372036854775808), 9223372036854775807), ((-9223372036854775808), 9223372036854775807), ((-9223372036854775808), 9223372036854775807), ((-9223372036854775808), 9223372036854775807), ((-9223372036854775808), 9223372036854775807), ((-9223372036854775808), 9223372036854775807)] [] []) 1000 60 65 p144.1 ⟨.lf, p144.2.2⟩) p144.2.1 = true := by kernel_rfl
theorem p144_ok {σ : Nat → Int} {W0 : World} (hL : L0 W0) (hk : Known2 σ [((-9223372036854775808), 9223372036854775807), (0, 4294967295), (0, 2), (0, 2), (0, 2), (0, 2), (0, 2), (0, 2), ((-9223372036854775808), 9223372036854775807), ((-9223372036854775808), 9223372036854775807), ((-9223372036854775808), 9223372036854775807), ((-9223372036854775808), 9223372036854775807), ((-9223372036854775808), 9223372036854775807), ((-9223372036854775808), 9223372036854775807)] []) : PureOk Tryd.prog 95 σ W0 65 p144 := pure_ok fit hk (FnsOk.nil) p144_run
noncomputable def p145 : Pur := ([.agg [I 5, .int .i64 (.var 7), I 0, I 0, U 2]], .inil, 1048576)
theorem p145_run : ranPure (evCall (cxX Tryd.prog bad [((-9223372036854775808), 9223372036854775807), (0, 4294967295), (0, 2), (0, 2), (0, 2), (0, 2), (0, 2), (0, 2), ((-9223372036854775808), 9223372036854775807), ((-9223372036854775808), 9223372036854775807), ((-9223372036854775808), 9223372036854775807), ((-9223372036854775808), 9223372036854775807), ((-9223372036854775808), 9223372036854775807), ((-9223372036854775808), 9223372036854775807)] [] []) 1000 60 65 p145.1 ⟨.lf, p145.2.2⟩) p145.2.1 = true := by kernel_rfl
theorem p145_ok {σ : Nat → Int} {W0 : World} (hL : L0 W0) (hk : Known2 σ [((-9223372036854775808), 9223372036854775807), (0, 4294967295), (0, 2), (0, 2), (0, 2), (0, 2), (0, 2), (0, 2), ((-9223372036854775808), 9223372036854775807), ((-9223372036854775808), 9223372036854775807), ((-9223372036854775808), 9223372036854775807), ((-9223372036854775808), 9223372036854775807), ((-9223372036854775808), 9223372036854775807), ((-9223372036854775808), 9223372036854775807)] []) : PureOk Tryd.prog 95 σ W0 65 p145 := pure_ok fit hk (FnsOk.nil) p145_run
noncomputable def y47 : List Sym := [s0, s7, s14, s1, s2, s3, s4, s5, s6, s8, s9, s10, s11, s12, s13, s15, s16, s17, s18, s19, s20]
theorem y47_ok {W0 : World} (hL : L0 W0) : ∀ x ∈ y47, SymOk Tryd.prog 95 W0 47 x := all_cons (s0_ok hL) (all_cons (s7_ok hL) (all_cons (s14_ok hL) (all_cons (s1_ok hL) (all_cons (s2_ok hL) (all_cons (s3_ok hL) (all_cons (s4_ok hL) (all_cons (s5_ok hL) (all_cons (s6_ok hL) (all_cons (s8_ok hL) (all_cons (s9_ok hL) (all_cons (s10_ok hL) (all_cons (s11_ok hL) (all_cons (s12_ok hL) (all_cons (s13_ok hL) (all_cons (s15_ok hL) (all_cons (s16_ok hL) (all_cons (s17_ok hL) (all_cons (s18_ok hL) (all_cons (s19_ok hL) (all_cons (s20_ok hL) (all_nil)))))))))))))))))))))
noncomputable def q48 : Fns := [(10, pureFn [p0]), (6, frameFn [m127])]
theorem q48_ok {σ : Nat → Int} {W0 : World} (hL : L0 W0) : FnsOk Tryd.prog 95 σ W0 q48 := FnsOk.cons (pure_fn_ok (all_cons (p0_ok hL) (all_nil))) (FnsOk.cons (frame_fn_ok (all_cons (m127_ok hL) (all_nil))) (FnsOk.nil))
theorem case25 : CaseR (rowH (sentH 225 12 errTab) [.int .i64 (.var 8), .int .i64 (.var 9), .int .i64 (.var 10), .int .i64 (.var 11), .int .i64 (.var 12), .int .i64 (.var 13)]) [((-9223372036854775808), 9223372036854775807), (0, 4294967295), (0, 2), (0, 2), (0, 2), (0, 2), (0, 2), (0, 2), ((-9223372036854775808), 9223372036854775807), ((-9223372036854775808), 9223372036854775807), ((-9223372036854775808), 9223372036854775807), ((-9223372036854775808), 9223372036854775807), ((-9223372036854775808), 9223372036854775807), ((-9223372036854775808), 9223372036854775807)] [] [(0, 5, .lit 2), (8, 3, .var 2), (9, 3, .var 3), (10, 3, .var 4), (11, 3, .var 5), (12, 3, .var 6), (13, 3, .var 7)] [.int .i64 (.var 0), .slice 18 0 6 6 1 false, .int .u32 (.var 1)] := caseR (fun hL hk hT => FnsOk.cons (hT.ok fit) (FnsOk.cons (pure_fn_ok (all_cons (p6_ok hL) (all_cons (p7_ok hL) (all_cons (p8_ok hL) (all_cons (p9_ok hL) (all_cons (p10_ok hL) (all_cons (p11_ok hL) (all_cons (p128_ok hL hk) (all_cons (p129_ok hL hk) (all_cons (p130_ok hL hk) (all_cons (p131_ok hL hk) (all_cons (p132_ok hL hk) (all_cons (p133_ok hL hk) (all_cons (p4_ok hL) (all_cons (p5_ok hL) (all_cons (p23_ok hL) (all_cons (p134_ok hL hk) (all_cons (p135_ok hL hk) (all_cons (p136_ok hL hk) (all_cons (p137_ok hL hk) (all_cons (p138_ok hL hk) (all_cons (p139_ok hL hk) (all_cons (p22_ok hL) (all_cons (p76_ok hL) (all_cons (p140_ok hL hk) (all_cons (p141_ok hL hk) (all_cons (p142_ok hL hk) (all_cons (p143_ok hL hk) (all_cons (p144_ok hL hk) (all_cons (p145_ok hL hk) (all_cons (p75_ok hL) (all_nil)))))))))))))))))))))))))))))))) (FnsOk.cons (sym_fn_ok (Γ := cxX Tryd.prog bad [((-9223372036854775808), 9223372036854775807), (0, 4294967295), (0, 2), (0, 2), (0, 2), (0, 2), (0, 2), (0, 2), ((-9223372036854775808), 9223372036854775807), ((-9223372036854775808), 9223372036854775807), ((-9223372036854775808), 9223372036854775807), ((-9223372036854775808), 9223372036854775807), ((-9223372036854775808), 9223372036854775807), ((-9223372036854775808), 9223372036854775807)] [] []) (fix := 18) ⟨hk.rng, hk.facts⟩ (by decide) (y47_ok hL)) ((q48_ok hL))))) (by kernel_rfl : isTrue (evCall (cxX Tryd.prog bad [((-9223372036854775808), 9223372036854775807), (0, 4294967295), (0, 2), (0, 2), (0, 2), (0, 2), (0, 2), (0, 2), ((-9223372036854775808), 9223372036854775807), ((-9223372036854775808), 9223372036854775807), ((-9223372036854775808), 9223372036854775807), ((-9223372036854775808), 9223372036854775807), ((-9223372036854775808), 9223372036854775807), ((-9223372036854775808), 9223372036854775807)] [] ((11, numExtE [(0, 5, .lit 2), (8, 3, .var 2), (9, 3, .var 3), (10, 3, .var 4), (11, 3, .var 5), (12, 3, .var 6), (13, 3, .var 7)]) :: (65, pureFn [p6, p7, p8, p9, p10, p11, p128, p129, p130, p131, p132, p133, p4, p5, p23, p134, p135, p136, p137, p138, p139, p22, p76, p140, p141, p142, p143, p144, p145, p75]) :: (47, symFn (cxX Tryd.prog bad [((-9223372036854775808), 9223372036854775807), (0, 4294967295), (0, 2), (0, 2), (0, 2), (0, 2), (0, 2), (0, 2), ((-9223372036854775808), 9223372036854775807), ((-9223372036854775808), 9223372036854775807), ((-9223372036854775808), 9223372036854775807), ((-9223372036854775808), 9223372036854775807), ((-9223372036854775808), 9223372036854775807), ((-9223372036854775808), 9223372036854775807)] [] []) 18 y47) :: q48)) 1000 60 4 [.int .i64 (.var 0), .slice 18 0 6 6 1 false, .int .u32 (.var 1)] (rowH (sentH 225 12 errTab) [.int .i64 (.var 8), .int .i64 (.var 9), .int .i64 (.var 10), .int .i64 (.var 11), .int .i64 (.var 12), .int .i64 (.var 13)])) = true)
theorem case26 (m : Nat) : CaseR (nameH (sentH 225 12 errTab)) [] [] [(0, 5, .lit 2)] [.int .i64 (.var 0), .slice 18 0 (m + 7) (m + 7) 1 false, .int .u32 (.var 1)] := caseR (fun hL hk hT => FnsOk.cons (hT.ok fit) (FnsOk.cons (pure_fn_ok (all_cons (p0_ok hL) (all_nil))) (FnsOk.nil))) (by kernel_rfl : isTrue (evCall (cxX Tryd.prog bad [] [] [(11, numExtE [(0, 5, .lit 2)]), (10, pureFn [p0])]) 1000 60 4 [.int .i64 (.var 0), .slice 18 0 (m + 7) (m + 7) 1 false, .int .u32 (.var 1)] (nameH (sentH 225 12 errTab))) = true)
noncomputable def h49 : H := hUpd h17 37 [] [] []
noncomputable def h50 : H := hUpd h34 92 [70, 58, 34, 36, 72, 64, 61, 37, 73, 75, 67, 35, 55] [(62, .cells 1 ([[.snil]]) false),
  (46, .cells 2 ([[.ptr 41 0, .ptr 45 0]]) false),
  (86, .cells 3 (rp 6 ([bF, I 0, bF]) ([])) false),
  (38, .cells 3 (rp 16 ([bF, I 0, bF]) ([])) false),
  (90, .cells 1 ([[.snil]]) false),
  (42, .cells 3 (rp 24 ([bF, I 0, bF]) ([])) false),
  (82, .cells 1 ([[.slice 81 0 8 8 3 true]]) false),
  (50, .cells 1 ([[.slice 49 0 8 8 3 true]]) false),
  (76, .cells 1 ([[.ptr 53 0], [.ptr 56 0], [.ptr 59 0], [.ptr 62 0], [.ptr 65 0], [.ptr 68 0], [.ptr 71 0], [.ptr 74 0]]) false),
  (44, .cells 32 (rp 24 (rp 32 (U 0) ([])) ([])) false),
  (84, .map [] 0),
  (52, .cells 3 ([[.ptr 50 0, .slice 51 0 8 8 107 true, .slice 76 0 8 8 1 false]]) false),
  (68, .cells 1 ([[.snil]]) false),
  (88, .cells 31 (rp 6 ((bF) :: rp 4 (I 0) ((U 0) :: rp 4 (I 0) ((U 0) :: rp 4 (I 0) ((U 0) :: rp 4 (I 0) ((U 0) :: rp 4 (I 0) ((U 0) :: rp 4 (I 0) ([U 0]))))))) ([])) false),
  (56, .cells 1 ([[.snil]]) false),
  (40, .cells 80 (rp 16 (rp 4 (I 0) ((U 0) :: rp 4 (I 0) ((U 0) :: rp 4 (I 0) ((U 0) :: rp 4 (I 0) ((U 0) :: rp 4 (I 0) ((U 0) :: rp 4 (I 0) ((U 0) :: rp 4 (I 0) ((U 0) :: rp 4 (I 0) ((U 0) :: rp 4 (I 0) ((U 0) :: rp 4 (I 0) ((U 0) :: rp 4 (I 0) ((U 0) :: rp 4 (I 0) ((U 0) :: rp 4 (I 0) ((U 0) :: rp 4 (I 0) ((U 0) :: rp 4 (I 0) ((U 0) :: rp 4 (I 0) ([U 0]))))))))))))))))) ([])) false),
  (80, .cells 2 ([[.ptr 78 0, .slice 79 0 12 12 2 true]]) false),
  (77, .cells 3 (rp 12 ([bF, I 0, bF]) ([])) false),
  (45, .cells 2 ([[.ptr 43 0, .slice 44 0 24 24 32 true]]) false),
  (85, .cells 5 ([[.ptr 82 0, .slice 83 0 8 8 3 true, .map 84, .ptr 48 0, .ptr 52 0]]) false),
  (53, .cells 1 ([[.snil]]) false),
  (89, .cells 2 ([[.ptr 87 0, .slice 88 0 6 6 31 true]]) false),
  (81, .cells 3 (rp 8 ([bF, I 0, bF]) ([])) false),
  (49, .cells 3 (rp 8 ([bF, I 0, bF]) ([])) false),
  (65, .cells 1 ([[.snil]]) false),
  (91, .cells 9 ([[.ptr 48 0, .ptr 52 0, .ptr 80 0, .ptr 85 0, .ptr 89 0, .ptr 90 0, .snil, .snil, I 0]]) false),
  (59, .cells 1 ([[.snil]]) false),
  (43, .cells 1 ([[.slice 42 0 24 24 3 true]]) false),
  (83, .cells 3 (rp 8 ([I 0, I 0, I 0]) ([])) false),
  (51, .cells 107 (rp 8 (rp 9 (U 0) (rp 6 (I 0) ((U 0) :: rp 4 (I 0) ((U 0) :: rp 4 (I 0) ((U 0) :: rp 4 (I 0) ((U 0) :: rp 4 (I 0) ((U 0) :: rp 4 (I 0) ((U 0) :: rp 4 (I 0) ((U 0) :: rp 4 (I 0) ((U 0) :: rp 4 (I 0) ((U 0) :: rp 4 (I 0) ((U 0) :: rp 4 (I 0) ((U 0) :: rp 4 (I 0) ((U 0) :: rp 4 (I 0) ((U 0) :: rp 4 (I 0) ((U 0) :: rp 4 (I 0) ((U 0) :: rp 4 (I 0) ((U 0) :: rp 4 (I 0) ((U 0) :: rp 4 (I 0) ((U 0) :: rp 4 (I 0) ([U 0, I 0]))))))))))))))))))))) ([])) false),
  (87, .cells 1 ([[.slice 86 0 6 6 3 true]]) false),
  (71, .cells 1 ([[.snil]]) false),
  (79, .cells 2 (rp 12 ([I 0, I 0]) ([])) false),
  (47, .cells 3 ([[I 16, .snil, I 0]]) false)] [(78, 0, [.slice 77 0 12 12 3 true]),
  (74, 0, [.snil]),
  (48, 0, [.ptr 46 0, I 16, .ptr 47 0]),
  (41, 0, [.ptr 39 0, .slice 40 0 16 16 80 true]),
  (39, 0, [.slice 38 0 16 16 3 true])]
noncomputable def m146 : Memo := ⟨[.agg [I 16, I 24, I 8, I 12, I 8, I 6]], h49, .tuple [.ptr 91 0, .inil], h50⟩
theorem m146_run : ranTo (evCall (cxX Tryd.prog bad [] [] []) 1000 60 6 m146.args m146.h) m146.v m146.h' = true := by kernel_rfl
theorem m146_ok {σ : Nat → Int} {W0 : World} (hL : L0 W0) : MemoOk Tryd.prog 95 σ W0 6 m146 := memo_ok fit (Known2.nil σ) (FnsOk.nil) m146_run
noncomputable def p147 : Pur := ([.agg [I 3, I 6, I 0, I 0, U 0]], .inil, 1048576)
theorem p147_run : ranPure (evCall (cxX Tryd.prog bad [] [] []) 1000 60 65 p147.1 ⟨.lf, p147.2.2⟩) p147.2.1 = true := by kernel_rfl
theorem p147_ok {σ : Nat → Int} {W0 : World} (hL : L0 W0) : PureOk Tryd.prog 95 σ W0 65 p147 := pure_ok fit (Known2.nil σ) (FnsOk.nil) p147_run
noncomputable def p148 : Pur := ([.agg [I 3, I 7, I 0, I 0, U 0]], .inil, 1048576)
theorem p148_run : ranPure (evCall (cxX Tryd.prog bad [] [] []) 1000 60 65 p148.1 ⟨.lf, p148.2.2⟩) p148.2.1 = true := by kernel_rfl
theorem p148_ok {σ : Nat → Int} {W0 : World} (hL : L0 W0) : PureOk Tryd.prog 95 σ W0 65 p148 := pure_ok fit (Known2.nil σ) (FnsOk.nil) p148_run
noncomputable def p149 : Pur := ([.agg [I 2, I 3, I 0, I 0, U 1]], .inil, 1048576)
theorem p149_run : ranPure (evCall (cxX Tryd.prog bad [] [] []) 1000 60 65 p149.1 ⟨.lf, p149.2.2⟩) p149.2.1 = true := by kernel_rfl
theorem p149_ok {σ : Nat → Int} {W0 : World} (hL : L0 W0) : PureOk Tryd.prog 95 σ W0 65 p149 := pure_ok fit (Known2.nil σ) (FnsOk.nil) p149_run
noncomputable def p150 : Pur := ([.agg [I 7, I 4, I 0, I 0, U 0]], .inil, 1048576)
theorem p150_run : ranPure (evCall (cxX Tryd.prog bad [] [] []) 1000 60 65 p150.1 ⟨.lf, p150.2.2⟩) p150.2.1 = true := by kernel_rfl
theorem p150_ok {σ : Nat → Int} {W0 : World} (hL : L0 W0) : PureOk Tryd.prog 95 σ W0 65 p150 := pure_ok fit (Known2.nil σ) (FnsOk.nil) p150_run
noncomputable def h51 : H := hUpc h35 58 [] [(35, .map [(.agg [I 3, I 0], .agg [I 0, I 0], 0), (.agg [I 3, I 1], .agg [I 0, I 0], 1), (.agg [I 2, I 0], .agg [I 0, I 0], 2), (.agg [I 4, I 0], .agg [I 0, I 0], 3), (.agg [I 3, I 2], .agg [I 0, I 0], 4), (.agg [I 3, I 3], .agg [I 0, I 0], 5), (.agg [I 2, I 1], .agg [I 0, I 0], 6), (.agg [I 4, I 1], .agg [I 0, I 0], 7), (.agg [I 3, I 4], .agg [I 0, I 0], 8), (.agg [I 3, I 5], .agg [I 0, I 0], 9), (.agg [I 2, I 2], .agg [I 0, I 0], 10), (.agg [I 4, I 2], .agg [I 0, I 0], 11)] 12)] [(56, 2, [bT, I 0, bF]),
  (40, 2, [bT, I 0, bF]),
  (57, 4, [bT, I 0, bF]),
  (57, 5, [bT, I 0, bF]),
  (49, 3, [bT, I 0, bF])] [(55, 4, 0, .int .u32 (.var 74))]
noncomputable def l49 : List (Pur) := p11 :: p10 :: p9 :: p8 :: p150 :: p6 :: p149 :: p4 :: p148 :: p147 :: []
theorem l49_ok {σ : Nat → Int} {W0 : World} (hL : L0 W0) : ∀ x ∈ l49, PureOk Tryd.prog 95 σ W0 65 x := all_cons (p11_ok hL) (all_cons (p10_ok hL) (all_cons (p9_ok hL) (all_cons (p8_ok hL) (all_cons (p150_ok hL) (all_cons (p6_ok hL) (all_cons (p149_ok hL) (all_cons (p4_ok hL) (all_cons (p148_ok hL) (all_cons (p147_ok hL) (all_nil))))))))))
noncomputable def s21 : Sym := ⟨[.ptr 18 0, .agg [.slice 19 0 1 1 1 true, I 13, .snil, bF]], h51, [18, 20, 26, 38, 39, 52, 54, 56, 57, 21, 23, 28, 33, 35, 40, 50, 55, 22, 31, 49, 29, 32, 34, 53, 19, 14, 6, 12, 16, 4, 2, 13, 17, 15, 3, 1, 0], [(0, 4294967295), (0, 1099511627775), (0, 1099511627775), (0, 1099511627775), (0, 1099511627775), (0, 1099511627775), (0, 1099511627775), (0, 1099511627775), (0, 1099511627775), (0, 1099511627775), (0, 4294967295), (0, 1099511627775), (0, 1099511627775), (0, 1099511627775), (0, 1099511627775), (0, 1099511627775), (0, 1099511627775), (0, 1099511627775), (0, 1099511627775), (0, 1099511627775), (0, 1099511627775), (0, 1099511627775), (0, 1099511627775), (0, 4294967295), (0, 1099511627775), (0, 1099511627775), (0, 1099511627775), (0, 1099511627775), (0, 1099511627775), (0, 1099511627775), (0, 1099511627775), (0, 1099511627775), (0, 1099511627775), (0, 1099511627775), (0, 1099511627775), (0, 1099511627775), (0, 4294967295), (0, 1099511627775), (0, 1099511627775), (0, 1099511627775), (0, 1099511627775), (0, 1099511627775), (0, 1099511627775), (0, 1099511627775), (0, 1099511627775), (0, 1099511627775), (0, 1099511627775), (0, 1099511627775), (0, 1099511627775), (0, 4294967295), (0, 1099511627775), (0, 1099511627775), (0, 1099511627775), (0, 1099511627775), (0, 1099511627775), (0, 1099511627775), (0, 1099511627775), (0, 1099511627775), (0, 1099511627775), (0, 1099511627775), (0, 1099511627775), (0, 1099511627775), (0, 1099511627775), (0, 1099511627775), (0, 1099511627775), (0, 1099511627775), (0, 1099511627775), (0, 1099511627775), (0, 1099511627775), (0, 1099511627775), (0, 1099511627775), (0, 1099511627775), (0, 4294967295), (0, 4294967295), (0, 4294967295)],
  [(false, .sub (.lit 60) (.var 56), .lit 1, false), (false, .sub (.lit 60) (.add (.var 56) (.lit 1)), .lit 1, false), (false, .sub (.lit 60) (.add (.var 56) (.lit 2)), .lit 1, false), (false, .sub (.lit 60) (.add (.var 56) (.lit 3)), .lit 1, false)],
  .tuple [I 3, .inil],
  [.cel 29 3 9 (I 1),
  .cel 29 3 11 (I 8),
  .cel 29 3 16 (I 7),
  .cel 29 3 17 (I 4),
  .cel 29 3 21 (I 11),
  .cel 29 3 26 (I 12),
  .cel 29 3 31 (I 13),
  .cel 29 3 36 (I 14),
  .cel 29 3 91 (I 2),
  .cel 29 3 92 (I 3),
  .cel 29 3 95 (U 1),
  .cel 29 3 96 (I 7),
  .cel 29 3 97 (I 4),
  .row 32 4 ([I 0, I 13]),
  .row 34 0 ([IZ (-1), I 60, .int .i64 (.add (.var 56) (.lit 4))]),
  .set 35 (.map [(.agg [I 3, I 0], .agg [I 0, I 0], 0), (.agg [I 3, I 1], .agg [I 0, I 0], 1), (.agg [I 2, I 0], .agg [I 0, I 0], 2), (.agg [I 4, I 0], .agg [I 0, I 0], 3), (.agg [I 3, I 2], .agg [I 0, I 0], 4), (.agg [I 3, I 3], .agg [I 0, I 0], 5), (.agg [I 2, I 1], .agg [I 0, I 0], 6), (.agg [I 4, I 1], .agg [I 0, I 0], 7), (.agg [I 3, I 4], .agg [I 0, I 0], 8), (.agg [I 3, I 5], .agg [I 0, I 0], 9), (.agg [I 2, I 2], .agg [I 0, I 0], 10), (.agg [I 4, I 2], .agg [I 0, I 0], 11), (.agg [I 3, I 6], .agg [I 0, I 0], 12), (.agg [I 3, I 7], .agg [I 0, I 0], 13), (.agg [I 2, I 3], .agg [I 0, I 0], 14), (.agg [I 4, I 3], .agg [I 0, I 0], 15)] 16),
  .row 40 3 ([bT, I 0, bF]),
  .row 49 4 ([bT, I 0, bF]),
  .cel 53 3 0 (I 3),
  .cel 53 3 1 (I 6),
  .cel 53 3 5 (I 3),
  .cel 53 3 6 (I 7),
  .cel 55 6 0 (.int .u32 (.var 0)),
  .row 56 3 ([bT, I 0, bF]),
  .row 57 6 ([bT, I 0, bF]),
  .row 57 7 ([bT, I 0, bF])], 533⟩
theorem s21_run : ranTo (evCall (cxX Tryd.prog bad s21.rng s21.facts [(65, pureFn l49)]) 1000 60 47 s21.args s21.pre) s21.v s21.post = true := by kernel_rfl
theorem s21_ok {W0 : World} (hL : L0 W0) : SymOk Tryd.prog 95 W0 47 s21 := sym_ok fit (fun σ hk => FnsOk.cons (pure_fn_ok (l49_ok hL)) (FnsOk.nil)) s21_run (by kernel_rfl)
noncomputable def l50 : List (Pur) := p149 :: p150 :: l34
theorem l50_ok {σ : Nat → Int} {W0 : World} (hL : L0 W0) : ∀ x ∈ l50, PureOk Tryd.prog 95 σ W0 65 x := all_cons (p149_ok hL) (all_cons (p150_ok hL) ((l34_ok hL)))
noncomputable def y51 : List Sym := [s0, s7, s14, s1, s2, s3, s4, s5, s6, s8, s9, s10, s11, s12, s13, s21, s15, s16, s17, s18, s19, s20]
theorem y51_ok {W0 : World} (hL : L0 W0) : ∀ x ∈ y51, SymOk Tryd.prog 95 W0 47 x := all_cons (s0_ok hL) (all_cons (s7_ok hL) (all_cons (s14_ok hL) (all_cons (s1_ok hL) (all_cons (s2_ok hL) (all_cons (s3_ok hL) (all_cons (s4_ok hL) (all_cons (s5_ok hL) (all_cons (s6_ok hL) (all_cons (s8_ok hL) (all_cons (s9_ok hL) (all_cons (s10_ok hL) (all_cons (s11_ok hL) (all_cons (s12_ok hL) (all_cons (s13_ok hL) (all_cons (s21_ok hL) (all_cons (s15_ok hL) (all_cons (s16_ok hL) (all_cons (s17_ok hL) (all_cons (s18_ok hL) (all_cons (s19_ok hL) (all_cons (s20_ok hL) (all_nil))))))))))))))))))))))
noncomputable def q52 : Fns := [(10, pureFn [p0]), (6, frameFn [m146])]
theorem q52_ok {σ : Nat → Int} {W0 : World} (hL : L0 W0) : FnsOk Tryd.prog 95 σ W0 q52 := FnsOk.cons (pure_fn_ok (all_cons (p0_ok hL) (all_nil))) (FnsOk.cons (frame_fn_ok (all_cons (m146_ok hL) (all_nil))) (FnsOk.nil))
theorem case27 : CaseR (nameH (sentH 225 12 errTab)) [((-9223372036854775808), 9223372036854775807), (0, 4294967295), (0, 3), (0, 3), (0, 3), (0, 3), (0, 3), (0, 3)] [] [(0, 5, .lit 3)] [.int .i64 (.var 0), .snil, .int .u32 (.var 1)] := caseR (fun hL hk hT => FnsOk.cons (hT.ok fit) (FnsOk.cons (sym_fn_ok (Γ := cxX Tryd.prog bad [((-9223372036854775808), 9223372036854775807), (0, 4294967295), (0, 3), (0, 3), (0, 3), (0, 3), (0, 3), (0, 3)] [] []) (fix := 18) ⟨hk.rng, hk.facts⟩ (by decide) (y51_ok hL)) (FnsOk.cons (pure_fn_ok (l50_ok hL)) ((q52_ok hL))))) (by kernel_rfl : isTrue (evCall (cxX Tryd.prog bad [((-9223372036854775808), 9223372036854775807), (0, 4294967295), (0, 3), (0, 3), (0, 3), (0, 3), (0, 3), (0, 3)] [] ((11, numExtE [(0, 5, .lit 3)]) :: (47, symFn (cxX Tryd.prog bad [((-9223372036854775808), 9223372036854775807), (0, 4294967295), (0, 3), (0, 3), (0, 3), (0, 3), (0, 3), (0, 3)] [] []) 18 y51) :: (65, pureFn l50) :: q52)) 1000 60 4 [.int .i64 (.var 0), .snil, .int .u32 (.var 1)] (nameH (sentH 225 12 errTab))) = true)
theorem case28 : CaseR (nameH (sentH 225 12 errTab)) [((-9223372036854775808), 9223372036854775807), (0, 4294967295), (0, 3), (0, 3), (0, 3), (0, 3), (0, 3), (0, 3)] [] [(0, 5, .lit 3)] [.int .i64 (.var 0), .eslice false, .int .u32 (.var 1)] := caseR (fun hL hk hT => FnsOk.cons (hT.ok fit) (FnsOk.cons (sym_fn_ok (Γ := cxX Tryd.prog bad [((-9223372036854775808), 9223372036854775807), (0, 4294967295), (0, 3), (0, 3), (0, 3), (0, 3), (0, 3), (0, 3)] [] []) (fix := 18) ⟨hk.rng, hk.facts⟩ (by decide) (y51_ok hL)) (FnsOk.cons (pure_fn_ok (l50_ok hL)) ((q52_ok hL))))) (by kernel_rfl : isTrue (evCall (cxX Tryd.prog bad [((-9223372036854775808), 9223372036854775807), (0, 4294967295), (0, 3), (0, 3), (0, 3), (0, 3), (0, 3), (0, 3)] [] ((11, numExtE [(0, 5, .lit 3)]) :: (47, symFn (cxX Tryd.prog bad [((-9223372036854775808), 9223372036854775807), (0, 4294967295), (0, 3), (0, 3), (0, 3), (0, 3), (0, 3), (0, 3)] [] []) 18 y51) :: (65, pureFn l50) :: q52)) 1000 60 4 [.int .i64 (.var 0), .eslice false, .int .u32 (.var 1)] (nameH (sentH 225 12 errTab))) = true)
noncomputable def h52 : H := hUpd h20 89 [] [] []
noncomputable def h53 : H := hUpd h20 144 [] [(126, .cells 1 ([[.snil]]) false),
  (94, .cells 3 (rp 24 ([bF, I 0, bF]) ([])) false),
  (142, .cells 1 ([[.snil]]) false),
  (102, .cells 1 ([[.slice 101 0 8 8 3 true]]) false),
  (134, .cells 1 ([[.slice 133 0 8 8 3 true]]) false),
  (90, .cells 3 (rp 16 ([bF, I 0, bF]) ([])) false),
  (138, .cells 3 (rp 6 ([bF, I 0, bF]) ([])) false),
  (114, .cells 1 ([[.snil]]) false),
  (98, .cells 2 ([[.ptr 93 0, .ptr 97 0]]) false),
  (130, .cells 1 ([[.slice 129 0 12 12 3 true]]) false),
  (92, .cells 80 (rp 16 (rp 4 (I 0) ((U 0) :: rp 4 (I 0) ((U 0) :: rp 4 (I 0) ((U 0) :: rp 4 (I 0) ((U 0) :: rp 4 (I 0) ((U 0) :: rp 4 (I 0) ((U 0) :: rp 4 (I 0) ((U 0) :: rp 4 (I 0) ((U 0) :: rp 4 (I 0) ((U 0) :: rp 4 (I 0) ((U 0) :: rp 4 (I 0) ((U 0) :: rp 4 (I 0) ((U 0) :: rp 4 (I 0) ((U 0) :: rp 4 (I 0) ((U 0) :: rp 4 (I 0) ((U 0) :: rp 4 (I 0) ([U 0]))))))))))))))))) ([])) false),
  (108, .cells 1 ([[.snil]]) false),
  (140, .cells 31 (rp 6 ((bF) :: rp 4 (I 0) ((U 0) :: rp 4 (I 0) ((U 0) :: rp 4 (I 0) ((U 0) :: rp 4 (I 0) ((U 0) :: rp 4 (I 0) ((U 0) :: rp 4 (I 0) ([U 0]))))))) ([])) false),
  (100, .cells 3 ([[.ptr 98 0, I 16, .ptr 99 0]]) false),
  (132, .cells 2 ([[.ptr 130 0, .slice 131 0 12 12 2 true]]) false),
  (120, .cells 1 ([[.snil]]) false),
  (104, .cells 3 ([[.ptr 102 0, .slice 103 0 8 8 107 true, .slice 128 0 8 8 1 false]]) false),
  (136, .map [] 0),
  (96, .cells 32 (rp 24 (rp 32 (U 0) ([])) ([])) false),
  (128, .cells 1 ([[.ptr 105 0], [.ptr 108 0], [.ptr 111 0], [.ptr 114 0], [.ptr 117 0], [.ptr 120 0], [.ptr 123 0], [.ptr 126 0]]) false),
  (93, .cells 2 ([[.ptr 91 0, .slice 92 0 16 16 80 true]]) false),
  (141, .cells 2 ([[.ptr 139 0, .slice 140 0 6 6 31 true]]) false),
  (117, .cells 1 ([[.snil]]) false),
  (101, .cells 3 (rp 8 ([bF, I 0, bF]) ([])) false),
  (133, .cells 3 (rp 8 ([bF, I 0, bF]) ([])) false),
  (105, .cells 1 ([[.snil]]) false),
  (137, .cells 5 ([[.ptr 134 0, .slice 135 0 8 8 3 true, .map 136, .ptr 100 0, .ptr 104 0]]) false),
  (97, .cells 2 ([[.ptr 95 0, .slice 96 0 24 24 32 true]]) false),
  (129, .cells 3 (rp 12 ([bF, I 0, bF]) ([])) false),
  (123, .cells 1 ([[.snil]]) false),
  (91, .cells 1 ([[.slice 90 0 16 16 3 true]]) false),
  (139, .cells 1 ([[.slice 138 0 6 6 3 true]]) false),
  (99, .cells 3 ([[I 16, .snil, I 0]]) false),
  (131, .cells 2 (rp 12 ([I 0, I 0]) ([])) false),
  (103, .cells 107 (rp 8 (rp 9 (U 0) (rp 6 (I 0) ((U 0) :: rp 4 (I 0) ((U 0) :: rp 4 (I 0) ((U 0) :: rp 4 (I 0) ((U 0) :: rp 4 (I 0) ((U 0) :: rp 4 (I 0) ((U 0) :: rp 4 (I 0) ((U 0) :: rp 4 (I 0) ((U 0) :: rp 4 (I 0) ((U 0) :: rp 4 (I 0) ((U 0) :: rp 4 (I 0) ((U 0) :: rp 4 (I 0) ((U 0) :: rp 4 (I 0) ((U 0) :: rp 4 (I 0) ((U 0) :: rp 4 (I 0) ((U 0) :: rp 4 (I 0) ((U 0) :: rp 4 (I 0) ((U 0) :: rp 4 (I 0) ((U 0) :: rp 4 (I 0) ([U 0, I 0]))))))))))))))))))))) ([])) false),
  (135, .cells 3 (rp 8 ([I 0, I 0, I 0]) ([])) false),
  (111, .cells 1 ([[.snil]]) false),
  (143, .cells 9 ([[.ptr 100 0, .ptr 104 0, .ptr 132 0, .ptr 137 0, .ptr 141 0, .ptr 142 0, .snil, .snil, I 0]]) false),
  (95, .cells 1 ([[.slice 94 0 24 24 3 true]]) false)] []
noncomputable def m151 : Memo := ⟨[.agg [I 16, I 24, I 8, I 12, I 8, I 6]], h52, .tuple [.ptr 143 0, .inil], h53⟩
theorem m151_run : ranTo (evCall (cxX Tryd.prog bad [] [] []) 1000 60 6 m151.args m151.h) m151.v m151.h' = true := by kernel_rfl
theorem m151_ok {σ : Nat → Int} {W0 : World} (hL : L0 W0) : MemoOk Tryd.prog 95 σ W0 6 m151 := memo_ok fit (Known2.nil σ) (FnsOk.nil) m151_run
noncomputable def h54 : H := hUpc h38 59 [] [(36, .map [(.agg [I 3, I 0], .agg [I 0, I 0], 0), (.agg [I 3, I 1], .agg [I 0, I 0], 1), (.agg [I 2, I 0], .agg [I 0, I 0], 2), (.agg [I 4, I 0], .agg [I 0, I 0], 3), (.agg [I 3, I 2], .agg [I 0, I 0], 4), (.agg [I 3, I 3], .agg [I 0, I 0], 5), (.agg [I 2, I 1], .agg [I 0, I 0], 6), (.agg [I 4, I 1], .agg [I 0, I 0], 7), (.agg [I 3, I 4], .agg [I 0, I 0], 8), (.agg [I 3, I 5], .agg [I 0, I 0], 9), (.agg [I 2, I 2], .agg [I 0, I 0], 10), (.agg [I 4, I 2], .agg [I 0, I 0], 11)] 12)] [(58, 4, [bT, I 0, bF]),
  (58, 5, [bT, I 0, bF]),
  (50, 3, [bT, I 0, bF]),
  (57, 2, [bT, I 0, bF]),
  (41, 2, [bT, I 0, bF])] [(56, 4, 0, .int .u32 (.var 74))]
noncomputable def s22 : Sym := ⟨[.ptr 18 0, .agg [.slice 19 0 1 1 1 true, I 13, .slice 20 0 1 1 1 false, bF]], h54, [18, 21, 24, 27, 39, 40, 53, 56, 57, 23, 32, 35, 50, 55, 22, 29, 36, 41, 58, 33, 34, 54, 19, 30, 51, 14, 6, 12, 16, 4, 2, 13, 17, 15, 3, 1, 0], [(0, 4294967295), (0, 1099511627775), (0, 1099511627775), (0, 1099511627775), (0, 1099511627775), (0, 1099511627775), (0, 1099511627775), (0, 1099511627775), (0, 1099511627775), (0, 1099511627775), (0, 4294967295), (0, 1099511627775), (0, 1099511627775), (0, 1099511627775), (0, 1099511627775), (0, 1099511627775), (0, 1099511627775), (0, 1099511627775), (0, 1099511627775), (0, 1099511627775), (0, 1099511627775), (0, 1099511627775), (0, 1099511627775), (0, 4294967295), (0, 1099511627775), (0, 1099511627775), (0, 1099511627775), (0, 1099511627775), (0, 1099511627775), (0, 1099511627775), (0, 1099511627775), (0, 1099511627775), (0, 1099511627775), (0, 1099511627775), (0, 1099511627775), (0, 1099511627775), (0, 4294967295), (0, 1099511627775), (0, 1099511627775), (0, 1099511627775), (0, 1099511627775), (0, 1099511627775), (0, 1099511627775), (0, 1099511627775), (0, 1099511627775), (0, 1099511627775), (0, 1099511627775), (0, 1099511627775), (0, 1099511627775), (0, 4294967295), (0, 1099511627775), (0, 1099511627775), (0, 1099511627775), (0, 1099511627775), (0, 1099511627775), (0, 1099511627775), (0, 1099511627775), (0, 1099511627775), (0, 1099511627775), (0, 1099511627775), (0, 1099511627775), (0, 1099511627775), (0, 1099511627775), (0, 1099511627775), (0, 1099511627775), (0, 1099511627775), (0, 1099511627775), (0, 1099511627775), (0, 1099511627775), (0, 1099511627775), (0, 1099511627775), (0, 1099511627775), (0, 4294967295), (0, 4294967295), (0, 4294967295)],
  [(false, .sub (.lit 60) (.var 56), .lit 1, false), (false, .sub (.lit 60) (.add (.var 56) (.lit 1)), .lit 1, false), (false, .sub (.lit 60) (.add (.var 56) (.lit 2)), .lit 1, false), (false, .sub (.lit 60) (.add (.var 56) (.lit 3)), .lit 1, false)],
  .tuple [I 3, .inil],
  [.cel 30 3 9 (I 1),
  .cel 30 3 11 (I 8),
  .cel 30 3 16 (I 7),
  .cel 30 3 17 (I 4),
  .cel 30 3 21 (I 11),
  .cel 30 3 26 (I 12),
  .cel 30 3 31 (I 13),
  .cel 30 3 36 (I 14),
  .cel 30 3 91 (I 2),
  .cel 30 3 92 (I 3),
  .cel 30 3 95 (U 1),
  .cel 30 3 96 (I 7),
  .cel 30 3 97 (I 4),
  .row 33 4 ([I 0, I 13]),
  .row 35 0 ([IZ (-1), I 60, .int .i64 (.add (.var 56) (.lit 4))]),
  .set 36 (.map [(.agg [I 3, I 0], .agg [I 0, I 0], 0), (.agg [I 3, I 1], .agg [I 0, I 0], 1), (.agg [I 2, I 0], .agg [I 0, I 0], 2), (.agg [I 4, I 0], .agg [I 0, I 0], 3), (.agg [I 3, I 2], .agg [I 0, I 0], 4), (.agg [I 3, I 3], .agg [I 0, I 0], 5), (.agg [I 2, I 1], .agg [I 0, I 0], 6), (.agg [I 4, I 1], .agg [I 0, I 0], 7), (.agg [I 3, I 4], .agg [I 0, I 0], 8), (.agg [I 3, I 5], .agg [I 0, I 0], 9), (.agg [I 2, I 2], .agg [I 0, I 0], 10), (.agg [I 4, I 2], .agg [I 0, I 0], 11), (.agg [I 3, I 6], .agg [I 0, I 0], 12), (.agg [I 3, I 7], .agg [I 0, I 0], 13), (.agg [I 2, I 3], .agg [I 0, I 0], 14), (.agg [I 4, I 3], .agg [I 0, I 0], 15)] 16),
  .row 41 3 ([bT, I 0, bF]),
  .row 50 4 ([bT, I 0, bF]),
  .cel 54 3 0 (I 3),
  .cel 54 3 1 (I 6),
  .cel 54 3 5 (I 3),
  .cel 54 3 6 (I 7),
  .cel 56 6 0 (.int .u32 (.var 0)),
  .row 57 3 ([bT, I 0, bF]),
  .row 58 6 ([bT, I 0, bF]),
  .row 58 7 ([bT, I 0, bF])], 534⟩
theorem s22_run : ranTo (evCall (cxX Tryd.prog bad s22.rng s22.facts [(65, pureFn l49)]) 1000 60 47 s22.args s22.pre) s22.v s22.post = true := by kernel_rfl
theorem s22_ok {W0 : World} (hL : L0 W0) : SymOk Tryd.prog 95 W0 47 s22 := sym_ok fit (fun σ hk => FnsOk.cons (pure_fn_ok (l49_ok hL)) (FnsOk.nil)) s22_run (by kernel_rfl)
noncomputable def p152 : Pur := ([.agg [I 5, .int .i64 (.var 2), I 0, I 0, U 0]], .inil, 1048576)
theorem p152_run : ranPure (evCall (cxX Tryd.prog bad [((-9223372036854775808), 9223372036854775807), (0, 4294967295), (0, 3), (0, 3), (0, 3), (0, 3), (0, 3), (0, 3), ((-9223372036854775808), 9223372036854775807)] [] []) 1000 60 65 p152.1 ⟨.lf, p152.2.2⟩) p152.2.1 = true := by kernel_rfl
theorem p152_ok {σ : Nat → Int} {W0 : World} (hL : L0 W0) (hk : Known2 σ [((-9223372036854775808), 9223372036854775807), (0, 4294967295), (0, 3), (0, 3), (0, 3), (0, 3), (0, 3), (0, 3), ((-9223372036854775808), 9223372036854775807)] []) : PureOk Tryd.prog 95 σ W0 65 p152 := pure_ok fit hk (FnsOk.nil) p152_run
noncomputable def p153 : Pur := ([.agg [I 5, .int .i64 (.var 2), I 0, I 0, U 1]], .inil, 1048576)
theorem p153_run : ranPure (evCall (cxX Tryd.prog bad [((-9223372036854775808), 9223372036854775807), (0, 4294967295), (0, 3), (0, 3), (0, 3), (0, 3), (0, 3), (0, 3), ((-9223372036854775808), 9223372036854775807)] [] []) 1000 60 65 p153.1 ⟨.lf, p153.2.2⟩) p153.2.1 = true := by kernel_rfl
theorem p153_ok {σ : Nat → Int} {W0 : World} (hL : L0 W0) (hk : Known2 σ [((-9223372036854775808), 9223372036854775807), (0, 4294967295), (0, 3), (0, 3), (0, 3), (0, 3), (0, 3), (0, 3), ((-9223372036854775808), 9223372036854775807)] []) : PureOk Tryd.prog 95 σ W0 65 p153 := pure_ok fit hk (FnsOk.nil) p153_run
noncomputable def p154 : Pur := ([.agg [I 5, .int .i64 (.var 2), I 0, I 0, U 2]], .inil, 1048576)
theorem p154_run : ranPure (evCall (cxX Tryd.prog bad [((-9223372036854775808), 9223372036854775807), (0, 4294967295), (0, 3), (0, 3), (0, 3), (0, 3), (0, 3), (0, 3), ((-9223372036854775808), 9223372036854775807)] [] []) 1000 60 65 p154.1 ⟨.lf, p154.2.2⟩) p154.2.1 = true := by kernel_rfl
theorem p154_ok {σ : Nat → Int} {W0 : World} (hL : L0 W0) (hk : Known2 σ [((-9223372036854775808), 9223372036854775807), (0, 4294967295), (0, 3), (0, 3), (0, 3), (0, 3), (0, 3), (0, 3), ((-9223372036854775808), 9223372036854775807)] []) : PureOk Tryd.prog 95 σ W0 65 p154 := pure_ok fit hk (FnsOk.nil) p154_run
noncomputable def p155 : Pur := ([.agg [I 5, .int .i64 (.var 2), I 0, I 0, U 3]], .inil, 1048576)
theorem p155_run : ranPure (evCall (cxX Tryd.prog bad [((-9223372036854775808), 9223372036854775807), (0, 4294967295), (0, 3), (0, 3), (0, 3), (0, 3), (0, 3), (0, 3), ((-9223372036854775808), 9223372036854775807)] [] []) 1000 60 65 p155.1 ⟨.lf, p155.2.2⟩) p155.2.1 = true := by kernel_rfl
theorem p155_ok {σ : Nat → Int} {W0 : World} (hL : L0 W0) (hk : Known2 σ [((-9223372036854775808), 9223372036854775807), (0, 4294967295), (0, 3), (0, 3), (0, 3), (0, 3), (0, 3), (0, 3), ((-9223372036854775808), 9223372036854775807)] []) : PureOk Tryd.prog 95 σ W0 65 p155 := pure_ok fit hk (FnsOk.nil) p155_run
noncomputable def y53 : List Sym := [s0, s7, s14, s1, s2, s3, s4, s5, s6, s8, s9, s10, s11, s12, s13, s21, s15, s16, s17, s18, s19, s20, s22]
theorem y53_ok {W0 : World} (hL : L0 W0) : ∀ x ∈ y53, SymOk Tryd.prog 95 W0 47 x := all_cons (s0_ok hL) (all_cons (s7_ok hL) (all_cons (s14_ok hL) (all_cons (s1_ok hL) (all_cons (s2_ok hL) (all_cons (s3_ok hL) (all_cons (s4_ok hL) (all_cons (s5_ok hL) (all_cons (s6_ok hL) (all_cons (s8_ok hL) (all_cons (s9_ok hL) (all_cons (s10_ok hL) (all_cons (s11_ok hL) (all_cons (s12_ok hL) (all_cons (s13_ok hL) (all_cons (s21_ok hL) (all_cons (s15_ok hL) (all_cons (s16_ok hL) (all_cons (s17_ok hL) (all_cons (s18_ok hL) (all_cons (s19_ok hL) (all_cons (s20_ok hL) (all_cons (s22_ok hL) (all_nil)))))))))))))))))))))))
noncomputable def q54 : Fns := [(10, pureFn [p0]), (6, frameFn [m151])]
theorem q54_ok {σ : Nat → Int} {W0 : World} (hL : L0 W0) : FnsOk Tryd.prog 95 σ W0 q54 := FnsOk.cons (pure_fn_ok (all_cons (p0_ok hL) (all_nil))) (FnsOk.cons (frame_fn_ok (all_cons (m151_ok hL) (all_nil))) (FnsOk.nil))
theorem case29 : CaseR (rowH (sentH 225 12 errTab) [.int .i64 (.var 8)]) [((-9223372036854775808), 9223372036854775807), (0, 4294967295), (0, 3), (0, 3), (0, 3), (0, 3), (0, 3), (0, 3), ((-9223372036854775808), 9223372036854775807)] [] [(0, 5, .lit 3), (8, 4, .var 2)] [.int .i64 (.var 0), .slice 18 0 1 1 1 false, .int .u32 (.var 1)] := caseR (fun hL hk hT => FnsOk.cons (hT.ok fit) (FnsOk.cons (pure_fn_ok (all_cons (p6_ok hL) (all_cons (p7_ok hL) (all_cons (p8_ok hL) (all_cons (p9_ok hL) (all_cons (p10_ok hL) (all_cons (p11_ok hL) (all_cons (p152_ok hL hk) (all_cons (p4_ok hL) (all_cons (p5_ok hL) (all_cons (p23_ok hL) (all_cons (p153_ok hL hk) (all_cons (p22_ok hL) (all_cons (p76_ok hL) (all_cons (p154_ok hL hk) (all_cons (p75_ok hL) (all_cons (p150_ok hL) (all_cons (p155_ok hL hk) (all_cons (p149_ok hL) (all_nil)))))))))))))))))))) (FnsOk.cons (sym_fn_ok (Γ := cxX Tryd.prog bad [((-9223372036854775808), 9223372036854775807), (0, 4294967295), (0, 3), (0, 3), (0, 3), (0, 3), (0, 3), (0, 3), ((-9223372036854775808), 9223372036854775807)] [] []) (fix := 18) ⟨hk.rng, hk.facts⟩ (by decide) (y53_ok hL)) ((q54_ok hL))))) (by kernel_rfl : isTrue (evCall (cxX Tryd.prog bad [((-9223372036854775808), 9223372036854775807), (0, 4294967295), (0, 3), (0, 3), (0, 3), (0, 3), (0, 3), (0, 3), ((-9223372036854775808), 9223372036854775807)] [] ((11, numExtE [(0, 5, .lit 3), (8, 4, .var 2)]) :: (65, pureFn [p6, p7, p8, p9, p10, p11, p152, p4, p5, p23, p153, p22, p76, p154, p75, p150, p155, p149]) :: (47, symFn (cxX Tryd.prog bad [((-9223372036854775808), 9223372036854775807), (0, 4294967295), (0, 3), (0, 3), (0, 3), (0, 3), (0, 3), (0, 3), ((-9223372036854775808), 9223372036854775807)] [] []) 18 y53) :: q54)) 1000 60 4 [.int .i64 (.var 0), .slice 18 0 1 1 1 false, .int .u32 (.var 1)] (rowH (sentH 225 12 errTab) [.int .i64 (.var 8)])) = true)
noncomputable def h55 : H := hUpd h23 141 [] [] []
noncomputable def h56 : H := hUpd h42 196 [158, 198, 202, 162, 204, 164, 196, 200, 165, 197, 201, 161, 203, 199, 159] [(190, .cells 3 (rp 6 ([bF, I 0, bF]) ([])) false),
  (142, .cells 3 (rp 16 ([bF, I 0, bF]) ([])) false),
  (182, .cells 1 ([[.slice 181 0 12 12 3 true]]) false),
  (150, .cells 2 ([[.ptr 145 0, .ptr 149 0]]) false),
  (186, .cells 1 ([[.slice 185 0 8 8 3 true]]) false),
  (154, .cells 1 ([[.slice 153 0 8 8 3 true]]) false),
  (146, .cells 3 (rp 24 ([bF, I 0, bF]) ([])) false),
  (194, .cells 1 ([[.snil]]) false),
  (188, .map [] 0),
  (156, .cells 3 ([[.ptr 154 0, .slice 155 0 8 8 107 true, .slice 180 0 8 8 1 false]]) false),
  (180, .cells 1 ([[.ptr 157 0], [.ptr 160 0], [.ptr 163 0], [.ptr 166 0], [.ptr 169 0], [.ptr 172 0], [.ptr 175 0], [.ptr 178 0]]) false),
  (148, .cells 32 (rp 24 (rp 32 (U 0) ([])) ([])) false),
  (184, .cells 2 ([[.ptr 182 0, .slice 183 0 12 12 2 true]]) false),
  (152, .cells 3 ([[.ptr 150 0, I 16, .ptr 151 0]]) false),
  (144, .cells 80 (rp 16 (rp 4 (I 0) ((U 0) :: rp 4 (I 0) ((U 0) :: rp 4 (I 0) ((U 0) :: rp 4 (I 0) ((U 0) :: rp 4 (I 0) ((U 0) :: rp 4 (I 0) ((U 0) :: rp 4 (I 0) ((U 0) :: rp 4 (I 0) ((U 0) :: rp 4 (I 0) ((U 0) :: rp 4 (I 0) ((U 0) :: rp 4 (I 0) ((U 0) :: rp 4 (I 0) ((U 0) :: rp 4 (I 0) ((U 0) :: rp 4 (I 0) ((U 0) :: rp 4 (I 0) ((U 0) :: rp 4 (I 0) ([U 0]))))))))))))))))) ([])) false),
  (160, .cells 1 ([[.snil]]) false),
  (192, .cells 31 (rp 6 ((bF) :: rp 4 (I 0) ((U 0) :: rp 4 (I 0) ((U 0) :: rp 4 (I 0) ((U 0) :: rp 4 (I 0) ((U 0) :: rp 4 (I 0) ((U 0) :: rp 4 (I 0) ([U 0]))))))) ([])) false),
  (189, .cells 5 ([[.ptr 186 0, .slice 187 0 8 8 3 true, .map 188, .ptr 152 0, .ptr 156 0]]) false),
  (157, .cells 1 ([[.snil]]) false),
  (181, .cells 3 (rp 12 ([bF, I 0, bF]) ([])) false),
  (149, .cells 2 ([[.ptr 147 0, .slice 148 0 24 24 32 true]]) false),
  (185, .cells 3 (rp 8 ([bF, I 0, bF]) ([])) false),
  (153, .cells 3 (rp 8 ([bF, I 0, bF]) ([])) false),
  (145, .cells 2 ([[.ptr 143 0, .slice 144 0 16 16 80 true]]) false),
  (187, .cells 3 (rp 8 ([I 0, I 0, I 0]) ([])) false),
  (155, .cells 107 (rp 8 (rp 9 (U 0) (rp 6 (I 0) ((U 0) :: rp 4 (I 0) ((U 0) :: rp 4 (I 0) ((U 0) :: rp 4 (I 0) ((U 0) :: rp 4 (I 0) ((U 0) :: rp 4 (I 0) ((U 0) :: rp 4 (I 0) ((U 0) :: rp 4 (I 0) ((U 0) :: rp 4 (I 0) ((U 0) :: rp 4 (I 0) ((U 0) :: rp 4 (I 0) ((U 0) :: rp 4 (I 0) ((U 0) :: rp 4 (I 0) ((U 0) :: rp 4 (I 0) ((U 0) :: rp 4 (I 0) ((U 0) :: rp 4 (I 0) ((U 0) :: rp 4 (I 0) ((U 0) :: rp 4 (I 0) ((U 0) :: rp 4 (I 0) ([U 0, I 0]))))))))))))))))))))) ([])) false),
  (147, .cells 1 ([[.slice 146 0 24 24 3 true]]) false),
  (195, .cells 9 ([[.ptr 152 0, .ptr 156 0, .ptr 184 0, .ptr 189 0, .ptr 193 0, .ptr 194 0, .snil, .snil, I 0]]) false),
  (183, .cells 2 (rp 12 ([I 0, I 0]) ([])) false),
  (151, .cells 3 ([[I 16, .snil, I 0]]) false),
  (143, .cells 1 ([[.slice 142 0 16 16 3 true]]) false)] [(18, 0, [.int .i64 (.var 8), .int .i64 (.var 9)]),
  (193, 0, [.ptr 191 0, .slice 192 0 6 6 31 true]),
  (163, 0, [.snil]),
  (191, 0, [.slice 190 0 6 6 3 true])]
noncomputable def m156 : Memo := ⟨[.agg [I 16, I 24, I 8, I 12, I 8, I 6]], h55, .tuple [.ptr 195 0, .inil], h56⟩
theorem m156_run : ranTo (evCall (cxX Tryd.prog bad [] [] []) 1000 60 6 m156.args m156.h) m156.v m156.h' = true := by kernel_rfl
theorem m156_ok {σ : Nat → Int} {W0 : World} (hL : L0 W0) : MemoOk Tryd.prog 95 σ W0 6 m156 := memo_ok fit (Known2.nil σ) (FnsOk.nil) m156_run
noncomputable def s23 : Sym := ⟨[.ptr 18 0, .agg [.slice 19 0 1 1 1 true, I 13, .slice 20 0 2 2 1 false, bF]], h54, [18, 21, 24, 27, 39, 40, 53, 56, 57, 23, 32, 35, 50, 55, 22, 29, 36, 41, 58, 33, 34, 54, 19, 30, 51, 14, 6, 12, 16, 4, 2, 13, 17, 15, 3, 1, 0], [(0, 4294967295), (0, 1099511627775), (0, 1099511627775), (0, 1099511627775), (0, 1099511627775), (0, 1099511627775), (0, 1099511627775), (0, 1099511627775), (0, 1099511627775), (0, 1099511627775), (0, 4294967295), (0, 1099511627775), (0, 1099511627775), (0, 1099511627775), (0, 1099511627775), (0, 1099511627775), (0, 1099511627775), (0, 1099511627775), (0, 1099511627775), (0, 1099511627775), (0, 1099511627775), (0, 1099511627775), (0, 1099511627775), (0, 4294967295), (0, 1099511627775), (0, 1099511627775), (0, 1099511627775), (0, 1099511627775), (0, 1099511627775), (0, 1099511627775), (0, 1099511627775), (0, 1099511627775), (0, 1099511627775), (0, 1099511627775), (0, 1099511627775), (0, 1099511627775), (0, 4294967295), (0, 1099511627775), (0, 1099511627775), (0, 1099511627775), (0, 1099511627775), (0, 1099511627775), (0, 1099511627775), (0, 1099511627775), (0, 1099511627775), (0, 1099511627775), (0, 1099511627775), (0, 1099511627775), (0, 1099511627775), (0, 4294967295), (0, 1099511627775), (0, 1099511627775), (0, 1099511627775), (0, 1099511627775), (0, 1099511627775), (0, 1099511627775), (0, 1099511627775), (0, 1099511627775), (0, 1099511627775), (0, 1099511627775), (0, 1099511627775), (0, 1099511627775), (0, 1099511627775), (0, 1099511627775), (0, 1099511627775), (0, 1099511627775), (0, 1099511627775), (0, 1099511627775), (0, 1099511627775), (0, 1099511627775), (0, 1099511627775), (0, 1099511627775), (0, 4294967295), (0, 4294967295), (0, 4294967295)],
  [(false, .sub (.lit 60) (.var 56), .lit 1, false), (false, .sub (.lit 60) (.add (.var 56) (.lit 1)), .lit 1, false), (false, .sub (.lit 60) (.add (.var 56) (.lit 2)), .lit 1, false), (false, .sub (.lit 60) (.add (.var 56) (.lit 3)), .lit 1, false)],
  .tuple [I 3, .inil],
  [.cel 30 3 9 (I 1),
  .cel 30 3 11 (I 8),
  .cel 30 3 16 (I 7),
  .cel 30 3 17 (I 4),
  .cel 30 3 21 (I 11),
  .cel 30 3 26 (I 12),
  .cel 30 3 31 (I 13),
  .cel 30 3 36 (I 14),
  .cel 30 3 91 (I 2),
  .cel 30 3 92 (I 3),
  .cel 30 3 95 (U 1),
  .cel 30 3 96 (I 7),
  .cel 30 3 97 (I 4),
  .row 33 4 ([I 0, I 13]),
  .row 35 0 ([IZ (-1), I 60, .int .i64 (.add (.var 56) (.lit 4))]),
  .set 36 (.map [(.agg [I 3, I 0], .agg [I 0, I 0], 0), (.agg [I 3, I 1], .agg [I 0, I 0], 1), (.agg [I 2, I 0], .agg [I 0, I 0], 2), (.agg [I 4, I 0], .agg [I 0, I 0], 3), (.agg [I 3, I 2], .agg [I 0, I 0], 4), (.agg [I 3, I 3], .agg [I 0, I 0], 5), (.agg [I 2, I 1], .agg [I 0, I 0], 6), (.agg [I 4, I 1], .agg [I 0, I 0], 7), (.agg [I 3, I 4], .agg [I 0, I 0], 8), (.agg [I 3, I 5], .agg [I 0, I 0], 9), (.agg [I 2, I 2], .agg [I 0, I 0], 10), (.agg [I 4, I 2], .agg [I 0, I 0], 11), (.agg [I 3, I 6], .agg [I 0, I 0], 12), (.agg [I 3, I 7], .agg [I 0, I 0], 13), (.agg [I 2, I 3], .agg [I 0, I 0], 14), (.agg [I 4, I 3], .agg [I 0, I 0], 15)] 16),
  .row 41 3 ([bT, I 0, bF]),
  .row 50 4 ([bT, I 0, bF]),
  .cel 54 3 0 (I 3),
  .cel 54 3 1 (I 6),
  .cel 54 3 5 (I 3),
  .cel 54 3 6 (I 7),
  .cel 56 6 0 (.int .u32 (.var 0)),
  .row 57 3 ([bT, I 0, bF]),
  .row 58 6 ([bT, I 0, bF]),
  .row 58 7 ([bT, I 0, bF])], 534⟩
theorem s23_run : ranTo (evCall (cxX Tryd.prog bad s23.rng s23.facts [(65, pureFn l49)]) 1000 60 47 s23.args s23.pre) s23.v s23.post = true := by kernel_rfl
theorem s23_ok {W0 : World} (hL : L0 W0) : SymOk Tryd.prog 95 W0 47 s23 := sym_ok fit (fun σ hk => FnsOk.cons (pure_fn_ok (l49_ok hL)) (FnsOk.nil)) s23_run (by kernel_rfl)
noncomputable def p157 : Pur := ([.agg [I 5, .int .i64 (.var 2), I 0, I 0, U 0]], .inil, 1048576)
theorem p157_run : ranPure (evCall (cxX Tryd.prog bad [((-9223372036854775808), 9223372036854775807), (0, 4294967295), (0, 3), (0, 3), (0, 3), (0, 3), (0, 3), (0, 3), ((-9223372036854775808), 9223372036854775807), ((-9223372036854775808), 9223372036854775807)] [] []) 1000 60 65 p157.1 ⟨.lf, p157.2.2⟩) p157.2.1 = true := by kernel_rfl
theorem p157_ok {σ : Nat → Int} {W0 : World} (hL : L0 W0) (hk : Known2 σ [((-9223372036854775808), 9223372036854775807), (0, 4294967295), (0, 3), (0, 3), (0, 3), (0, 3), (0, 3), (0, 3), ((-9223372036854775808), 9223372036854775807), ((-9223372036854775808), 9223372036854775807)] []) : PureOk Tryd.prog 95 σ W0 65 p157 := pure_ok fit hk (FnsOk.nil) p157_run
noncomputable def p158 : Pur := ([.agg [I 5, .int .i64 (.var 3), I 0, I 0, U 0]], .inil, 1048576)
theorem p158_run : ranPure (evCall (cxX Tryd.prog bad [((-9223372036854775808), 9223372036854775807), (0, 4294967295), (0, 3), (0, 3), (0, 3), (0, 3), (0, 3), (0, 3), ((-9223372036854775808), 9223372036854775807), ((-9223372036854775808), 9223372036854775807)] [] []) 1000 60 65 p158.1 ⟨.lf, p158.2.2⟩) p158.2.1 = true := by kernel_rfl
theorem p158_ok {σ : Nat → Int} {W0 : World} (hL : L0 W0) (hk : Known2 σ [((-9223372036854775808), 9223372036854775807), (0, 4294967295), (0, 3), (0, 3), (0, 3), (0, 3), (0, 3), (0, 3), ((-9223372036854775808), 9223372036854775807), ((-9223372036854775808), 9223372036854775807)] []) : PureOk Tryd.prog 95 σ W0 65 p158 := pure_ok fit hk (FnsOk.nil) p158_run
noncomputable def p159 : Pur := ([.agg [I 5, .int .i64 (.var 2), I 0, I 0, U 1]], .inil, 1048576)
theorem p159_run : ranPure (evCall (cxX Tryd.prog bad [((-9223372036854775808), 9223372036854775807), (0, 4294967295), (0, 3), (0, 3), (0, 3), (0, 3), (0, 3), (0, 3), ((-9223372036854775808), 9223372036854775807), ((-9223372036854775808), 9223372036854775807)] [] []) 1000 60 65 p159.1 ⟨.lf, p159.2.2⟩) p159.2.1 = true := by kernel_rfl
theorem p159_ok {σ : Nat → Int} {W0 : World} (hL : L0 W0) (hk : Known2 σ [((-9223372036854775808), 9223372036854775807), (0, 4294967295), (0, 3), (0, 3), (0, 3), (0, 3), (0, 3), (0, 3), ((-9223372036854775808), 9223372036854775807), ((-9223372036854775808), 9223372036854775807)] []) : PureOk Tryd.prog 95 σ W0 65 p159 := pure_ok fit hk (FnsOk.nil) p159_run
noncomputable def p160 : Pur := ([.agg [I 5, .int .i64 (.var 3), I 0, I 0, U 1]], .inil, 1048576)
theorem p160_run : ranPure (evCall (cxX Tryd.prog bad [((-9223372036854775808), 9223372036854775807), (0, 4294967295), (0, 3), (0, 3), (0, 3), (0, 3), (0, 3), (0, 3), ((-9223372036854775808), 9223372036854775807), ((-9223372036854775808), 9223372036854775807)] [] []) 1000 60 65 p160.1 ⟨.lf, p160.2.2⟩) p160.2.1 = true := by kernel_rfl
theorem p160_ok {σ : Nat → Int} {W0 : World} (hL : L0 W0) (hk : Known2 σ [((-9223372036854775808), 9223372036854775807), (0, 4294967295), (0, 3), (0, 3), (0, 3), (0, 3), (0, 3), (0, 3), ((-9223372036854775808), 9223372036854775807), ((-9223372036854775808), 9223372036854775807)] []) : PureOk Tryd.prog 95 σ W0 65 p160 := pure_ok fit hk (FnsOk.nil) p160_run
noncomputable def p161 : Pur := ([.agg [I 5, .int .i64 (.var 2), I 0, I 0, U 2]], .inil, 1048576)
theorem p161_run : ranPure (evCall (cxX Tryd.prog bad [((-9223372036854775808), 9223372036854775807), (0, 4294967295), (0, 3), (0, 3), (0, 3), (0, 3), (0, 3), (0, 3), ((-9223372036854775808), 9223372036854775807), ((-9223372036854775808), 9223372036854775807)] [] []) 1000 60 65 p161.1 ⟨.lf, p161.2.2⟩) p161.2.1 = true := by kernel_rfl
theorem p161_ok {σ : Nat → Int} {W0 : World} (hL : L0 W0) (hk : Known2 σ [((-9223372036854775808), 9223372036854775807), (0, 4294967295), (0, 3), (0, 3), (0, 3), (0, 3), (0, 3), (0, 3), ((-9223372036854775808), 9223372036854775807), ((-9223372036854775808), 9223372036854775807)] []) : PureOk Tryd.prog 95 σ W0 65 p161 := pure_ok fit hk (FnsOk.nil) p161_run
noncomputable def p162 : Pur := ([.agg [I 5, .int .i64 (.var 3), I 0, I 0, U 2]], .inil, 1048576)
theorem p162_run : ranPure (evCall (cxX Tryd.prog bad [((-9223372036854775808), 9223372036854775807), (0, 4294967295), (0, 3), (0, 3), (0, 3), (0, 3), (0, 3), (0, 3), ((-9223372036854775808), 9223372036854775807), ((-9223372036854775808), 9223372036854775807)] [] []) 1000 60 65 p162.1 ⟨.lf, p162.2.2⟩) p162.2.1 = true := by kernel_rfl
theorem p162_ok {σ : Nat → Int} {W0 : World} (hL : L0 W0) (hk : Known2 σ [((-9223372036854775808), 9223372036854775807), (0, 4294967295), (0, 3), (0, 3), (0, 3), (0, 3), (0, 3), (0, 3), ((-9223372036854775808), 9223372036854775807), ((-9223372036854775808), 9223372036854775807)] []) : PureOk Tryd.prog 95 σ W0 65 p162 := pure_ok fit hk (FnsOk.nil) p162_run
noncomputable def p163 : Pur := ([.agg [I 5, .int .i64 (.var 2), I 0, I 0, U 3]], .inil, 1048576)
theorem p163_run : ranPure (evCall (cxX Tryd.prog bad [((-9223372036854775808), 9223372036854775807), (0, 4294967295), (0, 3), (0, 3), (0, 3), (0, 3), (0, 3), (0, 3), ((-9223372036854775808), 9223372036854775807), ((-9223372036854775808), 9223372036854775807)] [] []) 1000 60 65 p163.1 ⟨.lf, p163.2.2⟩) p163.2.1 = true := by kernel_rfl
theorem p163_ok {σ : Nat → Int} {W0 : World} (hL : L0 W0) (hk : Known2 σ [((-9223372036854775808), 9223372036854775807), (0, 4294967295), (0, 3), (0, 3), (0, 3), (0, 3), (0, 3), (0, 3), ((-9223372036854775808), 9223372036854775807), ((-9223372036854775808), 9223372036854775807)] []) : PureOk Tryd.prog 95 σ W0 65 p163 := pure_ok fit hk (FnsOk.nil) p163_run
noncomputable def p164 : Pur := ([.agg [I 5, .int .i64 (.var 3), I 0, I 0, U 3]], .inil, 1048576)
theorem p164_run : ranPure (evCall (cxX Tryd.prog bad [((-9223372036854775808), 9223372036854775807), (0, 4294967295), (0, 3), (0, 3), (0, 3), (0, 3), (0, 3), (0, 3), ((-9223372036854775808), 9223372036854775807), ((-9223372036854775808), 9223372036854775807)] [] []) 1000 60 65 p164.1 ⟨.lf, p164.2.2⟩) p164.2.1 = true := by kernel_rfl
theorem p164_ok {σ : Nat → Int} {W0 : World} (hL : L0 W0) (hk : Known2 σ [((-9223372036854775808), 9223372036854775807), (0, 4294967295), (0, 3), (0, 3), (0, 3), (0, 3), (0, 3), (0, 3), ((-9223372036854775808), 9223372036854775807), ((-9223372036854775808), 9223372036854775807)] []) : PureOk Tryd.prog 95 σ W0 65 p164 := pure_ok fit hk (FnsOk.nil) p164_run
noncomputable def y55 : List Sym := [s0, s7, s14, s1, s2, s3, s4, s5, s6, s8, s9, s10, s11, s12, s13, s21, s15, s16, s17, s18, s19, s20, s22, s23]
theorem y55_ok {W0 : World} (hL : L0 W0) : ∀ x ∈ y55, SymOk Tryd.prog 95 W0 47 x := all_cons (s0_ok hL) (all_cons (s7_ok hL) (all_cons (s14_ok hL) (all_cons (s1_ok hL) (all_cons (s2_ok hL) (all_cons (s3_ok hL) (all_cons (s4_ok hL) (all_cons (s5_ok hL) (all_cons (s6_ok hL) (all_cons (s8_ok hL) (all_cons (s9_ok hL) (all_cons (s10_ok hL) (all_cons (s11_ok hL) (all_cons (s12_ok hL) (all_cons (s13_ok hL) (all_cons (s21_ok hL) (all_cons (s15_ok hL) (all_cons (s16_ok hL) (all_cons (s17_ok hL) (all_cons (s18_ok hL) (all_cons (s19_ok hL) (all_cons (s20_ok hL) (all_cons (s22_ok hL) (all_cons (s23_ok hL) (all_nil))))))))))))))))))))))))
noncomputable def q56 : Fns := [(10, pureFn [p0]), (6, frameFn [m156])]
theorem q56_ok {σ : Nat → Int} {W0 : World} (hL : L0 W0) : FnsOk Tryd.prog 95 σ W0 q56 := FnsOk.cons (pure_fn_ok (all_cons (p0_ok hL) (all_nil))) (FnsOk.cons (frame_fn_ok (all_cons (m156_ok hL) (all_nil))) (FnsOk.nil))
theorem case30 : CaseR (rowH (sentH 225 12 errTab) [.int .i64 (.var 8), .int .i64 (.var 9)]) [((-9223372036854775808), 9223372036854775807), (0, 4294967295), (0, 3), (0, 3), (0, 3), (0, 3), (0, 3), (0, 3), ((-9223372036854775808), 9223372036854775807), ((-9223372036854775808), 9223372036854775807)] [] [(0, 5, .lit 3), (8, 4, .var 2), (9, 4, .var 3)] [.int .i64 (.var 0), .slice 18 0 2 2 1 false, .int .u32 (.var 1)] := caseR (fun hL hk hT => FnsOk.cons (hT.ok fit) (FnsOk.cons (pure_fn_ok (all_cons (p6_ok hL) (all_cons (p7_ok hL) (all_cons (p8_ok hL) (all_cons (p9_ok hL) (all_cons (p10_ok hL) (all_cons (p11_ok hL) (all_cons (p157_ok hL hk) (all_cons (p158_ok hL hk) (all_cons (p4_ok hL) (all_cons (p5_ok hL) (all_cons (p23_ok hL) (all_cons (p159_ok hL hk) (all_cons (p160_ok hL hk) (all_cons (p22_ok hL) (all_cons (p76_ok hL) (all_cons (p161_ok hL hk) (all_cons (p162_ok hL hk) (all_cons (p75_ok hL) (all_cons (p150_ok hL) (all_cons (p163_ok hL hk) (all_cons (p164_ok hL hk) (all_cons (p149_ok hL) (all_nil)))))))))))))))))))))))) (FnsOk.cons (sym_fn_ok (Γ := cxX Tryd.prog bad [((-9223372036854775808), 9223372036854775807), (0, 4294967295), (0, 3), (0, 3), (0, 3), (0, 3), (0, 3), (0, 3), ((-9223372036854775808), 9223372036854775807), ((-9223372036854775808), 9223372036854775807)] [] []) (fix := 18) ⟨hk.rng, hk.facts⟩ (by decide) (y55_ok hL)) ((q56_ok hL))))) (by kernel_rfl : isTrue (evCall (cxX Tryd.prog bad [((-9223372036854775808), 9223372036854775807), (0, 4294967295), (0, 3), (0, 3), (0, 3), (0, 3), (0, 3), (0, 3), ((-9223372036854775808), 9223372036854775807), ((-9223372036854775808), 9223372036854775807)] [] ((11, numExtE [(0, 5, .lit 3), (8, 4, .var 2), (9, 4, .var 3)]) :: (65, pureFn [p6, p7, p8, p9, p10, p11, p157, p158, p4, p5, p23, p159, p160, p22, p76, p161, p162, p75, p150, p163, p164, p149]) :: (47, symFn (cxX Tryd.prog bad [((-9223372036854775808), 9223372036854775807), (0, 4294967295), (0, 3), (0, 3), (0, 3), (0, 3), (0, 3), (0, 3), ((-9223372036854775808), 9223372036854775807), ((-9223372036854775808), 9223372036854775807)] [] []) 18 y55) :: q56)) 1000 60 4 [.int .i64 (.var 0), .slice 18 0 2 2 1 false, .int .u32 (.var 1)] (rowH (sentH 225 12 errTab) [.int .i64 (.var 8), .int .i64 (.var 9)])) = true)
noncomputable def h57 : H := hUpd h25 193 [] [] []
noncomputable def h58 : H := hUpd h25 248 [] [(238, .cells 1 ([[.slice 237 0 8 8 3 true]]) false),
  (206, .cells 1 ([[.slice 205 0 8 8 3 true]]) false),
  (246, .cells 1 ([[.snil]]) false),
  (230, .cells 1 ([[.snil]]) false),
  (198, .cells 3 (rp 24 ([bF, I 0, bF]) ([])) false),
  (218, .cells 1 ([[.snil]]) false),
  (234, .cells 1 ([[.slice 233 0 12 12 3 true]]) false),
  (202, .cells 2 ([[.ptr 197 0, .ptr 201 0]]) false),
  (242, .cells 3 (rp 6 ([bF, I 0, bF]) ([])) false),
  (194, .cells 3 (rp 16 ([bF, I 0, bF]) ([])) false),
  (236, .cells 2 ([[.ptr 234 0, .slice 235 0 12 12 2 true]]) false),
  (204, .cells 3 ([[.ptr 202 0, I 16, .ptr 203 0]]) false),
  (244, .cells 31 (rp 6 ((bF) :: rp 4 (I 0) ((U 0) :: rp 4 (I 0) ((U 0) :: rp 4 (I 0) ((U 0) :: rp 4 (I 0) ((U 0) :: rp 4 (I 0) ((U 0) :: rp 4 (I 0) ([U 0]))))))) ([])) false),
  (212, .cells 1 ([[.snil]]) false),
  (196, .cells 80 (rp 16 (rp 4 (I 0) ((U 0) :: rp 4 (I 0) ((U 0) :: rp 4 (I 0) ((U 0) :: rp 4 (I 0) ((U 0) :: rp 4 (I 0) ((U 0) :: rp 4 (I 0) ((U 0) :: rp 4 (I 0) ((U 0) :: rp 4 (I 0) ((U 0) :: rp 4 (I 0) ((U 0) :: rp 4 (I 0) ((U 0) :: rp 4 (I 0) ((U 0) :: rp 4 (I 0) ((U 0) :: rp 4 (I 0) ((U 0) :: rp 4 (I 0) ((U 0) :: rp 4 (I 0) ((U 0) :: rp 4 (I 0) ([U 0]))))))))))))))))) ([])) false),
  (232, .cells 1 ([[.ptr 209 0], [.ptr 212 0], [.ptr 215 0], [.ptr 218 0], [.ptr 221 0], [.ptr 224 0], [.ptr 227 0], [.ptr 230 0]]) false),
  (200, .cells 32 (rp 24 (rp 32 (U 0) ([])) ([])) false),
  (240, .map [] 0),
  (208, .cells 3 ([[.ptr 206 0, .slice 207 0 8 8 107 true, .slice 232 0 8 8 1 false]]) false),
  (224, .cells 1 ([[.snil]]) false),
  (221, .cells 1 ([[.snil]]) false),
  (237, .cells 3 (rp 8 ([bF, I 0, bF]) ([])) false),
  (205, .cells 3 (rp 8 ([bF, I 0, bF]) ([])) false),
  (245, .cells 2 ([[.ptr 243 0, .slice 244 0 6 6 31 true]]) false),
  (197, .cells 2 ([[.ptr 195 0, .slice 196 0 16 16 80 true]]) false),
  (233, .cells 3 (rp 12 ([bF, I 0, bF]) ([])) false),
  (201, .cells 2 ([[.ptr 199 0, .slice 200 0 24 24 32 true]]) false),
  (241, .cells 5 ([[.ptr 238 0, .slice 239 0 8 8 3 true, .map 240, .ptr 204 0, .ptr 208 0]]) false),
  (209, .cells 1 ([[.snil]]) false),
  (235, .cells 2 (rp 12 ([I 0, I 0]) ([])) false),
  (203, .cells 3 ([[I 16, .snil, I 0]]) false),
  (243, .cells 1 ([[.slice 242 0 6 6 3 true]]) false),
  (227, .cells 1 ([[.snil]]) false),
  (195, .cells 1 ([[.slice 194 0 16 16 3 true]]) false),
  (247, .cells 9 ([[.ptr 204 0, .ptr 208 0, .ptr 236 0, .ptr 241 0, .ptr 245 0, .ptr 246 0, .snil, .snil, I 0]]) false),
  (215, .cells 1 ([[.snil]]) false),
  (199, .cells 1 ([[.slice 198 0 24 24 3 true]]) false),
  (239, .cells 3 (rp 8 ([I 0, I 0, I 0]) ([])) false),
  (207, .cells 107 (rp 8 (rp 9 (U 0) (rp 6 (I 0) ((U 0) :: rp 4 (I 0) ((U 0) :: rp 4 (I 0) ((U 0) :: rp 4 (I 0) ((U 0) :: rp 4 (I 0) ((U 0) :: rp 4 (I 0) ((U 0) :: rp 4 (I 0) ((U 0) :: rp 4 (I 0) ((U 0) :: rp 4 (I 0) ((U 0) :: rp 4 (I 0) ((U 0) :: rp 4 (I 0) ((U 0) :: rp 4 (I 0) ((U 0) :: rp 4 (I 0) ((U 0) :: rp 4 (I 0) ((U 0) :: rp 4 (I 0) ((U 0) :: rp 4 (I 0) ((U 0) :: rp 4 (I 0) ((U 0) :: rp 4 (I 0) ((U 0) :: rp 4 (I 0) ([U 0, I 0]))))))))))))))))))))) ([])) false)] []
noncomputable def m165 : Memo := ⟨[.agg [I 16, I 24, I 8, I 12, I 8, I 6]], h57, .tuple [.ptr 247 0, .inil], h58⟩
theorem m165_run : ranTo (evCall (cxX Tryd.prog bad [] [] []) 1000 60 6 m165.args m165.h) m165.v m165.h' = true := by kernel_rfl
theorem m165_ok {σ : Nat → Int} {W0 : World} (hL : L0 W0) : MemoOk Tryd.prog 95 σ W0 6 m165 := memo_ok fit (Known2.nil σ) (FnsOk.nil) m165_run
noncomputable def s24 : Sym := ⟨[.ptr 18 0, .agg [.slice 19 0 1 1 1 true, I 13, .slice 20 0 3 3 1 false, bF]], h54, [18, 21, 24, 27, 39, 40, 53, 56, 57, 23, 32, 35, 50, 55, 22, 29, 36, 41, 58, 33, 34, 54, 19, 30, 51, 14, 6, 12, 16, 4, 2, 13, 17, 15, 3, 1, 0], [(0, 4294967295), (0, 1099511627775), (0, 1099511627775), (0, 1099511627775), (0, 1099511627775), (0, 1099511627775), (0, 1099511627775), (0, 1099511627775), (0, 1099511627775), (0, 1099511627775), (0, 4294967295), (0, 1099511627775), (0, 1099511627775), (0, 1099511627775), (0, 1099511627775), (0, 1099511627775), (0, 1099511627775), (0, 1099511627775), (0, 1099511627775), (0, 1099511627775), (0, 1099511627775), (0, 1099511627775), (0, 1099511627775), (0, 4294967295), (0, 1099511627775), (0, 1099511627775), (0, 1099511627775), (0, 1099511627775), (0, 1099511627775), (0, 1099511627775), (0, 1099511627775), (0, 1099511627775), (0, 1099511627775), (0, 1099511627775), (0, 1099511627775), (0, 1099511627775), (0, 4294967295), (0, 1099511627775), (0, 1099511627775), (0, 1099511627775), (0, 1099511627775), (0, 1099511627775), (0, 1099511627775), (0, 1099511627775), (0, 1099511627775), (0, 1099511627775), (0, 1099511627775), (0, 1099511627775), (0, 1099511627775), (0, 4294967295), (0, 1099511627775), (0, 1099511627775), (0, 1099511627775), (0, 1099511627775), (0, 1099511627775), (0, 1099511627775), (0, 1099511627775), (0, 1099511627775), (0, 1099511627775), (0, 1099511627775), (0, 1099511627775), (0, 1099511627775), (0, 1099511627775), (0, 1099511627775), (0, 1099511627775), (0, 1099511627775), (0, 1099511627775), (0, 1099511627775), (0, 1099511627775), (0, 1099511627775), (0, 1099511627775), (0, 1099511627775), (0, 4294967295), (0, 4294967295), (0, 4294967295)],
  [(false, .sub (.lit 60) (.var 56), .lit 1, false), (false, .sub (.lit 60) (.add (.var 56) (.lit 1)), .lit 1, false), (false, .sub (.lit 60) (.add (.var 56) (.lit 2)), .lit 1, false), (false, .sub (.lit 60) (.add (.var 56) (.lit 3)), .lit 1, false)],
  .tuple [I 3, .inil],
  [.cel 30 3 9 (I 1),
  .cel 30 3 11 (I 8),
  .cel 30 3 16 (I 7),
  .cel 30 3 17 (I 4),
  .cel 30 3 21 (I 11),
  .cel 30 3 26 (I 12),
  .cel 30 3 31 (I 13),
  .cel 30 3 36 (I 14),
  .cel 30 3 91 (I 2),
  .cel 30 3 92 (I 3),
  .cel 30 3 95 (U 1),
  .cel 30 3 96 (I 7),
  .cel 30 3 97 (I 4),
  .row 33 4 ([I 0, I 13]),
  .row 35 0 ([IZ (-1), I 60, .int .i64 (.add (.var 56) (.lit 4))]),
  .set 36 (.map [(.agg [I 3, I 0], .agg [I 0, I 0], 0), (.agg [I 3, I 1], .agg [I 0, I 0], 1), (.agg [I 2, I 0], .agg [I 0, I 0], 2), (.agg [I 4, I 0], .agg [I 0, I 0], 3), (.agg [I 3, I 2], .agg [I 0, I 0], 4), (.agg [I 3, I 3], .agg [I 0, I 0], 5), (.agg [I 2, I 1], .agg [I 0, I 0], 6), (.agg [I 4, I 1], .agg [I 0, I 0], 7), (.agg [I 3, I 4], .agg [I 0, I 0], 8), (.agg [I 3, I 5], .agg [I 0, I 0], 9), (.agg [I 2, I 2], .agg [I 0, I 0], 10), (.agg [I 4, I 2], .agg [I 0, I 0], 11), (.agg [I 3, I 6], .agg [I 0, I 0], 12), (.agg [I 3, I 7], .agg [I 0, I 0], 13), (.agg [I 2, I 3], .agg [I 0, I 0], 14), (.agg [I 4, I 3], .agg [I 0, I 0], 15)] 16),
  .row 41 3 ([bT, I 0, bF]),
  .row 50 4 ([bT, I 0, bF]),
  .cel 54 3 0 (I 3),
  .cel 54 3 1 (I 6),
  .cel 54 3 5 (I 3),
  .cel 54 3 6 (I 7),
  .cel 56 6 0 (.int .u32 (.var 0)),
  .row 57 3 ([bT, I 0, bF]),
  .row 58 6 ([bT, I 0, bF]),
  .row 58 7 ([bT, I 0, bF])], 534⟩
theorem s24_run : ranTo (evCall (cxX Tryd.prog bad s24.rng s24.facts [(65, pureFn l49)]) 1000 60 47 s24.args s24.pre) s24.v s24.post = true := by kernel_rfl
theorem s24_ok {W0 : World} (hL : L0 W0) : SymOk Tryd.prog 95 W0 47 s24 := sym_ok fit (fun σ hk => FnsOk.cons (pure_fn_ok (l49_ok hL)) (FnsOk.nil)) s24_run (by kernel_rfl)
noncomputable def p166 : Pur := ([.agg [I 5, .int .i64 (.var 2), I 0, I 0, U 0]], .inil, 1048576)
theorem p166_run : ranPure (evCall (cxX Tryd.prog bad [((-9223372036854775808), 9223372036854775807), (0, 4294967295), (0, 3), (0, 3), (0, 3), (0, 3), (0, 3), (0, 3), ((-9223372036854775808), 9223372036854775807), ((-9223372036854775808), 9223372036854775807), ((-9223372036854775808), 9223372036854775807)] [] []) 1000 60 65 p166.1 ⟨.lf, p166.2.2⟩) p166.2.1 = true := by kernel_rfl
theorem p166_ok {σ : Nat → Int} {W0 : World} (hL : L0 W0) (hk : Known2 σ [((-9223372036854775808), 9223372036854775807), (0, 4294967295), (0, 3), (0, 3), (0, 3), (0, 3), (0, 3), (0, 3), ((-9223372036854775808), 9223372036854775807), ((-9223372036854775808), 9223372036854775807), ((-9223372036854775808), 9223372036854775807)] []) : PureOk Tryd.prog 95 σ W0 65 p166 := pure_ok fit hk (FnsOk.nil) p166_run
noncomputable def p167 : Pur := ([.agg [I 5, .int .i64 (.var 3), I 0, I 0, U 0]], .inil, 1048576)
theorem p167_run : ranPure (evCall (cxX Tryd.prog bad [((-9223372036854775808), 9223372036854775807), (0, 4294967295), (0, 3), (0, 3), (0, 3), (0, 3), (0, 3), (0, 3), ((-9223372036854775808), 9223372036854775807), ((-9223372036854775808), 9223372036854775807), ((-9223372036854775808), 9223372036854775807)] [] []) 1000 60 65 p167.1 ⟨.lf, p167.2.2⟩) p167.2.1 = true := by kernel_rfl
theorem p167_ok {σ : Nat → Int} {W0 : World} (hL : L0 W0) (hk : Known2 σ [((-9223372036854775808), 9223372036854775807), (0, 4294967295), (0, 3), (0, 3), (0, 3), (0, 3), (0, 3), (0, 3), ((-9223372036854775808), 9223372036854775807), ((-9223372036854775808), 9223372036854775807), ((-9223372036854775808), 9223372036854775807)] []) : PureOk Tryd.prog 95 σ W0 65 p167 := pure_ok fit hk (FnsOk.nil) p167_run
noncomputable def p168 : Pur := ([.agg [I 5, .int .i64 (.var 4), I 0, I 0, U 0]], .inil, 1048576)
theorem p168_run : ranPure (evCall (cxX Tryd.prog bad [((-9223372036854775808), 9223372036854775807), (0, 4294967295), (0, 3), (0, 3), (0, 3), (0, 3), (0, 3), (0, 3), ((-9223372036854775808), 9223372036854775807), ((-9223372036854775808), 9223372036854775807), ((-9223372036854775808), 9223372036854775807)] [] []) 1000 60 65 p168.1 ⟨.lf, p168.2.2⟩) p168.2.1 = true := by kernel_rfl
theorem p168_ok {σ : Nat → Int} {W0 : World} (hL : L0 W0) (hk : Known2 σ [((-9223372036854775808), 9223372036854775807), (0, 4294967295), (0, 3), (0, 3), (0, 3), (0, 3), (0, 3), (0, 3), ((-9223372036854775808), 9223372036854775807), ((-9223372036854775808), 9223372036854775807), ((-9223372036854775808), 9223372036854775807)] []) : PureOk Tryd.prog 95 σ W0 65 p168 := pure_ok fit hk (FnsOk.nil) p168_run
noncomputable def p169 : Pur := ([.agg [I 5, .int .i64 (.var 2), I 0, I 0, U 1]], .inil, 1048576)
theorem p169_run : ranPure (evCall (cxX Tryd.prog bad [((-9223372036854775808), 9223372036854775807), (0, 4294967295), (0, 3), (0, 3), (0, 3), (0, 3), (0, 3), (0, 3), ((-9223372036854775808), 9223372036854775807), ((-9223372036854775808), 9223372036854775807), ((-9223372036854775808), 9223372036854775807)] [] []) 1000 60 65 p169.1 ⟨.lf, p169.2.2⟩) p169.2.1 = true := by kernel_rfl
theorem p169_ok {σ : Nat → Int} {W0 : World} (hL : L0 W0) (hk : Known2 σ [((-9223372036854775808), 9223372036854775807), (0, 4294967295), (0, 3), (0, 3), (0, 3), (0, 3), (0, 3), (0, 3), ((-9223372036854775808), 9223372036854775807), ((-9223372036854775808), 9223372036854775807), ((-9223372036854775808), 9223372036854775807)] []) : PureOk Tryd.prog 95 σ W0 65 p169 := pure_ok fit hk (FnsOk.nil) p169_run
noncomputable def p170 : Pur := ([.agg [I 5, .int .i64 (.var 3), I 0, I 0, U 1]], .inil, 1048576)
theorem p170_run : ranPure (evCall (cxX Tryd.prog bad [((-9223372036854775808), 9223372036854775807), (0, 4294967295), (0, 3), (0, 3), (0, 3), (0, 3), (0, 3), (0, 3), ((-9223372036854775808), 9223372036854775807), ((-9223372036854775808), 9223372036854775807), ((-9223372036854775808), 9223372036854775807)] [] []) 1000 60 65 p170.1 ⟨.lf, p170.2.2⟩) p170.2.1 = true := by kernel_rfl
theorem p170_ok {σ : Nat → Int} {W0 : World} (hL : L0 W0) (hk : Known2 σ [((-9223372036854775808), 9223372036854775807), (0, 4294967295), (0, 3), (0, 3), (0, 3), (0, 3), (0, 3), (0, 3), ((-9223372036854775808), 9223372036854775807), ((-9223372036854775808), 9223372036854775807), ((-9223372036854775808), 9223372036854775807)] []) : PureOk Tryd.prog 95 σ W0 65 p170 := pure_ok fit hk (FnsOk.nil) p170_run
noncomputable def p171 : Pur := ([.agg [I 5, .int .i64 (.var 4), I 0, I 0, U 1]], .inil, 1048576)
theorem p171_run : ranPure (evCall (cxX Tryd.prog bad [((-9223372036854775808), 9223372036854775807), (0, 4294967295), (0, 3), (0, 3), (0, 3), (0, 3), (0, 3), (0, 3), ((-9223372036854775808), 9223372036854775807), ((-9223372036854775808), 9223372036854775807), ((-9223372036854775808), 9223372036854775807)] [] []) 1000 60 65 p171.1 ⟨.lf, p171.2.2⟩) p171.2.1 = true := by kernel_rfl
theorem p171_ok {σ : Nat → Int} {W0 : World} (hL : L0 W0) (hk : Known2 σ [((-9223372036854775808), 9223372036854775807), (0, 4294967295), (0, 3), (0, 3), (0, 3), (0, 3), (0, 3), (0, 3), ((-9223372036854775808), 9223372036854775807), ((-9223372036854775808), 9223372036854775807), ((-9223372036854775808), 9223372036854775807)] []) : PureOk Tryd.prog 95 σ W0 65 p171 := pure_ok fit hk (FnsOk.nil) p171_run
noncomputable def p172 : Pur := ([.agg [I 5, .int .i64 (.var 2), I 0, I 0, U 2]], .inil, 1048576)
theorem p172_run : ranPure (evCall (cxX Tryd.prog bad [((-9223372036854775808), 9223372036854775807), (0, 4294967295), (0, 3), (0, 3), (0, 3), (0, 3), (0, 3), (0, 3), ((-9223372036854775808), 9223372036854775807), ((-9223372036854775808), 9223372036854775807), ((-9223372036854775808), 9223372036854775807)] [] []) 1000 60 65 p172.1 ⟨.lf, p172.2.2⟩) p172.2.1 = true := by kernel_rfl
theorem p172_ok {σ : Nat → Int} {W0 : World} (hL : L0 W0) (hk : Known2 σ [((-9223372036854775808), 9223372036854775807), (0, 4294967295), (0, 3), (0, 3), (0, 3), (0, 3), (0, 3), (0, 3), ((-9223372036854775808), 9223372036854775807), ((-9223372036854775808), 9223372036854775807), ((-9223372036854775808), 9223372036854775807)] []) : PureOk Tryd.prog 95 σ W0 65 p172 := pure_ok fit hk (FnsOk.nil) p172_run
noncomputable def p173 : Pur := ([.agg [I 5, .int .i64 (.var 3), I 0, I 0, U 2]], .inil, 1048576)
theorem p173_run : ranPure (evCall (cxX Tryd.prog bad [((-9223372036854775808), 9223372036854775807), (0, 4294967295), (0, 3), (0, 3), (0, 3), (0, 3), (0, 3), (0, 3), ((-9223372036854775808), 9223372036854775807), ((-9223372036854775808), 9223372036854775807), ((-9223372036854775808), 9223372036854775807)] [] []) 1000 60 65 p173.1 ⟨.lf, p173.2.2⟩) p173.2.1 = true := by kernel_rfl
theorem p173_ok {σ : Nat → Int} {W0 : World} (hL : L0 W0) (hk : Known2 σ [((-9223372036854775808), 9223372036854775807), (0, 4294967295), (0, 3), (0, 3), (0, 3), (0, 3), (0, 3), (0, 3), ((-9223372036854775808), 9223372036854775807), ((-9223372036854775808), 9223372036854775807), ((-9223372036854775808), 9223372036854775807)] []) : PureOk Tryd.prog 95 σ W0 65 p173 := pure_ok fit hk (FnsOk.nil) p173_run
noncomputable def p174 : Pur := ([.agg [I 5, .int .i64 (.var 4), I 0, I 0, U 2]], .inil, 1048576)
theorem p174_run : ranPure (evCall (cxX Tryd.prog bad [((-9223372036854775808), 9223372036854775807), (0, 4294967295), (0, 3), (0, 3), (0, 3), (0, 3), (0, 3), (0, 3), ((-9223372036854775808), 9223372036854775807), ((-9223372036854775808), 9223372036854775807), ((-9223372036854775808), 9223372036854775807)] [] []) 1000 60 65 p174.1 ⟨.lf, p174.2.2⟩) p174.2.1 = true := by kernel_rfl
theorem p174_ok {σ : Nat → Int} {W0 : World} (hL : L0 W0) (hk : Known2 σ [((-9223372036854775808), 9223372036854775807), (0, 4294967295), (0, 3), (0, 3), (0, 3), (0, 3), (0, 3), (0, 3), ((-9223372036854775808), 9223372036854775807), ((-9223372036854775808), 9223372036854775807), ((-9223372036854775808), 9223372036854775807)] []) : PureOk Tryd.prog 95 σ W0 65 p174 := pure_ok fit hk (FnsOk.nil) p174_run
noncomputable def p175 : Pur := ([.agg [I 5, .int .i64 (.var 2), I 0, I 0, U 3]], .inil, 1048576)
theorem p175_run : ranPure (evCall (cxX Tryd.prog bad [((-9223372036854775808), 9223372036854775807), (0, 4294967295), (0, 3), (0, 3), (0, 3), (0, 3), (0, 3), (0, 3), ((-9223372036854775808), 9223372036854775807), ((-9223372036854775808), 9223372036854775807), ((-9223372036854775808), 9223372036854775807)] [] []) 1000 60 65 p175.1 ⟨.lf, p175.2.2⟩) p175.2.1 = true := by kernel_rfl
theorem p175_ok {σ : Nat → Int} {W0 : World} (hL : L0 W0) (hk : Known2 σ [((-9223372036854775808), 9223372036854775807), (0, 4294967295), (0, 3), (0, 3), (0, 3), (0, 3), (0, 3), (0, 3), ((-9223372036854775808), 9223372036854775807), ((-9223372036854775808), 9223372036854775807), ((-9223372036854775808), 9223372036854775807)] []) : PureOk Tryd.prog 95 σ W0 65 p175 := pure_ok fit hk (FnsOk.nil) p175_run
end Go.Proofs.YtoldbgemlnkfkaaDoor.bootApart
