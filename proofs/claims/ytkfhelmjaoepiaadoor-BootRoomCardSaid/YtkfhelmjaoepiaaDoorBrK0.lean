/- bootRoom: calls that are run once, and the runs of the cases (part 0). -/
import Derived.Test.YtkfhelmjaoepiaaDoorEvBrF
set_option linter.unusedVariables false
set_option maxRecDepth 10000000
namespace Go.Proofs.YtkfhelmjaoepiaaDoor.bootRoom
open Tk
open Go.RowKit
noncomputable def h0 : H := sentH 240 18 errTab
noncomputable def q0 : Fns := [(51, itoaFn), (114, countFn), (129, indexFn)]
theorem q0_ok {σ : Nat → Int} {W0 : World} (hL : L0 W0) : FnsOk Tryd.prog 4095 σ W0 q0 := FnsOk.cons (ext_itoa hL) (FnsOk.cons (ext_count hL) (FnsOk.cons (ext_index hL) (FnsOk.nil)))
noncomputable def p0 : Pur := ([], bT, 1048576)
theorem p0_run : ranPure (evCall (cxX Tryd.prog bad [] [] q0) 1000 60 5 p0.1 ⟨.lf, p0.2.2⟩) p0.2.1 = true := by kernel_rfl
theorem p0_ok {σ : Nat → Int} {W0 : World} (hL : L0 W0) : PureOk Tryd.prog 4095 σ W0 5 p0 := pure_ok fit (Known2.nil σ) ((q0_ok hL)) p0_run
noncomputable def h1 : H := hUpd h0 33 [] [] []
noncomputable def h2 : H := hUpd h0 256 [] [] []
noncomputable def m1 : Memo := ⟨[], h1, .agg [I 16, I 24, I 8, I 12, I 8, I 6], h2⟩
theorem m1_run : ranTo (evCall (cxX Tryd.prog bad [] [] q0) 1000 60 8 m1.args m1.h) m1.v m1.h' = true := by kernel_rfl
theorem m1_ok {σ : Nat → Int} {W0 : World} (hL : L0 W0) : MemoOk Tryd.prog 4095 σ W0 8 m1 := memo_ok fit (Known2.nil σ) ((q0_ok hL)) m1_run
noncomputable def h3 : H := hUpd h0 343 [] [(302, .cells 1 ([[.slice 301 0 8 8 3 true]]) false),
  (270, .cells 1 ([[.slice 269 0 8 8 3 true]]) false),
  (30, .cells 1 ([[U 0]]) false),
  (310, .cells 1 ([[.snil]]) false),
  (294, .cells 1 ([[.snil]]) false),
  (262, .cells 3 (rp 24 ([bF, I 0, bF]) ([])) false),
  (282, .cells 1 ([[.snil]]) false),
  (298, .cells 1 ([[.slice 297 0 12 12 3 true]]) false),
  (266, .cells 2 ([[.ptr 261 0, .ptr 265 0]]) false),
  (306, .cells 3 (rp 6 ([bF, I 0, bF]) ([])) false),
  (258, .cells 3 (rp 16 ([bF, I 0, bF]) ([])) false),
  (300, .cells 2 ([[.ptr 298 0, .slice 299 0 12 12 2 true]]) false),
  (268, .cells 3 ([[.ptr 266 0, I 16, .ptr 267 0]]) false),
  (308, .cells 31 (rp 6 ((bF) :: rp 4 (I 0) ((U 0) :: rp 4 (I 0) ((U 0) :: rp 4 (I 0) ((U 0) :: rp 4 (I 0) ((U 0) :: rp 4 (I 0) ((U 0) :: rp 4 (I 0) ([U 0]))))))) ([])) false),
  (276, .cells 1 ([[.snil]]) false),
  (260, .cells 80 (rp 16 (rp 4 (I 0) ((U 0) :: rp 4 (I 0) ((U 0) :: rp 4 (I 0) ((U 0) :: rp 4 (I 0) ((U 0) :: rp 4 (I 0) ((U 0) :: rp 4 (I 0) ((U 0) :: rp 4 (I 0) ((U 0) :: rp 4 (I 0) ((U 0) :: rp 4 (I 0) ((U 0) :: rp 4 (I 0) ((U 0) :: rp 4 (I 0) ((U 0) :: rp 4 (I 0) ((U 0) :: rp 4 (I 0) ((U 0) :: rp 4 (I 0) ((U 0) :: rp 4 (I 0) ((U 0) :: rp 4 (I 0) ([U 0]))))))))))))))))) ([])) false),
  (296, .cells 1 ([[.ptr 273 0], [.ptr 276 0], [.ptr 279 0], [.ptr 282 0], [.ptr 285 0], [.ptr 288 0], [.ptr 291 0], [.ptr 294 0]]) false),
  (264, .cells 32 (rp 24 (rp 32 (U 0) ([])) ([])) false),
  (304, .map [] 0),
  (272, .cells 3 ([[.ptr 270 0, .slice 271 0 8 8 107 true, .slice 296 0 8 8 1 false]]) false),
  (288, .cells 1 ([[.snil]]) false),
  (285, .cells 1 ([[.snil]]) false),
  (301, .cells 3 ([bT, I 0, bF] :: rp 7 ([bF, I 0, bF]) ([])) false),
  (269, .cells 3 (rp 8 ([bF, I 0, bF]) ([])) false),
  (309, .cells 2 ([[.ptr 307 0, .slice 308 0 6 6 31 true]]) false),
  (261, .cells 2 ([[.ptr 259 0, .slice 260 0 16 16 80 true]]) false),
  (297, .cells 3 ([bT, I 0, bF] :: rp 11 ([bF, I 0, bF]) ([])) false),
  (265, .cells 2 ([[.ptr 263 0, .slice 264 0 24 24 32 true]]) false),
  (305, .cells 5 ([[.ptr 302 0, .slice 303 0 8 8 3 true, .map 304, .ptr 268 0, .ptr 272 0]]) false),
  (273, .cells 1 ([[.snil]]) false),
  (299, .cells 2 ([IZ (-1), I 2147483647] :: rp 11 ([I 0, I 0]) ([])) false),
  (267, .cells 3 ([[I 16, .snil, I 0]]) false),
  (307, .cells 1 ([[.slice 306 0 6 6 3 true]]) false),
  (291, .cells 1 ([[.snil]]) false),
  (259, .cells 1 ([[.slice 258 0 16 16 3 true]]) false),
  (311, .cells 9 ([[.ptr 268 0, .ptr 272 0, .ptr 300 0, .ptr 305 0, .ptr 309 0, .ptr 310 0, .snil, .snil, I 0]]) false),
  (279, .cells 1 ([[.snil]]) false),
  (263, .cells 1 ([[.slice 262 0 24 24 3 true]]) false),
  (303, .cells 3 ([IZ (-1), I 0, I 0] :: rp 7 ([I 0, I 0, I 0]) ([])) false),
  (271, .cells 107 (rp 8 (rp 9 (U 0) (rp 6 (I 0) ((U 0) :: rp 4 (I 0) ((U 0) :: rp 4 (I 0) ((U 0) :: rp 4 (I 0) ((U 0) :: rp 4 (I 0) ((U 0) :: rp 4 (I 0) ((U 0) :: rp 4 (I 0) ((U 0) :: rp 4 (I 0) ((U 0) :: rp 4 (I 0) ((U 0) :: rp 4 (I 0) ((U 0) :: rp 4 (I 0) ((U 0) :: rp 4 (I 0) ((U 0) :: rp 4 (I 0) ((U 0) :: rp 4 (I 0) ((U 0) :: rp 4 (I 0) ((U 0) :: rp 4 (I 0) ((U 0) :: rp 4 (I 0) ((U 0) :: rp 4 (I 0) ((U 0) :: rp 4 (I 0) ([U 0, I 0]))))))))))))))))))))) ([])) false)] []
noncomputable def h4 : H := hUpd h3 374 [] [] []
noncomputable def m2 : Memo := ⟨[.ptr 311 0, .agg [.slice 30 0 1 1 1 true, I 1, .snil, bF]], h3, .tuple [I 0, .iface 240 (.ptr 24 0)], h4⟩
theorem m2_run : ranTo (evCall (cxX Tryd.prog bad [] [] q0) 1000 60 21 m2.args m2.h) m2.v m2.h' = true := by kernel_rfl
theorem m2_ok {σ : Nat → Int} {W0 : World} (hL : L0 W0) : MemoOk Tryd.prog 4095 σ W0 21 m2 := memo_ok fit (Known2.nil σ) ((q0_ok hL)) m2_run
noncomputable def q1 : Fns := [(5, pureFn [p0]), (8, frameFn [m1]), (21, frameFn [m2]), (51, itoaFn), (114, countFn), (129, indexFn)]
theorem q1_ok {σ : Nat → Int} {W0 : World} (hL : L0 W0) : FnsOk Tryd.prog 4095 σ W0 q1 := FnsOk.cons (pure_fn_ok (all_cons (p0_ok hL) (all_nil))) (FnsOk.cons (frame_fn_ok (all_cons (m1_ok hL) (all_nil))) (FnsOk.cons (frame_fn_ok (all_cons (m2_ok hL) (all_nil))) (FnsOk.cons (ext_itoa hL) (FnsOk.cons (ext_count hL) (FnsOk.cons (ext_index hL) (FnsOk.nil))))))
theorem run0 : isTrue (evCall (cxX Tryd.prog bad [] [] ((6, numExtE [(0, 10, .lit 0), (1, 60, .lit 0)]) :: q1)) 1000 60 3 [.int .i64 (.var 0), .int .i64 (.var 1), .int .i64 (.var 2)] (sentH 240 18 errTab)) = true := by kernel_rfl
theorem case0 {σ : Nat → Int} {W : World} (hL : L0 W) (hk : Known2 σ [] []) (hT : TabOk Tryd.prog bad 6 σ [(0, 10, .lit 0), (1, 60, .lit 0)]) {xs : Array Value} (hv : ∀ ρ, VRs σ ρ [.int .i64 (.var 0), .int .i64 (.var 1), .int .i64 (.var 2)] xs.toList) : Calls Tryd.prog 3 xs W fun e w' => e = .returned (.bool true) ∧ Below W.heap.size W w' := by
  obtain ⟨ads, h1, h2, h3⟩ := errs_sents hL
  exact law_case_x fit h1 h2 h3 errs_all errs_lt (by kernel_rfl) hk (FnsOk.cons (hT.ok fit) ((q1_ok hL))) hv ⟨_, Tryd.func3, rfl⟩ run0
noncomputable def h5 : H := hUpd h3 343 [] [] [(303, 0, [IZ (-1), I 1, I 0])]
noncomputable def h6 : H := hUpd h3 437 [] [(304, .map [(.agg [I 3, I 0], .agg [I 0, I 0], 0)] 1)] [(262, 0, [bT, I 0, bF]),
  (303, 0, [IZ (-1), I 1, I 1])]
noncomputable def m3 : Memo := ⟨[.ptr 311 0, .agg [.slice 30 0 1 1 1 true, I 1, .snil, bF]], h5, .tuple [I 0, .iface 240 (.ptr 24 0)], h6⟩
theorem m3_run : ranTo (evCall (cxX Tryd.prog bad [] [] q0) 1000 60 21 m3.args m3.h) m3.v m3.h' = true := by kernel_rfl
theorem m3_ok {σ : Nat → Int} {W0 : World} (hL : L0 W0) : MemoOk Tryd.prog 4095 σ W0 21 m3 := memo_ok fit (Known2.nil σ) ((q0_ok hL)) m3_run
noncomputable def q2 : Fns := [(5, pureFn [p0]), (8, frameFn [m1]), (21, frameFn [m3]), (51, itoaFn), (114, countFn), (129, indexFn)]
theorem q2_ok {σ : Nat → Int} {W0 : World} (hL : L0 W0) : FnsOk Tryd.prog 4095 σ W0 q2 := FnsOk.cons (pure_fn_ok (all_cons (p0_ok hL) (all_nil))) (FnsOk.cons (frame_fn_ok (all_cons (m1_ok hL) (all_nil))) (FnsOk.cons (frame_fn_ok (all_cons (m3_ok hL) (all_nil))) (FnsOk.cons (ext_itoa hL) (FnsOk.cons (ext_count hL) (FnsOk.cons (ext_index hL) (FnsOk.nil))))))
theorem run1 : isTrue (evCall (cxX Tryd.prog bad [] [] ((6, numExtE [(0, 10, .lit 0), (1, 60, .lit 1)]) :: q2)) 1000 60 3 [.int .i64 (.var 0), .int .i64 (.var 1), .int .i64 (.var 2)] (sentH 240 18 errTab)) = true := by kernel_rfl
theorem case1 {σ : Nat → Int} {W : World} (hL : L0 W) (hk : Known2 σ [] []) (hT : TabOk Tryd.prog bad 6 σ [(0, 10, .lit 0), (1, 60, .lit 1)]) {xs : Array Value} (hv : ∀ ρ, VRs σ ρ [.int .i64 (.var 0), .int .i64 (.var 1), .int .i64 (.var 2)] xs.toList) : Calls Tryd.prog 3 xs W fun e w' => e = .returned (.bool true) ∧ Below W.heap.size W w' := by
  obtain ⟨ads, h1, h2, h3⟩ := errs_sents hL
  exact law_case_x fit h1 h2 h3 errs_all errs_lt (by kernel_rfl) hk (FnsOk.cons (hT.ok fit) ((q2_ok hL))) hv ⟨_, Tryd.func3, rfl⟩ run1
noncomputable def p4 : Pur := ([.agg [I 3, I 0, I 0, I 0, U 0]], .inil, 1048576)
theorem p4_run : ranPure (evCall (cxX Tryd.prog bad [] [] q0) 1000 60 44 p4.1 ⟨.lf, p4.2.2⟩) p4.2.1 = true := by kernel_rfl
theorem p4_ok {σ : Nat → Int} {W0 : World} (hL : L0 W0) : PureOk Tryd.prog 4095 σ W0 44 p4 := pure_ok fit (Known2.nil σ) ((q0_ok hL)) p4_run
noncomputable def p5 : Pur := ([.agg [I 3, I 1, I 0, I 0, U 0]], .inil, 1048576)
theorem p5_run : ranPure (evCall (cxX Tryd.prog bad [] [] q0) 1000 60 44 p5.1 ⟨.lf, p5.2.2⟩) p5.2.1 = true := by kernel_rfl
theorem p5_ok {σ : Nat → Int} {W0 : World} (hL : L0 W0) : PureOk Tryd.prog 4095 σ W0 44 p5 := pure_ok fit (Known2.nil σ) ((q0_ok hL)) p5_run
noncomputable def h7 : H := hUpd h3 343 [] [] [(303, 0, [IZ (-1), I 2, I 0])]
noncomputable def h8 : H := hUpd h6 548 [] [(304, .map [(.agg [I 3, I 0], .agg [I 0, I 0], 0), (.agg [I 3, I 1], .agg [I 0, I 0], 1)] 2)] [(262, 1, [bT, I 0, bF]),
  (303, 0, [IZ (-1), I 2, I 2])]
noncomputable def m6 : Memo := ⟨[.ptr 311 0, .agg [.slice 30 0 1 1 1 true, I 1, .snil, bF]], h7, .tuple [I 0, .iface 240 (.ptr 24 0)], h8⟩
theorem m6_run : ranTo (evCall (cxX Tryd.prog bad [] [] ((44, pureFn [p4, p5]) :: q0)) 1000 60 21 m6.args m6.h) m6.v m6.h' = true := by kernel_rfl
theorem m6_ok {σ : Nat → Int} {W0 : World} (hL : L0 W0) : MemoOk Tryd.prog 4095 σ W0 21 m6 := memo_ok fit (Known2.nil σ) (FnsOk.cons (pure_fn_ok (all_cons (p4_ok hL) (all_cons (p5_ok hL) (all_nil)))) ((q0_ok hL))) m6_run
noncomputable def q3 : Fns := [(5, pureFn [p0]), (8, frameFn [m1]), (21, frameFn [m6]), (51, itoaFn), (114, countFn), (129, indexFn)]
theorem q3_ok {σ : Nat → Int} {W0 : World} (hL : L0 W0) : FnsOk Tryd.prog 4095 σ W0 q3 := FnsOk.cons (pure_fn_ok (all_cons (p0_ok hL) (all_nil))) (FnsOk.cons (frame_fn_ok (all_cons (m1_ok hL) (all_nil))) (FnsOk.cons (frame_fn_ok (all_cons (m6_ok hL) (all_nil))) (FnsOk.cons (ext_itoa hL) (FnsOk.cons (ext_count hL) (FnsOk.cons (ext_index hL) (FnsOk.nil))))))
theorem run2 : isTrue (evCall (cxX Tryd.prog bad [] [] ((6, numExtE [(0, 10, .lit 0), (1, 60, .lit 2)]) :: q3)) 1000 60 3 [.int .i64 (.var 0), .int .i64 (.var 1), .int .i64 (.var 2)] (sentH 240 18 errTab)) = true := by kernel_rfl
theorem case2 {σ : Nat → Int} {W : World} (hL : L0 W) (hk : Known2 σ [] []) (hT : TabOk Tryd.prog bad 6 σ [(0, 10, .lit 0), (1, 60, .lit 2)]) {xs : Array Value} (hv : ∀ ρ, VRs σ ρ [.int .i64 (.var 0), .int .i64 (.var 1), .int .i64 (.var 2)] xs.toList) : Calls Tryd.prog 3 xs W fun e w' => e = .returned (.bool true) ∧ Below W.heap.size W w' := by
  obtain ⟨ads, h1, h2, h3⟩ := errs_sents hL
  exact law_case_x fit h1 h2 h3 errs_all errs_lt (by kernel_rfl) hk (FnsOk.cons (hT.ok fit) ((q3_ok hL))) hv ⟨_, Tryd.func3, rfl⟩ run2
noncomputable def h9 : H := hUpd h3 343 [] [] [(303, 0, [IZ (-1), I 3, I 0])]
noncomputable def h10 : H := hUpc h8 611 [] [(304, .map [(.agg [I 3, I 0], .agg [I 0, I 0], 0), (.agg [I 3, I 1], .agg [I 0, I 0], 1), (.agg [I 2, I 0], .agg [I 0, I 0], 2)] 3)] [(258, 0, [bT, I 0, bF]),
  (303, 0, [IZ (-1), I 3, I 3])] [(260, 0, 0, I 3), (260, 0, 5, I 3), (260, 0, 6, I 1)]
noncomputable def m7 : Memo := ⟨[.ptr 311 0, .agg [.slice 30 0 1 1 1 true, I 1, .snil, bF]], h9, .tuple [I 0, .iface 240 (.ptr 24 0)], h10⟩
theorem m7_run : ranTo (evCall (cxX Tryd.prog bad [] [] ((44, pureFn [p4, p5]) :: q0)) 1000 60 21 m7.args m7.h) m7.v m7.h' = true := by kernel_rfl
theorem m7_ok {σ : Nat → Int} {W0 : World} (hL : L0 W0) : MemoOk Tryd.prog 4095 σ W0 21 m7 := memo_ok fit (Known2.nil σ) (FnsOk.cons (pure_fn_ok (all_cons (p4_ok hL) (all_cons (p5_ok hL) (all_nil)))) ((q0_ok hL))) m7_run
noncomputable def q4 : Fns := [(5, pureFn [p0]), (8, frameFn [m1]), (21, frameFn [m7]), (51, itoaFn), (114, countFn), (129, indexFn)]
theorem q4_ok {σ : Nat → Int} {W0 : World} (hL : L0 W0) : FnsOk Tryd.prog 4095 σ W0 q4 := FnsOk.cons (pure_fn_ok (all_cons (p0_ok hL) (all_nil))) (FnsOk.cons (frame_fn_ok (all_cons (m1_ok hL) (all_nil))) (FnsOk.cons (frame_fn_ok (all_cons (m7_ok hL) (all_nil))) (FnsOk.cons (ext_itoa hL) (FnsOk.cons (ext_count hL) (FnsOk.cons (ext_index hL) (FnsOk.nil))))))
theorem run3 : isTrue (evCall (cxX Tryd.prog bad [] [] ((6, numExtE [(0, 10, .lit 0), (1, 60, .lit 3)]) :: q4)) 1000 60 3 [.int .i64 (.var 0), .int .i64 (.var 1), .int .i64 (.var 2)] (sentH 240 18 errTab)) = true := by kernel_rfl
theorem case3 {σ : Nat → Int} {W : World} (hL : L0 W) (hk : Known2 σ [] []) (hT : TabOk Tryd.prog bad 6 σ [(0, 10, .lit 0), (1, 60, .lit 3)]) {xs : Array Value} (hv : ∀ ρ, VRs σ ρ [.int .i64 (.var 0), .int .i64 (.var 1), .int .i64 (.var 2)] xs.toList) : Calls Tryd.prog 3 xs W fun e w' => e = .returned (.bool true) ∧ Below W.heap.size W w' := by
  obtain ⟨ads, h1, h2, h3⟩ := errs_sents hL
  exact law_case_x fit h1 h2 h3 errs_all errs_lt (by kernel_rfl) hk (FnsOk.cons (hT.ok fit) ((q4_ok hL))) hv ⟨_, Tryd.func3, rfl⟩ run3
noncomputable def p8 : Pur := ([.agg [I 0, I 0, I 0, I 0, U 0]], .inil, 1048576)
theorem p8_run : ranPure (evCall (cxX Tryd.prog bad [] [] q0) 1000 60 44 p8.1 ⟨.lf, p8.2.2⟩) p8.2.1 = true := by kernel_rfl
theorem p8_ok {σ : Nat → Int} {W0 : World} (hL : L0 W0) : PureOk Tryd.prog 4095 σ W0 44 p8 := pure_ok fit (Known2.nil σ) ((q0_ok hL)) p8_run
noncomputable def p9 : Pur := ([.agg [I 2, I 0, I 0, I 0, U 1]], .inil, 1048576)
theorem p9_run : ranPure (evCall (cxX Tryd.prog bad [] [] q0) 1000 60 44 p9.1 ⟨.lf, p9.2.2⟩) p9.2.1 = true := by kernel_rfl
theorem p9_ok {σ : Nat → Int} {W0 : World} (hL : L0 W0) : PureOk Tryd.prog 4095 σ W0 44 p9 := pure_ok fit (Known2.nil σ) ((q0_ok hL)) p9_run
noncomputable def p10 : Pur := ([.agg [I 8, I 0, I 0, I 0, U 0]], .inil, 1048576)
theorem p10_run : ranPure (evCall (cxX Tryd.prog bad [] [] q0) 1000 60 44 p10.1 ⟨.lf, p10.2.2⟩) p10.2.1 = true := by kernel_rfl
theorem p10_ok {σ : Nat → Int} {W0 : World} (hL : L0 W0) : PureOk Tryd.prog 4095 σ W0 44 p10 := pure_ok fit (Known2.nil σ) ((q0_ok hL)) p10_run
noncomputable def p11 : Pur := ([.agg [I 7, I 1, I 0, I 0, U 0]], .inil, 1048576)
theorem p11_run : ranPure (evCall (cxX Tryd.prog bad [] [] q0) 1000 60 44 p11.1 ⟨.lf, p11.2.2⟩) p11.2.1 = true := by kernel_rfl
theorem p11_ok {σ : Nat → Int} {W0 : World} (hL : L0 W0) : PureOk Tryd.prog 4095 σ W0 44 p11 := pure_ok fit (Known2.nil σ) ((q0_ok hL)) p11_run
noncomputable def p12 : Pur := ([.agg [I 11, I 0, I 0, I 0, U 0]], .inil, 1048576)
theorem p12_run : ranPure (evCall (cxX Tryd.prog bad [] [] q0) 1000 60 44 p12.1 ⟨.lf, p12.2.2⟩) p12.2.1 = true := by kernel_rfl
theorem p12_ok {σ : Nat → Int} {W0 : World} (hL : L0 W0) : PureOk Tryd.prog 4095 σ W0 44 p12 := pure_ok fit (Known2.nil σ) ((q0_ok hL)) p12_run
noncomputable def p13 : Pur := ([.agg [I 12, I 0, I 0, I 0, U 0]], .inil, 1048576)
theorem p13_run : ranPure (evCall (cxX Tryd.prog bad [] [] q0) 1000 60 44 p13.1 ⟨.lf, p13.2.2⟩) p13.2.1 = true := by kernel_rfl
theorem p13_ok {σ : Nat → Int} {W0 : World} (hL : L0 W0) : PureOk Tryd.prog 4095 σ W0 44 p13 := pure_ok fit (Known2.nil σ) ((q0_ok hL)) p13_run
noncomputable def p14 : Pur := ([.agg [I 13, I 0, I 0, I 0, U 0]], .inil, 1048576)
theorem p14_run : ranPure (evCall (cxX Tryd.prog bad [] [] q0) 1000 60 44 p14.1 ⟨.lf, p14.2.2⟩) p14.2.1 = true := by kernel_rfl
theorem p14_ok {σ : Nat → Int} {W0 : World} (hL : L0 W0) : PureOk Tryd.prog 4095 σ W0 44 p14 := pure_ok fit (Known2.nil σ) ((q0_ok hL)) p14_run
noncomputable def p15 : Pur := ([.agg [I 14, I 0, I 0, I 0, U 0]], .inil, 1048576)
theorem p15_run : ranPure (evCall (cxX Tryd.prog bad [] [] q0) 1000 60 44 p15.1 ⟨.lf, p15.2.2⟩) p15.2.1 = true := by kernel_rfl
theorem p15_ok {σ : Nat → Int} {W0 : World} (hL : L0 W0) : PureOk Tryd.prog 4095 σ W0 44 p15 := pure_ok fit (Known2.nil σ) ((q0_ok hL)) p15_run
noncomputable def h11 : H := hUpd h3 343 [] [] [(303, 0, [IZ (-1), .int .i64 (.var 3), I 0])]
noncomputable def h12 : H := hUpc h10 818 [] [(304, .map [(.agg [I 3, I 0], .agg [I 0, I 0], 0), (.agg [I 3, I 1], .agg [I 0, I 0], 1), (.agg [I 2, I 0], .agg [I 0, I 0], 2), (.agg [I 4, I 0], .agg [I 0, I 0], 3)] 4)] [(269, 0, [bT, I 0, bF]),
  (297, 1, [bT, I 0, bF]),
  (299, 1, [I 0, I 1]),
  (303, 0, [IZ (-1), .int .i64 (.var 3), I 4])] [(271, 0, 9, I 1), (271, 0, 11, I 8), (271, 0, 16, I 7), (271, 0, 17, I 1), (271, 0, 21, I 11), (271, 0, 26, I 12), (271, 0, 31, I 13), (271, 0, 36, I 14), (271, 0, 91, I 2), (271, 0, 95, U 1), (271, 0, 96, I 7), (271, 0, 97, I 1)]
noncomputable def m16 : Memo := ⟨[.ptr 311 0, .agg [.slice 30 0 1 1 1 true, I 1, .snil, bF]], h11, .tuple [I 0, .inil], h12⟩
noncomputable def l0 : List (Pur) := p15 :: p14 :: p13 :: p12 :: p11 :: p10 :: p9 :: p8 :: p5 :: p4 :: []
theorem l0_ok {σ : Nat → Int} {W0 : World} (hL : L0 W0) : ∀ x ∈ l0, PureOk Tryd.prog 4095 σ W0 44 x := all_cons (p15_ok hL) (all_cons (p14_ok hL) (all_cons (p13_ok hL) (all_cons (p12_ok hL) (all_cons (p11_ok hL) (all_cons (p10_ok hL) (all_cons (p9_ok hL) (all_cons (p8_ok hL) (all_cons (p5_ok hL) (all_cons (p4_ok hL) (all_nil))))))))))
theorem m16_run : ranTo (evCall (cxX Tryd.prog bad [((-9223372036854775808), 9223372036854775807), ((-9223372036854775808), 9223372036854775807), ((-9223372036854775808), 9223372036854775807), (4, 59)] [] ((44, pureFn l0) :: q0)) 1000 60 21 m16.args m16.h) m16.v m16.h' = true := by kernel_rfl
theorem m16_ok {σ : Nat → Int} {W0 : World} (hL : L0 W0) (hk : Known2 σ [((-9223372036854775808), 9223372036854775807), ((-9223372036854775808), 9223372036854775807), ((-9223372036854775808), 9223372036854775807), (4, 59)] []) : MemoOk Tryd.prog 4095 σ W0 21 m16 := memo_ok fit hk (FnsOk.cons (pure_fn_ok (l0_ok hL)) ((q0_ok hL))) m16_run
noncomputable def l1 : List (Pur) := p9 :: p8 :: p15 :: p14 :: p13 :: p12 :: p11 :: p10 :: []
theorem l1_ok {σ : Nat → Int} {W0 : World} (hL : L0 W0) : ∀ x ∈ l1, PureOk Tryd.prog 4095 σ W0 44 x := all_cons (p9_ok hL) (all_cons (p8_ok hL) (all_cons (p15_ok hL) (all_cons (p14_ok hL) (all_cons (p13_ok hL) (all_cons (p12_ok hL) (all_cons (p11_ok hL) (all_cons (p10_ok hL) (all_nil))))))))
noncomputable def q5 : Fns := [(5, pureFn [p0]), (8, frameFn [m1]), (51, itoaFn), (114, countFn), (129, indexFn)]
theorem q5_ok {σ : Nat → Int} {W0 : World} (hL : L0 W0) : FnsOk Tryd.prog 4095 σ W0 q5 := FnsOk.cons (pure_fn_ok (all_cons (p0_ok hL) (all_nil))) (FnsOk.cons (frame_fn_ok (all_cons (m1_ok hL) (all_nil))) (FnsOk.cons (ext_itoa hL) (FnsOk.cons (ext_count hL) (FnsOk.cons (ext_index hL) (FnsOk.nil)))))
theorem run4 : isTrue (evCall (cxX Tryd.prog bad [((-9223372036854775808), 9223372036854775807), ((-9223372036854775808), 9223372036854775807), ((-9223372036854775808), 9223372036854775807), (4, 59)] [] ((6, numExtE [(0, 10, .lit 0), (1, 60, .var 3), (2, 4, .lit 0)]) :: (21, frameFn [m16]) :: (44, pureFn l1) :: q5)) 1000 60 3 [.int .i64 (.var 0), .int .i64 (.var 1), .int .i64 (.var 2)] (sentH 240 18 errTab)) = true := by kernel_rfl
theorem case4 {σ : Nat → Int} {W : World} (hL : L0 W) (hk : Known2 σ [((-9223372036854775808), 9223372036854775807), ((-9223372036854775808), 9223372036854775807), ((-9223372036854775808), 9223372036854775807), (4, 59)] []) (hT : TabOk Tryd.prog bad 6 σ [(0, 10, .lit 0), (1, 60, .var 3), (2, 4, .lit 0)]) {xs : Array Value} (hv : ∀ ρ, VRs σ ρ [.int .i64 (.var 0), .int .i64 (.var 1), .int .i64 (.var 2)] xs.toList) : Calls Tryd.prog 3 xs W fun e w' => e = .returned (.bool true) ∧ Below W.heap.size W w' := by
  obtain ⟨ads, h1, h2, h3⟩ := errs_sents hL
  exact law_case_x fit h1 h2 h3 errs_all errs_lt (by kernel_rfl) hk (FnsOk.cons (hT.ok fit) (FnsOk.cons (frame_fn_ok (all_cons (m16_ok hL hk) (all_nil))) (FnsOk.cons (pure_fn_ok (l1_ok hL)) ((q5_ok hL))))) hv ⟨_, Tryd.func3, rfl⟩ run4
noncomputable def h13 : H := hUpd h0 34 [] [] []
noncomputable def m17 : Memo := ⟨[], h13, .agg [I 16, I 24, I 8, I 12, I 8, I 6], h2⟩
theorem m17_run : ranTo (evCall (cxX Tryd.prog bad [] [] q0) 1000 60 8 m17.args m17.h) m17.v m17.h' = true := by kernel_rfl
theorem m17_ok {σ : Nat → Int} {W0 : World} (hL : L0 W0) : MemoOk Tryd.prog 4095 σ W0 8 m17 := memo_ok fit (Known2.nil σ) ((q0_ok hL)) m17_run
noncomputable def h14 : H := hUpd h11 343 [] [(33, .cells 1 ([[I 1]]) false)] []
noncomputable def h15 : H := hUpd h12 818 [] [(33, .cells 1 ([[I 1]]) false)] []
noncomputable def m18 : Memo := ⟨[.ptr 311 0, .agg [.slice 30 0 1 1 1 true, I 1, .slice 33 0 1 1 1 true, bF]], h14, .tuple [I 0, .inil], h15⟩
theorem m18_run : ranTo (evCall (cxX Tryd.prog bad [((-9223372036854775808), 9223372036854775807), ((-9223372036854775808), 9223372036854775807), ((-9223372036854775808), 9223372036854775807), (4, 59)] [] ((44, pureFn l0) :: q0)) 1000 60 21 m18.args m18.h) m18.v m18.h' = true := by kernel_rfl
theorem m18_ok {σ : Nat → Int} {W0 : World} (hL : L0 W0) (hk : Known2 σ [((-9223372036854775808), 9223372036854775807), ((-9223372036854775808), 9223372036854775807), ((-9223372036854775808), 9223372036854775807), (4, 59)] []) : MemoOk Tryd.prog 4095 σ W0 21 m18 := memo_ok fit hk (FnsOk.cons (pure_fn_ok (l0_ok hL)) ((q0_ok hL))) m18_run
noncomputable def q6 : Fns := [(5, pureFn [p0]), (8, frameFn [m17]), (51, itoaFn), (114, countFn), (129, indexFn)]
theorem q6_ok {σ : Nat → Int} {W0 : World} (hL : L0 W0) : FnsOk Tryd.prog 4095 σ W0 q6 := FnsOk.cons (pure_fn_ok (all_cons (p0_ok hL) (all_nil))) (FnsOk.cons (frame_fn_ok (all_cons (m17_ok hL) (all_nil))) (FnsOk.cons (ext_itoa hL) (FnsOk.cons (ext_count hL) (FnsOk.cons (ext_index hL) (FnsOk.nil)))))
theorem run5 : isTrue (evCall (cxX Tryd.prog bad [((-9223372036854775808), 9223372036854775807), ((-9223372036854775808), 9223372036854775807), ((-9223372036854775808), 9223372036854775807), (4, 59)] [] ((6, numExtE [(0, 10, .lit 0), (1, 60, .var 3), (2, 4, .lit 1)]) :: (21, frameFn [m18]) :: q6)) 1000 60 3 [.int .i64 (.var 0), .int .i64 (.var 1), .int .i64 (.var 2)] (sentH 240 18 errTab)) = true := by kernel_rfl
theorem case5 {σ : Nat → Int} {W : World} (hL : L0 W) (hk : Known2 σ [((-9223372036854775808), 9223372036854775807), ((-9223372036854775808), 9223372036854775807), ((-9223372036854775808), 9223372036854775807), (4, 59)] []) (hT : TabOk Tryd.prog bad 6 σ [(0, 10, .lit 0), (1, 60, .var 3), (2, 4, .lit 1)]) {xs : Array Value} (hv : ∀ ρ, VRs σ ρ [.int .i64 (.var 0), .int .i64 (.var 1), .int .i64 (.var 2)] xs.toList) : Calls Tryd.prog 3 xs W fun e w' => e = .returned (.bool true) ∧ Below W.heap.size W w' := by
  obtain ⟨ads, h1, h2, h3⟩ := errs_sents hL
  exact law_case_x fit h1 h2 h3 errs_all errs_lt (by kernel_rfl) hk (FnsOk.cons (hT.ok fit) (FnsOk.cons (frame_fn_ok (all_cons (m18_ok hL hk) (all_nil))) ((q6_ok hL)))) hv ⟨_, Tryd.func3, rfl⟩ run5
noncomputable def h16 : H := hUpd h11 343 [30] [(33, .cells 1 (rp 33 ([U 0]) ([])) false)] []
noncomputable def h17 : H := hUpd h16 346 [] [] []
noncomputable def m19 : Memo := ⟨[.ptr 311 0, .agg [.slice 33 0 33 33 1 true, I 1, .snil, bF]], h16, .tuple [I 0, .iface 240 (.ptr 21 0)], h17⟩
theorem m19_run : ranTo (evCall (cxX Tryd.prog bad [] [] q0) 1000 60 21 m19.args m19.h) m19.v m19.h' = true := by kernel_rfl
theorem m19_ok {σ : Nat → Int} {W0 : World} (hL : L0 W0) : MemoOk Tryd.prog 4095 σ W0 21 m19 := memo_ok fit (Known2.nil σ) ((q0_ok hL)) m19_run
noncomputable def q7 : Fns := [(5, pureFn [p0]), (8, frameFn [m17]), (21, frameFn [m19]), (51, itoaFn), (114, countFn), (129, indexFn)]
theorem q7_ok {σ : Nat → Int} {W0 : World} (hL : L0 W0) : FnsOk Tryd.prog 4095 σ W0 q7 := FnsOk.cons (pure_fn_ok (all_cons (p0_ok hL) (all_nil))) (FnsOk.cons (frame_fn_ok (all_cons (m17_ok hL) (all_nil))) (FnsOk.cons (frame_fn_ok (all_cons (m19_ok hL) (all_nil))) (FnsOk.cons (ext_itoa hL) (FnsOk.cons (ext_count hL) (FnsOk.cons (ext_index hL) (FnsOk.nil))))))
theorem run6 : isTrue (evCall (cxX Tryd.prog bad [((-9223372036854775808), 9223372036854775807), ((-9223372036854775808), 9223372036854775807), ((-9223372036854775808), 9223372036854775807), (4, 59)] [] ((6, numExtE [(0, 10, .lit 0), (1, 60, .var 3), (2, 4, .lit 2)]) :: q7)) 1000 60 3 [.int .i64 (.var 0), .int .i64 (.var 1), .int .i64 (.var 2)] (sentH 240 18 errTab)) = true := by kernel_rfl
theorem case6 {σ : Nat → Int} {W : World} (hL : L0 W) (hk : Known2 σ [((-9223372036854775808), 9223372036854775807), ((-9223372036854775808), 9223372036854775807), ((-9223372036854775808), 9223372036854775807), (4, 59)] []) (hT : TabOk Tryd.prog bad 6 σ [(0, 10, .lit 0), (1, 60, .var 3), (2, 4, .lit 2)]) {xs : Array Value} (hv : ∀ ρ, VRs σ ρ [.int .i64 (.var 0), .int .i64 (.var 1), .int .i64 (.var 2)] xs.toList) : Calls Tryd.prog 3 xs W fun e w' => e = .returned (.bool true) ∧ Below W.heap.size W w' := by
  obtain ⟨ads, h1, h2, h3⟩ := errs_sents hL
  exact law_case_x fit h1 h2 h3 errs_all errs_lt (by kernel_rfl) hk (FnsOk.cons (hT.ok fit) ((q7_ok hL))) hv ⟨_, Tryd.func3, rfl⟩ run6
noncomputable def h18 : H := hUpc h12 690 [] [] [(297, 1, [bF, I 0, bF]),
  (299, 1, [I 0, I 0])] [(271, 0, 11, I 0), (271, 0, 16, I 0), (271, 0, 17, I 0), (271, 0, 21, I 0), (271, 0, 26, I 0), (271, 0, 31, I 0), (271, 0, 36, I 0), (271, 0, 96, I 0), (271, 0, 97, I 0)]
noncomputable def m20 : Memo := ⟨[.ptr 311 0, .agg [.slice 30 0 1 1 1 true, IZ (-1), .snil, bF]], h11, .tuple [I 0, .iface 240 (.ptr 20 0)], h18⟩
noncomputable def l2 : List (Pur) := p9 :: p8 :: p5 :: p4 :: []
theorem l2_ok {σ : Nat → Int} {W0 : World} (hL : L0 W0) : ∀ x ∈ l2, PureOk Tryd.prog 4095 σ W0 44 x := all_cons (p9_ok hL) (all_cons (p8_ok hL) (all_cons (p5_ok hL) (all_cons (p4_ok hL) (all_nil))))
theorem m20_run : ranTo (evCall (cxX Tryd.prog bad [((-9223372036854775808), 9223372036854775807), ((-9223372036854775808), 9223372036854775807), ((-9223372036854775808), 9223372036854775807), (4, 59)] [] ((44, pureFn l2) :: q0)) 1000 60 21 m20.args m20.h) m20.v m20.h' = true := by kernel_rfl
theorem m20_ok {σ : Nat → Int} {W0 : World} (hL : L0 W0) (hk : Known2 σ [((-9223372036854775808), 9223372036854775807), ((-9223372036854775808), 9223372036854775807), ((-9223372036854775808), 9223372036854775807), (4, 59)] []) : MemoOk Tryd.prog 4095 σ W0 21 m20 := memo_ok fit hk (FnsOk.cons (pure_fn_ok (l2_ok hL)) ((q0_ok hL))) m20_run
theorem run7 : isTrue (evCall (cxX Tryd.prog bad [((-9223372036854775808), 9223372036854775807), ((-9223372036854775808), 9223372036854775807), ((-9223372036854775808), 9223372036854775807), (4, 59)] [] ((6, numExtE [(0, 10, .lit 0), (1, 60, .var 3), (2, 4, .lit 3)]) :: (21, frameFn [m20]) :: q5)) 1000 60 3 [.int .i64 (.var 0), .int .i64 (.var 1), .int .i64 (.var 2)] (sentH 240 18 errTab)) = true := by kernel_rfl
theorem case7 {σ : Nat → Int} {W : World} (hL : L0 W) (hk : Known2 σ [((-9223372036854775808), 9223372036854775807), ((-9223372036854775808), 9223372036854775807), ((-9223372036854775808), 9223372036854775807), (4, 59)] []) (hT : TabOk Tryd.prog bad 6 σ [(0, 10, .lit 0), (1, 60, .var 3), (2, 4, .lit 3)]) {xs : Array Value} (hv : ∀ ρ, VRs σ ρ [.int .i64 (.var 0), .int .i64 (.var 1), .int .i64 (.var 2)] xs.toList) : Calls Tryd.prog 3 xs W fun e w' => e = .returned (.bool true) ∧ Below W.heap.size W w' := by
  obtain ⟨ads, h1, h2, h3⟩ := errs_sents hL
  exact law_case_x fit h1 h2 h3 errs_all errs_lt (by kernel_rfl) hk (FnsOk.cons (hT.ok fit) (FnsOk.cons (frame_fn_ok (all_cons (m20_ok hL hk) (all_nil))) ((q5_ok hL)))) hv ⟨_, Tryd.func3, rfl⟩ run7
noncomputable def h19 : H := hUpd h0 36 [] [] []
noncomputable def m21 : Memo := ⟨[], h19, .agg [I 16, I 24, I 8, I 12, I 8, I 6], h2⟩
theorem m21_run : ranTo (evCall (cxX Tryd.prog bad [] [] q0) 1000 60 8 m21.args m21.h) m21.v m21.h' = true := by kernel_rfl
theorem m21_ok {σ : Nat → Int} {W0 : World} (hL : L0 W0) : MemoOk Tryd.prog 4095 σ W0 8 m21 := memo_ok fit (Known2.nil σ) ((q0_ok hL)) m21_run
noncomputable def q8 : Fns := [(5, pureFn [p0]), (8, frameFn [m21]), (21, frameFn [m2]), (51, itoaFn), (114, countFn), (129, indexFn)]
theorem q8_ok {σ : Nat → Int} {W0 : World} (hL : L0 W0) : FnsOk Tryd.prog 4095 σ W0 q8 := FnsOk.cons (pure_fn_ok (all_cons (p0_ok hL) (all_nil))) (FnsOk.cons (frame_fn_ok (all_cons (m21_ok hL) (all_nil))) (FnsOk.cons (frame_fn_ok (all_cons (m2_ok hL) (all_nil))) (FnsOk.cons (ext_itoa hL) (FnsOk.cons (ext_count hL) (FnsOk.cons (ext_index hL) (FnsOk.nil))))))
theorem run8 : isTrue (evCall (cxX Tryd.prog bad [] [] ((6, numExtE [(0, 10, .lit 1), (1, 60, .lit 0)]) :: q8)) 1000 60 3 [.int .i64 (.var 0), .int .i64 (.var 1), .int .i64 (.var 2)] (sentH 240 18 errTab)) = true := by kernel_rfl
theorem case8 {σ : Nat → Int} {W : World} (hL : L0 W) (hk : Known2 σ [] []) (hT : TabOk Tryd.prog bad 6 σ [(0, 10, .lit 1), (1, 60, .lit 0)]) {xs : Array Value} (hv : ∀ ρ, VRs σ ρ [.int .i64 (.var 0), .int .i64 (.var 1), .int .i64 (.var 2)] xs.toList) : Calls Tryd.prog 3 xs W fun e w' => e = .returned (.bool true) ∧ Below W.heap.size W w' := by
  obtain ⟨ads, h1, h2, h3⟩ := errs_sents hL
  exact law_case_x fit h1 h2 h3 errs_all errs_lt (by kernel_rfl) hk (FnsOk.cons (hT.ok fit) ((q8_ok hL))) hv ⟨_, Tryd.func3, rfl⟩ run8
noncomputable def q9 : Fns := [(5, pureFn [p0]), (8, frameFn [m21]), (21, frameFn [m3]), (51, itoaFn), (114, countFn), (129, indexFn)]
theorem q9_ok {σ : Nat → Int} {W0 : World} (hL : L0 W0) : FnsOk Tryd.prog 4095 σ W0 q9 := FnsOk.cons (pure_fn_ok (all_cons (p0_ok hL) (all_nil))) (FnsOk.cons (frame_fn_ok (all_cons (m21_ok hL) (all_nil))) (FnsOk.cons (frame_fn_ok (all_cons (m3_ok hL) (all_nil))) (FnsOk.cons (ext_itoa hL) (FnsOk.cons (ext_count hL) (FnsOk.cons (ext_index hL) (FnsOk.nil))))))
theorem run9 : isTrue (evCall (cxX Tryd.prog bad [] [] ((6, numExtE [(0, 10, .lit 1), (1, 60, .lit 1)]) :: q9)) 1000 60 3 [.int .i64 (.var 0), .int .i64 (.var 1), .int .i64 (.var 2)] (sentH 240 18 errTab)) = true := by kernel_rfl
theorem case9 {σ : Nat → Int} {W : World} (hL : L0 W) (hk : Known2 σ [] []) (hT : TabOk Tryd.prog bad 6 σ [(0, 10, .lit 1), (1, 60, .lit 1)]) {xs : Array Value} (hv : ∀ ρ, VRs σ ρ [.int .i64 (.var 0), .int .i64 (.var 1), .int .i64 (.var 2)] xs.toList) : Calls Tryd.prog 3 xs W fun e w' => e = .returned (.bool true) ∧ Below W.heap.size W w' := by
  obtain ⟨ads, h1, h2, h3⟩ := errs_sents hL
  exact law_case_x fit h1 h2 h3 errs_all errs_lt (by kernel_rfl) hk (FnsOk.cons (hT.ok fit) ((q9_ok hL))) hv ⟨_, Tryd.func3, rfl⟩ run9
noncomputable def q10 : Fns := [(5, pureFn [p0]), (8, frameFn [m21]), (21, frameFn [m6]), (51, itoaFn), (114, countFn), (129, indexFn)]
theorem q10_ok {σ : Nat → Int} {W0 : World} (hL : L0 W0) : FnsOk Tryd.prog 4095 σ W0 q10 := FnsOk.cons (pure_fn_ok (all_cons (p0_ok hL) (all_nil))) (FnsOk.cons (frame_fn_ok (all_cons (m21_ok hL) (all_nil))) (FnsOk.cons (frame_fn_ok (all_cons (m6_ok hL) (all_nil))) (FnsOk.cons (ext_itoa hL) (FnsOk.cons (ext_count hL) (FnsOk.cons (ext_index hL) (FnsOk.nil))))))
theorem run10 : isTrue (evCall (cxX Tryd.prog bad [] [] ((6, numExtE [(0, 10, .lit 1), (1, 60, .lit 2)]) :: q10)) 1000 60 3 [.int .i64 (.var 0), .int .i64 (.var 1), .int .i64 (.var 2)] (sentH 240 18 errTab)) = true := by kernel_rfl
theorem case10 {σ : Nat → Int} {W : World} (hL : L0 W) (hk : Known2 σ [] []) (hT : TabOk Tryd.prog bad 6 σ [(0, 10, .lit 1), (1, 60, .lit 2)]) {xs : Array Value} (hv : ∀ ρ, VRs σ ρ [.int .i64 (.var 0), .int .i64 (.var 1), .int .i64 (.var 2)] xs.toList) : Calls Tryd.prog 3 xs W fun e w' => e = .returned (.bool true) ∧ Below W.heap.size W w' := by
  obtain ⟨ads, h1, h2, h3⟩ := errs_sents hL
  exact law_case_x fit h1 h2 h3 errs_all errs_lt (by kernel_rfl) hk (FnsOk.cons (hT.ok fit) ((q10_ok hL))) hv ⟨_, Tryd.func3, rfl⟩ run10
noncomputable def q11 : Fns := [(5, pureFn [p0]), (8, frameFn [m21]), (21, frameFn [m7]), (51, itoaFn), (114, countFn), (129, indexFn)]
theorem q11_ok {σ : Nat → Int} {W0 : World} (hL : L0 W0) : FnsOk Tryd.prog 4095 σ W0 q11 := FnsOk.cons (pure_fn_ok (all_cons (p0_ok hL) (all_nil))) (FnsOk.cons (frame_fn_ok (all_cons (m21_ok hL) (all_nil))) (FnsOk.cons (frame_fn_ok (all_cons (m7_ok hL) (all_nil))) (FnsOk.cons (ext_itoa hL) (FnsOk.cons (ext_count hL) (FnsOk.cons (ext_index hL) (FnsOk.nil))))))
theorem run11 : isTrue (evCall (cxX Tryd.prog bad [] [] ((6, numExtE [(0, 10, .lit 1), (1, 60, .lit 3)]) :: q11)) 1000 60 3 [.int .i64 (.var 0), .int .i64 (.var 1), .int .i64 (.var 2)] (sentH 240 18 errTab)) = true := by kernel_rfl
theorem case11 {σ : Nat → Int} {W : World} (hL : L0 W) (hk : Known2 σ [] []) (hT : TabOk Tryd.prog bad 6 σ [(0, 10, .lit 1), (1, 60, .lit 3)]) {xs : Array Value} (hv : ∀ ρ, VRs σ ρ [.int .i64 (.var 0), .int .i64 (.var 1), .int .i64 (.var 2)] xs.toList) : Calls Tryd.prog 3 xs W fun e w' => e = .returned (.bool true) ∧ Below W.heap.size W w' := by
  obtain ⟨ads, h1, h2, h3⟩ := errs_sents hL
  exact law_case_x fit h1 h2 h3 errs_all errs_lt (by kernel_rfl) hk (FnsOk.cons (hT.ok fit) ((q11_ok hL))) hv ⟨_, Tryd.func3, rfl⟩ run11
noncomputable def h20 : H := hUpd h3 343 [] [] [(303, 0, [IZ (-1), I 4, I 0])]
noncomputable def h21 : H := hUpd h12 818 [] [] [(303, 0, [IZ (-1), I 4, I 4])]
noncomputable def m22 : Memo := ⟨[.ptr 311 0, .agg [.slice 30 0 1 1 1 true, I 1, .snil, bF]], h20, .tuple [I 0, .inil], h21⟩
theorem m22_run : ranTo (evCall (cxX Tryd.prog bad [] [] ((44, pureFn l0) :: q0)) 1000 60 21 m22.args m22.h) m22.v m22.h' = true := by kernel_rfl
theorem m22_ok {σ : Nat → Int} {W0 : World} (hL : L0 W0) : MemoOk Tryd.prog 4095 σ W0 21 m22 := memo_ok fit (Known2.nil σ) (FnsOk.cons (pure_fn_ok (l0_ok hL)) ((q0_ok hL))) m22_run
noncomputable def h22 : H := hUpd h15 821 [30] [] [(33, 0, [U 1]),
  (303, 0, [IZ (-1), I 4, I 4])]
noncomputable def h23 : H := hUpd h22 852 [] [] []
noncomputable def m23 : Memo := ⟨[.ptr 311 0, .agg [.slice 33 0 1 1 1 true, I 1, .snil, bF]], h22, .tuple [I 0, .iface 240 (.ptr 24 0)], h23⟩
theorem m23_run : ranTo (evCall (cxX Tryd.prog bad [] [] q0) 1000 60 21 m23.args m23.h) m23.v m23.h' = true := by kernel_rfl
theorem m23_ok {σ : Nat → Int} {W0 : World} (hL : L0 W0) : MemoOk Tryd.prog 4095 σ W0 21 m23 := memo_ok fit (Known2.nil σ) ((q0_ok hL)) m23_run
noncomputable def q12 : Fns := [(5, pureFn [p0]), (8, frameFn [m21]), (51, itoaFn), (114, countFn), (129, indexFn)]
theorem q12_ok {σ : Nat → Int} {W0 : World} (hL : L0 W0) : FnsOk Tryd.prog 4095 σ W0 q12 := FnsOk.cons (pure_fn_ok (all_cons (p0_ok hL) (all_nil))) (FnsOk.cons (frame_fn_ok (all_cons (m21_ok hL) (all_nil))) (FnsOk.cons (ext_itoa hL) (FnsOk.cons (ext_count hL) (FnsOk.cons (ext_index hL) (FnsOk.nil)))))
theorem run12 : isTrue (evCall (cxX Tryd.prog bad [] [] ((6, numExtE [(0, 10, .lit 1), (1, 60, .lit 4)]) :: (21, frameFn [m22, m23]) :: q12)) 1000 60 3 [.int .i64 (.var 0), .int .i64 (.var 1), .int .i64 (.var 2)] (sentH 240 18 errTab)) = true := by kernel_rfl
theorem case12 {σ : Nat → Int} {W : World} (hL : L0 W) (hk : Known2 σ [] []) (hT : TabOk Tryd.prog bad 6 σ [(0, 10, .lit 1), (1, 60, .lit 4)]) {xs : Array Value} (hv : ∀ ρ, VRs σ ρ [.int .i64 (.var 0), .int .i64 (.var 1), .int .i64 (.var 2)] xs.toList) : Calls Tryd.prog 3 xs W fun e w' => e = .returned (.bool true) ∧ Below W.heap.size W w' := by
  obtain ⟨ads, h1, h2, h3⟩ := errs_sents hL
  exact law_case_x fit h1 h2 h3 errs_all errs_lt (by kernel_rfl) hk (FnsOk.cons (hT.ok fit) (FnsOk.cons (frame_fn_ok (all_cons (m22_ok hL) (all_cons (m23_ok hL) (all_nil)))) ((q12_ok hL)))) hv ⟨_, Tryd.func3, rfl⟩ run12
noncomputable def h24 : H := hUpd h3 343 [] [] [(303, 0, [IZ (-1), I 5, I 0])]
noncomputable def h25 : H := hUpd h12 818 [] [] [(303, 0, [IZ (-1), I 5, I 4])]
noncomputable def m24 : Memo := ⟨[.ptr 311 0, .agg [.slice 30 0 1 1 1 true, I 1, .snil, bF]], h24, .tuple [I 0, .inil], h25⟩
theorem m24_run : ranTo (evCall (cxX Tryd.prog bad [] [] ((44, pureFn l0) :: q0)) 1000 60 21 m24.args m24.h) m24.v m24.h' = true := by kernel_rfl
theorem m24_ok {σ : Nat → Int} {W0 : World} (hL : L0 W0) : MemoOk Tryd.prog 4095 σ W0 21 m24 := memo_ok fit (Known2.nil σ) (FnsOk.cons (pure_fn_ok (l0_ok hL)) ((q0_ok hL))) m24_run
noncomputable def h26 : H := hUpd h22 821 [] [] [(303, 0, [IZ (-1), I 5, I 4])]
noncomputable def h27 : H := hUpc h22 915 [] [(304, .map [(.agg [I 3, I 0], .agg [I 0, I 0], 0), (.agg [I 3, I 1], .agg [I 0, I 0], 1), (.agg [I 2, I 0], .agg [I 0, I 0], 2), (.agg [I 4, I 0], .agg [I 0, I 0], 3), (.agg [I 3, I 2], .agg [I 0, I 0], 4)] 5)] [(262, 2, [bT, I 0, bF]),
  (303, 0, [IZ (-1), I 5, I 5])] [(264, 2, 0, U 1)]
noncomputable def m25 : Memo := ⟨[.ptr 311 0, .agg [.slice 33 0 1 1 1 true, I 1, .snil, bF]], h26, .tuple [I 0, .iface 240 (.ptr 24 0)], h27⟩
theorem m25_run : ranTo (evCall (cxX Tryd.prog bad [] [] q0) 1000 60 21 m25.args m25.h) m25.v m25.h' = true := by kernel_rfl
theorem m25_ok {σ : Nat → Int} {W0 : World} (hL : L0 W0) : MemoOk Tryd.prog 4095 σ W0 21 m25 := memo_ok fit (Known2.nil σ) ((q0_ok hL)) m25_run
theorem run13 : isTrue (evCall (cxX Tryd.prog bad [] [] ((6, numExtE [(0, 10, .lit 1), (1, 60, .lit 5)]) :: (21, frameFn [m24, m25]) :: q12)) 1000 60 3 [.int .i64 (.var 0), .int .i64 (.var 1), .int .i64 (.var 2)] (sentH 240 18 errTab)) = true := by kernel_rfl
theorem case13 {σ : Nat → Int} {W : World} (hL : L0 W) (hk : Known2 σ [] []) (hT : TabOk Tryd.prog bad 6 σ [(0, 10, .lit 1), (1, 60, .lit 5)]) {xs : Array Value} (hv : ∀ ρ, VRs σ ρ [.int .i64 (.var 0), .int .i64 (.var 1), .int .i64 (.var 2)] xs.toList) : Calls Tryd.prog 3 xs W fun e w' => e = .returned (.bool true) ∧ Below W.heap.size W w' := by
  obtain ⟨ads, h1, h2, h3⟩ := errs_sents hL
  exact law_case_x fit h1 h2 h3 errs_all errs_lt (by kernel_rfl) hk (FnsOk.cons (hT.ok fit) (FnsOk.cons (frame_fn_ok (all_cons (m24_ok hL) (all_cons (m25_ok hL) (all_nil)))) ((q12_ok hL)))) hv ⟨_, Tryd.func3, rfl⟩ run13
noncomputable def h28 : H := hUpd h3 343 [] [] [(303, 0, [IZ (-1), I 6, I 0])]
noncomputable def h29 : H := hUpd h12 818 [] [] [(303, 0, [IZ (-1), I 6, I 4])]
noncomputable def m26 : Memo := ⟨[.ptr 311 0, .agg [.slice 30 0 1 1 1 true, I 1, .snil, bF]], h28, .tuple [I 0, .inil], h29⟩
theorem m26_run : ranTo (evCall (cxX Tryd.prog bad [] [] ((44, pureFn l0) :: q0)) 1000 60 21 m26.args m26.h) m26.v m26.h' = true := by kernel_rfl
theorem m26_ok {σ : Nat → Int} {W0 : World} (hL : L0 W0) : MemoOk Tryd.prog 4095 σ W0 21 m26 := memo_ok fit (Known2.nil σ) (FnsOk.cons (pure_fn_ok (l0_ok hL)) ((q0_ok hL))) m26_run
noncomputable def p27 : Pur := ([.agg [I 3, I 2, I 0, I 0, U 0]], .inil, 1048576)
theorem p27_run : ranPure (evCall (cxX Tryd.prog bad [] [] q0) 1000 60 44 p27.1 ⟨.lf, p27.2.2⟩) p27.2.1 = true := by kernel_rfl
theorem p27_ok {σ : Nat → Int} {W0 : World} (hL : L0 W0) : PureOk Tryd.prog 4095 σ W0 44 p27 := pure_ok fit (Known2.nil σ) ((q0_ok hL)) p27_run
noncomputable def p28 : Pur := ([.agg [I 3, I 3, I 0, I 0, U 0]], .inil, 1048576)
theorem p28_run : ranPure (evCall (cxX Tryd.prog bad [] [] q0) 1000 60 44 p28.1 ⟨.lf, p28.2.2⟩) p28.2.1 = true := by kernel_rfl
theorem p28_ok {σ : Nat → Int} {W0 : World} (hL : L0 W0) : PureOk Tryd.prog 4095 σ W0 44 p28 := pure_ok fit (Known2.nil σ) ((q0_ok hL)) p28_run
noncomputable def h30 : H := hUpd h22 821 [] [] [(303, 0, [IZ (-1), I 6, I 4])]
noncomputable def h31 : H := hUpd h27 1026 [] [(304, .map [(.agg [I 3, I 0], .agg [I 0, I 0], 0), (.agg [I 3, I 1], .agg [I 0, I 0], 1), (.agg [I 2, I 0], .agg [I 0, I 0], 2), (.agg [I 4, I 0], .agg [I 0, I 0], 3), (.agg [I 3, I 2], .agg [I 0, I 0], 4), (.agg [I 3, I 3], .agg [I 0, I 0], 5)] 6)] [(262, 3, [bT, I 0, bF]),
  (303, 0, [IZ (-1), I 6, I 6])]
noncomputable def m29 : Memo := ⟨[.ptr 311 0, .agg [.slice 33 0 1 1 1 true, I 1, .snil, bF]], h30, .tuple [I 0, .iface 240 (.ptr 24 0)], h31⟩
theorem m29_run : ranTo (evCall (cxX Tryd.prog bad [] [] ((44, pureFn [p27, p28]) :: q0)) 1000 60 21 m29.args m29.h) m29.v m29.h' = true := by kernel_rfl
theorem m29_ok {σ : Nat → Int} {W0 : World} (hL : L0 W0) : MemoOk Tryd.prog 4095 σ W0 21 m29 := memo_ok fit (Known2.nil σ) (FnsOk.cons (pure_fn_ok (all_cons (p27_ok hL) (all_cons (p28_ok hL) (all_nil)))) ((q0_ok hL))) m29_run
theorem run14 : isTrue (evCall (cxX Tryd.prog bad [] [] ((6, numExtE [(0, 10, .lit 1), (1, 60, .lit 6)]) :: (21, frameFn [m26, m29]) :: q12)) 1000 60 3 [.int .i64 (.var 0), .int .i64 (.var 1), .int .i64 (.var 2)] (sentH 240 18 errTab)) = true := by kernel_rfl
theorem case14 {σ : Nat → Int} {W : World} (hL : L0 W) (hk : Known2 σ [] []) (hT : TabOk Tryd.prog bad 6 σ [(0, 10, .lit 1), (1, 60, .lit 6)]) {xs : Array Value} (hv : ∀ ρ, VRs σ ρ [.int .i64 (.var 0), .int .i64 (.var 1), .int .i64 (.var 2)] xs.toList) : Calls Tryd.prog 3 xs W fun e w' => e = .returned (.bool true) ∧ Below W.heap.size W w' := by
  obtain ⟨ads, h1, h2, h3⟩ := errs_sents hL
  exact law_case_x fit h1 h2 h3 errs_all errs_lt (by kernel_rfl) hk (FnsOk.cons (hT.ok fit) (FnsOk.cons (frame_fn_ok (all_cons (m26_ok hL) (all_cons (m29_ok hL) (all_nil)))) ((q12_ok hL)))) hv ⟨_, Tryd.func3, rfl⟩ run14
noncomputable def h32 : H := hUpd h3 343 [] [] [(303, 0, [IZ (-1), I 7, I 0])]
noncomputable def h33 : H := hUpd h12 818 [] [] [(303, 0, [IZ (-1), I 7, I 4])]
noncomputable def m30 : Memo := ⟨[.ptr 311 0, .agg [.slice 30 0 1 1 1 true, I 1, .snil, bF]], h32, .tuple [I 0, .inil], h33⟩
theorem m30_run : ranTo (evCall (cxX Tryd.prog bad [] [] ((44, pureFn l0) :: q0)) 1000 60 21 m30.args m30.h) m30.v m30.h' = true := by kernel_rfl
theorem m30_ok {σ : Nat → Int} {W0 : World} (hL : L0 W0) : MemoOk Tryd.prog 4095 σ W0 21 m30 := memo_ok fit (Known2.nil σ) (FnsOk.cons (pure_fn_ok (l0_ok hL)) ((q0_ok hL))) m30_run
noncomputable def h34 : H := hUpd h22 821 [] [] [(303, 0, [IZ (-1), I 7, I 4])]
noncomputable def h35 : H := hUpc h31 1089 [] [(304, .map [(.agg [I 3, I 0], .agg [I 0, I 0], 0), (.agg [I 3, I 1], .agg [I 0, I 0], 1), (.agg [I 2, I 0], .agg [I 0, I 0], 2), (.agg [I 4, I 0], .agg [I 0, I 0], 3), (.agg [I 3, I 2], .agg [I 0, I 0], 4), (.agg [I 3, I 3], .agg [I 0, I 0], 5), (.agg [I 2, I 1], .agg [I 0, I 0], 6)] 7)] [(258, 1, [bT, I 0, bF]),
  (303, 0, [IZ (-1), I 7, I 7])] [(260, 1, 0, I 3), (260, 1, 1, I 2), (260, 1, 5, I 3), (260, 1, 6, I 3)]
noncomputable def m31 : Memo := ⟨[.ptr 311 0, .agg [.slice 33 0 1 1 1 true, I 1, .snil, bF]], h34, .tuple [I 0, .iface 240 (.ptr 24 0)], h35⟩
theorem m31_run : ranTo (evCall (cxX Tryd.prog bad [] [] ((44, pureFn [p27, p28]) :: q0)) 1000 60 21 m31.args m31.h) m31.v m31.h' = true := by kernel_rfl
theorem m31_ok {σ : Nat → Int} {W0 : World} (hL : L0 W0) : MemoOk Tryd.prog 4095 σ W0 21 m31 := memo_ok fit (Known2.nil σ) (FnsOk.cons (pure_fn_ok (all_cons (p27_ok hL) (all_cons (p28_ok hL) (all_nil)))) ((q0_ok hL))) m31_run
theorem run15 : isTrue (evCall (cxX Tryd.prog bad [] [] ((6, numExtE [(0, 10, .lit 1), (1, 60, .lit 7)]) :: (21, frameFn [m30, m31]) :: q12)) 1000 60 3 [.int .i64 (.var 0), .int .i64 (.var 1), .int .i64 (.var 2)] (sentH 240 18 errTab)) = true := by kernel_rfl
theorem case15 {σ : Nat → Int} {W : World} (hL : L0 W) (hk : Known2 σ [] []) (hT : TabOk Tryd.prog bad 6 σ [(0, 10, .lit 1), (1, 60, .lit 7)]) {xs : Array Value} (hv : ∀ ρ, VRs σ ρ [.int .i64 (.var 0), .int .i64 (.var 1), .int .i64 (.var 2)] xs.toList) : Calls Tryd.prog 3 xs W fun e w' => e = .returned (.bool true) ∧ Below W.heap.size W w' := by
  obtain ⟨ads, h1, h2, h3⟩ := errs_sents hL
  exact law_case_x fit h1 h2 h3 errs_all errs_lt (by kernel_rfl) hk (FnsOk.cons (hT.ok fit) (FnsOk.cons (frame_fn_ok (all_cons (m30_ok hL) (all_cons (m31_ok hL) (all_nil)))) ((q12_ok hL)))) hv ⟨_, Tryd.func3, rfl⟩ run15
noncomputable def m32 : Memo := ⟨[.ptr 311 0, .agg [.slice 30 0 1 1 1 true, I 1, .snil, bF]], h11, .tuple [I 0, .inil], h12⟩
theorem m32_run : ranTo (evCall (cxX Tryd.prog bad [((-9223372036854775808), 9223372036854775807), ((-9223372036854775808), 9223372036854775807), ((-9223372036854775808), 9223372036854775807), (8, 59)] [] ((44, pureFn l0) :: q0)) 1000 60 21 m32.args m32.h) m32.v m32.h' = true := by kernel_rfl
theorem m32_ok {σ : Nat → Int} {W0 : World} (hL : L0 W0) (hk : Known2 σ [((-9223372036854775808), 9223372036854775807), ((-9223372036854775808), 9223372036854775807), ((-9223372036854775808), 9223372036854775807), (8, 59)] []) : MemoOk Tryd.prog 4095 σ W0 21 m32 := memo_ok fit hk (FnsOk.cons (pure_fn_ok (l0_ok hL)) ((q0_ok hL))) m32_run
noncomputable def p33 : Pur := ([.agg [I 2, I 1, I 0, I 0, U 1]], .inil, 1048576)
theorem p33_run : ranPure (evCall (cxX Tryd.prog bad [] [] q0) 1000 60 44 p33.1 ⟨.lf, p33.2.2⟩) p33.2.1 = true := by kernel_rfl
theorem p33_ok {σ : Nat → Int} {W0 : World} (hL : L0 W0) : PureOk Tryd.prog 4095 σ W0 44 p33 := pure_ok fit (Known2.nil σ) ((q0_ok hL)) p33_run
noncomputable def p34 : Pur := ([.agg [I 7, I 2, I 0, I 0, U 0]], .inil, 1048576)
theorem p34_run : ranPure (evCall (cxX Tryd.prog bad [] [] q0) 1000 60 44 p34.1 ⟨.lf, p34.2.2⟩) p34.2.1 = true := by kernel_rfl
theorem p34_ok {σ : Nat → Int} {W0 : World} (hL : L0 W0) : PureOk Tryd.prog 4095 σ W0 44 p34 := pure_ok fit (Known2.nil σ) ((q0_ok hL)) p34_run
noncomputable def h36 : H := hUpd h15 821 [30] [] [(33, 0, [U 1])]
noncomputable def h37 : H := hUpc h35 1296 [] [(304, .map [(.agg [I 3, I 0], .agg [I 0, I 0], 0), (.agg [I 3, I 1], .agg [I 0, I 0], 1), (.agg [I 2, I 0], .agg [I 0, I 0], 2), (.agg [I 4, I 0], .agg [I 0, I 0], 3), (.agg [I 3, I 2], .agg [I 0, I 0], 4), (.agg [I 3, I 3], .agg [I 0, I 0], 5), (.agg [I 2, I 1], .agg [I 0, I 0], 6), (.agg [I 4, I 1], .agg [I 0, I 0], 7)] 8)] [(269, 1, [bT, I 0, bF]),
  (297, 2, [bT, I 0, bF]),
  (299, 2, [I 0, I 1]),
  (303, 0, [IZ (-1), .int .i64 (.var 3), I 8])] [(271, 1, 9, I 1), (271, 1, 11, I 8), (271, 1, 16, I 7), (271, 1, 17, I 2), (271, 1, 21, I 11), (271, 1, 26, I 12), (271, 1, 31, I 13), (271, 1, 36, I 14), (271, 1, 91, I 2), (271, 1, 92, I 1), (271, 1, 95, U 1), (271, 1, 96, I 7), (271, 1, 97, I 2)]
noncomputable def m35 : Memo := ⟨[.ptr 311 0, .agg [.slice 33 0 1 1 1 true, I 1, .snil, bF]], h36, .tuple [I 1, .inil], h37⟩
noncomputable def l3 : List (Pur) := p15 :: p14 :: p13 :: p12 :: p34 :: p10 :: p33 :: p8 :: p28 :: p27 :: []
theorem l3_ok {σ : Nat → Int} {W0 : World} (hL : L0 W0) : ∀ x ∈ l3, PureOk Tryd.prog 4095 σ W0 44 x := all_cons (p15_ok hL) (all_cons (p14_ok hL) (all_cons (p13_ok hL) (all_cons (p12_ok hL) (all_cons (p34_ok hL) (all_cons (p10_ok hL) (all_cons (p33_ok hL) (all_cons (p8_ok hL) (all_cons (p28_ok hL) (all_cons (p27_ok hL) (all_nil))))))))))
theorem m35_run : ranTo (evCall (cxX Tryd.prog bad [((-9223372036854775808), 9223372036854775807), ((-9223372036854775808), 9223372036854775807), ((-9223372036854775808), 9223372036854775807), (8, 59)] [] ((44, pureFn l3) :: q0)) 1000 60 21 m35.args m35.h) m35.v m35.h' = true := by kernel_rfl
theorem m35_ok {σ : Nat → Int} {W0 : World} (hL : L0 W0) (hk : Known2 σ [((-9223372036854775808), 9223372036854775807), ((-9223372036854775808), 9223372036854775807), ((-9223372036854775808), 9223372036854775807), (8, 59)] []) : MemoOk Tryd.prog 4095 σ W0 21 m35 := memo_ok fit hk (FnsOk.cons (pure_fn_ok (l3_ok hL)) ((q0_ok hL))) m35_run
noncomputable def l4 : List (Pur) := p33 :: p34 :: l1
theorem l4_ok {σ : Nat → Int} {W0 : World} (hL : L0 W0) : ∀ x ∈ l4, PureOk Tryd.prog 4095 σ W0 44 x := all_cons (p33_ok hL) (all_cons (p34_ok hL) ((l1_ok hL)))
theorem run16 : isTrue (evCall (cxX Tryd.prog bad [((-9223372036854775808), 9223372036854775807), ((-9223372036854775808), 9223372036854775807), ((-9223372036854775808), 9223372036854775807), (8, 59)] [] ((6, numExtE [(0, 10, .lit 1), (1, 60, .var 3), (2, 4, .lit 0)]) :: (21, frameFn [m32, m35]) :: (44, pureFn l4) :: q12)) 1000 60 3 [.int .i64 (.var 0), .int .i64 (.var 1), .int .i64 (.var 2)] (sentH 240 18 errTab)) = true := by kernel_rfl
theorem case16 {σ : Nat → Int} {W : World} (hL : L0 W) (hk : Known2 σ [((-9223372036854775808), 9223372036854775807), ((-9223372036854775808), 9223372036854775807), ((-9223372036854775808), 9223372036854775807), (8, 59)] []) (hT : TabOk Tryd.prog bad 6 σ [(0, 10, .lit 1), (1, 60, .var 3), (2, 4, .lit 0)]) {xs : Array Value} (hv : ∀ ρ, VRs σ ρ [.int .i64 (.var 0), .int .i64 (.var 1), .int .i64 (.var 2)] xs.toList) : Calls Tryd.prog 3 xs W fun e w' => e = .returned (.bool true) ∧ Below W.heap.size W w' := by
  obtain ⟨ads, h1, h2, h3⟩ := errs_sents hL
  exact law_case_x fit h1 h2 h3 errs_all errs_lt (by kernel_rfl) hk (FnsOk.cons (hT.ok fit) (FnsOk.cons (frame_fn_ok (all_cons (m32_ok hL hk) (all_cons (m35_ok hL hk) (all_nil)))) (FnsOk.cons (pure_fn_ok (l4_ok hL)) ((q12_ok hL))))) hv ⟨_, Tryd.func3, rfl⟩ run16
noncomputable def h38 : H := hUpd h0 37 [] [] []
noncomputable def m36 : Memo := ⟨[], h38, .agg [I 16, I 24, I 8, I 12, I 8, I 6], h2⟩
theorem m36_run : ranTo (evCall (cxX Tryd.prog bad [] [] q0) 1000 60 8 m36.args m36.h) m36.v m36.h' = true := by kernel_rfl
theorem m36_ok {σ : Nat → Int} {W0 : World} (hL : L0 W0) : MemoOk Tryd.prog 4095 σ W0 8 m36 := memo_ok fit (Known2.nil σ) ((q0_ok hL)) m36_run
noncomputable def h39 : H := hUpd h36 821 [] [(36, .cells 1 ([[I 2]]) false)] []
noncomputable def h40 : H := hUpd h37 1296 [] [(36, .cells 1 ([[I 2]]) false)] []
noncomputable def m37 : Memo := ⟨[.ptr 311 0, .agg [.slice 33 0 1 1 1 true, I 1, .slice 36 0 1 1 1 true, bF]], h39, .tuple [I 1, .inil], h40⟩
theorem m37_run : ranTo (evCall (cxX Tryd.prog bad [((-9223372036854775808), 9223372036854775807), ((-9223372036854775808), 9223372036854775807), ((-9223372036854775808), 9223372036854775807), (8, 59)] [] ((44, pureFn l3) :: q0)) 1000 60 21 m37.args m37.h) m37.v m37.h' = true := by kernel_rfl
theorem m37_ok {σ : Nat → Int} {W0 : World} (hL : L0 W0) (hk : Known2 σ [((-9223372036854775808), 9223372036854775807), ((-9223372036854775808), 9223372036854775807), ((-9223372036854775808), 9223372036854775807), (8, 59)] []) : MemoOk Tryd.prog 4095 σ W0 21 m37 := memo_ok fit hk (FnsOk.cons (pure_fn_ok (l3_ok hL)) ((q0_ok hL))) m37_run
noncomputable def q13 : Fns := [(5, pureFn [p0]), (8, frameFn [m36]), (51, itoaFn), (114, countFn), (129, indexFn)]
theorem q13_ok {σ : Nat → Int} {W0 : World} (hL : L0 W0) : FnsOk Tryd.prog 4095 σ W0 q13 := FnsOk.cons (pure_fn_ok (all_cons (p0_ok hL) (all_nil))) (FnsOk.cons (frame_fn_ok (all_cons (m36_ok hL) (all_nil))) (FnsOk.cons (ext_itoa hL) (FnsOk.cons (ext_count hL) (FnsOk.cons (ext_index hL) (FnsOk.nil)))))
theorem run17 : isTrue (evCall (cxX Tryd.prog bad [((-9223372036854775808), 9223372036854775807), ((-9223372036854775808), 9223372036854775807), ((-9223372036854775808), 9223372036854775807), (8, 59)] [] ((6, numExtE [(0, 10, .lit 1), (1, 60, .var 3), (2, 4, .lit 1)]) :: (21, frameFn [m32, m37]) :: (44, pureFn l1) :: q13)) 1000 60 3 [.int .i64 (.var 0), .int .i64 (.var 1), .int .i64 (.var 2)] (sentH 240 18 errTab)) = true := by kernel_rfl
theorem case17 {σ : Nat → Int} {W : World} (hL : L0 W) (hk : Known2 σ [((-9223372036854775808), 9223372036854775807), ((-9223372036854775808), 9223372036854775807), ((-9223372036854775808), 9223372036854775807), (8, 59)] []) (hT : TabOk Tryd.prog bad 6 σ [(0, 10, .lit 1), (1, 60, .var 3), (2, 4, .lit 1)]) {xs : Array Value} (hv : ∀ ρ, VRs σ ρ [.int .i64 (.var 0), .int .i64 (.var 1), .int .i64 (.var 2)] xs.toList) : Calls Tryd.prog 3 xs W fun e w' => e = .returned (.bool true) ∧ Below W.heap.size W w' := by
  obtain ⟨ads, h1, h2, h3⟩ := errs_sents hL
  exact law_case_x fit h1 h2 h3 errs_all errs_lt (by kernel_rfl) hk (FnsOk.cons (hT.ok fit) (FnsOk.cons (frame_fn_ok (all_cons (m32_ok hL hk) (all_cons (m37_ok hL hk) (all_nil)))) (FnsOk.cons (pure_fn_ok (l1_ok hL)) ((q13_ok hL))))) hv ⟨_, Tryd.func3, rfl⟩ run17
noncomputable def h41 : H := hUpd h11 343 [30] [(36, .cells 1 (rp 33 ([U 0]) ([])) false)] []
noncomputable def h42 : H := hUpd h41 346 [] [] []
noncomputable def m38 : Memo := ⟨[.ptr 311 0, .agg [.slice 36 0 33 33 1 true, I 1, .snil, bF]], h41, .tuple [I 0, .iface 240 (.ptr 21 0)], h42⟩
theorem m38_run : ranTo (evCall (cxX Tryd.prog bad [] [] q0) 1000 60 21 m38.args m38.h) m38.v m38.h' = true := by kernel_rfl
theorem m38_ok {σ : Nat → Int} {W0 : World} (hL : L0 W0) : MemoOk Tryd.prog 4095 σ W0 21 m38 := memo_ok fit (Known2.nil σ) ((q0_ok hL)) m38_run
noncomputable def q14 : Fns := [(5, pureFn [p0]), (8, frameFn [m36]), (21, frameFn [m38]), (51, itoaFn), (114, countFn), (129, indexFn)]
theorem q14_ok {σ : Nat → Int} {W0 : World} (hL : L0 W0) : FnsOk Tryd.prog 4095 σ W0 q14 := FnsOk.cons (pure_fn_ok (all_cons (p0_ok hL) (all_nil))) (FnsOk.cons (frame_fn_ok (all_cons (m36_ok hL) (all_nil))) (FnsOk.cons (frame_fn_ok (all_cons (m38_ok hL) (all_nil))) (FnsOk.cons (ext_itoa hL) (FnsOk.cons (ext_count hL) (FnsOk.cons (ext_index hL) (FnsOk.nil))))))
theorem run18 : isTrue (evCall (cxX Tryd.prog bad [((-9223372036854775808), 9223372036854775807), ((-9223372036854775808), 9223372036854775807), ((-9223372036854775808), 9223372036854775807), (8, 59)] [] ((6, numExtE [(0, 10, .lit 1), (1, 60, .var 3), (2, 4, .lit 2)]) :: q14)) 1000 60 3 [.int .i64 (.var 0), .int .i64 (.var 1), .int .i64 (.var 2)] (sentH 240 18 errTab)) = true := by kernel_rfl
theorem case18 {σ : Nat → Int} {W : World} (hL : L0 W) (hk : Known2 σ [((-9223372036854775808), 9223372036854775807), ((-9223372036854775808), 9223372036854775807), ((-9223372036854775808), 9223372036854775807), (8, 59)] []) (hT : TabOk Tryd.prog bad 6 σ [(0, 10, .lit 1), (1, 60, .var 3), (2, 4, .lit 2)]) {xs : Array Value} (hv : ∀ ρ, VRs σ ρ [.int .i64 (.var 0), .int .i64 (.var 1), .int .i64 (.var 2)] xs.toList) : Calls Tryd.prog 3 xs W fun e w' => e = .returned (.bool true) ∧ Below W.heap.size W w' := by
  obtain ⟨ads, h1, h2, h3⟩ := errs_sents hL
  exact law_case_x fit h1 h2 h3 errs_all errs_lt (by kernel_rfl) hk (FnsOk.cons (hT.ok fit) ((q14_ok hL))) hv ⟨_, Tryd.func3, rfl⟩ run18
noncomputable def h43 : H := hUpc h37 1168 [] [] [(297, 2, [bF, I 0, bF]),
  (299, 2, [I 0, I 0])] [(271, 1, 11, I 0), (271, 1, 16, I 0), (271, 1, 17, I 0), (271, 1, 21, I 0), (271, 1, 26, I 0), (271, 1, 31, I 0), (271, 1, 36, I 0), (271, 1, 96, I 0), (271, 1, 97, I 0)]
noncomputable def m39 : Memo := ⟨[.ptr 311 0, .agg [.slice 33 0 1 1 1 true, IZ (-1), .snil, bF]], h36, .tuple [I 0, .iface 240 (.ptr 20 0)], h43⟩
noncomputable def l5 : List (Pur) := p33 :: p8 :: p28 :: p27 :: []
theorem l5_ok {σ : Nat → Int} {W0 : World} (hL : L0 W0) : ∀ x ∈ l5, PureOk Tryd.prog 4095 σ W0 44 x := all_cons (p33_ok hL) (all_cons (p8_ok hL) (all_cons (p28_ok hL) (all_cons (p27_ok hL) (all_nil))))
theorem m39_run : ranTo (evCall (cxX Tryd.prog bad [((-9223372036854775808), 9223372036854775807), ((-9223372036854775808), 9223372036854775807), ((-9223372036854775808), 9223372036854775807), (8, 59)] [] ((44, pureFn l5) :: q0)) 1000 60 21 m39.args m39.h) m39.v m39.h' = true := by kernel_rfl
theorem m39_ok {σ : Nat → Int} {W0 : World} (hL : L0 W0) (hk : Known2 σ [((-9223372036854775808), 9223372036854775807), ((-9223372036854775808), 9223372036854775807), ((-9223372036854775808), 9223372036854775807), (8, 59)] []) : MemoOk Tryd.prog 4095 σ W0 21 m39 := memo_ok fit hk (FnsOk.cons (pure_fn_ok (l5_ok hL)) ((q0_ok hL))) m39_run
theorem run19 : isTrue (evCall (cxX Tryd.prog bad [((-9223372036854775808), 9223372036854775807), ((-9223372036854775808), 9223372036854775807), ((-9223372036854775808), 9223372036854775807), (8, 59)] [] ((6, numExtE [(0, 10, .lit 1), (1, 60, .var 3), (2, 4, .lit 3)]) :: (21, frameFn [m32, m39]) :: q12)) 1000 60 3 [.int .i64 (.var 0), .int .i64 (.var 1), .int .i64 (.var 2)] (sentH 240 18 errTab)) = true := by kernel_rfl
theorem case19 {σ : Nat → Int} {W : World} (hL : L0 W) (hk : Known2 σ [((-9223372036854775808), 9223372036854775807), ((-9223372036854775808), 9223372036854775807), ((-9223372036854775808), 9223372036854775807), (8, 59)] []) (hT : TabOk Tryd.prog bad 6 σ [(0, 10, .lit 1), (1, 60, .var 3), (2, 4, .lit 3)]) {xs : Array Value} (hv : ∀ ρ, VRs σ ρ [.int .i64 (.var 0), .int .i64 (.var 1), .int .i64 (.var 2)] xs.toList) : Calls Tryd.prog 3 xs W fun e w' => e = .returned (.bool true) ∧ Below W.heap.size W w' := by
  obtain ⟨ads, h1, h2, h3⟩ := errs_sents hL
  exact law_case_x fit h1 h2 h3 errs_all errs_lt (by kernel_rfl) hk (FnsOk.cons (hT.ok fit) (FnsOk.cons (frame_fn_ok (all_cons (m32_ok hL hk) (all_cons (m39_ok hL hk) (all_nil)))) ((q12_ok hL)))) hv ⟨_, Tryd.func3, rfl⟩ run19
noncomputable def h44 : H := hUpd h13 39 [] [] []
noncomputable def m40 : Memo := ⟨[], h44, .agg [I 16, I 24, I 8, I 12, I 8, I 6], h2⟩
theorem m40_run : ranTo (evCall (cxX Tryd.prog bad [] [] q0) 1000 60 8 m40.args m40.h) m40.v m40.h' = true := by kernel_rfl
theorem m40_ok {σ : Nat → Int} {W0 : World} (hL : L0 W0) : MemoOk Tryd.prog 4095 σ W0 8 m40 := memo_ok fit (Known2.nil σ) ((q0_ok hL)) m40_run
noncomputable def q15 : Fns := [(5, pureFn [p0]), (8, frameFn [m40]), (21, frameFn [m2]), (51, itoaFn), (114, countFn), (129, indexFn)]
theorem q15_ok {σ : Nat → Int} {W0 : World} (hL : L0 W0) : FnsOk Tryd.prog 4095 σ W0 q15 := FnsOk.cons (pure_fn_ok (all_cons (p0_ok hL) (all_nil))) (FnsOk.cons (frame_fn_ok (all_cons (m40_ok hL) (all_nil))) (FnsOk.cons (frame_fn_ok (all_cons (m2_ok hL) (all_nil))) (FnsOk.cons (ext_itoa hL) (FnsOk.cons (ext_count hL) (FnsOk.cons (ext_index hL) (FnsOk.nil))))))
theorem run20 : isTrue (evCall (cxX Tryd.prog bad [] [] ((6, numExtE [(0, 10, .lit 2), (1, 60, .lit 0)]) :: q15)) 1000 60 3 [.int .i64 (.var 0), .int .i64 (.var 1), .int .i64 (.var 2)] (sentH 240 18 errTab)) = true := by kernel_rfl
theorem case20 {σ : Nat → Int} {W : World} (hL : L0 W) (hk : Known2 σ [] []) (hT : TabOk Tryd.prog bad 6 σ [(0, 10, .lit 2), (1, 60, .lit 0)]) {xs : Array Value} (hv : ∀ ρ, VRs σ ρ [.int .i64 (.var 0), .int .i64 (.var 1), .int .i64 (.var 2)] xs.toList) : Calls Tryd.prog 3 xs W fun e w' => e = .returned (.bool true) ∧ Below W.heap.size W w' := by
  obtain ⟨ads, h1, h2, h3⟩ := errs_sents hL
  exact law_case_x fit h1 h2 h3 errs_all errs_lt (by kernel_rfl) hk (FnsOk.cons (hT.ok fit) ((q15_ok hL))) hv ⟨_, Tryd.func3, rfl⟩ run20
noncomputable def q16 : Fns := [(5, pureFn [p0]), (8, frameFn [m40]), (21, frameFn [m3]), (51, itoaFn), (114, countFn), (129, indexFn)]
theorem q16_ok {σ : Nat → Int} {W0 : World} (hL : L0 W0) : FnsOk Tryd.prog 4095 σ W0 q16 := FnsOk.cons (pure_fn_ok (all_cons (p0_ok hL) (all_nil))) (FnsOk.cons (frame_fn_ok (all_cons (m40_ok hL) (all_nil))) (FnsOk.cons (frame_fn_ok (all_cons (m3_ok hL) (all_nil))) (FnsOk.cons (ext_itoa hL) (FnsOk.cons (ext_count hL) (FnsOk.cons (ext_index hL) (FnsOk.nil))))))
theorem run21 : isTrue (evCall (cxX Tryd.prog bad [] [] ((6, numExtE [(0, 10, .lit 2), (1, 60, .lit 1)]) :: q16)) 1000 60 3 [.int .i64 (.var 0), .int .i64 (.var 1), .int .i64 (.var 2)] (sentH 240 18 errTab)) = true := by kernel_rfl
theorem case21 {σ : Nat → Int} {W : World} (hL : L0 W) (hk : Known2 σ [] []) (hT : TabOk Tryd.prog bad 6 σ [(0, 10, .lit 2), (1, 60, .lit 1)]) {xs : Array Value} (hv : ∀ ρ, VRs σ ρ [.int .i64 (.var 0), .int .i64 (.var 1), .int .i64 (.var 2)] xs.toList) : Calls Tryd.prog 3 xs W fun e w' => e = .returned (.bool true) ∧ Below W.heap.size W w' := by
  obtain ⟨ads, h1, h2, h3⟩ := errs_sents hL
  exact law_case_x fit h1 h2 h3 errs_all errs_lt (by kernel_rfl) hk (FnsOk.cons (hT.ok fit) ((q16_ok hL))) hv ⟨_, Tryd.func3, rfl⟩ run21
noncomputable def q17 : Fns := [(5, pureFn [p0]), (8, frameFn [m40]), (21, frameFn [m6]), (51, itoaFn), (114, countFn), (129, indexFn)]
theorem q17_ok {σ : Nat → Int} {W0 : World} (hL : L0 W0) : FnsOk Tryd.prog 4095 σ W0 q17 := FnsOk.cons (pure_fn_ok (all_cons (p0_ok hL) (all_nil))) (FnsOk.cons (frame_fn_ok (all_cons (m40_ok hL) (all_nil))) (FnsOk.cons (frame_fn_ok (all_cons (m6_ok hL) (all_nil))) (FnsOk.cons (ext_itoa hL) (FnsOk.cons (ext_count hL) (FnsOk.cons (ext_index hL) (FnsOk.nil))))))
theorem run22 : isTrue (evCall (cxX Tryd.prog bad [] [] ((6, numExtE [(0, 10, .lit 2), (1, 60, .lit 2)]) :: q17)) 1000 60 3 [.int .i64 (.var 0), .int .i64 (.var 1), .int .i64 (.var 2)] (sentH 240 18 errTab)) = true := by kernel_rfl
theorem case22 {σ : Nat → Int} {W : World} (hL : L0 W) (hk : Known2 σ [] []) (hT : TabOk Tryd.prog bad 6 σ [(0, 10, .lit 2), (1, 60, .lit 2)]) {xs : Array Value} (hv : ∀ ρ, VRs σ ρ [.int .i64 (.var 0), .int .i64 (.var 1), .int .i64 (.var 2)] xs.toList) : Calls Tryd.prog 3 xs W fun e w' => e = .returned (.bool true) ∧ Below W.heap.size W w' := by
  obtain ⟨ads, h1, h2, h3⟩ := errs_sents hL
  exact law_case_x fit h1 h2 h3 errs_all errs_lt (by kernel_rfl) hk (FnsOk.cons (hT.ok fit) ((q17_ok hL))) hv ⟨_, Tryd.func3, rfl⟩ run22
noncomputable def q18 : Fns := [(5, pureFn [p0]), (8, frameFn [m40]), (21, frameFn [m7]), (51, itoaFn), (114, countFn), (129, indexFn)]
theorem q18_ok {σ : Nat → Int} {W0 : World} (hL : L0 W0) : FnsOk Tryd.prog 4095 σ W0 q18 := FnsOk.cons (pure_fn_ok (all_cons (p0_ok hL) (all_nil))) (FnsOk.cons (frame_fn_ok (all_cons (m40_ok hL) (all_nil))) (FnsOk.cons (frame_fn_ok (all_cons (m7_ok hL) (all_nil))) (FnsOk.cons (ext_itoa hL) (FnsOk.cons (ext_count hL) (FnsOk.cons (ext_index hL) (FnsOk.nil))))))
theorem run23 : isTrue (evCall (cxX Tryd.prog bad [] [] ((6, numExtE [(0, 10, .lit 2), (1, 60, .lit 3)]) :: q18)) 1000 60 3 [.int .i64 (.var 0), .int .i64 (.var 1), .int .i64 (.var 2)] (sentH 240 18 errTab)) = true := by kernel_rfl
theorem case23 {σ : Nat → Int} {W : World} (hL : L0 W) (hk : Known2 σ [] []) (hT : TabOk Tryd.prog bad 6 σ [(0, 10, .lit 2), (1, 60, .lit 3)]) {xs : Array Value} (hv : ∀ ρ, VRs σ ρ [.int .i64 (.var 0), .int .i64 (.var 1), .int .i64 (.var 2)] xs.toList) : Calls Tryd.prog 3 xs W fun e w' => e = .returned (.bool true) ∧ Below W.heap.size W w' := by
  obtain ⟨ads, h1, h2, h3⟩ := errs_sents hL
  exact law_case_x fit h1 h2 h3 errs_all errs_lt (by kernel_rfl) hk (FnsOk.cons (hT.ok fit) ((q18_ok hL))) hv ⟨_, Tryd.func3, rfl⟩ run23
noncomputable def q19 : Fns := [(5, pureFn [p0]), (8, frameFn [m40]), (51, itoaFn), (114, countFn), (129, indexFn)]
theorem q19_ok {σ : Nat → Int} {W0 : World} (hL : L0 W0) : FnsOk Tryd.prog 4095 σ W0 q19 := FnsOk.cons (pure_fn_ok (all_cons (p0_ok hL) (all_nil))) (FnsOk.cons (frame_fn_ok (all_cons (m40_ok hL) (all_nil))) (FnsOk.cons (ext_itoa hL) (FnsOk.cons (ext_count hL) (FnsOk.cons (ext_index hL) (FnsOk.nil)))))
theorem run24 : isTrue (evCall (cxX Tryd.prog bad [] [] ((6, numExtE [(0, 10, .lit 2), (1, 60, .lit 4)]) :: (21, frameFn [m22, m23]) :: q19)) 1000 60 3 [.int .i64 (.var 0), .int .i64 (.var 1), .int .i64 (.var 2)] (sentH 240 18 errTab)) = true := by kernel_rfl
theorem case24 {σ : Nat → Int} {W : World} (hL : L0 W) (hk : Known2 σ [] []) (hT : TabOk Tryd.prog bad 6 σ [(0, 10, .lit 2), (1, 60, .lit 4)]) {xs : Array Value} (hv : ∀ ρ, VRs σ ρ [.int .i64 (.var 0), .int .i64 (.var 1), .int .i64 (.var 2)] xs.toList) : Calls Tryd.prog 3 xs W fun e w' => e = .returned (.bool true) ∧ Below W.heap.size W w' := by
  obtain ⟨ads, h1, h2, h3⟩ := errs_sents hL
  exact law_case_x fit h1 h2 h3 errs_all errs_lt (by kernel_rfl) hk (FnsOk.cons (hT.ok fit) (FnsOk.cons (frame_fn_ok (all_cons (m22_ok hL) (all_cons (m23_ok hL) (all_nil)))) ((q19_ok hL)))) hv ⟨_, Tryd.func3, rfl⟩ run24
theorem run25 : isTrue (evCall (cxX Tryd.prog bad [] [] ((6, numExtE [(0, 10, .lit 2), (1, 60, .lit 5)]) :: (21, frameFn [m24, m25]) :: q19)) 1000 60 3 [.int .i64 (.var 0), .int .i64 (.var 1), .int .i64 (.var 2)] (sentH 240 18 errTab)) = true := by kernel_rfl
theorem case25 {σ : Nat → Int} {W : World} (hL : L0 W) (hk : Known2 σ [] []) (hT : TabOk Tryd.prog bad 6 σ [(0, 10, .lit 2), (1, 60, .lit 5)]) {xs : Array Value} (hv : ∀ ρ, VRs σ ρ [.int .i64 (.var 0), .int .i64 (.var 1), .int .i64 (.var 2)] xs.toList) : Calls Tryd.prog 3 xs W fun e w' => e = .returned (.bool true) ∧ Below W.heap.size W w' := by
  obtain ⟨ads, h1, h2, h3⟩ := errs_sents hL
  exact law_case_x fit h1 h2 h3 errs_all errs_lt (by kernel_rfl) hk (FnsOk.cons (hT.ok fit) (FnsOk.cons (frame_fn_ok (all_cons (m24_ok hL) (all_cons (m25_ok hL) (all_nil)))) ((q19_ok hL)))) hv ⟨_, Tryd.func3, rfl⟩ run25
theorem run26 : isTrue (evCall (cxX Tryd.prog bad [] [] ((6, numExtE [(0, 10, .lit 2), (1, 60, .lit 6)]) :: (21, frameFn [m26, m29]) :: q19)) 1000 60 3 [.int .i64 (.var 0), .int .i64 (.var 1), .int .i64 (.var 2)] (sentH 240 18 errTab)) = true := by kernel_rfl
theorem case26 {σ : Nat → Int} {W : World} (hL : L0 W) (hk : Known2 σ [] []) (hT : TabOk Tryd.prog bad 6 σ [(0, 10, .lit 2), (1, 60, .lit 6)]) {xs : Array Value} (hv : ∀ ρ, VRs σ ρ [.int .i64 (.var 0), .int .i64 (.var 1), .int .i64 (.var 2)] xs.toList) : Calls Tryd.prog 3 xs W fun e w' => e = .returned (.bool true) ∧ Below W.heap.size W w' := by
  obtain ⟨ads, h1, h2, h3⟩ := errs_sents hL
  exact law_case_x fit h1 h2 h3 errs_all errs_lt (by kernel_rfl) hk (FnsOk.cons (hT.ok fit) (FnsOk.cons (frame_fn_ok (all_cons (m26_ok hL) (all_cons (m29_ok hL) (all_nil)))) ((q19_ok hL)))) hv ⟨_, Tryd.func3, rfl⟩ run26
theorem run27 : isTrue (evCall (cxX Tryd.prog bad [] [] ((6, numExtE [(0, 10, .lit 2), (1, 60, .lit 7)]) :: (21, frameFn [m30, m31]) :: q19)) 1000 60 3 [.int .i64 (.var 0), .int .i64 (.var 1), .int .i64 (.var 2)] (sentH 240 18 errTab)) = true := by kernel_rfl
theorem case27 {σ : Nat → Int} {W : World} (hL : L0 W) (hk : Known2 σ [] []) (hT : TabOk Tryd.prog bad 6 σ [(0, 10, .lit 2), (1, 60, .lit 7)]) {xs : Array Value} (hv : ∀ ρ, VRs σ ρ [.int .i64 (.var 0), .int .i64 (.var 1), .int .i64 (.var 2)] xs.toList) : Calls Tryd.prog 3 xs W fun e w' => e = .returned (.bool true) ∧ Below W.heap.size W w' := by
  obtain ⟨ads, h1, h2, h3⟩ := errs_sents hL
  exact law_case_x fit h1 h2 h3 errs_all errs_lt (by kernel_rfl) hk (FnsOk.cons (hT.ok fit) (FnsOk.cons (frame_fn_ok (all_cons (m30_ok hL) (all_cons (m31_ok hL) (all_nil)))) ((q19_ok hL)))) hv ⟨_, Tryd.func3, rfl⟩ run27
noncomputable def h45 : H := hUpd h5 343 [] [] [(303, 0, [IZ (-1), I 8, I 0])]
noncomputable def h46 : H := hUpd h12 818 [] [] [(303, 0, [IZ (-1), I 8, I 4])]
noncomputable def m41 : Memo := ⟨[.ptr 311 0, .agg [.slice 30 0 1 1 1 true, I 1, .snil, bF]], h45, .tuple [I 0, .inil], h46⟩
theorem m41_run : ranTo (evCall (cxX Tryd.prog bad [] [] ((44, pureFn l0) :: q0)) 1000 60 21 m41.args m41.h) m41.v m41.h' = true := by kernel_rfl
theorem m41_ok {σ : Nat → Int} {W0 : World} (hL : L0 W0) : MemoOk Tryd.prog 4095 σ W0 21 m41 := memo_ok fit (Known2.nil σ) (FnsOk.cons (pure_fn_ok (l0_ok hL)) ((q0_ok hL))) m41_run
noncomputable def h47 : H := hUpd h22 821 [] [] [(303, 0, [IZ (-1), I 8, I 4])]
noncomputable def h48 : H := hUpd h37 1296 [] [] [(303, 0, [IZ (-1), I 8, I 8])]
noncomputable def m42 : Memo := ⟨[.ptr 311 0, .agg [.slice 33 0 1 1 1 true, I 1, .snil, bF]], h47, .tuple [I 1, .inil], h48⟩
theorem m42_run : ranTo (evCall (cxX Tryd.prog bad [] [] ((44, pureFn l3) :: q0)) 1000 60 21 m42.args m42.h) m42.v m42.h' = true := by kernel_rfl
theorem m42_ok {σ : Nat → Int} {W0 : World} (hL : L0 W0) : MemoOk Tryd.prog 4095 σ W0 21 m42 := memo_ok fit (Known2.nil σ) (FnsOk.cons (pure_fn_ok (l3_ok hL)) ((q0_ok hL))) m42_run
noncomputable def h49 : H := hUpd h40 1299 [33] [] [(36, 0, [U 2]),
  (303, 0, [IZ (-1), I 8, I 8])]
noncomputable def h50 : H := hUpd h49 1330 [] [] []
noncomputable def m43 : Memo := ⟨[.ptr 311 0, .agg [.slice 36 0 1 1 1 true, I 1, .snil, bF]], h49, .tuple [I 0, .iface 240 (.ptr 24 0)], h50⟩
theorem m43_run : ranTo (evCall (cxX Tryd.prog bad [] [] q0) 1000 60 21 m43.args m43.h) m43.v m43.h' = true := by kernel_rfl
theorem m43_ok {σ : Nat → Int} {W0 : World} (hL : L0 W0) : MemoOk Tryd.prog 4095 σ W0 21 m43 := memo_ok fit (Known2.nil σ) ((q0_ok hL)) m43_run
theorem run28 : isTrue (evCall (cxX Tryd.prog bad [] [] ((6, numExtE [(0, 10, .lit 2), (1, 60, .lit 8)]) :: (21, frameFn [m41, m42, m43]) :: q19)) 1000 60 3 [.int .i64 (.var 0), .int .i64 (.var 1), .int .i64 (.var 2)] (sentH 240 18 errTab)) = true := by kernel_rfl
theorem case28 {σ : Nat → Int} {W : World} (hL : L0 W) (hk : Known2 σ [] []) (hT : TabOk Tryd.prog bad 6 σ [(0, 10, .lit 2), (1, 60, .lit 8)]) {xs : Array Value} (hv : ∀ ρ, VRs σ ρ [.int .i64 (.var 0), .int .i64 (.var 1), .int .i64 (.var 2)] xs.toList) : Calls Tryd.prog 3 xs W fun e w' => e = .returned (.bool true) ∧ Below W.heap.size W w' := by
  obtain ⟨ads, h1, h2, h3⟩ := errs_sents hL
  exact law_case_x fit h1 h2 h3 errs_all errs_lt (by kernel_rfl) hk (FnsOk.cons (hT.ok fit) (FnsOk.cons (frame_fn_ok (all_cons (m41_ok hL) (all_cons (m42_ok hL) (all_cons (m43_ok hL) (all_nil))))) ((q19_ok hL)))) hv ⟨_, Tryd.func3, rfl⟩ run28
noncomputable def h51 : H := hUpd h11 343 [] [] [(303, 0, [IZ (-1), I 9, I 0])]
noncomputable def h52 : H := hUpd h12 818 [] [] [(303, 0, [IZ (-1), I 9, I 4])]
noncomputable def m44 : Memo := ⟨[.ptr 311 0, .agg [.slice 30 0 1 1 1 true, I 1, .snil, bF]], h51, .tuple [I 0, .inil], h52⟩
theorem m44_run : ranTo (evCall (cxX Tryd.prog bad [] [] ((44, pureFn l0) :: q0)) 1000 60 21 m44.args m44.h) m44.v m44.h' = true := by kernel_rfl
theorem m44_ok {σ : Nat → Int} {W0 : World} (hL : L0 W0) : MemoOk Tryd.prog 4095 σ W0 21 m44 := memo_ok fit (Known2.nil σ) (FnsOk.cons (pure_fn_ok (l0_ok hL)) ((q0_ok hL))) m44_run
noncomputable def h53 : H := hUpd h22 821 [] [] [(303, 0, [IZ (-1), I 9, I 4])]
noncomputable def h54 : H := hUpd h37 1296 [] [] [(303, 0, [IZ (-1), I 9, I 8])]
noncomputable def m45 : Memo := ⟨[.ptr 311 0, .agg [.slice 33 0 1 1 1 true, I 1, .snil, bF]], h53, .tuple [I 1, .inil], h54⟩
theorem m45_run : ranTo (evCall (cxX Tryd.prog bad [] [] ((44, pureFn l3) :: q0)) 1000 60 21 m45.args m45.h) m45.v m45.h' = true := by kernel_rfl
theorem m45_ok {σ : Nat → Int} {W0 : World} (hL : L0 W0) : MemoOk Tryd.prog 4095 σ W0 21 m45 := memo_ok fit (Known2.nil σ) (FnsOk.cons (pure_fn_ok (l3_ok hL)) ((q0_ok hL))) m45_run
noncomputable def h55 : H := hUpd h49 1299 [] [] [(303, 0, [IZ (-1), I 9, I 8])]
noncomputable def h56 : H := hUpc h49 1393 [] [(304, .map [(.agg [I 3, I 0], .agg [I 0, I 0], 0), (.agg [I 3, I 1], .agg [I 0, I 0], 1), (.agg [I 2, I 0], .agg [I 0, I 0], 2), (.agg [I 4, I 0], .agg [I 0, I 0], 3), (.agg [I 3, I 2], .agg [I 0, I 0], 4), (.agg [I 3, I 3], .agg [I 0, I 0], 5), (.agg [I 2, I 1], .agg [I 0, I 0], 6), (.agg [I 4, I 1], .agg [I 0, I 0], 7), (.agg [I 3, I 4], .agg [I 0, I 0], 8)] 9)] [(262, 4, [bT, I 0, bF]),
  (303, 0, [IZ (-1), I 9, I 9])] [(264, 4, 0, U 2)]
noncomputable def m46 : Memo := ⟨[.ptr 311 0, .agg [.slice 36 0 1 1 1 true, I 1, .snil, bF]], h55, .tuple [I 0, .iface 240 (.ptr 24 0)], h56⟩
theorem m46_run : ranTo (evCall (cxX Tryd.prog bad [] [] q0) 1000 60 21 m46.args m46.h) m46.v m46.h' = true := by kernel_rfl
theorem m46_ok {σ : Nat → Int} {W0 : World} (hL : L0 W0) : MemoOk Tryd.prog 4095 σ W0 21 m46 := memo_ok fit (Known2.nil σ) ((q0_ok hL)) m46_run
theorem run29 : isTrue (evCall (cxX Tryd.prog bad [] [] ((6, numExtE [(0, 10, .lit 2), (1, 60, .lit 9)]) :: (21, frameFn [m44, m45, m46]) :: q19)) 1000 60 3 [.int .i64 (.var 0), .int .i64 (.var 1), .int .i64 (.var 2)] (sentH 240 18 errTab)) = true := by kernel_rfl
theorem case29 {σ : Nat → Int} {W : World} (hL : L0 W) (hk : Known2 σ [] []) (hT : TabOk Tryd.prog bad 6 σ [(0, 10, .lit 2), (1, 60, .lit 9)]) {xs : Array Value} (hv : ∀ ρ, VRs σ ρ [.int .i64 (.var 0), .int .i64 (.var 1), .int .i64 (.var 2)] xs.toList) : Calls Tryd.prog 3 xs W fun e w' => e = .returned (.bool true) ∧ Below W.heap.size W w' := by
  obtain ⟨ads, h1, h2, h3⟩ := errs_sents hL
  exact law_case_x fit h1 h2 h3 errs_all errs_lt (by kernel_rfl) hk (FnsOk.cons (hT.ok fit) (FnsOk.cons (frame_fn_ok (all_cons (m44_ok hL) (all_cons (m45_ok hL) (all_cons (m46_ok hL) (all_nil))))) ((q19_ok hL)))) hv ⟨_, Tryd.func3, rfl⟩ run29
noncomputable def h57 : H := hUpd h20 343 [] [] [(303, 0, [IZ (-1), I 10, I 0])]
noncomputable def h58 : H := hUpd h21 818 [] [] [(303, 0, [IZ (-1), I 10, I 4])]
noncomputable def m47 : Memo := ⟨[.ptr 311 0, .agg [.slice 30 0 1 1 1 true, I 1, .snil, bF]], h57, .tuple [I 0, .inil], h58⟩
theorem m47_run : ranTo (evCall (cxX Tryd.prog bad [] [] ((44, pureFn l0) :: q0)) 1000 60 21 m47.args m47.h) m47.v m47.h' = true := by kernel_rfl
theorem m47_ok {σ : Nat → Int} {W0 : World} (hL : L0 W0) : MemoOk Tryd.prog 4095 σ W0 21 m47 := memo_ok fit (Known2.nil σ) (FnsOk.cons (pure_fn_ok (l0_ok hL)) ((q0_ok hL))) m47_run
noncomputable def h59 : H := hUpd h22 821 [] [] [(303, 0, [IZ (-1), I 10, I 4])]
noncomputable def h60 : H := hUpd h37 1296 [] [] [(303, 0, [IZ (-1), I 10, I 8])]
noncomputable def m48 : Memo := ⟨[.ptr 311 0, .agg [.slice 33 0 1 1 1 true, I 1, .snil, bF]], h59, .tuple [I 1, .inil], h60⟩
theorem m48_run : ranTo (evCall (cxX Tryd.prog bad [] [] ((44, pureFn l3) :: q0)) 1000 60 21 m48.args m48.h) m48.v m48.h' = true := by kernel_rfl
theorem m48_ok {σ : Nat → Int} {W0 : World} (hL : L0 W0) : MemoOk Tryd.prog 4095 σ W0 21 m48 := memo_ok fit (Known2.nil σ) (FnsOk.cons (pure_fn_ok (l3_ok hL)) ((q0_ok hL))) m48_run
noncomputable def p49 : Pur := ([.agg [I 3, I 4, I 0, I 0, U 0]], .inil, 1048576)
theorem p49_run : ranPure (evCall (cxX Tryd.prog bad [] [] q0) 1000 60 44 p49.1 ⟨.lf, p49.2.2⟩) p49.2.1 = true := by kernel_rfl
theorem p49_ok {σ : Nat → Int} {W0 : World} (hL : L0 W0) : PureOk Tryd.prog 4095 σ W0 44 p49 := pure_ok fit (Known2.nil σ) ((q0_ok hL)) p49_run
noncomputable def p50 : Pur := ([.agg [I 3, I 5, I 0, I 0, U 0]], .inil, 1048576)
theorem p50_run : ranPure (evCall (cxX Tryd.prog bad [] [] q0) 1000 60 44 p50.1 ⟨.lf, p50.2.2⟩) p50.2.1 = true := by kernel_rfl
theorem p50_ok {σ : Nat → Int} {W0 : World} (hL : L0 W0) : PureOk Tryd.prog 4095 σ W0 44 p50 := pure_ok fit (Known2.nil σ) ((q0_ok hL)) p50_run
noncomputable def h61 : H := hUpd h49 1299 [] [] [(303, 0, [IZ (-1), I 10, I 8])]
noncomputable def h62 : H := hUpd h56 1504 [] [(304, .map [(.agg [I 3, I 0], .agg [I 0, I 0], 0), (.agg [I 3, I 1], .agg [I 0, I 0], 1), (.agg [I 2, I 0], .agg [I 0, I 0], 2), (.agg [I 4, I 0], .agg [I 0, I 0], 3), (.agg [I 3, I 2], .agg [I 0, I 0], 4), (.agg [I 3, I 3], .agg [I 0, I 0], 5), (.agg [I 2, I 1], .agg [I 0, I 0], 6), (.agg [I 4, I 1], .agg [I 0, I 0], 7), (.agg [I 3, I 4], .agg [I 0, I 0], 8), (.agg [I 3, I 5], .agg [I 0, I 0], 9)] 10)] [(262, 5, [bT, I 0, bF]),
  (303, 0, [IZ (-1), I 10, I 10])]
noncomputable def m51 : Memo := ⟨[.ptr 311 0, .agg [.slice 36 0 1 1 1 true, I 1, .snil, bF]], h61, .tuple [I 0, .iface 240 (.ptr 24 0)], h62⟩
theorem m51_run : ranTo (evCall (cxX Tryd.prog bad [] [] ((44, pureFn [p49, p50]) :: q0)) 1000 60 21 m51.args m51.h) m51.v m51.h' = true := by kernel_rfl
theorem m51_ok {σ : Nat → Int} {W0 : World} (hL : L0 W0) : MemoOk Tryd.prog 4095 σ W0 21 m51 := memo_ok fit (Known2.nil σ) (FnsOk.cons (pure_fn_ok (all_cons (p49_ok hL) (all_cons (p50_ok hL) (all_nil)))) ((q0_ok hL))) m51_run
theorem run30 : isTrue (evCall (cxX Tryd.prog bad [] [] ((6, numExtE [(0, 10, .lit 2), (1, 60, .lit 10)]) :: (21, frameFn [m47, m48, m51]) :: q19)) 1000 60 3 [.int .i64 (.var 0), .int .i64 (.var 1), .int .i64 (.var 2)] (sentH 240 18 errTab)) = true := by kernel_rfl
theorem case30 {σ : Nat → Int} {W : World} (hL : L0 W) (hk : Known2 σ [] []) (hT : TabOk Tryd.prog bad 6 σ [(0, 10, .lit 2), (1, 60, .lit 10)]) {xs : Array Value} (hv : ∀ ρ, VRs σ ρ [.int .i64 (.var 0), .int .i64 (.var 1), .int .i64 (.var 2)] xs.toList) : Calls Tryd.prog 3 xs W fun e w' => e = .returned (.bool true) ∧ Below W.heap.size W w' := by
  obtain ⟨ads, h1, h2, h3⟩ := errs_sents hL
  exact law_case_x fit h1 h2 h3 errs_all errs_lt (by kernel_rfl) hk (FnsOk.cons (hT.ok fit) (FnsOk.cons (frame_fn_ok (all_cons (m47_ok hL) (all_cons (m48_ok hL) (all_cons (m51_ok hL) (all_nil))))) ((q19_ok hL)))) hv ⟨_, Tryd.func3, rfl⟩ run30
noncomputable def h63 : H := hUpd h24 343 [] [] [(303, 0, [IZ (-1), I 11, I 0])]
noncomputable def h64 : H := hUpd h25 818 [] [] [(303, 0, [IZ (-1), I 11, I 4])]
noncomputable def m52 : Memo := ⟨[.ptr 311 0, .agg [.slice 30 0 1 1 1 true, I 1, .snil, bF]], h63, .tuple [I 0, .inil], h64⟩
theorem m52_run : ranTo (evCall (cxX Tryd.prog bad [] [] ((44, pureFn l0) :: q0)) 1000 60 21 m52.args m52.h) m52.v m52.h' = true := by kernel_rfl
theorem m52_ok {σ : Nat → Int} {W0 : World} (hL : L0 W0) : MemoOk Tryd.prog 4095 σ W0 21 m52 := memo_ok fit (Known2.nil σ) (FnsOk.cons (pure_fn_ok (l0_ok hL)) ((q0_ok hL))) m52_run
noncomputable def h65 : H := hUpd h26 821 [] [] [(303, 0, [IZ (-1), I 11, I 4])]
noncomputable def h66 : H := hUpd h37 1296 [] [] [(303, 0, [IZ (-1), I 11, I 8])]
noncomputable def m53 : Memo := ⟨[.ptr 311 0, .agg [.slice 33 0 1 1 1 true, I 1, .snil, bF]], h65, .tuple [I 1, .inil], h66⟩
theorem m53_run : ranTo (evCall (cxX Tryd.prog bad [] [] ((44, pureFn l3) :: q0)) 1000 60 21 m53.args m53.h) m53.v m53.h' = true := by kernel_rfl
theorem m53_ok {σ : Nat → Int} {W0 : World} (hL : L0 W0) : MemoOk Tryd.prog 4095 σ W0 21 m53 := memo_ok fit (Known2.nil σ) (FnsOk.cons (pure_fn_ok (l3_ok hL)) ((q0_ok hL))) m53_run
noncomputable def h67 : H := hUpd h49 1299 [] [] [(303, 0, [IZ (-1), I 11, I 8])]
noncomputable def h68 : H := hUpc h62 1567 [] [(304, .map [(.agg [I 3, I 0], .agg [I 0, I 0], 0), (.agg [I 3, I 1], .agg [I 0, I 0], 1), (.agg [I 2, I 0], .agg [I 0, I 0], 2), (.agg [I 4, I 0], .agg [I 0, I 0], 3), (.agg [I 3, I 2], .agg [I 0, I 0], 4), (.agg [I 3, I 3], .agg [I 0, I 0], 5), (.agg [I 2, I 1], .agg [I 0, I 0], 6), (.agg [I 4, I 1], .agg [I 0, I 0], 7), (.agg [I 3, I 4], .agg [I 0, I 0], 8), (.agg [I 3, I 5], .agg [I 0, I 0], 9), (.agg [I 2, I 2], .agg [I 0, I 0], 10)] 11)] [(258, 2, [bT, I 0, bF]),
  (303, 0, [IZ (-1), I 11, I 11])] [(260, 2, 0, I 3), (260, 2, 1, I 4), (260, 2, 5, I 3), (260, 2, 6, I 5)]
noncomputable def m54 : Memo := ⟨[.ptr 311 0, .agg [.slice 36 0 1 1 1 true, I 1, .snil, bF]], h67, .tuple [I 0, .iface 240 (.ptr 24 0)], h68⟩
theorem m54_run : ranTo (evCall (cxX Tryd.prog bad [] [] ((44, pureFn [p49, p50]) :: q0)) 1000 60 21 m54.args m54.h) m54.v m54.h' = true := by kernel_rfl
theorem m54_ok {σ : Nat → Int} {W0 : World} (hL : L0 W0) : MemoOk Tryd.prog 4095 σ W0 21 m54 := memo_ok fit (Known2.nil σ) (FnsOk.cons (pure_fn_ok (all_cons (p49_ok hL) (all_cons (p50_ok hL) (all_nil)))) ((q0_ok hL))) m54_run
theorem run31 : isTrue (evCall (cxX Tryd.prog bad [] [] ((6, numExtE [(0, 10, .lit 2), (1, 60, .lit 11)]) :: (21, frameFn [m52, m53, m54]) :: q19)) 1000 60 3 [.int .i64 (.var 0), .int .i64 (.var 1), .int .i64 (.var 2)] (sentH 240 18 errTab)) = true := by kernel_rfl
theorem case31 {σ : Nat → Int} {W : World} (hL : L0 W) (hk : Known2 σ [] []) (hT : TabOk Tryd.prog bad 6 σ [(0, 10, .lit 2), (1, 60, .lit 11)]) {xs : Array Value} (hv : ∀ ρ, VRs σ ρ [.int .i64 (.var 0), .int .i64 (.var 1), .int .i64 (.var 2)] xs.toList) : Calls Tryd.prog 3 xs W fun e w' => e = .returned (.bool true) ∧ Below W.heap.size W w' := by
  obtain ⟨ads, h1, h2, h3⟩ := errs_sents hL
  exact law_case_x fit h1 h2 h3 errs_all errs_lt (by kernel_rfl) hk (FnsOk.cons (hT.ok fit) (FnsOk.cons (frame_fn_ok (all_cons (m52_ok hL) (all_cons (m53_ok hL) (all_cons (m54_ok hL) (all_nil))))) ((q19_ok hL)))) hv ⟨_, Tryd.func3, rfl⟩ run31
noncomputable def m55 : Memo := ⟨[.ptr 311 0, .agg [.slice 30 0 1 1 1 true, I 1, .snil, bF]], h11, .tuple [I 0, .inil], h12⟩
theorem m55_run : ranTo (evCall (cxX Tryd.prog bad [((-9223372036854775808), 9223372036854775807), ((-9223372036854775808), 9223372036854775807), ((-9223372036854775808), 9223372036854775807), (12, 59)] [] ((44, pureFn l0) :: q0)) 1000 60 21 m55.args m55.h) m55.v m55.h' = true := by kernel_rfl
theorem m55_ok {σ : Nat → Int} {W0 : World} (hL : L0 W0) (hk : Known2 σ [((-9223372036854775808), 9223372036854775807), ((-9223372036854775808), 9223372036854775807), ((-9223372036854775808), 9223372036854775807), (12, 59)] []) : MemoOk Tryd.prog 4095 σ W0 21 m55 := memo_ok fit hk (FnsOk.cons (pure_fn_ok (l0_ok hL)) ((q0_ok hL))) m55_run
noncomputable def m56 : Memo := ⟨[.ptr 311 0, .agg [.slice 33 0 1 1 1 true, I 1, .snil, bF]], h36, .tuple [I 1, .inil], h37⟩
theorem m56_run : ranTo (evCall (cxX Tryd.prog bad [((-9223372036854775808), 9223372036854775807), ((-9223372036854775808), 9223372036854775807), ((-9223372036854775808), 9223372036854775807), (12, 59)] [] ((44, pureFn l3) :: q0)) 1000 60 21 m56.args m56.h) m56.v m56.h' = true := by kernel_rfl
theorem m56_ok {σ : Nat → Int} {W0 : World} (hL : L0 W0) (hk : Known2 σ [((-9223372036854775808), 9223372036854775807), ((-9223372036854775808), 9223372036854775807), ((-9223372036854775808), 9223372036854775807), (12, 59)] []) : MemoOk Tryd.prog 4095 σ W0 21 m56 := memo_ok fit hk (FnsOk.cons (pure_fn_ok (l3_ok hL)) ((q0_ok hL))) m56_run
noncomputable def p57 : Pur := ([.agg [I 2, I 2, I 0, I 0, U 1]], .inil, 1048576)
theorem p57_run : ranPure (evCall (cxX Tryd.prog bad [] [] q0) 1000 60 44 p57.1 ⟨.lf, p57.2.2⟩) p57.2.1 = true := by kernel_rfl
theorem p57_ok {σ : Nat → Int} {W0 : World} (hL : L0 W0) : PureOk Tryd.prog 4095 σ W0 44 p57 := pure_ok fit (Known2.nil σ) ((q0_ok hL)) p57_run
noncomputable def p58 : Pur := ([.agg [I 7, I 3, I 0, I 0, U 0]], .inil, 1048576)
theorem p58_run : ranPure (evCall (cxX Tryd.prog bad [] [] q0) 1000 60 44 p58.1 ⟨.lf, p58.2.2⟩) p58.2.1 = true := by kernel_rfl
theorem p58_ok {σ : Nat → Int} {W0 : World} (hL : L0 W0) : PureOk Tryd.prog 4095 σ W0 44 p58 := pure_ok fit (Known2.nil σ) ((q0_ok hL)) p58_run
noncomputable def h69 : H := hUpd h40 1299 [33] [] [(36, 0, [U 2])]
noncomputable def h70 : H := hUpc h68 1774 [] [(304, .map [(.agg [I 3, I 0], .agg [I 0, I 0], 0), (.agg [I 3, I 1], .agg [I 0, I 0], 1), (.agg [I 2, I 0], .agg [I 0, I 0], 2), (.agg [I 4, I 0], .agg [I 0, I 0], 3), (.agg [I 3, I 2], .agg [I 0, I 0], 4), (.agg [I 3, I 3], .agg [I 0, I 0], 5), (.agg [I 2, I 1], .agg [I 0, I 0], 6), (.agg [I 4, I 1], .agg [I 0, I 0], 7), (.agg [I 3, I 4], .agg [I 0, I 0], 8), (.agg [I 3, I 5], .agg [I 0, I 0], 9), (.agg [I 2, I 2], .agg [I 0, I 0], 10), (.agg [I 4, I 2], .agg [I 0, I 0], 11)] 12)] [(269, 2, [bT, I 0, bF]),
  (297, 3, [bT, I 0, bF]),
  (299, 3, [I 0, I 1]),
  (303, 0, [IZ (-1), .int .i64 (.var 3), I 12])] [(271, 2, 9, I 1), (271, 2, 11, I 8), (271, 2, 16, I 7), (271, 2, 17, I 3), (271, 2, 21, I 11), (271, 2, 26, I 12), (271, 2, 31, I 13), (271, 2, 36, I 14), (271, 2, 91, I 2), (271, 2, 92, I 2), (271, 2, 95, U 1), (271, 2, 96, I 7), (271, 2, 97, I 3)]
noncomputable def m59 : Memo := ⟨[.ptr 311 0, .agg [.slice 36 0 1 1 1 true, I 1, .snil, bF]], h69, .tuple [I 2, .inil], h70⟩
noncomputable def l6 : List (Pur) := p15 :: p14 :: p13 :: p12 :: p58 :: p10 :: p57 :: p8 :: p50 :: p49 :: []
theorem l6_ok {σ : Nat → Int} {W0 : World} (hL : L0 W0) : ∀ x ∈ l6, PureOk Tryd.prog 4095 σ W0 44 x := all_cons (p15_ok hL) (all_cons (p14_ok hL) (all_cons (p13_ok hL) (all_cons (p12_ok hL) (all_cons (p58_ok hL) (all_cons (p10_ok hL) (all_cons (p57_ok hL) (all_cons (p8_ok hL) (all_cons (p50_ok hL) (all_cons (p49_ok hL) (all_nil))))))))))
theorem m59_run : ranTo (evCall (cxX Tryd.prog bad [((-9223372036854775808), 9223372036854775807), ((-9223372036854775808), 9223372036854775807), ((-9223372036854775808), 9223372036854775807), (12, 59)] [] ((44, pureFn l6) :: q0)) 1000 60 21 m59.args m59.h) m59.v m59.h' = true := by kernel_rfl
theorem m59_ok {σ : Nat → Int} {W0 : World} (hL : L0 W0) (hk : Known2 σ [((-9223372036854775808), 9223372036854775807), ((-9223372036854775808), 9223372036854775807), ((-9223372036854775808), 9223372036854775807), (12, 59)] []) : MemoOk Tryd.prog 4095 σ W0 21 m59 := memo_ok fit hk (FnsOk.cons (pure_fn_ok (l6_ok hL)) ((q0_ok hL))) m59_run
noncomputable def l7 : List (Pur) := p57 :: p58 :: l4
theorem l7_ok {σ : Nat → Int} {W0 : World} (hL : L0 W0) : ∀ x ∈ l7, PureOk Tryd.prog 4095 σ W0 44 x := all_cons (p57_ok hL) (all_cons (p58_ok hL) ((l4_ok hL)))
theorem run32 : isTrue (evCall (cxX Tryd.prog bad [((-9223372036854775808), 9223372036854775807), ((-9223372036854775808), 9223372036854775807), ((-9223372036854775808), 9223372036854775807), (12, 59)] [] ((6, numExtE [(0, 10, .lit 2), (1, 60, .var 3), (2, 4, .lit 0)]) :: (21, frameFn [m55, m56, m59]) :: (44, pureFn l7) :: q19)) 1000 60 3 [.int .i64 (.var 0), .int .i64 (.var 1), .int .i64 (.var 2)] (sentH 240 18 errTab)) = true := by kernel_rfl
theorem case32 {σ : Nat → Int} {W : World} (hL : L0 W) (hk : Known2 σ [((-9223372036854775808), 9223372036854775807), ((-9223372036854775808), 9223372036854775807), ((-9223372036854775808), 9223372036854775807), (12, 59)] []) (hT : TabOk Tryd.prog bad 6 σ [(0, 10, .lit 2), (1, 60, .var 3), (2, 4, .lit 0)]) {xs : Array Value} (hv : ∀ ρ, VRs σ ρ [.int .i64 (.var 0), .int .i64 (.var 1), .int .i64 (.var 2)] xs.toList) : Calls Tryd.prog 3 xs W fun e w' => e = .returned (.bool true) ∧ Below W.heap.size W w' := by
  obtain ⟨ads, h1, h2, h3⟩ := errs_sents hL
  exact law_case_x fit h1 h2 h3 errs_all errs_lt (by kernel_rfl) hk (FnsOk.cons (hT.ok fit) (FnsOk.cons (frame_fn_ok (all_cons (m55_ok hL hk) (all_cons (m56_ok hL hk) (all_cons (m59_ok hL hk) (all_nil))))) (FnsOk.cons (pure_fn_ok (l7_ok hL)) ((q19_ok hL))))) hv ⟨_, Tryd.func3, rfl⟩ run32
noncomputable def h71 : H := hUpd h38 40 [] [] []
noncomputable def m60 : Memo := ⟨[], h71, .agg [I 16, I 24, I 8, I 12, I 8, I 6], h2⟩
theorem m60_run : ranTo (evCall (cxX Tryd.prog bad [] [] q0) 1000 60 8 m60.args m60.h) m60.v m60.h' = true := by kernel_rfl
theorem m60_ok {σ : Nat → Int} {W0 : World} (hL : L0 W0) : MemoOk Tryd.prog 4095 σ W0 8 m60 := memo_ok fit (Known2.nil σ) ((q0_ok hL)) m60_run
noncomputable def h72 : H := hUpd h69 1299 [] [(39, .cells 1 ([[I 3]]) false)] []
noncomputable def h73 : H := hUpd h70 1774 [] [(39, .cells 1 ([[I 3]]) false)] []
noncomputable def m61 : Memo := ⟨[.ptr 311 0, .agg [.slice 36 0 1 1 1 true, I 1, .slice 39 0 1 1 1 true, bF]], h72, .tuple [I 2, .inil], h73⟩
theorem m61_run : ranTo (evCall (cxX Tryd.prog bad [((-9223372036854775808), 9223372036854775807), ((-9223372036854775808), 9223372036854775807), ((-9223372036854775808), 9223372036854775807), (12, 59)] [] ((44, pureFn l6) :: q0)) 1000 60 21 m61.args m61.h) m61.v m61.h' = true := by kernel_rfl
theorem m61_ok {σ : Nat → Int} {W0 : World} (hL : L0 W0) (hk : Known2 σ [((-9223372036854775808), 9223372036854775807), ((-9223372036854775808), 9223372036854775807), ((-9223372036854775808), 9223372036854775807), (12, 59)] []) : MemoOk Tryd.prog 4095 σ W0 21 m61 := memo_ok fit hk (FnsOk.cons (pure_fn_ok (l6_ok hL)) ((q0_ok hL))) m61_run
noncomputable def q20 : Fns := [(5, pureFn [p0]), (8, frameFn [m60]), (51, itoaFn), (114, countFn), (129, indexFn)]
theorem q20_ok {σ : Nat → Int} {W0 : World} (hL : L0 W0) : FnsOk Tryd.prog 4095 σ W0 q20 := FnsOk.cons (pure_fn_ok (all_cons (p0_ok hL) (all_nil))) (FnsOk.cons (frame_fn_ok (all_cons (m60_ok hL) (all_nil))) (FnsOk.cons (ext_itoa hL) (FnsOk.cons (ext_count hL) (FnsOk.cons (ext_index hL) (FnsOk.nil)))))
theorem run33 : isTrue (evCall (cxX Tryd.prog bad [((-9223372036854775808), 9223372036854775807), ((-9223372036854775808), 9223372036854775807), ((-9223372036854775808), 9223372036854775807), (12, 59)] [] ((6, numExtE [(0, 10, .lit 2), (1, 60, .var 3), (2, 4, .lit 1)]) :: (21, frameFn [m55, m56, m61]) :: (44, pureFn l4) :: q20)) 1000 60 3 [.int .i64 (.var 0), .int .i64 (.var 1), .int .i64 (.var 2)] (sentH 240 18 errTab)) = true := by kernel_rfl
theorem case33 {σ : Nat → Int} {W : World} (hL : L0 W) (hk : Known2 σ [((-9223372036854775808), 9223372036854775807), ((-9223372036854775808), 9223372036854775807), ((-9223372036854775808), 9223372036854775807), (12, 59)] []) (hT : TabOk Tryd.prog bad 6 σ [(0, 10, .lit 2), (1, 60, .var 3), (2, 4, .lit 1)]) {xs : Array Value} (hv : ∀ ρ, VRs σ ρ [.int .i64 (.var 0), .int .i64 (.var 1), .int .i64 (.var 2)] xs.toList) : Calls Tryd.prog 3 xs W fun e w' => e = .returned (.bool true) ∧ Below W.heap.size W w' := by
  obtain ⟨ads, h1, h2, h3⟩ := errs_sents hL
  exact law_case_x fit h1 h2 h3 errs_all errs_lt (by kernel_rfl) hk (FnsOk.cons (hT.ok fit) (FnsOk.cons (frame_fn_ok (all_cons (m55_ok hL hk) (all_cons (m56_ok hL hk) (all_cons (m61_ok hL hk) (all_nil))))) (FnsOk.cons (pure_fn_ok (l4_ok hL)) ((q20_ok hL))))) hv ⟨_, Tryd.func3, rfl⟩ run33
noncomputable def h74 : H := hUpd h41 343 [36] [(39, .cells 1 (rp 33 ([U 0]) ([])) false)] []
noncomputable def h75 : H := hUpd h74 346 [] [] []
noncomputable def m62 : Memo := ⟨[.ptr 311 0, .agg [.slice 39 0 33 33 1 true, I 1, .snil, bF]], h74, .tuple [I 0, .iface 240 (.ptr 21 0)], h75⟩
theorem m62_run : ranTo (evCall (cxX Tryd.prog bad [] [] q0) 1000 60 21 m62.args m62.h) m62.v m62.h' = true := by kernel_rfl
theorem m62_ok {σ : Nat → Int} {W0 : World} (hL : L0 W0) : MemoOk Tryd.prog 4095 σ W0 21 m62 := memo_ok fit (Known2.nil σ) ((q0_ok hL)) m62_run
noncomputable def q21 : Fns := [(5, pureFn [p0]), (8, frameFn [m60]), (21, frameFn [m62]), (51, itoaFn), (114, countFn), (129, indexFn)]
theorem q21_ok {σ : Nat → Int} {W0 : World} (hL : L0 W0) : FnsOk Tryd.prog 4095 σ W0 q21 := FnsOk.cons (pure_fn_ok (all_cons (p0_ok hL) (all_nil))) (FnsOk.cons (frame_fn_ok (all_cons (m60_ok hL) (all_nil))) (FnsOk.cons (frame_fn_ok (all_cons (m62_ok hL) (all_nil))) (FnsOk.cons (ext_itoa hL) (FnsOk.cons (ext_count hL) (FnsOk.cons (ext_index hL) (FnsOk.nil))))))
theorem run34 : isTrue (evCall (cxX Tryd.prog bad [((-9223372036854775808), 9223372036854775807), ((-9223372036854775808), 9223372036854775807), ((-9223372036854775808), 9223372036854775807), (12, 59)] [] ((6, numExtE [(0, 10, .lit 2), (1, 60, .var 3), (2, 4, .lit 2)]) :: q21)) 1000 60 3 [.int .i64 (.var 0), .int .i64 (.var 1), .int .i64 (.var 2)] (sentH 240 18 errTab)) = true := by kernel_rfl
theorem case34 {σ : Nat → Int} {W : World} (hL : L0 W) (hk : Known2 σ [((-9223372036854775808), 9223372036854775807), ((-9223372036854775808), 9223372036854775807), ((-9223372036854775808), 9223372036854775807), (12, 59)] []) (hT : TabOk Tryd.prog bad 6 σ [(0, 10, .lit 2), (1, 60, .var 3), (2, 4, .lit 2)]) {xs : Array Value} (hv : ∀ ρ, VRs σ ρ [.int .i64 (.var 0), .int .i64 (.var 1), .int .i64 (.var 2)] xs.toList) : Calls Tryd.prog 3 xs W fun e w' => e = .returned (.bool true) ∧ Below W.heap.size W w' := by
  obtain ⟨ads, h1, h2, h3⟩ := errs_sents hL
  exact law_case_x fit h1 h2 h3 errs_all errs_lt (by kernel_rfl) hk (FnsOk.cons (hT.ok fit) ((q21_ok hL))) hv ⟨_, Tryd.func3, rfl⟩ run34
noncomputable def h76 : H := hUpc h70 1646 [] [] [(297, 3, [bF, I 0, bF]),
  (299, 3, [I 0, I 0])] [(271, 2, 11, I 0), (271, 2, 16, I 0), (271, 2, 17, I 0), (271, 2, 21, I 0), (271, 2, 26, I 0), (271, 2, 31, I 0), (271, 2, 36, I 0), (271, 2, 96, I 0), (271, 2, 97, I 0)]
noncomputable def m63 : Memo := ⟨[.ptr 311 0, .agg [.slice 36 0 1 1 1 true, IZ (-1), .snil, bF]], h69, .tuple [I 0, .iface 240 (.ptr 20 0)], h76⟩
noncomputable def l8 : List (Pur) := p57 :: p8 :: p50 :: p49 :: []
theorem l8_ok {σ : Nat → Int} {W0 : World} (hL : L0 W0) : ∀ x ∈ l8, PureOk Tryd.prog 4095 σ W0 44 x := all_cons (p57_ok hL) (all_cons (p8_ok hL) (all_cons (p50_ok hL) (all_cons (p49_ok hL) (all_nil))))
theorem m63_run : ranTo (evCall (cxX Tryd.prog bad [((-9223372036854775808), 9223372036854775807), ((-9223372036854775808), 9223372036854775807), ((-9223372036854775808), 9223372036854775807), (12, 59)] [] ((44, pureFn l8) :: q0)) 1000 60 21 m63.args m63.h) m63.v m63.h' = true := by kernel_rfl
theorem m63_ok {σ : Nat → Int} {W0 : World} (hL : L0 W0) (hk : Known2 σ [((-9223372036854775808), 9223372036854775807), ((-9223372036854775808), 9223372036854775807), ((-9223372036854775808), 9223372036854775807), (12, 59)] []) : MemoOk Tryd.prog 4095 σ W0 21 m63 := memo_ok fit hk (FnsOk.cons (pure_fn_ok (l8_ok hL)) ((q0_ok hL))) m63_run
theorem run35 : isTrue (evCall (cxX Tryd.prog bad [((-9223372036854775808), 9223372036854775807), ((-9223372036854775808), 9223372036854775807), ((-9223372036854775808), 9223372036854775807), (12, 59)] [] ((6, numExtE [(0, 10, .lit 2), (1, 60, .var 3), (2, 4, .lit 3)]) :: (21, frameFn [m55, m56, m63]) :: q19)) 1000 60 3 [.int .i64 (.var 0), .int .i64 (.var 1), .int .i64 (.var 2)] (sentH 240 18 errTab)) = true := by kernel_rfl
theorem case35 {σ : Nat → Int} {W : World} (hL : L0 W) (hk : Known2 σ [((-9223372036854775808), 9223372036854775807), ((-9223372036854775808), 9223372036854775807), ((-9223372036854775808), 9223372036854775807), (12, 59)] []) (hT : TabOk Tryd.prog bad 6 σ [(0, 10, .lit 2), (1, 60, .var 3), (2, 4, .lit 3)]) {xs : Array Value} (hv : ∀ ρ, VRs σ ρ [.int .i64 (.var 0), .int .i64 (.var 1), .int .i64 (.var 2)] xs.toList) : Calls Tryd.prog 3 xs W fun e w' => e = .returned (.bool true) ∧ Below W.heap.size W w' := by
  obtain ⟨ads, h1, h2, h3⟩ := errs_sents hL
  exact law_case_x fit h1 h2 h3 errs_all errs_lt (by kernel_rfl) hk (FnsOk.cons (hT.ok fit) (FnsOk.cons (frame_fn_ok (all_cons (m55_ok hL hk) (all_cons (m56_ok hL hk) (all_cons (m63_ok hL hk) (all_nil))))) ((q19_ok hL)))) hv ⟨_, Tryd.func3, rfl⟩ run35
noncomputable def h77 : H := hUpd h38 42 [] [] []
noncomputable def m64 : Memo := ⟨[], h77, .agg [I 16, I 24, I 8, I 12, I 8, I 6], h2⟩
theorem m64_run : ranTo (evCall (cxX Tryd.prog bad [] [] q0) 1000 60 8 m64.args m64.h) m64.v m64.h' = true := by kernel_rfl
theorem m64_ok {σ : Nat → Int} {W0 : World} (hL : L0 W0) : MemoOk Tryd.prog 4095 σ W0 8 m64 := memo_ok fit (Known2.nil σ) ((q0_ok hL)) m64_run
noncomputable def q22 : Fns := [(5, pureFn [p0]), (8, frameFn [m64]), (21, frameFn [m2]), (51, itoaFn), (114, countFn), (129, indexFn)]
theorem q22_ok {σ : Nat → Int} {W0 : World} (hL : L0 W0) : FnsOk Tryd.prog 4095 σ W0 q22 := FnsOk.cons (pure_fn_ok (all_cons (p0_ok hL) (all_nil))) (FnsOk.cons (frame_fn_ok (all_cons (m64_ok hL) (all_nil))) (FnsOk.cons (frame_fn_ok (all_cons (m2_ok hL) (all_nil))) (FnsOk.cons (ext_itoa hL) (FnsOk.cons (ext_count hL) (FnsOk.cons (ext_index hL) (FnsOk.nil))))))
theorem run36 : isTrue (evCall (cxX Tryd.prog bad [] [] ((6, numExtE [(0, 10, .lit 3), (1, 60, .lit 0)]) :: q22)) 1000 60 3 [.int .i64 (.var 0), .int .i64 (.var 1), .int .i64 (.var 2)] (sentH 240 18 errTab)) = true := by kernel_rfl
theorem case36 {σ : Nat → Int} {W : World} (hL : L0 W) (hk : Known2 σ [] []) (hT : TabOk Tryd.prog bad 6 σ [(0, 10, .lit 3), (1, 60, .lit 0)]) {xs : Array Value} (hv : ∀ ρ, VRs σ ρ [.int .i64 (.var 0), .int .i64 (.var 1), .int .i64 (.var 2)] xs.toList) : Calls Tryd.prog 3 xs W fun e w' => e = .returned (.bool true) ∧ Below W.heap.size W w' := by
  obtain ⟨ads, h1, h2, h3⟩ := errs_sents hL
  exact law_case_x fit h1 h2 h3 errs_all errs_lt (by kernel_rfl) hk (FnsOk.cons (hT.ok fit) ((q22_ok hL))) hv ⟨_, Tryd.func3, rfl⟩ run36
noncomputable def q23 : Fns := [(5, pureFn [p0]), (8, frameFn [m64]), (21, frameFn [m3]), (51, itoaFn), (114, countFn), (129, indexFn)]
theorem q23_ok {σ : Nat → Int} {W0 : World} (hL : L0 W0) : FnsOk Tryd.prog 4095 σ W0 q23 := FnsOk.cons (pure_fn_ok (all_cons (p0_ok hL) (all_nil))) (FnsOk.cons (frame_fn_ok (all_cons (m64_ok hL) (all_nil))) (FnsOk.cons (frame_fn_ok (all_cons (m3_ok hL) (all_nil))) (FnsOk.cons (ext_itoa hL) (FnsOk.cons (ext_count hL) (FnsOk.cons (ext_index hL) (FnsOk.nil))))))
theorem run37 : isTrue (evCall (cxX Tryd.prog bad [] [] ((6, numExtE [(0, 10, .lit 3), (1, 60, .lit 1)]) :: q23)) 1000 60 3 [.int .i64 (.var 0), .int .i64 (.var 1), .int .i64 (.var 2)] (sentH 240 18 errTab)) = true := by kernel_rfl
theorem case37 {σ : Nat → Int} {W : World} (hL : L0 W) (hk : Known2 σ [] []) (hT : TabOk Tryd.prog bad 6 σ [(0, 10, .lit 3), (1, 60, .lit 1)]) {xs : Array Value} (hv : ∀ ρ, VRs σ ρ [.int .i64 (.var 0), .int .i64 (.var 1), .int .i64 (.var 2)] xs.toList) : Calls Tryd.prog 3 xs W fun e w' => e = .returned (.bool true) ∧ Below W.heap.size W w' := by
  obtain ⟨ads, h1, h2, h3⟩ := errs_sents hL
  exact law_case_x fit h1 h2 h3 errs_all errs_lt (by kernel_rfl) hk (FnsOk.cons (hT.ok fit) ((q23_ok hL))) hv ⟨_, Tryd.func3, rfl⟩ run37
noncomputable def q24 : Fns := [(5, pureFn [p0]), (8, frameFn [m64]), (21, frameFn [m6]), (51, itoaFn), (114, countFn), (129, indexFn)]
theorem q24_ok {σ : Nat → Int} {W0 : World} (hL : L0 W0) : FnsOk Tryd.prog 4095 σ W0 q24 := FnsOk.cons (pure_fn_ok (all_cons (p0_ok hL) (all_nil))) (FnsOk.cons (frame_fn_ok (all_cons (m64_ok hL) (all_nil))) (FnsOk.cons (frame_fn_ok (all_cons (m6_ok hL) (all_nil))) (FnsOk.cons (ext_itoa hL) (FnsOk.cons (ext_count hL) (FnsOk.cons (ext_index hL) (FnsOk.nil))))))
theorem run38 : isTrue (evCall (cxX Tryd.prog bad [] [] ((6, numExtE [(0, 10, .lit 3), (1, 60, .lit 2)]) :: q24)) 1000 60 3 [.int .i64 (.var 0), .int .i64 (.var 1), .int .i64 (.var 2)] (sentH 240 18 errTab)) = true := by kernel_rfl
theorem case38 {σ : Nat → Int} {W : World} (hL : L0 W) (hk : Known2 σ [] []) (hT : TabOk Tryd.prog bad 6 σ [(0, 10, .lit 3), (1, 60, .lit 2)]) {xs : Array Value} (hv : ∀ ρ, VRs σ ρ [.int .i64 (.var 0), .int .i64 (.var 1), .int .i64 (.var 2)] xs.toList) : Calls Tryd.prog 3 xs W fun e w' => e = .returned (.bool true) ∧ Below W.heap.size W w' := by
  obtain ⟨ads, h1, h2, h3⟩ := errs_sents hL
  exact law_case_x fit h1 h2 h3 errs_all errs_lt (by kernel_rfl) hk (FnsOk.cons (hT.ok fit) ((q24_ok hL))) hv ⟨_, Tryd.func3, rfl⟩ run38
noncomputable def q25 : Fns := [(5, pureFn [p0]), (8, frameFn [m64]), (21, frameFn [m7]), (51, itoaFn), (114, countFn), (129, indexFn)]
theorem q25_ok {σ : Nat → Int} {W0 : World} (hL : L0 W0) : FnsOk Tryd.prog 4095 σ W0 q25 := FnsOk.cons (pure_fn_ok (all_cons (p0_ok hL) (all_nil))) (FnsOk.cons (frame_fn_ok (all_cons (m64_ok hL) (all_nil))) (FnsOk.cons (frame_fn_ok (all_cons (m7_ok hL) (all_nil))) (FnsOk.cons (ext_itoa hL) (FnsOk.cons (ext_count hL) (FnsOk.cons (ext_index hL) (FnsOk.nil))))))
theorem run39 : isTrue (evCall (cxX Tryd.prog bad [] [] ((6, numExtE [(0, 10, .lit 3), (1, 60, .lit 3)]) :: q25)) 1000 60 3 [.int .i64 (.var 0), .int .i64 (.var 1), .int .i64 (.var 2)] (sentH 240 18 errTab)) = true := by kernel_rfl
theorem case39 {σ : Nat → Int} {W : World} (hL : L0 W) (hk : Known2 σ [] []) (hT : TabOk Tryd.prog bad 6 σ [(0, 10, .lit 3), (1, 60, .lit 3)]) {xs : Array Value} (hv : ∀ ρ, VRs σ ρ [.int .i64 (.var 0), .int .i64 (.var 1), .int .i64 (.var 2)] xs.toList) : Calls Tryd.prog 3 xs W fun e w' => e = .returned (.bool true) ∧ Below W.heap.size W w' := by
  obtain ⟨ads, h1, h2, h3⟩ := errs_sents hL
  exact law_case_x fit h1 h2 h3 errs_all errs_lt (by kernel_rfl) hk (FnsOk.cons (hT.ok fit) ((q25_ok hL))) hv ⟨_, Tryd.func3, rfl⟩ run39
noncomputable def q26 : Fns := [(5, pureFn [p0]), (8, frameFn [m64]), (51, itoaFn), (114, countFn), (129, indexFn)]
theorem q26_ok {σ : Nat → Int} {W0 : World} (hL : L0 W0) : FnsOk Tryd.prog 4095 σ W0 q26 := FnsOk.cons (pure_fn_ok (all_cons (p0_ok hL) (all_nil))) (FnsOk.cons (frame_fn_ok (all_cons (m64_ok hL) (all_nil))) (FnsOk.cons (ext_itoa hL) (FnsOk.cons (ext_count hL) (FnsOk.cons (ext_index hL) (FnsOk.nil)))))
theorem run40 : isTrue (evCall (cxX Tryd.prog bad [] [] ((6, numExtE [(0, 10, .lit 3), (1, 60, .lit 4)]) :: (21, frameFn [m22, m23]) :: q26)) 1000 60 3 [.int .i64 (.var 0), .int .i64 (.var 1), .int .i64 (.var 2)] (sentH 240 18 errTab)) = true := by kernel_rfl
theorem case40 {σ : Nat → Int} {W : World} (hL : L0 W) (hk : Known2 σ [] []) (hT : TabOk Tryd.prog bad 6 σ [(0, 10, .lit 3), (1, 60, .lit 4)]) {xs : Array Value} (hv : ∀ ρ, VRs σ ρ [.int .i64 (.var 0), .int .i64 (.var 1), .int .i64 (.var 2)] xs.toList) : Calls Tryd.prog 3 xs W fun e w' => e = .returned (.bool true) ∧ Below W.heap.size W w' := by
  obtain ⟨ads, h1, h2, h3⟩ := errs_sents hL
  exact law_case_x fit h1 h2 h3 errs_all errs_lt (by kernel_rfl) hk (FnsOk.cons (hT.ok fit) (FnsOk.cons (frame_fn_ok (all_cons (m22_ok hL) (all_cons (m23_ok hL) (all_nil)))) ((q26_ok hL)))) hv ⟨_, Tryd.func3, rfl⟩ run40
theorem run41 : isTrue (evCall (cxX Tryd.prog bad [] [] ((6, numExtE [(0, 10, .lit 3), (1, 60, .lit 5)]) :: (21, frameFn [m24, m25]) :: q26)) 1000 60 3 [.int .i64 (.var 0), .int .i64 (.var 1), .int .i64 (.var 2)] (sentH 240 18 errTab)) = true := by kernel_rfl
theorem case41 {σ : Nat → Int} {W : World} (hL : L0 W) (hk : Known2 σ [] []) (hT : TabOk Tryd.prog bad 6 σ [(0, 10, .lit 3), (1, 60, .lit 5)]) {xs : Array Value} (hv : ∀ ρ, VRs σ ρ [.int .i64 (.var 0), .int .i64 (.var 1), .int .i64 (.var 2)] xs.toList) : Calls Tryd.prog 3 xs W fun e w' => e = .returned (.bool true) ∧ Below W.heap.size W w' := by
  obtain ⟨ads, h1, h2, h3⟩ := errs_sents hL
  exact law_case_x fit h1 h2 h3 errs_all errs_lt (by kernel_rfl) hk (FnsOk.cons (hT.ok fit) (FnsOk.cons (frame_fn_ok (all_cons (m24_ok hL) (all_cons (m25_ok hL) (all_nil)))) ((q26_ok hL)))) hv ⟨_, Tryd.func3, rfl⟩ run41
theorem run42 : isTrue (evCall (cxX Tryd.prog bad [] [] ((6, numExtE [(0, 10, .lit 3), (1, 60, .lit 6)]) :: (21, frameFn [m26, m29]) :: q26)) 1000 60 3 [.int .i64 (.var 0), .int .i64 (.var 1), .int .i64 (.var 2)] (sentH 240 18 errTab)) = true := by kernel_rfl
theorem case42 {σ : Nat → Int} {W : World} (hL : L0 W) (hk : Known2 σ [] []) (hT : TabOk Tryd.prog bad 6 σ [(0, 10, .lit 3), (1, 60, .lit 6)]) {xs : Array Value} (hv : ∀ ρ, VRs σ ρ [.int .i64 (.var 0), .int .i64 (.var 1), .int .i64 (.var 2)] xs.toList) : Calls Tryd.prog 3 xs W fun e w' => e = .returned (.bool true) ∧ Below W.heap.size W w' := by
  obtain ⟨ads, h1, h2, h3⟩ := errs_sents hL
  exact law_case_x fit h1 h2 h3 errs_all errs_lt (by kernel_rfl) hk (FnsOk.cons (hT.ok fit) (FnsOk.cons (frame_fn_ok (all_cons (m26_ok hL) (all_cons (m29_ok hL) (all_nil)))) ((q26_ok hL)))) hv ⟨_, Tryd.func3, rfl⟩ run42
theorem run43 : isTrue (evCall (cxX Tryd.prog bad [] [] ((6, numExtE [(0, 10, .lit 3), (1, 60, .lit 7)]) :: (21, frameFn [m30, m31]) :: q26)) 1000 60 3 [.int .i64 (.var 0), .int .i64 (.var 1), .int .i64 (.var 2)] (sentH 240 18 errTab)) = true := by kernel_rfl
theorem case43 {σ : Nat → Int} {W : World} (hL : L0 W) (hk : Known2 σ [] []) (hT : TabOk Tryd.prog bad 6 σ [(0, 10, .lit 3), (1, 60, .lit 7)]) {xs : Array Value} (hv : ∀ ρ, VRs σ ρ [.int .i64 (.var 0), .int .i64 (.var 1), .int .i64 (.var 2)] xs.toList) : Calls Tryd.prog 3 xs W fun e w' => e = .returned (.bool true) ∧ Below W.heap.size W w' := by
  obtain ⟨ads, h1, h2, h3⟩ := errs_sents hL
  exact law_case_x fit h1 h2 h3 errs_all errs_lt (by kernel_rfl) hk (FnsOk.cons (hT.ok fit) (FnsOk.cons (frame_fn_ok (all_cons (m30_ok hL) (all_cons (m31_ok hL) (all_nil)))) ((q26_ok hL)))) hv ⟨_, Tryd.func3, rfl⟩ run43
theorem run44 : isTrue (evCall (cxX Tryd.prog bad [] [] ((6, numExtE [(0, 10, .lit 3), (1, 60, .lit 8)]) :: (21, frameFn [m41, m42, m43]) :: q26)) 1000 60 3 [.int .i64 (.var 0), .int .i64 (.var 1), .int .i64 (.var 2)] (sentH 240 18 errTab)) = true := by kernel_rfl
theorem case44 {σ : Nat → Int} {W : World} (hL : L0 W) (hk : Known2 σ [] []) (hT : TabOk Tryd.prog bad 6 σ [(0, 10, .lit 3), (1, 60, .lit 8)]) {xs : Array Value} (hv : ∀ ρ, VRs σ ρ [.int .i64 (.var 0), .int .i64 (.var 1), .int .i64 (.var 2)] xs.toList) : Calls Tryd.prog 3 xs W fun e w' => e = .returned (.bool true) ∧ Below W.heap.size W w' := by
  obtain ⟨ads, h1, h2, h3⟩ := errs_sents hL
  exact law_case_x fit h1 h2 h3 errs_all errs_lt (by kernel_rfl) hk (FnsOk.cons (hT.ok fit) (FnsOk.cons (frame_fn_ok (all_cons (m41_ok hL) (all_cons (m42_ok hL) (all_cons (m43_ok hL) (all_nil))))) ((q26_ok hL)))) hv ⟨_, Tryd.func3, rfl⟩ run44
theorem run45 : isTrue (evCall (cxX Tryd.prog bad [] [] ((6, numExtE [(0, 10, .lit 3), (1, 60, .lit 9)]) :: (21, frameFn [m44, m45, m46]) :: q26)) 1000 60 3 [.int .i64 (.var 0), .int .i64 (.var 1), .int .i64 (.var 2)] (sentH 240 18 errTab)) = true := by kernel_rfl
theorem case45 {σ : Nat → Int} {W : World} (hL : L0 W) (hk : Known2 σ [] []) (hT : TabOk Tryd.prog bad 6 σ [(0, 10, .lit 3), (1, 60, .lit 9)]) {xs : Array Value} (hv : ∀ ρ, VRs σ ρ [.int .i64 (.var 0), .int .i64 (.var 1), .int .i64 (.var 2)] xs.toList) : Calls Tryd.prog 3 xs W fun e w' => e = .returned (.bool true) ∧ Below W.heap.size W w' := by
  obtain ⟨ads, h1, h2, h3⟩ := errs_sents hL
  exact law_case_x fit h1 h2 h3 errs_all errs_lt (by kernel_rfl) hk (FnsOk.cons (hT.ok fit) (FnsOk.cons (frame_fn_ok (all_cons (m44_ok hL) (all_cons (m45_ok hL) (all_cons (m46_ok hL) (all_nil))))) ((q26_ok hL)))) hv ⟨_, Tryd.func3, rfl⟩ run45
theorem run46 : isTrue (evCall (cxX Tryd.prog bad [] [] ((6, numExtE [(0, 10, .lit 3), (1, 60, .lit 10)]) :: (21, frameFn [m47, m48, m51]) :: q26)) 1000 60 3 [.int .i64 (.var 0), .int .i64 (.var 1), .int .i64 (.var 2)] (sentH 240 18 errTab)) = true := by kernel_rfl
theorem case46 {σ : Nat → Int} {W : World} (hL : L0 W) (hk : Known2 σ [] []) (hT : TabOk Tryd.prog bad 6 σ [(0, 10, .lit 3), (1, 60, .lit 10)]) {xs : Array Value} (hv : ∀ ρ, VRs σ ρ [.int .i64 (.var 0), .int .i64 (.var 1), .int .i64 (.var 2)] xs.toList) : Calls Tryd.prog 3 xs W fun e w' => e = .returned (.bool true) ∧ Below W.heap.size W w' := by
  obtain ⟨ads, h1, h2, h3⟩ := errs_sents hL
  exact law_case_x fit h1 h2 h3 errs_all errs_lt (by kernel_rfl) hk (FnsOk.cons (hT.ok fit) (FnsOk.cons (frame_fn_ok (all_cons (m47_ok hL) (all_cons (m48_ok hL) (all_cons (m51_ok hL) (all_nil))))) ((q26_ok hL)))) hv ⟨_, Tryd.func3, rfl⟩ run46
theorem run47 : isTrue (evCall (cxX Tryd.prog bad [] [] ((6, numExtE [(0, 10, .lit 3), (1, 60, .lit 11)]) :: (21, frameFn [m52, m53, m54]) :: q26)) 1000 60 3 [.int .i64 (.var 0), .int .i64 (.var 1), .int .i64 (.var 2)] (sentH 240 18 errTab)) = true := by kernel_rfl
theorem case47 {σ : Nat → Int} {W : World} (hL : L0 W) (hk : Known2 σ [] []) (hT : TabOk Tryd.prog bad 6 σ [(0, 10, .lit 3), (1, 60, .lit 11)]) {xs : Array Value} (hv : ∀ ρ, VRs σ ρ [.int .i64 (.var 0), .int .i64 (.var 1), .int .i64 (.var 2)] xs.toList) : Calls Tryd.prog 3 xs W fun e w' => e = .returned (.bool true) ∧ Below W.heap.size W w' := by
  obtain ⟨ads, h1, h2, h3⟩ := errs_sents hL
  exact law_case_x fit h1 h2 h3 errs_all errs_lt (by kernel_rfl) hk (FnsOk.cons (hT.ok fit) (FnsOk.cons (frame_fn_ok (all_cons (m52_ok hL) (all_cons (m53_ok hL) (all_cons (m54_ok hL) (all_nil))))) ((q26_ok hL)))) hv ⟨_, Tryd.func3, rfl⟩ run47
noncomputable def h78 : H := hUpd h45 343 [] [] [(303, 0, [IZ (-1), I 12, I 0])]
noncomputable def h79 : H := hUpd h46 818 [] [] [(303, 0, [IZ (-1), I 12, I 4])]
noncomputable def m65 : Memo := ⟨[.ptr 311 0, .agg [.slice 30 0 1 1 1 true, I 1, .snil, bF]], h78, .tuple [I 0, .inil], h79⟩
theorem m65_run : ranTo (evCall (cxX Tryd.prog bad [] [] ((44, pureFn l0) :: q0)) 1000 60 21 m65.args m65.h) m65.v m65.h' = true := by kernel_rfl
theorem m65_ok {σ : Nat → Int} {W0 : World} (hL : L0 W0) : MemoOk Tryd.prog 4095 σ W0 21 m65 := memo_ok fit (Known2.nil σ) (FnsOk.cons (pure_fn_ok (l0_ok hL)) ((q0_ok hL))) m65_run
noncomputable def h80 : H := hUpd h47 821 [] [] [(303, 0, [IZ (-1), I 12, I 4])]
noncomputable def h81 : H := hUpd h48 1296 [] [] [(303, 0, [IZ (-1), I 12, I 8])]
noncomputable def m66 : Memo := ⟨[.ptr 311 0, .agg [.slice 33 0 1 1 1 true, I 1, .snil, bF]], h80, .tuple [I 1, .inil], h81⟩
theorem m66_run : ranTo (evCall (cxX Tryd.prog bad [] [] ((44, pureFn l3) :: q0)) 1000 60 21 m66.args m66.h) m66.v m66.h' = true := by kernel_rfl
theorem m66_ok {σ : Nat → Int} {W0 : World} (hL : L0 W0) : MemoOk Tryd.prog 4095 σ W0 21 m66 := memo_ok fit (Known2.nil σ) (FnsOk.cons (pure_fn_ok (l3_ok hL)) ((q0_ok hL))) m66_run
noncomputable def h82 : H := hUpd h49 1299 [] [] [(303, 0, [IZ (-1), I 12, I 8])]
noncomputable def h83 : H := hUpd h70 1774 [] [] [(303, 0, [IZ (-1), I 12, I 12])]
noncomputable def m67 : Memo := ⟨[.ptr 311 0, .agg [.slice 36 0 1 1 1 true, I 1, .snil, bF]], h82, .tuple [I 2, .inil], h83⟩
theorem m67_run : ranTo (evCall (cxX Tryd.prog bad [] [] ((44, pureFn l6) :: q0)) 1000 60 21 m67.args m67.h) m67.v m67.h' = true := by kernel_rfl
theorem m67_ok {σ : Nat → Int} {W0 : World} (hL : L0 W0) : MemoOk Tryd.prog 4095 σ W0 21 m67 := memo_ok fit (Known2.nil σ) (FnsOk.cons (pure_fn_ok (l6_ok hL)) ((q0_ok hL))) m67_run
noncomputable def h84 : H := hUpd h83 1777 [36] [(39, .cells 1 ([[U 3]]) false)] []
noncomputable def h85 : H := hUpd h84 1808 [] [] []
noncomputable def m68 : Memo := ⟨[.ptr 311 0, .agg [.slice 39 0 1 1 1 true, I 1, .snil, bF]], h84, .tuple [I 0, .iface 240 (.ptr 24 0)], h85⟩
theorem m68_run : ranTo (evCall (cxX Tryd.prog bad [] [] q0) 1000 60 21 m68.args m68.h) m68.v m68.h' = true := by kernel_rfl
theorem m68_ok {σ : Nat → Int} {W0 : World} (hL : L0 W0) : MemoOk Tryd.prog 4095 σ W0 21 m68 := memo_ok fit (Known2.nil σ) ((q0_ok hL)) m68_run
noncomputable def l9 : List (Memo) := m68 :: m67 :: m66 :: m65 :: []
theorem l9_ok {σ : Nat → Int} {W0 : World} (hL : L0 W0) : ∀ x ∈ l9, MemoOk Tryd.prog 4095 σ W0 21 x := all_cons (m68_ok hL) (all_cons (m67_ok hL) (all_cons (m66_ok hL) (all_cons (m65_ok hL) (all_nil))))
theorem run48 : isTrue (evCall (cxX Tryd.prog bad [] [] ((6, numExtE [(0, 10, .lit 3), (1, 60, .lit 12)]) :: (21, frameFn l9) :: q26)) 1000 60 3 [.int .i64 (.var 0), .int .i64 (.var 1), .int .i64 (.var 2)] (sentH 240 18 errTab)) = true := by kernel_rfl
theorem case48 {σ : Nat → Int} {W : World} (hL : L0 W) (hk : Known2 σ [] []) (hT : TabOk Tryd.prog bad 6 σ [(0, 10, .lit 3), (1, 60, .lit 12)]) {xs : Array Value} (hv : ∀ ρ, VRs σ ρ [.int .i64 (.var 0), .int .i64 (.var 1), .int .i64 (.var 2)] xs.toList) : Calls Tryd.prog 3 xs W fun e w' => e = .returned (.bool true) ∧ Below W.heap.size W w' := by
  obtain ⟨ads, h1, h2, h3⟩ := errs_sents hL
  exact law_case_x fit h1 h2 h3 errs_all errs_lt (by kernel_rfl) hk (FnsOk.cons (hT.ok fit) (FnsOk.cons (frame_fn_ok (l9_ok hL)) ((q26_ok hL)))) hv ⟨_, Tryd.func3, rfl⟩ run48
noncomputable def h86 : H := hUpd h51 343 [] [] [(303, 0, [IZ (-1), I 13, I 0])]
noncomputable def h87 : H := hUpd h52 818 [] [] [(303, 0, [IZ (-1), I 13, I 4])]
noncomputable def m69 : Memo := ⟨[.ptr 311 0, .agg [.slice 30 0 1 1 1 true, I 1, .snil, bF]], h86, .tuple [I 0, .inil], h87⟩
theorem m69_run : ranTo (evCall (cxX Tryd.prog bad [] [] ((44, pureFn l0) :: q0)) 1000 60 21 m69.args m69.h) m69.v m69.h' = true := by kernel_rfl
theorem m69_ok {σ : Nat → Int} {W0 : World} (hL : L0 W0) : MemoOk Tryd.prog 4095 σ W0 21 m69 := memo_ok fit (Known2.nil σ) (FnsOk.cons (pure_fn_ok (l0_ok hL)) ((q0_ok hL))) m69_run
noncomputable def h88 : H := hUpd h53 821 [] [] [(303, 0, [IZ (-1), I 13, I 4])]
noncomputable def h89 : H := hUpd h54 1296 [] [] [(303, 0, [IZ (-1), I 13, I 8])]
noncomputable def m70 : Memo := ⟨[.ptr 311 0, .agg [.slice 33 0 1 1 1 true, I 1, .snil, bF]], h88, .tuple [I 1, .inil], h89⟩
theorem m70_run : ranTo (evCall (cxX Tryd.prog bad [] [] ((44, pureFn l3) :: q0)) 1000 60 21 m70.args m70.h) m70.v m70.h' = true := by kernel_rfl
theorem m70_ok {σ : Nat → Int} {W0 : World} (hL : L0 W0) : MemoOk Tryd.prog 4095 σ W0 21 m70 := memo_ok fit (Known2.nil σ) (FnsOk.cons (pure_fn_ok (l3_ok hL)) ((q0_ok hL))) m70_run
noncomputable def h90 : H := hUpd h50 1299 [] [] [(303, 0, [IZ (-1), I 13, I 8])]
noncomputable def h91 : H := hUpd h70 1774 [] [] [(303, 0, [IZ (-1), I 13, I 12])]
noncomputable def m71 : Memo := ⟨[.ptr 311 0, .agg [.slice 36 0 1 1 1 true, I 1, .snil, bF]], h90, .tuple [I 2, .inil], h91⟩
theorem m71_run : ranTo (evCall (cxX Tryd.prog bad [] [] ((44, pureFn l6) :: q0)) 1000 60 21 m71.args m71.h) m71.v m71.h' = true := by kernel_rfl
theorem m71_ok {σ : Nat → Int} {W0 : World} (hL : L0 W0) : MemoOk Tryd.prog 4095 σ W0 21 m71 := memo_ok fit (Known2.nil σ) (FnsOk.cons (pure_fn_ok (l6_ok hL)) ((q0_ok hL))) m71_run
noncomputable def h92 : H := hUpd h84 1777 [] [] [(303, 0, [IZ (-1), I 13, I 12])]
noncomputable def h93 : H := hUpc h84 1871 [] [(304, .map [(.agg [I 3, I 0], .agg [I 0, I 0], 0), (.agg [I 3, I 1], .agg [I 0, I 0], 1), (.agg [I 2, I 0], .agg [I 0, I 0], 2), (.agg [I 4, I 0], .agg [I 0, I 0], 3), (.agg [I 3, I 2], .agg [I 0, I 0], 4), (.agg [I 3, I 3], .agg [I 0, I 0], 5), (.agg [I 2, I 1], .agg [I 0, I 0], 6), (.agg [I 4, I 1], .agg [I 0, I 0], 7), (.agg [I 3, I 4], .agg [I 0, I 0], 8), (.agg [I 3, I 5], .agg [I 0, I 0], 9), (.agg [I 2, I 2], .agg [I 0, I 0], 10), (.agg [I 4, I 2], .agg [I 0, I 0], 11), (.agg [I 3, I 6], .agg [I 0, I 0], 12)] 13)] [(262, 6, [bT, I 0, bF]),
  (303, 0, [IZ (-1), I 13, I 13])] [(264, 6, 0, U 3)]
noncomputable def m72 : Memo := ⟨[.ptr 311 0, .agg [.slice 39 0 1 1 1 true, I 1, .snil, bF]], h92, .tuple [I 0, .iface 240 (.ptr 24 0)], h93⟩
theorem m72_run : ranTo (evCall (cxX Tryd.prog bad [] [] q0) 1000 60 21 m72.args m72.h) m72.v m72.h' = true := by kernel_rfl
theorem m72_ok {σ : Nat → Int} {W0 : World} (hL : L0 W0) : MemoOk Tryd.prog 4095 σ W0 21 m72 := memo_ok fit (Known2.nil σ) ((q0_ok hL)) m72_run
noncomputable def l10 : List (Memo) := m72 :: m71 :: m70 :: m69 :: []
theorem l10_ok {σ : Nat → Int} {W0 : World} (hL : L0 W0) : ∀ x ∈ l10, MemoOk Tryd.prog 4095 σ W0 21 x := all_cons (m72_ok hL) (all_cons (m71_ok hL) (all_cons (m70_ok hL) (all_cons (m69_ok hL) (all_nil))))
theorem run49 : isTrue (evCall (cxX Tryd.prog bad [] [] ((6, numExtE [(0, 10, .lit 3), (1, 60, .lit 13)]) :: (21, frameFn l10) :: q26)) 1000 60 3 [.int .i64 (.var 0), .int .i64 (.var 1), .int .i64 (.var 2)] (sentH 240 18 errTab)) = true := by kernel_rfl
theorem case49 {σ : Nat → Int} {W : World} (hL : L0 W) (hk : Known2 σ [] []) (hT : TabOk Tryd.prog bad 6 σ [(0, 10, .lit 3), (1, 60, .lit 13)]) {xs : Array Value} (hv : ∀ ρ, VRs σ ρ [.int .i64 (.var 0), .int .i64 (.var 1), .int .i64 (.var 2)] xs.toList) : Calls Tryd.prog 3 xs W fun e w' => e = .returned (.bool true) ∧ Below W.heap.size W w' := by
  obtain ⟨ads, h1, h2, h3⟩ := errs_sents hL
  exact law_case_x fit h1 h2 h3 errs_all errs_lt (by kernel_rfl) hk (FnsOk.cons (hT.ok fit) (FnsOk.cons (frame_fn_ok (l10_ok hL)) ((q26_ok hL)))) hv ⟨_, Tryd.func3, rfl⟩ run49
noncomputable def h94 : H := hUpd h57 343 [] [] [(303, 0, [IZ (-1), I 14, I 0])]
noncomputable def h95 : H := hUpd h58 818 [] [] [(303, 0, [IZ (-1), I 14, I 4])]
noncomputable def m73 : Memo := ⟨[.ptr 311 0, .agg [.slice 30 0 1 1 1 true, I 1, .snil, bF]], h94, .tuple [I 0, .inil], h95⟩
theorem m73_run : ranTo (evCall (cxX Tryd.prog bad [] [] ((44, pureFn l0) :: q0)) 1000 60 21 m73.args m73.h) m73.v m73.h' = true := by kernel_rfl
theorem m73_ok {σ : Nat → Int} {W0 : World} (hL : L0 W0) : MemoOk Tryd.prog 4095 σ W0 21 m73 := memo_ok fit (Known2.nil σ) (FnsOk.cons (pure_fn_ok (l0_ok hL)) ((q0_ok hL))) m73_run
noncomputable def h96 : H := hUpd h59 821 [] [] [(303, 0, [IZ (-1), I 14, I 4])]
noncomputable def h97 : H := hUpd h60 1296 [] [] [(303, 0, [IZ (-1), I 14, I 8])]
noncomputable def m74 : Memo := ⟨[.ptr 311 0, .agg [.slice 33 0 1 1 1 true, I 1, .snil, bF]], h96, .tuple [I 1, .inil], h97⟩
theorem m74_run : ranTo (evCall (cxX Tryd.prog bad [] [] ((44, pureFn l3) :: q0)) 1000 60 21 m74.args m74.h) m74.v m74.h' = true := by kernel_rfl
theorem m74_ok {σ : Nat → Int} {W0 : World} (hL : L0 W0) : MemoOk Tryd.prog 4095 σ W0 21 m74 := memo_ok fit (Known2.nil σ) (FnsOk.cons (pure_fn_ok (l3_ok hL)) ((q0_ok hL))) m74_run
noncomputable def h98 : H := hUpd h61 1299 [] [] [(303, 0, [IZ (-1), I 14, I 8])]
noncomputable def h99 : H := hUpd h70 1774 [] [] [(303, 0, [IZ (-1), I 14, I 12])]
noncomputable def m75 : Memo := ⟨[.ptr 311 0, .agg [.slice 36 0 1 1 1 true, I 1, .snil, bF]], h98, .tuple [I 2, .inil], h99⟩
theorem m75_run : ranTo (evCall (cxX Tryd.prog bad [] [] ((44, pureFn l6) :: q0)) 1000 60 21 m75.args m75.h) m75.v m75.h' = true := by kernel_rfl
theorem m75_ok {σ : Nat → Int} {W0 : World} (hL : L0 W0) : MemoOk Tryd.prog 4095 σ W0 21 m75 := memo_ok fit (Known2.nil σ) (FnsOk.cons (pure_fn_ok (l6_ok hL)) ((q0_ok hL))) m75_run
noncomputable def p76 : Pur := ([.agg [I 3, I 6, I 0, I 0, U 0]], .inil, 1048576)
theorem p76_run : ranPure (evCall (cxX Tryd.prog bad [] [] q0) 1000 60 44 p76.1 ⟨.lf, p76.2.2⟩) p76.2.1 = true := by kernel_rfl
theorem p76_ok {σ : Nat → Int} {W0 : World} (hL : L0 W0) : PureOk Tryd.prog 4095 σ W0 44 p76 := pure_ok fit (Known2.nil σ) ((q0_ok hL)) p76_run
noncomputable def p77 : Pur := ([.agg [I 3, I 7, I 0, I 0, U 0]], .inil, 1048576)
theorem p77_run : ranPure (evCall (cxX Tryd.prog bad [] [] q0) 1000 60 44 p77.1 ⟨.lf, p77.2.2⟩) p77.2.1 = true := by kernel_rfl
theorem p77_ok {σ : Nat → Int} {W0 : World} (hL : L0 W0) : PureOk Tryd.prog 4095 σ W0 44 p77 := pure_ok fit (Known2.nil σ) ((q0_ok hL)) p77_run
noncomputable def h100 : H := hUpd h84 1777 [] [] [(303, 0, [IZ (-1), I 14, I 12])]
noncomputable def h101 : H := hUpd h93 1982 [] [(304, .map [(.agg [I 3, I 0], .agg [I 0, I 0], 0), (.agg [I 3, I 1], .agg [I 0, I 0], 1), (.agg [I 2, I 0], .agg [I 0, I 0], 2), (.agg [I 4, I 0], .agg [I 0, I 0], 3), (.agg [I 3, I 2], .agg [I 0, I 0], 4), (.agg [I 3, I 3], .agg [I 0, I 0], 5), (.agg [I 2, I 1], .agg [I 0, I 0], 6), (.agg [I 4, I 1], .agg [I 0, I 0], 7), (.agg [I 3, I 4], .agg [I 0, I 0], 8), (.agg [I 3, I 5], .agg [I 0, I 0], 9), (.agg [I 2, I 2], .agg [I 0, I 0], 10), (.agg [I 4, I 2], .agg [I 0, I 0], 11), (.agg [I 3, I 6], .agg [I 0, I 0], 12), (.agg [I 3, I 7], .agg [I 0, I 0], 13)] 14)] [(262, 7, [bT, I 0, bF]),
  (303, 0, [IZ (-1), I 14, I 14])]
noncomputable def m78 : Memo := ⟨[.ptr 311 0, .agg [.slice 39 0 1 1 1 true, I 1, .snil, bF]], h100, .tuple [I 0, .iface 240 (.ptr 24 0)], h101⟩
theorem m78_run : ranTo (evCall (cxX Tryd.prog bad [] [] ((44, pureFn [p76, p77]) :: q0)) 1000 60 21 m78.args m78.h) m78.v m78.h' = true := by kernel_rfl
theorem m78_ok {σ : Nat → Int} {W0 : World} (hL : L0 W0) : MemoOk Tryd.prog 4095 σ W0 21 m78 := memo_ok fit (Known2.nil σ) (FnsOk.cons (pure_fn_ok (all_cons (p76_ok hL) (all_cons (p77_ok hL) (all_nil)))) ((q0_ok hL))) m78_run
noncomputable def l11 : List (Memo) := m78 :: m75 :: m74 :: m73 :: []
theorem l11_ok {σ : Nat → Int} {W0 : World} (hL : L0 W0) : ∀ x ∈ l11, MemoOk Tryd.prog 4095 σ W0 21 x := all_cons (m78_ok hL) (all_cons (m75_ok hL) (all_cons (m74_ok hL) (all_cons (m73_ok hL) (all_nil))))
theorem run50 : isTrue (evCall (cxX Tryd.prog bad [] [] ((6, numExtE [(0, 10, .lit 3), (1, 60, .lit 14)]) :: (21, frameFn l11) :: q26)) 1000 60 3 [.int .i64 (.var 0), .int .i64 (.var 1), .int .i64 (.var 2)] (sentH 240 18 errTab)) = true := by kernel_rfl
theorem case50 {σ : Nat → Int} {W : World} (hL : L0 W) (hk : Known2 σ [] []) (hT : TabOk Tryd.prog bad 6 σ [(0, 10, .lit 3), (1, 60, .lit 14)]) {xs : Array Value} (hv : ∀ ρ, VRs σ ρ [.int .i64 (.var 0), .int .i64 (.var 1), .int .i64 (.var 2)] xs.toList) : Calls Tryd.prog 3 xs W fun e w' => e = .returned (.bool true) ∧ Below W.heap.size W w' := by
  obtain ⟨ads, h1, h2, h3⟩ := errs_sents hL
  exact law_case_x fit h1 h2 h3 errs_all errs_lt (by kernel_rfl) hk (FnsOk.cons (hT.ok fit) (FnsOk.cons (frame_fn_ok (l11_ok hL)) ((q26_ok hL)))) hv ⟨_, Tryd.func3, rfl⟩ run50
noncomputable def h102 : H := hUpd h63 343 [] [] [(303, 0, [IZ (-1), I 15, I 0])]
noncomputable def h103 : H := hUpd h64 818 [] [] [(303, 0, [IZ (-1), I 15, I 4])]
noncomputable def m79 : Memo := ⟨[.ptr 311 0, .agg [.slice 30 0 1 1 1 true, I 1, .snil, bF]], h102, .tuple [I 0, .inil], h103⟩
theorem m79_run : ranTo (evCall (cxX Tryd.prog bad [] [] ((44, pureFn l0) :: q0)) 1000 60 21 m79.args m79.h) m79.v m79.h' = true := by kernel_rfl
theorem m79_ok {σ : Nat → Int} {W0 : World} (hL : L0 W0) : MemoOk Tryd.prog 4095 σ W0 21 m79 := memo_ok fit (Known2.nil σ) (FnsOk.cons (pure_fn_ok (l0_ok hL)) ((q0_ok hL))) m79_run
noncomputable def h104 : H := hUpd h65 821 [] [] [(303, 0, [IZ (-1), I 15, I 4])]
noncomputable def h105 : H := hUpd h66 1296 [] [] [(303, 0, [IZ (-1), I 15, I 8])]
noncomputable def m80 : Memo := ⟨[.ptr 311 0, .agg [.slice 33 0 1 1 1 true, I 1, .snil, bF]], h104, .tuple [I 1, .inil], h105⟩
theorem m80_run : ranTo (evCall (cxX Tryd.prog bad [] [] ((44, pureFn l3) :: q0)) 1000 60 21 m80.args m80.h) m80.v m80.h' = true := by kernel_rfl
theorem m80_ok {σ : Nat → Int} {W0 : World} (hL : L0 W0) : MemoOk Tryd.prog 4095 σ W0 21 m80 := memo_ok fit (Known2.nil σ) (FnsOk.cons (pure_fn_ok (l3_ok hL)) ((q0_ok hL))) m80_run
noncomputable def h106 : H := hUpd h67 1299 [] [] [(303, 0, [IZ (-1), I 15, I 8])]
noncomputable def h107 : H := hUpd h70 1774 [] [] [(303, 0, [IZ (-1), I 15, I 12])]
noncomputable def m81 : Memo := ⟨[.ptr 311 0, .agg [.slice 36 0 1 1 1 true, I 1, .snil, bF]], h106, .tuple [I 2, .inil], h107⟩
theorem m81_run : ranTo (evCall (cxX Tryd.prog bad [] [] ((44, pureFn l6) :: q0)) 1000 60 21 m81.args m81.h) m81.v m81.h' = true := by kernel_rfl
theorem m81_ok {σ : Nat → Int} {W0 : World} (hL : L0 W0) : MemoOk Tryd.prog 4095 σ W0 21 m81 := memo_ok fit (Known2.nil σ) (FnsOk.cons (pure_fn_ok (l6_ok hL)) ((q0_ok hL))) m81_run
noncomputable def h108 : H := hUpd h84 1777 [] [] [(303, 0, [IZ (-1), I 15, I 12])]
noncomputable def h109 : H := hUpc h101 2045 [] [(304, .map [(.agg [I 3, I 0], .agg [I 0, I 0], 0), (.agg [I 3, I 1], .agg [I 0, I 0], 1), (.agg [I 2, I 0], .agg [I 0, I 0], 2), (.agg [I 4, I 0], .agg [I 0, I 0], 3), (.agg [I 3, I 2], .agg [I 0, I 0], 4), (.agg [I 3, I 3], .agg [I 0, I 0], 5), (.agg [I 2, I 1], .agg [I 0, I 0], 6), (.agg [I 4, I 1], .agg [I 0, I 0], 7), (.agg [I 3, I 4], .agg [I 0, I 0], 8), (.agg [I 3, I 5], .agg [I 0, I 0], 9), (.agg [I 2, I 2], .agg [I 0, I 0], 10), (.agg [I 4, I 2], .agg [I 0, I 0], 11), (.agg [I 3, I 6], .agg [I 0, I 0], 12), (.agg [I 3, I 7], .agg [I 0, I 0], 13), (.agg [I 2, I 3], .agg [I 0, I 0], 14)] 15)] [(258, 3, [bT, I 0, bF]),
  (303, 0, [IZ (-1), I 15, I 15])] [(260, 3, 0, I 3), (260, 3, 1, I 6), (260, 3, 5, I 3), (260, 3, 6, I 7)]
noncomputable def m82 : Memo := ⟨[.ptr 311 0, .agg [.slice 39 0 1 1 1 true, I 1, .snil, bF]], h108, .tuple [I 0, .iface 240 (.ptr 24 0)], h109⟩
theorem m82_run : ranTo (evCall (cxX Tryd.prog bad [] [] ((44, pureFn [p76, p77]) :: q0)) 1000 60 21 m82.args m82.h) m82.v m82.h' = true := by kernel_rfl
theorem m82_ok {σ : Nat → Int} {W0 : World} (hL : L0 W0) : MemoOk Tryd.prog 4095 σ W0 21 m82 := memo_ok fit (Known2.nil σ) (FnsOk.cons (pure_fn_ok (all_cons (p76_ok hL) (all_cons (p77_ok hL) (all_nil)))) ((q0_ok hL))) m82_run
noncomputable def l12 : List (Memo) := m82 :: m81 :: m80 :: m79 :: []
theorem l12_ok {σ : Nat → Int} {W0 : World} (hL : L0 W0) : ∀ x ∈ l12, MemoOk Tryd.prog 4095 σ W0 21 x := all_cons (m82_ok hL) (all_cons (m81_ok hL) (all_cons (m80_ok hL) (all_cons (m79_ok hL) (all_nil))))
theorem run51 : isTrue (evCall (cxX Tryd.prog bad [] [] ((6, numExtE [(0, 10, .lit 3), (1, 60, .lit 15)]) :: (21, frameFn l12) :: q26)) 1000 60 3 [.int .i64 (.var 0), .int .i64 (.var 1), .int .i64 (.var 2)] (sentH 240 18 errTab)) = true := by kernel_rfl
theorem case51 {σ : Nat → Int} {W : World} (hL : L0 W) (hk : Known2 σ [] []) (hT : TabOk Tryd.prog bad 6 σ [(0, 10, .lit 3), (1, 60, .lit 15)]) {xs : Array Value} (hv : ∀ ρ, VRs σ ρ [.int .i64 (.var 0), .int .i64 (.var 1), .int .i64 (.var 2)] xs.toList) : Calls Tryd.prog 3 xs W fun e w' => e = .returned (.bool true) ∧ Below W.heap.size W w' := by
  obtain ⟨ads, h1, h2, h3⟩ := errs_sents hL
  exact law_case_x fit h1 h2 h3 errs_all errs_lt (by kernel_rfl) hk (FnsOk.cons (hT.ok fit) (FnsOk.cons (frame_fn_ok (l12_ok hL)) ((q26_ok hL)))) hv ⟨_, Tryd.func3, rfl⟩ run51
noncomputable def m83 : Memo := ⟨[.ptr 311 0, .agg [.slice 30 0 1 1 1 true, I 1, .snil, bF]], h11, .tuple [I 0, .inil], h12⟩
theorem m83_run : ranTo (evCall (cxX Tryd.prog bad [((-9223372036854775808), 9223372036854775807), ((-9223372036854775808), 9223372036854775807), ((-9223372036854775808), 9223372036854775807), (16, 59)] [] ((44, pureFn l0) :: q0)) 1000 60 21 m83.args m83.h) m83.v m83.h' = true := by kernel_rfl
theorem m83_ok {σ : Nat → Int} {W0 : World} (hL : L0 W0) (hk : Known2 σ [((-9223372036854775808), 9223372036854775807), ((-9223372036854775808), 9223372036854775807), ((-9223372036854775808), 9223372036854775807), (16, 59)] []) : MemoOk Tryd.prog 4095 σ W0 21 m83 := memo_ok fit hk (FnsOk.cons (pure_fn_ok (l0_ok hL)) ((q0_ok hL))) m83_run
noncomputable def m84 : Memo := ⟨[.ptr 311 0, .agg [.slice 33 0 1 1 1 true, I 1, .snil, bF]], h36, .tuple [I 1, .inil], h37⟩
theorem m84_run : ranTo (evCall (cxX Tryd.prog bad [((-9223372036854775808), 9223372036854775807), ((-9223372036854775808), 9223372036854775807), ((-9223372036854775808), 9223372036854775807), (16, 59)] [] ((44, pureFn l3) :: q0)) 1000 60 21 m84.args m84.h) m84.v m84.h' = true := by kernel_rfl
theorem m84_ok {σ : Nat → Int} {W0 : World} (hL : L0 W0) (hk : Known2 σ [((-9223372036854775808), 9223372036854775807), ((-9223372036854775808), 9223372036854775807), ((-9223372036854775808), 9223372036854775807), (16, 59)] []) : MemoOk Tryd.prog 4095 σ W0 21 m84 := memo_ok fit hk (FnsOk.cons (pure_fn_ok (l3_ok hL)) ((q0_ok hL))) m84_run
noncomputable def m85 : Memo := ⟨[.ptr 311 0, .agg [.slice 36 0 1 1 1 true, I 1, .snil, bF]], h69, .tuple [I 2, .inil], h70⟩
theorem m85_run : ranTo (evCall (cxX Tryd.prog bad [((-9223372036854775808), 9223372036854775807), ((-9223372036854775808), 9223372036854775807), ((-9223372036854775808), 9223372036854775807), (16, 59)] [] ((44, pureFn l6) :: q0)) 1000 60 21 m85.args m85.h) m85.v m85.h' = true := by kernel_rfl
theorem m85_ok {σ : Nat → Int} {W0 : World} (hL : L0 W0) (hk : Known2 σ [((-9223372036854775808), 9223372036854775807), ((-9223372036854775808), 9223372036854775807), ((-9223372036854775808), 9223372036854775807), (16, 59)] []) : MemoOk Tryd.prog 4095 σ W0 21 m85 := memo_ok fit hk (FnsOk.cons (pure_fn_ok (l6_ok hL)) ((q0_ok hL))) m85_run
noncomputable def p86 : Pur := ([.agg [I 2, I 3, I 0, I 0, U 1]], .inil, 1048576)
theorem p86_run : ranPure (evCall (cxX Tryd.prog bad [] [] q0) 1000 60 44 p86.1 ⟨.lf, p86.2.2⟩) p86.2.1 = true := by kernel_rfl
theorem p86_ok {σ : Nat → Int} {W0 : World} (hL : L0 W0) : PureOk Tryd.prog 4095 σ W0 44 p86 := pure_ok fit (Known2.nil σ) ((q0_ok hL)) p86_run
noncomputable def p87 : Pur := ([.agg [I 7, I 4, I 0, I 0, U 0]], .inil, 1048576)
theorem p87_run : ranPure (evCall (cxX Tryd.prog bad [] [] q0) 1000 60 44 p87.1 ⟨.lf, p87.2.2⟩) p87.2.1 = true := by kernel_rfl
theorem p87_ok {σ : Nat → Int} {W0 : World} (hL : L0 W0) : PureOk Tryd.prog 4095 σ W0 44 p87 := pure_ok fit (Known2.nil σ) ((q0_ok hL)) p87_run
noncomputable def h110 : H := hUpd h73 1777 [36] [] [(39, 0, [U 3])]
noncomputable def h111 : H := hUpc h109 2252 [] [(304, .map [(.agg [I 3, I 0], .agg [I 0, I 0], 0), (.agg [I 3, I 1], .agg [I 0, I 0], 1), (.agg [I 2, I 0], .agg [I 0, I 0], 2), (.agg [I 4, I 0], .agg [I 0, I 0], 3), (.agg [I 3, I 2], .agg [I 0, I 0], 4), (.agg [I 3, I 3], .agg [I 0, I 0], 5), (.agg [I 2, I 1], .agg [I 0, I 0], 6), (.agg [I 4, I 1], .agg [I 0, I 0], 7), (.agg [I 3, I 4], .agg [I 0, I 0], 8), (.agg [I 3, I 5], .agg [I 0, I 0], 9), (.agg [I 2, I 2], .agg [I 0, I 0], 10), (.agg [I 4, I 2], .agg [I 0, I 0], 11), (.agg [I 3, I 6], .agg [I 0, I 0], 12), (.agg [I 3, I 7], .agg [I 0, I 0], 13), (.agg [I 2, I 3], .agg [I 0, I 0], 14), (.agg [I 4, I 3], .agg [I 0, I 0], 15)] 16)] [(269, 3, [bT, I 0, bF]),
  (297, 4, [bT, I 0, bF]),
  (299, 4, [I 0, I 1]),
  (303, 0, [IZ (-1), .int .i64 (.var 3), I 16])] [(271, 3, 9, I 1), (271, 3, 11, I 8), (271, 3, 16, I 7), (271, 3, 17, I 4), (271, 3, 21, I 11), (271, 3, 26, I 12), (271, 3, 31, I 13), (271, 3, 36, I 14), (271, 3, 91, I 2), (271, 3, 92, I 3), (271, 3, 95, U 1), (271, 3, 96, I 7), (271, 3, 97, I 4)]
noncomputable def m88 : Memo := ⟨[.ptr 311 0, .agg [.slice 39 0 1 1 1 true, I 1, .snil, bF]], h110, .tuple [I 3, .inil], h111⟩
noncomputable def l13 : List (Pur) := p15 :: p14 :: p13 :: p12 :: p87 :: p10 :: p86 :: p8 :: p77 :: p76 :: []
theorem l13_ok {σ : Nat → Int} {W0 : World} (hL : L0 W0) : ∀ x ∈ l13, PureOk Tryd.prog 4095 σ W0 44 x := all_cons (p15_ok hL) (all_cons (p14_ok hL) (all_cons (p13_ok hL) (all_cons (p12_ok hL) (all_cons (p87_ok hL) (all_cons (p10_ok hL) (all_cons (p86_ok hL) (all_cons (p8_ok hL) (all_cons (p77_ok hL) (all_cons (p76_ok hL) (all_nil))))))))))
theorem m88_run : ranTo (evCall (cxX Tryd.prog bad [((-9223372036854775808), 9223372036854775807), ((-9223372036854775808), 9223372036854775807), ((-9223372036854775808), 9223372036854775807), (16, 59)] [] ((44, pureFn l13) :: q0)) 1000 60 21 m88.args m88.h) m88.v m88.h' = true := by kernel_rfl
theorem m88_ok {σ : Nat → Int} {W0 : World} (hL : L0 W0) (hk : Known2 σ [((-9223372036854775808), 9223372036854775807), ((-9223372036854775808), 9223372036854775807), ((-9223372036854775808), 9223372036854775807), (16, 59)] []) : MemoOk Tryd.prog 4095 σ W0 21 m88 := memo_ok fit hk (FnsOk.cons (pure_fn_ok (l13_ok hL)) ((q0_ok hL))) m88_run
noncomputable def l14 : List (Pur) := p86 :: p87 :: l7
theorem l14_ok {σ : Nat → Int} {W0 : World} (hL : L0 W0) : ∀ x ∈ l14, PureOk Tryd.prog 4095 σ W0 44 x := all_cons (p86_ok hL) (all_cons (p87_ok hL) ((l7_ok hL)))
theorem run52 : isTrue (evCall (cxX Tryd.prog bad [((-9223372036854775808), 9223372036854775807), ((-9223372036854775808), 9223372036854775807), ((-9223372036854775808), 9223372036854775807), (16, 59)] [] ((6, numExtE [(0, 10, .lit 3), (1, 60, .var 3), (2, 4, .lit 0)]) :: (21, frameFn [m83, m84, m85, m88]) :: (44, pureFn l14) :: q26)) 1000 60 3 [.int .i64 (.var 0), .int .i64 (.var 1), .int .i64 (.var 2)] (sentH 240 18 errTab)) = true := by kernel_rfl
theorem case52 {σ : Nat → Int} {W : World} (hL : L0 W) (hk : Known2 σ [((-9223372036854775808), 9223372036854775807), ((-9223372036854775808), 9223372036854775807), ((-9223372036854775808), 9223372036854775807), (16, 59)] []) (hT : TabOk Tryd.prog bad 6 σ [(0, 10, .lit 3), (1, 60, .var 3), (2, 4, .lit 0)]) {xs : Array Value} (hv : ∀ ρ, VRs σ ρ [.int .i64 (.var 0), .int .i64 (.var 1), .int .i64 (.var 2)] xs.toList) : Calls Tryd.prog 3 xs W fun e w' => e = .returned (.bool true) ∧ Below W.heap.size W w' := by
  obtain ⟨ads, h1, h2, h3⟩ := errs_sents hL
  exact law_case_x fit h1 h2 h3 errs_all errs_lt (by kernel_rfl) hk (FnsOk.cons (hT.ok fit) (FnsOk.cons (frame_fn_ok (all_cons (m83_ok hL hk) (all_cons (m84_ok hL hk) (all_cons (m85_ok hL hk) (all_cons (m88_ok hL hk) (all_nil)))))) (FnsOk.cons (pure_fn_ok (l14_ok hL)) ((q26_ok hL))))) hv ⟨_, Tryd.func3, rfl⟩ run52
noncomputable def h112 : H := hUpd h77 43 [] [] []
noncomputable def m89 : Memo := ⟨[], h112, .agg [I 16, I 24, I 8, I 12, I 8, I 6], h2⟩
theorem m89_run : ranTo (evCall (cxX Tryd.prog bad [] [] q0) 1000 60 8 m89.args m89.h) m89.v m89.h' = true := by kernel_rfl
theorem m89_ok {σ : Nat → Int} {W0 : World} (hL : L0 W0) : MemoOk Tryd.prog 4095 σ W0 8 m89 := memo_ok fit (Known2.nil σ) ((q0_ok hL)) m89_run
noncomputable def h113 : H := hUpd h110 1777 [] [(42, .cells 1 ([[I 4]]) false)] []
noncomputable def h114 : H := hUpd h111 2252 [] [(42, .cells 1 ([[I 4]]) false)] []
noncomputable def m90 : Memo := ⟨[.ptr 311 0, .agg [.slice 39 0 1 1 1 true, I 1, .slice 42 0 1 1 1 true, bF]], h113, .tuple [I 3, .inil], h114⟩
theorem m90_run : ranTo (evCall (cxX Tryd.prog bad [((-9223372036854775808), 9223372036854775807), ((-9223372036854775808), 9223372036854775807), ((-9223372036854775808), 9223372036854775807), (16, 59)] [] ((44, pureFn l13) :: q0)) 1000 60 21 m90.args m90.h) m90.v m90.h' = true := by kernel_rfl
theorem m90_ok {σ : Nat → Int} {W0 : World} (hL : L0 W0) (hk : Known2 σ [((-9223372036854775808), 9223372036854775807), ((-9223372036854775808), 9223372036854775807), ((-9223372036854775808), 9223372036854775807), (16, 59)] []) : MemoOk Tryd.prog 4095 σ W0 21 m90 := memo_ok fit hk (FnsOk.cons (pure_fn_ok (l13_ok hL)) ((q0_ok hL))) m90_run
noncomputable def q27 : Fns := [(5, pureFn [p0]), (8, frameFn [m89]), (51, itoaFn), (114, countFn), (129, indexFn)]
theorem q27_ok {σ : Nat → Int} {W0 : World} (hL : L0 W0) : FnsOk Tryd.prog 4095 σ W0 q27 := FnsOk.cons (pure_fn_ok (all_cons (p0_ok hL) (all_nil))) (FnsOk.cons (frame_fn_ok (all_cons (m89_ok hL) (all_nil))) (FnsOk.cons (ext_itoa hL) (FnsOk.cons (ext_count hL) (FnsOk.cons (ext_index hL) (FnsOk.nil)))))
theorem run53 : isTrue (evCall (cxX Tryd.prog bad [((-9223372036854775808), 9223372036854775807), ((-9223372036854775808), 9223372036854775807), ((-9223372036854775808), 9223372036854775807), (16, 59)] [] ((6, numExtE [(0, 10, .lit 3), (1, 60, .var 3), (2, 4, .lit 1)]) :: (21, frameFn [m83, m84, m85, m90]) :: (44, pureFn l7) :: q27)) 1000 60 3 [.int .i64 (.var 0), .int .i64 (.var 1), .int .i64 (.var 2)] (sentH 240 18 errTab)) = true := by kernel_rfl
theorem case53 {σ : Nat → Int} {W : World} (hL : L0 W) (hk : Known2 σ [((-9223372036854775808), 9223372036854775807), ((-9223372036854775808), 9223372036854775807), ((-9223372036854775808), 9223372036854775807), (16, 59)] []) (hT : TabOk Tryd.prog bad 6 σ [(0, 10, .lit 3), (1, 60, .var 3), (2, 4, .lit 1)]) {xs : Array Value} (hv : ∀ ρ, VRs σ ρ [.int .i64 (.var 0), .int .i64 (.var 1), .int .i64 (.var 2)] xs.toList) : Calls Tryd.prog 3 xs W fun e w' => e = .returned (.bool true) ∧ Below W.heap.size W w' := by
  obtain ⟨ads, h1, h2, h3⟩ := errs_sents hL
  exact law_case_x fit h1 h2 h3 errs_all errs_lt (by kernel_rfl) hk (FnsOk.cons (hT.ok fit) (FnsOk.cons (frame_fn_ok (all_cons (m83_ok hL hk) (all_cons (m84_ok hL hk) (all_cons (m85_ok hL hk) (all_cons (m90_ok hL hk) (all_nil)))))) (FnsOk.cons (pure_fn_ok (l7_ok hL)) ((q27_ok hL))))) hv ⟨_, Tryd.func3, rfl⟩ run53
noncomputable def h115 : H := hUpd h75 343 [39] [(42, .cells 1 (rp 33 ([U 0]) ([])) false)] []
noncomputable def h116 : H := hUpd h115 346 [] [] []
noncomputable def m91 : Memo := ⟨[.ptr 311 0, .agg [.slice 42 0 33 33 1 true, I 1, .snil, bF]], h115, .tuple [I 0, .iface 240 (.ptr 21 0)], h116⟩
theorem m91_run : ranTo (evCall (cxX Tryd.prog bad [] [] q0) 1000 60 21 m91.args m91.h) m91.v m91.h' = true := by kernel_rfl
theorem m91_ok {σ : Nat → Int} {W0 : World} (hL : L0 W0) : MemoOk Tryd.prog 4095 σ W0 21 m91 := memo_ok fit (Known2.nil σ) ((q0_ok hL)) m91_run
noncomputable def q28 : Fns := [(5, pureFn [p0]), (8, frameFn [m89]), (21, frameFn [m91]), (51, itoaFn), (114, countFn), (129, indexFn)]
theorem q28_ok {σ : Nat → Int} {W0 : World} (hL : L0 W0) : FnsOk Tryd.prog 4095 σ W0 q28 := FnsOk.cons (pure_fn_ok (all_cons (p0_ok hL) (all_nil))) (FnsOk.cons (frame_fn_ok (all_cons (m89_ok hL) (all_nil))) (FnsOk.cons (frame_fn_ok (all_cons (m91_ok hL) (all_nil))) (FnsOk.cons (ext_itoa hL) (FnsOk.cons (ext_count hL) (FnsOk.cons (ext_index hL) (FnsOk.nil))))))
theorem run54 : isTrue (evCall (cxX Tryd.prog bad [((-9223372036854775808), 9223372036854775807), ((-9223372036854775808), 9223372036854775807), ((-9223372036854775808), 9223372036854775807), (16, 59)] [] ((6, numExtE [(0, 10, .lit 3), (1, 60, .var 3), (2, 4, .lit 2)]) :: q28)) 1000 60 3 [.int .i64 (.var 0), .int .i64 (.var 1), .int .i64 (.var 2)] (sentH 240 18 errTab)) = true := by kernel_rfl
theorem case54 {σ : Nat → Int} {W : World} (hL : L0 W) (hk : Known2 σ [((-9223372036854775808), 9223372036854775807), ((-9223372036854775808), 9223372036854775807), ((-9223372036854775808), 9223372036854775807), (16, 59)] []) (hT : TabOk Tryd.prog bad 6 σ [(0, 10, .lit 3), (1, 60, .var 3), (2, 4, .lit 2)]) {xs : Array Value} (hv : ∀ ρ, VRs σ ρ [.int .i64 (.var 0), .int .i64 (.var 1), .int .i64 (.var 2)] xs.toList) : Calls Tryd.prog 3 xs W fun e w' => e = .returned (.bool true) ∧ Below W.heap.size W w' := by
  obtain ⟨ads, h1, h2, h3⟩ := errs_sents hL
  exact law_case_x fit h1 h2 h3 errs_all errs_lt (by kernel_rfl) hk (FnsOk.cons (hT.ok fit) ((q28_ok hL))) hv ⟨_, Tryd.func3, rfl⟩ run54
noncomputable def h117 : H := hUpc h111 2124 [] [] [(297, 4, [bF, I 0, bF]),
  (299, 4, [I 0, I 0])] [(271, 3, 11, I 0), (271, 3, 16, I 0), (271, 3, 17, I 0), (271, 3, 21, I 0), (271, 3, 26, I 0), (271, 3, 31, I 0), (271, 3, 36, I 0), (271, 3, 96, I 0), (271, 3, 97, I 0)]
noncomputable def m92 : Memo := ⟨[.ptr 311 0, .agg [.slice 39 0 1 1 1 true, IZ (-1), .snil, bF]], h110, .tuple [I 0, .iface 240 (.ptr 20 0)], h117⟩
noncomputable def l15 : List (Pur) := p86 :: p8 :: p77 :: p76 :: []
theorem l15_ok {σ : Nat → Int} {W0 : World} (hL : L0 W0) : ∀ x ∈ l15, PureOk Tryd.prog 4095 σ W0 44 x := all_cons (p86_ok hL) (all_cons (p8_ok hL) (all_cons (p77_ok hL) (all_cons (p76_ok hL) (all_nil))))
theorem m92_run : ranTo (evCall (cxX Tryd.prog bad [((-9223372036854775808), 9223372036854775807), ((-9223372036854775808), 9223372036854775807), ((-9223372036854775808), 9223372036854775807), (16, 59)] [] ((44, pureFn l15) :: q0)) 1000 60 21 m92.args m92.h) m92.v m92.h' = true := by kernel_rfl
theorem m92_ok {σ : Nat → Int} {W0 : World} (hL : L0 W0) (hk : Known2 σ [((-9223372036854775808), 9223372036854775807), ((-9223372036854775808), 9223372036854775807), ((-9223372036854775808), 9223372036854775807), (16, 59)] []) : MemoOk Tryd.prog 4095 σ W0 21 m92 := memo_ok fit hk (FnsOk.cons (pure_fn_ok (l15_ok hL)) ((q0_ok hL))) m92_run
theorem run55 : isTrue (evCall (cxX Tryd.prog bad [((-9223372036854775808), 9223372036854775807), ((-9223372036854775808), 9223372036854775807), ((-9223372036854775808), 9223372036854775807), (16, 59)] [] ((6, numExtE [(0, 10, .lit 3), (1, 60, .var 3), (2, 4, .lit 3)]) :: (21, frameFn [m83, m84, m85, m92]) :: q26)) 1000 60 3 [.int .i64 (.var 0), .int .i64 (.var 1), .int .i64 (.var 2)] (sentH 240 18 errTab)) = true := by kernel_rfl
theorem case55 {σ : Nat → Int} {W : World} (hL : L0 W) (hk : Known2 σ [((-9223372036854775808), 9223372036854775807), ((-9223372036854775808), 9223372036854775807), ((-9223372036854775808), 9223372036854775807), (16, 59)] []) (hT : TabOk Tryd.prog bad 6 σ [(0, 10, .lit 3), (1, 60, .var 3), (2, 4, .lit 3)]) {xs : Array Value} (hv : ∀ ρ, VRs σ ρ [.int .i64 (.var 0), .int .i64 (.var 1), .int .i64 (.var 2)] xs.toList) : Calls Tryd.prog 3 xs W fun e w' => e = .returned (.bool true) ∧ Below W.heap.size W w' := by
  obtain ⟨ads, h1, h2, h3⟩ := errs_sents hL
  exact law_case_x fit h1 h2 h3 errs_all errs_lt (by kernel_rfl) hk (FnsOk.cons (hT.ok fit) (FnsOk.cons (frame_fn_ok (all_cons (m83_ok hL hk) (all_cons (m84_ok hL hk) (all_cons (m85_ok hL hk) (all_cons (m92_ok hL hk) (all_nil)))))) ((q26_ok hL)))) hv ⟨_, Tryd.func3, rfl⟩ run55
noncomputable def h118 : H := hUpd h112 45 [] [] []
noncomputable def m93 : Memo := ⟨[], h118, .agg [I 16, I 24, I 8, I 12, I 8, I 6], h2⟩
theorem m93_run : ranTo (evCall (cxX Tryd.prog bad [] [] q0) 1000 60 8 m93.args m93.h) m93.v m93.h' = true := by kernel_rfl
theorem m93_ok {σ : Nat → Int} {W0 : World} (hL : L0 W0) : MemoOk Tryd.prog 4095 σ W0 8 m93 := memo_ok fit (Known2.nil σ) ((q0_ok hL)) m93_run
noncomputable def q29 : Fns := [(5, pureFn [p0]), (8, frameFn [m93]), (21, frameFn [m2]), (51, itoaFn), (114, countFn), (129, indexFn)]
theorem q29_ok {σ : Nat → Int} {W0 : World} (hL : L0 W0) : FnsOk Tryd.prog 4095 σ W0 q29 := FnsOk.cons (pure_fn_ok (all_cons (p0_ok hL) (all_nil))) (FnsOk.cons (frame_fn_ok (all_cons (m93_ok hL) (all_nil))) (FnsOk.cons (frame_fn_ok (all_cons (m2_ok hL) (all_nil))) (FnsOk.cons (ext_itoa hL) (FnsOk.cons (ext_count hL) (FnsOk.cons (ext_index hL) (FnsOk.nil))))))
theorem run56 : isTrue (evCall (cxX Tryd.prog bad [] [] ((6, numExtE [(0, 10, .lit 4), (1, 60, .lit 0)]) :: q29)) 1000 60 3 [.int .i64 (.var 0), .int .i64 (.var 1), .int .i64 (.var 2)] (sentH 240 18 errTab)) = true := by kernel_rfl
theorem case56 {σ : Nat → Int} {W : World} (hL : L0 W) (hk : Known2 σ [] []) (hT : TabOk Tryd.prog bad 6 σ [(0, 10, .lit 4), (1, 60, .lit 0)]) {xs : Array Value} (hv : ∀ ρ, VRs σ ρ [.int .i64 (.var 0), .int .i64 (.var 1), .int .i64 (.var 2)] xs.toList) : Calls Tryd.prog 3 xs W fun e w' => e = .returned (.bool true) ∧ Below W.heap.size W w' := by
  obtain ⟨ads, h1, h2, h3⟩ := errs_sents hL
  exact law_case_x fit h1 h2 h3 errs_all errs_lt (by kernel_rfl) hk (FnsOk.cons (hT.ok fit) ((q29_ok hL))) hv ⟨_, Tryd.func3, rfl⟩ run56
noncomputable def q30 : Fns := [(5, pureFn [p0]), (8, frameFn [m93]), (21, frameFn [m3]), (51, itoaFn), (114, countFn), (129, indexFn)]
theorem q30_ok {σ : Nat → Int} {W0 : World} (hL : L0 W0) : FnsOk Tryd.prog 4095 σ W0 q30 := FnsOk.cons (pure_fn_ok (all_cons (p0_ok hL) (all_nil))) (FnsOk.cons (frame_fn_ok (all_cons (m93_ok hL) (all_nil))) (FnsOk.cons (frame_fn_ok (all_cons (m3_ok hL) (all_nil))) (FnsOk.cons (ext_itoa hL) (FnsOk.cons (ext_count hL) (FnsOk.cons (ext_index hL) (FnsOk.nil))))))
theorem run57 : isTrue (evCall (cxX Tryd.prog bad [] [] ((6, numExtE [(0, 10, .lit 4), (1, 60, .lit 1)]) :: q30)) 1000 60 3 [.int .i64 (.var 0), .int .i64 (.var 1), .int .i64 (.var 2)] (sentH 240 18 errTab)) = true := by kernel_rfl
theorem case57 {σ : Nat → Int} {W : World} (hL : L0 W) (hk : Known2 σ [] []) (hT : TabOk Tryd.prog bad 6 σ [(0, 10, .lit 4), (1, 60, .lit 1)]) {xs : Array Value} (hv : ∀ ρ, VRs σ ρ [.int .i64 (.var 0), .int .i64 (.var 1), .int .i64 (.var 2)] xs.toList) : Calls Tryd.prog 3 xs W fun e w' => e = .returned (.bool true) ∧ Below W.heap.size W w' := by
  obtain ⟨ads, h1, h2, h3⟩ := errs_sents hL
  exact law_case_x fit h1 h2 h3 errs_all errs_lt (by kernel_rfl) hk (FnsOk.cons (hT.ok fit) ((q30_ok hL))) hv ⟨_, Tryd.func3, rfl⟩ run57
noncomputable def q31 : Fns := [(5, pureFn [p0]), (8, frameFn [m93]), (21, frameFn [m6]), (51, itoaFn), (114, countFn), (129, indexFn)]
theorem q31_ok {σ : Nat → Int} {W0 : World} (hL : L0 W0) : FnsOk Tryd.prog 4095 σ W0 q31 := FnsOk.cons (pure_fn_ok (all_cons (p0_ok hL) (all_nil))) (FnsOk.cons (frame_fn_ok (all_cons (m93_ok hL) (all_nil))) (FnsOk.cons (frame_fn_ok (all_cons (m6_ok hL) (all_nil))) (FnsOk.cons (ext_itoa hL) (FnsOk.cons (ext_count hL) (FnsOk.cons (ext_index hL) (FnsOk.nil))))))
theorem run58 : isTrue (evCall (cxX Tryd.prog bad [] [] ((6, numExtE [(0, 10, .lit 4), (1, 60, .lit 2)]) :: q31)) 1000 60 3 [.int .i64 (.var 0), .int .i64 (.var 1), .int .i64 (.var 2)] (sentH 240 18 errTab)) = true := by kernel_rfl
theorem case58 {σ : Nat → Int} {W : World} (hL : L0 W) (hk : Known2 σ [] []) (hT : TabOk Tryd.prog bad 6 σ [(0, 10, .lit 4), (1, 60, .lit 2)]) {xs : Array Value} (hv : ∀ ρ, VRs σ ρ [.int .i64 (.var 0), .int .i64 (.var 1), .int .i64 (.var 2)] xs.toList) : Calls Tryd.prog 3 xs W fun e w' => e = .returned (.bool true) ∧ Below W.heap.size W w' := by
  obtain ⟨ads, h1, h2, h3⟩ := errs_sents hL
  exact law_case_x fit h1 h2 h3 errs_all errs_lt (by kernel_rfl) hk (FnsOk.cons (hT.ok fit) ((q31_ok hL))) hv ⟨_, Tryd.func3, rfl⟩ run58
noncomputable def q32 : Fns := [(5, pureFn [p0]), (8, frameFn [m93]), (21, frameFn [m7]), (51, itoaFn), (114, countFn), (129, indexFn)]
theorem q32_ok {σ : Nat → Int} {W0 : World} (hL : L0 W0) : FnsOk Tryd.prog 4095 σ W0 q32 := FnsOk.cons (pure_fn_ok (all_cons (p0_ok hL) (all_nil))) (FnsOk.cons (frame_fn_ok (all_cons (m93_ok hL) (all_nil))) (FnsOk.cons (frame_fn_ok (all_cons (m7_ok hL) (all_nil))) (FnsOk.cons (ext_itoa hL) (FnsOk.cons (ext_count hL) (FnsOk.cons (ext_index hL) (FnsOk.nil))))))
theorem run59 : isTrue (evCall (cxX Tryd.prog bad [] [] ((6, numExtE [(0, 10, .lit 4), (1, 60, .lit 3)]) :: q32)) 1000 60 3 [.int .i64 (.var 0), .int .i64 (.var 1), .int .i64 (.var 2)] (sentH 240 18 errTab)) = true := by kernel_rfl
theorem case59 {σ : Nat → Int} {W : World} (hL : L0 W) (hk : Known2 σ [] []) (hT : TabOk Tryd.prog bad 6 σ [(0, 10, .lit 4), (1, 60, .lit 3)]) {xs : Array Value} (hv : ∀ ρ, VRs σ ρ [.int .i64 (.var 0), .int .i64 (.var 1), .int .i64 (.var 2)] xs.toList) : Calls Tryd.prog 3 xs W fun e w' => e = .returned (.bool true) ∧ Below W.heap.size W w' := by
  obtain ⟨ads, h1, h2, h3⟩ := errs_sents hL
  exact law_case_x fit h1 h2 h3 errs_all errs_lt (by kernel_rfl) hk (FnsOk.cons (hT.ok fit) ((q32_ok hL))) hv ⟨_, Tryd.func3, rfl⟩ run59
noncomputable def q33 : Fns := [(5, pureFn [p0]), (8, frameFn [m93]), (51, itoaFn), (114, countFn), (129, indexFn)]
theorem q33_ok {σ : Nat → Int} {W0 : World} (hL : L0 W0) : FnsOk Tryd.prog 4095 σ W0 q33 := FnsOk.cons (pure_fn_ok (all_cons (p0_ok hL) (all_nil))) (FnsOk.cons (frame_fn_ok (all_cons (m93_ok hL) (all_nil))) (FnsOk.cons (ext_itoa hL) (FnsOk.cons (ext_count hL) (FnsOk.cons (ext_index hL) (FnsOk.nil)))))
theorem run60 : isTrue (evCall (cxX Tryd.prog bad [] [] ((6, numExtE [(0, 10, .lit 4), (1, 60, .lit 4)]) :: (21, frameFn [m22, m23]) :: q33)) 1000 60 3 [.int .i64 (.var 0), .int .i64 (.var 1), .int .i64 (.var 2)] (sentH 240 18 errTab)) = true := by kernel_rfl
theorem case60 {σ : Nat → Int} {W : World} (hL : L0 W) (hk : Known2 σ [] []) (hT : TabOk Tryd.prog bad 6 σ [(0, 10, .lit 4), (1, 60, .lit 4)]) {xs : Array Value} (hv : ∀ ρ, VRs σ ρ [.int .i64 (.var 0), .int .i64 (.var 1), .int .i64 (.var 2)] xs.toList) : Calls Tryd.prog 3 xs W fun e w' => e = .returned (.bool true) ∧ Below W.heap.size W w' := by
  obtain ⟨ads, h1, h2, h3⟩ := errs_sents hL
  exact law_case_x fit h1 h2 h3 errs_all errs_lt (by kernel_rfl) hk (FnsOk.cons (hT.ok fit) (FnsOk.cons (frame_fn_ok (all_cons (m22_ok hL) (all_cons (m23_ok hL) (all_nil)))) ((q33_ok hL)))) hv ⟨_, Tryd.func3, rfl⟩ run60
theorem run61 : isTrue (evCall (cxX Tryd.prog bad [] [] ((6, numExtE [(0, 10, .lit 4), (1, 60, .lit 5)]) :: (21, frameFn [m24, m25]) :: q33)) 1000 60 3 [.int .i64 (.var 0), .int .i64 (.var 1), .int .i64 (.var 2)] (sentH 240 18 errTab)) = true := by kernel_rfl
theorem case61 {σ : Nat → Int} {W : World} (hL : L0 W) (hk : Known2 σ [] []) (hT : TabOk Tryd.prog bad 6 σ [(0, 10, .lit 4), (1, 60, .lit 5)]) {xs : Array Value} (hv : ∀ ρ, VRs σ ρ [.int .i64 (.var 0), .int .i64 (.var 1), .int .i64 (.var 2)] xs.toList) : Calls Tryd.prog 3 xs W fun e w' => e = .returned (.bool true) ∧ Below W.heap.size W w' := by
  obtain ⟨ads, h1, h2, h3⟩ := errs_sents hL
  exact law_case_x fit h1 h2 h3 errs_all errs_lt (by kernel_rfl) hk (FnsOk.cons (hT.ok fit) (FnsOk.cons (frame_fn_ok (all_cons (m24_ok hL) (all_cons (m25_ok hL) (all_nil)))) ((q33_ok hL)))) hv ⟨_, Tryd.func3, rfl⟩ run61
theorem run62 : isTrue (evCall (cxX Tryd.prog bad [] [] ((6, numExtE [(0, 10, .lit 4), (1, 60, .lit 6)]) :: (21, frameFn [m26, m29]) :: q33)) 1000 60 3 [.int .i64 (.var 0), .int .i64 (.var 1), .int .i64 (.var 2)] (sentH 240 18 errTab)) = true := by kernel_rfl
theorem case62 {σ : Nat → Int} {W : World} (hL : L0 W) (hk : Known2 σ [] []) (hT : TabOk Tryd.prog bad 6 σ [(0, 10, .lit 4), (1, 60, .lit 6)]) {xs : Array Value} (hv : ∀ ρ, VRs σ ρ [.int .i64 (.var 0), .int .i64 (.var 1), .int .i64 (.var 2)] xs.toList) : Calls Tryd.prog 3 xs W fun e w' => e = .returned (.bool true) ∧ Below W.heap.size W w' := by
  obtain ⟨ads, h1, h2, h3⟩ := errs_sents hL
  exact law_case_x fit h1 h2 h3 errs_all errs_lt (by kernel_rfl) hk (FnsOk.cons (hT.ok fit) (FnsOk.cons (frame_fn_ok (all_cons (m26_ok hL) (all_cons (m29_ok hL) (all_nil)))) ((q33_ok hL)))) hv ⟨_, Tryd.func3, rfl⟩ run62
theorem run63 : isTrue (evCall (cxX Tryd.prog bad [] [] ((6, numExtE [(0, 10, .lit 4), (1, 60, .lit 7)]) :: (21, frameFn [m30, m31]) :: q33)) 1000 60 3 [.int .i64 (.var 0), .int .i64 (.var 1), .int .i64 (.var 2)] (sentH 240 18 errTab)) = true := by kernel_rfl
theorem case63 {σ : Nat → Int} {W : World} (hL : L0 W) (hk : Known2 σ [] []) (hT : TabOk Tryd.prog bad 6 σ [(0, 10, .lit 4), (1, 60, .lit 7)]) {xs : Array Value} (hv : ∀ ρ, VRs σ ρ [.int .i64 (.var 0), .int .i64 (.var 1), .int .i64 (.var 2)] xs.toList) : Calls Tryd.prog 3 xs W fun e w' => e = .returned (.bool true) ∧ Below W.heap.size W w' := by
  obtain ⟨ads, h1, h2, h3⟩ := errs_sents hL
  exact law_case_x fit h1 h2 h3 errs_all errs_lt (by kernel_rfl) hk (FnsOk.cons (hT.ok fit) (FnsOk.cons (frame_fn_ok (all_cons (m30_ok hL) (all_cons (m31_ok hL) (all_nil)))) ((q33_ok hL)))) hv ⟨_, Tryd.func3, rfl⟩ run63
theorem run64 : isTrue (evCall (cxX Tryd.prog bad [] [] ((6, numExtE [(0, 10, .lit 4), (1, 60, .lit 8)]) :: (21, frameFn [m41, m42, m43]) :: q33)) 1000 60 3 [.int .i64 (.var 0), .int .i64 (.var 1), .int .i64 (.var 2)] (sentH 240 18 errTab)) = true := by kernel_rfl
theorem case64 {σ : Nat → Int} {W : World} (hL : L0 W) (hk : Known2 σ [] []) (hT : TabOk Tryd.prog bad 6 σ [(0, 10, .lit 4), (1, 60, .lit 8)]) {xs : Array Value} (hv : ∀ ρ, VRs σ ρ [.int .i64 (.var 0), .int .i64 (.var 1), .int .i64 (.var 2)] xs.toList) : Calls Tryd.prog 3 xs W fun e w' => e = .returned (.bool true) ∧ Below W.heap.size W w' := by
  obtain ⟨ads, h1, h2, h3⟩ := errs_sents hL
  exact law_case_x fit h1 h2 h3 errs_all errs_lt (by kernel_rfl) hk (FnsOk.cons (hT.ok fit) (FnsOk.cons (frame_fn_ok (all_cons (m41_ok hL) (all_cons (m42_ok hL) (all_cons (m43_ok hL) (all_nil))))) ((q33_ok hL)))) hv ⟨_, Tryd.func3, rfl⟩ run64
theorem run65 : isTrue (evCall (cxX Tryd.prog bad [] [] ((6, numExtE [(0, 10, .lit 4), (1, 60, .lit 9)]) :: (21, frameFn [m44, m45, m46]) :: q33)) 1000 60 3 [.int .i64 (.var 0), .int .i64 (.var 1), .int .i64 (.var 2)] (sentH 240 18 errTab)) = true := by kernel_rfl
theorem case65 {σ : Nat → Int} {W : World} (hL : L0 W) (hk : Known2 σ [] []) (hT : TabOk Tryd.prog bad 6 σ [(0, 10, .lit 4), (1, 60, .lit 9)]) {xs : Array Value} (hv : ∀ ρ, VRs σ ρ [.int .i64 (.var 0), .int .i64 (.var 1), .int .i64 (.var 2)] xs.toList) : Calls Tryd.prog 3 xs W fun e w' => e = .returned (.bool true) ∧ Below W.heap.size W w' := by
  obtain ⟨ads, h1, h2, h3⟩ := errs_sents hL
  exact law_case_x fit h1 h2 h3 errs_all errs_lt (by kernel_rfl) hk (FnsOk.cons (hT.ok fit) (FnsOk.cons (frame_fn_ok (all_cons (m44_ok hL) (all_cons (m45_ok hL) (all_cons (m46_ok hL) (all_nil))))) ((q33_ok hL)))) hv ⟨_, Tryd.func3, rfl⟩ run65
theorem run66 : isTrue (evCall (cxX Tryd.prog bad [] [] ((6, numExtE [(0, 10, .lit 4), (1, 60, .lit 10)]) :: (21, frameFn [m47, m48, m51]) :: q33)) 1000 60 3 [.int .i64 (.var 0), .int .i64 (.var 1), .int .i64 (.var 2)] (sentH 240 18 errTab)) = true := by kernel_rfl
theorem case66 {σ : Nat → Int} {W : World} (hL : L0 W) (hk : Known2 σ [] []) (hT : TabOk Tryd.prog bad 6 σ [(0, 10, .lit 4), (1, 60, .lit 10)]) {xs : Array Value} (hv : ∀ ρ, VRs σ ρ [.int .i64 (.var 0), .int .i64 (.var 1), .int .i64 (.var 2)] xs.toList) : Calls Tryd.prog 3 xs W fun e w' => e = .returned (.bool true) ∧ Below W.heap.size W w' := by
  obtain ⟨ads, h1, h2, h3⟩ := errs_sents hL
  exact law_case_x fit h1 h2 h3 errs_all errs_lt (by kernel_rfl) hk (FnsOk.cons (hT.ok fit) (FnsOk.cons (frame_fn_ok (all_cons (m47_ok hL) (all_cons (m48_ok hL) (all_cons (m51_ok hL) (all_nil))))) ((q33_ok hL)))) hv ⟨_, Tryd.func3, rfl⟩ run66
theorem run67 : isTrue (evCall (cxX Tryd.prog bad [] [] ((6, numExtE [(0, 10, .lit 4), (1, 60, .lit 11)]) :: (21, frameFn [m52, m53, m54]) :: q33)) 1000 60 3 [.int .i64 (.var 0), .int .i64 (.var 1), .int .i64 (.var 2)] (sentH 240 18 errTab)) = true := by kernel_rfl
theorem case67 {σ : Nat → Int} {W : World} (hL : L0 W) (hk : Known2 σ [] []) (hT : TabOk Tryd.prog bad 6 σ [(0, 10, .lit 4), (1, 60, .lit 11)]) {xs : Array Value} (hv : ∀ ρ, VRs σ ρ [.int .i64 (.var 0), .int .i64 (.var 1), .int .i64 (.var 2)] xs.toList) : Calls Tryd.prog 3 xs W fun e w' => e = .returned (.bool true) ∧ Below W.heap.size W w' := by
  obtain ⟨ads, h1, h2, h3⟩ := errs_sents hL
  exact law_case_x fit h1 h2 h3 errs_all errs_lt (by kernel_rfl) hk (FnsOk.cons (hT.ok fit) (FnsOk.cons (frame_fn_ok (all_cons (m52_ok hL) (all_cons (m53_ok hL) (all_cons (m54_ok hL) (all_nil))))) ((q33_ok hL)))) hv ⟨_, Tryd.func3, rfl⟩ run67
theorem run68 : isTrue (evCall (cxX Tryd.prog bad [] [] ((6, numExtE [(0, 10, .lit 4), (1, 60, .lit 12)]) :: (21, frameFn l9) :: q33)) 1000 60 3 [.int .i64 (.var 0), .int .i64 (.var 1), .int .i64 (.var 2)] (sentH 240 18 errTab)) = true := by kernel_rfl
theorem case68 {σ : Nat → Int} {W : World} (hL : L0 W) (hk : Known2 σ [] []) (hT : TabOk Tryd.prog bad 6 σ [(0, 10, .lit 4), (1, 60, .lit 12)]) {xs : Array Value} (hv : ∀ ρ, VRs σ ρ [.int .i64 (.var 0), .int .i64 (.var 1), .int .i64 (.var 2)] xs.toList) : Calls Tryd.prog 3 xs W fun e w' => e = .returned (.bool true) ∧ Below W.heap.size W w' := by
  obtain ⟨ads, h1, h2, h3⟩ := errs_sents hL
  exact law_case_x fit h1 h2 h3 errs_all errs_lt (by kernel_rfl) hk (FnsOk.cons (hT.ok fit) (FnsOk.cons (frame_fn_ok (l9_ok hL)) ((q33_ok hL)))) hv ⟨_, Tryd.func3, rfl⟩ run68
theorem run69 : isTrue (evCall (cxX Tryd.prog bad [] [] ((6, numExtE [(0, 10, .lit 4), (1, 60, .lit 13)]) :: (21, frameFn l10) :: q33)) 1000 60 3 [.int .i64 (.var 0), .int .i64 (.var 1), .int .i64 (.var 2)] (sentH 240 18 errTab)) = true := by kernel_rfl
theorem case69 {σ : Nat → Int} {W : World} (hL : L0 W) (hk : Known2 σ [] []) (hT : TabOk Tryd.prog bad 6 σ [(0, 10, .lit 4), (1, 60, .lit 13)]) {xs : Array Value} (hv : ∀ ρ, VRs σ ρ [.int .i64 (.var 0), .int .i64 (.var 1), .int .i64 (.var 2)] xs.toList) : Calls Tryd.prog 3 xs W fun e w' => e = .returned (.bool true) ∧ Below W.heap.size W w' := by
  obtain ⟨ads, h1, h2, h3⟩ := errs_sents hL
  exact law_case_x fit h1 h2 h3 errs_all errs_lt (by kernel_rfl) hk (FnsOk.cons (hT.ok fit) (FnsOk.cons (frame_fn_ok (l10_ok hL)) ((q33_ok hL)))) hv ⟨_, Tryd.func3, rfl⟩ run69
theorem run70 : isTrue (evCall (cxX Tryd.prog bad [] [] ((6, numExtE [(0, 10, .lit 4), (1, 60, .lit 14)]) :: (21, frameFn l11) :: q33)) 1000 60 3 [.int .i64 (.var 0), .int .i64 (.var 1), .int .i64 (.var 2)] (sentH 240 18 errTab)) = true := by kernel_rfl
theorem case70 {σ : Nat → Int} {W : World} (hL : L0 W) (hk : Known2 σ [] []) (hT : TabOk Tryd.prog bad 6 σ [(0, 10, .lit 4), (1, 60, .lit 14)]) {xs : Array Value} (hv : ∀ ρ, VRs σ ρ [.int .i64 (.var 0), .int .i64 (.var 1), .int .i64 (.var 2)] xs.toList) : Calls Tryd.prog 3 xs W fun e w' => e = .returned (.bool true) ∧ Below W.heap.size W w' := by
  obtain ⟨ads, h1, h2, h3⟩ := errs_sents hL
  exact law_case_x fit h1 h2 h3 errs_all errs_lt (by kernel_rfl) hk (FnsOk.cons (hT.ok fit) (FnsOk.cons (frame_fn_ok (l11_ok hL)) ((q33_ok hL)))) hv ⟨_, Tryd.func3, rfl⟩ run70
theorem run71 : isTrue (evCall (cxX Tryd.prog bad [] [] ((6, numExtE [(0, 10, .lit 4), (1, 60, .lit 15)]) :: (21, frameFn l12) :: q33)) 1000 60 3 [.int .i64 (.var 0), .int .i64 (.var 1), .int .i64 (.var 2)] (sentH 240 18 errTab)) = true := by kernel_rfl
theorem case71 {σ : Nat → Int} {W : World} (hL : L0 W) (hk : Known2 σ [] []) (hT : TabOk Tryd.prog bad 6 σ [(0, 10, .lit 4), (1, 60, .lit 15)]) {xs : Array Value} (hv : ∀ ρ, VRs σ ρ [.int .i64 (.var 0), .int .i64 (.var 1), .int .i64 (.var 2)] xs.toList) : Calls Tryd.prog 3 xs W fun e w' => e = .returned (.bool true) ∧ Below W.heap.size W w' := by
  obtain ⟨ads, h1, h2, h3⟩ := errs_sents hL
  exact law_case_x fit h1 h2 h3 errs_all errs_lt (by kernel_rfl) hk (FnsOk.cons (hT.ok fit) (FnsOk.cons (frame_fn_ok (l12_ok hL)) ((q33_ok hL)))) hv ⟨_, Tryd.func3, rfl⟩ run71
noncomputable def h119 : H := hUpd h86 343 [] [] [(303, 0, [IZ (-1), I 16, I 0])]
noncomputable def h120 : H := hUpd h87 818 [] [] [(303, 0, [IZ (-1), I 16, I 4])]
noncomputable def m94 : Memo := ⟨[.ptr 311 0, .agg [.slice 30 0 1 1 1 true, I 1, .snil, bF]], h119, .tuple [I 0, .inil], h120⟩
theorem m94_run : ranTo (evCall (cxX Tryd.prog bad [] [] ((44, pureFn l0) :: q0)) 1000 60 21 m94.args m94.h) m94.v m94.h' = true := by kernel_rfl
theorem m94_ok {σ : Nat → Int} {W0 : World} (hL : L0 W0) : MemoOk Tryd.prog 4095 σ W0 21 m94 := memo_ok fit (Known2.nil σ) (FnsOk.cons (pure_fn_ok (l0_ok hL)) ((q0_ok hL))) m94_run
noncomputable def h121 : H := hUpd h88 821 [] [] [(303, 0, [IZ (-1), I 16, I 4])]
noncomputable def h122 : H := hUpd h89 1296 [] [] [(303, 0, [IZ (-1), I 16, I 8])]
noncomputable def m95 : Memo := ⟨[.ptr 311 0, .agg [.slice 33 0 1 1 1 true, I 1, .snil, bF]], h121, .tuple [I 1, .inil], h122⟩
theorem m95_run : ranTo (evCall (cxX Tryd.prog bad [] [] ((44, pureFn l3) :: q0)) 1000 60 21 m95.args m95.h) m95.v m95.h' = true := by kernel_rfl
theorem m95_ok {σ : Nat → Int} {W0 : World} (hL : L0 W0) : MemoOk Tryd.prog 4095 σ W0 21 m95 := memo_ok fit (Known2.nil σ) (FnsOk.cons (pure_fn_ok (l3_ok hL)) ((q0_ok hL))) m95_run
noncomputable def h123 : H := hUpd h90 1299 [] [] [(303, 0, [IZ (-1), I 16, I 8])]
noncomputable def h124 : H := hUpd h91 1774 [] [] [(303, 0, [IZ (-1), I 16, I 12])]
noncomputable def m96 : Memo := ⟨[.ptr 311 0, .agg [.slice 36 0 1 1 1 true, I 1, .snil, bF]], h123, .tuple [I 2, .inil], h124⟩
theorem m96_run : ranTo (evCall (cxX Tryd.prog bad [] [] ((44, pureFn l6) :: q0)) 1000 60 21 m96.args m96.h) m96.v m96.h' = true := by kernel_rfl
theorem m96_ok {σ : Nat → Int} {W0 : World} (hL : L0 W0) : MemoOk Tryd.prog 4095 σ W0 21 m96 := memo_ok fit (Known2.nil σ) (FnsOk.cons (pure_fn_ok (l6_ok hL)) ((q0_ok hL))) m96_run
noncomputable def h125 : H := hUpd h85 1777 [] [] [(303, 0, [IZ (-1), I 16, I 12])]
noncomputable def h126 : H := hUpd h111 2252 [] [] [(303, 0, [IZ (-1), I 16, I 16])]
noncomputable def m97 : Memo := ⟨[.ptr 311 0, .agg [.slice 39 0 1 1 1 true, I 1, .snil, bF]], h125, .tuple [I 3, .inil], h126⟩
theorem m97_run : ranTo (evCall (cxX Tryd.prog bad [] [] ((44, pureFn l13) :: q0)) 1000 60 21 m97.args m97.h) m97.v m97.h' = true := by kernel_rfl
theorem m97_ok {σ : Nat → Int} {W0 : World} (hL : L0 W0) : MemoOk Tryd.prog 4095 σ W0 21 m97 := memo_ok fit (Known2.nil σ) (FnsOk.cons (pure_fn_ok (l13_ok hL)) ((q0_ok hL))) m97_run
noncomputable def h127 : H := hUpd h126 2255 [39] [(42, .cells 1 ([[U 4]]) false)] []
noncomputable def h128 : H := hUpd h127 2286 [] [] []
noncomputable def m98 : Memo := ⟨[.ptr 311 0, .agg [.slice 42 0 1 1 1 true, I 1, .snil, bF]], h127, .tuple [I 0, .iface 240 (.ptr 24 0)], h128⟩
theorem m98_run : ranTo (evCall (cxX Tryd.prog bad [] [] q0) 1000 60 21 m98.args m98.h) m98.v m98.h' = true := by kernel_rfl
theorem m98_ok {σ : Nat → Int} {W0 : World} (hL : L0 W0) : MemoOk Tryd.prog 4095 σ W0 21 m98 := memo_ok fit (Known2.nil σ) ((q0_ok hL)) m98_run
noncomputable def l16 : List (Memo) := m98 :: m97 :: m96 :: m95 :: m94 :: []
theorem l16_ok {σ : Nat → Int} {W0 : World} (hL : L0 W0) : ∀ x ∈ l16, MemoOk Tryd.prog 4095 σ W0 21 x := all_cons (m98_ok hL) (all_cons (m97_ok hL) (all_cons (m96_ok hL) (all_cons (m95_ok hL) (all_cons (m94_ok hL) (all_nil)))))
theorem run72 : isTrue (evCall (cxX Tryd.prog bad [] [] ((6, numExtE [(0, 10, .lit 4), (1, 60, .lit 16)]) :: (21, frameFn l16) :: q33)) 1000 60 3 [.int .i64 (.var 0), .int .i64 (.var 1), .int .i64 (.var 2)] (sentH 240 18 errTab)) = true := by kernel_rfl
theorem case72 {σ : Nat → Int} {W : World} (hL : L0 W) (hk : Known2 σ [] []) (hT : TabOk Tryd.prog bad 6 σ [(0, 10, .lit 4), (1, 60, .lit 16)]) {xs : Array Value} (hv : ∀ ρ, VRs σ ρ [.int .i64 (.var 0), .int .i64 (.var 1), .int .i64 (.var 2)] xs.toList) : Calls Tryd.prog 3 xs W fun e w' => e = .returned (.bool true) ∧ Below W.heap.size W w' := by
  obtain ⟨ads, h1, h2, h3⟩ := errs_sents hL
  exact law_case_x fit h1 h2 h3 errs_all errs_lt (by kernel_rfl) hk (FnsOk.cons (hT.ok fit) (FnsOk.cons (frame_fn_ok (l16_ok hL)) ((q33_ok hL)))) hv ⟨_, Tryd.func3, rfl⟩ run72
noncomputable def h129 : H := hUpd h94 343 [] [] [(303, 0, [IZ (-1), I 17, I 0])]
noncomputable def h130 : H := hUpd h95 818 [] [] [(303, 0, [IZ (-1), I 17, I 4])]
noncomputable def m99 : Memo := ⟨[.ptr 311 0, .agg [.slice 30 0 1 1 1 true, I 1, .snil, bF]], h129, .tuple [I 0, .inil], h130⟩
theorem m99_run : ranTo (evCall (cxX Tryd.prog bad [] [] ((44, pureFn l0) :: q0)) 1000 60 21 m99.args m99.h) m99.v m99.h' = true := by kernel_rfl
theorem m99_ok {σ : Nat → Int} {W0 : World} (hL : L0 W0) : MemoOk Tryd.prog 4095 σ W0 21 m99 := memo_ok fit (Known2.nil σ) (FnsOk.cons (pure_fn_ok (l0_ok hL)) ((q0_ok hL))) m99_run
noncomputable def h131 : H := hUpd h96 821 [] [] [(303, 0, [IZ (-1), I 17, I 4])]
noncomputable def h132 : H := hUpd h97 1296 [] [] [(303, 0, [IZ (-1), I 17, I 8])]
noncomputable def m100 : Memo := ⟨[.ptr 311 0, .agg [.slice 33 0 1 1 1 true, I 1, .snil, bF]], h131, .tuple [I 1, .inil], h132⟩
theorem m100_run : ranTo (evCall (cxX Tryd.prog bad [] [] ((44, pureFn l3) :: q0)) 1000 60 21 m100.args m100.h) m100.v m100.h' = true := by kernel_rfl
theorem m100_ok {σ : Nat → Int} {W0 : World} (hL : L0 W0) : MemoOk Tryd.prog 4095 σ W0 21 m100 := memo_ok fit (Known2.nil σ) (FnsOk.cons (pure_fn_ok (l3_ok hL)) ((q0_ok hL))) m100_run
noncomputable def h133 : H := hUpd h98 1299 [] [] [(303, 0, [IZ (-1), I 17, I 8])]
noncomputable def h134 : H := hUpd h99 1774 [] [] [(303, 0, [IZ (-1), I 17, I 12])]
noncomputable def m101 : Memo := ⟨[.ptr 311 0, .agg [.slice 36 0 1 1 1 true, I 1, .snil, bF]], h133, .tuple [I 2, .inil], h134⟩
theorem m101_run : ranTo (evCall (cxX Tryd.prog bad [] [] ((44, pureFn l6) :: q0)) 1000 60 21 m101.args m101.h) m101.v m101.h' = true := by kernel_rfl
theorem m101_ok {σ : Nat → Int} {W0 : World} (hL : L0 W0) : MemoOk Tryd.prog 4095 σ W0 21 m101 := memo_ok fit (Known2.nil σ) (FnsOk.cons (pure_fn_ok (l6_ok hL)) ((q0_ok hL))) m101_run
noncomputable def h135 : H := hUpd h100 1777 [] [] [(303, 0, [IZ (-1), I 17, I 12])]
noncomputable def h136 : H := hUpd h111 2252 [] [] [(303, 0, [IZ (-1), I 17, I 16])]
noncomputable def m102 : Memo := ⟨[.ptr 311 0, .agg [.slice 39 0 1 1 1 true, I 1, .snil, bF]], h135, .tuple [I 3, .inil], h136⟩
theorem m102_run : ranTo (evCall (cxX Tryd.prog bad [] [] ((44, pureFn l13) :: q0)) 1000 60 21 m102.args m102.h) m102.v m102.h' = true := by kernel_rfl
theorem m102_ok {σ : Nat → Int} {W0 : World} (hL : L0 W0) : MemoOk Tryd.prog 4095 σ W0 21 m102 := memo_ok fit (Known2.nil σ) (FnsOk.cons (pure_fn_ok (l13_ok hL)) ((q0_ok hL))) m102_run
noncomputable def h137 : H := hUpd h127 2255 [] [] [(303, 0, [IZ (-1), I 17, I 16])]
noncomputable def h138 : H := hUpc h127 2349 [] [(304, .map [(.agg [I 3, I 0], .agg [I 0, I 0], 0), (.agg [I 3, I 1], .agg [I 0, I 0], 1), (.agg [I 2, I 0], .agg [I 0, I 0], 2), (.agg [I 4, I 0], .agg [I 0, I 0], 3), (.agg [I 3, I 2], .agg [I 0, I 0], 4), (.agg [I 3, I 3], .agg [I 0, I 0], 5), (.agg [I 2, I 1], .agg [I 0, I 0], 6), (.agg [I 4, I 1], .agg [I 0, I 0], 7), (.agg [I 3, I 4], .agg [I 0, I 0], 8), (.agg [I 3, I 5], .agg [I 0, I 0], 9), (.agg [I 2, I 2], .agg [I 0, I 0], 10), (.agg [I 4, I 2], .agg [I 0, I 0], 11), (.agg [I 3, I 6], .agg [I 0, I 0], 12), (.agg [I 3, I 7], .agg [I 0, I 0], 13), (.agg [I 2, I 3], .agg [I 0, I 0], 14), (.agg [I 4, I 3], .agg [I 0, I 0], 15), (.agg [I 3, I 8], .agg [I 0, I 0], 16)] 17)] [(262, 8, [bT, I 0, bF]),
  (303, 0, [IZ (-1), I 17, I 17])] [(264, 8, 0, U 4)]
noncomputable def m103 : Memo := ⟨[.ptr 311 0, .agg [.slice 42 0 1 1 1 true, I 1, .snil, bF]], h137, .tuple [I 0, .iface 240 (.ptr 24 0)], h138⟩
theorem m103_run : ranTo (evCall (cxX Tryd.prog bad [] [] q0) 1000 60 21 m103.args m103.h) m103.v m103.h' = true := by kernel_rfl
theorem m103_ok {σ : Nat → Int} {W0 : World} (hL : L0 W0) : MemoOk Tryd.prog 4095 σ W0 21 m103 := memo_ok fit (Known2.nil σ) ((q0_ok hL)) m103_run
noncomputable def l17 : List (Memo) := m103 :: m102 :: m101 :: m100 :: m99 :: []
theorem l17_ok {σ : Nat → Int} {W0 : World} (hL : L0 W0) : ∀ x ∈ l17, MemoOk Tryd.prog 4095 σ W0 21 x := all_cons (m103_ok hL) (all_cons (m102_ok hL) (all_cons (m101_ok hL) (all_cons (m100_ok hL) (all_cons (m99_ok hL) (all_nil)))))
theorem run73 : isTrue (evCall (cxX Tryd.prog bad [] [] ((6, numExtE [(0, 10, .lit 4), (1, 60, .lit 17)]) :: (21, frameFn l17) :: q33)) 1000 60 3 [.int .i64 (.var 0), .int .i64 (.var 1), .int .i64 (.var 2)] (sentH 240 18 errTab)) = true := by kernel_rfl
theorem case73 {σ : Nat → Int} {W : World} (hL : L0 W) (hk : Known2 σ [] []) (hT : TabOk Tryd.prog bad 6 σ [(0, 10, .lit 4), (1, 60, .lit 17)]) {xs : Array Value} (hv : ∀ ρ, VRs σ ρ [.int .i64 (.var 0), .int .i64 (.var 1), .int .i64 (.var 2)] xs.toList) : Calls Tryd.prog 3 xs W fun e w' => e = .returned (.bool true) ∧ Below W.heap.size W w' := by
  obtain ⟨ads, h1, h2, h3⟩ := errs_sents hL
  exact law_case_x fit h1 h2 h3 errs_all errs_lt (by kernel_rfl) hk (FnsOk.cons (hT.ok fit) (FnsOk.cons (frame_fn_ok (l17_ok hL)) ((q33_ok hL)))) hv ⟨_, Tryd.func3, rfl⟩ run73
noncomputable def h139 : H := hUpd h102 343 [] [] [(303, 0, [IZ (-1), I 18, I 0])]
noncomputable def h140 : H := hUpd h103 818 [] [] [(303, 0, [IZ (-1), I 18, I 4])]
noncomputable def m104 : Memo := ⟨[.ptr 311 0, .agg [.slice 30 0 1 1 1 true, I 1, .snil, bF]], h139, .tuple [I 0, .inil], h140⟩
theorem m104_run : ranTo (evCall (cxX Tryd.prog bad [] [] ((44, pureFn l0) :: q0)) 1000 60 21 m104.args m104.h) m104.v m104.h' = true := by kernel_rfl
theorem m104_ok {σ : Nat → Int} {W0 : World} (hL : L0 W0) : MemoOk Tryd.prog 4095 σ W0 21 m104 := memo_ok fit (Known2.nil σ) (FnsOk.cons (pure_fn_ok (l0_ok hL)) ((q0_ok hL))) m104_run
noncomputable def h141 : H := hUpd h104 821 [] [] [(303, 0, [IZ (-1), I 18, I 4])]
noncomputable def h142 : H := hUpd h105 1296 [] [] [(303, 0, [IZ (-1), I 18, I 8])]
noncomputable def m105 : Memo := ⟨[.ptr 311 0, .agg [.slice 33 0 1 1 1 true, I 1, .snil, bF]], h141, .tuple [I 1, .inil], h142⟩
theorem m105_run : ranTo (evCall (cxX Tryd.prog bad [] [] ((44, pureFn l3) :: q0)) 1000 60 21 m105.args m105.h) m105.v m105.h' = true := by kernel_rfl
theorem m105_ok {σ : Nat → Int} {W0 : World} (hL : L0 W0) : MemoOk Tryd.prog 4095 σ W0 21 m105 := memo_ok fit (Known2.nil σ) (FnsOk.cons (pure_fn_ok (l3_ok hL)) ((q0_ok hL))) m105_run
noncomputable def h143 : H := hUpd h106 1299 [] [] [(303, 0, [IZ (-1), I 18, I 8])]
noncomputable def h144 : H := hUpd h107 1774 [] [] [(303, 0, [IZ (-1), I 18, I 12])]
noncomputable def m106 : Memo := ⟨[.ptr 311 0, .agg [.slice 36 0 1 1 1 true, I 1, .snil, bF]], h143, .tuple [I 2, .inil], h144⟩
theorem m106_run : ranTo (evCall (cxX Tryd.prog bad [] [] ((44, pureFn l6) :: q0)) 1000 60 21 m106.args m106.h) m106.v m106.h' = true := by kernel_rfl
theorem m106_ok {σ : Nat → Int} {W0 : World} (hL : L0 W0) : MemoOk Tryd.prog 4095 σ W0 21 m106 := memo_ok fit (Known2.nil σ) (FnsOk.cons (pure_fn_ok (l6_ok hL)) ((q0_ok hL))) m106_run
noncomputable def h145 : H := hUpd h108 1777 [] [] [(303, 0, [IZ (-1), I 18, I 12])]
noncomputable def h146 : H := hUpd h111 2252 [] [] [(303, 0, [IZ (-1), I 18, I 16])]
noncomputable def m107 : Memo := ⟨[.ptr 311 0, .agg [.slice 39 0 1 1 1 true, I 1, .snil, bF]], h145, .tuple [I 3, .inil], h146⟩
theorem m107_run : ranTo (evCall (cxX Tryd.prog bad [] [] ((44, pureFn l13) :: q0)) 1000 60 21 m107.args m107.h) m107.v m107.h' = true := by kernel_rfl
theorem m107_ok {σ : Nat → Int} {W0 : World} (hL : L0 W0) : MemoOk Tryd.prog 4095 σ W0 21 m107 := memo_ok fit (Known2.nil σ) (FnsOk.cons (pure_fn_ok (l13_ok hL)) ((q0_ok hL))) m107_run
noncomputable def p108 : Pur := ([.agg [I 3, I 8, I 0, I 0, U 0]], .inil, 1048576)
theorem p108_run : ranPure (evCall (cxX Tryd.prog bad [] [] q0) 1000 60 44 p108.1 ⟨.lf, p108.2.2⟩) p108.2.1 = true := by kernel_rfl
theorem p108_ok {σ : Nat → Int} {W0 : World} (hL : L0 W0) : PureOk Tryd.prog 4095 σ W0 44 p108 := pure_ok fit (Known2.nil σ) ((q0_ok hL)) p108_run
noncomputable def p109 : Pur := ([.agg [I 3, I 9, I 0, I 0, U 0]], .inil, 1048576)
theorem p109_run : ranPure (evCall (cxX Tryd.prog bad [] [] q0) 1000 60 44 p109.1 ⟨.lf, p109.2.2⟩) p109.2.1 = true := by kernel_rfl
theorem p109_ok {σ : Nat → Int} {W0 : World} (hL : L0 W0) : PureOk Tryd.prog 4095 σ W0 44 p109 := pure_ok fit (Known2.nil σ) ((q0_ok hL)) p109_run
noncomputable def h147 : H := hUpd h127 2255 [] [] [(303, 0, [IZ (-1), I 18, I 16])]
noncomputable def h148 : H := hUpd h138 2460 [] [(304, .map [(.agg [I 3, I 0], .agg [I 0, I 0], 0), (.agg [I 3, I 1], .agg [I 0, I 0], 1), (.agg [I 2, I 0], .agg [I 0, I 0], 2), (.agg [I 4, I 0], .agg [I 0, I 0], 3), (.agg [I 3, I 2], .agg [I 0, I 0], 4), (.agg [I 3, I 3], .agg [I 0, I 0], 5), (.agg [I 2, I 1], .agg [I 0, I 0], 6), (.agg [I 4, I 1], .agg [I 0, I 0], 7), (.agg [I 3, I 4], .agg [I 0, I 0], 8), (.agg [I 3, I 5], .agg [I 0, I 0], 9), (.agg [I 2, I 2], .agg [I 0, I 0], 10), (.agg [I 4, I 2], .agg [I 0, I 0], 11), (.agg [I 3, I 6], .agg [I 0, I 0], 12), (.agg [I 3, I 7], .agg [I 0, I 0], 13), (.agg [I 2, I 3], .agg [I 0, I 0], 14), (.agg [I 4, I 3], .agg [I 0, I 0], 15), (.agg [I 3, I 8], .agg [I 0, I 0], 16), (.agg [I 3, I 9], .agg [I 0, I 0], 17)] 18)] [(262, 9, [bT, I 0, bF]),
  (303, 0, [IZ (-1), I 18, I 18])]
noncomputable def m110 : Memo := ⟨[.ptr 311 0, .agg [.slice 42 0 1 1 1 true, I 1, .snil, bF]], h147, .tuple [I 0, .iface 240 (.ptr 24 0)], h148⟩
theorem m110_run : ranTo (evCall (cxX Tryd.prog bad [] [] ((44, pureFn [p108, p109]) :: q0)) 1000 60 21 m110.args m110.h) m110.v m110.h' = true := by kernel_rfl
theorem m110_ok {σ : Nat → Int} {W0 : World} (hL : L0 W0) : MemoOk Tryd.prog 4095 σ W0 21 m110 := memo_ok fit (Known2.nil σ) (FnsOk.cons (pure_fn_ok (all_cons (p108_ok hL) (all_cons (p109_ok hL) (all_nil)))) ((q0_ok hL))) m110_run
noncomputable def l18 : List (Memo) := m110 :: m107 :: m106 :: m105 :: m104 :: []
theorem l18_ok {σ : Nat → Int} {W0 : World} (hL : L0 W0) : ∀ x ∈ l18, MemoOk Tryd.prog 4095 σ W0 21 x := all_cons (m110_ok hL) (all_cons (m107_ok hL) (all_cons (m106_ok hL) (all_cons (m105_ok hL) (all_cons (m104_ok hL) (all_nil)))))
theorem run74 : isTrue (evCall (cxX Tryd.prog bad [] [] ((6, numExtE [(0, 10, .lit 4), (1, 60, .lit 18)]) :: (21, frameFn l18) :: q33)) 1000 60 3 [.int .i64 (.var 0), .int .i64 (.var 1), .int .i64 (.var 2)] (sentH 240 18 errTab)) = true := by kernel_rfl
theorem case74 {σ : Nat → Int} {W : World} (hL : L0 W) (hk : Known2 σ [] []) (hT : TabOk Tryd.prog bad 6 σ [(0, 10, .lit 4), (1, 60, .lit 18)]) {xs : Array Value} (hv : ∀ ρ, VRs σ ρ [.int .i64 (.var 0), .int .i64 (.var 1), .int .i64 (.var 2)] xs.toList) : Calls Tryd.prog 3 xs W fun e w' => e = .returned (.bool true) ∧ Below W.heap.size W w' := by
  obtain ⟨ads, h1, h2, h3⟩ := errs_sents hL
  exact law_case_x fit h1 h2 h3 errs_all errs_lt (by kernel_rfl) hk (FnsOk.cons (hT.ok fit) (FnsOk.cons (frame_fn_ok (l18_ok hL)) ((q33_ok hL)))) hv ⟨_, Tryd.func3, rfl⟩ run74
noncomputable def h149 : H := hUpd h119 343 [] [] [(303, 0, [IZ (-1), I 19, I 0])]
noncomputable def h150 : H := hUpd h120 818 [] [] [(303, 0, [IZ (-1), I 19, I 4])]
noncomputable def m111 : Memo := ⟨[.ptr 311 0, .agg [.slice 30 0 1 1 1 true, I 1, .snil, bF]], h149, .tuple [I 0, .inil], h150⟩
theorem m111_run : ranTo (evCall (cxX Tryd.prog bad [] [] ((44, pureFn l0) :: q0)) 1000 60 21 m111.args m111.h) m111.v m111.h' = true := by kernel_rfl
theorem m111_ok {σ : Nat → Int} {W0 : World} (hL : L0 W0) : MemoOk Tryd.prog 4095 σ W0 21 m111 := memo_ok fit (Known2.nil σ) (FnsOk.cons (pure_fn_ok (l0_ok hL)) ((q0_ok hL))) m111_run
noncomputable def h151 : H := hUpd h121 821 [] [] [(303, 0, [IZ (-1), I 19, I 4])]
noncomputable def h152 : H := hUpd h122 1296 [] [] [(303, 0, [IZ (-1), I 19, I 8])]
noncomputable def m112 : Memo := ⟨[.ptr 311 0, .agg [.slice 33 0 1 1 1 true, I 1, .snil, bF]], h151, .tuple [I 1, .inil], h152⟩
theorem m112_run : ranTo (evCall (cxX Tryd.prog bad [] [] ((44, pureFn l3) :: q0)) 1000 60 21 m112.args m112.h) m112.v m112.h' = true := by kernel_rfl
theorem m112_ok {σ : Nat → Int} {W0 : World} (hL : L0 W0) : MemoOk Tryd.prog 4095 σ W0 21 m112 := memo_ok fit (Known2.nil σ) (FnsOk.cons (pure_fn_ok (l3_ok hL)) ((q0_ok hL))) m112_run
noncomputable def h153 : H := hUpd h123 1299 [] [] [(303, 0, [IZ (-1), I 19, I 8])]
noncomputable def h154 : H := hUpd h124 1774 [] [] [(303, 0, [IZ (-1), I 19, I 12])]
noncomputable def m113 : Memo := ⟨[.ptr 311 0, .agg [.slice 36 0 1 1 1 true, I 1, .snil, bF]], h153, .tuple [I 2, .inil], h154⟩
theorem m113_run : ranTo (evCall (cxX Tryd.prog bad [] [] ((44, pureFn l6) :: q0)) 1000 60 21 m113.args m113.h) m113.v m113.h' = true := by kernel_rfl
theorem m113_ok {σ : Nat → Int} {W0 : World} (hL : L0 W0) : MemoOk Tryd.prog 4095 σ W0 21 m113 := memo_ok fit (Known2.nil σ) (FnsOk.cons (pure_fn_ok (l6_ok hL)) ((q0_ok hL))) m113_run
noncomputable def h155 : H := hUpd h125 1777 [] [] [(303, 0, [IZ (-1), I 19, I 12])]
noncomputable def h156 : H := hUpd h126 2252 [] [] [(303, 0, [IZ (-1), I 19, I 16])]
noncomputable def m114 : Memo := ⟨[.ptr 311 0, .agg [.slice 39 0 1 1 1 true, I 1, .snil, bF]], h155, .tuple [I 3, .inil], h156⟩
theorem m114_run : ranTo (evCall (cxX Tryd.prog bad [] [] ((44, pureFn l13) :: q0)) 1000 60 21 m114.args m114.h) m114.v m114.h' = true := by kernel_rfl
theorem m114_ok {σ : Nat → Int} {W0 : World} (hL : L0 W0) : MemoOk Tryd.prog 4095 σ W0 21 m114 := memo_ok fit (Known2.nil σ) (FnsOk.cons (pure_fn_ok (l13_ok hL)) ((q0_ok hL))) m114_run
noncomputable def h157 : H := hUpd h127 2255 [] [] [(303, 0, [IZ (-1), I 19, I 16])]
noncomputable def h158 : H := hUpc h148 2523 [] [(304, .map [(.agg [I 3, I 0], .agg [I 0, I 0], 0), (.agg [I 3, I 1], .agg [I 0, I 0], 1), (.agg [I 2, I 0], .agg [I 0, I 0], 2), (.agg [I 4, I 0], .agg [I 0, I 0], 3), (.agg [I 3, I 2], .agg [I 0, I 0], 4), (.agg [I 3, I 3], .agg [I 0, I 0], 5), (.agg [I 2, I 1], .agg [I 0, I 0], 6), (.agg [I 4, I 1], .agg [I 0, I 0], 7), (.agg [I 3, I 4], .agg [I 0, I 0], 8), (.agg [I 3, I 5], .agg [I 0, I 0], 9), (.agg [I 2, I 2], .agg [I 0, I 0], 10), (.agg [I 4, I 2], .agg [I 0, I 0], 11), (.agg [I 3, I 6], .agg [I 0, I 0], 12), (.agg [I 3, I 7], .agg [I 0, I 0], 13), (.agg [I 2, I 3], .agg [I 0, I 0], 14), (.agg [I 4, I 3], .agg [I 0, I 0], 15), (.agg [I 3, I 8], .agg [I 0, I 0], 16), (.agg [I 3, I 9], .agg [I 0, I 0], 17), (.agg [I 2, I 4], .agg [I 0, I 0], 18)] 19)] [(258, 4, [bT, I 0, bF]),
  (303, 0, [IZ (-1), I 19, I 19])] [(260, 4, 0, I 3), (260, 4, 1, I 8), (260, 4, 5, I 3), (260, 4, 6, I 9)]
noncomputable def m115 : Memo := ⟨[.ptr 311 0, .agg [.slice 42 0 1 1 1 true, I 1, .snil, bF]], h157, .tuple [I 0, .iface 240 (.ptr 24 0)], h158⟩
theorem m115_run : ranTo (evCall (cxX Tryd.prog bad [] [] ((44, pureFn [p108, p109]) :: q0)) 1000 60 21 m115.args m115.h) m115.v m115.h' = true := by kernel_rfl
theorem m115_ok {σ : Nat → Int} {W0 : World} (hL : L0 W0) : MemoOk Tryd.prog 4095 σ W0 21 m115 := memo_ok fit (Known2.nil σ) (FnsOk.cons (pure_fn_ok (all_cons (p108_ok hL) (all_cons (p109_ok hL) (all_nil)))) ((q0_ok hL))) m115_run
noncomputable def l19 : List (Memo) := m115 :: m114 :: m113 :: m112 :: m111 :: []
theorem l19_ok {σ : Nat → Int} {W0 : World} (hL : L0 W0) : ∀ x ∈ l19, MemoOk Tryd.prog 4095 σ W0 21 x := all_cons (m115_ok hL) (all_cons (m114_ok hL) (all_cons (m113_ok hL) (all_cons (m112_ok hL) (all_cons (m111_ok hL) (all_nil)))))
theorem run75 : isTrue (evCall (cxX Tryd.prog bad [] [] ((6, numExtE [(0, 10, .lit 4), (1, 60, .lit 19)]) :: (21, frameFn l19) :: q33)) 1000 60 3 [.int .i64 (.var 0), .int .i64 (.var 1), .int .i64 (.var 2)] (sentH 240 18 errTab)) = true := by kernel_rfl
theorem case75 {σ : Nat → Int} {W : World} (hL : L0 W) (hk : Known2 σ [] []) (hT : TabOk Tryd.prog bad 6 σ [(0, 10, .lit 4), (1, 60, .lit 19)]) {xs : Array Value} (hv : ∀ ρ, VRs σ ρ [.int .i64 (.var 0), .int .i64 (.var 1), .int .i64 (.var 2)] xs.toList) : Calls Tryd.prog 3 xs W fun e w' => e = .returned (.bool true) ∧ Below W.heap.size W w' := by
  obtain ⟨ads, h1, h2, h3⟩ := errs_sents hL
  exact law_case_x fit h1 h2 h3 errs_all errs_lt (by kernel_rfl) hk (FnsOk.cons (hT.ok fit) (FnsOk.cons (frame_fn_ok (l19_ok hL)) ((q33_ok hL)))) hv ⟨_, Tryd.func3, rfl⟩ run75
noncomputable def m116 : Memo := ⟨[.ptr 311 0, .agg [.slice 30 0 1 1 1 true, I 1, .snil, bF]], h11, .tuple [I 0, .inil], h12⟩
theorem m116_run : ranTo (evCall (cxX Tryd.prog bad [((-9223372036854775808), 9223372036854775807), ((-9223372036854775808), 9223372036854775807), ((-9223372036854775808), 9223372036854775807), (20, 59)] [] ((44, pureFn l0) :: q0)) 1000 60 21 m116.args m116.h) m116.v m116.h' = true := by kernel_rfl
theorem m116_ok {σ : Nat → Int} {W0 : World} (hL : L0 W0) (hk : Known2 σ [((-9223372036854775808), 9223372036854775807), ((-9223372036854775808), 9223372036854775807), ((-9223372036854775808), 9223372036854775807), (20, 59)] []) : MemoOk Tryd.prog 4095 σ W0 21 m116 := memo_ok fit hk (FnsOk.cons (pure_fn_ok (l0_ok hL)) ((q0_ok hL))) m116_run
noncomputable def m117 : Memo := ⟨[.ptr 311 0, .agg [.slice 33 0 1 1 1 true, I 1, .snil, bF]], h36, .tuple [I 1, .inil], h37⟩
theorem m117_run : ranTo (evCall (cxX Tryd.prog bad [((-9223372036854775808), 9223372036854775807), ((-9223372036854775808), 9223372036854775807), ((-9223372036854775808), 9223372036854775807), (20, 59)] [] ((44, pureFn l3) :: q0)) 1000 60 21 m117.args m117.h) m117.v m117.h' = true := by kernel_rfl
theorem m117_ok {σ : Nat → Int} {W0 : World} (hL : L0 W0) (hk : Known2 σ [((-9223372036854775808), 9223372036854775807), ((-9223372036854775808), 9223372036854775807), ((-9223372036854775808), 9223372036854775807), (20, 59)] []) : MemoOk Tryd.prog 4095 σ W0 21 m117 := memo_ok fit hk (FnsOk.cons (pure_fn_ok (l3_ok hL)) ((q0_ok hL))) m117_run
noncomputable def m118 : Memo := ⟨[.ptr 311 0, .agg [.slice 36 0 1 1 1 true, I 1, .snil, bF]], h69, .tuple [I 2, .inil], h70⟩
theorem m118_run : ranTo (evCall (cxX Tryd.prog bad [((-9223372036854775808), 9223372036854775807), ((-9223372036854775808), 9223372036854775807), ((-9223372036854775808), 9223372036854775807), (20, 59)] [] ((44, pureFn l6) :: q0)) 1000 60 21 m118.args m118.h) m118.v m118.h' = true := by kernel_rfl
theorem m118_ok {σ : Nat → Int} {W0 : World} (hL : L0 W0) (hk : Known2 σ [((-9223372036854775808), 9223372036854775807), ((-9223372036854775808), 9223372036854775807), ((-9223372036854775808), 9223372036854775807), (20, 59)] []) : MemoOk Tryd.prog 4095 σ W0 21 m118 := memo_ok fit hk (FnsOk.cons (pure_fn_ok (l6_ok hL)) ((q0_ok hL))) m118_run
noncomputable def m119 : Memo := ⟨[.ptr 311 0, .agg [.slice 39 0 1 1 1 true, I 1, .snil, bF]], h110, .tuple [I 3, .inil], h111⟩
theorem m119_run : ranTo (evCall (cxX Tryd.prog bad [((-9223372036854775808), 9223372036854775807), ((-9223372036854775808), 9223372036854775807), ((-9223372036854775808), 9223372036854775807), (20, 59)] [] ((44, pureFn l13) :: q0)) 1000 60 21 m119.args m119.h) m119.v m119.h' = true := by kernel_rfl
theorem m119_ok {σ : Nat → Int} {W0 : World} (hL : L0 W0) (hk : Known2 σ [((-9223372036854775808), 9223372036854775807), ((-9223372036854775808), 9223372036854775807), ((-9223372036854775808), 9223372036854775807), (20, 59)] []) : MemoOk Tryd.prog 4095 σ W0 21 m119 := memo_ok fit hk (FnsOk.cons (pure_fn_ok (l13_ok hL)) ((q0_ok hL))) m119_run
noncomputable def p120 : Pur := ([.agg [I 2, I 4, I 0, I 0, U 1]], .inil, 1048576)
theorem p120_run : ranPure (evCall (cxX Tryd.prog bad [] [] q0) 1000 60 44 p120.1 ⟨.lf, p120.2.2⟩) p120.2.1 = true := by kernel_rfl
theorem p120_ok {σ : Nat → Int} {W0 : World} (hL : L0 W0) : PureOk Tryd.prog 4095 σ W0 44 p120 := pure_ok fit (Known2.nil σ) ((q0_ok hL)) p120_run
noncomputable def p121 : Pur := ([.agg [I 7, I 5, I 0, I 0, U 0]], .inil, 1048576)
theorem p121_run : ranPure (evCall (cxX Tryd.prog bad [] [] q0) 1000 60 44 p121.1 ⟨.lf, p121.2.2⟩) p121.2.1 = true := by kernel_rfl
theorem p121_ok {σ : Nat → Int} {W0 : World} (hL : L0 W0) : PureOk Tryd.prog 4095 σ W0 44 p121 := pure_ok fit (Known2.nil σ) ((q0_ok hL)) p121_run
noncomputable def h159 : H := hUpd h127 2255 [] [] [(303, 0, [IZ (-1), .int .i64 (.var 3), I 16])]
noncomputable def h160 : H := hUpc h158 2730 [] [(304, .map [(.agg [I 3, I 0], .agg [I 0, I 0], 0), (.agg [I 3, I 1], .agg [I 0, I 0], 1), (.agg [I 2, I 0], .agg [I 0, I 0], 2), (.agg [I 4, I 0], .agg [I 0, I 0], 3), (.agg [I 3, I 2], .agg [I 0, I 0], 4), (.agg [I 3, I 3], .agg [I 0, I 0], 5), (.agg [I 2, I 1], .agg [I 0, I 0], 6), (.agg [I 4, I 1], .agg [I 0, I 0], 7), (.agg [I 3, I 4], .agg [I 0, I 0], 8), (.agg [I 3, I 5], .agg [I 0, I 0], 9), (.agg [I 2, I 2], .agg [I 0, I 0], 10), (.agg [I 4, I 2], .agg [I 0, I 0], 11), (.agg [I 3, I 6], .agg [I 0, I 0], 12), (.agg [I 3, I 7], .agg [I 0, I 0], 13), (.agg [I 2, I 3], .agg [I 0, I 0], 14), (.agg [I 4, I 3], .agg [I 0, I 0], 15), (.agg [I 3, I 8], .agg [I 0, I 0], 16), (.agg [I 3, I 9], .agg [I 0, I 0], 17), (.agg [I 2, I 4], .agg [I 0, I 0], 18), (.agg [I 4, I 4], .agg [I 0, I 0], 19)] 20)] [(269, 4, [bT, I 0, bF]),
  (297, 5, [bT, I 0, bF]),
  (299, 5, [I 0, I 1]),
  (303, 0, [IZ (-1), .int .i64 (.var 3), I 20])] [(271, 4, 9, I 1), (271, 4, 11, I 8), (271, 4, 16, I 7), (271, 4, 17, I 5), (271, 4, 21, I 11), (271, 4, 26, I 12), (271, 4, 31, I 13), (271, 4, 36, I 14), (271, 4, 91, I 2), (271, 4, 92, I 4), (271, 4, 95, U 1), (271, 4, 96, I 7), (271, 4, 97, I 5)]
noncomputable def m122 : Memo := ⟨[.ptr 311 0, .agg [.slice 42 0 1 1 1 true, I 1, .snil, bF]], h159, .tuple [I 4, .inil], h160⟩
noncomputable def l20 : List (Pur) := p15 :: p14 :: p13 :: p12 :: p121 :: p10 :: p120 :: p8 :: p109 :: p108 :: []
theorem l20_ok {σ : Nat → Int} {W0 : World} (hL : L0 W0) : ∀ x ∈ l20, PureOk Tryd.prog 4095 σ W0 44 x := all_cons (p15_ok hL) (all_cons (p14_ok hL) (all_cons (p13_ok hL) (all_cons (p12_ok hL) (all_cons (p121_ok hL) (all_cons (p10_ok hL) (all_cons (p120_ok hL) (all_cons (p8_ok hL) (all_cons (p109_ok hL) (all_cons (p108_ok hL) (all_nil))))))))))
theorem m122_run : ranTo (evCall (cxX Tryd.prog bad [((-9223372036854775808), 9223372036854775807), ((-9223372036854775808), 9223372036854775807), ((-9223372036854775808), 9223372036854775807), (20, 59)] [] ((44, pureFn l20) :: q0)) 1000 60 21 m122.args m122.h) m122.v m122.h' = true := by kernel_rfl
theorem m122_ok {σ : Nat → Int} {W0 : World} (hL : L0 W0) (hk : Known2 σ [((-9223372036854775808), 9223372036854775807), ((-9223372036854775808), 9223372036854775807), ((-9223372036854775808), 9223372036854775807), (20, 59)] []) : MemoOk Tryd.prog 4095 σ W0 21 m122 := memo_ok fit hk (FnsOk.cons (pure_fn_ok (l20_ok hL)) ((q0_ok hL))) m122_run
noncomputable def l21 : List (Pur) := p120 :: p121 :: l14
theorem l21_ok {σ : Nat → Int} {W0 : World} (hL : L0 W0) : ∀ x ∈ l21, PureOk Tryd.prog 4095 σ W0 44 x := all_cons (p120_ok hL) (all_cons (p121_ok hL) ((l14_ok hL)))
theorem run76 : isTrue (evCall (cxX Tryd.prog bad [((-9223372036854775808), 9223372036854775807), ((-9223372036854775808), 9223372036854775807), ((-9223372036854775808), 9223372036854775807), (20, 59)] [] ((6, numExtE [(0, 10, .lit 4), (1, 60, .var 3), (2, 4, .lit 0)]) :: (21, frameFn [m116, m117, m118, m119, m122]) :: (44, pureFn l21) :: q33)) 1000 60 3 [.int .i64 (.var 0), .int .i64 (.var 1), .int .i64 (.var 2)] (sentH 240 18 errTab)) = true := by kernel_rfl
theorem case76 {σ : Nat → Int} {W : World} (hL : L0 W) (hk : Known2 σ [((-9223372036854775808), 9223372036854775807), ((-9223372036854775808), 9223372036854775807), ((-9223372036854775808), 9223372036854775807), (20, 59)] []) (hT : TabOk Tryd.prog bad 6 σ [(0, 10, .lit 4), (1, 60, .var 3), (2, 4, .lit 0)]) {xs : Array Value} (hv : ∀ ρ, VRs σ ρ [.int .i64 (.var 0), .int .i64 (.var 1), .int .i64 (.var 2)] xs.toList) : Calls Tryd.prog 3 xs W fun e w' => e = .returned (.bool true) ∧ Below W.heap.size W w' := by
  obtain ⟨ads, h1, h2, h3⟩ := errs_sents hL
  exact law_case_x fit h1 h2 h3 errs_all errs_lt (by kernel_rfl) hk (FnsOk.cons (hT.ok fit) (FnsOk.cons (frame_fn_ok (all_cons (m116_ok hL hk) (all_cons (m117_ok hL hk) (all_cons (m118_ok hL hk) (all_cons (m119_ok hL hk) (all_cons (m122_ok hL hk) (all_nil))))))) (FnsOk.cons (pure_fn_ok (l21_ok hL)) ((q33_ok hL))))) hv ⟨_, Tryd.func3, rfl⟩ run76
noncomputable def h161 : H := hUpd h0 46 [] [] []
noncomputable def m123 : Memo := ⟨[], h161, .agg [I 16, I 24, I 8, I 12, I 8, I 6], h2⟩
theorem m123_run : ranTo (evCall (cxX Tryd.prog bad [] [] q0) 1000 60 8 m123.args m123.h) m123.v m123.h' = true := by kernel_rfl
theorem m123_ok {σ : Nat → Int} {W0 : World} (hL : L0 W0) : MemoOk Tryd.prog 4095 σ W0 8 m123 := memo_ok fit (Known2.nil σ) ((q0_ok hL)) m123_run
noncomputable def h162 : H := hUpd h159 2255 [] [(45, .cells 1 ([[I 5]]) false)] []
noncomputable def h163 : H := hUpd h160 2730 [] [(45, .cells 1 ([[I 5]]) false)] []
noncomputable def m124 : Memo := ⟨[.ptr 311 0, .agg [.slice 42 0 1 1 1 true, I 1, .slice 45 0 1 1 1 true, bF]], h162, .tuple [I 4, .inil], h163⟩
theorem m124_run : ranTo (evCall (cxX Tryd.prog bad [((-9223372036854775808), 9223372036854775807), ((-9223372036854775808), 9223372036854775807), ((-9223372036854775808), 9223372036854775807), (20, 59)] [] ((44, pureFn l20) :: q0)) 1000 60 21 m124.args m124.h) m124.v m124.h' = true := by kernel_rfl
theorem m124_ok {σ : Nat → Int} {W0 : World} (hL : L0 W0) (hk : Known2 σ [((-9223372036854775808), 9223372036854775807), ((-9223372036854775808), 9223372036854775807), ((-9223372036854775808), 9223372036854775807), (20, 59)] []) : MemoOk Tryd.prog 4095 σ W0 21 m124 := memo_ok fit hk (FnsOk.cons (pure_fn_ok (l20_ok hL)) ((q0_ok hL))) m124_run
noncomputable def q34 : Fns := [(5, pureFn [p0]), (8, frameFn [m123]), (51, itoaFn), (114, countFn), (129, indexFn)]
theorem q34_ok {σ : Nat → Int} {W0 : World} (hL : L0 W0) : FnsOk Tryd.prog 4095 σ W0 q34 := FnsOk.cons (pure_fn_ok (all_cons (p0_ok hL) (all_nil))) (FnsOk.cons (frame_fn_ok (all_cons (m123_ok hL) (all_nil))) (FnsOk.cons (ext_itoa hL) (FnsOk.cons (ext_count hL) (FnsOk.cons (ext_index hL) (FnsOk.nil)))))
theorem run77 : isTrue (evCall (cxX Tryd.prog bad [((-9223372036854775808), 9223372036854775807), ((-9223372036854775808), 9223372036854775807), ((-9223372036854775808), 9223372036854775807), (20, 59)] [] ((6, numExtE [(0, 10, .lit 4), (1, 60, .var 3), (2, 4, .lit 1)]) :: (21, frameFn [m116, m117, m118, m119, m124]) :: (44, pureFn l14) :: q34)) 1000 60 3 [.int .i64 (.var 0), .int .i64 (.var 1), .int .i64 (.var 2)] (sentH 240 18 errTab)) = true := by kernel_rfl
theorem case77 {σ : Nat → Int} {W : World} (hL : L0 W) (hk : Known2 σ [((-9223372036854775808), 9223372036854775807), ((-9223372036854775808), 9223372036854775807), ((-9223372036854775808), 9223372036854775807), (20, 59)] []) (hT : TabOk Tryd.prog bad 6 σ [(0, 10, .lit 4), (1, 60, .var 3), (2, 4, .lit 1)]) {xs : Array Value} (hv : ∀ ρ, VRs σ ρ [.int .i64 (.var 0), .int .i64 (.var 1), .int .i64 (.var 2)] xs.toList) : Calls Tryd.prog 3 xs W fun e w' => e = .returned (.bool true) ∧ Below W.heap.size W w' := by
  obtain ⟨ads, h1, h2, h3⟩ := errs_sents hL
  exact law_case_x fit h1 h2 h3 errs_all errs_lt (by kernel_rfl) hk (FnsOk.cons (hT.ok fit) (FnsOk.cons (frame_fn_ok (all_cons (m116_ok hL hk) (all_cons (m117_ok hL hk) (all_cons (m118_ok hL hk) (all_cons (m119_ok hL hk) (all_cons (m124_ok hL hk) (all_nil))))))) (FnsOk.cons (pure_fn_ok (l14_ok hL)) ((q34_ok hL))))) hv ⟨_, Tryd.func3, rfl⟩ run77
noncomputable def h164 : H := hUpd h129 343 [30] [(45, .cells 1 (rp 33 ([U 0]) ([])) false)] [(303, 0, [IZ (-1), .int .i64 (.var 3), I 0])]
noncomputable def h165 : H := hUpd h164 346 [] [] []
noncomputable def m125 : Memo := ⟨[.ptr 311 0, .agg [.slice 45 0 33 33 1 true, I 1, .snil, bF]], h164, .tuple [I 0, .iface 240 (.ptr 21 0)], h165⟩
theorem m125_run : ranTo (evCall (cxX Tryd.prog bad [] [] q0) 1000 60 21 m125.args m125.h) m125.v m125.h' = true := by kernel_rfl
theorem m125_ok {σ : Nat → Int} {W0 : World} (hL : L0 W0) : MemoOk Tryd.prog 4095 σ W0 21 m125 := memo_ok fit (Known2.nil σ) ((q0_ok hL)) m125_run
noncomputable def q35 : Fns := [(5, pureFn [p0]), (8, frameFn [m123]), (21, frameFn [m125]), (51, itoaFn), (114, countFn), (129, indexFn)]
theorem q35_ok {σ : Nat → Int} {W0 : World} (hL : L0 W0) : FnsOk Tryd.prog 4095 σ W0 q35 := FnsOk.cons (pure_fn_ok (all_cons (p0_ok hL) (all_nil))) (FnsOk.cons (frame_fn_ok (all_cons (m123_ok hL) (all_nil))) (FnsOk.cons (frame_fn_ok (all_cons (m125_ok hL) (all_nil))) (FnsOk.cons (ext_itoa hL) (FnsOk.cons (ext_count hL) (FnsOk.cons (ext_index hL) (FnsOk.nil))))))
theorem run78 : isTrue (evCall (cxX Tryd.prog bad [((-9223372036854775808), 9223372036854775807), ((-9223372036854775808), 9223372036854775807), ((-9223372036854775808), 9223372036854775807), (20, 59)] [] ((6, numExtE [(0, 10, .lit 4), (1, 60, .var 3), (2, 4, .lit 2)]) :: q35)) 1000 60 3 [.int .i64 (.var 0), .int .i64 (.var 1), .int .i64 (.var 2)] (sentH 240 18 errTab)) = true := by kernel_rfl
theorem case78 {σ : Nat → Int} {W : World} (hL : L0 W) (hk : Known2 σ [((-9223372036854775808), 9223372036854775807), ((-9223372036854775808), 9223372036854775807), ((-9223372036854775808), 9223372036854775807), (20, 59)] []) (hT : TabOk Tryd.prog bad 6 σ [(0, 10, .lit 4), (1, 60, .var 3), (2, 4, .lit 2)]) {xs : Array Value} (hv : ∀ ρ, VRs σ ρ [.int .i64 (.var 0), .int .i64 (.var 1), .int .i64 (.var 2)] xs.toList) : Calls Tryd.prog 3 xs W fun e w' => e = .returned (.bool true) ∧ Below W.heap.size W w' := by
  obtain ⟨ads, h1, h2, h3⟩ := errs_sents hL
  exact law_case_x fit h1 h2 h3 errs_all errs_lt (by kernel_rfl) hk (FnsOk.cons (hT.ok fit) ((q35_ok hL))) hv ⟨_, Tryd.func3, rfl⟩ run78
noncomputable def h166 : H := hUpc h160 2602 [] [] [(297, 5, [bF, I 0, bF]),
  (299, 5, [I 0, I 0])] [(271, 4, 11, I 0), (271, 4, 16, I 0), (271, 4, 17, I 0), (271, 4, 21, I 0), (271, 4, 26, I 0), (271, 4, 31, I 0), (271, 4, 36, I 0), (271, 4, 96, I 0), (271, 4, 97, I 0)]
noncomputable def m126 : Memo := ⟨[.ptr 311 0, .agg [.slice 42 0 1 1 1 true, IZ (-1), .snil, bF]], h159, .tuple [I 0, .iface 240 (.ptr 20 0)], h166⟩
noncomputable def l22 : List (Pur) := p120 :: p8 :: p109 :: p108 :: []
theorem l22_ok {σ : Nat → Int} {W0 : World} (hL : L0 W0) : ∀ x ∈ l22, PureOk Tryd.prog 4095 σ W0 44 x := all_cons (p120_ok hL) (all_cons (p8_ok hL) (all_cons (p109_ok hL) (all_cons (p108_ok hL) (all_nil))))
theorem m126_run : ranTo (evCall (cxX Tryd.prog bad [((-9223372036854775808), 9223372036854775807), ((-9223372036854775808), 9223372036854775807), ((-9223372036854775808), 9223372036854775807), (20, 59)] [] ((44, pureFn l22) :: q0)) 1000 60 21 m126.args m126.h) m126.v m126.h' = true := by kernel_rfl
theorem m126_ok {σ : Nat → Int} {W0 : World} (hL : L0 W0) (hk : Known2 σ [((-9223372036854775808), 9223372036854775807), ((-9223372036854775808), 9223372036854775807), ((-9223372036854775808), 9223372036854775807), (20, 59)] []) : MemoOk Tryd.prog 4095 σ W0 21 m126 := memo_ok fit hk (FnsOk.cons (pure_fn_ok (l22_ok hL)) ((q0_ok hL))) m126_run
theorem run79 : isTrue (evCall (cxX Tryd.prog bad [((-9223372036854775808), 9223372036854775807), ((-9223372036854775808), 9223372036854775807), ((-9223372036854775808), 9223372036854775807), (20, 59)] [] ((6, numExtE [(0, 10, .lit 4), (1, 60, .var 3), (2, 4, .lit 3)]) :: (21, frameFn [m116, m117, m118, m119, m126]) :: q33)) 1000 60 3 [.int .i64 (.var 0), .int .i64 (.var 1), .int .i64 (.var 2)] (sentH 240 18 errTab)) = true := by kernel_rfl
theorem case79 {σ : Nat → Int} {W : World} (hL : L0 W) (hk : Known2 σ [((-9223372036854775808), 9223372036854775807), ((-9223372036854775808), 9223372036854775807), ((-9223372036854775808), 9223372036854775807), (20, 59)] []) (hT : TabOk Tryd.prog bad 6 σ [(0, 10, .lit 4), (1, 60, .var 3), (2, 4, .lit 3)]) {xs : Array Value} (hv : ∀ ρ, VRs σ ρ [.int .i64 (.var 0), .int .i64 (.var 1), .int .i64 (.var 2)] xs.toList) : Calls Tryd.prog 3 xs W fun e w' => e = .returned (.bool true) ∧ Below W.heap.size W w' := by
  obtain ⟨ads, h1, h2, h3⟩ := errs_sents hL
  exact law_case_x fit h1 h2 h3 errs_all errs_lt (by kernel_rfl) hk (FnsOk.cons (hT.ok fit) (FnsOk.cons (frame_fn_ok (all_cons (m116_ok hL hk) (all_cons (m117_ok hL hk) (all_cons (m118_ok hL hk) (all_cons (m119_ok hL hk) (all_cons (m126_ok hL hk) (all_nil))))))) ((q33_ok hL)))) hv ⟨_, Tryd.func3, rfl⟩ run79
noncomputable def h167 : H := hUpd h161 48 [] [] []
noncomputable def m127 : Memo := ⟨[], h167, .agg [I 16, I 24, I 8, I 12, I 8, I 6], h2⟩
theorem m127_run : ranTo (evCall (cxX Tryd.prog bad [] [] q0) 1000 60 8 m127.args m127.h) m127.v m127.h' = true := by kernel_rfl
theorem m127_ok {σ : Nat → Int} {W0 : World} (hL : L0 W0) : MemoOk Tryd.prog 4095 σ W0 8 m127 := memo_ok fit (Known2.nil σ) ((q0_ok hL)) m127_run
noncomputable def q36 : Fns := [(5, pureFn [p0]), (8, frameFn [m127]), (21, frameFn [m2]), (51, itoaFn), (114, countFn), (129, indexFn)]
theorem q36_ok {σ : Nat → Int} {W0 : World} (hL : L0 W0) : FnsOk Tryd.prog 4095 σ W0 q36 := FnsOk.cons (pure_fn_ok (all_cons (p0_ok hL) (all_nil))) (FnsOk.cons (frame_fn_ok (all_cons (m127_ok hL) (all_nil))) (FnsOk.cons (frame_fn_ok (all_cons (m2_ok hL) (all_nil))) (FnsOk.cons (ext_itoa hL) (FnsOk.cons (ext_count hL) (FnsOk.cons (ext_index hL) (FnsOk.nil))))))
theorem run80 : isTrue (evCall (cxX Tryd.prog bad [] [] ((6, numExtE [(0, 10, .lit 5), (1, 60, .lit 0)]) :: q36)) 1000 60 3 [.int .i64 (.var 0), .int .i64 (.var 1), .int .i64 (.var 2)] (sentH 240 18 errTab)) = true := by kernel_rfl
theorem case80 {σ : Nat → Int} {W : World} (hL : L0 W) (hk : Known2 σ [] []) (hT : TabOk Tryd.prog bad 6 σ [(0, 10, .lit 5), (1, 60, .lit 0)]) {xs : Array Value} (hv : ∀ ρ, VRs σ ρ [.int .i64 (.var 0), .int .i64 (.var 1), .int .i64 (.var 2)] xs.toList) : Calls Tryd.prog 3 xs W fun e w' => e = .returned (.bool true) ∧ Below W.heap.size W w' := by
  obtain ⟨ads, h1, h2, h3⟩ := errs_sents hL
  exact law_case_x fit h1 h2 h3 errs_all errs_lt (by kernel_rfl) hk (FnsOk.cons (hT.ok fit) ((q36_ok hL))) hv ⟨_, Tryd.func3, rfl⟩ run80
noncomputable def q37 : Fns := [(5, pureFn [p0]), (8, frameFn [m127]), (21, frameFn [m3]), (51, itoaFn), (114, countFn), (129, indexFn)]
theorem q37_ok {σ : Nat → Int} {W0 : World} (hL : L0 W0) : FnsOk Tryd.prog 4095 σ W0 q37 := FnsOk.cons (pure_fn_ok (all_cons (p0_ok hL) (all_nil))) (FnsOk.cons (frame_fn_ok (all_cons (m127_ok hL) (all_nil))) (FnsOk.cons (frame_fn_ok (all_cons (m3_ok hL) (all_nil))) (FnsOk.cons (ext_itoa hL) (FnsOk.cons (ext_count hL) (FnsOk.cons (ext_index hL) (FnsOk.nil))))))
theorem run81 : isTrue (evCall (cxX Tryd.prog bad [] [] ((6, numExtE [(0, 10, .lit 5), (1, 60, .lit 1)]) :: q37)) 1000 60 3 [.int .i64 (.var 0), .int .i64 (.var 1), .int .i64 (.var 2)] (sentH 240 18 errTab)) = true := by kernel_rfl
theorem case81 {σ : Nat → Int} {W : World} (hL : L0 W) (hk : Known2 σ [] []) (hT : TabOk Tryd.prog bad 6 σ [(0, 10, .lit 5), (1, 60, .lit 1)]) {xs : Array Value} (hv : ∀ ρ, VRs σ ρ [.int .i64 (.var 0), .int .i64 (.var 1), .int .i64 (.var 2)] xs.toList) : Calls Tryd.prog 3 xs W fun e w' => e = .returned (.bool true) ∧ Below W.heap.size W w' := by
  obtain ⟨ads, h1, h2, h3⟩ := errs_sents hL
  exact law_case_x fit h1 h2 h3 errs_all errs_lt (by kernel_rfl) hk (FnsOk.cons (hT.ok fit) ((q37_ok hL))) hv ⟨_, Tryd.func3, rfl⟩ run81
noncomputable def q38 : Fns := [(5, pureFn [p0]), (8, frameFn [m127]), (21, frameFn [m6]), (51, itoaFn), (114, countFn), (129, indexFn)]
theorem q38_ok {σ : Nat → Int} {W0 : World} (hL : L0 W0) : FnsOk Tryd.prog 4095 σ W0 q38 := FnsOk.cons (pure_fn_ok (all_cons (p0_ok hL) (all_nil))) (FnsOk.cons (frame_fn_ok (all_cons (m127_ok hL) (all_nil))) (FnsOk.cons (frame_fn_ok (all_cons (m6_ok hL) (all_nil))) (FnsOk.cons (ext_itoa hL) (FnsOk.cons (ext_count hL) (FnsOk.cons (ext_index hL) (FnsOk.nil))))))
theorem run82 : isTrue (evCall (cxX Tryd.prog bad [] [] ((6, numExtE [(0, 10, .lit 5), (1, 60, .lit 2)]) :: q38)) 1000 60 3 [.int .i64 (.var 0), .int .i64 (.var 1), .int .i64 (.var 2)] (sentH 240 18 errTab)) = true := by kernel_rfl
theorem case82 {σ : Nat → Int} {W : World} (hL : L0 W) (hk : Known2 σ [] []) (hT : TabOk Tryd.prog bad 6 σ [(0, 10, .lit 5), (1, 60, .lit 2)]) {xs : Array Value} (hv : ∀ ρ, VRs σ ρ [.int .i64 (.var 0), .int .i64 (.var 1), .int .i64 (.var 2)] xs.toList) : Calls Tryd.prog 3 xs W fun e w' => e = .returned (.bool true) ∧ Below W.heap.size W w' := by
  obtain ⟨ads, h1, h2, h3⟩ := errs_sents hL
  exact law_case_x fit h1 h2 h3 errs_all errs_lt (by kernel_rfl) hk (FnsOk.cons (hT.ok fit) ((q38_ok hL))) hv ⟨_, Tryd.func3, rfl⟩ run82
noncomputable def q39 : Fns := [(5, pureFn [p0]), (8, frameFn [m127]), (21, frameFn [m7]), (51, itoaFn), (114, countFn), (129, indexFn)]
theorem q39_ok {σ : Nat → Int} {W0 : World} (hL : L0 W0) : FnsOk Tryd.prog 4095 σ W0 q39 := FnsOk.cons (pure_fn_ok (all_cons (p0_ok hL) (all_nil))) (FnsOk.cons (frame_fn_ok (all_cons (m127_ok hL) (all_nil))) (FnsOk.cons (frame_fn_ok (all_cons (m7_ok hL) (all_nil))) (FnsOk.cons (ext_itoa hL) (FnsOk.cons (ext_count hL) (FnsOk.cons (ext_index hL) (FnsOk.nil))))))
theorem run83 : isTrue (evCall (cxX Tryd.prog bad [] [] ((6, numExtE [(0, 10, .lit 5), (1, 60, .lit 3)]) :: q39)) 1000 60 3 [.int .i64 (.var 0), .int .i64 (.var 1), .int .i64 (.var 2)] (sentH 240 18 errTab)) = true := by kernel_rfl
theorem case83 {σ : Nat → Int} {W : World} (hL : L0 W) (hk : Known2 σ [] []) (hT : TabOk Tryd.prog bad 6 σ [(0, 10, .lit 5), (1, 60, .lit 3)]) {xs : Array Value} (hv : ∀ ρ, VRs σ ρ [.int .i64 (.var 0), .int .i64 (.var 1), .int .i64 (.var 2)] xs.toList) : Calls Tryd.prog 3 xs W fun e w' => e = .returned (.bool true) ∧ Below W.heap.size W w' := by
  obtain ⟨ads, h1, h2, h3⟩ := errs_sents hL
  exact law_case_x fit h1 h2 h3 errs_all errs_lt (by kernel_rfl) hk (FnsOk.cons (hT.ok fit) ((q39_ok hL))) hv ⟨_, Tryd.func3, rfl⟩ run83
noncomputable def q40 : Fns := [(5, pureFn [p0]), (8, frameFn [m127]), (51, itoaFn), (114, countFn), (129, indexFn)]
theorem q40_ok {σ : Nat → Int} {W0 : World} (hL : L0 W0) : FnsOk Tryd.prog 4095 σ W0 q40 := FnsOk.cons (pure_fn_ok (all_cons (p0_ok hL) (all_nil))) (FnsOk.cons (frame_fn_ok (all_cons (m127_ok hL) (all_nil))) (FnsOk.cons (ext_itoa hL) (FnsOk.cons (ext_count hL) (FnsOk.cons (ext_index hL) (FnsOk.nil)))))
theorem run84 : isTrue (evCall (cxX Tryd.prog bad [] [] ((6, numExtE [(0, 10, .lit 5), (1, 60, .lit 4)]) :: (21, frameFn [m22, m23]) :: q40)) 1000 60 3 [.int .i64 (.var 0), .int .i64 (.var 1), .int .i64 (.var 2)] (sentH 240 18 errTab)) = true := by kernel_rfl
theorem case84 {σ : Nat → Int} {W : World} (hL : L0 W) (hk : Known2 σ [] []) (hT : TabOk Tryd.prog bad 6 σ [(0, 10, .lit 5), (1, 60, .lit 4)]) {xs : Array Value} (hv : ∀ ρ, VRs σ ρ [.int .i64 (.var 0), .int .i64 (.var 1), .int .i64 (.var 2)] xs.toList) : Calls Tryd.prog 3 xs W fun e w' => e = .returned (.bool true) ∧ Below W.heap.size W w' := by
  obtain ⟨ads, h1, h2, h3⟩ := errs_sents hL
  exact law_case_x fit h1 h2 h3 errs_all errs_lt (by kernel_rfl) hk (FnsOk.cons (hT.ok fit) (FnsOk.cons (frame_fn_ok (all_cons (m22_ok hL) (all_cons (m23_ok hL) (all_nil)))) ((q40_ok hL)))) hv ⟨_, Tryd.func3, rfl⟩ run84
theorem run85 : isTrue (evCall (cxX Tryd.prog bad [] [] ((6, numExtE [(0, 10, .lit 5), (1, 60, .lit 5)]) :: (21, frameFn [m24, m25]) :: q40)) 1000 60 3 [.int .i64 (.var 0), .int .i64 (.var 1), .int .i64 (.var 2)] (sentH 240 18 errTab)) = true := by kernel_rfl
theorem case85 {σ : Nat → Int} {W : World} (hL : L0 W) (hk : Known2 σ [] []) (hT : TabOk Tryd.prog bad 6 σ [(0, 10, .lit 5), (1, 60, .lit 5)]) {xs : Array Value} (hv : ∀ ρ, VRs σ ρ [.int .i64 (.var 0), .int .i64 (.var 1), .int .i64 (.var 2)] xs.toList) : Calls Tryd.prog 3 xs W fun e w' => e = .returned (.bool true) ∧ Below W.heap.size W w' := by
  obtain ⟨ads, h1, h2, h3⟩ := errs_sents hL
  exact law_case_x fit h1 h2 h3 errs_all errs_lt (by kernel_rfl) hk (FnsOk.cons (hT.ok fit) (FnsOk.cons (frame_fn_ok (all_cons (m24_ok hL) (all_cons (m25_ok hL) (all_nil)))) ((q40_ok hL)))) hv ⟨_, Tryd.func3, rfl⟩ run85
theorem run86 : isTrue (evCall (cxX Tryd.prog bad [] [] ((6, numExtE [(0, 10, .lit 5), (1, 60, .lit 6)]) :: (21, frameFn [m26, m29]) :: q40)) 1000 60 3 [.int .i64 (.var 0), .int .i64 (.var 1), .int .i64 (.var 2)] (sentH 240 18 errTab)) = true := by kernel_rfl
theorem case86 {σ : Nat → Int} {W : World} (hL : L0 W) (hk : Known2 σ [] []) (hT : TabOk Tryd.prog bad 6 σ [(0, 10, .lit 5), (1, 60, .lit 6)]) {xs : Array Value} (hv : ∀ ρ, VRs σ ρ [.int .i64 (.var 0), .int .i64 (.var 1), .int .i64 (.var 2)] xs.toList) : Calls Tryd.prog 3 xs W fun e w' => e = .returned (.bool true) ∧ Below W.heap.size W w' := by
  obtain ⟨ads, h1, h2, h3⟩ := errs_sents hL
  exact law_case_x fit h1 h2 h3 errs_all errs_lt (by kernel_rfl) hk (FnsOk.cons (hT.ok fit) (FnsOk.cons (frame_fn_ok (all_cons (m26_ok hL) (all_cons (m29_ok hL) (all_nil)))) ((q40_ok hL)))) hv ⟨_, Tryd.func3, rfl⟩ run86
theorem run87 : isTrue (evCall (cxX Tryd.prog bad [] [] ((6, numExtE [(0, 10, .lit 5), (1, 60, .lit 7)]) :: (21, frameFn [m30, m31]) :: q40)) 1000 60 3 [.int .i64 (.var 0), .int .i64 (.var 1), .int .i64 (.var 2)] (sentH 240 18 errTab)) = true := by kernel_rfl
theorem case87 {σ : Nat → Int} {W : World} (hL : L0 W) (hk : Known2 σ [] []) (hT : TabOk Tryd.prog bad 6 σ [(0, 10, .lit 5), (1, 60, .lit 7)]) {xs : Array Value} (hv : ∀ ρ, VRs σ ρ [.int .i64 (.var 0), .int .i64 (.var 1), .int .i64 (.var 2)] xs.toList) : Calls Tryd.prog 3 xs W fun e w' => e = .returned (.bool true) ∧ Below W.heap.size W w' := by
  obtain ⟨ads, h1, h2, h3⟩ := errs_sents hL
  exact law_case_x fit h1 h2 h3 errs_all errs_lt (by kernel_rfl) hk (FnsOk.cons (hT.ok fit) (FnsOk.cons (frame_fn_ok (all_cons (m30_ok hL) (all_cons (m31_ok hL) (all_nil)))) ((q40_ok hL)))) hv ⟨_, Tryd.func3, rfl⟩ run87
theorem run88 : isTrue (evCall (cxX Tryd.prog bad [] [] ((6, numExtE [(0, 10, .lit 5), (1, 60, .lit 8)]) :: (21, frameFn [m41, m42, m43]) :: q40)) 1000 60 3 [.int .i64 (.var 0), .int .i64 (.var 1), .int .i64 (.var 2)] (sentH 240 18 errTab)) = true := by kernel_rfl
theorem case88 {σ : Nat → Int} {W : World} (hL : L0 W) (hk : Known2 σ [] []) (hT : TabOk Tryd.prog bad 6 σ [(0, 10, .lit 5), (1, 60, .lit 8)]) {xs : Array Value} (hv : ∀ ρ, VRs σ ρ [.int .i64 (.var 0), .int .i64 (.var 1), .int .i64 (.var 2)] xs.toList) : Calls Tryd.prog 3 xs W fun e w' => e = .returned (.bool true) ∧ Below W.heap.size W w' := by
  obtain ⟨ads, h1, h2, h3⟩ := errs_sents hL
  exact law_case_x fit h1 h2 h3 errs_all errs_lt (by kernel_rfl) hk (FnsOk.cons (hT.ok fit) (FnsOk.cons (frame_fn_ok (all_cons (m41_ok hL) (all_cons (m42_ok hL) (all_cons (m43_ok hL) (all_nil))))) ((q40_ok hL)))) hv ⟨_, Tryd.func3, rfl⟩ run88
theorem run89 : isTrue (evCall (cxX Tryd.prog bad [] [] ((6, numExtE [(0, 10, .lit 5), (1, 60, .lit 9)]) :: (21, frameFn [m44, m45, m46]) :: q40)) 1000 60 3 [.int .i64 (.var 0), .int .i64 (.var 1), .int .i64 (.var 2)] (sentH 240 18 errTab)) = true := by kernel_rfl
theorem case89 {σ : Nat → Int} {W : World} (hL : L0 W) (hk : Known2 σ [] []) (hT : TabOk Tryd.prog bad 6 σ [(0, 10, .lit 5), (1, 60, .lit 9)]) {xs : Array Value} (hv : ∀ ρ, VRs σ ρ [.int .i64 (.var 0), .int .i64 (.var 1), .int .i64 (.var 2)] xs.toList) : Calls Tryd.prog 3 xs W fun e w' => e = .returned (.bool true) ∧ Below W.heap.size W w' := by
  obtain ⟨ads, h1, h2, h3⟩ := errs_sents hL
  exact law_case_x fit h1 h2 h3 errs_all errs_lt (by kernel_rfl) hk (FnsOk.cons (hT.ok fit) (FnsOk.cons (frame_fn_ok (all_cons (m44_ok hL) (all_cons (m45_ok hL) (all_cons (m46_ok hL) (all_nil))))) ((q40_ok hL)))) hv ⟨_, Tryd.func3, rfl⟩ run89
theorem run90 : isTrue (evCall (cxX Tryd.prog bad [] [] ((6, numExtE [(0, 10, .lit 5), (1, 60, .lit 10)]) :: (21, frameFn [m47, m48, m51]) :: q40)) 1000 60 3 [.int .i64 (.var 0), .int .i64 (.var 1), .int .i64 (.var 2)] (sentH 240 18 errTab)) = true := by kernel_rfl
theorem case90 {σ : Nat → Int} {W : World} (hL : L0 W) (hk : Known2 σ [] []) (hT : TabOk Tryd.prog bad 6 σ [(0, 10, .lit 5), (1, 60, .lit 10)]) {xs : Array Value} (hv : ∀ ρ, VRs σ ρ [.int .i64 (.var 0), .int .i64 (.var 1), .int .i64 (.var 2)] xs.toList) : Calls Tryd.prog 3 xs W fun e w' => e = .returned (.bool true) ∧ Below W.heap.size W w' := by
  obtain ⟨ads, h1, h2, h3⟩ := errs_sents hL
  exact law_case_x fit h1 h2 h3 errs_all errs_lt (by kernel_rfl) hk (FnsOk.cons (hT.ok fit) (FnsOk.cons (frame_fn_ok (all_cons (m47_ok hL) (all_cons (m48_ok hL) (all_cons (m51_ok hL) (all_nil))))) ((q40_ok hL)))) hv ⟨_, Tryd.func3, rfl⟩ run90
theorem run91 : isTrue (evCall (cxX Tryd.prog bad [] [] ((6, numExtE [(0, 10, .lit 5), (1, 60, .lit 11)]) :: (21, frameFn [m52, m53, m54]) :: q40)) 1000 60 3 [.int .i64 (.var 0), .int .i64 (.var 1), .int .i64 (.var 2)] (sentH 240 18 errTab)) = true := by kernel_rfl
theorem case91 {σ : Nat → Int} {W : World} (hL : L0 W) (hk : Known2 σ [] []) (hT : TabOk Tryd.prog bad 6 σ [(0, 10, .lit 5), (1, 60, .lit 11)]) {xs : Array Value} (hv : ∀ ρ, VRs σ ρ [.int .i64 (.var 0), .int .i64 (.var 1), .int .i64 (.var 2)] xs.toList) : Calls Tryd.prog 3 xs W fun e w' => e = .returned (.bool true) ∧ Below W.heap.size W w' := by
  obtain ⟨ads, h1, h2, h3⟩ := errs_sents hL
  exact law_case_x fit h1 h2 h3 errs_all errs_lt (by kernel_rfl) hk (FnsOk.cons (hT.ok fit) (FnsOk.cons (frame_fn_ok (all_cons (m52_ok hL) (all_cons (m53_ok hL) (all_cons (m54_ok hL) (all_nil))))) ((q40_ok hL)))) hv ⟨_, Tryd.func3, rfl⟩ run91
end Go.Proofs.YtkfhelmjaoepiaaDoor.bootRoom
