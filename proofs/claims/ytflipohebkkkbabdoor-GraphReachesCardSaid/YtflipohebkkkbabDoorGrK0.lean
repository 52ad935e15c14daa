/- graphReaches: calls that are run once, and the runs of the cases (part 0). -/
import Derived.Test.YtflipohebkkkbabDoorEvGrF
set_option linter.unusedVariables false
set_option maxRecDepth 10000000
namespace Go.Proofs.YtflipohebkkkbabDoor.graphReaches
open Tk
open Go.RowKit
noncomputable def h0 : H := sentH 201 7 errTab
noncomputable def p0 : List V × V := ([], bT)
theorem p0_run : ranPure (evCall (cxX Tryd.prog bad [] [] []) 1000 60 17 p0.1 ⟨.lf, farN⟩) p0.2 = true := by kernel_rfl
theorem p0_ok {σ : Nat → Int} {W0 : World} : PureOk Tryd.prog 123 σ W0 17 p0 := pure_ok fit (Known2.nil σ) (FnsOk.nil) p0_run
noncomputable def h1 : H := hUpd h0 165 [] [(158, .cells 16 ([[.slice 85 0 12 12 4 false, .slice 109 0 12 12 4 false, .slice 121 0 6 6 4 false, .slice 137 0 8 8 4 false, .slice 149 0 6 6 4 false, .slice 157 0 4 4 4 false, .slice 159 0 12 12 80 true, .slice 160 0 12 12 32 true, .slice 161 0 6 6 108 true, .slice 162 0 8 8 2 true, .slice 163 0 6 6 3 true, .slice 164 0 4 4 31 true, .snil, .snil, .snil, I 0]]) false),
  (46, .cells 1 ([[.ptr 29 0], [.ptr 32 0], [.ptr 35 0], [.ptr 38 0], [.ptr 41 0], [.ptr 44 0]]) false),
  (54, .map [] 0),
  (38, .cells 1 ([[.snil]]) false),
  (22, .cells 2 ([[.ptr 17 0, .ptr 21 0]]) false),
  (14, .cells 3 (rp 12 ([bF, I 0, bF]) ([])) false),
  (58, .cells 31 (rp 4 ((bF) :: rp 4 (I 0) ((U 0) :: rp 4 (I 0) ((U 0) :: rp 4 (I 0) ((U 0) :: rp 4 (I 0) ((U 0) :: rp 4 (I 0) ((U 0) :: rp 4 (I 0) ([U 0]))))))) ([])) false),
  (26, .cells 1 ([[.slice 25 0 6 6 3 true]]) false),
  (50, .cells 2 ([[.ptr 48 0, .slice 49 0 8 8 2 true]]) false),
  (162, .cells 2 (rp 8 ([I 0, I 0]) ([])) false),
  (18, .cells 3 (rp 12 ([bF, I 0, bF]) ([])) false),
  (60, .cells 1 ([[.snil]]) false),
  (44, .cells 1 ([[.snil]]) false),
  (28, .cells 3 ([[.ptr 26 0, .slice 27 0 6 6 107 true, .slice 46 0 6 6 1 false]]) false),
  (52, .cells 1 ([[.slice 51 0 6 6 3 true]]) false),
  (164, .cells 31 (rp 4 ((bF) :: rp 4 (I 0) ((U 0) :: rp 4 (I 0) ((U 0) :: rp 4 (I 0) ((U 0) :: rp 4 (I 0) ((U 0) :: rp 4 (I 0) ((U 0) :: rp 4 (I 0) ([U 0]))))))) ([])) false),
  (20, .cells 32 (rp 12 (rp 32 (U 0) ([])) ([])) false),
  (56, .cells 3 (rp 4 ([bF, I 0, bF]) ([])) false),
  (24, .cells 3 ([[.ptr 22 0, I 16, .ptr 23 0]]) false),
  (48, .cells 1 ([[.slice 47 0 8 8 3 true]]) false),
  (160, .cells 32 (rp 12 (rp 32 (U 0) ([])) ([])) false),
  (32, .cells 1 ([[.snil]]) false),
  (16, .cells 80 (rp 12 (rp 4 (I 0) ((U 0) :: rp 4 (I 0) ((U 0) :: rp 4 (I 0) ((U 0) :: rp 4 (I 0) ((U 0) :: rp 4 (I 0) ((U 0) :: rp 4 (I 0) ((U 0) :: rp 4 (I 0) ((U 0) :: rp 4 (I 0) ((U 0) :: rp 4 (I 0) ((U 0) :: rp 4 (I 0) ((U 0) :: rp 4 (I 0) ((U 0) :: rp 4 (I 0) ((U 0) :: rp 4 (I 0) ((U 0) :: rp 4 (I 0) ((U 0) :: rp 4 (I 0) ((U 0) :: rp 4 (I 0) ([U 0]))))))))))))))))) ([])) false),
  (157, .cells 4 (rp 4 ([bF, bF, I 0, IZ (-1)]) ([])) false),
  (61, .cells 9 ([[.ptr 24 0, .ptr 28 0, .ptr 50 0, .ptr 55 0, .ptr 59 0, .ptr 60 0, .snil, .snil, I 0]]) false),
  (109, .cells 4 (rp 12 ([bF, bF, I 0, IZ (-1)]) ([])) false),
  (29, .cells 1 ([[.snil]]) false),
  (149, .cells 4 (rp 6 ([bF, bF, I 0, IZ (-1)]) ([])) false),
  (85, .cells 4 (rp 12 ([bF, bF, I 0, IZ (-1)]) ([])) false),
  (53, .cells 3 (rp 6 ([I 0, I 0, I 0]) ([])) false),
  (21, .cells 2 ([[.ptr 19 0, .slice 20 0 12 12 32 true]]) false),
  (121, .cells 4 (rp 6 ([bF, bF, I 0, IZ (-1)]) ([])) false),
  (57, .cells 1 ([[.slice 56 0 4 4 3 true]]) false),
  (137, .cells 4 (rp 8 ([bF, bF, I 0, IZ (-1)]) ([])) false),
  (41, .cells 1 ([[.snil]]) false),
  (25, .cells 3 (rp 6 ([bF, I 0, bF]) ([])) false),
  (49, .cells 2 (rp 8 ([I 0, I 0]) ([])) false),
  (161, .cells 108 (rp 6 (rp 9 (U 0) (rp 6 (I 0) ((U 0) :: rp 4 (I 0) ((U 0) :: rp 4 (I 0) ((U 0) :: rp 4 (I 0) ((U 0) :: rp 4 (I 0) ((U 0) :: rp 4 (I 0) ((U 0) :: rp 4 (I 0) ((U 0) :: rp 4 (I 0) ((U 0) :: rp 4 (I 0) ((U 0) :: rp 4 (I 0) ((U 0) :: rp 4 (I 0) ((U 0) :: rp 4 (I 0) ((U 0) :: rp 4 (I 0) ((U 0) :: rp 4 (I 0) ((U 0) :: rp 4 (I 0) ((U 0) :: rp 4 (I 0) ((U 0) :: rp 4 (I 0) ((U 0) :: rp 4 (I 0) ((U 0) :: rp 4 (I 0) ([U 0, I 0, .snil]))))))))))))))))))))) ([])) false),
  (17, .cells 2 ([[.ptr 15 0, .slice 16 0 12 12 80 true]]) false),
  (59, .cells 2 ([[.ptr 57 0, .slice 58 0 4 4 31 true]]) false),
  (27, .cells 107 (rp 6 (rp 9 (U 0) (rp 6 (I 0) ((U 0) :: rp 4 (I 0) ((U 0) :: rp 4 (I 0) ((U 0) :: rp 4 (I 0) ((U 0) :: rp 4 (I 0) ((U 0) :: rp 4 (I 0) ((U 0) :: rp 4 (I 0) ((U 0) :: rp 4 (I 0) ((U 0) :: rp 4 (I 0) ((U 0) :: rp 4 (I 0) ((U 0) :: rp 4 (I 0) ((U 0) :: rp 4 (I 0) ((U 0) :: rp 4 (I 0) ((U 0) :: rp 4 (I 0) ((U 0) :: rp 4 (I 0) ((U 0) :: rp 4 (I 0) ((U 0) :: rp 4 (I 0) ((U 0) :: rp 4 (I 0) ((U 0) :: rp 4 (I 0) ([U 0, I 0]))))))))))))))))))))) ([])) false),
  (51, .cells 3 (rp 6 ([bF, I 0, bF]) ([])) false),
  (163, .cells 3 (rp 6 ([I 0, I 0, I 0]) ([])) false),
  (35, .cells 1 ([[.snil]]) false),
  (19, .cells 1 ([[.slice 18 0 12 12 3 true]]) false),
  (55, .cells 5 ([[.ptr 52 0, .slice 53 0 6 6 3 true, .map 54, .ptr 24 0, .ptr 28 0]]) false),
  (23, .cells 3 ([[I 16, .snil, I 0]]) false),
  (47, .cells 3 (rp 8 ([bF, I 0, bF]) ([])) false),
  (159, .cells 80 (rp 12 (rp 4 (I 0) ((U 0) :: rp 4 (I 0) ((U 0) :: rp 4 (I 0) ((U 0) :: rp 4 (I 0) ((U 0) :: rp 4 (I 0) ((U 0) :: rp 4 (I 0) ((U 0) :: rp 4 (I 0) ((U 0) :: rp 4 (I 0) ((U 0) :: rp 4 (I 0) ((U 0) :: rp 4 (I 0) ((U 0) :: rp 4 (I 0) ((U 0) :: rp 4 (I 0) ((U 0) :: rp 4 (I 0) ((U 0) :: rp 4 (I 0) ((U 0) :: rp 4 (I 0) ((U 0) :: rp 4 (I 0) ([U 0]))))))))))))))))) ([])) false),
  (15, .cells 1 ([[.slice 14 0 12 12 3 true]]) false)] []
noncomputable def m1 : Memo := ⟨[], h0, .tuple [.ptr 61 0, .ptr 158 0], h1⟩
theorem m1_run : ranTo (evCall (cxX Tryd.prog bad [] [] []) 1000 60 6 m1.args m1.h) m1.v m1.h' = true := by kernel_rfl
theorem m1_ok {σ : Nat → Int} {W0 : World} : MemoOk Tryd.prog 123 σ W0 6 m1 := memo_ok fit (Known2.nil σ) (FnsOk.nil) m1_run
noncomputable def p2 : List V × V := ([.agg [I 2, I 1, I 0, I 5, U 0]], .inil)
theorem p2_run : ranPure (evCall (cxX Tryd.prog bad [] [] []) 1000 60 29 p2.1 ⟨.lf, farN⟩) p2.2 = true := by kernel_rfl
theorem p2_ok {σ : Nat → Int} {W0 : World} : PureOk Tryd.prog 123 σ W0 29 p2 := pure_ok fit (Known2.nil σ) (FnsOk.nil) p2_run
noncomputable def p3 : List V × V := ([.agg [I 8, I 0, I 0, I 0, U 0]], .inil)
theorem p3_run : ranPure (evCall (cxX Tryd.prog bad [] [] []) 1000 60 29 p3.1 ⟨.lf, farN⟩) p3.2 = true := by kernel_rfl
theorem p3_ok {σ : Nat → Int} {W0 : World} : PureOk Tryd.prog 123 σ W0 29 p3 := pure_ok fit (Known2.nil σ) (FnsOk.nil) p3_run
noncomputable def p4 : List V × V := ([.agg [I 2, I 0, I 0, I 0, U 0]], .inil)
theorem p4_run : ranPure (evCall (cxX Tryd.prog bad [] [] []) 1000 60 29 p4.1 ⟨.lf, farN⟩) p4.2 = true := by kernel_rfl
theorem p4_ok {σ : Nat → Int} {W0 : World} : PureOk Tryd.prog 123 σ W0 29 p4 := pure_ok fit (Known2.nil σ) (FnsOk.nil) p4_run
noncomputable def p5 : List V × V := ([.agg [I 0, I 0, I 0, I 0, U 0]], .inil)
theorem p5_run : ranPure (evCall (cxX Tryd.prog bad [] [] []) 1000 60 29 p5.1 ⟨.lf, farN⟩) p5.2 = true := by kernel_rfl
theorem p5_ok {σ : Nat → Int} {W0 : World} : PureOk Tryd.prog 123 σ W0 29 p5 := pure_ok fit (Known2.nil σ) (FnsOk.nil) p5_run
noncomputable def h2 : H := hUpd h1 420 [158, 162, 164, 160, 157, 109, 149, 85, 121, 137, 161, 163, 159] [(54, .map [(.agg [I 2, I 0], .agg [I 0, I 0], 0), (.agg [I 2, I 1], .agg [I 0, I 0], 1)] 2),
  (419, .cells 5 ([[I 2, I 0, I 0, I 0, U 0]]) false)] [(14, 0, [bT, I 0, bF]),
  (14, 1, [bT, I 0, bF]),
  (16, 0, (I 2) :: (I 1) :: (I 0) :: (I 5) :: (U 0) :: (I 8) :: (I 0) :: (I 0) :: (I 0) :: (U 0) :: rp 4 (I 0) ((U 0) :: rp 4 (I 0) ((U 0) :: rp 4 (I 0) ((U 0) :: rp 4 (I 0) ((U 0) :: rp 4 (I 0) ((U 0) :: rp 4 (I 0) ((U 0) :: rp 4 (I 0) ((U 0) :: rp 4 (I 0) ((U 0) :: rp 4 (I 0) ((U 0) :: rp 4 (I 0) ((U 0) :: rp 4 (I 0) ((U 0) :: rp 4 (I 0) ((U 0) :: rp 4 (I 0) ((U 0) :: rp 4 (I 0) ([U 0]))))))))))))))),
  (53, 0, [IZ (-1), I 30, I 2]),
  (51, 0, [bT, I 0, bF])]
noncomputable def h3 : H := hUpd h2 812 [] [(576, .cells 5 ([[I 2, I 0, I 0, I 0, U 0], [I 2, I 1, I 0, I 5, U 0], [I 8, I 0, I 0, I 0, U 0]]) false)] []
noncomputable def m6 : Memo := ⟨[.ptr 61 0, .slice 419 0 1 1 5 true], h2, .slice 576 0 3 3 5 false, h3⟩
noncomputable def l0 : List (List V × V) := p4 :: []
theorem l0_ok {σ : Nat → Int} {W0 : World} : ∀ x ∈ l0, PureOk Tryd.prog 123 σ W0 29 x := all_cons p4_ok all_nil
noncomputable def l1 : List (List V × V) := p2 :: l0
theorem l1_ok {σ : Nat → Int} {W0 : World} : ∀ x ∈ l1, PureOk Tryd.prog 123 σ W0 29 x := all_cons p2_ok l0_ok
noncomputable def l2 : List (List V × V) := p3 :: l1
theorem l2_ok {σ : Nat → Int} {W0 : World} : ∀ x ∈ l2, PureOk Tryd.prog 123 σ W0 29 x := all_cons p3_ok l1_ok
noncomputable def l3 : List (List V × V) := p5 :: l2
theorem l3_ok {σ : Nat → Int} {W0 : World} : ∀ x ∈ l3, PureOk Tryd.prog 123 σ W0 29 x := all_cons p5_ok l2_ok
theorem m6_run : ranTo (evCall (cxX Tryd.prog bad [] [] [(29, pureFn l3)]) 1000 60 20 m6.args m6.h) m6.v m6.h' = true := by kernel_rfl
theorem m6_ok {σ : Nat → Int} {W0 : World} : MemoOk Tryd.prog 123 σ W0 20 m6 := memo_ok fit (Known2.nil σ) (FnsOk.cons (pure_fn_ok (l3_ok)) (FnsOk.nil)) m6_run
theorem run0 : isTrue (evCall (cxX Tryd.prog bad [] [] [(10, numExtE [(0, 7, .lit 0), (1, 3, .lit 0)]), (17, pureFn [p0]), (6, frameFn [m1]), (29, pureFn [p2, p3]), (20, frameFn [m6])]) 1000 60 4 [.int .i64 (.var 0), .int .i64 (.var 1)] (sentH 201 7 errTab)) = true := by kernel_rfl
theorem case0 {σ : Nat → Int} {W : World} (hL : laidMetH Tryd.prog laidErrs W) (hk : Known2 σ [] []) (hT : TabOk Tryd.prog bad 10 σ [(0, 7, .lit 0), (1, 3, .lit 0)]) {xs : Array Value} (hv : ∀ ρ, VRs σ ρ [.int .i64 (.var 0), .int .i64 (.var 1)] xs.toList) : Calls Tryd.prog 4 xs W fun e w' => e = .returned (.bool true) ∧ Below W.heap.size W w' := by
  obtain ⟨ads, h1, h2, h3⟩ := errs_sents hL
  exact law_case_x fit h1 h2 h3 errs_all errs_lt (by kernel_rfl) hk (FnsOk.cons (hT.ok fit) (FnsOk.cons (pure_fn_ok (all_cons (p0_ok) (all_nil))) (FnsOk.cons (frame_fn_ok (all_cons (m1_ok) (all_nil))) (FnsOk.cons (pure_fn_ok (all_cons (p2_ok) (all_cons (p3_ok) (all_nil)))) (FnsOk.cons (frame_fn_ok (all_cons (m6_ok) (all_nil))) (FnsOk.nil)))))) hv ⟨_, Tryd.func4, rfl⟩ run0
noncomputable def p7 : List V × V := ([.agg [I 2, I 1, I 0, I 0, U 0]], .inil)
theorem p7_run : ranPure (evCall (cxX Tryd.prog bad [] [] []) 1000 60 29 p7.1 ⟨.lf, farN⟩) p7.2 = true := by kernel_rfl
theorem p7_ok {σ : Nat → Int} {W0 : World} : PureOk Tryd.prog 123 σ W0 29 p7 := pure_ok fit (Known2.nil σ) (FnsOk.nil) p7_run
noncomputable def h4 : H := hUpd h2 420 [] [] [(16, 0, (I 2) :: (I 1) :: (I 0) :: (I 0) :: (U 0) :: (I 8) :: (I 0) :: (I 0) :: (I 0) :: (U 0) :: rp 4 (I 0) ((U 0) :: rp 4 (I 0) ((U 0) :: rp 4 (I 0) ((U 0) :: rp 4 (I 0) ((U 0) :: rp 4 (I 0) ((U 0) :: rp 4 (I 0) ((U 0) :: rp 4 (I 0) ((U 0) :: rp 4 (I 0) ((U 0) :: rp 4 (I 0) ((U 0) :: rp 4 (I 0) ((U 0) :: rp 4 (I 0) ((U 0) :: rp 4 (I 0) ((U 0) :: rp 4 (I 0) ((U 0) :: rp 4 (I 0) ([U 0])))))))))))))))]
noncomputable def h5 : H := hUpd h4 780 [] [(576, .cells 5 ([[I 2, I 0, I 0, I 0, U 0], [I 2, I 1, I 0, I 0, U 0], [I 8, I 0, I 0, I 0, U 0]]) false)] []
noncomputable def m8 : Memo := ⟨[.ptr 61 0, .slice 419 0 1 1 5 true], h4, .slice 576 0 3 3 5 false, h5⟩
noncomputable def l4 : List (List V × V) := p7 :: l0
theorem l4_ok {σ : Nat → Int} {W0 : World} : ∀ x ∈ l4, PureOk Tryd.prog 123 σ W0 29 x := all_cons p7_ok l0_ok
noncomputable def l5 : List (List V × V) := p3 :: l4
theorem l5_ok {σ : Nat → Int} {W0 : World} : ∀ x ∈ l5, PureOk Tryd.prog 123 σ W0 29 x := all_cons p3_ok l4_ok
noncomputable def l6 : List (List V × V) := p5 :: l5
theorem l6_ok {σ : Nat → Int} {W0 : World} : ∀ x ∈ l6, PureOk Tryd.prog 123 σ W0 29 x := all_cons p5_ok l5_ok
theorem m8_run : ranTo (evCall (cxX Tryd.prog bad [] [] [(29, pureFn l6)]) 1000 60 20 m8.args m8.h) m8.v m8.h' = true := by kernel_rfl
theorem m8_ok {σ : Nat → Int} {W0 : World} : MemoOk Tryd.prog 123 σ W0 20 m8 := memo_ok fit (Known2.nil σ) (FnsOk.cons (pure_fn_ok (l6_ok)) (FnsOk.nil)) m8_run
theorem run1 : isTrue (evCall (cxX Tryd.prog bad [] [] [(10, numExtE [(0, 7, .lit 0), (1, 3, .lit 1)]), (17, pureFn [p0]), (6, frameFn [m1]), (29, pureFn [p7, p3]), (20, frameFn [m8])]) 1000 60 4 [.int .i64 (.var 0), .int .i64 (.var 1)] (sentH 201 7 errTab)) = true := by kernel_rfl
theorem case1 {σ : Nat → Int} {W : World} (hL : laidMetH Tryd.prog laidErrs W) (hk : Known2 σ [] []) (hT : TabOk Tryd.prog bad 10 σ [(0, 7, .lit 0), (1, 3, .lit 1)]) {xs : Array Value} (hv : ∀ ρ, VRs σ ρ [.int .i64 (.var 0), .int .i64 (.var 1)] xs.toList) : Calls Tryd.prog 4 xs W fun e w' => e = .returned (.bool true) ∧ Below W.heap.size W w' := by
  obtain ⟨ads, h1, h2, h3⟩ := errs_sents hL
  exact law_case_x fit h1 h2 h3 errs_all errs_lt (by kernel_rfl) hk (FnsOk.cons (hT.ok fit) (FnsOk.cons (pure_fn_ok (all_cons (p0_ok) (all_nil))) (FnsOk.cons (frame_fn_ok (all_cons (m1_ok) (all_nil))) (FnsOk.cons (pure_fn_ok (all_cons (p7_ok) (all_cons (p3_ok) (all_nil)))) (FnsOk.cons (frame_fn_ok (all_cons (m8_ok) (all_nil))) (FnsOk.nil)))))) hv ⟨_, Tryd.func4, rfl⟩ run1
theorem run2 : isTrue (evCall (cxX Tryd.prog bad [] [] [(10, numExtE [(0, 7, .lit 0), (1, 3, .lit 2)]), (17, pureFn [p0]), (6, frameFn [m1]), (29, pureFn [p7, p3]), (20, frameFn [m8])]) 1000 60 4 [.int .i64 (.var 0), .int .i64 (.var 1)] (sentH 201 7 errTab)) = true := by kernel_rfl
theorem case2 {σ : Nat → Int} {W : World} (hL : laidMetH Tryd.prog laidErrs W) (hk : Known2 σ [] []) (hT : TabOk Tryd.prog bad 10 σ [(0, 7, .lit 0), (1, 3, .lit 2)]) {xs : Array Value} (hv : ∀ ρ, VRs σ ρ [.int .i64 (.var 0), .int .i64 (.var 1)] xs.toList) : Calls Tryd.prog 4 xs W fun e w' => e = .returned (.bool true) ∧ Below W.heap.size W w' := by
  obtain ⟨ads, h1, h2, h3⟩ := errs_sents hL
  exact law_case_x fit h1 h2 h3 errs_all errs_lt (by kernel_rfl) hk (FnsOk.cons (hT.ok fit) (FnsOk.cons (pure_fn_ok (all_cons (p0_ok) (all_nil))) (FnsOk.cons (frame_fn_ok (all_cons (m1_ok) (all_nil))) (FnsOk.cons (pure_fn_ok (all_cons (p7_ok) (all_cons (p3_ok) (all_nil)))) (FnsOk.cons (frame_fn_ok (all_cons (m8_ok) (all_nil))) (FnsOk.nil)))))) hv ⟨_, Tryd.func4, rfl⟩ run2
noncomputable def p9 : List V × V := ([.agg [I 2, I 2, I 0, I 0, U 0]], .inil)
theorem p9_run : ranPure (evCall (cxX Tryd.prog bad [] [] []) 1000 60 29 p9.1 ⟨.lf, farN⟩) p9.2 = true := by kernel_rfl
theorem p9_ok {σ : Nat → Int} {W0 : World} : PureOk Tryd.prog 123 σ W0 29 p9 := pure_ok fit (Known2.nil σ) (FnsOk.nil) p9_run
noncomputable def p10 : List V × V := ([.agg [I 2, I 2, I 0, I 5, U 0]], .inil)
theorem p10_run : ranPure (evCall (cxX Tryd.prog bad [] [] []) 1000 60 29 p10.1 ⟨.lf, farN⟩) p10.2 = true := by kernel_rfl
theorem p10_ok {σ : Nat → Int} {W0 : World} : PureOk Tryd.prog 123 σ W0 29 p10 := pure_ok fit (Known2.nil σ) (FnsOk.nil) p10_run
noncomputable def h6 : H := hUpd h2 589 [419] [(54, .map [(.agg [I 2, I 0], .agg [I 0, I 0], 0), (.agg [I 2, I 1], .agg [I 0, I 0], 1), (.agg [I 2, I 2], .agg [I 0, I 0], 2)] 3),
  (588, .cells 5 ([[I 2, I 0, I 0, I 0, U 0]]) false)] [(14, 2, [bT, I 0, bF]),
  (16, 1, (I 2) :: (I 2) :: (I 0) :: (I 0) :: (U 0) :: (I 8) :: (I 0) :: (I 0) :: (I 0) :: (U 0) :: rp 4 (I 0) ((U 0) :: rp 4 (I 0) ((U 0) :: rp 4 (I 0) ((U 0) :: rp 4 (I 0) ((U 0) :: rp 4 (I 0) ((U 0) :: rp 4 (I 0) ((U 0) :: rp 4 (I 0) ((U 0) :: rp 4 (I 0) ((U 0) :: rp 4 (I 0) ((U 0) :: rp 4 (I 0) ((U 0) :: rp 4 (I 0) ((U 0) :: rp 4 (I 0) ((U 0) :: rp 4 (I 0) ((U 0) :: rp 4 (I 0) ([U 0]))))))))))))))),
  (53, 0, [IZ (-1), I 30, I 3])]
noncomputable def h7 : H := hUpd h6 1177 [] [(937, .cells 5 ([[I 2, I 0, I 0, I 0, U 0], [I 2, I 1, I 0, I 5, U 0], [I 8, I 0, I 0, I 0, U 0], [I 2, I 2, I 0, I 5, U 0]]) false)] []
noncomputable def m11 : Memo := ⟨[.ptr 61 0, .slice 588 0 1 1 5 true], h6, .slice 937 0 4 4 5 false, h7⟩
noncomputable def l7 : List (List V × V) := p10 :: l3
theorem l7_ok {σ : Nat → Int} {W0 : World} : ∀ x ∈ l7, PureOk Tryd.prog 123 σ W0 29 x := all_cons p10_ok l3_ok
theorem m11_run : ranTo (evCall (cxX Tryd.prog bad [] [] [(29, pureFn l7)]) 1000 60 20 m11.args m11.h) m11.v m11.h' = true := by kernel_rfl
theorem m11_ok {σ : Nat → Int} {W0 : World} : MemoOk Tryd.prog 123 σ W0 20 m11 := memo_ok fit (Known2.nil σ) (FnsOk.cons (pure_fn_ok (l7_ok)) (FnsOk.nil)) m11_run
theorem run3 : isTrue (evCall (cxX Tryd.prog bad [] [] [(10, numExtE [(0, 7, .lit 1), (1, 4, .lit 0)]), (17, pureFn [p0]), (6, frameFn [m1]), (29, pureFn [p2, p3, p9]), (20, frameFn [m11])]) 1000 60 4 [.int .i64 (.var 0), .int .i64 (.var 1)] (sentH 201 7 errTab)) = true := by kernel_rfl
theorem case3 {σ : Nat → Int} {W : World} (hL : laidMetH Tryd.prog laidErrs W) (hk : Known2 σ [] []) (hT : TabOk Tryd.prog bad 10 σ [(0, 7, .lit 1), (1, 4, .lit 0)]) {xs : Array Value} (hv : ∀ ρ, VRs σ ρ [.int .i64 (.var 0), .int .i64 (.var 1)] xs.toList) : Calls Tryd.prog 4 xs W fun e w' => e = .returned (.bool true) ∧ Below W.heap.size W w' := by
  obtain ⟨ads, h1, h2, h3⟩ := errs_sents hL
  exact law_case_x fit h1 h2 h3 errs_all errs_lt (by kernel_rfl) hk (FnsOk.cons (hT.ok fit) (FnsOk.cons (pure_fn_ok (all_cons (p0_ok) (all_nil))) (FnsOk.cons (frame_fn_ok (all_cons (m1_ok) (all_nil))) (FnsOk.cons (pure_fn_ok (all_cons (p2_ok) (all_cons (p3_ok) (all_cons (p9_ok) (all_nil))))) (FnsOk.cons (frame_fn_ok (all_cons (m11_ok) (all_nil))) (FnsOk.nil)))))) hv ⟨_, Tryd.func4, rfl⟩ run3
noncomputable def h8 : H := hUpd h4 589 [419] [(54, .map [(.agg [I 2, I 0], .agg [I 0, I 0], 0), (.agg [I 2, I 1], .agg [I 0, I 0], 1), (.agg [I 2, I 2], .agg [I 0, I 0], 2)] 3),
  (588, .cells 5 ([[I 2, I 0, I 0, I 0, U 0]]) false)] [(14, 2, [bT, I 0, bF]),
  (16, 1, (I 2) :: (I 2) :: (I 0) :: (I 5) :: (U 0) :: (I 8) :: (I 0) :: (I 0) :: (I 0) :: (U 0) :: rp 4 (I 0) ((U 0) :: rp 4 (I 0) ((U 0) :: rp 4 (I 0) ((U 0) :: rp 4 (I 0) ((U 0) :: rp 4 (I 0) ((U 0) :: rp 4 (I 0) ((U 0) :: rp 4 (I 0) ((U 0) :: rp 4 (I 0) ((U 0) :: rp 4 (I 0) ((U 0) :: rp 4 (I 0) ((U 0) :: rp 4 (I 0) ((U 0) :: rp 4 (I 0) ((U 0) :: rp 4 (I 0) ((U 0) :: rp 4 (I 0) ([U 0]))))))))))))))),
  (53, 0, [IZ (-1), I 30, I 3])]
noncomputable def h9 : H := hUpd h8 1158 [] [(905, .cells 5 ([[I 2, I 0, I 0, I 0, U 0], [I 2, I 1, I 0, I 0, U 0], [I 8, I 0, I 0, I 0, U 0], [I 2, I 2, I 0, I 5, U 0]]) false)] []
noncomputable def m12 : Memo := ⟨[.ptr 61 0, .slice 588 0 1 1 5 true], h8, .slice 905 0 4 4 5 false, h9⟩
noncomputable def l8 : List (List V × V) := p10 :: l6
theorem l8_ok {σ : Nat → Int} {W0 : World} : ∀ x ∈ l8, PureOk Tryd.prog 123 σ W0 29 x := all_cons p10_ok l6_ok
theorem m12_run : ranTo (evCall (cxX Tryd.prog bad [] [] [(29, pureFn l8)]) 1000 60 20 m12.args m12.h) m12.v m12.h' = true := by kernel_rfl
theorem m12_ok {σ : Nat → Int} {W0 : World} : MemoOk Tryd.prog 123 σ W0 20 m12 := memo_ok fit (Known2.nil σ) (FnsOk.cons (pure_fn_ok (l8_ok)) (FnsOk.nil)) m12_run
theorem run4 : isTrue (evCall (cxX Tryd.prog bad [] [] [(10, numExtE [(0, 7, .lit 1), (1, 4, .lit 1)]), (17, pureFn [p0]), (6, frameFn [m1]), (29, pureFn [p7, p3, p10]), (20, frameFn [m12])]) 1000 60 4 [.int .i64 (.var 0), .int .i64 (.var 1)] (sentH 201 7 errTab)) = true := by kernel_rfl
theorem case4 {σ : Nat → Int} {W : World} (hL : laidMetH Tryd.prog laidErrs W) (hk : Known2 σ [] []) (hT : TabOk Tryd.prog bad 10 σ [(0, 7, .lit 1), (1, 4, .lit 1)]) {xs : Array Value} (hv : ∀ ρ, VRs σ ρ [.int .i64 (.var 0), .int .i64 (.var 1)] xs.toList) : Calls Tryd.prog 4 xs W fun e w' => e = .returned (.bool true) ∧ Below W.heap.size W w' := by
  obtain ⟨ads, h1, h2, h3⟩ := errs_sents hL
  exact law_case_x fit h1 h2 h3 errs_all errs_lt (by kernel_rfl) hk (FnsOk.cons (hT.ok fit) (FnsOk.cons (pure_fn_ok (all_cons (p0_ok) (all_nil))) (FnsOk.cons (frame_fn_ok (all_cons (m1_ok) (all_nil))) (FnsOk.cons (pure_fn_ok (all_cons (p7_ok) (all_cons (p3_ok) (all_cons (p10_ok) (all_nil))))) (FnsOk.cons (frame_fn_ok (all_cons (m12_ok) (all_nil))) (FnsOk.nil)))))) hv ⟨_, Tryd.func4, rfl⟩ run4
noncomputable def h10 : H := hUpd h6 589 [] [] [(16, 0, (I 2) :: (I 1) :: (I 0) :: (I 0) :: (U 0) :: (I 8) :: (I 0) :: (I 0) :: (I 0) :: (U 0) :: rp 4 (I 0) ((U 0) :: rp 4 (I 0) ((U 0) :: rp 4 (I 0) ((U 0) :: rp 4 (I 0) ((U 0) :: rp 4 (I 0) ((U 0) :: rp 4 (I 0) ((U 0) :: rp 4 (I 0) ((U 0) :: rp 4 (I 0) ((U 0) :: rp 4 (I 0) ((U 0) :: rp 4 (I 0) ((U 0) :: rp 4 (I 0) ((U 0) :: rp 4 (I 0) ((U 0) :: rp 4 (I 0) ((U 0) :: rp 4 (I 0) ([U 0])))))))))))))))]
noncomputable def h11 : H := hUpd h10 1126 [] [(905, .cells 5 ([[I 2, I 0, I 0, I 0, U 0], [I 2, I 1, I 0, I 0, U 0], [I 8, I 0, I 0, I 0, U 0], [I 2, I 2, I 0, I 0, U 0]]) false)] []
noncomputable def m13 : Memo := ⟨[.ptr 61 0, .slice 588 0 1 1 5 true], h10, .slice 905 0 4 4 5 false, h11⟩
noncomputable def l9 : List (List V × V) := p9 :: l6
theorem l9_ok {σ : Nat → Int} {W0 : World} : ∀ x ∈ l9, PureOk Tryd.prog 123 σ W0 29 x := all_cons p9_ok l6_ok
theorem m13_run : ranTo (evCall (cxX Tryd.prog bad [] [] [(29, pureFn l9)]) 1000 60 20 m13.args m13.h) m13.v m13.h' = true := by kernel_rfl
theorem m13_ok {σ : Nat → Int} {W0 : World} : MemoOk Tryd.prog 123 σ W0 20 m13 := memo_ok fit (Known2.nil σ) (FnsOk.cons (pure_fn_ok (l9_ok)) (FnsOk.nil)) m13_run
theorem run5 : isTrue (evCall (cxX Tryd.prog bad [] [] [(10, numExtE [(0, 7, .lit 1), (1, 4, .lit 2)]), (17, pureFn [p0]), (6, frameFn [m1]), (29, pureFn [p7, p3, p9]), (20, frameFn [m13])]) 1000 60 4 [.int .i64 (.var 0), .int .i64 (.var 1)] (sentH 201 7 errTab)) = true := by kernel_rfl
theorem case5 {σ : Nat → Int} {W : World} (hL : laidMetH Tryd.prog laidErrs W) (hk : Known2 σ [] []) (hT : TabOk Tryd.prog bad 10 σ [(0, 7, .lit 1), (1, 4, .lit 2)]) {xs : Array Value} (hv : ∀ ρ, VRs σ ρ [.int .i64 (.var 0), .int .i64 (.var 1)] xs.toList) : Calls Tryd.prog 4 xs W fun e w' => e = .returned (.bool true) ∧ Below W.heap.size W w' := by
  obtain ⟨ads, h1, h2, h3⟩ := errs_sents hL
  exact law_case_x fit h1 h2 h3 errs_all errs_lt (by kernel_rfl) hk (FnsOk.cons (hT.ok fit) (FnsOk.cons (pure_fn_ok (all_cons (p0_ok) (all_nil))) (FnsOk.cons (frame_fn_ok (all_cons (m1_ok) (all_nil))) (FnsOk.cons (pure_fn_ok (all_cons (p7_ok) (all_cons (p3_ok) (all_cons (p9_ok) (all_nil))))) (FnsOk.cons (frame_fn_ok (all_cons (m13_ok) (all_nil))) (FnsOk.nil)))))) hv ⟨_, Tryd.func4, rfl⟩ run5
theorem run6 : isTrue (evCall (cxX Tryd.prog bad [] [] [(10, numExtE [(0, 7, .lit 1), (1, 4, .lit 3)]), (17, pureFn [p0]), (6, frameFn [m1]), (29, pureFn [p7, p3, p9]), (20, frameFn [m13])]) 1000 60 4 [.int .i64 (.var 0), .int .i64 (.var 1)] (sentH 201 7 errTab)) = true := by kernel_rfl
theorem case6 {σ : Nat → Int} {W : World} (hL : laidMetH Tryd.prog laidErrs W) (hk : Known2 σ [] []) (hT : TabOk Tryd.prog bad 10 σ [(0, 7, .lit 1), (1, 4, .lit 3)]) {xs : Array Value} (hv : ∀ ρ, VRs σ ρ [.int .i64 (.var 0), .int .i64 (.var 1)] xs.toList) : Calls Tryd.prog 4 xs W fun e w' => e = .returned (.bool true) ∧ Below W.heap.size W w' := by
  obtain ⟨ads, h1, h2, h3⟩ := errs_sents hL
  exact law_case_x fit h1 h2 h3 errs_all errs_lt (by kernel_rfl) hk (FnsOk.cons (hT.ok fit) (FnsOk.cons (pure_fn_ok (all_cons (p0_ok) (all_nil))) (FnsOk.cons (frame_fn_ok (all_cons (m1_ok) (all_nil))) (FnsOk.cons (pure_fn_ok (all_cons (p7_ok) (all_cons (p3_ok) (all_cons (p9_ok) (all_nil))))) (FnsOk.cons (frame_fn_ok (all_cons (m13_ok) (all_nil))) (FnsOk.nil)))))) hv ⟨_, Tryd.func4, rfl⟩ run6
noncomputable def p14 : List V × V := ([.agg [I 2, I 3, I 0, I 0, U 0]], .inil)
theorem p14_run : ranPure (evCall (cxX Tryd.prog bad [] [] []) 1000 60 29 p14.1 ⟨.lf, farN⟩) p14.2 = true := by kernel_rfl
theorem p14_ok {σ : Nat → Int} {W0 : World} : PureOk Tryd.prog 123 σ W0 29 p14 := pure_ok fit (Known2.nil σ) (FnsOk.nil) p14_run
noncomputable def p15 : List V × V := ([.agg [I 2, I 3, I 0, I 5, U 0]], .inil)
theorem p15_run : ranPure (evCall (cxX Tryd.prog bad [] [] []) 1000 60 29 p15.1 ⟨.lf, farN⟩) p15.2 = true := by kernel_rfl
theorem p15_ok {σ : Nat → Int} {W0 : World} : PureOk Tryd.prog 123 σ W0 29 p15 := pure_ok fit (Known2.nil σ) (FnsOk.nil) p15_run
noncomputable def h12 : H := hUpd h6 758 [588] [(54, .map [(.agg [I 2, I 0], .agg [I 0, I 0], 0), (.agg [I 2, I 1], .agg [I 0, I 0], 1), (.agg [I 2, I 2], .agg [I 0, I 0], 2), (.agg [I 2, I 3], .agg [I 0, I 0], 3)] 4),
  (757, .cells 5 ([[I 2, I 0, I 0, I 0, U 0]]) false)] [(14, 3, [bT, I 0, bF]),
  (16, 2, (I 2) :: (I 3) :: (I 0) :: (I 0) :: (U 0) :: (I 8) :: (I 0) :: (I 0) :: (I 0) :: (U 0) :: rp 4 (I 0) ((U 0) :: rp 4 (I 0) ((U 0) :: rp 4 (I 0) ((U 0) :: rp 4 (I 0) ((U 0) :: rp 4 (I 0) ((U 0) :: rp 4 (I 0) ((U 0) :: rp 4 (I 0) ((U 0) :: rp 4 (I 0) ((U 0) :: rp 4 (I 0) ((U 0) :: rp 4 (I 0) ((U 0) :: rp 4 (I 0) ((U 0) :: rp 4 (I 0) ((U 0) :: rp 4 (I 0) ((U 0) :: rp 4 (I 0) ([U 0]))))))))))))))),
  (53, 0, [IZ (-1), I 30, I 4])]
noncomputable def h13 : H := hUpd h12 1542 [] [(1311, .cells 5 ([[I 2, I 0, I 0, I 0, U 0], [I 2, I 1, I 0, I 5, U 0], [I 8, I 0, I 0, I 0, U 0], [I 2, I 2, I 0, I 5, U 0], [I 2, I 3, I 0, I 5, U 0]]) false)] []
noncomputable def m16 : Memo := ⟨[.ptr 61 0, .slice 757 0 1 1 5 true], h12, .slice 1311 0 5 5 5 false, h13⟩
noncomputable def l10 : List (List V × V) := p15 :: l7
theorem l10_ok {σ : Nat → Int} {W0 : World} : ∀ x ∈ l10, PureOk Tryd.prog 123 σ W0 29 x := all_cons p15_ok l7_ok
theorem m16_run : ranTo (evCall (cxX Tryd.prog bad [] [] [(29, pureFn l10)]) 1000 60 20 m16.args m16.h) m16.v m16.h' = true := by kernel_rfl
theorem m16_ok {σ : Nat → Int} {W0 : World} : MemoOk Tryd.prog 123 σ W0 20 m16 := memo_ok fit (Known2.nil σ) (FnsOk.cons (pure_fn_ok (l10_ok)) (FnsOk.nil)) m16_run
noncomputable def l11 : List (List V × V) := p2 :: []
theorem l11_ok {σ : Nat → Int} {W0 : World} : ∀ x ∈ l11, PureOk Tryd.prog 123 σ W0 29 x := all_cons p2_ok all_nil
noncomputable def l12 : List (List V × V) := p3 :: l11
theorem l12_ok {σ : Nat → Int} {W0 : World} : ∀ x ∈ l12, PureOk Tryd.prog 123 σ W0 29 x := all_cons p3_ok l11_ok
noncomputable def l13 : List (List V × V) := p9 :: l12
theorem l13_ok {σ : Nat → Int} {W0 : World} : ∀ x ∈ l13, PureOk Tryd.prog 123 σ W0 29 x := all_cons p9_ok l12_ok
noncomputable def l14 : List (List V × V) := p14 :: l13
theorem l14_ok {σ : Nat → Int} {W0 : World} : ∀ x ∈ l14, PureOk Tryd.prog 123 σ W0 29 x := all_cons p14_ok l13_ok
theorem run7 : isTrue (evCall (cxX Tryd.prog bad [] [] [(10, numExtE [(0, 7, .lit 2), (1, 5, .lit 0)]), (17, pureFn [p0]), (6, frameFn [m1]), (29, pureFn l14), (20, frameFn [m16])]) 1000 60 4 [.int .i64 (.var 0), .int .i64 (.var 1)] (sentH 201 7 errTab)) = true := by kernel_rfl
theorem case7 {σ : Nat → Int} {W : World} (hL : laidMetH Tryd.prog laidErrs W) (hk : Known2 σ [] []) (hT : TabOk Tryd.prog bad 10 σ [(0, 7, .lit 2), (1, 5, .lit 0)]) {xs : Array Value} (hv : ∀ ρ, VRs σ ρ [.int .i64 (.var 0), .int .i64 (.var 1)] xs.toList) : Calls Tryd.prog 4 xs W fun e w' => e = .returned (.bool true) ∧ Below W.heap.size W w' := by
  obtain ⟨ads, h1, h2, h3⟩ := errs_sents hL
  exact law_case_x fit h1 h2 h3 errs_all errs_lt (by kernel_rfl) hk (FnsOk.cons (hT.ok fit) (FnsOk.cons (pure_fn_ok (all_cons (p0_ok) (all_nil))) (FnsOk.cons (frame_fn_ok (all_cons (m1_ok) (all_nil))) (FnsOk.cons (pure_fn_ok (l14_ok)) (FnsOk.cons (frame_fn_ok (all_cons (m16_ok) (all_nil))) (FnsOk.nil)))))) hv ⟨_, Tryd.func4, rfl⟩ run7
noncomputable def h14 : H := hUpd h8 758 [588] [(54, .map [(.agg [I 2, I 0], .agg [I 0, I 0], 0), (.agg [I 2, I 1], .agg [I 0, I 0], 1), (.agg [I 2, I 2], .agg [I 0, I 0], 2), (.agg [I 2, I 3], .agg [I 0, I 0], 3)] 4),
  (757, .cells 5 ([[I 2, I 0, I 0, I 0, U 0]]) false)] [(14, 3, [bT, I 0, bF]),
  (16, 2, (I 2) :: (I 3) :: (I 0) :: (I 0) :: (U 0) :: (I 8) :: (I 0) :: (I 0) :: (I 0) :: (U 0) :: rp 4 (I 0) ((U 0) :: rp 4 (I 0) ((U 0) :: rp 4 (I 0) ((U 0) :: rp 4 (I 0) ((U 0) :: rp 4 (I 0) ((U 0) :: rp 4 (I 0) ((U 0) :: rp 4 (I 0) ((U 0) :: rp 4 (I 0) ((U 0) :: rp 4 (I 0) ((U 0) :: rp 4 (I 0) ((U 0) :: rp 4 (I 0) ((U 0) :: rp 4 (I 0) ((U 0) :: rp 4 (I 0) ((U 0) :: rp 4 (I 0) ([U 0]))))))))))))))),
  (53, 0, [IZ (-1), I 30, I 4])]
noncomputable def h15 : H := hUpd h14 1523 [] [(1292, .cells 5 ([[I 2, I 0, I 0, I 0, U 0], [I 2, I 1, I 0, I 0, U 0], [I 8, I 0, I 0, I 0, U 0], [I 2, I 2, I 0, I 5, U 0], [I 2, I 3, I 0, I 5, U 0]]) false)] []
noncomputable def m17 : Memo := ⟨[.ptr 61 0, .slice 757 0 1 1 5 true], h14, .slice 1292 0 5 5 5 false, h15⟩
noncomputable def l15 : List (List V × V) := p15 :: l8
theorem l15_ok {σ : Nat → Int} {W0 : World} : ∀ x ∈ l15, PureOk Tryd.prog 123 σ W0 29 x := all_cons p15_ok l8_ok
theorem m17_run : ranTo (evCall (cxX Tryd.prog bad [] [] [(29, pureFn l15)]) 1000 60 20 m17.args m17.h) m17.v m17.h' = true := by kernel_rfl
theorem m17_ok {σ : Nat → Int} {W0 : World} : MemoOk Tryd.prog 123 σ W0 20 m17 := memo_ok fit (Known2.nil σ) (FnsOk.cons (pure_fn_ok (l15_ok)) (FnsOk.nil)) m17_run
noncomputable def l16 : List (List V × V) := p7 :: []
theorem l16_ok {σ : Nat → Int} {W0 : World} : ∀ x ∈ l16, PureOk Tryd.prog 123 σ W0 29 x := all_cons p7_ok all_nil
noncomputable def l17 : List (List V × V) := p3 :: l16
theorem l17_ok {σ : Nat → Int} {W0 : World} : ∀ x ∈ l17, PureOk Tryd.prog 123 σ W0 29 x := all_cons p3_ok l16_ok
noncomputable def l18 : List (List V × V) := p10 :: l17
theorem l18_ok {σ : Nat → Int} {W0 : World} : ∀ x ∈ l18, PureOk Tryd.prog 123 σ W0 29 x := all_cons p10_ok l17_ok
noncomputable def l19 : List (List V × V) := p14 :: l18
theorem l19_ok {σ : Nat → Int} {W0 : World} : ∀ x ∈ l19, PureOk Tryd.prog 123 σ W0 29 x := all_cons p14_ok l18_ok
theorem run8 : isTrue (evCall (cxX Tryd.prog bad [] [] [(10, numExtE [(0, 7, .lit 2), (1, 5, .lit 1)]), (17, pureFn [p0]), (6, frameFn [m1]), (29, pureFn l19), (20, frameFn [m17])]) 1000 60 4 [.int .i64 (.var 0), .int .i64 (.var 1)] (sentH 201 7 errTab)) = true := by kernel_rfl
theorem case8 {σ : Nat → Int} {W : World} (hL : laidMetH Tryd.prog laidErrs W) (hk : Known2 σ [] []) (hT : TabOk Tryd.prog bad 10 σ [(0, 7, .lit 2), (1, 5, .lit 1)]) {xs : Array Value} (hv : ∀ ρ, VRs σ ρ [.int .i64 (.var 0), .int .i64 (.var 1)] xs.toList) : Calls Tryd.prog 4 xs W fun e w' => e = .returned (.bool true) ∧ Below W.heap.size W w' := by
  obtain ⟨ads, h1, h2, h3⟩ := errs_sents hL
  exact law_case_x fit h1 h2 h3 errs_all errs_lt (by kernel_rfl) hk (FnsOk.cons (hT.ok fit) (FnsOk.cons (pure_fn_ok (all_cons (p0_ok) (all_nil))) (FnsOk.cons (frame_fn_ok (all_cons (m1_ok) (all_nil))) (FnsOk.cons (pure_fn_ok (l19_ok)) (FnsOk.cons (frame_fn_ok (all_cons (m17_ok) (all_nil))) (FnsOk.nil)))))) hv ⟨_, Tryd.func4, rfl⟩ run8
noncomputable def h16 : H := hUpd h10 758 [588] [(54, .map [(.agg [I 2, I 0], .agg [I 0, I 0], 0), (.agg [I 2, I 1], .agg [I 0, I 0], 1), (.agg [I 2, I 2], .agg [I 0, I 0], 2), (.agg [I 2, I 3], .agg [I 0, I 0], 3)] 4),
  (757, .cells 5 ([[I 2, I 0, I 0, I 0, U 0]]) false)] [(14, 3, [bT, I 0, bF]),
  (16, 2, (I 2) :: (I 3) :: (I 0) :: (I 5) :: (U 0) :: (I 8) :: (I 0) :: (I 0) :: (I 0) :: (U 0) :: rp 4 (I 0) ((U 0) :: rp 4 (I 0) ((U 0) :: rp 4 (I 0) ((U 0) :: rp 4 (I 0) ((U 0) :: rp 4 (I 0) ((U 0) :: rp 4 (I 0) ((U 0) :: rp 4 (I 0) ((U 0) :: rp 4 (I 0) ((U 0) :: rp 4 (I 0) ((U 0) :: rp 4 (I 0) ((U 0) :: rp 4 (I 0) ((U 0) :: rp 4 (I 0) ((U 0) :: rp 4 (I 0) ((U 0) :: rp 4 (I 0) ([U 0]))))))))))))))),
  (53, 0, [IZ (-1), I 30, I 4])]
noncomputable def h17 : H := hUpd h16 1504 [] [(1260, .cells 5 ([[I 2, I 0, I 0, I 0, U 0], [I 2, I 1, I 0, I 0, U 0], [I 8, I 0, I 0, I 0, U 0], [I 2, I 2, I 0, I 0, U 0], [I 2, I 3, I 0, I 5, U 0]]) false)] []
noncomputable def m18 : Memo := ⟨[.ptr 61 0, .slice 757 0 1 1 5 true], h16, .slice 1260 0 5 5 5 false, h17⟩
noncomputable def l20 : List (List V × V) := p15 :: l9
theorem l20_ok {σ : Nat → Int} {W0 : World} : ∀ x ∈ l20, PureOk Tryd.prog 123 σ W0 29 x := all_cons p15_ok l9_ok
theorem m18_run : ranTo (evCall (cxX Tryd.prog bad [] [] [(29, pureFn l20)]) 1000 60 20 m18.args m18.h) m18.v m18.h' = true := by kernel_rfl
theorem m18_ok {σ : Nat → Int} {W0 : World} : MemoOk Tryd.prog 123 σ W0 20 m18 := memo_ok fit (Known2.nil σ) (FnsOk.cons (pure_fn_ok (l20_ok)) (FnsOk.nil)) m18_run
noncomputable def l21 : List (List V × V) := p9 :: l17
theorem l21_ok {σ : Nat → Int} {W0 : World} : ∀ x ∈ l21, PureOk Tryd.prog 123 σ W0 29 x := all_cons p9_ok l17_ok
noncomputable def l22 : List (List V × V) := p15 :: l21
theorem l22_ok {σ : Nat → Int} {W0 : World} : ∀ x ∈ l22, PureOk Tryd.prog 123 σ W0 29 x := all_cons p15_ok l21_ok
theorem run9 : isTrue (evCall (cxX Tryd.prog bad [] [] [(10, numExtE [(0, 7, .lit 2), (1, 5, .lit 2)]), (17, pureFn [p0]), (6, frameFn [m1]), (29, pureFn l22), (20, frameFn [m18])]) 1000 60 4 [.int .i64 (.var 0), .int .i64 (.var 1)] (sentH 201 7 errTab)) = true := by kernel_rfl
theorem case9 {σ : Nat → Int} {W : World} (hL : laidMetH Tryd.prog laidErrs W) (hk : Known2 σ [] []) (hT : TabOk Tryd.prog bad 10 σ [(0, 7, .lit 2), (1, 5, .lit 2)]) {xs : Array Value} (hv : ∀ ρ, VRs σ ρ [.int .i64 (.var 0), .int .i64 (.var 1)] xs.toList) : Calls Tryd.prog 4 xs W fun e w' => e = .returned (.bool true) ∧ Below W.heap.size W w' := by
  obtain ⟨ads, h1, h2, h3⟩ := errs_sents hL
  exact law_case_x fit h1 h2 h3 errs_all errs_lt (by kernel_rfl) hk (FnsOk.cons (hT.ok fit) (FnsOk.cons (pure_fn_ok (all_cons (p0_ok) (all_nil))) (FnsOk.cons (frame_fn_ok (all_cons (m1_ok) (all_nil))) (FnsOk.cons (pure_fn_ok (l22_ok)) (FnsOk.cons (frame_fn_ok (all_cons (m18_ok) (all_nil))) (FnsOk.nil)))))) hv ⟨_, Tryd.func4, rfl⟩ run9
noncomputable def h18 : H := hUpd h12 758 [] [] [(16, 0, (I 2) :: (I 1) :: (I 0) :: (I 0) :: (U 0) :: (I 8) :: (I 0) :: (I 0) :: (I 0) :: (U 0) :: rp 4 (I 0) ((U 0) :: rp 4 (I 0) ((U 0) :: rp 4 (I 0) ((U 0) :: rp 4 (I 0) ((U 0) :: rp 4 (I 0) ((U 0) :: rp 4 (I 0) ((U 0) :: rp 4 (I 0) ((U 0) :: rp 4 (I 0) ((U 0) :: rp 4 (I 0) ((U 0) :: rp 4 (I 0) ((U 0) :: rp 4 (I 0) ((U 0) :: rp 4 (I 0) ((U 0) :: rp 4 (I 0) ((U 0) :: rp 4 (I 0) ([U 0])))))))))))))))]
noncomputable def h19 : H := hUpd h18 1472 [] [(1260, .cells 5 ([[I 2, I 0, I 0, I 0, U 0], [I 2, I 1, I 0, I 0, U 0], [I 8, I 0, I 0, I 0, U 0], [I 2, I 2, I 0, I 0, U 0], [I 2, I 3, I 0, I 0, U 0]]) false)] []
noncomputable def m19 : Memo := ⟨[.ptr 61 0, .slice 757 0 1 1 5 true], h18, .slice 1260 0 5 5 5 false, h19⟩
noncomputable def l23 : List (List V × V) := p14 :: l9
theorem l23_ok {σ : Nat → Int} {W0 : World} : ∀ x ∈ l23, PureOk Tryd.prog 123 σ W0 29 x := all_cons p14_ok l9_ok
theorem m19_run : ranTo (evCall (cxX Tryd.prog bad [] [] [(29, pureFn l23)]) 1000 60 20 m19.args m19.h) m19.v m19.h' = true := by kernel_rfl
theorem m19_ok {σ : Nat → Int} {W0 : World} : MemoOk Tryd.prog 123 σ W0 20 m19 := memo_ok fit (Known2.nil σ) (FnsOk.cons (pure_fn_ok (l23_ok)) (FnsOk.nil)) m19_run
noncomputable def l24 : List (List V × V) := p14 :: l21
theorem l24_ok {σ : Nat → Int} {W0 : World} : ∀ x ∈ l24, PureOk Tryd.prog 123 σ W0 29 x := all_cons p14_ok l21_ok
theorem run10 : isTrue (evCall (cxX Tryd.prog bad [] [] [(10, numExtE [(0, 7, .lit 2), (1, 5, .lit 3)]), (17, pureFn [p0]), (6, frameFn [m1]), (29, pureFn l24), (20, frameFn [m19])]) 1000 60 4 [.int .i64 (.var 0), .int .i64 (.var 1)] (sentH 201 7 errTab)) = true := by kernel_rfl
theorem case10 {σ : Nat → Int} {W : World} (hL : laidMetH Tryd.prog laidErrs W) (hk : Known2 σ [] []) (hT : TabOk Tryd.prog bad 10 σ [(0, 7, .lit 2), (1, 5, .lit 3)]) {xs : Array Value} (hv : ∀ ρ, VRs σ ρ [.int .i64 (.var 0), .int .i64 (.var 1)] xs.toList) : Calls Tryd.prog 4 xs W fun e w' => e = .returned (.bool true) ∧ Below W.heap.size W w' := by
  obtain ⟨ads, h1, h2, h3⟩ := errs_sents hL
  exact law_case_x fit h1 h2 h3 errs_all errs_lt (by kernel_rfl) hk (FnsOk.cons (hT.ok fit) (FnsOk.cons (pure_fn_ok (all_cons (p0_ok) (all_nil))) (FnsOk.cons (frame_fn_ok (all_cons (m1_ok) (all_nil))) (FnsOk.cons (pure_fn_ok (l24_ok)) (FnsOk.cons (frame_fn_ok (all_cons (m19_ok) (all_nil))) (FnsOk.nil)))))) hv ⟨_, Tryd.func4, rfl⟩ run10
theorem run11 : isTrue (evCall (cxX Tryd.prog bad [] [] [(10, numExtE [(0, 7, .lit 2), (1, 5, .lit 4)]), (17, pureFn [p0]), (6, frameFn [m1]), (29, pureFn l24), (20, frameFn [m19])]) 1000 60 4 [.int .i64 (.var 0), .int .i64 (.var 1)] (sentH 201 7 errTab)) = true := by kernel_rfl
theorem case11 {σ : Nat → Int} {W : World} (hL : laidMetH Tryd.prog laidErrs W) (hk : Known2 σ [] []) (hT : TabOk Tryd.prog bad 10 σ [(0, 7, .lit 2), (1, 5, .lit 4)]) {xs : Array Value} (hv : ∀ ρ, VRs σ ρ [.int .i64 (.var 0), .int .i64 (.var 1)] xs.toList) : Calls Tryd.prog 4 xs W fun e w' => e = .returned (.bool true) ∧ Below W.heap.size W w' := by
  obtain ⟨ads, h1, h2, h3⟩ := errs_sents hL
  exact law_case_x fit h1 h2 h3 errs_all errs_lt (by kernel_rfl) hk (FnsOk.cons (hT.ok fit) (FnsOk.cons (pure_fn_ok (all_cons (p0_ok) (all_nil))) (FnsOk.cons (frame_fn_ok (all_cons (m1_ok) (all_nil))) (FnsOk.cons (pure_fn_ok (l24_ok)) (FnsOk.cons (frame_fn_ok (all_cons (m19_ok) (all_nil))) (FnsOk.nil)))))) hv ⟨_, Tryd.func4, rfl⟩ run11
noncomputable def p20 : List V × V := ([.agg [I 2, I 4, I 0, I 0, U 0]], .inil)
theorem p20_run : ranPure (evCall (cxX Tryd.prog bad [] [] []) 1000 60 29 p20.1 ⟨.lf, farN⟩) p20.2 = true := by kernel_rfl
theorem p20_ok {σ : Nat → Int} {W0 : World} : PureOk Tryd.prog 123 σ W0 29 p20 := pure_ok fit (Known2.nil σ) (FnsOk.nil) p20_run
noncomputable def p21 : List V × V := ([.agg [I 2, I 4, I 0, I 5, U 0]], .inil)
theorem p21_run : ranPure (evCall (cxX Tryd.prog bad [] [] []) 1000 60 29 p21.1 ⟨.lf, farN⟩) p21.2 = true := by kernel_rfl
theorem p21_ok {σ : Nat → Int} {W0 : World} : PureOk Tryd.prog 123 σ W0 29 p21 := pure_ok fit (Known2.nil σ) (FnsOk.nil) p21_run
noncomputable def h20 : H := hUpd h12 927 [757] [(926, .cells 5 ([[I 2, I 0, I 0, I 0, U 0]]) false),
  (54, .map [(.agg [I 2, I 0], .agg [I 0, I 0], 0), (.agg [I 2, I 1], .agg [I 0, I 0], 1), (.agg [I 2, I 2], .agg [I 0, I 0], 2), (.agg [I 2, I 3], .agg [I 0, I 0], 3), (.agg [I 2, I 4], .agg [I 0, I 0], 4)] 5)] [(14, 4, [bT, I 0, bF]),
  (16, 3, (I 2) :: (I 4) :: (I 0) :: (I 0) :: (U 0) :: (I 8) :: (I 0) :: (I 0) :: (I 0) :: (U 0) :: rp 4 (I 0) ((U 0) :: rp 4 (I 0) ((U 0) :: rp 4 (I 0) ((U 0) :: rp 4 (I 0) ((U 0) :: rp 4 (I 0) ((U 0) :: rp 4 (I 0) ((U 0) :: rp 4 (I 0) ((U 0) :: rp 4 (I 0) ((U 0) :: rp 4 (I 0) ((U 0) :: rp 4 (I 0) ((U 0) :: rp 4 (I 0) ((U 0) :: rp 4 (I 0) ((U 0) :: rp 4 (I 0) ((U 0) :: rp 4 (I 0) ([U 0]))))))))))))))),
  (53, 0, [IZ (-1), I 30, I 5])]
noncomputable def h21 : H := hUpd h20 1907 [] [(1676, .cells 5 ([[I 2, I 0, I 0, I 0, U 0], [I 2, I 1, I 0, I 5, U 0], [I 8, I 0, I 0, I 0, U 0], [I 2, I 2, I 0, I 5, U 0], [I 2, I 3, I 0, I 5, U 0], [I 2, I 4, I 0, I 5, U 0]]) false)] []
noncomputable def m22 : Memo := ⟨[.ptr 61 0, .slice 926 0 1 1 5 true], h20, .slice 1676 0 6 6 5 false, h21⟩
noncomputable def l25 : List (List V × V) := p21 :: l10
theorem l25_ok {σ : Nat → Int} {W0 : World} : ∀ x ∈ l25, PureOk Tryd.prog 123 σ W0 29 x := all_cons p21_ok l10_ok
theorem m22_run : ranTo (evCall (cxX Tryd.prog bad [] [] [(29, pureFn l25)]) 1000 60 20 m22.args m22.h) m22.v m22.h' = true := by kernel_rfl
theorem m22_ok {σ : Nat → Int} {W0 : World} : MemoOk Tryd.prog 123 σ W0 20 m22 := memo_ok fit (Known2.nil σ) (FnsOk.cons (pure_fn_ok (l25_ok)) (FnsOk.nil)) m22_run
noncomputable def l26 : List (List V × V) := p20 :: l14
theorem l26_ok {σ : Nat → Int} {W0 : World} : ∀ x ∈ l26, PureOk Tryd.prog 123 σ W0 29 x := all_cons p20_ok l14_ok
theorem run12 : isTrue (evCall (cxX Tryd.prog bad [] [] [(10, numExtE [(0, 7, .lit 3), (1, 6, .lit 0)]), (17, pureFn [p0]), (6, frameFn [m1]), (29, pureFn l26), (20, frameFn [m22])]) 1000 60 4 [.int .i64 (.var 0), .int .i64 (.var 1)] (sentH 201 7 errTab)) = true := by kernel_rfl
theorem case12 {σ : Nat → Int} {W : World} (hL : laidMetH Tryd.prog laidErrs W) (hk : Known2 σ [] []) (hT : TabOk Tryd.prog bad 10 σ [(0, 7, .lit 3), (1, 6, .lit 0)]) {xs : Array Value} (hv : ∀ ρ, VRs σ ρ [.int .i64 (.var 0), .int .i64 (.var 1)] xs.toList) : Calls Tryd.prog 4 xs W fun e w' => e = .returned (.bool true) ∧ Below W.heap.size W w' := by
  obtain ⟨ads, h1, h2, h3⟩ := errs_sents hL
  exact law_case_x fit h1 h2 h3 errs_all errs_lt (by kernel_rfl) hk (FnsOk.cons (hT.ok fit) (FnsOk.cons (pure_fn_ok (all_cons (p0_ok) (all_nil))) (FnsOk.cons (frame_fn_ok (all_cons (m1_ok) (all_nil))) (FnsOk.cons (pure_fn_ok (l26_ok)) (FnsOk.cons (frame_fn_ok (all_cons (m22_ok) (all_nil))) (FnsOk.nil)))))) hv ⟨_, Tryd.func4, rfl⟩ run12
noncomputable def h22 : H := hUpd h14 927 [757] [(926, .cells 5 ([[I 2, I 0, I 0, I 0, U 0]]) false),
  (54, .map [(.agg [I 2, I 0], .agg [I 0, I 0], 0), (.agg [I 2, I 1], .agg [I 0, I 0], 1), (.agg [I 2, I 2], .agg [I 0, I 0], 2), (.agg [I 2, I 3], .agg [I 0, I 0], 3), (.agg [I 2, I 4], .agg [I 0, I 0], 4)] 5)] [(14, 4, [bT, I 0, bF]),
  (16, 3, (I 2) :: (I 4) :: (I 0) :: (I 0) :: (U 0) :: (I 8) :: (I 0) :: (I 0) :: (I 0) :: (U 0) :: rp 4 (I 0) ((U 0) :: rp 4 (I 0) ((U 0) :: rp 4 (I 0) ((U 0) :: rp 4 (I 0) ((U 0) :: rp 4 (I 0) ((U 0) :: rp 4 (I 0) ((U 0) :: rp 4 (I 0) ((U 0) :: rp 4 (I 0) ((U 0) :: rp 4 (I 0) ((U 0) :: rp 4 (I 0) ((U 0) :: rp 4 (I 0) ((U 0) :: rp 4 (I 0) ((U 0) :: rp 4 (I 0) ((U 0) :: rp 4 (I 0) ([U 0]))))))))))))))),
  (53, 0, [IZ (-1), I 30, I 5])]
noncomputable def h23 : H := hUpd h22 1888 [] [(1657, .cells 5 ([[I 2, I 0, I 0, I 0, U 0], [I 2, I 1, I 0, I 0, U 0], [I 8, I 0, I 0, I 0, U 0], [I 2, I 2, I 0, I 5, U 0], [I 2, I 3, I 0, I 5, U 0], [I 2, I 4, I 0, I 5, U 0]]) false)] []
noncomputable def m23 : Memo := ⟨[.ptr 61 0, .slice 926 0 1 1 5 true], h22, .slice 1657 0 6 6 5 false, h23⟩
noncomputable def l27 : List (List V × V) := p21 :: l15
theorem l27_ok {σ : Nat → Int} {W0 : World} : ∀ x ∈ l27, PureOk Tryd.prog 123 σ W0 29 x := all_cons p21_ok l15_ok
theorem m23_run : ranTo (evCall (cxX Tryd.prog bad [] [] [(29, pureFn l27)]) 1000 60 20 m23.args m23.h) m23.v m23.h' = true := by kernel_rfl
theorem m23_ok {σ : Nat → Int} {W0 : World} : MemoOk Tryd.prog 123 σ W0 20 m23 := memo_ok fit (Known2.nil σ) (FnsOk.cons (pure_fn_ok (l27_ok)) (FnsOk.nil)) m23_run
noncomputable def l28 : List (List V × V) := p20 :: l19
theorem l28_ok {σ : Nat → Int} {W0 : World} : ∀ x ∈ l28, PureOk Tryd.prog 123 σ W0 29 x := all_cons p20_ok l19_ok
theorem run13 : isTrue (evCall (cxX Tryd.prog bad [] [] [(10, numExtE [(0, 7, .lit 3), (1, 6, .lit 1)]), (17, pureFn [p0]), (6, frameFn [m1]), (29, pureFn l28), (20, frameFn [m23])]) 1000 60 4 [.int .i64 (.var 0), .int .i64 (.var 1)] (sentH 201 7 errTab)) = true := by kernel_rfl
theorem case13 {σ : Nat → Int} {W : World} (hL : laidMetH Tryd.prog laidErrs W) (hk : Known2 σ [] []) (hT : TabOk Tryd.prog bad 10 σ [(0, 7, .lit 3), (1, 6, .lit 1)]) {xs : Array Value} (hv : ∀ ρ, VRs σ ρ [.int .i64 (.var 0), .int .i64 (.var 1)] xs.toList) : Calls Tryd.prog 4 xs W fun e w' => e = .returned (.bool true) ∧ Below W.heap.size W w' := by
  obtain ⟨ads, h1, h2, h3⟩ := errs_sents hL
  exact law_case_x fit h1 h2 h3 errs_all errs_lt (by kernel_rfl) hk (FnsOk.cons (hT.ok fit) (FnsOk.cons (pure_fn_ok (all_cons (p0_ok) (all_nil))) (FnsOk.cons (frame_fn_ok (all_cons (m1_ok) (all_nil))) (FnsOk.cons (pure_fn_ok (l28_ok)) (FnsOk.cons (frame_fn_ok (all_cons (m23_ok) (all_nil))) (FnsOk.nil)))))) hv ⟨_, Tryd.func4, rfl⟩ run13
noncomputable def h24 : H := hUpd h16 927 [757] [(926, .cells 5 ([[I 2, I 0, I 0, I 0, U 0]]) false),
  (54, .map [(.agg [I 2, I 0], .agg [I 0, I 0], 0), (.agg [I 2, I 1], .agg [I 0, I 0], 1), (.agg [I 2, I 2], .agg [I 0, I 0], 2), (.agg [I 2, I 3], .agg [I 0, I 0], 3), (.agg [I 2, I 4], .agg [I 0, I 0], 4)] 5)] [(14, 4, [bT, I 0, bF]),
  (16, 3, (I 2) :: (I 4) :: (I 0) :: (I 0) :: (U 0) :: (I 8) :: (I 0) :: (I 0) :: (I 0) :: (U 0) :: rp 4 (I 0) ((U 0) :: rp 4 (I 0) ((U 0) :: rp 4 (I 0) ((U 0) :: rp 4 (I 0) ((U 0) :: rp 4 (I 0) ((U 0) :: rp 4 (I 0) ((U 0) :: rp 4 (I 0) ((U 0) :: rp 4 (I 0) ((U 0) :: rp 4 (I 0) ((U 0) :: rp 4 (I 0) ((U 0) :: rp 4 (I 0) ((U 0) :: rp 4 (I 0) ((U 0) :: rp 4 (I 0) ((U 0) :: rp 4 (I 0) ([U 0]))))))))))))))),
  (53, 0, [IZ (-1), I 30, I 5])]
noncomputable def h25 : H := hUpd h24 1869 [] [(1638, .cells 5 ([[I 2, I 0, I 0, I 0, U 0], [I 2, I 1, I 0, I 0, U 0], [I 8, I 0, I 0, I 0, U 0], [I 2, I 2, I 0, I 0, U 0], [I 2, I 3, I 0, I 5, U 0], [I 2, I 4, I 0, I 5, U 0]]) false)] []
noncomputable def m24 : Memo := ⟨[.ptr 61 0, .slice 926 0 1 1 5 true], h24, .slice 1638 0 6 6 5 false, h25⟩
noncomputable def l29 : List (List V × V) := p21 :: l20
theorem l29_ok {σ : Nat → Int} {W0 : World} : ∀ x ∈ l29, PureOk Tryd.prog 123 σ W0 29 x := all_cons p21_ok l20_ok
theorem m24_run : ranTo (evCall (cxX Tryd.prog bad [] [] [(29, pureFn l29)]) 1000 60 20 m24.args m24.h) m24.v m24.h' = true := by kernel_rfl
theorem m24_ok {σ : Nat → Int} {W0 : World} : MemoOk Tryd.prog 123 σ W0 20 m24 := memo_ok fit (Known2.nil σ) (FnsOk.cons (pure_fn_ok (l29_ok)) (FnsOk.nil)) m24_run
noncomputable def l30 : List (List V × V) := p20 :: l22
theorem l30_ok {σ : Nat → Int} {W0 : World} : ∀ x ∈ l30, PureOk Tryd.prog 123 σ W0 29 x := all_cons p20_ok l22_ok
theorem run14 : isTrue (evCall (cxX Tryd.prog bad [] [] [(10, numExtE [(0, 7, .lit 3), (1, 6, .lit 2)]), (17, pureFn [p0]), (6, frameFn [m1]), (29, pureFn l30), (20, frameFn [m24])]) 1000 60 4 [.int .i64 (.var 0), .int .i64 (.var 1)] (sentH 201 7 errTab)) = true := by kernel_rfl
theorem case14 {σ : Nat → Int} {W : World} (hL : laidMetH Tryd.prog laidErrs W) (hk : Known2 σ [] []) (hT : TabOk Tryd.prog bad 10 σ [(0, 7, .lit 3), (1, 6, .lit 2)]) {xs : Array Value} (hv : ∀ ρ, VRs σ ρ [.int .i64 (.var 0), .int .i64 (.var 1)] xs.toList) : Calls Tryd.prog 4 xs W fun e w' => e = .returned (.bool true) ∧ Below W.heap.size W w' := by
  obtain ⟨ads, h1, h2, h3⟩ := errs_sents hL
  exact law_case_x fit h1 h2 h3 errs_all errs_lt (by kernel_rfl) hk (FnsOk.cons (hT.ok fit) (FnsOk.cons (pure_fn_ok (all_cons (p0_ok) (all_nil))) (FnsOk.cons (frame_fn_ok (all_cons (m1_ok) (all_nil))) (FnsOk.cons (pure_fn_ok (l30_ok)) (FnsOk.cons (frame_fn_ok (all_cons (m24_ok) (all_nil))) (FnsOk.nil)))))) hv ⟨_, Tryd.func4, rfl⟩ run14
noncomputable def h26 : H := hUpd h18 927 [757] [(926, .cells 5 ([[I 2, I 0, I 0, I 0, U 0]]) false),
  (54, .map [(.agg [I 2, I 0], .agg [I 0, I 0], 0), (.agg [I 2, I 1], .agg [I 0, I 0], 1), (.agg [I 2, I 2], .agg [I 0, I 0], 2), (.agg [I 2, I 3], .agg [I 0, I 0], 3), (.agg [I 2, I 4], .agg [I 0, I 0], 4)] 5)] [(14, 4, [bT, I 0, bF]),
  (16, 3, (I 2) :: (I 4) :: (I 0) :: (I 5) :: (U 0) :: (I 8) :: (I 0) :: (I 0) :: (I 0) :: (U 0) :: rp 4 (I 0) ((U 0) :: rp 4 (I 0) ((U 0) :: rp 4 (I 0) ((U 0) :: rp 4 (I 0) ((U 0) :: rp 4 (I 0) ((U 0) :: rp 4 (I 0) ((U 0) :: rp 4 (I 0) ((U 0) :: rp 4 (I 0) ((U 0) :: rp 4 (I 0) ((U 0) :: rp 4 (I 0) ((U 0) :: rp 4 (I 0) ((U 0) :: rp 4 (I 0) ((U 0) :: rp 4 (I 0) ((U 0) :: rp 4 (I 0) ([U 0]))))))))))))))),
  (53, 0, [IZ (-1), I 30, I 5])]
noncomputable def h27 : H := hUpd h26 1850 [] [(1606, .cells 5 ([[I 2, I 0, I 0, I 0, U 0], [I 2, I 1, I 0, I 0, U 0], [I 8, I 0, I 0, I 0, U 0], [I 2, I 2, I 0, I 0, U 0], [I 2, I 3, I 0, I 0, U 0], [I 2, I 4, I 0, I 5, U 0]]) false)] []
noncomputable def m25 : Memo := ⟨[.ptr 61 0, .slice 926 0 1 1 5 true], h26, .slice 1606 0 6 6 5 false, h27⟩
noncomputable def l31 : List (List V × V) := p21 :: l23
theorem l31_ok {σ : Nat → Int} {W0 : World} : ∀ x ∈ l31, PureOk Tryd.prog 123 σ W0 29 x := all_cons p21_ok l23_ok
theorem m25_run : ranTo (evCall (cxX Tryd.prog bad [] [] [(29, pureFn l31)]) 1000 60 20 m25.args m25.h) m25.v m25.h' = true := by kernel_rfl
theorem m25_ok {σ : Nat → Int} {W0 : World} : MemoOk Tryd.prog 123 σ W0 20 m25 := memo_ok fit (Known2.nil σ) (FnsOk.cons (pure_fn_ok (l31_ok)) (FnsOk.nil)) m25_run
noncomputable def l32 : List (List V × V) := p21 :: l24
theorem l32_ok {σ : Nat → Int} {W0 : World} : ∀ x ∈ l32, PureOk Tryd.prog 123 σ W0 29 x := all_cons p21_ok l24_ok
theorem run15 : isTrue (evCall (cxX Tryd.prog bad [] [] [(10, numExtE [(0, 7, .lit 3), (1, 6, .lit 3)]), (17, pureFn [p0]), (6, frameFn [m1]), (29, pureFn l32), (20, frameFn [m25])]) 1000 60 4 [.int .i64 (.var 0), .int .i64 (.var 1)] (sentH 201 7 errTab)) = true := by kernel_rfl
theorem case15 {σ : Nat → Int} {W : World} (hL : laidMetH Tryd.prog laidErrs W) (hk : Known2 σ [] []) (hT : TabOk Tryd.prog bad 10 σ [(0, 7, .lit 3), (1, 6, .lit 3)]) {xs : Array Value} (hv : ∀ ρ, VRs σ ρ [.int .i64 (.var 0), .int .i64 (.var 1)] xs.toList) : Calls Tryd.prog 4 xs W fun e w' => e = .returned (.bool true) ∧ Below W.heap.size W w' := by
  obtain ⟨ads, h1, h2, h3⟩ := errs_sents hL
  exact law_case_x fit h1 h2 h3 errs_all errs_lt (by kernel_rfl) hk (FnsOk.cons (hT.ok fit) (FnsOk.cons (pure_fn_ok (all_cons (p0_ok) (all_nil))) (FnsOk.cons (frame_fn_ok (all_cons (m1_ok) (all_nil))) (FnsOk.cons (pure_fn_ok (l32_ok)) (FnsOk.cons (frame_fn_ok (all_cons (m25_ok) (all_nil))) (FnsOk.nil)))))) hv ⟨_, Tryd.func4, rfl⟩ run15
noncomputable def h28 : H := hUpd h20 927 [] [] [(16, 0, (I 2) :: (I 1) :: (I 0) :: (I 0) :: (U 0) :: (I 8) :: (I 0) :: (I 0) :: (I 0) :: (U 0) :: rp 4 (I 0) ((U 0) :: rp 4 (I 0) ((U 0) :: rp 4 (I 0) ((U 0) :: rp 4 (I 0) ((U 0) :: rp 4 (I 0) ((U 0) :: rp 4 (I 0) ((U 0) :: rp 4 (I 0) ((U 0) :: rp 4 (I 0) ((U 0) :: rp 4 (I 0) ((U 0) :: rp 4 (I 0) ((U 0) :: rp 4 (I 0) ((U 0) :: rp 4 (I 0) ((U 0) :: rp 4 (I 0) ((U 0) :: rp 4 (I 0) ([U 0])))))))))))))))]
noncomputable def h29 : H := hUpd h28 1818 [] [(1606, .cells 5 ([[I 2, I 0, I 0, I 0, U 0], [I 2, I 1, I 0, I 0, U 0], [I 8, I 0, I 0, I 0, U 0], [I 2, I 2, I 0, I 0, U 0], [I 2, I 3, I 0, I 0, U 0], [I 2, I 4, I 0, I 0, U 0]]) false)] []
noncomputable def m26 : Memo := ⟨[.ptr 61 0, .slice 926 0 1 1 5 true], h28, .slice 1606 0 6 6 5 false, h29⟩
noncomputable def l33 : List (List V × V) := p20 :: l23
theorem l33_ok {σ : Nat → Int} {W0 : World} : ∀ x ∈ l33, PureOk Tryd.prog 123 σ W0 29 x := all_cons p20_ok l23_ok
theorem m26_run : ranTo (evCall (cxX Tryd.prog bad [] [] [(29, pureFn l33)]) 1000 60 20 m26.args m26.h) m26.v m26.h' = true := by kernel_rfl
theorem m26_ok {σ : Nat → Int} {W0 : World} : MemoOk Tryd.prog 123 σ W0 20 m26 := memo_ok fit (Known2.nil σ) (FnsOk.cons (pure_fn_ok (l33_ok)) (FnsOk.nil)) m26_run
noncomputable def l34 : List (List V × V) := p20 :: l24
theorem l34_ok {σ : Nat → Int} {W0 : World} : ∀ x ∈ l34, PureOk Tryd.prog 123 σ W0 29 x := all_cons p20_ok l24_ok
theorem run16 : isTrue (evCall (cxX Tryd.prog bad [] [] [(10, numExtE [(0, 7, .lit 3), (1, 6, .lit 4)]), (17, pureFn [p0]), (6, frameFn [m1]), (29, pureFn l34), (20, frameFn [m26])]) 1000 60 4 [.int .i64 (.var 0), .int .i64 (.var 1)] (sentH 201 7 errTab)) = true := by kernel_rfl
theorem case16 {σ : Nat → Int} {W : World} (hL : laidMetH Tryd.prog laidErrs W) (hk : Known2 σ [] []) (hT : TabOk Tryd.prog bad 10 σ [(0, 7, .lit 3), (1, 6, .lit 4)]) {xs : Array Value} (hv : ∀ ρ, VRs σ ρ [.int .i64 (.var 0), .int .i64 (.var 1)] xs.toList) : Calls Tryd.prog 4 xs W fun e w' => e = .returned (.bool true) ∧ Below W.heap.size W w' := by
  obtain ⟨ads, h1, h2, h3⟩ := errs_sents hL
  exact law_case_x fit h1 h2 h3 errs_all errs_lt (by kernel_rfl) hk (FnsOk.cons (hT.ok fit) (FnsOk.cons (pure_fn_ok (all_cons (p0_ok) (all_nil))) (FnsOk.cons (frame_fn_ok (all_cons (m1_ok) (all_nil))) (FnsOk.cons (pure_fn_ok (l34_ok)) (FnsOk.cons (frame_fn_ok (all_cons (m26_ok) (all_nil))) (FnsOk.nil)))))) hv ⟨_, Tryd.func4, rfl⟩ run16
theorem run17 : isTrue (evCall (cxX Tryd.prog bad [] [] [(10, numExtE [(0, 7, .lit 3), (1, 6, .lit 5)]), (17, pureFn [p0]), (6, frameFn [m1]), (29, pureFn l34), (20, frameFn [m26])]) 1000 60 4 [.int .i64 (.var 0), .int .i64 (.var 1)] (sentH 201 7 errTab)) = true := by kernel_rfl
theorem case17 {σ : Nat → Int} {W : World} (hL : laidMetH Tryd.prog laidErrs W) (hk : Known2 σ [] []) (hT : TabOk Tryd.prog bad 10 σ [(0, 7, .lit 3), (1, 6, .lit 5)]) {xs : Array Value} (hv : ∀ ρ, VRs σ ρ [.int .i64 (.var 0), .int .i64 (.var 1)] xs.toList) : Calls Tryd.prog 4 xs W fun e w' => e = .returned (.bool true) ∧ Below W.heap.size W w' := by
  obtain ⟨ads, h1, h2, h3⟩ := errs_sents hL
  exact law_case_x fit h1 h2 h3 errs_all errs_lt (by kernel_rfl) hk (FnsOk.cons (hT.ok fit) (FnsOk.cons (pure_fn_ok (all_cons (p0_ok) (all_nil))) (FnsOk.cons (frame_fn_ok (all_cons (m1_ok) (all_nil))) (FnsOk.cons (pure_fn_ok (l34_ok)) (FnsOk.cons (frame_fn_ok (all_cons (m26_ok) (all_nil))) (FnsOk.nil)))))) hv ⟨_, Tryd.func4, rfl⟩ run17
noncomputable def p27 : List V × V := ([.agg [I 2, I 5, I 0, I 0, U 0]], .inil)
theorem p27_run : ranPure (evCall (cxX Tryd.prog bad [] [] []) 1000 60 29 p27.1 ⟨.lf, farN⟩) p27.2 = true := by kernel_rfl
theorem p27_ok {σ : Nat → Int} {W0 : World} : PureOk Tryd.prog 123 σ W0 29 p27 := pure_ok fit (Known2.nil σ) (FnsOk.nil) p27_run
noncomputable def p28 : List V × V := ([.agg [I 2, I 5, I 0, I 5, U 0]], .inil)
theorem p28_run : ranPure (evCall (cxX Tryd.prog bad [] [] []) 1000 60 29 p28.1 ⟨.lf, farN⟩) p28.2 = true := by kernel_rfl
theorem p28_ok {σ : Nat → Int} {W0 : World} : PureOk Tryd.prog 123 σ W0 29 p28 := pure_ok fit (Known2.nil σ) (FnsOk.nil) p28_run
noncomputable def h30 : H := hUpd h20 1096 [926] [(54, .map [(.agg [I 2, I 0], .agg [I 0, I 0], 0), (.agg [I 2, I 1], .agg [I 0, I 0], 1), (.agg [I 2, I 2], .agg [I 0, I 0], 2), (.agg [I 2, I 3], .agg [I 0, I 0], 3), (.agg [I 2, I 4], .agg [I 0, I 0], 4), (.agg [I 2, I 5], .agg [I 0, I 0], 5)] 6),
  (1095, .cells 5 ([[I 2, I 0, I 0, I 0, U 0]]) false)] [(14, 5, [bT, I 0, bF]),
  (16, 4, (I 2) :: (I 5) :: (I 0) :: (I 0) :: (U 0) :: (I 8) :: (I 0) :: (I 0) :: (I 0) :: (U 0) :: rp 4 (I 0) ((U 0) :: rp 4 (I 0) ((U 0) :: rp 4 (I 0) ((U 0) :: rp 4 (I 0) ((U 0) :: rp 4 (I 0) ((U 0) :: rp 4 (I 0) ((U 0) :: rp 4 (I 0) ((U 0) :: rp 4 (I 0) ((U 0) :: rp 4 (I 0) ((U 0) :: rp 4 (I 0) ((U 0) :: rp 4 (I 0) ((U 0) :: rp 4 (I 0) ((U 0) :: rp 4 (I 0) ((U 0) :: rp 4 (I 0) ([U 0]))))))))))))))),
  (53, 0, [IZ (-1), I 30, I 6])]
noncomputable def h31 : H := hUpd h30 2272 [] [(2041, .cells 5 ([[I 2, I 0, I 0, I 0, U 0], [I 2, I 1, I 0, I 5, U 0], [I 8, I 0, I 0, I 0, U 0], [I 2, I 2, I 0, I 5, U 0], [I 2, I 3, I 0, I 5, U 0], [I 2, I 4, I 0, I 5, U 0], [I 2, I 5, I 0, I 5, U 0]]) false)] []
noncomputable def m29 : Memo := ⟨[.ptr 61 0, .slice 1095 0 1 1 5 true], h30, .slice 2041 0 7 7 5 false, h31⟩
noncomputable def l35 : List (List V × V) := p28 :: l25
theorem l35_ok {σ : Nat → Int} {W0 : World} : ∀ x ∈ l35, PureOk Tryd.prog 123 σ W0 29 x := all_cons p28_ok l25_ok
theorem m29_run : ranTo (evCall (cxX Tryd.prog bad [] [] [(29, pureFn l35)]) 1000 60 20 m29.args m29.h) m29.v m29.h' = true := by kernel_rfl
theorem m29_ok {σ : Nat → Int} {W0 : World} : MemoOk Tryd.prog 123 σ W0 20 m29 := memo_ok fit (Known2.nil σ) (FnsOk.cons (pure_fn_ok (l35_ok)) (FnsOk.nil)) m29_run
noncomputable def l36 : List (List V × V) := p27 :: l26
theorem l36_ok {σ : Nat → Int} {W0 : World} : ∀ x ∈ l36, PureOk Tryd.prog 123 σ W0 29 x := all_cons p27_ok l26_ok
theorem run18 : isTrue (evCall (cxX Tryd.prog bad [] [] [(10, numExtE [(0, 7, .lit 4), (1, 7, .lit 0)]), (17, pureFn [p0]), (6, frameFn [m1]), (29, pureFn l36), (20, frameFn [m29])]) 1000 60 4 [.int .i64 (.var 0), .int .i64 (.var 1)] (sentH 201 7 errTab)) = true := by kernel_rfl
theorem case18 {σ : Nat → Int} {W : World} (hL : laidMetH Tryd.prog laidErrs W) (hk : Known2 σ [] []) (hT : TabOk Tryd.prog bad 10 σ [(0, 7, .lit 4), (1, 7, .lit 0)]) {xs : Array Value} (hv : ∀ ρ, VRs σ ρ [.int .i64 (.var 0), .int .i64 (.var 1)] xs.toList) : Calls Tryd.prog 4 xs W fun e w' => e = .returned (.bool true) ∧ Below W.heap.size W w' := by
  obtain ⟨ads, h1, h2, h3⟩ := errs_sents hL
  exact law_case_x fit h1 h2 h3 errs_all errs_lt (by kernel_rfl) hk (FnsOk.cons (hT.ok fit) (FnsOk.cons (pure_fn_ok (all_cons (p0_ok) (all_nil))) (FnsOk.cons (frame_fn_ok (all_cons (m1_ok) (all_nil))) (FnsOk.cons (pure_fn_ok (l36_ok)) (FnsOk.cons (frame_fn_ok (all_cons (m29_ok) (all_nil))) (FnsOk.nil)))))) hv ⟨_, Tryd.func4, rfl⟩ run18
noncomputable def h32 : H := hUpd h22 1096 [926] [(54, .map [(.agg [I 2, I 0], .agg [I 0, I 0], 0), (.agg [I 2, I 1], .agg [I 0, I 0], 1), (.agg [I 2, I 2], .agg [I 0, I 0], 2), (.agg [I 2, I 3], .agg [I 0, I 0], 3), (.agg [I 2, I 4], .agg [I 0, I 0], 4), (.agg [I 2, I 5], .agg [I 0, I 0], 5)] 6),
  (1095, .cells 5 ([[I 2, I 0, I 0, I 0, U 0]]) false)] [(14, 5, [bT, I 0, bF]),
  (16, 4, (I 2) :: (I 5) :: (I 0) :: (I 0) :: (U 0) :: (I 8) :: (I 0) :: (I 0) :: (I 0) :: (U 0) :: rp 4 (I 0) ((U 0) :: rp 4 (I 0) ((U 0) :: rp 4 (I 0) ((U 0) :: rp 4 (I 0) ((U 0) :: rp 4 (I 0) ((U 0) :: rp 4 (I 0) ((U 0) :: rp 4 (I 0) ((U 0) :: rp 4 (I 0) ((U 0) :: rp 4 (I 0) ((U 0) :: rp 4 (I 0) ((U 0) :: rp 4 (I 0) ((U 0) :: rp 4 (I 0) ((U 0) :: rp 4 (I 0) ((U 0) :: rp 4 (I 0) ([U 0]))))))))))))))),
  (53, 0, [IZ (-1), I 30, I 6])]
noncomputable def h33 : H := hUpd h32 2253 [] [(2022, .cells 5 ([[I 2, I 0, I 0, I 0, U 0], [I 2, I 1, I 0, I 0, U 0], [I 8, I 0, I 0, I 0, U 0], [I 2, I 2, I 0, I 5, U 0], [I 2, I 3, I 0, I 5, U 0], [I 2, I 4, I 0, I 5, U 0], [I 2, I 5, I 0, I 5, U 0]]) false)] []
noncomputable def m30 : Memo := ⟨[.ptr 61 0, .slice 1095 0 1 1 5 true], h32, .slice 2022 0 7 7 5 false, h33⟩
noncomputable def l37 : List (List V × V) := p28 :: l27
theorem l37_ok {σ : Nat → Int} {W0 : World} : ∀ x ∈ l37, PureOk Tryd.prog 123 σ W0 29 x := all_cons p28_ok l27_ok
theorem m30_run : ranTo (evCall (cxX Tryd.prog bad [] [] [(29, pureFn l37)]) 1000 60 20 m30.args m30.h) m30.v m30.h' = true := by kernel_rfl
theorem m30_ok {σ : Nat → Int} {W0 : World} : MemoOk Tryd.prog 123 σ W0 20 m30 := memo_ok fit (Known2.nil σ) (FnsOk.cons (pure_fn_ok (l37_ok)) (FnsOk.nil)) m30_run
noncomputable def l38 : List (List V × V) := p27 :: l28
theorem l38_ok {σ : Nat → Int} {W0 : World} : ∀ x ∈ l38, PureOk Tryd.prog 123 σ W0 29 x := all_cons p27_ok l28_ok
theorem run19 : isTrue (evCall (cxX Tryd.prog bad [] [] [(10, numExtE [(0, 7, .lit 4), (1, 7, .lit 1)]), (17, pureFn [p0]), (6, frameFn [m1]), (29, pureFn l38), (20, frameFn [m30])]) 1000 60 4 [.int .i64 (.var 0), .int .i64 (.var 1)] (sentH 201 7 errTab)) = true := by kernel_rfl
theorem case19 {σ : Nat → Int} {W : World} (hL : laidMetH Tryd.prog laidErrs W) (hk : Known2 σ [] []) (hT : TabOk Tryd.prog bad 10 σ [(0, 7, .lit 4), (1, 7, .lit 1)]) {xs : Array Value} (hv : ∀ ρ, VRs σ ρ [.int .i64 (.var 0), .int .i64 (.var 1)] xs.toList) : Calls Tryd.prog 4 xs W fun e w' => e = .returned (.bool true) ∧ Below W.heap.size W w' := by
  obtain ⟨ads, h1, h2, h3⟩ := errs_sents hL
  exact law_case_x fit h1 h2 h3 errs_all errs_lt (by kernel_rfl) hk (FnsOk.cons (hT.ok fit) (FnsOk.cons (pure_fn_ok (all_cons (p0_ok) (all_nil))) (FnsOk.cons (frame_fn_ok (all_cons (m1_ok) (all_nil))) (FnsOk.cons (pure_fn_ok (l38_ok)) (FnsOk.cons (frame_fn_ok (all_cons (m30_ok) (all_nil))) (FnsOk.nil)))))) hv ⟨_, Tryd.func4, rfl⟩ run19
noncomputable def h34 : H := hUpd h24 1096 [926] [(54, .map [(.agg [I 2, I 0], .agg [I 0, I 0], 0), (.agg [I 2, I 1], .agg [I 0, I 0], 1), (.agg [I 2, I 2], .agg [I 0, I 0], 2), (.agg [I 2, I 3], .agg [I 0, I 0], 3), (.agg [I 2, I 4], .agg [I 0, I 0], 4), (.agg [I 2, I 5], .agg [I 0, I 0], 5)] 6),
  (1095, .cells 5 ([[I 2, I 0, I 0, I 0, U 0]]) false)] [(14, 5, [bT, I 0, bF]),
  (16, 4, (I 2) :: (I 5) :: (I 0) :: (I 0) :: (U 0) :: (I 8) :: (I 0) :: (I 0) :: (I 0) :: (U 0) :: rp 4 (I 0) ((U 0) :: rp 4 (I 0) ((U 0) :: rp 4 (I 0) ((U 0) :: rp 4 (I 0) ((U 0) :: rp 4 (I 0) ((U 0) :: rp 4 (I 0) ((U 0) :: rp 4 (I 0) ((U 0) :: rp 4 (I 0) ((U 0) :: rp 4 (I 0) ((U 0) :: rp 4 (I 0) ((U 0) :: rp 4 (I 0) ((U 0) :: rp 4 (I 0) ((U 0) :: rp 4 (I 0) ((U 0) :: rp 4 (I 0) ([U 0]))))))))))))))),
  (53, 0, [IZ (-1), I 30, I 6])]
noncomputable def h35 : H := hUpd h34 2234 [] [(2003, .cells 5 ([[I 2, I 0, I 0, I 0, U 0], [I 2, I 1, I 0, I 0, U 0], [I 8, I 0, I 0, I 0, U 0], [I 2, I 2, I 0, I 0, U 0], [I 2, I 3, I 0, I 5, U 0], [I 2, I 4, I 0, I 5, U 0], [I 2, I 5, I 0, I 5, U 0]]) false)] []
noncomputable def m31 : Memo := ⟨[.ptr 61 0, .slice 1095 0 1 1 5 true], h34, .slice 2003 0 7 7 5 false, h35⟩
noncomputable def l39 : List (List V × V) := p28 :: l29
theorem l39_ok {σ : Nat → Int} {W0 : World} : ∀ x ∈ l39, PureOk Tryd.prog 123 σ W0 29 x := all_cons p28_ok l29_ok
theorem m31_run : ranTo (evCall (cxX Tryd.prog bad [] [] [(29, pureFn l39)]) 1000 60 20 m31.args m31.h) m31.v m31.h' = true := by kernel_rfl
theorem m31_ok {σ : Nat → Int} {W0 : World} : MemoOk Tryd.prog 123 σ W0 20 m31 := memo_ok fit (Known2.nil σ) (FnsOk.cons (pure_fn_ok (l39_ok)) (FnsOk.nil)) m31_run
noncomputable def l40 : List (List V × V) := p27 :: l30
theorem l40_ok {σ : Nat → Int} {W0 : World} : ∀ x ∈ l40, PureOk Tryd.prog 123 σ W0 29 x := all_cons p27_ok l30_ok
theorem run20 : isTrue (evCall (cxX Tryd.prog bad [] [] [(10, numExtE [(0, 7, .lit 4), (1, 7, .lit 2)]), (17, pureFn [p0]), (6, frameFn [m1]), (29, pureFn l40), (20, frameFn [m31])]) 1000 60 4 [.int .i64 (.var 0), .int .i64 (.var 1)] (sentH 201 7 errTab)) = true := by kernel_rfl
theorem case20 {σ : Nat → Int} {W : World} (hL : laidMetH Tryd.prog laidErrs W) (hk : Known2 σ [] []) (hT : TabOk Tryd.prog bad 10 σ [(0, 7, .lit 4), (1, 7, .lit 2)]) {xs : Array Value} (hv : ∀ ρ, VRs σ ρ [.int .i64 (.var 0), .int .i64 (.var 1)] xs.toList) : Calls Tryd.prog 4 xs W fun e w' => e = .returned (.bool true) ∧ Below W.heap.size W w' := by
  obtain ⟨ads, h1, h2, h3⟩ := errs_sents hL
  exact law_case_x fit h1 h2 h3 errs_all errs_lt (by kernel_rfl) hk (FnsOk.cons (hT.ok fit) (FnsOk.cons (pure_fn_ok (all_cons (p0_ok) (all_nil))) (FnsOk.cons (frame_fn_ok (all_cons (m1_ok) (all_nil))) (FnsOk.cons (pure_fn_ok (l40_ok)) (FnsOk.cons (frame_fn_ok (all_cons (m31_ok) (all_nil))) (FnsOk.nil)))))) hv ⟨_, Tryd.func4, rfl⟩ run20
end Go.Proofs.YtflipohebkkkbabDoor.graphReaches
