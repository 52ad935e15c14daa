/- sysGone: calls that are run once, and the runs of the cases (part 0). -/
import Derived.Test.YtalmhgaomgkdbaaDoorEvSgF
set_option linter.unusedVariables false
set_option maxRecDepth 10000000
namespace Go.Proofs.YtalmhgaomgkdbaaDoor.sysGone
open Tk
open Go.RowKit
noncomputable def h0 : H := sentH 211 7 errTab
noncomputable def p0 : List V × V := ([], bT)
theorem p0_run : ranPure (evCall (cxX Tryd.prog bad [] [] []) 1000 60 5 p0.1 ⟨.lf, farN⟩) p0.2 = true := by kernel_rfl
theorem p0_ok {σ : Nat → Int} {W0 : World} : PureOk Tryd.prog 127 σ W0 5 p0 := pure_ok fit (Known2.nil σ) (FnsOk.nil) p0_run
noncomputable def h1 : H := hUpd h0 15 [] [] []
noncomputable def h2 : H := hUpd h0 167 [] [(62, .cells 1 ([[.snil]]) false),
  (46, .cells 1 ([[.snil]]) false),
  (30, .cells 3 ([[.ptr 28 0, .slice 29 0 6 6 107 true, .slice 48 0 6 6 1 false]]) false),
  (54, .cells 1 ([[.slice 53 0 6 6 3 true]]) false),
  (166, .cells 31 (rp 4 ((bF) :: rp 4 (I 0) ((U 0) :: rp 4 (I 0) ((U 0) :: rp 4 (I 0) ((U 0) :: rp 4 (I 0) ((U 0) :: rp 4 (I 0) ((U 0) :: rp 4 (I 0) ([U 0]))))))) ([])) false),
  (22, .cells 32 (rp 12 (rp 32 (U 0) ([])) ([])) false),
  (58, .cells 3 (rp 4 ([bF, I 0, bF]) ([])) false),
  (26, .cells 3 ([[.ptr 24 0, I 16, .ptr 25 0]]) false),
  (50, .cells 1 ([[.slice 49 0 8 8 3 true]]) false),
  (162, .cells 32 (rp 12 (rp 32 (U 0) ([])) ([])) false),
  (34, .cells 1 ([[.snil]]) false),
  (18, .cells 80 (rp 12 (rp 4 (I 0) ((U 0) :: rp 4 (I 0) ((U 0) :: rp 4 (I 0) ((U 0) :: rp 4 (I 0) ((U 0) :: rp 4 (I 0) ((U 0) :: rp 4 (I 0) ((U 0) :: rp 4 (I 0) ((U 0) :: rp 4 (I 0) ((U 0) :: rp 4 (I 0) ((U 0) :: rp 4 (I 0) ((U 0) :: rp 4 (I 0) ((U 0) :: rp 4 (I 0) ((U 0) :: rp 4 (I 0) ((U 0) :: rp 4 (I 0) ((U 0) :: rp 4 (I 0) ((U 0) :: rp 4 (I 0) ([U 0]))))))))))))))))) ([])) false),
  (60, .cells 31 (rp 4 ((bF) :: rp 4 (I 0) ((U 0) :: rp 4 (I 0) ((U 0) :: rp 4 (I 0) ((U 0) :: rp 4 (I 0) ((U 0) :: rp 4 (I 0) ((U 0) :: rp 4 (I 0) ([U 0]))))))) ([])) false),
  (28, .cells 1 ([[.slice 27 0 6 6 3 true]]) false),
  (52, .cells 2 ([[.ptr 50 0, .slice 51 0 8 8 2 true]]) false),
  (164, .cells 2 (rp 8 ([I 0, I 0]) ([])) false),
  (20, .cells 3 (rp 12 ([bF, I 0, bF]) ([])) false),
  (56, .map [] 0),
  (40, .cells 1 ([[.snil]]) false),
  (24, .cells 2 ([[.ptr 19 0, .ptr 23 0]]) false),
  (48, .cells 1 ([[.ptr 31 0], [.ptr 34 0], [.ptr 37 0], [.ptr 40 0], [.ptr 43 0], [.ptr 46 0]]) false),
  (160, .cells 16 ([[.slice 87 0 12 12 4 false, .slice 111 0 12 12 4 false, .slice 123 0 6 6 4 false, .slice 139 0 8 8 4 false, .slice 151 0 6 6 4 false, .slice 159 0 4 4 4 false, .slice 161 0 12 12 80 true, .slice 162 0 12 12 32 true, .slice 163 0 6 6 108 true, .slice 164 0 8 8 2 true, .slice 165 0 6 6 3 true, .slice 166 0 4 4 31 true, .snil, .snil, .snil, I 0]]) false),
  (16, .cells 3 (rp 12 ([bF, I 0, bF]) ([])) false),
  (61, .cells 2 ([[.ptr 59 0, .slice 60 0 4 4 31 true]]) false),
  (29, .cells 107 (rp 6 (rp 9 (U 0) (rp 6 (I 0) ((U 0) :: rp 4 (I 0) ((U 0) :: rp 4 (I 0) ((U 0) :: rp 4 (I 0) ((U 0) :: rp 4 (I 0) ((U 0) :: rp 4 (I 0) ((U 0) :: rp 4 (I 0) ((U 0) :: rp 4 (I 0) ((U 0) :: rp 4 (I 0) ((U 0) :: rp 4 (I 0) ((U 0) :: rp 4 (I 0) ((U 0) :: rp 4 (I 0) ((U 0) :: rp 4 (I 0) ((U 0) :: rp 4 (I 0) ((U 0) :: rp 4 (I 0) ((U 0) :: rp 4 (I 0) ((U 0) :: rp 4 (I 0) ((U 0) :: rp 4 (I 0) ((U 0) :: rp 4 (I 0) ([U 0, I 0]))))))))))))))))))))) ([])) false),
  (53, .cells 3 (rp 6 ([bF, I 0, bF]) ([])) false),
  (165, .cells 3 (rp 6 ([I 0, I 0, I 0]) ([])) false),
  (37, .cells 1 ([[.snil]]) false),
  (21, .cells 1 ([[.slice 20 0 12 12 3 true]]) false),
  (57, .cells 5 ([[.ptr 54 0, .slice 55 0 6 6 3 true, .map 56, .ptr 26 0, .ptr 30 0]]) false),
  (25, .cells 3 ([[I 16, .snil, I 0]]) false),
  (49, .cells 3 (rp 8 ([bF, I 0, bF]) ([])) false),
  (161, .cells 80 (rp 12 (rp 4 (I 0) ((U 0) :: rp 4 (I 0) ((U 0) :: rp 4 (I 0) ((U 0) :: rp 4 (I 0) ((U 0) :: rp 4 (I 0) ((U 0) :: rp 4 (I 0) ((U 0) :: rp 4 (I 0) ((U 0) :: rp 4 (I 0) ((U 0) :: rp 4 (I 0) ((U 0) :: rp 4 (I 0) ((U 0) :: rp 4 (I 0) ((U 0) :: rp 4 (I 0) ((U 0) :: rp 4 (I 0) ((U 0) :: rp 4 (I 0) ((U 0) :: rp 4 (I 0) ((U 0) :: rp 4 (I 0) ([U 0]))))))))))))))))) ([])) false),
  (17, .cells 1 ([[.slice 16 0 12 12 3 true]]) false),
  (123, .cells 4 (rp 6 ([bF, bF, I 0, IZ (-1)]) ([])) false),
  (59, .cells 1 ([[.slice 58 0 4 4 3 true]]) false),
  (139, .cells 4 (rp 8 ([bF, bF, I 0, IZ (-1)]) ([])) false),
  (43, .cells 1 ([[.snil]]) false),
  (27, .cells 3 (rp 6 ([bF, I 0, bF]) ([])) false),
  (51, .cells 2 (rp 8 ([I 0, I 0]) ([])) false),
  (163, .cells 108 (rp 6 (rp 9 (U 0) (rp 6 (I 0) ((U 0) :: rp 4 (I 0) ((U 0) :: rp 4 (I 0) ((U 0) :: rp 4 (I 0) ((U 0) :: rp 4 (I 0) ((U 0) :: rp 4 (I 0) ((U 0) :: rp 4 (I 0) ((U 0) :: rp 4 (I 0) ((U 0) :: rp 4 (I 0) ((U 0) :: rp 4 (I 0) ((U 0) :: rp 4 (I 0) ((U 0) :: rp 4 (I 0) ((U 0) :: rp 4 (I 0) ((U 0) :: rp 4 (I 0) ((U 0) :: rp 4 (I 0) ((U 0) :: rp 4 (I 0) ((U 0) :: rp 4 (I 0) ((U 0) :: rp 4 (I 0) ((U 0) :: rp 4 (I 0) ([U 0, I 0, .snil]))))))))))))))))))))) ([])) false),
  (19, .cells 2 ([[.ptr 17 0, .slice 18 0 12 12 80 true]]) false),
  (151, .cells 4 (rp 6 ([bF, bF, I 0, IZ (-1)]) ([])) false),
  (87, .cells 4 (rp 12 ([bF, bF, I 0, IZ (-1)]) ([])) false),
  (55, .cells 3 (rp 6 ([I 0, I 0, I 0]) ([])) false),
  (23, .cells 2 ([[.ptr 21 0, .slice 22 0 12 12 32 true]]) false),
  (111, .cells 4 (rp 12 ([bF, bF, I 0, IZ (-1)]) ([])) false),
  (159, .cells 4 (rp 4 ([bF, bF, I 0, IZ (-1)]) ([])) false),
  (63, .cells 9 ([[.ptr 26 0, .ptr 30 0, .ptr 52 0, .ptr 57 0, .ptr 61 0, .ptr 62 0, .snil, .snil, I 0]]) false),
  (31, .cells 1 ([[.snil]]) false)] []
noncomputable def m1 : Memo := ⟨[], h1, .tuple [.ptr 63 0, .ptr 160 0], h2⟩
theorem m1_run : ranTo (evCall (cxX Tryd.prog bad [] [] []) 1000 60 6 m1.args m1.h) m1.v m1.h' = true := by kernel_rfl
theorem m1_ok {σ : Nat → Int} {W0 : World} : MemoOk Tryd.prog 127 σ W0 6 m1 := memo_ok fit (Known2.nil σ) (FnsOk.nil) m1_run
noncomputable def p2 : List V × V := ([.agg [I 2, I 0, I 0, I 0, U 0]], .inil)
theorem p2_run : ranPure (evCall (cxX Tryd.prog bad [] [] []) 1000 60 51 p2.1 ⟨.lf, farN⟩) p2.2 = true := by kernel_rfl
theorem p2_ok {σ : Nat → Int} {W0 : World} : PureOk Tryd.prog 127 σ W0 51 p2 := pure_ok fit (Known2.nil σ) (FnsOk.nil) p2_run
theorem run0 : isTrue (evCall (cxX Tryd.prog bad [((-9223372036854775808), 9223372036854775807)] [] [(9, numExtE [(0, 5, .lit 0)]), (5, pureFn [p0]), (6, frameFn [m1]), (51, pureFn [p2])]) 1000 60 3 [.int .i64 (.var 0)] (sentH 211 7 errTab)) = true := by kernel_rfl
theorem case0 {σ : Nat → Int} {W : World} (hL : laidMetH Tryd.prog laidErrs W) (hk : Known2 σ [((-9223372036854775808), 9223372036854775807)] []) (hT : TabOk Tryd.prog bad 9 σ [(0, 5, .lit 0)]) {xs : Array Value} (hv : ∀ ρ, VRs σ ρ [.int .i64 (.var 0)] xs.toList) : Calls Tryd.prog 3 xs W fun e w' => e = .returned (.bool true) ∧ Below W.heap.size W w' := by
  obtain ⟨ads, h1, h2, h3⟩ := errs_sents hL
  exact law_case_x fit h1 h2 h3 errs_all errs_lt (by kernel_rfl) hk (FnsOk.cons (hT.ok fit) (FnsOk.cons (pure_fn_ok (all_cons (p0_ok) (all_nil))) (FnsOk.cons (frame_fn_ok (all_cons (m1_ok) (all_nil))) (FnsOk.cons (pure_fn_ok (all_cons (p2_ok) (all_nil))) (FnsOk.nil))))) hv ⟨_, Tryd.func3, rfl⟩ run0
noncomputable def p3 : List V × V := ([.agg [I 3, I 0, I 0, I 0, U 0]], .inil)
theorem p3_run : ranPure (evCall (cxX Tryd.prog bad [] [] []) 1000 60 51 p3.1 ⟨.lf, farN⟩) p3.2 = true := by kernel_rfl
theorem p3_ok {σ : Nat → Int} {W0 : World} : PureOk Tryd.prog 127 σ W0 51 p3 := pure_ok fit (Known2.nil σ) (FnsOk.nil) p3_run
theorem run1 : isTrue (evCall (cxX Tryd.prog bad [((-9223372036854775808), 9223372036854775807)] [] [(9, numExtE [(0, 5, .lit 1)]), (5, pureFn [p0]), (6, frameFn [m1]), (51, pureFn [p3])]) 1000 60 3 [.int .i64 (.var 0)] (sentH 211 7 errTab)) = true := by kernel_rfl
theorem case1 {σ : Nat → Int} {W : World} (hL : laidMetH Tryd.prog laidErrs W) (hk : Known2 σ [((-9223372036854775808), 9223372036854775807)] []) (hT : TabOk Tryd.prog bad 9 σ [(0, 5, .lit 1)]) {xs : Array Value} (hv : ∀ ρ, VRs σ ρ [.int .i64 (.var 0)] xs.toList) : Calls Tryd.prog 3 xs W fun e w' => e = .returned (.bool true) ∧ Below W.heap.size W w' := by
  obtain ⟨ads, h1, h2, h3⟩ := errs_sents hL
  exact law_case_x fit h1 h2 h3 errs_all errs_lt (by kernel_rfl) hk (FnsOk.cons (hT.ok fit) (FnsOk.cons (pure_fn_ok (all_cons (p0_ok) (all_nil))) (FnsOk.cons (frame_fn_ok (all_cons (m1_ok) (all_nil))) (FnsOk.cons (pure_fn_ok (all_cons (p3_ok) (all_nil))) (FnsOk.nil))))) hv ⟨_, Tryd.func3, rfl⟩ run1
noncomputable def p4 : List V × V := ([.agg [I 4, I 0, I 0, I 0, U 0]], .inil)
theorem p4_run : ranPure (evCall (cxX Tryd.prog bad [] [] []) 1000 60 51 p4.1 ⟨.lf, farN⟩) p4.2 = true := by kernel_rfl
theorem p4_ok {σ : Nat → Int} {W0 : World} : PureOk Tryd.prog 127 σ W0 51 p4 := pure_ok fit (Known2.nil σ) (FnsOk.nil) p4_run
theorem run2 : isTrue (evCall (cxX Tryd.prog bad [((-9223372036854775808), 9223372036854775807)] [] [(9, numExtE [(0, 5, .lit 2)]), (5, pureFn [p0]), (6, frameFn [m1]), (51, pureFn [p4])]) 1000 60 3 [.int .i64 (.var 0)] (sentH 211 7 errTab)) = true := by kernel_rfl
theorem case2 {σ : Nat → Int} {W : World} (hL : laidMetH Tryd.prog laidErrs W) (hk : Known2 σ [((-9223372036854775808), 9223372036854775807)] []) (hT : TabOk Tryd.prog bad 9 σ [(0, 5, .lit 2)]) {xs : Array Value} (hv : ∀ ρ, VRs σ ρ [.int .i64 (.var 0)] xs.toList) : Calls Tryd.prog 3 xs W fun e w' => e = .returned (.bool true) ∧ Below W.heap.size W w' := by
  obtain ⟨ads, h1, h2, h3⟩ := errs_sents hL
  exact law_case_x fit h1 h2 h3 errs_all errs_lt (by kernel_rfl) hk (FnsOk.cons (hT.ok fit) (FnsOk.cons (pure_fn_ok (all_cons (p0_ok) (all_nil))) (FnsOk.cons (frame_fn_ok (all_cons (m1_ok) (all_nil))) (FnsOk.cons (pure_fn_ok (all_cons (p4_ok) (all_nil))) (FnsOk.nil))))) hv ⟨_, Tryd.func3, rfl⟩ run2
noncomputable def p5 : List V × V := ([.agg [I 7, I 0, I 0, I 0, U 0]], .inil)
theorem p5_run : ranPure (evCall (cxX Tryd.prog bad [] [] []) 1000 60 51 p5.1 ⟨.lf, farN⟩) p5.2 = true := by kernel_rfl
theorem p5_ok {σ : Nat → Int} {W0 : World} : PureOk Tryd.prog 127 σ W0 51 p5 := pure_ok fit (Known2.nil σ) (FnsOk.nil) p5_run
theorem run3 : isTrue (evCall (cxX Tryd.prog bad [((-9223372036854775808), 9223372036854775807)] [] [(9, numExtE [(0, 5, .lit 3)]), (5, pureFn [p0]), (6, frameFn [m1]), (51, pureFn [p5])]) 1000 60 3 [.int .i64 (.var 0)] (sentH 211 7 errTab)) = true := by kernel_rfl
theorem case3 {σ : Nat → Int} {W : World} (hL : laidMetH Tryd.prog laidErrs W) (hk : Known2 σ [((-9223372036854775808), 9223372036854775807)] []) (hT : TabOk Tryd.prog bad 9 σ [(0, 5, .lit 3)]) {xs : Array Value} (hv : ∀ ρ, VRs σ ρ [.int .i64 (.var 0)] xs.toList) : Calls Tryd.prog 3 xs W fun e w' => e = .returned (.bool true) ∧ Below W.heap.size W w' := by
  obtain ⟨ads, h1, h2, h3⟩ := errs_sents hL
  exact law_case_x fit h1 h2 h3 errs_all errs_lt (by kernel_rfl) hk (FnsOk.cons (hT.ok fit) (FnsOk.cons (pure_fn_ok (all_cons (p0_ok) (all_nil))) (FnsOk.cons (frame_fn_ok (all_cons (m1_ok) (all_nil))) (FnsOk.cons (pure_fn_ok (all_cons (p5_ok) (all_nil))) (FnsOk.nil))))) hv ⟨_, Tryd.func3, rfl⟩ run3
noncomputable def p6 : List V × V := ([.agg [I 8, I 1, I 0, I 0, U 0]], .inil)
theorem p6_run : ranPure (evCall (cxX Tryd.prog bad [] [] []) 1000 60 51 p6.1 ⟨.lf, farN⟩) p6.2 = true := by kernel_rfl
theorem p6_ok {σ : Nat → Int} {W0 : World} : PureOk Tryd.prog 127 σ W0 51 p6 := pure_ok fit (Known2.nil σ) (FnsOk.nil) p6_run
theorem run4 : isTrue (evCall (cxX Tryd.prog bad [((-9223372036854775808), 9223372036854775807)] [] [(9, numExtE [(0, 5, .lit 4)]), (5, pureFn [p0]), (6, frameFn [m1]), (51, pureFn [p6])]) 1000 60 3 [.int .i64 (.var 0)] (sentH 211 7 errTab)) = true := by kernel_rfl
theorem case4 {σ : Nat → Int} {W : World} (hL : laidMetH Tryd.prog laidErrs W) (hk : Known2 σ [((-9223372036854775808), 9223372036854775807)] []) (hT : TabOk Tryd.prog bad 9 σ [(0, 5, .lit 4)]) {xs : Array Value} (hv : ∀ ρ, VRs σ ρ [.int .i64 (.var 0)] xs.toList) : Calls Tryd.prog 3 xs W fun e w' => e = .returned (.bool true) ∧ Below W.heap.size W w' := by
  obtain ⟨ads, h1, h2, h3⟩ := errs_sents hL
  exact law_case_x fit h1 h2 h3 errs_all errs_lt (by kernel_rfl) hk (FnsOk.cons (hT.ok fit) (FnsOk.cons (pure_fn_ok (all_cons (p0_ok) (all_nil))) (FnsOk.cons (frame_fn_ok (all_cons (m1_ok) (all_nil))) (FnsOk.cons (pure_fn_ok (all_cons (p6_ok) (all_nil))) (FnsOk.nil))))) hv ⟨_, Tryd.func3, rfl⟩ run4
end Go.Proofs.YtalmhgaomgkdbaaDoor.sysGone
