/- bankDepth: calls that are run once, and the runs of the cases (part 0). -/
import Derived.Test.YtflipohebkkkbaaDoorEvBdF
set_option linter.unusedVariables false
set_option maxRecDepth 10000000
namespace Go.Proofs.YtflipohebkkkbaaDoor.bankDepth
open Tk
open Go.RowKit
noncomputable def h0 : H := sentH 199 12 errTab
noncomputable def h1 : H := hUpd h0 47 [] [(46, .cells 5 ([[.ptr 43 0, .slice 44 0 2 2 3 true, .map 45, .ptr 34 0, .ptr 38 0]]) false),
  (30, .cells 32 ([rp 32 (U 0) ([]), rp 32 (U 0) ([])]) false),
  (38, .cells 3 ([[.ptr 36 0, .slice 37 0 1 1 107 true, .slice 41 0 1 1 1 false]]) false),
  (42, .cells 3 ([[bF, I 0, bF], [bF, I 0, bF]]) false),
  (26, .cells 80 ([rp 4 (I 0) ((U 0) :: rp 4 (I 0) ((U 0) :: rp 4 (I 0) ((U 0) :: rp 4 (I 0) ((U 0) :: rp 4 (I 0) ((U 0) :: rp 4 (I 0) ((U 0) :: rp 4 (I 0) ((U 0) :: rp 4 (I 0) ((U 0) :: rp 4 (I 0) ((U 0) :: rp 4 (I 0) ((U 0) :: rp 4 (I 0) ((U 0) :: rp 4 (I 0) ((U 0) :: rp 4 (I 0) ((U 0) :: rp 4 (I 0) ((U 0) :: rp 4 (I 0) ((U 0) :: rp 4 (I 0) ([U 0])))))))))))))))), rp 4 (I 0) ((U 0) :: rp 4 (I 0) ((U 0) :: rp 4 (I 0) ((U 0) :: rp 4 (I 0) ((U 0) :: rp 4 (I 0) ((U 0) :: rp 4 (I 0) ((U 0) :: rp 4 (I 0) ((U 0) :: rp 4 (I 0) ((U 0) :: rp 4 (I 0) ((U 0) :: rp 4 (I 0) ((U 0) :: rp 4 (I 0) ((U 0) :: rp 4 (I 0) ((U 0) :: rp 4 (I 0) ((U 0) :: rp 4 (I 0) ((U 0) :: rp 4 (I 0) ((U 0) :: rp 4 (I 0) ([U 0]))))))))))))))))]) false),
  (34, .cells 3 ([[.ptr 32 0, I 4, .ptr 33 0]]) false),
  (44, .cells 3 ([[I 0, I 0, I 0], [I 0, I 0, I 0]]) false),
  (28, .cells 3 ([[bF, I 0, bF], [bF, I 0, bF]]) false),
  (36, .cells 1 ([[.slice 35 0 1 1 3 true]]) false),
  (24, .cells 3 ([[bF, I 0, bF], [bF, I 0, bF]]) false),
  (32, .cells 2 ([[.ptr 27 0, .ptr 31 0]]) false),
  (45, .map [] 0),
  (29, .cells 1 ([[.slice 28 0 2 2 3 true]]) false),
  (37, .cells 107 ([rp 9 (U 0) (rp 6 (I 0) ((U 0) :: rp 4 (I 0) ((U 0) :: rp 4 (I 0) ((U 0) :: rp 4 (I 0) ((U 0) :: rp 4 (I 0) ((U 0) :: rp 4 (I 0) ((U 0) :: rp 4 (I 0) ((U 0) :: rp 4 (I 0) ((U 0) :: rp 4 (I 0) ((U 0) :: rp 4 (I 0) ((U 0) :: rp 4 (I 0) ((U 0) :: rp 4 (I 0) ((U 0) :: rp 4 (I 0) ((U 0) :: rp 4 (I 0) ((U 0) :: rp 4 (I 0) ((U 0) :: rp 4 (I 0) ((U 0) :: rp 4 (I 0) ((U 0) :: rp 4 (I 0) ((U 0) :: rp 4 (I 0) ([U 0, I 0]))))))))))))))))))))]) false),
  (41, .cells 1 ([[.ptr 39 0]]) false),
  (25, .cells 1 ([[.slice 24 0 2 2 3 true]]) false),
  (33, .cells 3 ([[I 4, .snil, I 0]]) false),
  (43, .cells 1 ([[.slice 42 0 2 2 3 true]]) false),
  (27, .cells 2 ([[.ptr 25 0, .slice 26 0 2 2 80 true]]) false),
  (35, .cells 3 ([[bF, I 0, bF]]) false),
  (39, .cells 1 ([[.snil]]) false),
  (31, .cells 2 ([[.ptr 29 0, .slice 30 0 2 2 32 true]]) false)] []
noncomputable def m0 : Memo := ⟨[I 2, I 2, I 1, I 2], h0, .tuple [.ptr 46 0, .ptr 34 0, .ptr 38 0], h1⟩
theorem m0_run : ranTo (evCall (cxX Tryd.prog bad [] [] []) 1000 60 16 m0.args m0.h) m0.v m0.h' = true := by kernel_rfl
theorem m0_ok {σ : Nat → Int} {W0 : World} : MemoOk Tryd.prog 4095 σ W0 16 m0 := memo_ok fit (Known2.nil σ) (FnsOk.nil) m0_run
noncomputable def h2 : H := hUpd h1 160 [] [(158, .cells 3 ([[I 107, bF, I 0]]) false),
  (118, .cells 1 ([[.ptr 46 0]]) false),
  (122, .cells 1 ([[I 0]]) false),
  (58, .cells 1 ([[I 1]]) false),
  (156, .cells 1 ([[.iface 199 (.ptr 12 0)], [.iface 199 (.ptr 13 0)], [.iface 199 (.ptr 14 0)], [.iface 199 (.ptr 15 0)], [.iface 199 (.ptr 16 0)], [.iface 199 (.ptr 17 0)], [.iface 199 (.ptr 18 0)], [.iface 199 (.ptr 19 0)], [.iface 199 (.ptr 20 0)], [.iface 199 (.ptr 21 0)], [.iface 199 (.ptr 22 0)], [.iface 199 (.ptr 23 0)]]) false),
  (60, .cells 1 ([[I 0]]) false),
  (116, .cells 1 ([[I 0]]) false),
  (148, .cells 3 ([[I 107, bF, I 0]]) false),
  (120, .cells 1 ([[.ptr 46 0]]) false),
  (56, .cells 1 ([[.snil]]) false),
  (157, .cells 3 ([[I 107, bF, I 0]]) false),
  (45, .map [(.agg [I 3, I 0], .agg [I 0, I 0], 0)] 1),
  (117, .cells 1 ([[I 0]]) false),
  (149, .cells 3 ([[I 107, bF, I 0]]) false),
  (121, .cells 1 ([[I 1]]) false),
  (57, .cells 1 ([[.ptr 46 0]]) false),
  (123, .cells 1 ([[I 0]]) false),
  (155, .cells 3 ([[I 107, bF, I 0]]) false),
  (59, .cells 1 ([[I 0]]) false),
  (107, .cells 32 ([rp 32 (U 0) ([])]) false),
  (119, .cells 1 ([[.snil]]) false),
  (55, .cells 1 ([[.ptr 46 0]]) false),
  (159, .cells 3 ([[I 107, bF, I 0]]) false)] [(42, 0, [bT, I 0, bF]),
  (44, 0, [IZ (-1), I 1, I 1]),
  (28, 0, [bT, I 0, bF])]
noncomputable def h3 : H := hUpd h2 186 [] [(174, .cells 3 ([[.ptr 172 0, .slice 173 0 2 2 107 true, .slice 180 0 2 2 1 false]]) false),
  (182, .cells 1 ([[.slice 181 0 16 16 3 true]]) false),
  (166, .cells 32 ([rp 32 (U 0) ([]), rp 32 (U 0) ([])]) false),
  (170, .cells 3 ([[.ptr 168 0, I 4, .ptr 169 0]]) false),
  (178, .cells 1 ([[.snil]]) false),
  (162, .cells 80 ([rp 4 (I 0) ((U 0) :: rp 4 (I 0) ((U 0) :: rp 4 (I 0) ((U 0) :: rp 4 (I 0) ((U 0) :: rp 4 (I 0) ((U 0) :: rp 4 (I 0) ((U 0) :: rp 4 (I 0) ((U 0) :: rp 4 (I 0) ((U 0) :: rp 4 (I 0) ((U 0) :: rp 4 (I 0) ((U 0) :: rp 4 (I 0) ((U 0) :: rp 4 (I 0) ((U 0) :: rp 4 (I 0) ((U 0) :: rp 4 (I 0) ((U 0) :: rp 4 (I 0) ((U 0) :: rp 4 (I 0) ([U 0])))))))))))))))), rp 4 (I 0) ((U 0) :: rp 4 (I 0) ((U 0) :: rp 4 (I 0) ((U 0) :: rp 4 (I 0) ((U 0) :: rp 4 (I 0) ((U 0) :: rp 4 (I 0) ((U 0) :: rp 4 (I 0) ((U 0) :: rp 4 (I 0) ((U 0) :: rp 4 (I 0) ((U 0) :: rp 4 (I 0) ((U 0) :: rp 4 (I 0) ((U 0) :: rp 4 (I 0) ((U 0) :: rp 4 (I 0) ((U 0) :: rp 4 (I 0) ((U 0) :: rp 4 (I 0) ((U 0) :: rp 4 (I 0) ([U 0]))))))))))))))))]) false),
  (172, .cells 1 ([[.slice 171 0 2 2 3 true]]) false),
  (180, .cells 1 ([[.ptr 175 0], [.ptr 178 0]]) false),
  (164, .cells 3 ([[bF, I 0, bF], [bF, I 0, bF]]) false),
  (184, .map [] 0),
  (168, .cells 2 ([[.ptr 163 0, .ptr 167 0]]) false),
  (160, .cells 3 ([[bF, I 0, bF], [bF, I 0, bF]]) false),
  (173, .cells 107 ([rp 9 (U 0) (rp 6 (I 0) ((U 0) :: rp 4 (I 0) ((U 0) :: rp 4 (I 0) ((U 0) :: rp 4 (I 0) ((U 0) :: rp 4 (I 0) ((U 0) :: rp 4 (I 0) ((U 0) :: rp 4 (I 0) ((U 0) :: rp 4 (I 0) ((U 0) :: rp 4 (I 0) ((U 0) :: rp 4 (I 0) ((U 0) :: rp 4 (I 0) ((U 0) :: rp 4 (I 0) ((U 0) :: rp 4 (I 0) ((U 0) :: rp 4 (I 0) ((U 0) :: rp 4 (I 0) ((U 0) :: rp 4 (I 0) ((U 0) :: rp 4 (I 0) ((U 0) :: rp 4 (I 0) ((U 0) :: rp 4 (I 0) ([U 0, I 0])))))))))))))))))))), rp 9 (U 0) (rp 6 (I 0) ((U 0) :: rp 4 (I 0) ((U 0) :: rp 4 (I 0) ((U 0) :: rp 4 (I 0) ((U 0) :: rp 4 (I 0) ((U 0) :: rp 4 (I 0) ((U 0) :: rp 4 (I 0) ((U 0) :: rp 4 (I 0) ((U 0) :: rp 4 (I 0) ((U 0) :: rp 4 (I 0) ((U 0) :: rp 4 (I 0) ((U 0) :: rp 4 (I 0) ((U 0) :: rp 4 (I 0) ((U 0) :: rp 4 (I 0) ((U 0) :: rp 4 (I 0) ((U 0) :: rp 4 (I 0) ((U 0) :: rp 4 (I 0) ((U 0) :: rp 4 (I 0) ((U 0) :: rp 4 (I 0) ([U 0, I 0]))))))))))))))))))))]) false),
  (181, .cells 3 (rp 16 ([bF, I 0, bF]) ([])) false),
  (165, .cells 1 ([[.slice 164 0 2 2 3 true]]) false),
  (185, .cells 5 ([[.ptr 182 0, .slice 183 0 16 16 3 true, .map 184, .ptr 170 0, .ptr 174 0]]) false),
  (169, .cells 3 ([[I 4, .snil, I 0]]) false),
  (161, .cells 1 ([[.slice 160 0 2 2 3 true]]) false),
  (171, .cells 3 ([[bF, I 0, bF], [bF, I 0, bF]]) false),
  (163, .cells 2 ([[.ptr 161 0, .slice 162 0 2 2 80 true]]) false),
  (183, .cells 3 (rp 16 ([I 0, I 0, I 0]) ([])) false),
  (167, .cells 2 ([[.ptr 165 0, .slice 166 0 2 2 32 true]]) false),
  (175, .cells 1 ([[.snil]]) false)] []
noncomputable def m1 : Memo := ⟨[I 2, I 2, I 2, I 16], h2, .tuple [.ptr 185 0, .ptr 170 0, .ptr 174 0], h3⟩
theorem m1_run : ranTo (evCall (cxX Tryd.prog bad [] [] []) 1000 60 16 m1.args m1.h) m1.v m1.h' = true := by kernel_rfl
theorem m1_ok {σ : Nat → Int} {W0 : World} : MemoOk Tryd.prog 4095 σ W0 16 m1 := memo_ok fit (Known2.nil σ) (FnsOk.nil) m1_run
theorem run0 : isTrue (evCall (cxX Tryd.prog bad [((-9223372036854775808), 9223372036854775807), ((-9223372036854775808), (-1))] [] [(15, numExtE [(0, 12, .lit 0)]), (16, memoFn [m0, m1])]) 1000 60 4 [.int .i64 (.var 0), .int .i64 (.var 1)] (sentH 199 12 errTab)) = true := by kernel_rfl
theorem case0 {σ : Nat → Int} {W : World} (hL : laidMetH Tryd.prog laidErrs W) (hk : Known2 σ [((-9223372036854775808), 9223372036854775807), ((-9223372036854775808), (-1))] []) (hT : TabOk Tryd.prog bad 15 σ [(0, 12, .lit 0)]) {xs : Array Value} (hv : ∀ ρ, VRs σ ρ [.int .i64 (.var 0), .int .i64 (.var 1)] xs.toList) : Calls Tryd.prog 4 xs W fun e w' => e = .returned (.bool true) ∧ Below W.heap.size W w' := by
  obtain ⟨ads, h1, h2, h3⟩ := errs_sents hL
  exact law_case_x fit h1 h2 h3 errs_all errs_lt (by kernel_rfl) hk (FnsOk.cons (hT.ok fit) (FnsOk.cons (memo_fn_ok (all_cons (m0_ok) (all_cons (m1_ok) (all_nil)))) (FnsOk.nil))) hv ⟨_, Tryd.func4, rfl⟩ run0
theorem run1 : isTrue (evCall (cxX Tryd.prog bad [((-9223372036854775808), 9223372036854775807), (0, 512)] [] [(15, numExtE [(0, 12, .lit 0)]), (16, memoFn [m0, m1])]) 1000 60 4 [.int .i64 (.var 0), .int .i64 (.var 1)] (sentH 199 12 errTab)) = true := by kernel_rfl
theorem case1 {σ : Nat → Int} {W : World} (hL : laidMetH Tryd.prog laidErrs W) (hk : Known2 σ [((-9223372036854775808), 9223372036854775807), (0, 512)] []) (hT : TabOk Tryd.prog bad 15 σ [(0, 12, .lit 0)]) {xs : Array Value} (hv : ∀ ρ, VRs σ ρ [.int .i64 (.var 0), .int .i64 (.var 1)] xs.toList) : Calls Tryd.prog 4 xs W fun e w' => e = .returned (.bool true) ∧ Below W.heap.size W w' := by
  obtain ⟨ads, h1, h2, h3⟩ := errs_sents hL
  exact law_case_x fit h1 h2 h3 errs_all errs_lt (by kernel_rfl) hk (FnsOk.cons (hT.ok fit) (FnsOk.cons (memo_fn_ok (all_cons (m0_ok) (all_cons (m1_ok) (all_nil)))) (FnsOk.nil))) hv ⟨_, Tryd.func4, rfl⟩ run1
theorem run2 : isTrue (evCall (cxX Tryd.prog bad [((-9223372036854775808), 9223372036854775807), (513, 9223372036854775807)] [] [(15, numExtE [(0, 12, .lit 0)]), (16, memoFn [m0, m1])]) 1000 60 4 [.int .i64 (.var 0), .int .i64 (.var 1)] (sentH 199 12 errTab)) = true := by kernel_rfl
theorem case2 {σ : Nat → Int} {W : World} (hL : laidMetH Tryd.prog laidErrs W) (hk : Known2 σ [((-9223372036854775808), 9223372036854775807), (513, 9223372036854775807)] []) (hT : TabOk Tryd.prog bad 15 σ [(0, 12, .lit 0)]) {xs : Array Value} (hv : ∀ ρ, VRs σ ρ [.int .i64 (.var 0), .int .i64 (.var 1)] xs.toList) : Calls Tryd.prog 4 xs W fun e w' => e = .returned (.bool true) ∧ Below W.heap.size W w' := by
  obtain ⟨ads, h1, h2, h3⟩ := errs_sents hL
  exact law_case_x fit h1 h2 h3 errs_all errs_lt (by kernel_rfl) hk (FnsOk.cons (hT.ok fit) (FnsOk.cons (memo_fn_ok (all_cons (m0_ok) (all_cons (m1_ok) (all_nil)))) (FnsOk.nil))) hv ⟨_, Tryd.func4, rfl⟩ run2
theorem run3 : isTrue (evCall (cxX Tryd.prog bad [((-9223372036854775808), 9223372036854775807), ((-9223372036854775808), (-1))] [] [(15, numExtE [(0, 12, .lit 1)]), (16, memoFn [m0, m1])]) 1000 60 4 [.int .i64 (.var 0), .int .i64 (.var 1)] (sentH 199 12 errTab)) = true := by kernel_rfl
theorem case3 {σ : Nat → Int} {W : World} (hL : laidMetH Tryd.prog laidErrs W) (hk : Known2 σ [((-9223372036854775808), 9223372036854775807), ((-9223372036854775808), (-1))] []) (hT : TabOk Tryd.prog bad 15 σ [(0, 12, .lit 1)]) {xs : Array Value} (hv : ∀ ρ, VRs σ ρ [.int .i64 (.var 0), .int .i64 (.var 1)] xs.toList) : Calls Tryd.prog 4 xs W fun e w' => e = .returned (.bool true) ∧ Below W.heap.size W w' := by
  obtain ⟨ads, h1, h2, h3⟩ := errs_sents hL
  exact law_case_x fit h1 h2 h3 errs_all errs_lt (by kernel_rfl) hk (FnsOk.cons (hT.ok fit) (FnsOk.cons (memo_fn_ok (all_cons (m0_ok) (all_cons (m1_ok) (all_nil)))) (FnsOk.nil))) hv ⟨_, Tryd.func4, rfl⟩ run3
theorem run4 : isTrue (evCall (cxX Tryd.prog bad [((-9223372036854775808), 9223372036854775807), (0, 512)] [] [(15, numExtE [(0, 12, .lit 1)]), (16, memoFn [m0, m1])]) 1000 60 4 [.int .i64 (.var 0), .int .i64 (.var 1)] (sentH 199 12 errTab)) = true := by kernel_rfl
theorem case4 {σ : Nat → Int} {W : World} (hL : laidMetH Tryd.prog laidErrs W) (hk : Known2 σ [((-9223372036854775808), 9223372036854775807), (0, 512)] []) (hT : TabOk Tryd.prog bad 15 σ [(0, 12, .lit 1)]) {xs : Array Value} (hv : ∀ ρ, VRs σ ρ [.int .i64 (.var 0), .int .i64 (.var 1)] xs.toList) : Calls Tryd.prog 4 xs W fun e w' => e = .returned (.bool true) ∧ Below W.heap.size W w' := by
  obtain ⟨ads, h1, h2, h3⟩ := errs_sents hL
  exact law_case_x fit h1 h2 h3 errs_all errs_lt (by kernel_rfl) hk (FnsOk.cons (hT.ok fit) (FnsOk.cons (memo_fn_ok (all_cons (m0_ok) (all_cons (m1_ok) (all_nil)))) (FnsOk.nil))) hv ⟨_, Tryd.func4, rfl⟩ run4
theorem run5 : isTrue (evCall (cxX Tryd.prog bad [((-9223372036854775808), 9223372036854775807), (513, 9223372036854775807)] [] [(15, numExtE [(0, 12, .lit 1)]), (16, memoFn [m0, m1])]) 1000 60 4 [.int .i64 (.var 0), .int .i64 (.var 1)] (sentH 199 12 errTab)) = true := by kernel_rfl
theorem case5 {σ : Nat → Int} {W : World} (hL : laidMetH Tryd.prog laidErrs W) (hk : Known2 σ [((-9223372036854775808), 9223372036854775807), (513, 9223372036854775807)] []) (hT : TabOk Tryd.prog bad 15 σ [(0, 12, .lit 1)]) {xs : Array Value} (hv : ∀ ρ, VRs σ ρ [.int .i64 (.var 0), .int .i64 (.var 1)] xs.toList) : Calls Tryd.prog 4 xs W fun e w' => e = .returned (.bool true) ∧ Below W.heap.size W w' := by
  obtain ⟨ads, h1, h2, h3⟩ := errs_sents hL
  exact law_case_x fit h1 h2 h3 errs_all errs_lt (by kernel_rfl) hk (FnsOk.cons (hT.ok fit) (FnsOk.cons (memo_fn_ok (all_cons (m0_ok) (all_cons (m1_ok) (all_nil)))) (FnsOk.nil))) hv ⟨_, Tryd.func4, rfl⟩ run5
theorem run6 : isTrue (evCall (cxX Tryd.prog bad [((-9223372036854775808), 9223372036854775807), ((-9223372036854775808), (-1))] [] [(15, numExtE [(0, 12, .lit 2)]), (16, memoFn [m0, m1])]) 1000 60 4 [.int .i64 (.var 0), .int .i64 (.var 1)] (sentH 199 12 errTab)) = true := by kernel_rfl
theorem case6 {σ : Nat → Int} {W : World} (hL : laidMetH Tryd.prog laidErrs W) (hk : Known2 σ [((-9223372036854775808), 9223372036854775807), ((-9223372036854775808), (-1))] []) (hT : TabOk Tryd.prog bad 15 σ [(0, 12, .lit 2)]) {xs : Array Value} (hv : ∀ ρ, VRs σ ρ [.int .i64 (.var 0), .int .i64 (.var 1)] xs.toList) : Calls Tryd.prog 4 xs W fun e w' => e = .returned (.bool true) ∧ Below W.heap.size W w' := by
  obtain ⟨ads, h1, h2, h3⟩ := errs_sents hL
  exact law_case_x fit h1 h2 h3 errs_all errs_lt (by kernel_rfl) hk (FnsOk.cons (hT.ok fit) (FnsOk.cons (memo_fn_ok (all_cons (m0_ok) (all_cons (m1_ok) (all_nil)))) (FnsOk.nil))) hv ⟨_, Tryd.func4, rfl⟩ run6
theorem run7 : isTrue (evCall (cxX Tryd.prog bad [((-9223372036854775808), 9223372036854775807), (0, 512)] [] [(15, numExtE [(0, 12, .lit 2)]), (16, memoFn [m0, m1])]) 1000 60 4 [.int .i64 (.var 0), .int .i64 (.var 1)] (sentH 199 12 errTab)) = true := by kernel_rfl
theorem case7 {σ : Nat → Int} {W : World} (hL : laidMetH Tryd.prog laidErrs W) (hk : Known2 σ [((-9223372036854775808), 9223372036854775807), (0, 512)] []) (hT : TabOk Tryd.prog bad 15 σ [(0, 12, .lit 2)]) {xs : Array Value} (hv : ∀ ρ, VRs σ ρ [.int .i64 (.var 0), .int .i64 (.var 1)] xs.toList) : Calls Tryd.prog 4 xs W fun e w' => e = .returned (.bool true) ∧ Below W.heap.size W w' := by
  obtain ⟨ads, h1, h2, h3⟩ := errs_sents hL
  exact law_case_x fit h1 h2 h3 errs_all errs_lt (by kernel_rfl) hk (FnsOk.cons (hT.ok fit) (FnsOk.cons (memo_fn_ok (all_cons (m0_ok) (all_cons (m1_ok) (all_nil)))) (FnsOk.nil))) hv ⟨_, Tryd.func4, rfl⟩ run7
theorem run8 : isTrue (evCall (cxX Tryd.prog bad [((-9223372036854775808), 9223372036854775807), (513, 9223372036854775807)] [] [(15, numExtE [(0, 12, .lit 2)]), (16, memoFn [m0, m1])]) 1000 60 4 [.int .i64 (.var 0), .int .i64 (.var 1)] (sentH 199 12 errTab)) = true := by kernel_rfl
theorem case8 {σ : Nat → Int} {W : World} (hL : laidMetH Tryd.prog laidErrs W) (hk : Known2 σ [((-9223372036854775808), 9223372036854775807), (513, 9223372036854775807)] []) (hT : TabOk Tryd.prog bad 15 σ [(0, 12, .lit 2)]) {xs : Array Value} (hv : ∀ ρ, VRs σ ρ [.int .i64 (.var 0), .int .i64 (.var 1)] xs.toList) : Calls Tryd.prog 4 xs W fun e w' => e = .returned (.bool true) ∧ Below W.heap.size W w' := by
  obtain ⟨ads, h1, h2, h3⟩ := errs_sents hL
  exact law_case_x fit h1 h2 h3 errs_all errs_lt (by kernel_rfl) hk (FnsOk.cons (hT.ok fit) (FnsOk.cons (memo_fn_ok (all_cons (m0_ok) (all_cons (m1_ok) (all_nil)))) (FnsOk.nil))) hv ⟨_, Tryd.func4, rfl⟩ run8
theorem run9 : isTrue (evCall (cxX Tryd.prog bad [((-9223372036854775808), 9223372036854775807), ((-9223372036854775808), (-1))] [] [(15, numExtE [(0, 12, .lit 3)]), (16, memoFn [m0, m1])]) 1000 60 4 [.int .i64 (.var 0), .int .i64 (.var 1)] (sentH 199 12 errTab)) = true := by kernel_rfl
theorem case9 {σ : Nat → Int} {W : World} (hL : laidMetH Tryd.prog laidErrs W) (hk : Known2 σ [((-9223372036854775808), 9223372036854775807), ((-9223372036854775808), (-1))] []) (hT : TabOk Tryd.prog bad 15 σ [(0, 12, .lit 3)]) {xs : Array Value} (hv : ∀ ρ, VRs σ ρ [.int .i64 (.var 0), .int .i64 (.var 1)] xs.toList) : Calls Tryd.prog 4 xs W fun e w' => e = .returned (.bool true) ∧ Below W.heap.size W w' := by
  obtain ⟨ads, h1, h2, h3⟩ := errs_sents hL
  exact law_case_x fit h1 h2 h3 errs_all errs_lt (by kernel_rfl) hk (FnsOk.cons (hT.ok fit) (FnsOk.cons (memo_fn_ok (all_cons (m0_ok) (all_cons (m1_ok) (all_nil)))) (FnsOk.nil))) hv ⟨_, Tryd.func4, rfl⟩ run9
theorem run10 : isTrue (evCall (cxX Tryd.prog bad [((-9223372036854775808), 9223372036854775807), (0, 512)] [] [(15, numExtE [(0, 12, .lit 3)]), (16, memoFn [m0, m1])]) 1000 60 4 [.int .i64 (.var 0), .int .i64 (.var 1)] (sentH 199 12 errTab)) = true := by kernel_rfl
theorem case10 {σ : Nat → Int} {W : World} (hL : laidMetH Tryd.prog laidErrs W) (hk : Known2 σ [((-9223372036854775808), 9223372036854775807), (0, 512)] []) (hT : TabOk Tryd.prog bad 15 σ [(0, 12, .lit 3)]) {xs : Array Value} (hv : ∀ ρ, VRs σ ρ [.int .i64 (.var 0), .int .i64 (.var 1)] xs.toList) : Calls Tryd.prog 4 xs W fun e w' => e = .returned (.bool true) ∧ Below W.heap.size W w' := by
  obtain ⟨ads, h1, h2, h3⟩ := errs_sents hL
  exact law_case_x fit h1 h2 h3 errs_all errs_lt (by kernel_rfl) hk (FnsOk.cons (hT.ok fit) (FnsOk.cons (memo_fn_ok (all_cons (m0_ok) (all_cons (m1_ok) (all_nil)))) (FnsOk.nil))) hv ⟨_, Tryd.func4, rfl⟩ run10
theorem run11 : isTrue (evCall (cxX Tryd.prog bad [((-9223372036854775808), 9223372036854775807), (513, 9223372036854775807)] [] [(15, numExtE [(0, 12, .lit 3)]), (16, memoFn [m0, m1])]) 1000 60 4 [.int .i64 (.var 0), .int .i64 (.var 1)] (sentH 199 12 errTab)) = true := by kernel_rfl
theorem case11 {σ : Nat → Int} {W : World} (hL : laidMetH Tryd.prog laidErrs W) (hk : Known2 σ [((-9223372036854775808), 9223372036854775807), (513, 9223372036854775807)] []) (hT : TabOk Tryd.prog bad 15 σ [(0, 12, .lit 3)]) {xs : Array Value} (hv : ∀ ρ, VRs σ ρ [.int .i64 (.var 0), .int .i64 (.var 1)] xs.toList) : Calls Tryd.prog 4 xs W fun e w' => e = .returned (.bool true) ∧ Below W.heap.size W w' := by
  obtain ⟨ads, h1, h2, h3⟩ := errs_sents hL
  exact law_case_x fit h1 h2 h3 errs_all errs_lt (by kernel_rfl) hk (FnsOk.cons (hT.ok fit) (FnsOk.cons (memo_fn_ok (all_cons (m0_ok) (all_cons (m1_ok) (all_nil)))) (FnsOk.nil))) hv ⟨_, Tryd.func4, rfl⟩ run11
theorem run12 : isTrue (evCall (cxX Tryd.prog bad [((-9223372036854775808), 9223372036854775807), ((-9223372036854775808), (-1))] [] [(15, numExtE [(0, 12, .lit 4)]), (16, memoFn [m0, m1])]) 1000 60 4 [.int .i64 (.var 0), .int .i64 (.var 1)] (sentH 199 12 errTab)) = true := by kernel_rfl
theorem case12 {σ : Nat → Int} {W : World} (hL : laidMetH Tryd.prog laidErrs W) (hk : Known2 σ [((-9223372036854775808), 9223372036854775807), ((-9223372036854775808), (-1))] []) (hT : TabOk Tryd.prog bad 15 σ [(0, 12, .lit 4)]) {xs : Array Value} (hv : ∀ ρ, VRs σ ρ [.int .i64 (.var 0), .int .i64 (.var 1)] xs.toList) : Calls Tryd.prog 4 xs W fun e w' => e = .returned (.bool true) ∧ Below W.heap.size W w' := by
  obtain ⟨ads, h1, h2, h3⟩ := errs_sents hL
  exact law_case_x fit h1 h2 h3 errs_all errs_lt (by kernel_rfl) hk (FnsOk.cons (hT.ok fit) (FnsOk.cons (memo_fn_ok (all_cons (m0_ok) (all_cons (m1_ok) (all_nil)))) (FnsOk.nil))) hv ⟨_, Tryd.func4, rfl⟩ run12
theorem run13 : isTrue (evCall (cxX Tryd.prog bad [((-9223372036854775808), 9223372036854775807), (0, 512)] [] [(15, numExtE [(0, 12, .lit 4)]), (16, memoFn [m0, m1])]) 1000 60 4 [.int .i64 (.var 0), .int .i64 (.var 1)] (sentH 199 12 errTab)) = true := by kernel_rfl
theorem case13 {σ : Nat → Int} {W : World} (hL : laidMetH Tryd.prog laidErrs W) (hk : Known2 σ [((-9223372036854775808), 9223372036854775807), (0, 512)] []) (hT : TabOk Tryd.prog bad 15 σ [(0, 12, .lit 4)]) {xs : Array Value} (hv : ∀ ρ, VRs σ ρ [.int .i64 (.var 0), .int .i64 (.var 1)] xs.toList) : Calls Tryd.prog 4 xs W fun e w' => e = .returned (.bool true) ∧ Below W.heap.size W w' := by
  obtain ⟨ads, h1, h2, h3⟩ := errs_sents hL
  exact law_case_x fit h1 h2 h3 errs_all errs_lt (by kernel_rfl) hk (FnsOk.cons (hT.ok fit) (FnsOk.cons (memo_fn_ok (all_cons (m0_ok) (all_cons (m1_ok) (all_nil)))) (FnsOk.nil))) hv ⟨_, Tryd.func4, rfl⟩ run13
theorem run14 : isTrue (evCall (cxX Tryd.prog bad [((-9223372036854775808), 9223372036854775807), (513, 9223372036854775807)] [] [(15, numExtE [(0, 12, .lit 4)]), (16, memoFn [m0, m1])]) 1000 60 4 [.int .i64 (.var 0), .int .i64 (.var 1)] (sentH 199 12 errTab)) = true := by kernel_rfl
theorem case14 {σ : Nat → Int} {W : World} (hL : laidMetH Tryd.prog laidErrs W) (hk : Known2 σ [((-9223372036854775808), 9223372036854775807), (513, 9223372036854775807)] []) (hT : TabOk Tryd.prog bad 15 σ [(0, 12, .lit 4)]) {xs : Array Value} (hv : ∀ ρ, VRs σ ρ [.int .i64 (.var 0), .int .i64 (.var 1)] xs.toList) : Calls Tryd.prog 4 xs W fun e w' => e = .returned (.bool true) ∧ Below W.heap.size W w' := by
  obtain ⟨ads, h1, h2, h3⟩ := errs_sents hL
  exact law_case_x fit h1 h2 h3 errs_all errs_lt (by kernel_rfl) hk (FnsOk.cons (hT.ok fit) (FnsOk.cons (memo_fn_ok (all_cons (m0_ok) (all_cons (m1_ok) (all_nil)))) (FnsOk.nil))) hv ⟨_, Tryd.func4, rfl⟩ run14
theorem run15 : isTrue (evCall (cxX Tryd.prog bad [((-9223372036854775808), 9223372036854775807), ((-9223372036854775808), (-1))] [] [(15, numExtE [(0, 12, .lit 5)]), (16, memoFn [m0, m1])]) 1000 60 4 [.int .i64 (.var 0), .int .i64 (.var 1)] (sentH 199 12 errTab)) = true := by kernel_rfl
theorem case15 {σ : Nat → Int} {W : World} (hL : laidMetH Tryd.prog laidErrs W) (hk : Known2 σ [((-9223372036854775808), 9223372036854775807), ((-9223372036854775808), (-1))] []) (hT : TabOk Tryd.prog bad 15 σ [(0, 12, .lit 5)]) {xs : Array Value} (hv : ∀ ρ, VRs σ ρ [.int .i64 (.var 0), .int .i64 (.var 1)] xs.toList) : Calls Tryd.prog 4 xs W fun e w' => e = .returned (.bool true) ∧ Below W.heap.size W w' := by
  obtain ⟨ads, h1, h2, h3⟩ := errs_sents hL
  exact law_case_x fit h1 h2 h3 errs_all errs_lt (by kernel_rfl) hk (FnsOk.cons (hT.ok fit) (FnsOk.cons (memo_fn_ok (all_cons (m0_ok) (all_cons (m1_ok) (all_nil)))) (FnsOk.nil))) hv ⟨_, Tryd.func4, rfl⟩ run15
theorem run16 : isTrue (evCall (cxX Tryd.prog bad [((-9223372036854775808), 9223372036854775807), (0, 512)] [] [(15, numExtE [(0, 12, .lit 5)]), (16, memoFn [m0, m1])]) 1000 60 4 [.int .i64 (.var 0), .int .i64 (.var 1)] (sentH 199 12 errTab)) = true := by kernel_rfl
theorem case16 {σ : Nat → Int} {W : World} (hL : laidMetH Tryd.prog laidErrs W) (hk : Known2 σ [((-9223372036854775808), 9223372036854775807), (0, 512)] []) (hT : TabOk Tryd.prog bad 15 σ [(0, 12, .lit 5)]) {xs : Array Value} (hv : ∀ ρ, VRs σ ρ [.int .i64 (.var 0), .int .i64 (.var 1)] xs.toList) : Calls Tryd.prog 4 xs W fun e w' => e = .returned (.bool true) ∧ Below W.heap.size W w' := by
  obtain ⟨ads, h1, h2, h3⟩ := errs_sents hL
  exact law_case_x fit h1 h2 h3 errs_all errs_lt (by kernel_rfl) hk (FnsOk.cons (hT.ok fit) (FnsOk.cons (memo_fn_ok (all_cons (m0_ok) (all_cons (m1_ok) (all_nil)))) (FnsOk.nil))) hv ⟨_, Tryd.func4, rfl⟩ run16
theorem run17 : isTrue (evCall (cxX Tryd.prog bad [((-9223372036854775808), 9223372036854775807), (513, 9223372036854775807)] [] [(15, numExtE [(0, 12, .lit 5)]), (16, memoFn [m0, m1])]) 1000 60 4 [.int .i64 (.var 0), .int .i64 (.var 1)] (sentH 199 12 errTab)) = true := by kernel_rfl
theorem case17 {σ : Nat → Int} {W : World} (hL : laidMetH Tryd.prog laidErrs W) (hk : Known2 σ [((-9223372036854775808), 9223372036854775807), (513, 9223372036854775807)] []) (hT : TabOk Tryd.prog bad 15 σ [(0, 12, .lit 5)]) {xs : Array Value} (hv : ∀ ρ, VRs σ ρ [.int .i64 (.var 0), .int .i64 (.var 1)] xs.toList) : Calls Tryd.prog 4 xs W fun e w' => e = .returned (.bool true) ∧ Below W.heap.size W w' := by
  obtain ⟨ads, h1, h2, h3⟩ := errs_sents hL
  exact law_case_x fit h1 h2 h3 errs_all errs_lt (by kernel_rfl) hk (FnsOk.cons (hT.ok fit) (FnsOk.cons (memo_fn_ok (all_cons (m0_ok) (all_cons (m1_ok) (all_nil)))) (FnsOk.nil))) hv ⟨_, Tryd.func4, rfl⟩ run17
theorem run18 : isTrue (evCall (cxX Tryd.prog bad [((-9223372036854775808), 9223372036854775807), ((-9223372036854775808), (-1))] [] [(15, numExtE [(0, 12, .lit 6)]), (16, memoFn [m0, m1])]) 1000 60 4 [.int .i64 (.var 0), .int .i64 (.var 1)] (sentH 199 12 errTab)) = true := by kernel_rfl
theorem case18 {σ : Nat → Int} {W : World} (hL : laidMetH Tryd.prog laidErrs W) (hk : Known2 σ [((-9223372036854775808), 9223372036854775807), ((-9223372036854775808), (-1))] []) (hT : TabOk Tryd.prog bad 15 σ [(0, 12, .lit 6)]) {xs : Array Value} (hv : ∀ ρ, VRs σ ρ [.int .i64 (.var 0), .int .i64 (.var 1)] xs.toList) : Calls Tryd.prog 4 xs W fun e w' => e = .returned (.bool true) ∧ Below W.heap.size W w' := by
  obtain ⟨ads, h1, h2, h3⟩ := errs_sents hL
  exact law_case_x fit h1 h2 h3 errs_all errs_lt (by kernel_rfl) hk (FnsOk.cons (hT.ok fit) (FnsOk.cons (memo_fn_ok (all_cons (m0_ok) (all_cons (m1_ok) (all_nil)))) (FnsOk.nil))) hv ⟨_, Tryd.func4, rfl⟩ run18
theorem run19 : isTrue (evCall (cxX Tryd.prog bad [((-9223372036854775808), 9223372036854775807), (0, 512)] [] [(15, numExtE [(0, 12, .lit 6)]), (16, memoFn [m0, m1])]) 1000 60 4 [.int .i64 (.var 0), .int .i64 (.var 1)] (sentH 199 12 errTab)) = true := by kernel_rfl
theorem case19 {σ : Nat → Int} {W : World} (hL : laidMetH Tryd.prog laidErrs W) (hk : Known2 σ [((-9223372036854775808), 9223372036854775807), (0, 512)] []) (hT : TabOk Tryd.prog bad 15 σ [(0, 12, .lit 6)]) {xs : Array Value} (hv : ∀ ρ, VRs σ ρ [.int .i64 (.var 0), .int .i64 (.var 1)] xs.toList) : Calls Tryd.prog 4 xs W fun e w' => e = .returned (.bool true) ∧ Below W.heap.size W w' := by
  obtain ⟨ads, h1, h2, h3⟩ := errs_sents hL
  exact law_case_x fit h1 h2 h3 errs_all errs_lt (by kernel_rfl) hk (FnsOk.cons (hT.ok fit) (FnsOk.cons (memo_fn_ok (all_cons (m0_ok) (all_cons (m1_ok) (all_nil)))) (FnsOk.nil))) hv ⟨_, Tryd.func4, rfl⟩ run19
theorem run20 : isTrue (evCall (cxX Tryd.prog bad [((-9223372036854775808), 9223372036854775807), (513, 9223372036854775807)] [] [(15, numExtE [(0, 12, .lit 6)]), (16, memoFn [m0, m1])]) 1000 60 4 [.int .i64 (.var 0), .int .i64 (.var 1)] (sentH 199 12 errTab)) = true := by kernel_rfl
theorem case20 {σ : Nat → Int} {W : World} (hL : laidMetH Tryd.prog laidErrs W) (hk : Known2 σ [((-9223372036854775808), 9223372036854775807), (513, 9223372036854775807)] []) (hT : TabOk Tryd.prog bad 15 σ [(0, 12, .lit 6)]) {xs : Array Value} (hv : ∀ ρ, VRs σ ρ [.int .i64 (.var 0), .int .i64 (.var 1)] xs.toList) : Calls Tryd.prog 4 xs W fun e w' => e = .returned (.bool true) ∧ Below W.heap.size W w' := by
  obtain ⟨ads, h1, h2, h3⟩ := errs_sents hL
  exact law_case_x fit h1 h2 h3 errs_all errs_lt (by kernel_rfl) hk (FnsOk.cons (hT.ok fit) (FnsOk.cons (memo_fn_ok (all_cons (m0_ok) (all_cons (m1_ok) (all_nil)))) (FnsOk.nil))) hv ⟨_, Tryd.func4, rfl⟩ run20
theorem run21 : isTrue (evCall (cxX Tryd.prog bad [((-9223372036854775808), 9223372036854775807), ((-9223372036854775808), (-1))] [] [(15, numExtE [(0, 12, .lit 7)]), (16, memoFn [m0, m1])]) 1000 60 4 [.int .i64 (.var 0), .int .i64 (.var 1)] (sentH 199 12 errTab)) = true := by kernel_rfl
theorem case21 {σ : Nat → Int} {W : World} (hL : laidMetH Tryd.prog laidErrs W) (hk : Known2 σ [((-9223372036854775808), 9223372036854775807), ((-9223372036854775808), (-1))] []) (hT : TabOk Tryd.prog bad 15 σ [(0, 12, .lit 7)]) {xs : Array Value} (hv : ∀ ρ, VRs σ ρ [.int .i64 (.var 0), .int .i64 (.var 1)] xs.toList) : Calls Tryd.prog 4 xs W fun e w' => e = .returned (.bool true) ∧ Below W.heap.size W w' := by
  obtain ⟨ads, h1, h2, h3⟩ := errs_sents hL
  exact law_case_x fit h1 h2 h3 errs_all errs_lt (by kernel_rfl) hk (FnsOk.cons (hT.ok fit) (FnsOk.cons (memo_fn_ok (all_cons (m0_ok) (all_cons (m1_ok) (all_nil)))) (FnsOk.nil))) hv ⟨_, Tryd.func4, rfl⟩ run21
theorem run22 : isTrue (evCall (cxX Tryd.prog bad [((-9223372036854775808), 9223372036854775807), (0, 512)] [] [(15, numExtE [(0, 12, .lit 7)]), (16, memoFn [m0, m1])]) 1000 60 4 [.int .i64 (.var 0), .int .i64 (.var 1)] (sentH 199 12 errTab)) = true := by kernel_rfl
theorem case22 {σ : Nat → Int} {W : World} (hL : laidMetH Tryd.prog laidErrs W) (hk : Known2 σ [((-9223372036854775808), 9223372036854775807), (0, 512)] []) (hT : TabOk Tryd.prog bad 15 σ [(0, 12, .lit 7)]) {xs : Array Value} (hv : ∀ ρ, VRs σ ρ [.int .i64 (.var 0), .int .i64 (.var 1)] xs.toList) : Calls Tryd.prog 4 xs W fun e w' => e = .returned (.bool true) ∧ Below W.heap.size W w' := by
  obtain ⟨ads, h1, h2, h3⟩ := errs_sents hL
  exact law_case_x fit h1 h2 h3 errs_all errs_lt (by kernel_rfl) hk (FnsOk.cons (hT.ok fit) (FnsOk.cons (memo_fn_ok (all_cons (m0_ok) (all_cons (m1_ok) (all_nil)))) (FnsOk.nil))) hv ⟨_, Tryd.func4, rfl⟩ run22
theorem run23 : isTrue (evCall (cxX Tryd.prog bad [((-9223372036854775808), 9223372036854775807), (513, 9223372036854775807)] [] [(15, numExtE [(0, 12, .lit 7)]), (16, memoFn [m0, m1])]) 1000 60 4 [.int .i64 (.var 0), .int .i64 (.var 1)] (sentH 199 12 errTab)) = true := by kernel_rfl
theorem case23 {σ : Nat → Int} {W : World} (hL : laidMetH Tryd.prog laidErrs W) (hk : Known2 σ [((-9223372036854775808), 9223372036854775807), (513, 9223372036854775807)] []) (hT : TabOk Tryd.prog bad 15 σ [(0, 12, .lit 7)]) {xs : Array Value} (hv : ∀ ρ, VRs σ ρ [.int .i64 (.var 0), .int .i64 (.var 1)] xs.toList) : Calls Tryd.prog 4 xs W fun e w' => e = .returned (.bool true) ∧ Below W.heap.size W w' := by
  obtain ⟨ads, h1, h2, h3⟩ := errs_sents hL
  exact law_case_x fit h1 h2 h3 errs_all errs_lt (by kernel_rfl) hk (FnsOk.cons (hT.ok fit) (FnsOk.cons (memo_fn_ok (all_cons (m0_ok) (all_cons (m1_ok) (all_nil)))) (FnsOk.nil))) hv ⟨_, Tryd.func4, rfl⟩ run23
theorem run24 : isTrue (evCall (cxX Tryd.prog bad [((-9223372036854775808), 9223372036854775807), ((-9223372036854775808), (-1))] [] [(15, numExtE [(0, 12, .lit 8)]), (16, memoFn [m0, m1])]) 1000 60 4 [.int .i64 (.var 0), .int .i64 (.var 1)] (sentH 199 12 errTab)) = true := by kernel_rfl
theorem case24 {σ : Nat → Int} {W : World} (hL : laidMetH Tryd.prog laidErrs W) (hk : Known2 σ [((-9223372036854775808), 9223372036854775807), ((-9223372036854775808), (-1))] []) (hT : TabOk Tryd.prog bad 15 σ [(0, 12, .lit 8)]) {xs : Array Value} (hv : ∀ ρ, VRs σ ρ [.int .i64 (.var 0), .int .i64 (.var 1)] xs.toList) : Calls Tryd.prog 4 xs W fun e w' => e = .returned (.bool true) ∧ Below W.heap.size W w' := by
  obtain ⟨ads, h1, h2, h3⟩ := errs_sents hL
  exact law_case_x fit h1 h2 h3 errs_all errs_lt (by kernel_rfl) hk (FnsOk.cons (hT.ok fit) (FnsOk.cons (memo_fn_ok (all_cons (m0_ok) (all_cons (m1_ok) (all_nil)))) (FnsOk.nil))) hv ⟨_, Tryd.func4, rfl⟩ run24
theorem run25 : isTrue (evCall (cxX Tryd.prog bad [((-9223372036854775808), 9223372036854775807), (0, 512)] [] [(15, numExtE [(0, 12, .lit 8)]), (16, memoFn [m0, m1])]) 1000 60 4 [.int .i64 (.var 0), .int .i64 (.var 1)] (sentH 199 12 errTab)) = true := by kernel_rfl
theorem case25 {σ : Nat → Int} {W : World} (hL : laidMetH Tryd.prog laidErrs W) (hk : Known2 σ [((-9223372036854775808), 9223372036854775807), (0, 512)] []) (hT : TabOk Tryd.prog bad 15 σ [(0, 12, .lit 8)]) {xs : Array Value} (hv : ∀ ρ, VRs σ ρ [.int .i64 (.var 0), .int .i64 (.var 1)] xs.toList) : Calls Tryd.prog 4 xs W fun e w' => e = .returned (.bool true) ∧ Below W.heap.size W w' := by
  obtain ⟨ads, h1, h2, h3⟩ := errs_sents hL
  exact law_case_x fit h1 h2 h3 errs_all errs_lt (by kernel_rfl) hk (FnsOk.cons (hT.ok fit) (FnsOk.cons (memo_fn_ok (all_cons (m0_ok) (all_cons (m1_ok) (all_nil)))) (FnsOk.nil))) hv ⟨_, Tryd.func4, rfl⟩ run25
theorem run26 : isTrue (evCall (cxX Tryd.prog bad [((-9223372036854775808), 9223372036854775807), (513, 9223372036854775807)] [] [(15, numExtE [(0, 12, .lit 8)]), (16, memoFn [m0, m1])]) 1000 60 4 [.int .i64 (.var 0), .int .i64 (.var 1)] (sentH 199 12 errTab)) = true := by kernel_rfl
theorem case26 {σ : Nat → Int} {W : World} (hL : laidMetH Tryd.prog laidErrs W) (hk : Known2 σ [((-9223372036854775808), 9223372036854775807), (513, 9223372036854775807)] []) (hT : TabOk Tryd.prog bad 15 σ [(0, 12, .lit 8)]) {xs : Array Value} (hv : ∀ ρ, VRs σ ρ [.int .i64 (.var 0), .int .i64 (.var 1)] xs.toList) : Calls Tryd.prog 4 xs W fun e w' => e = .returned (.bool true) ∧ Below W.heap.size W w' := by
  obtain ⟨ads, h1, h2, h3⟩ := errs_sents hL
  exact law_case_x fit h1 h2 h3 errs_all errs_lt (by kernel_rfl) hk (FnsOk.cons (hT.ok fit) (FnsOk.cons (memo_fn_ok (all_cons (m0_ok) (all_cons (m1_ok) (all_nil)))) (FnsOk.nil))) hv ⟨_, Tryd.func4, rfl⟩ run26
theorem run27 : isTrue (evCall (cxX Tryd.prog bad [((-9223372036854775808), 9223372036854775807), ((-9223372036854775808), (-1))] [] [(15, numExtE [(0, 12, .lit 9)]), (16, memoFn [m0, m1])]) 1000 60 4 [.int .i64 (.var 0), .int .i64 (.var 1)] (sentH 199 12 errTab)) = true := by kernel_rfl
theorem case27 {σ : Nat → Int} {W : World} (hL : laidMetH Tryd.prog laidErrs W) (hk : Known2 σ [((-9223372036854775808), 9223372036854775807), ((-9223372036854775808), (-1))] []) (hT : TabOk Tryd.prog bad 15 σ [(0, 12, .lit 9)]) {xs : Array Value} (hv : ∀ ρ, VRs σ ρ [.int .i64 (.var 0), .int .i64 (.var 1)] xs.toList) : Calls Tryd.prog 4 xs W fun e w' => e = .returned (.bool true) ∧ Below W.heap.size W w' := by
  obtain ⟨ads, h1, h2, h3⟩ := errs_sents hL
  exact law_case_x fit h1 h2 h3 errs_all errs_lt (by kernel_rfl) hk (FnsOk.cons (hT.ok fit) (FnsOk.cons (memo_fn_ok (all_cons (m0_ok) (all_cons (m1_ok) (all_nil)))) (FnsOk.nil))) hv ⟨_, Tryd.func4, rfl⟩ run27
theorem run28 : isTrue (evCall (cxX Tryd.prog bad [((-9223372036854775808), 9223372036854775807), (0, 512)] [] [(15, numExtE [(0, 12, .lit 9)]), (16, memoFn [m0, m1])]) 1000 60 4 [.int .i64 (.var 0), .int .i64 (.var 1)] (sentH 199 12 errTab)) = true := by kernel_rfl
theorem case28 {σ : Nat → Int} {W : World} (hL : laidMetH Tryd.prog laidErrs W) (hk : Known2 σ [((-9223372036854775808), 9223372036854775807), (0, 512)] []) (hT : TabOk Tryd.prog bad 15 σ [(0, 12, .lit 9)]) {xs : Array Value} (hv : ∀ ρ, VRs σ ρ [.int .i64 (.var 0), .int .i64 (.var 1)] xs.toList) : Calls Tryd.prog 4 xs W fun e w' => e = .returned (.bool true) ∧ Below W.heap.size W w' := by
  obtain ⟨ads, h1, h2, h3⟩ := errs_sents hL
  exact law_case_x fit h1 h2 h3 errs_all errs_lt (by kernel_rfl) hk (FnsOk.cons (hT.ok fit) (FnsOk.cons (memo_fn_ok (all_cons (m0_ok) (all_cons (m1_ok) (all_nil)))) (FnsOk.nil))) hv ⟨_, Tryd.func4, rfl⟩ run28
theorem run29 : isTrue (evCall (cxX Tryd.prog bad [((-9223372036854775808), 9223372036854775807), (513, 9223372036854775807)] [] [(15, numExtE [(0, 12, .lit 9)]), (16, memoFn [m0, m1])]) 1000 60 4 [.int .i64 (.var 0), .int .i64 (.var 1)] (sentH 199 12 errTab)) = true := by kernel_rfl
theorem case29 {σ : Nat → Int} {W : World} (hL : laidMetH Tryd.prog laidErrs W) (hk : Known2 σ [((-9223372036854775808), 9223372036854775807), (513, 9223372036854775807)] []) (hT : TabOk Tryd.prog bad 15 σ [(0, 12, .lit 9)]) {xs : Array Value} (hv : ∀ ρ, VRs σ ρ [.int .i64 (.var 0), .int .i64 (.var 1)] xs.toList) : Calls Tryd.prog 4 xs W fun e w' => e = .returned (.bool true) ∧ Below W.heap.size W w' := by
  obtain ⟨ads, h1, h2, h3⟩ := errs_sents hL
  exact law_case_x fit h1 h2 h3 errs_all errs_lt (by kernel_rfl) hk (FnsOk.cons (hT.ok fit) (FnsOk.cons (memo_fn_ok (all_cons (m0_ok) (all_cons (m1_ok) (all_nil)))) (FnsOk.nil))) hv ⟨_, Tryd.func4, rfl⟩ run29
theorem run30 : isTrue (evCall (cxX Tryd.prog bad [((-9223372036854775808), 9223372036854775807), ((-9223372036854775808), (-1))] [] [(15, numExtE [(0, 12, .lit 10)]), (16, memoFn [m0, m1])]) 1000 60 4 [.int .i64 (.var 0), .int .i64 (.var 1)] (sentH 199 12 errTab)) = true := by kernel_rfl
theorem case30 {σ : Nat → Int} {W : World} (hL : laidMetH Tryd.prog laidErrs W) (hk : Known2 σ [((-9223372036854775808), 9223372036854775807), ((-9223372036854775808), (-1))] []) (hT : TabOk Tryd.prog bad 15 σ [(0, 12, .lit 10)]) {xs : Array Value} (hv : ∀ ρ, VRs σ ρ [.int .i64 (.var 0), .int .i64 (.var 1)] xs.toList) : Calls Tryd.prog 4 xs W fun e w' => e = .returned (.bool true) ∧ Below W.heap.size W w' := by
  obtain ⟨ads, h1, h2, h3⟩ := errs_sents hL
  exact law_case_x fit h1 h2 h3 errs_all errs_lt (by kernel_rfl) hk (FnsOk.cons (hT.ok fit) (FnsOk.cons (memo_fn_ok (all_cons (m0_ok) (all_cons (m1_ok) (all_nil)))) (FnsOk.nil))) hv ⟨_, Tryd.func4, rfl⟩ run30
theorem run31 : isTrue (evCall (cxX Tryd.prog bad [((-9223372036854775808), 9223372036854775807), (0, 512)] [] [(15, numExtE [(0, 12, .lit 10)]), (16, memoFn [m0, m1])]) 1000 60 4 [.int .i64 (.var 0), .int .i64 (.var 1)] (sentH 199 12 errTab)) = true := by kernel_rfl
theorem case31 {σ : Nat → Int} {W : World} (hL : laidMetH Tryd.prog laidErrs W) (hk : Known2 σ [((-9223372036854775808), 9223372036854775807), (0, 512)] []) (hT : TabOk Tryd.prog bad 15 σ [(0, 12, .lit 10)]) {xs : Array Value} (hv : ∀ ρ, VRs σ ρ [.int .i64 (.var 0), .int .i64 (.var 1)] xs.toList) : Calls Tryd.prog 4 xs W fun e w' => e = .returned (.bool true) ∧ Below W.heap.size W w' := by
  obtain ⟨ads, h1, h2, h3⟩ := errs_sents hL
  exact law_case_x fit h1 h2 h3 errs_all errs_lt (by kernel_rfl) hk (FnsOk.cons (hT.ok fit) (FnsOk.cons (memo_fn_ok (all_cons (m0_ok) (all_cons (m1_ok) (all_nil)))) (FnsOk.nil))) hv ⟨_, Tryd.func4, rfl⟩ run31
theorem run32 : isTrue (evCall (cxX Tryd.prog bad [((-9223372036854775808), 9223372036854775807), (513, 9223372036854775807)] [] [(15, numExtE [(0, 12, .lit 10)]), (16, memoFn [m0, m1])]) 1000 60 4 [.int .i64 (.var 0), .int .i64 (.var 1)] (sentH 199 12 errTab)) = true := by kernel_rfl
theorem case32 {σ : Nat → Int} {W : World} (hL : laidMetH Tryd.prog laidErrs W) (hk : Known2 σ [((-9223372036854775808), 9223372036854775807), (513, 9223372036854775807)] []) (hT : TabOk Tryd.prog bad 15 σ [(0, 12, .lit 10)]) {xs : Array Value} (hv : ∀ ρ, VRs σ ρ [.int .i64 (.var 0), .int .i64 (.var 1)] xs.toList) : Calls Tryd.prog 4 xs W fun e w' => e = .returned (.bool true) ∧ Below W.heap.size W w' := by
  obtain ⟨ads, h1, h2, h3⟩ := errs_sents hL
  exact law_case_x fit h1 h2 h3 errs_all errs_lt (by kernel_rfl) hk (FnsOk.cons (hT.ok fit) (FnsOk.cons (memo_fn_ok (all_cons (m0_ok) (all_cons (m1_ok) (all_nil)))) (FnsOk.nil))) hv ⟨_, Tryd.func4, rfl⟩ run32
theorem run33 : isTrue (evCall (cxX Tryd.prog bad [((-9223372036854775808), 9223372036854775807), ((-9223372036854775808), (-1))] [] [(15, numExtE [(0, 12, .lit 11)]), (16, memoFn [m0, m1])]) 1000 60 4 [.int .i64 (.var 0), .int .i64 (.var 1)] (sentH 199 12 errTab)) = true := by kernel_rfl
theorem case33 {σ : Nat → Int} {W : World} (hL : laidMetH Tryd.prog laidErrs W) (hk : Known2 σ [((-9223372036854775808), 9223372036854775807), ((-9223372036854775808), (-1))] []) (hT : TabOk Tryd.prog bad 15 σ [(0, 12, .lit 11)]) {xs : Array Value} (hv : ∀ ρ, VRs σ ρ [.int .i64 (.var 0), .int .i64 (.var 1)] xs.toList) : Calls Tryd.prog 4 xs W fun e w' => e = .returned (.bool true) ∧ Below W.heap.size W w' := by
  obtain ⟨ads, h1, h2, h3⟩ := errs_sents hL
  exact law_case_x fit h1 h2 h3 errs_all errs_lt (by kernel_rfl) hk (FnsOk.cons (hT.ok fit) (FnsOk.cons (memo_fn_ok (all_cons (m0_ok) (all_cons (m1_ok) (all_nil)))) (FnsOk.nil))) hv ⟨_, Tryd.func4, rfl⟩ run33
theorem run34 : isTrue (evCall (cxX Tryd.prog bad [((-9223372036854775808), 9223372036854775807), (0, 512)] [] [(15, numExtE [(0, 12, .lit 11)]), (16, memoFn [m0, m1])]) 1000 60 4 [.int .i64 (.var 0), .int .i64 (.var 1)] (sentH 199 12 errTab)) = true := by kernel_rfl
theorem case34 {σ : Nat → Int} {W : World} (hL : laidMetH Tryd.prog laidErrs W) (hk : Known2 σ [((-9223372036854775808), 9223372036854775807), (0, 512)] []) (hT : TabOk Tryd.prog bad 15 σ [(0, 12, .lit 11)]) {xs : Array Value} (hv : ∀ ρ, VRs σ ρ [.int .i64 (.var 0), .int .i64 (.var 1)] xs.toList) : Calls Tryd.prog 4 xs W fun e w' => e = .returned (.bool true) ∧ Below W.heap.size W w' := by
  obtain ⟨ads, h1, h2, h3⟩ := errs_sents hL
  exact law_case_x fit h1 h2 h3 errs_all errs_lt (by kernel_rfl) hk (FnsOk.cons (hT.ok fit) (FnsOk.cons (memo_fn_ok (all_cons (m0_ok) (all_cons (m1_ok) (all_nil)))) (FnsOk.nil))) hv ⟨_, Tryd.func4, rfl⟩ run34
theorem run35 : isTrue (evCall (cxX Tryd.prog bad [((-9223372036854775808), 9223372036854775807), (513, 9223372036854775807)] [] [(15, numExtE [(0, 12, .lit 11)]), (16, memoFn [m0, m1])]) 1000 60 4 [.int .i64 (.var 0), .int .i64 (.var 1)] (sentH 199 12 errTab)) = true := by kernel_rfl
theorem case35 {σ : Nat → Int} {W : World} (hL : laidMetH Tryd.prog laidErrs W) (hk : Known2 σ [((-9223372036854775808), 9223372036854775807), (513, 9223372036854775807)] []) (hT : TabOk Tryd.prog bad 15 σ [(0, 12, .lit 11)]) {xs : Array Value} (hv : ∀ ρ, VRs σ ρ [.int .i64 (.var 0), .int .i64 (.var 1)] xs.toList) : Calls Tryd.prog 4 xs W fun e w' => e = .returned (.bool true) ∧ Below W.heap.size W w' := by
  obtain ⟨ads, h1, h2, h3⟩ := errs_sents hL
  exact law_case_x fit h1 h2 h3 errs_all errs_lt (by kernel_rfl) hk (FnsOk.cons (hT.ok fit) (FnsOk.cons (memo_fn_ok (all_cons (m0_ok) (all_cons (m1_ok) (all_nil)))) (FnsOk.nil))) hv ⟨_, Tryd.func4, rfl⟩ run35
end Go.Proofs.YtflipohebkkkbaaDoor.bankDepth
