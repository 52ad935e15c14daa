/- graphEdges: calls that are run once, and the runs of the cases (part 1). -/
import Derived.Test.YtalmhgaomgkdbaaDoorGeK0
set_option linter.unusedVariables false
set_option maxRecDepth 10000000
namespace Go.Proofs.YtalmhgaomgkdbaaDoor.graphEdges
open Tk
open Go.RowKit
noncomputable def h109 : H := hUpc h93 2893 [] [] [] [(16, 3, 25, I 2)]
noncomputable def h110 : H := hUpd h109 2991 [] [(2990, .cells 5 ([[I 2, I 1, I 0, I 0, U 0], [I 2, I 2, I 0, I 0, U 0], [I 2, I 3, I 0, I 0, U 0], [I 3, I 1, I 0, I 0, U 0], [I 3, I 2, I 0, I 0, U 0], [I 3, I 3, I 0, I 0, U 0]]) false)] []
noncomputable def m73 : Memo := ⟨[.ptr 61 0, I 1], h109, .slice 2990 0 6 6 5 false, h110⟩
theorem m73_run : ranTo (evCall (cxX Tryd.prog bad [] [] []) 1000 60 27 m73.args m73.h) m73.v m73.h' = true := by kernel_rfl
theorem m73_ok {σ : Nat → Int} {W0 : World} : MemoOk Tryd.prog 119 σ W0 27 m73 := memo_ok fit (Known2.nil σ) (FnsOk.nil) m73_run
noncomputable def h111 : H := hUpd h109 2892 [] [] []
noncomputable def h112 : H := hUpd h109 3699 [] [(3698, .cells 5 ([[I 2, I 0, I 0, I 0, U 0]]) false)] []
noncomputable def m74 : Memo := ⟨[.ptr 61 0, I 1], h111, .slice 3698 0 1 1 5 false, h112⟩
noncomputable def l15 : List (Pur) := p22 :: l10
theorem l15_ok {σ : Nat → Int} {W0 : World} : ∀ x ∈ l15, PureOk Tryd.prog 119 σ W0 51 x := all_cons p22_ok l10_ok
theorem m74_run : ranTo (evCall (cxX Tryd.prog bad [] [] [(51, pureFn l15), (27, frameFn [m73])]) 1000 60 25 m74.args m74.h) m74.v m74.h' = true := by kernel_rfl
theorem m74_ok {σ : Nat → Int} {W0 : World} : MemoOk Tryd.prog 119 σ W0 25 m74 := memo_ok fit (Known2.nil σ) (FnsOk.cons (pure_fn_ok (l15_ok)) (FnsOk.cons (frame_fn_ok (all_cons (m73_ok) (all_nil))) (FnsOk.nil))) m74_run
noncomputable def h113 : H := hUpd h109 3726 [] [] []
noncomputable def h114 : H := hUpd h109 3824 [] [(3823, .cells 5 ([[I 2, I 1, I 0, I 0, U 0], [I 2, I 2, I 0, I 0, U 0], [I 2, I 3, I 0, I 0, U 0], [I 3, I 1, I 0, I 0, U 0], [I 3, I 2, I 0, I 0, U 0], [I 3, I 3, I 0, I 0, U 0]]) false)] []
noncomputable def m75 : Memo := ⟨[.ptr 61 0, I 1], h113, .slice 3823 0 6 6 5 false, h114⟩
theorem m75_run : ranTo (evCall (cxX Tryd.prog bad [] [] []) 1000 60 27 m75.args m75.h) m75.v m75.h' = true := by kernel_rfl
theorem m75_ok {σ : Nat → Int} {W0 : World} : MemoOk Tryd.prog 119 σ W0 27 m75 := memo_ok fit (Known2.nil σ) (FnsOk.nil) m75_run
noncomputable def h115 : H := hUpd h109 3725 [] [] []
noncomputable def h116 : H := hUpd h109 4486 [] [] []
noncomputable def m76 : Memo := ⟨[.ptr 61 0, I 1], h115, .snil, h116⟩
theorem m76_run : ranTo (evCall (cxX Tryd.prog bad [] [] [(51, pureFn l15), (27, frameFn [m75])]) 1000 60 26 m76.args m76.h) m76.v m76.h' = true := by kernel_rfl
theorem m76_ok {σ : Nat → Int} {W0 : World} : MemoOk Tryd.prog 119 σ W0 26 m76 := memo_ok fit (Known2.nil σ) (FnsOk.cons (pure_fn_ok (l15_ok)) (FnsOk.cons (frame_fn_ok (all_cons (m75_ok) (all_nil))) (FnsOk.nil))) m76_run
noncomputable def l16 : List (Pur) := p22 :: l14
theorem l16_ok {σ : Nat → Int} {W0 : World} : ∀ x ∈ l16, PureOk Tryd.prog 119 σ W0 51 x := all_cons p22_ok l14_ok
theorem run9 : isTrue (evCall (cxX Tryd.prog bad [] [] ((9, numExtE [(0, 4, .lit 2), (1, 2, .lit 0)]) :: (51, pureFn l16) :: (10, frameFn l12) :: (12, frameFn l13) :: (25, frameFn [m65, m74]) :: (26, frameFn [m67, m76]) :: q2)) 1000 60 4 [.int .i64 (.var 0), .int .i64 (.var 1), bT] (sentH 211 7 errTab)) = true := by kernel_rfl
theorem case9 {σ : Nat → Int} {W : World} (hL : laidMetH Tryd.prog laidErrs W) (hk : Known2 σ [] []) (hT : TabOk Tryd.prog bad 9 σ [(0, 4, .lit 2), (1, 2, .lit 0)]) {xs : Array Value} (hv : ∀ ρ, VRs σ ρ [.int .i64 (.var 0), .int .i64 (.var 1), bT] xs.toList) : Calls Tryd.prog 4 xs W fun e w' => e = .returned (.bool true) ∧ Below W.heap.size W w' := by
  obtain ⟨ads, h1, h2, h3⟩ := errs_sents hL
  exact law_case_x fit h1 h2 h3 errs_all errs_lt (by kernel_rfl) hk (FnsOk.cons (hT.ok fit) (FnsOk.cons (pure_fn_ok (l16_ok)) (FnsOk.cons (frame_fn_ok (l12_ok)) (FnsOk.cons (frame_fn_ok (l13_ok)) (FnsOk.cons (frame_fn_ok (all_cons (m65_ok) (all_cons (m74_ok) (all_nil)))) (FnsOk.cons (frame_fn_ok (all_cons (m67_ok) (all_cons (m76_ok) (all_nil)))) (q2_ok))))))) hv ⟨_, Tryd.func4, rfl⟩ run9
noncomputable def h117 : H := hUpc h101 2892 [] [] [] [(16, 0, 25, I 3)]
noncomputable def h118 : H := hUpc h102 2990 [] [] [] [(16, 0, 25, I 3)]
noncomputable def m77 : Memo := ⟨[.ptr 61 0, I 1], h117, .slice 2989 0 6 6 5 false, h118⟩
theorem m77_run : ranTo (evCall (cxX Tryd.prog bad [] [] []) 1000 60 27 m77.args m77.h) m77.v m77.h' = true := by kernel_rfl
theorem m77_ok {σ : Nat → Int} {W0 : World} : MemoOk Tryd.prog 119 σ W0 27 m77 := memo_ok fit (Known2.nil σ) (FnsOk.nil) m77_run
noncomputable def h119 : H := hUpd h117 2891 [] [] []
noncomputable def h120 : H := hUpc h104 3665 [] [] [] [(3628, 0, 0, I 3), (16, 0, 25, I 3)]
noncomputable def m78 : Memo := ⟨[.ptr 61 0, I 1], h119, .slice 3628 0 1 1 5 false, h120⟩
theorem m78_run : ranTo (evCall (cxX Tryd.prog bad [] [] [(51, pureFn l10), (27, frameFn [m77])]) 1000 60 26 m78.args m78.h) m78.v m78.h' = true := by kernel_rfl
theorem m78_ok {σ : Nat → Int} {W0 : World} : MemoOk Tryd.prog 119 σ W0 26 m78 := memo_ok fit (Known2.nil σ) (FnsOk.cons (pure_fn_ok (l10_ok)) (FnsOk.cons (frame_fn_ok (all_cons (m77_ok) (all_nil))) (FnsOk.nil))) m78_run
noncomputable def h121 : H := hUpd h117 3692 [] [] []
noncomputable def h122 : H := hUpc h106 3790 [] [] [] [(16, 0, 25, I 3)]
noncomputable def m79 : Memo := ⟨[.ptr 61 0, I 1], h121, .slice 3789 0 6 6 5 false, h122⟩
theorem m79_run : ranTo (evCall (cxX Tryd.prog bad [] [] []) 1000 60 27 m79.args m79.h) m79.v m79.h' = true := by kernel_rfl
theorem m79_ok {σ : Nat → Int} {W0 : World} : MemoOk Tryd.prog 119 σ W0 27 m79 := memo_ok fit (Known2.nil σ) (FnsOk.nil) m79_run
noncomputable def h123 : H := hUpd h117 3691 [] [] []
noncomputable def h124 : H := hUpd h117 4485 [] [] []
noncomputable def m80 : Memo := ⟨[.ptr 61 0, I 1], h123, .snil, h124⟩
theorem m80_run : ranTo (evCall (cxX Tryd.prog bad [] [] [(51, pureFn l10), (27, frameFn [m79])]) 1000 60 25 m80.args m80.h) m80.v m80.h' = true := by kernel_rfl
theorem m80_ok {σ : Nat → Int} {W0 : World} : MemoOk Tryd.prog 119 σ W0 25 m80 := memo_ok fit (Known2.nil σ) (FnsOk.cons (pure_fn_ok (l10_ok)) (FnsOk.cons (frame_fn_ok (all_cons (m79_ok) (all_nil))) (FnsOk.nil))) m80_run
theorem run10 : isTrue (evCall (cxX Tryd.prog bad [] [] ((9, numExtE [(0, 4, .lit 2), (1, 2, .lit 1)]) :: (51, pureFn l14) :: (10, frameFn l12) :: (12, frameFn l13) :: (25, frameFn [m65, m80]) :: (26, frameFn [m67, m78]) :: q2)) 1000 60 4 [.int .i64 (.var 0), .int .i64 (.var 1), bF] (sentH 211 7 errTab)) = true := by kernel_rfl
theorem case10 {σ : Nat → Int} {W : World} (hL : laidMetH Tryd.prog laidErrs W) (hk : Known2 σ [] []) (hT : TabOk Tryd.prog bad 9 σ [(0, 4, .lit 2), (1, 2, .lit 1)]) {xs : Array Value} (hv : ∀ ρ, VRs σ ρ [.int .i64 (.var 0), .int .i64 (.var 1), bF] xs.toList) : Calls Tryd.prog 4 xs W fun e w' => e = .returned (.bool true) ∧ Below W.heap.size W w' := by
  obtain ⟨ads, h1, h2, h3⟩ := errs_sents hL
  exact law_case_x fit h1 h2 h3 errs_all errs_lt (by kernel_rfl) hk (FnsOk.cons (hT.ok fit) (FnsOk.cons (pure_fn_ok (l14_ok)) (FnsOk.cons (frame_fn_ok (l12_ok)) (FnsOk.cons (frame_fn_ok (l13_ok)) (FnsOk.cons (frame_fn_ok (all_cons (m65_ok) (all_cons (m80_ok) (all_nil)))) (FnsOk.cons (frame_fn_ok (all_cons (m67_ok) (all_cons (m78_ok) (all_nil)))) (q2_ok))))))) hv ⟨_, Tryd.func4, rfl⟩ run10
noncomputable def h125 : H := hUpc h93 2893 [] [] [] [(16, 3, 25, I 3)]
noncomputable def h126 : H := hUpc h110 2991 [] [] [] [(16, 3, 25, I 3)]
noncomputable def m81 : Memo := ⟨[.ptr 61 0, I 1], h125, .slice 2990 0 6 6 5 false, h126⟩
theorem m81_run : ranTo (evCall (cxX Tryd.prog bad [] [] []) 1000 60 27 m81.args m81.h) m81.v m81.h' = true := by kernel_rfl
theorem m81_ok {σ : Nat → Int} {W0 : World} : MemoOk Tryd.prog 119 σ W0 27 m81 := memo_ok fit (Known2.nil σ) (FnsOk.nil) m81_run
noncomputable def h127 : H := hUpd h125 2892 [] [] []
noncomputable def h128 : H := hUpc h112 3699 [] [] [] [(3698, 0, 0, I 3), (16, 3, 25, I 3)]
noncomputable def m82 : Memo := ⟨[.ptr 61 0, I 1], h127, .slice 3698 0 1 1 5 false, h128⟩
theorem m82_run : ranTo (evCall (cxX Tryd.prog bad [] [] [(51, pureFn l10), (27, frameFn [m81])]) 1000 60 25 m82.args m82.h) m82.v m82.h' = true := by kernel_rfl
theorem m82_ok {σ : Nat → Int} {W0 : World} : MemoOk Tryd.prog 119 σ W0 25 m82 := memo_ok fit (Known2.nil σ) (FnsOk.cons (pure_fn_ok (l10_ok)) (FnsOk.cons (frame_fn_ok (all_cons (m81_ok) (all_nil))) (FnsOk.nil))) m82_run
noncomputable def h129 : H := hUpd h125 3726 [] [] []
noncomputable def h130 : H := hUpc h114 3824 [] [] [] [(16, 3, 25, I 3)]
noncomputable def m83 : Memo := ⟨[.ptr 61 0, I 1], h129, .slice 3823 0 6 6 5 false, h130⟩
theorem m83_run : ranTo (evCall (cxX Tryd.prog bad [] [] []) 1000 60 27 m83.args m83.h) m83.v m83.h' = true := by kernel_rfl
theorem m83_ok {σ : Nat → Int} {W0 : World} : MemoOk Tryd.prog 119 σ W0 27 m83 := memo_ok fit (Known2.nil σ) (FnsOk.nil) m83_run
noncomputable def h131 : H := hUpd h125 3725 [] [] []
noncomputable def h132 : H := hUpd h125 4486 [] [] []
noncomputable def m84 : Memo := ⟨[.ptr 61 0, I 1], h131, .snil, h132⟩
theorem m84_run : ranTo (evCall (cxX Tryd.prog bad [] [] [(51, pureFn l10), (27, frameFn [m83])]) 1000 60 26 m84.args m84.h) m84.v m84.h' = true := by kernel_rfl
theorem m84_ok {σ : Nat → Int} {W0 : World} : MemoOk Tryd.prog 119 σ W0 26 m84 := memo_ok fit (Known2.nil σ) (FnsOk.cons (pure_fn_ok (l10_ok)) (FnsOk.cons (frame_fn_ok (all_cons (m83_ok) (all_nil))) (FnsOk.nil))) m84_run
theorem run11 : isTrue (evCall (cxX Tryd.prog bad [] [] ((9, numExtE [(0, 4, .lit 2), (1, 2, .lit 1)]) :: (51, pureFn l14) :: (10, frameFn l12) :: (12, frameFn l13) :: (25, frameFn [m65, m82]) :: (26, frameFn [m67, m84]) :: q2)) 1000 60 4 [.int .i64 (.var 0), .int .i64 (.var 1), bT] (sentH 211 7 errTab)) = true := by kernel_rfl
theorem case11 {σ : Nat → Int} {W : World} (hL : laidMetH Tryd.prog laidErrs W) (hk : Known2 σ [] []) (hT : TabOk Tryd.prog bad 9 σ [(0, 4, .lit 2), (1, 2, .lit 1)]) {xs : Array Value} (hv : ∀ ρ, VRs σ ρ [.int .i64 (.var 0), .int .i64 (.var 1), bT] xs.toList) : Calls Tryd.prog 4 xs W fun e w' => e = .returned (.bool true) ∧ Below W.heap.size W w' := by
  obtain ⟨ads, h1, h2, h3⟩ := errs_sents hL
  exact law_case_x fit h1 h2 h3 errs_all errs_lt (by kernel_rfl) hk (FnsOk.cons (hT.ok fit) (FnsOk.cons (pure_fn_ok (l14_ok)) (FnsOk.cons (frame_fn_ok (l12_ok)) (FnsOk.cons (frame_fn_ok (l13_ok)) (FnsOk.cons (frame_fn_ok (all_cons (m65_ok) (all_cons (m82_ok) (all_nil)))) (FnsOk.cons (frame_fn_ok (all_cons (m67_ok) (all_cons (m84_ok) (all_nil)))) (q2_ok))))))) hv ⟨_, Tryd.func4, rfl⟩ run11
noncomputable def h133 : H := hUpc h93 978 [58, 50, 60, 56, 48, 61, 57, 49, 59, 47] [(54, .map [(.agg [I 2, I 0], .agg [I 0, I 0], 0), (.agg [I 3, I 0], .agg [I 0, I 0], 1), (.agg [I 2, I 1], .agg [I 1, I 0], 2), (.agg [I 3, I 1], .agg [I 1, I 0], 3), (.agg [I 2, I 2], .agg [I 1, I 0], 4), (.agg [I 3, I 2], .agg [I 1, I 0], 5), (.agg [I 2, I 3], .agg [I 1, I 0], 6), (.agg [I 3, I 3], .agg [I 1, I 0], 7), (.agg [I 2, I 4], .agg [I 1, I 0], 8)] 9)] [(14, 4, [bT, I 0, bF]),
  (53, 0, [IZ (-1), I 30, I 9]),
  (53, 1, [I 0, I 20, I 7])] [(16, 0, 0, I 0), (16, 1, 0, I 0), (16, 1, 1, I 0), (16, 1, 5, I 0), (16, 1, 6, I 0), (16, 1, 10, I 0), (16, 1, 13, I 0), (16, 2, 0, I 0), (16, 2, 1, I 0), (16, 2, 5, I 0), (16, 2, 6, I 0), (16, 2, 10, I 0), (16, 2, 13, I 0), (16, 3, 0, I 0), (16, 3, 1, I 0), (16, 3, 5, I 0), (16, 3, 6, I 0), (16, 3, 10, I 0), (16, 3, 13, I 0)]
noncomputable def m85 : Memo := ⟨[.ptr 55 0, I 1, .snil], h92, .tuple [I 4, I 0, .inil], h133⟩
theorem m85_run : ranTo (evCall (cxX Tryd.prog bad [] [] []) 1000 60 10 m85.args m85.h) m85.v m85.h' = true := by kernel_rfl
theorem m85_ok {σ : Nat → Int} {W0 : World} : MemoOk Tryd.prog 119 σ W0 10 m85 := memo_ok fit (Known2.nil σ) (FnsOk.nil) m85_run
noncomputable def h134 : H := hUpd h133 1065 [] [(54, .map [(.agg [I 2, I 0], .agg [I 0, I 0], 0), (.agg [I 3, I 0], .agg [I 0, I 0], 1), (.agg [I 2, I 1], .agg [I 1, I 0], 2), (.agg [I 3, I 1], .agg [I 1, I 0], 3), (.agg [I 2, I 2], .agg [I 1, I 0], 4), (.agg [I 3, I 2], .agg [I 1, I 0], 5), (.agg [I 2, I 3], .agg [I 1, I 0], 6), (.agg [I 3, I 3], .agg [I 1, I 0], 7), (.agg [I 2, I 4], .agg [I 1, I 0], 8), (.agg [I 3, I 4], .agg [I 1, I 0], 9)] 10)] [(18, 4, [bT, I 0, bF]),
  (53, 0, [IZ (-1), I 30, I 10]),
  (53, 1, [I 0, I 20, I 8])]
noncomputable def m86 : Memo := ⟨[.ptr 55 0, I 1, .snil], h133, .tuple [I 4, I 0, .inil], h134⟩
theorem m86_run : ranTo (evCall (cxX Tryd.prog bad [] [] []) 1000 60 12 m86.args m86.h) m86.v m86.h' = true := by kernel_rfl
theorem m86_ok {σ : Nat → Int} {W0 : World} : MemoOk Tryd.prog 119 σ W0 12 m86 := memo_ok fit (Known2.nil σ) (FnsOk.nil) m86_run
noncomputable def p87 : Pur := ([.agg [I 2, I 4, I 0, I 0, U 0]], .inil, 1048576)
theorem p87_run : ranPure (evCall (cxX Tryd.prog bad [] [] []) 1000 60 51 p87.1 ⟨.lf, p87.2.2⟩) p87.2.1 = true := by kernel_rfl
theorem p87_ok {σ : Nat → Int} {W0 : World} : PureOk Tryd.prog 119 σ W0 51 p87 := pure_ok fit (Known2.nil σ) (FnsOk.nil) p87_run
noncomputable def p88 : Pur := ([.agg [I 3, I 4, I 0, I 0, U 0]], .inil, 1048576)
theorem p88_run : ranPure (evCall (cxX Tryd.prog bad [] [] []) 1000 60 51 p88.1 ⟨.lf, p88.2.2⟩) p88.2.1 = true := by kernel_rfl
theorem p88_ok {σ : Nat → Int} {W0 : World} : PureOk Tryd.prog 119 σ W0 51 p88 := pure_ok fit (Known2.nil σ) (FnsOk.nil) p88_run
noncomputable def h135 : H := hUpc h95 1565 [] [(54, .map [(.agg [I 2, I 0], .agg [I 0, I 0], 0), (.agg [I 3, I 0], .agg [I 0, I 0], 1), (.agg [I 2, I 1], .agg [I 1, I 0], 2), (.agg [I 3, I 1], .agg [I 1, I 0], 3), (.agg [I 2, I 2], .agg [I 1, I 0], 4), (.agg [I 3, I 2], .agg [I 1, I 0], 5), (.agg [I 2, I 3], .agg [I 1, I 0], 6), (.agg [I 3, I 3], .agg [I 1, I 0], 7), (.agg [I 2, I 4], .agg [I 1, I 0], 8), (.agg [I 3, I 4], .agg [I 1, I 0], 9)] 10)] [(14, 4, [bT, I 0, bF]),
  (18, 4, [bT, I 0, bF]),
  (53, 0, [IZ (-1), I 30, I 10]),
  (53, 1, [I 0, I 20, I 8])] [(16, 3, 6, I 4), (16, 4, 0, I 3), (16, 4, 1, I 4), (16, 4, 5, I 2), (16, 4, 6, I 1), (16, 4, 10, I 3), (16, 4, 13, I 5)]
noncomputable def h136 : H := hUpd h135 1667 [] [(1666, .cells 5 ([[I 2, I 1, I 0, I 0, U 0], [I 2, I 2, I 0, I 0, U 0], [I 2, I 3, I 0, I 0, U 0], [I 2, I 4, I 0, I 0, U 0], [I 3, I 1, I 0, I 0, U 0], [I 3, I 2, I 0, I 0, U 0], [I 3, I 3, I 0, I 0, U 0], [I 3, I 4, I 0, I 0, U 0]]) false)] []
noncomputable def m89 : Memo := ⟨[.ptr 61 0, I 1], h135, .slice 1666 0 8 8 5 false, h136⟩
theorem m89_run : ranTo (evCall (cxX Tryd.prog bad [] [] []) 1000 60 27 m89.args m89.h) m89.v m89.h' = true := by kernel_rfl
theorem m89_ok {σ : Nat → Int} {W0 : World} : MemoOk Tryd.prog 119 σ W0 27 m89 := memo_ok fit (Known2.nil σ) (FnsOk.nil) m89_run
noncomputable def h137 : H := hUpd h135 1564 [] [] []
noncomputable def h138 : H := hUpd h135 2502 [] [] []
noncomputable def m90 : Memo := ⟨[.ptr 61 0, I 1], h137, .snil, h138⟩
noncomputable def l17 : List (Pur) := p9 :: p88 :: p87 :: p63 :: p62 :: p38 :: p10 :: p37 :: p8 :: p13 :: p11 :: []
theorem l17_ok {σ : Nat → Int} {W0 : World} : ∀ x ∈ l17, PureOk Tryd.prog 119 σ W0 51 x := all_cons p9_ok (all_cons p88_ok (all_cons p87_ok (all_cons p63_ok (all_cons p62_ok (all_cons p38_ok (all_cons p10_ok (all_cons p37_ok (all_cons p8_ok (all_cons p13_ok (all_cons p11_ok all_nil))))))))))
theorem m90_run : ranTo (evCall (cxX Tryd.prog bad [] [] [(51, pureFn l17), (27, frameFn [m89])]) 1000 60 25 m90.args m90.h) m90.v m90.h' = true := by kernel_rfl
theorem m90_ok {σ : Nat → Int} {W0 : World} : MemoOk Tryd.prog 119 σ W0 25 m90 := memo_ok fit (Known2.nil σ) (FnsOk.cons (pure_fn_ok (l17_ok)) (FnsOk.cons (frame_fn_ok (all_cons (m89_ok) (all_nil))) (FnsOk.nil))) m90_run
noncomputable def h139 : H := hUpd h135 2503 [] [] []
noncomputable def h140 : H := hUpd h135 2605 [] [(2604, .cells 5 ([[I 2, I 1, I 0, I 0, U 0], [I 2, I 2, I 0, I 0, U 0], [I 2, I 3, I 0, I 0, U 0], [I 2, I 4, I 0, I 0, U 0], [I 3, I 1, I 0, I 0, U 0], [I 3, I 2, I 0, I 0, U 0], [I 3, I 3, I 0, I 0, U 0], [I 3, I 4, I 0, I 0, U 0]]) false)] []
noncomputable def m91 : Memo := ⟨[.ptr 61 0, I 1], h139, .slice 2604 0 8 8 5 false, h140⟩
theorem m91_run : ranTo (evCall (cxX Tryd.prog bad [] [] []) 1000 60 27 m91.args m91.h) m91.v m91.h' = true := by kernel_rfl
theorem m91_ok {σ : Nat → Int} {W0 : World} : MemoOk Tryd.prog 119 σ W0 27 m91 := memo_ok fit (Known2.nil σ) (FnsOk.nil) m91_run
noncomputable def h141 : H := hUpd h135 3396 [] [] []
noncomputable def m92 : Memo := ⟨[.ptr 61 0, I 1], h138, .snil, h141⟩
theorem m92_run : ranTo (evCall (cxX Tryd.prog bad [] [] [(51, pureFn l17), (27, frameFn [m91])]) 1000 60 26 m92.args m92.h) m92.v m92.h' = true := by kernel_rfl
theorem m92_ok {σ : Nat → Int} {W0 : World} : MemoOk Tryd.prog 119 σ W0 26 m92 := memo_ok fit (Known2.nil σ) (FnsOk.cons (pure_fn_ok (l17_ok)) (FnsOk.cons (frame_fn_ok (all_cons (m91_ok) (all_nil))) (FnsOk.nil))) m92_run
noncomputable def h142 : H := hUpd h135 3498 [] [(3497, .cells 5 ([[I 2, I 1, I 0, I 0, U 0], [I 2, I 2, I 0, I 0, U 0], [I 2, I 3, I 0, I 0, U 0], [I 2, I 4, I 0, I 0, U 0], [I 3, I 1, I 0, I 0, U 0], [I 3, I 2, I 0, I 0, U 0], [I 3, I 3, I 0, I 0, U 0], [I 3, I 4, I 0, I 0, U 0]]) false)] []
noncomputable def m93 : Memo := ⟨[.ptr 61 0, I 1], h141, .slice 3497 0 8 8 5 false, h142⟩
theorem m93_run : ranTo (evCall (cxX Tryd.prog bad [] [] []) 1000 60 27 m93.args m93.h) m93.v m93.h' = true := by kernel_rfl
theorem m93_ok {σ : Nat → Int} {W0 : World} : MemoOk Tryd.prog 119 σ W0 27 m93 := memo_ok fit (Known2.nil σ) (FnsOk.nil) m93_run
noncomputable def h143 : H := hUpc h135 3535 [] [] [] [(16, 0, 25, I 2), (16, 0, 26, I 1)]
noncomputable def h144 : H := hUpd h143 3637 [] [(3636, .cells 5 ([[I 2, I 1, I 0, I 0, U 0], [I 2, I 2, I 0, I 0, U 0], [I 2, I 3, I 0, I 0, U 0], [I 2, I 4, I 0, I 0, U 0], [I 3, I 1, I 0, I 0, U 0], [I 3, I 2, I 0, I 0, U 0], [I 3, I 3, I 0, I 0, U 0], [I 3, I 4, I 0, I 0, U 0]]) false)] []
noncomputable def m94 : Memo := ⟨[.ptr 61 0, I 1], h143, .slice 3636 0 8 8 5 false, h144⟩
theorem m94_run : ranTo (evCall (cxX Tryd.prog bad [] [] []) 1000 60 27 m94.args m94.h) m94.v m94.h' = true := by kernel_rfl
theorem m94_ok {σ : Nat → Int} {W0 : World} : MemoOk Tryd.prog 119 σ W0 27 m94 := memo_ok fit (Known2.nil σ) (FnsOk.nil) m94_run
noncomputable def h145 : H := hUpd h143 3534 [] [] []
noncomputable def h146 : H := hUpd h143 4471 [] [(4422, .cells 5 ([[I 2, I 1, I 0, I 0, U 0]]) false)] []
noncomputable def m95 : Memo := ⟨[.ptr 61 0, I 1], h145, .slice 4422 0 1 1 5 false, h146⟩
noncomputable def l18 : List (Pur) := p88 :: p87 :: l11
theorem l18_ok {σ : Nat → Int} {W0 : World} : ∀ x ∈ l18, PureOk Tryd.prog 119 σ W0 51 x := all_cons p88_ok (all_cons p87_ok l11_ok)
theorem m95_run : ranTo (evCall (cxX Tryd.prog bad [] [] [(51, pureFn l18), (27, frameFn [m94])]) 1000 60 26 m95.args m95.h) m95.v m95.h' = true := by kernel_rfl
theorem m95_ok {σ : Nat → Int} {W0 : World} : MemoOk Tryd.prog 119 σ W0 26 m95 := memo_ok fit (Known2.nil σ) (FnsOk.cons (pure_fn_ok (l18_ok)) (FnsOk.cons (frame_fn_ok (all_cons (m94_ok) (all_nil))) (FnsOk.nil))) m95_run
noncomputable def h147 : H := hUpd h143 4498 [] [] []
noncomputable def h148 : H := hUpd h143 4600 [] [(4599, .cells 5 ([[I 2, I 1, I 0, I 0, U 0], [I 2, I 2, I 0, I 0, U 0], [I 2, I 3, I 0, I 0, U 0], [I 2, I 4, I 0, I 0, U 0], [I 3, I 1, I 0, I 0, U 0], [I 3, I 2, I 0, I 0, U 0], [I 3, I 3, I 0, I 0, U 0], [I 3, I 4, I 0, I 0, U 0]]) false)] []
noncomputable def m96 : Memo := ⟨[.ptr 61 0, I 1], h147, .slice 4599 0 8 8 5 false, h148⟩
theorem m96_run : ranTo (evCall (cxX Tryd.prog bad [] [] []) 1000 60 27 m96.args m96.h) m96.v m96.h' = true := by kernel_rfl
theorem m96_ok {σ : Nat → Int} {W0 : World} : MemoOk Tryd.prog 119 σ W0 27 m96 := memo_ok fit (Known2.nil σ) (FnsOk.nil) m96_run
noncomputable def h149 : H := hUpd h143 4497 [] [] []
noncomputable def h150 : H := hUpd h143 5465 [] [] []
noncomputable def m97 : Memo := ⟨[.ptr 61 0, I 1], h149, .snil, h150⟩
theorem m97_run : ranTo (evCall (cxX Tryd.prog bad [] [] [(51, pureFn l18), (27, frameFn [m96])]) 1000 60 25 m97.args m97.h) m97.v m97.h' = true := by kernel_rfl
theorem m97_ok {σ : Nat → Int} {W0 : World} : MemoOk Tryd.prog 119 σ W0 25 m97 := memo_ok fit (Known2.nil σ) (FnsOk.cons (pure_fn_ok (l18_ok)) (FnsOk.cons (frame_fn_ok (all_cons (m96_ok) (all_nil))) (FnsOk.nil))) m97_run
noncomputable def l19 : List (Memo) := m85 :: l12
theorem l19_ok {σ : Nat → Int} {W0 : World} : ∀ x ∈ l19, MemoOk Tryd.prog 119 σ W0 10 x := all_cons m85_ok l12_ok
noncomputable def l20 : List (Memo) := m86 :: l13
theorem l20_ok {σ : Nat → Int} {W0 : World} : ∀ x ∈ l20, MemoOk Tryd.prog 119 σ W0 12 x := all_cons m86_ok l13_ok
noncomputable def l21 : List (Pur) := p11 :: p9 :: p88 :: p87 :: p63 :: p62 :: p38 :: p10 :: p37 :: p8 :: []
theorem l21_ok {σ : Nat → Int} {W0 : World} : ∀ x ∈ l21, PureOk Tryd.prog 119 σ W0 51 x := all_cons p11_ok (all_cons p9_ok (all_cons p88_ok (all_cons p87_ok (all_cons p63_ok (all_cons p62_ok (all_cons p38_ok (all_cons p10_ok (all_cons p37_ok (all_cons p8_ok all_nil)))))))))
noncomputable def q3 : Fns := [(22, pureFn [p0]), (6, frameFn [m1]), (7, frameFn [m2]), (15, frameFn [m3]), (27, frameFn [m93])]
theorem q3_ok {σ : Nat → Int} {W0 : World} : FnsOk Tryd.prog 119 σ W0 q3 := FnsOk.cons (pure_fn_ok (all_cons (p0_ok) (all_nil))) (FnsOk.cons (frame_fn_ok (all_cons (m1_ok) (all_nil))) (FnsOk.cons (frame_fn_ok (all_cons (m2_ok) (all_nil))) (FnsOk.cons (frame_fn_ok (all_cons (m3_ok) (all_nil))) (FnsOk.cons (frame_fn_ok (all_cons (m93_ok) (all_nil))) (FnsOk.nil)))))
theorem run12 : isTrue (evCall (cxX Tryd.prog bad [] [] ((9, numExtE [(0, 4, .lit 3), (1, 2, .lit 0)]) :: (51, pureFn l21) :: (10, frameFn l19) :: (12, frameFn l20) :: (25, frameFn [m90, m97]) :: (26, frameFn [m92, m95]) :: q3)) 1000 60 4 [.int .i64 (.var 0), .int .i64 (.var 1), bF] (sentH 211 7 errTab)) = true := by kernel_rfl
theorem case12 {σ : Nat → Int} {W : World} (hL : laidMetH Tryd.prog laidErrs W) (hk : Known2 σ [] []) (hT : TabOk Tryd.prog bad 9 σ [(0, 4, .lit 3), (1, 2, .lit 0)]) {xs : Array Value} (hv : ∀ ρ, VRs σ ρ [.int .i64 (.var 0), .int .i64 (.var 1), bF] xs.toList) : Calls Tryd.prog 4 xs W fun e w' => e = .returned (.bool true) ∧ Below W.heap.size W w' := by
  obtain ⟨ads, h1, h2, h3⟩ := errs_sents hL
  exact law_case_x fit h1 h2 h3 errs_all errs_lt (by kernel_rfl) hk (FnsOk.cons (hT.ok fit) (FnsOk.cons (pure_fn_ok (l21_ok)) (FnsOk.cons (frame_fn_ok (l19_ok)) (FnsOk.cons (frame_fn_ok (l20_ok)) (FnsOk.cons (frame_fn_ok (all_cons (m90_ok) (all_cons (m97_ok) (all_nil)))) (FnsOk.cons (frame_fn_ok (all_cons (m92_ok) (all_cons (m95_ok) (all_nil)))) (q3_ok))))))) hv ⟨_, Tryd.func4, rfl⟩ run12
noncomputable def h151 : H := hUpc h135 3536 [] [] [] [(16, 4, 25, I 2)]
noncomputable def h152 : H := hUpd h151 3638 [] [(3637, .cells 5 ([[I 2, I 1, I 0, I 0, U 0], [I 2, I 2, I 0, I 0, U 0], [I 2, I 3, I 0, I 0, U 0], [I 2, I 4, I 0, I 0, U 0], [I 3, I 1, I 0, I 0, U 0], [I 3, I 2, I 0, I 0, U 0], [I 3, I 3, I 0, I 0, U 0], [I 3, I 4, I 0, I 0, U 0]]) false)] []
noncomputable def m98 : Memo := ⟨[.ptr 61 0, I 1], h151, .slice 3637 0 8 8 5 false, h152⟩
theorem m98_run : ranTo (evCall (cxX Tryd.prog bad [] [] []) 1000 60 27 m98.args m98.h) m98.v m98.h' = true := by kernel_rfl
theorem m98_ok {σ : Nat → Int} {W0 : World} : MemoOk Tryd.prog 119 σ W0 27 m98 := memo_ok fit (Known2.nil σ) (FnsOk.nil) m98_run
noncomputable def h153 : H := hUpd h151 3535 [] [] []
noncomputable def h154 : H := hUpd h151 4516 [] [(4515, .cells 5 ([[I 2, I 0, I 0, I 0, U 0]]) false)] []
noncomputable def m99 : Memo := ⟨[.ptr 61 0, I 1], h153, .slice 4515 0 1 1 5 false, h154⟩
noncomputable def l22 : List (Pur) := p22 :: l17
theorem l22_ok {σ : Nat → Int} {W0 : World} : ∀ x ∈ l22, PureOk Tryd.prog 119 σ W0 51 x := all_cons p22_ok l17_ok
theorem m99_run : ranTo (evCall (cxX Tryd.prog bad [] [] [(51, pureFn l22), (27, frameFn [m98])]) 1000 60 25 m99.args m99.h) m99.v m99.h' = true := by kernel_rfl
theorem m99_ok {σ : Nat → Int} {W0 : World} : MemoOk Tryd.prog 119 σ W0 25 m99 := memo_ok fit (Known2.nil σ) (FnsOk.cons (pure_fn_ok (l22_ok)) (FnsOk.cons (frame_fn_ok (all_cons (m98_ok) (all_nil))) (FnsOk.nil))) m99_run
noncomputable def h155 : H := hUpd h151 4543 [] [] []
noncomputable def h156 : H := hUpd h151 4645 [] [(4644, .cells 5 ([[I 2, I 1, I 0, I 0, U 0], [I 2, I 2, I 0, I 0, U 0], [I 2, I 3, I 0, I 0, U 0], [I 2, I 4, I 0, I 0, U 0], [I 3, I 1, I 0, I 0, U 0], [I 3, I 2, I 0, I 0, U 0], [I 3, I 3, I 0, I 0, U 0], [I 3, I 4, I 0, I 0, U 0]]) false)] []
noncomputable def m100 : Memo := ⟨[.ptr 61 0, I 1], h155, .slice 4644 0 8 8 5 false, h156⟩
theorem m100_run : ranTo (evCall (cxX Tryd.prog bad [] [] []) 1000 60 27 m100.args m100.h) m100.v m100.h' = true := by kernel_rfl
theorem m100_ok {σ : Nat → Int} {W0 : World} : MemoOk Tryd.prog 119 σ W0 27 m100 := memo_ok fit (Known2.nil σ) (FnsOk.nil) m100_run
noncomputable def h157 : H := hUpd h151 4542 [] [] []
noncomputable def h158 : H := hUpd h151 5466 [] [] []
noncomputable def m101 : Memo := ⟨[.ptr 61 0, I 1], h157, .snil, h158⟩
theorem m101_run : ranTo (evCall (cxX Tryd.prog bad [] [] [(51, pureFn l22), (27, frameFn [m100])]) 1000 60 26 m101.args m101.h) m101.v m101.h' = true := by kernel_rfl
theorem m101_ok {σ : Nat → Int} {W0 : World} : MemoOk Tryd.prog 119 σ W0 26 m101 := memo_ok fit (Known2.nil σ) (FnsOk.cons (pure_fn_ok (l22_ok)) (FnsOk.cons (frame_fn_ok (all_cons (m100_ok) (all_nil))) (FnsOk.nil))) m101_run
noncomputable def l23 : List (Pur) := p22 :: l21
theorem l23_ok {σ : Nat → Int} {W0 : World} : ∀ x ∈ l23, PureOk Tryd.prog 119 σ W0 51 x := all_cons p22_ok l21_ok
theorem run13 : isTrue (evCall (cxX Tryd.prog bad [] [] ((9, numExtE [(0, 4, .lit 3), (1, 2, .lit 0)]) :: (51, pureFn l23) :: (10, frameFn l19) :: (12, frameFn l20) :: (25, frameFn [m90, m99]) :: (26, frameFn [m92, m101]) :: q3)) 1000 60 4 [.int .i64 (.var 0), .int .i64 (.var 1), bT] (sentH 211 7 errTab)) = true := by kernel_rfl
theorem case13 {σ : Nat → Int} {W : World} (hL : laidMetH Tryd.prog laidErrs W) (hk : Known2 σ [] []) (hT : TabOk Tryd.prog bad 9 σ [(0, 4, .lit 3), (1, 2, .lit 0)]) {xs : Array Value} (hv : ∀ ρ, VRs σ ρ [.int .i64 (.var 0), .int .i64 (.var 1), bT] xs.toList) : Calls Tryd.prog 4 xs W fun e w' => e = .returned (.bool true) ∧ Below W.heap.size W w' := by
  obtain ⟨ads, h1, h2, h3⟩ := errs_sents hL
  exact law_case_x fit h1 h2 h3 errs_all errs_lt (by kernel_rfl) hk (FnsOk.cons (hT.ok fit) (FnsOk.cons (pure_fn_ok (l23_ok)) (FnsOk.cons (frame_fn_ok (l19_ok)) (FnsOk.cons (frame_fn_ok (l20_ok)) (FnsOk.cons (frame_fn_ok (all_cons (m90_ok) (all_cons (m99_ok) (all_nil)))) (FnsOk.cons (frame_fn_ok (all_cons (m92_ok) (all_cons (m101_ok) (all_nil)))) (q3_ok))))))) hv ⟨_, Tryd.func4, rfl⟩ run13
noncomputable def h159 : H := hUpc h143 3535 [] [] [] [(16, 0, 25, I 3)]
noncomputable def h160 : H := hUpc h144 3637 [] [] [] [(16, 0, 25, I 3)]
noncomputable def m102 : Memo := ⟨[.ptr 61 0, I 1], h159, .slice 3636 0 8 8 5 false, h160⟩
theorem m102_run : ranTo (evCall (cxX Tryd.prog bad [] [] []) 1000 60 27 m102.args m102.h) m102.v m102.h' = true := by kernel_rfl
theorem m102_ok {σ : Nat → Int} {W0 : World} : MemoOk Tryd.prog 119 σ W0 27 m102 := memo_ok fit (Known2.nil σ) (FnsOk.nil) m102_run
noncomputable def h161 : H := hUpd h159 3534 [] [] []
noncomputable def h162 : H := hUpc h146 4471 [] [] [] [(4422, 0, 0, I 3), (16, 0, 25, I 3)]
noncomputable def m103 : Memo := ⟨[.ptr 61 0, I 1], h161, .slice 4422 0 1 1 5 false, h162⟩
theorem m103_run : ranTo (evCall (cxX Tryd.prog bad [] [] [(51, pureFn l17), (27, frameFn [m102])]) 1000 60 26 m103.args m103.h) m103.v m103.h' = true := by kernel_rfl
theorem m103_ok {σ : Nat → Int} {W0 : World} : MemoOk Tryd.prog 119 σ W0 26 m103 := memo_ok fit (Known2.nil σ) (FnsOk.cons (pure_fn_ok (l17_ok)) (FnsOk.cons (frame_fn_ok (all_cons (m102_ok) (all_nil))) (FnsOk.nil))) m103_run
noncomputable def h163 : H := hUpd h159 4498 [] [] []
noncomputable def h164 : H := hUpc h148 4600 [] [] [] [(16, 0, 25, I 3)]
noncomputable def m104 : Memo := ⟨[.ptr 61 0, I 1], h163, .slice 4599 0 8 8 5 false, h164⟩
theorem m104_run : ranTo (evCall (cxX Tryd.prog bad [] [] []) 1000 60 27 m104.args m104.h) m104.v m104.h' = true := by kernel_rfl
theorem m104_ok {σ : Nat → Int} {W0 : World} : MemoOk Tryd.prog 119 σ W0 27 m104 := memo_ok fit (Known2.nil σ) (FnsOk.nil) m104_run
noncomputable def h165 : H := hUpd h159 4497 [] [] []
noncomputable def h166 : H := hUpd h159 5465 [] [] []
noncomputable def m105 : Memo := ⟨[.ptr 61 0, I 1], h165, .snil, h166⟩
theorem m105_run : ranTo (evCall (cxX Tryd.prog bad [] [] [(51, pureFn l17), (27, frameFn [m104])]) 1000 60 25 m105.args m105.h) m105.v m105.h' = true := by kernel_rfl
theorem m105_ok {σ : Nat → Int} {W0 : World} : MemoOk Tryd.prog 119 σ W0 25 m105 := memo_ok fit (Known2.nil σ) (FnsOk.cons (pure_fn_ok (l17_ok)) (FnsOk.cons (frame_fn_ok (all_cons (m104_ok) (all_nil))) (FnsOk.nil))) m105_run
theorem run14 : isTrue (evCall (cxX Tryd.prog bad [] [] ((9, numExtE [(0, 4, .lit 3), (1, 2, .lit 1)]) :: (51, pureFn l21) :: (10, frameFn l19) :: (12, frameFn l20) :: (25, frameFn [m90, m105]) :: (26, frameFn [m92, m103]) :: q3)) 1000 60 4 [.int .i64 (.var 0), .int .i64 (.var 1), bF] (sentH 211 7 errTab)) = true := by kernel_rfl
theorem case14 {σ : Nat → Int} {W : World} (hL : laidMetH Tryd.prog laidErrs W) (hk : Known2 σ [] []) (hT : TabOk Tryd.prog bad 9 σ [(0, 4, .lit 3), (1, 2, .lit 1)]) {xs : Array Value} (hv : ∀ ρ, VRs σ ρ [.int .i64 (.var 0), .int .i64 (.var 1), bF] xs.toList) : Calls Tryd.prog 4 xs W fun e w' => e = .returned (.bool true) ∧ Below W.heap.size W w' := by
  obtain ⟨ads, h1, h2, h3⟩ := errs_sents hL
  exact law_case_x fit h1 h2 h3 errs_all errs_lt (by kernel_rfl) hk (FnsOk.cons (hT.ok fit) (FnsOk.cons (pure_fn_ok (l21_ok)) (FnsOk.cons (frame_fn_ok (l19_ok)) (FnsOk.cons (frame_fn_ok (l20_ok)) (FnsOk.cons (frame_fn_ok (all_cons (m90_ok) (all_cons (m105_ok) (all_nil)))) (FnsOk.cons (frame_fn_ok (all_cons (m92_ok) (all_cons (m103_ok) (all_nil)))) (q3_ok))))))) hv ⟨_, Tryd.func4, rfl⟩ run14
noncomputable def h167 : H := hUpc h135 3536 [] [] [] [(16, 4, 25, I 3)]
noncomputable def h168 : H := hUpc h152 3638 [] [] [] [(16, 4, 25, I 3)]
noncomputable def m106 : Memo := ⟨[.ptr 61 0, I 1], h167, .slice 3637 0 8 8 5 false, h168⟩
theorem m106_run : ranTo (evCall (cxX Tryd.prog bad [] [] []) 1000 60 27 m106.args m106.h) m106.v m106.h' = true := by kernel_rfl
theorem m106_ok {σ : Nat → Int} {W0 : World} : MemoOk Tryd.prog 119 σ W0 27 m106 := memo_ok fit (Known2.nil σ) (FnsOk.nil) m106_run
noncomputable def h169 : H := hUpd h167 3535 [] [] []
noncomputable def h170 : H := hUpc h154 4516 [] [] [] [(16, 4, 25, I 3), (4515, 0, 0, I 3)]
noncomputable def m107 : Memo := ⟨[.ptr 61 0, I 1], h169, .slice 4515 0 1 1 5 false, h170⟩
theorem m107_run : ranTo (evCall (cxX Tryd.prog bad [] [] [(51, pureFn l17), (27, frameFn [m106])]) 1000 60 25 m107.args m107.h) m107.v m107.h' = true := by kernel_rfl
theorem m107_ok {σ : Nat → Int} {W0 : World} : MemoOk Tryd.prog 119 σ W0 25 m107 := memo_ok fit (Known2.nil σ) (FnsOk.cons (pure_fn_ok (l17_ok)) (FnsOk.cons (frame_fn_ok (all_cons (m106_ok) (all_nil))) (FnsOk.nil))) m107_run
noncomputable def h171 : H := hUpd h167 4543 [] [] []
noncomputable def h172 : H := hUpc h156 4645 [] [] [] [(16, 4, 25, I 3)]
noncomputable def m108 : Memo := ⟨[.ptr 61 0, I 1], h171, .slice 4644 0 8 8 5 false, h172⟩
theorem m108_run : ranTo (evCall (cxX Tryd.prog bad [] [] []) 1000 60 27 m108.args m108.h) m108.v m108.h' = true := by kernel_rfl
theorem m108_ok {σ : Nat → Int} {W0 : World} : MemoOk Tryd.prog 119 σ W0 27 m108 := memo_ok fit (Known2.nil σ) (FnsOk.nil) m108_run
noncomputable def h173 : H := hUpd h167 4542 [] [] []
noncomputable def h174 : H := hUpd h167 5466 [] [] []
noncomputable def m109 : Memo := ⟨[.ptr 61 0, I 1], h173, .snil, h174⟩
theorem m109_run : ranTo (evCall (cxX Tryd.prog bad [] [] [(51, pureFn l17), (27, frameFn [m108])]) 1000 60 26 m109.args m109.h) m109.v m109.h' = true := by kernel_rfl
theorem m109_ok {σ : Nat → Int} {W0 : World} : MemoOk Tryd.prog 119 σ W0 26 m109 := memo_ok fit (Known2.nil σ) (FnsOk.cons (pure_fn_ok (l17_ok)) (FnsOk.cons (frame_fn_ok (all_cons (m108_ok) (all_nil))) (FnsOk.nil))) m109_run
theorem run15 : isTrue (evCall (cxX Tryd.prog bad [] [] ((9, numExtE [(0, 4, .lit 3), (1, 2, .lit 1)]) :: (51, pureFn l21) :: (10, frameFn l19) :: (12, frameFn l20) :: (25, frameFn [m90, m107]) :: (26, frameFn [m92, m109]) :: q3)) 1000 60 4 [.int .i64 (.var 0), .int .i64 (.var 1), bT] (sentH 211 7 errTab)) = true := by kernel_rfl
theorem case15 {σ : Nat → Int} {W : World} (hL : laidMetH Tryd.prog laidErrs W) (hk : Known2 σ [] []) (hT : TabOk Tryd.prog bad 9 σ [(0, 4, .lit 3), (1, 2, .lit 1)]) {xs : Array Value} (hv : ∀ ρ, VRs σ ρ [.int .i64 (.var 0), .int .i64 (.var 1), bT] xs.toList) : Calls Tryd.prog 4 xs W fun e w' => e = .returned (.bool true) ∧ Below W.heap.size W w' := by
  obtain ⟨ads, h1, h2, h3⟩ := errs_sents hL
  exact law_case_x fit h1 h2 h3 errs_all errs_lt (by kernel_rfl) hk (FnsOk.cons (hT.ok fit) (FnsOk.cons (pure_fn_ok (l21_ok)) (FnsOk.cons (frame_fn_ok (l19_ok)) (FnsOk.cons (frame_fn_ok (l20_ok)) (FnsOk.cons (frame_fn_ok (all_cons (m90_ok) (all_cons (m107_ok) (all_nil)))) (FnsOk.cons (frame_fn_ok (all_cons (m92_ok) (all_cons (m109_ok) (all_nil)))) (q3_ok))))))) hv ⟨_, Tryd.func4, rfl⟩ run15
end Go.Proofs.YtalmhgaomgkdbaaDoor.graphEdges
