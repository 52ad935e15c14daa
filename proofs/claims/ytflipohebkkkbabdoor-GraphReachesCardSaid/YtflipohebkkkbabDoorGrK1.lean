/- graphReaches: calls that are run once, and the runs of the cases (part 1). -/
import Derived.Test.YtflipohebkkkbabDoorGrK0
set_option linter.unusedVariables false
set_option maxRecDepth 10000000
namespace Go.Proofs.YtflipohebkkkbabDoor.graphReaches
open Tk
open Go.RowKit
noncomputable def h36 : H := hUpd h26 1096 [926] [(54, .map [(.agg [I 2, I 0], .agg [I 0, I 0], 0), (.agg [I 2, I 1], .agg [I 0, I 0], 1), (.agg [I 2, I 2], .agg [I 0, I 0], 2), (.agg [I 2, I 3], .agg [I 0, I 0], 3), (.agg [I 2, I 4], .agg [I 0, I 0], 4), (.agg [I 2, I 5], .agg [I 0, I 0], 5)] 6),
  (1095, .cells 5 ([[I 2, I 0, I 0, I 0, U 0]]) false)] [(14, 5, [bT, I 0, bF]),
  (16, 4, (I 2) :: (I 5) :: (I 0) :: (I 0) :: (U 0) :: (I 8) :: (I 0) :: (I 0) :: (I 0) :: (U 0) :: rp 4 (I 0) ((U 0) :: rp 4 (I 0) ((U 0) :: rp 4 (I 0) ((U 0) :: rp 4 (I 0) ((U 0) :: rp 4 (I 0) ((U 0) :: rp 4 (I 0) ((U 0) :: rp 4 (I 0) ((U 0) :: rp 4 (I 0) ((U 0) :: rp 4 (I 0) ((U 0) :: rp 4 (I 0) ((U 0) :: rp 4 (I 0) ((U 0) :: rp 4 (I 0) ((U 0) :: rp 4 (I 0) ((U 0) :: rp 4 (I 0) ([U 0]))))))))))))))),
  (53, 0, [IZ (-1), I 30, I 6])]
noncomputable def h37 : H := hUpd h36 2215 [] [(1984, .cells 5 ([[I 2, I 0, I 0, I 0, U 0], [I 2, I 1, I 0, I 0, U 0], [I 8, I 0, I 0, I 0, U 0], [I 2, I 2, I 0, I 0, U 0], [I 2, I 3, I 0, I 0, U 0], [I 2, I 4, I 0, I 5, U 0], [I 2, I 5, I 0, I 5, U 0]]) false)] []
noncomputable def m32 : Memo := ⟨[.ptr 61 0, .slice 1095 0 1 1 5 true], h36, .slice 1984 0 7 7 5 false, h37⟩
noncomputable def l41 : List (List V × V) := p28 :: l31
theorem l41_ok {σ : Nat → Int} {W0 : World} : ∀ x ∈ l41, PureOk Tryd.prog 123 σ W0 29 x := all_cons p28_ok l31_ok
theorem m32_run : ranTo (evCall (cxX Tryd.prog bad [] [] [(29, pureFn l41)]) 1000 60 20 m32.args m32.h) m32.v m32.h' = true := by kernel_rfl
theorem m32_ok {σ : Nat → Int} {W0 : World} : MemoOk Tryd.prog 123 σ W0 20 m32 := memo_ok fit (Known2.nil σ) (FnsOk.cons (pure_fn_ok (l41_ok)) (FnsOk.nil)) m32_run
noncomputable def l42 : List (List V × V) := p27 :: l32
theorem l42_ok {σ : Nat → Int} {W0 : World} : ∀ x ∈ l42, PureOk Tryd.prog 123 σ W0 29 x := all_cons p27_ok l32_ok
theorem run21 : isTrue (evCall (cxX Tryd.prog bad [] [] [(10, numExtE [(0, 7, .lit 4), (1, 7, .lit 3)]), (17, pureFn [p0]), (6, frameFn [m1]), (29, pureFn l42), (20, frameFn [m32])]) 1000 60 4 [.int .i64 (.var 0), .int .i64 (.var 1)] (sentH 201 7 errTab)) = true := by kernel_rfl
theorem case21 {σ : Nat → Int} {W : World} (hL : laidMetH Tryd.prog laidErrs W) (hk : Known2 σ [] []) (hT : TabOk Tryd.prog bad 10 σ [(0, 7, .lit 4), (1, 7, .lit 3)]) {xs : Array Value} (hv : ∀ ρ, VRs σ ρ [.int .i64 (.var 0), .int .i64 (.var 1)] xs.toList) : Calls Tryd.prog 4 xs W fun e w' => e = .returned (.bool true) ∧ Below W.heap.size W w' := by
  obtain ⟨ads, h1, h2, h3⟩ := errs_sents hL
  exact law_case_x fit h1 h2 h3 errs_all errs_lt (by kernel_rfl) hk (FnsOk.cons (hT.ok fit) (FnsOk.cons (pure_fn_ok (all_cons (p0_ok) (all_nil))) (FnsOk.cons (frame_fn_ok (all_cons (m1_ok) (all_nil))) (FnsOk.cons (pure_fn_ok (l42_ok)) (FnsOk.cons (frame_fn_ok (all_cons (m32_ok) (all_nil))) (FnsOk.nil)))))) hv ⟨_, Tryd.func4, rfl⟩ run21
noncomputable def h38 : H := hUpd h28 1096 [926] [(54, .map [(.agg [I 2, I 0], .agg [I 0, I 0], 0), (.agg [I 2, I 1], .agg [I 0, I 0], 1), (.agg [I 2, I 2], .agg [I 0, I 0], 2), (.agg [I 2, I 3], .agg [I 0, I 0], 3), (.agg [I 2, I 4], .agg [I 0, I 0], 4), (.agg [I 2, I 5], .agg [I 0, I 0], 5)] 6),
  (1095, .cells 5 ([[I 2, I 0, I 0, I 0, U 0]]) false)] [(14, 5, [bT, I 0, bF]),
  (16, 4, (I 2) :: (I 5) :: (I 0) :: (I 5) :: (U 0) :: (I 8) :: (I 0) :: (I 0) :: (I 0) :: (U 0) :: rp 4 (I 0) ((U 0) :: rp 4 (I 0) ((U 0) :: rp 4 (I 0) ((U 0) :: rp 4 (I 0) ((U 0) :: rp 4 (I 0) ((U 0) :: rp 4 (I 0) ((U 0) :: rp 4 (I 0) ((U 0) :: rp 4 (I 0) ((U 0) :: rp 4 (I 0) ((U 0) :: rp 4 (I 0) ((U 0) :: rp 4 (I 0) ((U 0) :: rp 4 (I 0) ((U 0) :: rp 4 (I 0) ((U 0) :: rp 4 (I 0) ([U 0]))))))))))))))),
  (53, 0, [IZ (-1), I 30, I 6])]
noncomputable def h39 : H := hUpd h38 2196 [] [(1952, .cells 5 ([[I 2, I 0, I 0, I 0, U 0], [I 2, I 1, I 0, I 0, U 0], [I 8, I 0, I 0, I 0, U 0], [I 2, I 2, I 0, I 0, U 0], [I 2, I 3, I 0, I 0, U 0], [I 2, I 4, I 0, I 0, U 0], [I 2, I 5, I 0, I 5, U 0]]) false)] []
noncomputable def m33 : Memo := ⟨[.ptr 61 0, .slice 1095 0 1 1 5 true], h38, .slice 1952 0 7 7 5 false, h39⟩
noncomputable def l43 : List (List V × V) := p28 :: l33
theorem l43_ok {σ : Nat → Int} {W0 : World} : ∀ x ∈ l43, PureOk Tryd.prog 123 σ W0 29 x := all_cons p28_ok l33_ok
theorem m33_run : ranTo (evCall (cxX Tryd.prog bad [] [] [(29, pureFn l43)]) 1000 60 20 m33.args m33.h) m33.v m33.h' = true := by kernel_rfl
theorem m33_ok {σ : Nat → Int} {W0 : World} : MemoOk Tryd.prog 123 σ W0 20 m33 := memo_ok fit (Known2.nil σ) (FnsOk.cons (pure_fn_ok (l43_ok)) (FnsOk.nil)) m33_run
noncomputable def l44 : List (List V × V) := p28 :: l34
theorem l44_ok {σ : Nat → Int} {W0 : World} : ∀ x ∈ l44, PureOk Tryd.prog 123 σ W0 29 x := all_cons p28_ok l34_ok
theorem run22 : isTrue (evCall (cxX Tryd.prog bad [] [] [(10, numExtE [(0, 7, .lit 4), (1, 7, .lit 4)]), (17, pureFn [p0]), (6, frameFn [m1]), (29, pureFn l44), (20, frameFn [m33])]) 1000 60 4 [.int .i64 (.var 0), .int .i64 (.var 1)] (sentH 201 7 errTab)) = true := by kernel_rfl
theorem case22 {σ : Nat → Int} {W : World} (hL : laidMetH Tryd.prog laidErrs W) (hk : Known2 σ [] []) (hT : TabOk Tryd.prog bad 10 σ [(0, 7, .lit 4), (1, 7, .lit 4)]) {xs : Array Value} (hv : ∀ ρ, VRs σ ρ [.int .i64 (.var 0), .int .i64 (.var 1)] xs.toList) : Calls Tryd.prog 4 xs W fun e w' => e = .returned (.bool true) ∧ Below W.heap.size W w' := by
  obtain ⟨ads, h1, h2, h3⟩ := errs_sents hL
  exact law_case_x fit h1 h2 h3 errs_all errs_lt (by kernel_rfl) hk (FnsOk.cons (hT.ok fit) (FnsOk.cons (pure_fn_ok (all_cons (p0_ok) (all_nil))) (FnsOk.cons (frame_fn_ok (all_cons (m1_ok) (all_nil))) (FnsOk.cons (pure_fn_ok (l44_ok)) (FnsOk.cons (frame_fn_ok (all_cons (m33_ok) (all_nil))) (FnsOk.nil)))))) hv ⟨_, Tryd.func4, rfl⟩ run22
noncomputable def h40 : H := hUpd h30 1096 [] [] [(16, 0, (I 2) :: (I 1) :: (I 0) :: (I 0) :: (U 0) :: (I 8) :: (I 0) :: (I 0) :: (I 0) :: (U 0) :: rp 4 (I 0) ((U 0) :: rp 4 (I 0) ((U 0) :: rp 4 (I 0) ((U 0) :: rp 4 (I 0) ((U 0) :: rp 4 (I 0) ((U 0) :: rp 4 (I 0) ((U 0) :: rp 4 (I 0) ((U 0) :: rp 4 (I 0) ((U 0) :: rp 4 (I 0) ((U 0) :: rp 4 (I 0) ((U 0) :: rp 4 (I 0) ((U 0) :: rp 4 (I 0) ((U 0) :: rp 4 (I 0) ((U 0) :: rp 4 (I 0) ([U 0])))))))))))))))]
noncomputable def h41 : H := hUpd h40 2164 [] [(1952, .cells 5 ([[I 2, I 0, I 0, I 0, U 0], [I 2, I 1, I 0, I 0, U 0], [I 8, I 0, I 0, I 0, U 0], [I 2, I 2, I 0, I 0, U 0], [I 2, I 3, I 0, I 0, U 0], [I 2, I 4, I 0, I 0, U 0], [I 2, I 5, I 0, I 0, U 0]]) false)] []
noncomputable def m34 : Memo := ⟨[.ptr 61 0, .slice 1095 0 1 1 5 true], h40, .slice 1952 0 7 7 5 false, h41⟩
noncomputable def l45 : List (List V × V) := p27 :: l33
theorem l45_ok {σ : Nat → Int} {W0 : World} : ∀ x ∈ l45, PureOk Tryd.prog 123 σ W0 29 x := all_cons p27_ok l33_ok
theorem m34_run : ranTo (evCall (cxX Tryd.prog bad [] [] [(29, pureFn l45)]) 1000 60 20 m34.args m34.h) m34.v m34.h' = true := by kernel_rfl
theorem m34_ok {σ : Nat → Int} {W0 : World} : MemoOk Tryd.prog 123 σ W0 20 m34 := memo_ok fit (Known2.nil σ) (FnsOk.cons (pure_fn_ok (l45_ok)) (FnsOk.nil)) m34_run
noncomputable def l46 : List (List V × V) := p27 :: l34
theorem l46_ok {σ : Nat → Int} {W0 : World} : ∀ x ∈ l46, PureOk Tryd.prog 123 σ W0 29 x := all_cons p27_ok l34_ok
theorem run23 : isTrue (evCall (cxX Tryd.prog bad [] [] [(10, numExtE [(0, 7, .lit 4), (1, 7, .lit 5)]), (17, pureFn [p0]), (6, frameFn [m1]), (29, pureFn l46), (20, frameFn [m34])]) 1000 60 4 [.int .i64 (.var 0), .int .i64 (.var 1)] (sentH 201 7 errTab)) = true := by kernel_rfl
theorem case23 {σ : Nat → Int} {W : World} (hL : laidMetH Tryd.prog laidErrs W) (hk : Known2 σ [] []) (hT : TabOk Tryd.prog bad 10 σ [(0, 7, .lit 4), (1, 7, .lit 5)]) {xs : Array Value} (hv : ∀ ρ, VRs σ ρ [.int .i64 (.var 0), .int .i64 (.var 1)] xs.toList) : Calls Tryd.prog 4 xs W fun e w' => e = .returned (.bool true) ∧ Below W.heap.size W w' := by
  obtain ⟨ads, h1, h2, h3⟩ := errs_sents hL
  exact law_case_x fit h1 h2 h3 errs_all errs_lt (by kernel_rfl) hk (FnsOk.cons (hT.ok fit) (FnsOk.cons (pure_fn_ok (all_cons (p0_ok) (all_nil))) (FnsOk.cons (frame_fn_ok (all_cons (m1_ok) (all_nil))) (FnsOk.cons (pure_fn_ok (l46_ok)) (FnsOk.cons (frame_fn_ok (all_cons (m34_ok) (all_nil))) (FnsOk.nil)))))) hv ⟨_, Tryd.func4, rfl⟩ run23
theorem run24 : isTrue (evCall (cxX Tryd.prog bad [] [] [(10, numExtE [(0, 7, .lit 4), (1, 7, .lit 6)]), (17, pureFn [p0]), (6, frameFn [m1]), (29, pureFn l46), (20, frameFn [m34])]) 1000 60 4 [.int .i64 (.var 0), .int .i64 (.var 1)] (sentH 201 7 errTab)) = true := by kernel_rfl
theorem case24 {σ : Nat → Int} {W : World} (hL : laidMetH Tryd.prog laidErrs W) (hk : Known2 σ [] []) (hT : TabOk Tryd.prog bad 10 σ [(0, 7, .lit 4), (1, 7, .lit 6)]) {xs : Array Value} (hv : ∀ ρ, VRs σ ρ [.int .i64 (.var 0), .int .i64 (.var 1)] xs.toList) : Calls Tryd.prog 4 xs W fun e w' => e = .returned (.bool true) ∧ Below W.heap.size W w' := by
  obtain ⟨ads, h1, h2, h3⟩ := errs_sents hL
  exact law_case_x fit h1 h2 h3 errs_all errs_lt (by kernel_rfl) hk (FnsOk.cons (hT.ok fit) (FnsOk.cons (pure_fn_ok (all_cons (p0_ok) (all_nil))) (FnsOk.cons (frame_fn_ok (all_cons (m1_ok) (all_nil))) (FnsOk.cons (pure_fn_ok (l46_ok)) (FnsOk.cons (frame_fn_ok (all_cons (m34_ok) (all_nil))) (FnsOk.nil)))))) hv ⟨_, Tryd.func4, rfl⟩ run24
noncomputable def p35 : List V × V := ([.agg [I 2, I 6, I 0, I 0, U 0]], .inil)
theorem p35_run : ranPure (evCall (cxX Tryd.prog bad [] [] []) 1000 60 29 p35.1 ⟨.lf, farN⟩) p35.2 = true := by kernel_rfl
theorem p35_ok {σ : Nat → Int} {W0 : World} : PureOk Tryd.prog 123 σ W0 29 p35 := pure_ok fit (Known2.nil σ) (FnsOk.nil) p35_run
noncomputable def p36 : List V × V := ([.agg [I 2, I 6, I 0, I 5, U 0]], .inil)
theorem p36_run : ranPure (evCall (cxX Tryd.prog bad [] [] []) 1000 60 29 p36.1 ⟨.lf, farN⟩) p36.2 = true := by kernel_rfl
theorem p36_ok {σ : Nat → Int} {W0 : World} : PureOk Tryd.prog 123 σ W0 29 p36 := pure_ok fit (Known2.nil σ) (FnsOk.nil) p36_run
noncomputable def h42 : H := hUpd h30 1265 [1095] [(54, .map [(.agg [I 2, I 0], .agg [I 0, I 0], 0), (.agg [I 2, I 1], .agg [I 0, I 0], 1), (.agg [I 2, I 2], .agg [I 0, I 0], 2), (.agg [I 2, I 3], .agg [I 0, I 0], 3), (.agg [I 2, I 4], .agg [I 0, I 0], 4), (.agg [I 2, I 5], .agg [I 0, I 0], 5), (.agg [I 2, I 6], .agg [I 0, I 0], 6)] 7),
  (1264, .cells 5 ([[I 2, I 0, I 0, I 0, U 0]]) false)] [(14, 6, [bT, I 0, bF]),
  (16, 5, (I 2) :: (I 6) :: (I 0) :: (I 0) :: (U 0) :: (I 8) :: (I 0) :: (I 0) :: (I 0) :: (U 0) :: rp 4 (I 0) ((U 0) :: rp 4 (I 0) ((U 0) :: rp 4 (I 0) ((U 0) :: rp 4 (I 0) ((U 0) :: rp 4 (I 0) ((U 0) :: rp 4 (I 0) ((U 0) :: rp 4 (I 0) ((U 0) :: rp 4 (I 0) ((U 0) :: rp 4 (I 0) ((U 0) :: rp 4 (I 0) ((U 0) :: rp 4 (I 0) ((U 0) :: rp 4 (I 0) ((U 0) :: rp 4 (I 0) ((U 0) :: rp 4 (I 0) ([U 0]))))))))))))))),
  (53, 0, [IZ (-1), I 30, I 7])]
noncomputable def h43 : H := hUpd h42 2637 [] [(2406, .cells 5 ([[I 2, I 0, I 0, I 0, U 0], [I 2, I 1, I 0, I 5, U 0], [I 8, I 0, I 0, I 0, U 0], [I 2, I 2, I 0, I 5, U 0], [I 2, I 3, I 0, I 5, U 0], [I 2, I 4, I 0, I 5, U 0], [I 2, I 5, I 0, I 5, U 0], [I 2, I 6, I 0, I 5, U 0]]) false)] []
noncomputable def m37 : Memo := ⟨[.ptr 61 0, .slice 1264 0 1 1 5 true], h42, .slice 2406 0 8 8 5 false, h43⟩
noncomputable def l47 : List (List V × V) := p36 :: l35
theorem l47_ok {σ : Nat → Int} {W0 : World} : ∀ x ∈ l47, PureOk Tryd.prog 123 σ W0 29 x := all_cons p36_ok l35_ok
theorem m37_run : ranTo (evCall (cxX Tryd.prog bad [] [] [(29, pureFn l47)]) 1000 60 20 m37.args m37.h) m37.v m37.h' = true := by kernel_rfl
theorem m37_ok {σ : Nat → Int} {W0 : World} : MemoOk Tryd.prog 123 σ W0 20 m37 := memo_ok fit (Known2.nil σ) (FnsOk.cons (pure_fn_ok (l47_ok)) (FnsOk.nil)) m37_run
noncomputable def l48 : List (List V × V) := p35 :: l36
theorem l48_ok {σ : Nat → Int} {W0 : World} : ∀ x ∈ l48, PureOk Tryd.prog 123 σ W0 29 x := all_cons p35_ok l36_ok
theorem run25 : isTrue (evCall (cxX Tryd.prog bad [] [] [(10, numExtE [(0, 7, .lit 5), (1, 8, .lit 0)]), (17, pureFn [p0]), (6, frameFn [m1]), (29, pureFn l48), (20, frameFn [m37])]) 1000 60 4 [.int .i64 (.var 0), .int .i64 (.var 1)] (sentH 201 7 errTab)) = true := by kernel_rfl
theorem case25 {σ : Nat → Int} {W : World} (hL : laidMetH Tryd.prog laidErrs W) (hk : Known2 σ [] []) (hT : TabOk Tryd.prog bad 10 σ [(0, 7, .lit 5), (1, 8, .lit 0)]) {xs : Array Value} (hv : ∀ ρ, VRs σ ρ [.int .i64 (.var 0), .int .i64 (.var 1)] xs.toList) : Calls Tryd.prog 4 xs W fun e w' => e = .returned (.bool true) ∧ Below W.heap.size W w' := by
  obtain ⟨ads, h1, h2, h3⟩ := errs_sents hL
  exact law_case_x fit h1 h2 h3 errs_all errs_lt (by kernel_rfl) hk (FnsOk.cons (hT.ok fit) (FnsOk.cons (pure_fn_ok (all_cons (p0_ok) (all_nil))) (FnsOk.cons (frame_fn_ok (all_cons (m1_ok) (all_nil))) (FnsOk.cons (pure_fn_ok (l48_ok)) (FnsOk.cons (frame_fn_ok (all_cons (m37_ok) (all_nil))) (FnsOk.nil)))))) hv ⟨_, Tryd.func4, rfl⟩ run25
noncomputable def h44 : H := hUpd h32 1265 [1095] [(54, .map [(.agg [I 2, I 0], .agg [I 0, I 0], 0), (.agg [I 2, I 1], .agg [I 0, I 0], 1), (.agg [I 2, I 2], .agg [I 0, I 0], 2), (.agg [I 2, I 3], .agg [I 0, I 0], 3), (.agg [I 2, I 4], .agg [I 0, I 0], 4), (.agg [I 2, I 5], .agg [I 0, I 0], 5), (.agg [I 2, I 6], .agg [I 0, I 0], 6)] 7),
  (1264, .cells 5 ([[I 2, I 0, I 0, I 0, U 0]]) false)] [(14, 6, [bT, I 0, bF]),
  (16, 5, (I 2) :: (I 6) :: (I 0) :: (I 0) :: (U 0) :: (I 8) :: (I 0) :: (I 0) :: (I 0) :: (U 0) :: rp 4 (I 0) ((U 0) :: rp 4 (I 0) ((U 0) :: rp 4 (I 0) ((U 0) :: rp 4 (I 0) ((U 0) :: rp 4 (I 0) ((U 0) :: rp 4 (I 0) ((U 0) :: rp 4 (I 0) ((U 0) :: rp 4 (I 0) ((U 0) :: rp 4 (I 0) ((U 0) :: rp 4 (I 0) ((U 0) :: rp 4 (I 0) ((U 0) :: rp 4 (I 0) ((U 0) :: rp 4 (I 0) ((U 0) :: rp 4 (I 0) ([U 0]))))))))))))))),
  (53, 0, [IZ (-1), I 30, I 7])]
noncomputable def h45 : H := hUpd h44 2618 [] [(2387, .cells 5 ([[I 2, I 0, I 0, I 0, U 0], [I 2, I 1, I 0, I 0, U 0], [I 8, I 0, I 0, I 0, U 0], [I 2, I 2, I 0, I 5, U 0], [I 2, I 3, I 0, I 5, U 0], [I 2, I 4, I 0, I 5, U 0], [I 2, I 5, I 0, I 5, U 0], [I 2, I 6, I 0, I 5, U 0]]) false)] []
noncomputable def m38 : Memo := ⟨[.ptr 61 0, .slice 1264 0 1 1 5 true], h44, .slice 2387 0 8 8 5 false, h45⟩
noncomputable def l49 : List (List V × V) := p36 :: l37
theorem l49_ok {σ : Nat → Int} {W0 : World} : ∀ x ∈ l49, PureOk Tryd.prog 123 σ W0 29 x := all_cons p36_ok l37_ok
theorem m38_run : ranTo (evCall (cxX Tryd.prog bad [] [] [(29, pureFn l49)]) 1000 60 20 m38.args m38.h) m38.v m38.h' = true := by kernel_rfl
theorem m38_ok {σ : Nat → Int} {W0 : World} : MemoOk Tryd.prog 123 σ W0 20 m38 := memo_ok fit (Known2.nil σ) (FnsOk.cons (pure_fn_ok (l49_ok)) (FnsOk.nil)) m38_run
noncomputable def l50 : List (List V × V) := p35 :: l38
theorem l50_ok {σ : Nat → Int} {W0 : World} : ∀ x ∈ l50, PureOk Tryd.prog 123 σ W0 29 x := all_cons p35_ok l38_ok
theorem run26 : isTrue (evCall (cxX Tryd.prog bad [] [] [(10, numExtE [(0, 7, .lit 5), (1, 8, .lit 1)]), (17, pureFn [p0]), (6, frameFn [m1]), (29, pureFn l50), (20, frameFn [m38])]) 1000 60 4 [.int .i64 (.var 0), .int .i64 (.var 1)] (sentH 201 7 errTab)) = true := by kernel_rfl
theorem case26 {σ : Nat → Int} {W : World} (hL : laidMetH Tryd.prog laidErrs W) (hk : Known2 σ [] []) (hT : TabOk Tryd.prog bad 10 σ [(0, 7, .lit 5), (1, 8, .lit 1)]) {xs : Array Value} (hv : ∀ ρ, VRs σ ρ [.int .i64 (.var 0), .int .i64 (.var 1)] xs.toList) : Calls Tryd.prog 4 xs W fun e w' => e = .returned (.bool true) ∧ Below W.heap.size W w' := by
  obtain ⟨ads, h1, h2, h3⟩ := errs_sents hL
  exact law_case_x fit h1 h2 h3 errs_all errs_lt (by kernel_rfl) hk (FnsOk.cons (hT.ok fit) (FnsOk.cons (pure_fn_ok (all_cons (p0_ok) (all_nil))) (FnsOk.cons (frame_fn_ok (all_cons (m1_ok) (all_nil))) (FnsOk.cons (pure_fn_ok (l50_ok)) (FnsOk.cons (frame_fn_ok (all_cons (m38_ok) (all_nil))) (FnsOk.nil)))))) hv ⟨_, Tryd.func4, rfl⟩ run26
noncomputable def h46 : H := hUpd h34 1265 [1095] [(54, .map [(.agg [I 2, I 0], .agg [I 0, I 0], 0), (.agg [I 2, I 1], .agg [I 0, I 0], 1), (.agg [I 2, I 2], .agg [I 0, I 0], 2), (.agg [I 2, I 3], .agg [I 0, I 0], 3), (.agg [I 2, I 4], .agg [I 0, I 0], 4), (.agg [I 2, I 5], .agg [I 0, I 0], 5), (.agg [I 2, I 6], .agg [I 0, I 0], 6)] 7),
  (1264, .cells 5 ([[I 2, I 0, I 0, I 0, U 0]]) false)] [(14, 6, [bT, I 0, bF]),
  (16, 5, (I 2) :: (I 6) :: (I 0) :: (I 0) :: (U 0) :: (I 8) :: (I 0) :: (I 0) :: (I 0) :: (U 0) :: rp 4 (I 0) ((U 0) :: rp 4 (I 0) ((U 0) :: rp 4 (I 0) ((U 0) :: rp 4 (I 0) ((U 0) :: rp 4 (I 0) ((U 0) :: rp 4 (I 0) ((U 0) :: rp 4 (I 0) ((U 0) :: rp 4 (I 0) ((U 0) :: rp 4 (I 0) ((U 0) :: rp 4 (I 0) ((U 0) :: rp 4 (I 0) ((U 0) :: rp 4 (I 0) ((U 0) :: rp 4 (I 0) ((U 0) :: rp 4 (I 0) ([U 0]))))))))))))))),
  (53, 0, [IZ (-1), I 30, I 7])]
noncomputable def h47 : H := hUpd h46 2599 [] [(2368, .cells 5 ([[I 2, I 0, I 0, I 0, U 0], [I 2, I 1, I 0, I 0, U 0], [I 8, I 0, I 0, I 0, U 0], [I 2, I 2, I 0, I 0, U 0], [I 2, I 3, I 0, I 5, U 0], [I 2, I 4, I 0, I 5, U 0], [I 2, I 5, I 0, I 5, U 0], [I 2, I 6, I 0, I 5, U 0]]) false)] []
noncomputable def m39 : Memo := ⟨[.ptr 61 0, .slice 1264 0 1 1 5 true], h46, .slice 2368 0 8 8 5 false, h47⟩
noncomputable def l51 : List (List V × V) := p36 :: l39
theorem l51_ok {σ : Nat → Int} {W0 : World} : ∀ x ∈ l51, PureOk Tryd.prog 123 σ W0 29 x := all_cons p36_ok l39_ok
theorem m39_run : ranTo (evCall (cxX Tryd.prog bad [] [] [(29, pureFn l51)]) 1000 60 20 m39.args m39.h) m39.v m39.h' = true := by kernel_rfl
theorem m39_ok {σ : Nat → Int} {W0 : World} : MemoOk Tryd.prog 123 σ W0 20 m39 := memo_ok fit (Known2.nil σ) (FnsOk.cons (pure_fn_ok (l51_ok)) (FnsOk.nil)) m39_run
noncomputable def l52 : List (List V × V) := p35 :: l40
theorem l52_ok {σ : Nat → Int} {W0 : World} : ∀ x ∈ l52, PureOk Tryd.prog 123 σ W0 29 x := all_cons p35_ok l40_ok
theorem run27 : isTrue (evCall (cxX Tryd.prog bad [] [] [(10, numExtE [(0, 7, .lit 5), (1, 8, .lit 2)]), (17, pureFn [p0]), (6, frameFn [m1]), (29, pureFn l52), (20, frameFn [m39])]) 1000 60 4 [.int .i64 (.var 0), .int .i64 (.var 1)] (sentH 201 7 errTab)) = true := by kernel_rfl
theorem case27 {σ : Nat → Int} {W : World} (hL : laidMetH Tryd.prog laidErrs W) (hk : Known2 σ [] []) (hT : TabOk Tryd.prog bad 10 σ [(0, 7, .lit 5), (1, 8, .lit 2)]) {xs : Array Value} (hv : ∀ ρ, VRs σ ρ [.int .i64 (.var 0), .int .i64 (.var 1)] xs.toList) : Calls Tryd.prog 4 xs W fun e w' => e = .returned (.bool true) ∧ Below W.heap.size W w' := by
  obtain ⟨ads, h1, h2, h3⟩ := errs_sents hL
  exact law_case_x fit h1 h2 h3 errs_all errs_lt (by kernel_rfl) hk (FnsOk.cons (hT.ok fit) (FnsOk.cons (pure_fn_ok (all_cons (p0_ok) (all_nil))) (FnsOk.cons (frame_fn_ok (all_cons (m1_ok) (all_nil))) (FnsOk.cons (pure_fn_ok (l52_ok)) (FnsOk.cons (frame_fn_ok (all_cons (m39_ok) (all_nil))) (FnsOk.nil)))))) hv ⟨_, Tryd.func4, rfl⟩ run27
noncomputable def h48 : H := hUpd h36 1265 [1095] [(54, .map [(.agg [I 2, I 0], .agg [I 0, I 0], 0), (.agg [I 2, I 1], .agg [I 0, I 0], 1), (.agg [I 2, I 2], .agg [I 0, I 0], 2), (.agg [I 2, I 3], .agg [I 0, I 0], 3), (.agg [I 2, I 4], .agg [I 0, I 0], 4), (.agg [I 2, I 5], .agg [I 0, I 0], 5), (.agg [I 2, I 6], .agg [I 0, I 0], 6)] 7),
  (1264, .cells 5 ([[I 2, I 0, I 0, I 0, U 0]]) false)] [(14, 6, [bT, I 0, bF]),
  (16, 5, (I 2) :: (I 6) :: (I 0) :: (I 0) :: (U 0) :: (I 8) :: (I 0) :: (I 0) :: (I 0) :: (U 0) :: rp 4 (I 0) ((U 0) :: rp 4 (I 0) ((U 0) :: rp 4 (I 0) ((U 0) :: rp 4 (I 0) ((U 0) :: rp 4 (I 0) ((U 0) :: rp 4 (I 0) ((U 0) :: rp 4 (I 0) ((U 0) :: rp 4 (I 0) ((U 0) :: rp 4 (I 0) ((U 0) :: rp 4 (I 0) ((U 0) :: rp 4 (I 0) ((U 0) :: rp 4 (I 0) ((U 0) :: rp 4 (I 0) ((U 0) :: rp 4 (I 0) ([U 0]))))))))))))))),
  (53, 0, [IZ (-1), I 30, I 7])]
noncomputable def h49 : H := hUpd h48 2580 [] [(2349, .cells 5 ([[I 2, I 0, I 0, I 0, U 0], [I 2, I 1, I 0, I 0, U 0], [I 8, I 0, I 0, I 0, U 0], [I 2, I 2, I 0, I 0, U 0], [I 2, I 3, I 0, I 0, U 0], [I 2, I 4, I 0, I 5, U 0], [I 2, I 5, I 0, I 5, U 0], [I 2, I 6, I 0, I 5, U 0]]) false)] []
noncomputable def m40 : Memo := ⟨[.ptr 61 0, .slice 1264 0 1 1 5 true], h48, .slice 2349 0 8 8 5 false, h49⟩
noncomputable def l53 : List (List V × V) := p36 :: l41
theorem l53_ok {σ : Nat → Int} {W0 : World} : ∀ x ∈ l53, PureOk Tryd.prog 123 σ W0 29 x := all_cons p36_ok l41_ok
theorem m40_run : ranTo (evCall (cxX Tryd.prog bad [] [] [(29, pureFn l53)]) 1000 60 20 m40.args m40.h) m40.v m40.h' = true := by kernel_rfl
theorem m40_ok {σ : Nat → Int} {W0 : World} : MemoOk Tryd.prog 123 σ W0 20 m40 := memo_ok fit (Known2.nil σ) (FnsOk.cons (pure_fn_ok (l53_ok)) (FnsOk.nil)) m40_run
noncomputable def l54 : List (List V × V) := p35 :: l42
theorem l54_ok {σ : Nat → Int} {W0 : World} : ∀ x ∈ l54, PureOk Tryd.prog 123 σ W0 29 x := all_cons p35_ok l42_ok
theorem run28 : isTrue (evCall (cxX Tryd.prog bad [] [] [(10, numExtE [(0, 7, .lit 5), (1, 8, .lit 3)]), (17, pureFn [p0]), (6, frameFn [m1]), (29, pureFn l54), (20, frameFn [m40])]) 1000 60 4 [.int .i64 (.var 0), .int .i64 (.var 1)] (sentH 201 7 errTab)) = true := by kernel_rfl
theorem case28 {σ : Nat → Int} {W : World} (hL : laidMetH Tryd.prog laidErrs W) (hk : Known2 σ [] []) (hT : TabOk Tryd.prog bad 10 σ [(0, 7, .lit 5), (1, 8, .lit 3)]) {xs : Array Value} (hv : ∀ ρ, VRs σ ρ [.int .i64 (.var 0), .int .i64 (.var 1)] xs.toList) : Calls Tryd.prog 4 xs W fun e w' => e = .returned (.bool true) ∧ Below W.heap.size W w' := by
  obtain ⟨ads, h1, h2, h3⟩ := errs_sents hL
  exact law_case_x fit h1 h2 h3 errs_all errs_lt (by kernel_rfl) hk (FnsOk.cons (hT.ok fit) (FnsOk.cons (pure_fn_ok (all_cons (p0_ok) (all_nil))) (FnsOk.cons (frame_fn_ok (all_cons (m1_ok) (all_nil))) (FnsOk.cons (pure_fn_ok (l54_ok)) (FnsOk.cons (frame_fn_ok (all_cons (m40_ok) (all_nil))) (FnsOk.nil)))))) hv ⟨_, Tryd.func4, rfl⟩ run28
noncomputable def h50 : H := hUpd h38 1265 [1095] [(54, .map [(.agg [I 2, I 0], .agg [I 0, I 0], 0), (.agg [I 2, I 1], .agg [I 0, I 0], 1), (.agg [I 2, I 2], .agg [I 0, I 0], 2), (.agg [I 2, I 3], .agg [I 0, I 0], 3), (.agg [I 2, I 4], .agg [I 0, I 0], 4), (.agg [I 2, I 5], .agg [I 0, I 0], 5), (.agg [I 2, I 6], .agg [I 0, I 0], 6)] 7),
  (1264, .cells 5 ([[I 2, I 0, I 0, I 0, U 0]]) false)] [(14, 6, [bT, I 0, bF]),
  (16, 5, (I 2) :: (I 6) :: (I 0) :: (I 0) :: (U 0) :: (I 8) :: (I 0) :: (I 0) :: (I 0) :: (U 0) :: rp 4 (I 0) ((U 0) :: rp 4 (I 0) ((U 0) :: rp 4 (I 0) ((U 0) :: rp 4 (I 0) ((U 0) :: rp 4 (I 0) ((U 0) :: rp 4 (I 0) ((U 0) :: rp 4 (I 0) ((U 0) :: rp 4 (I 0) ((U 0) :: rp 4 (I 0) ((U 0) :: rp 4 (I 0) ((U 0) :: rp 4 (I 0) ((U 0) :: rp 4 (I 0) ((U 0) :: rp 4 (I 0) ((U 0) :: rp 4 (I 0) ([U 0]))))))))))))))),
  (53, 0, [IZ (-1), I 30, I 7])]
noncomputable def h51 : H := hUpd h50 2561 [] [(2330, .cells 5 ([[I 2, I 0, I 0, I 0, U 0], [I 2, I 1, I 0, I 0, U 0], [I 8, I 0, I 0, I 0, U 0], [I 2, I 2, I 0, I 0, U 0], [I 2, I 3, I 0, I 0, U 0], [I 2, I 4, I 0, I 0, U 0], [I 2, I 5, I 0, I 5, U 0], [I 2, I 6, I 0, I 5, U 0]]) false)] []
noncomputable def m41 : Memo := ⟨[.ptr 61 0, .slice 1264 0 1 1 5 true], h50, .slice 2330 0 8 8 5 false, h51⟩
noncomputable def l55 : List (List V × V) := p36 :: l43
theorem l55_ok {σ : Nat → Int} {W0 : World} : ∀ x ∈ l55, PureOk Tryd.prog 123 σ W0 29 x := all_cons p36_ok l43_ok
theorem m41_run : ranTo (evCall (cxX Tryd.prog bad [] [] [(29, pureFn l55)]) 1000 60 20 m41.args m41.h) m41.v m41.h' = true := by kernel_rfl
theorem m41_ok {σ : Nat → Int} {W0 : World} : MemoOk Tryd.prog 123 σ W0 20 m41 := memo_ok fit (Known2.nil σ) (FnsOk.cons (pure_fn_ok (l55_ok)) (FnsOk.nil)) m41_run
noncomputable def l56 : List (List V × V) := p35 :: l44
theorem l56_ok {σ : Nat → Int} {W0 : World} : ∀ x ∈ l56, PureOk Tryd.prog 123 σ W0 29 x := all_cons p35_ok l44_ok
theorem run29 : isTrue (evCall (cxX Tryd.prog bad [] [] [(10, numExtE [(0, 7, .lit 5), (1, 8, .lit 4)]), (17, pureFn [p0]), (6, frameFn [m1]), (29, pureFn l56), (20, frameFn [m41])]) 1000 60 4 [.int .i64 (.var 0), .int .i64 (.var 1)] (sentH 201 7 errTab)) = true := by kernel_rfl
theorem case29 {σ : Nat → Int} {W : World} (hL : laidMetH Tryd.prog laidErrs W) (hk : Known2 σ [] []) (hT : TabOk Tryd.prog bad 10 σ [(0, 7, .lit 5), (1, 8, .lit 4)]) {xs : Array Value} (hv : ∀ ρ, VRs σ ρ [.int .i64 (.var 0), .int .i64 (.var 1)] xs.toList) : Calls Tryd.prog 4 xs W fun e w' => e = .returned (.bool true) ∧ Below W.heap.size W w' := by
  obtain ⟨ads, h1, h2, h3⟩ := errs_sents hL
  exact law_case_x fit h1 h2 h3 errs_all errs_lt (by kernel_rfl) hk (FnsOk.cons (hT.ok fit) (FnsOk.cons (pure_fn_ok (all_cons (p0_ok) (all_nil))) (FnsOk.cons (frame_fn_ok (all_cons (m1_ok) (all_nil))) (FnsOk.cons (pure_fn_ok (l56_ok)) (FnsOk.cons (frame_fn_ok (all_cons (m41_ok) (all_nil))) (FnsOk.nil)))))) hv ⟨_, Tryd.func4, rfl⟩ run29
noncomputable def h52 : H := hUpd h40 1265 [1095] [(54, .map [(.agg [I 2, I 0], .agg [I 0, I 0], 0), (.agg [I 2, I 1], .agg [I 0, I 0], 1), (.agg [I 2, I 2], .agg [I 0, I 0], 2), (.agg [I 2, I 3], .agg [I 0, I 0], 3), (.agg [I 2, I 4], .agg [I 0, I 0], 4), (.agg [I 2, I 5], .agg [I 0, I 0], 5), (.agg [I 2, I 6], .agg [I 0, I 0], 6)] 7),
  (1264, .cells 5 ([[I 2, I 0, I 0, I 0, U 0]]) false)] [(14, 6, [bT, I 0, bF]),
  (16, 5, (I 2) :: (I 6) :: (I 0) :: (I 5) :: (U 0) :: (I 8) :: (I 0) :: (I 0) :: (I 0) :: (U 0) :: rp 4 (I 0) ((U 0) :: rp 4 (I 0) ((U 0) :: rp 4 (I 0) ((U 0) :: rp 4 (I 0) ((U 0) :: rp 4 (I 0) ((U 0) :: rp 4 (I 0) ((U 0) :: rp 4 (I 0) ((U 0) :: rp 4 (I 0) ((U 0) :: rp 4 (I 0) ((U 0) :: rp 4 (I 0) ((U 0) :: rp 4 (I 0) ((U 0) :: rp 4 (I 0) ((U 0) :: rp 4 (I 0) ((U 0) :: rp 4 (I 0) ([U 0]))))))))))))))),
  (53, 0, [IZ (-1), I 30, I 7])]
noncomputable def h53 : H := hUpd h52 2542 [] [(2298, .cells 5 ([[I 2, I 0, I 0, I 0, U 0], [I 2, I 1, I 0, I 0, U 0], [I 8, I 0, I 0, I 0, U 0], [I 2, I 2, I 0, I 0, U 0], [I 2, I 3, I 0, I 0, U 0], [I 2, I 4, I 0, I 0, U 0], [I 2, I 5, I 0, I 0, U 0], [I 2, I 6, I 0, I 5, U 0]]) false)] []
noncomputable def m42 : Memo := ⟨[.ptr 61 0, .slice 1264 0 1 1 5 true], h52, .slice 2298 0 8 8 5 false, h53⟩
noncomputable def l57 : List (List V × V) := p36 :: l45
theorem l57_ok {σ : Nat → Int} {W0 : World} : ∀ x ∈ l57, PureOk Tryd.prog 123 σ W0 29 x := all_cons p36_ok l45_ok
theorem m42_run : ranTo (evCall (cxX Tryd.prog bad [] [] [(29, pureFn l57)]) 1000 60 20 m42.args m42.h) m42.v m42.h' = true := by kernel_rfl
theorem m42_ok {σ : Nat → Int} {W0 : World} : MemoOk Tryd.prog 123 σ W0 20 m42 := memo_ok fit (Known2.nil σ) (FnsOk.cons (pure_fn_ok (l57_ok)) (FnsOk.nil)) m42_run
noncomputable def l58 : List (List V × V) := p36 :: l46
theorem l58_ok {σ : Nat → Int} {W0 : World} : ∀ x ∈ l58, PureOk Tryd.prog 123 σ W0 29 x := all_cons p36_ok l46_ok
theorem run30 : isTrue (evCall (cxX Tryd.prog bad [] [] [(10, numExtE [(0, 7, .lit 5), (1, 8, .lit 5)]), (17, pureFn [p0]), (6, frameFn [m1]), (29, pureFn l58), (20, frameFn [m42])]) 1000 60 4 [.int .i64 (.var 0), .int .i64 (.var 1)] (sentH 201 7 errTab)) = true := by kernel_rfl
theorem case30 {σ : Nat → Int} {W : World} (hL : laidMetH Tryd.prog laidErrs W) (hk : Known2 σ [] []) (hT : TabOk Tryd.prog bad 10 σ [(0, 7, .lit 5), (1, 8, .lit 5)]) {xs : Array Value} (hv : ∀ ρ, VRs σ ρ [.int .i64 (.var 0), .int .i64 (.var 1)] xs.toList) : Calls Tryd.prog 4 xs W fun e w' => e = .returned (.bool true) ∧ Below W.heap.size W w' := by
  obtain ⟨ads, h1, h2, h3⟩ := errs_sents hL
  exact law_case_x fit h1 h2 h3 errs_all errs_lt (by kernel_rfl) hk (FnsOk.cons (hT.ok fit) (FnsOk.cons (pure_fn_ok (all_cons (p0_ok) (all_nil))) (FnsOk.cons (frame_fn_ok (all_cons (m1_ok) (all_nil))) (FnsOk.cons (pure_fn_ok (l58_ok)) (FnsOk.cons (frame_fn_ok (all_cons (m42_ok) (all_nil))) (FnsOk.nil)))))) hv ⟨_, Tryd.func4, rfl⟩ run30
noncomputable def h54 : H := hUpd h42 1265 [] [] [(16, 0, (I 2) :: (I 1) :: (I 0) :: (I 0) :: (U 0) :: (I 8) :: (I 0) :: (I 0) :: (I 0) :: (U 0) :: rp 4 (I 0) ((U 0) :: rp 4 (I 0) ((U 0) :: rp 4 (I 0) ((U 0) :: rp 4 (I 0) ((U 0) :: rp 4 (I 0) ((U 0) :: rp 4 (I 0) ((U 0) :: rp 4 (I 0) ((U 0) :: rp 4 (I 0) ((U 0) :: rp 4 (I 0) ((U 0) :: rp 4 (I 0) ((U 0) :: rp 4 (I 0) ((U 0) :: rp 4 (I 0) ((U 0) :: rp 4 (I 0) ((U 0) :: rp 4 (I 0) ([U 0])))))))))))))))]
noncomputable def h55 : H := hUpd h54 2510 [] [(2298, .cells 5 ([[I 2, I 0, I 0, I 0, U 0], [I 2, I 1, I 0, I 0, U 0], [I 8, I 0, I 0, I 0, U 0], [I 2, I 2, I 0, I 0, U 0], [I 2, I 3, I 0, I 0, U 0], [I 2, I 4, I 0, I 0, U 0], [I 2, I 5, I 0, I 0, U 0], [I 2, I 6, I 0, I 0, U 0]]) false)] []
noncomputable def m43 : Memo := ⟨[.ptr 61 0, .slice 1264 0 1 1 5 true], h54, .slice 2298 0 8 8 5 false, h55⟩
noncomputable def l59 : List (List V × V) := p35 :: l45
theorem l59_ok {σ : Nat → Int} {W0 : World} : ∀ x ∈ l59, PureOk Tryd.prog 123 σ W0 29 x := all_cons p35_ok l45_ok
theorem m43_run : ranTo (evCall (cxX Tryd.prog bad [] [] [(29, pureFn l59)]) 1000 60 20 m43.args m43.h) m43.v m43.h' = true := by kernel_rfl
theorem m43_ok {σ : Nat → Int} {W0 : World} : MemoOk Tryd.prog 123 σ W0 20 m43 := memo_ok fit (Known2.nil σ) (FnsOk.cons (pure_fn_ok (l59_ok)) (FnsOk.nil)) m43_run
noncomputable def l60 : List (List V × V) := p35 :: l46
theorem l60_ok {σ : Nat → Int} {W0 : World} : ∀ x ∈ l60, PureOk Tryd.prog 123 σ W0 29 x := all_cons p35_ok l46_ok
theorem run31 : isTrue (evCall (cxX Tryd.prog bad [] [] [(10, numExtE [(0, 7, .lit 5), (1, 8, .lit 6)]), (17, pureFn [p0]), (6, frameFn [m1]), (29, pureFn l60), (20, frameFn [m43])]) 1000 60 4 [.int .i64 (.var 0), .int .i64 (.var 1)] (sentH 201 7 errTab)) = true := by kernel_rfl
theorem case31 {σ : Nat → Int} {W : World} (hL : laidMetH Tryd.prog laidErrs W) (hk : Known2 σ [] []) (hT : TabOk Tryd.prog bad 10 σ [(0, 7, .lit 5), (1, 8, .lit 6)]) {xs : Array Value} (hv : ∀ ρ, VRs σ ρ [.int .i64 (.var 0), .int .i64 (.var 1)] xs.toList) : Calls Tryd.prog 4 xs W fun e w' => e = .returned (.bool true) ∧ Below W.heap.size W w' := by
  obtain ⟨ads, h1, h2, h3⟩ := errs_sents hL
  exact law_case_x fit h1 h2 h3 errs_all errs_lt (by kernel_rfl) hk (FnsOk.cons (hT.ok fit) (FnsOk.cons (pure_fn_ok (all_cons (p0_ok) (all_nil))) (FnsOk.cons (frame_fn_ok (all_cons (m1_ok) (all_nil))) (FnsOk.cons (pure_fn_ok (l60_ok)) (FnsOk.cons (frame_fn_ok (all_cons (m43_ok) (all_nil))) (FnsOk.nil)))))) hv ⟨_, Tryd.func4, rfl⟩ run31
theorem run32 : isTrue (evCall (cxX Tryd.prog bad [] [] [(10, numExtE [(0, 7, .lit 5), (1, 8, .lit 7)]), (17, pureFn [p0]), (6, frameFn [m1]), (29, pureFn l60), (20, frameFn [m43])]) 1000 60 4 [.int .i64 (.var 0), .int .i64 (.var 1)] (sentH 201 7 errTab)) = true := by kernel_rfl
theorem case32 {σ : Nat → Int} {W : World} (hL : laidMetH Tryd.prog laidErrs W) (hk : Known2 σ [] []) (hT : TabOk Tryd.prog bad 10 σ [(0, 7, .lit 5), (1, 8, .lit 7)]) {xs : Array Value} (hv : ∀ ρ, VRs σ ρ [.int .i64 (.var 0), .int .i64 (.var 1)] xs.toList) : Calls Tryd.prog 4 xs W fun e w' => e = .returned (.bool true) ∧ Below W.heap.size W w' := by
  obtain ⟨ads, h1, h2, h3⟩ := errs_sents hL
  exact law_case_x fit h1 h2 h3 errs_all errs_lt (by kernel_rfl) hk (FnsOk.cons (hT.ok fit) (FnsOk.cons (pure_fn_ok (all_cons (p0_ok) (all_nil))) (FnsOk.cons (frame_fn_ok (all_cons (m1_ok) (all_nil))) (FnsOk.cons (pure_fn_ok (l60_ok)) (FnsOk.cons (frame_fn_ok (all_cons (m43_ok) (all_nil))) (FnsOk.nil)))))) hv ⟨_, Tryd.func4, rfl⟩ run32
noncomputable def p44 : List V × V := ([.agg [I 2, I 7, I 0, I 0, U 0]], .inil)
theorem p44_run : ranPure (evCall (cxX Tryd.prog bad [] [] []) 1000 60 29 p44.1 ⟨.lf, farN⟩) p44.2 = true := by kernel_rfl
theorem p44_ok {σ : Nat → Int} {W0 : World} : PureOk Tryd.prog 123 σ W0 29 p44 := pure_ok fit (Known2.nil σ) (FnsOk.nil) p44_run
noncomputable def p45 : List V × V := ([.agg [I 2, I 7, I 0, I 5, U 0]], .inil)
theorem p45_run : ranPure (evCall (cxX Tryd.prog bad [] [] []) 1000 60 29 p45.1 ⟨.lf, farN⟩) p45.2 = true := by kernel_rfl
theorem p45_ok {σ : Nat → Int} {W0 : World} : PureOk Tryd.prog 123 σ W0 29 p45 := pure_ok fit (Known2.nil σ) (FnsOk.nil) p45_run
noncomputable def h56 : H := hUpd h42 1434 [1264] [(54, .map [(.agg [I 2, I 0], .agg [I 0, I 0], 0), (.agg [I 2, I 1], .agg [I 0, I 0], 1), (.agg [I 2, I 2], .agg [I 0, I 0], 2), (.agg [I 2, I 3], .agg [I 0, I 0], 3), (.agg [I 2, I 4], .agg [I 0, I 0], 4), (.agg [I 2, I 5], .agg [I 0, I 0], 5), (.agg [I 2, I 6], .agg [I 0, I 0], 6), (.agg [I 2, I 7], .agg [I 0, I 0], 7)] 8),
  (1433, .cells 5 ([[I 2, I 0, I 0, I 0, U 0]]) false)] [(14, 7, [bT, I 0, bF]),
  (16, 6, (I 2) :: (I 7) :: (I 0) :: (I 0) :: (U 0) :: (I 8) :: (I 0) :: (I 0) :: (I 0) :: (U 0) :: rp 4 (I 0) ((U 0) :: rp 4 (I 0) ((U 0) :: rp 4 (I 0) ((U 0) :: rp 4 (I 0) ((U 0) :: rp 4 (I 0) ((U 0) :: rp 4 (I 0) ((U 0) :: rp 4 (I 0) ((U 0) :: rp 4 (I 0) ((U 0) :: rp 4 (I 0) ((U 0) :: rp 4 (I 0) ((U 0) :: rp 4 (I 0) ((U 0) :: rp 4 (I 0) ((U 0) :: rp 4 (I 0) ((U 0) :: rp 4 (I 0) ([U 0]))))))))))))))),
  (53, 0, [IZ (-1), I 30, I 8])]
noncomputable def h57 : H := hUpd h56 3002 [] [(2771, .cells 5 ([[I 2, I 0, I 0, I 0, U 0], [I 2, I 1, I 0, I 5, U 0], [I 8, I 0, I 0, I 0, U 0], [I 2, I 2, I 0, I 5, U 0], [I 2, I 3, I 0, I 5, U 0], [I 2, I 4, I 0, I 5, U 0], [I 2, I 5, I 0, I 5, U 0], [I 2, I 6, I 0, I 5, U 0], [I 2, I 7, I 0, I 5, U 0]]) false)] []
noncomputable def m46 : Memo := ⟨[.ptr 61 0, .slice 1433 0 1 1 5 true], h56, .slice 2771 0 9 9 5 false, h57⟩
noncomputable def l61 : List (List V × V) := p45 :: l47
theorem l61_ok {σ : Nat → Int} {W0 : World} : ∀ x ∈ l61, PureOk Tryd.prog 123 σ W0 29 x := all_cons p45_ok l47_ok
theorem m46_run : ranTo (evCall (cxX Tryd.prog bad [] [] [(29, pureFn l61)]) 1000 60 20 m46.args m46.h) m46.v m46.h' = true := by kernel_rfl
theorem m46_ok {σ : Nat → Int} {W0 : World} : MemoOk Tryd.prog 123 σ W0 20 m46 := memo_ok fit (Known2.nil σ) (FnsOk.cons (pure_fn_ok (l61_ok)) (FnsOk.nil)) m46_run
noncomputable def l62 : List (List V × V) := p44 :: l48
theorem l62_ok {σ : Nat → Int} {W0 : World} : ∀ x ∈ l62, PureOk Tryd.prog 123 σ W0 29 x := all_cons p44_ok l48_ok
theorem run33 : isTrue (evCall (cxX Tryd.prog bad [] [] [(10, numExtE [(0, 7, .lit 6), (1, 9, .lit 0)]), (17, pureFn [p0]), (6, frameFn [m1]), (29, pureFn l62), (20, frameFn [m46])]) 1000 60 4 [.int .i64 (.var 0), .int .i64 (.var 1)] (sentH 201 7 errTab)) = true := by kernel_rfl
theorem case33 {σ : Nat → Int} {W : World} (hL : laidMetH Tryd.prog laidErrs W) (hk : Known2 σ [] []) (hT : TabOk Tryd.prog bad 10 σ [(0, 7, .lit 6), (1, 9, .lit 0)]) {xs : Array Value} (hv : ∀ ρ, VRs σ ρ [.int .i64 (.var 0), .int .i64 (.var 1)] xs.toList) : Calls Tryd.prog 4 xs W fun e w' => e = .returned (.bool true) ∧ Below W.heap.size W w' := by
  obtain ⟨ads, h1, h2, h3⟩ := errs_sents hL
  exact law_case_x fit h1 h2 h3 errs_all errs_lt (by kernel_rfl) hk (FnsOk.cons (hT.ok fit) (FnsOk.cons (pure_fn_ok (all_cons (p0_ok) (all_nil))) (FnsOk.cons (frame_fn_ok (all_cons (m1_ok) (all_nil))) (FnsOk.cons (pure_fn_ok (l62_ok)) (FnsOk.cons (frame_fn_ok (all_cons (m46_ok) (all_nil))) (FnsOk.nil)))))) hv ⟨_, Tryd.func4, rfl⟩ run33
noncomputable def h58 : H := hUpd h56 1434 [] [] [(16, 0, (I 2) :: (I 1) :: (I 0) :: (I 0) :: (U 0) :: (I 8) :: (I 0) :: (I 0) :: (I 0) :: (U 0) :: rp 4 (I 0) ((U 0) :: rp 4 (I 0) ((U 0) :: rp 4 (I 0) ((U 0) :: rp 4 (I 0) ((U 0) :: rp 4 (I 0) ((U 0) :: rp 4 (I 0) ((U 0) :: rp 4 (I 0) ((U 0) :: rp 4 (I 0) ((U 0) :: rp 4 (I 0) ((U 0) :: rp 4 (I 0) ((U 0) :: rp 4 (I 0) ((U 0) :: rp 4 (I 0) ((U 0) :: rp 4 (I 0) ((U 0) :: rp 4 (I 0) ([U 0]))))))))))))))),
  (16, 1, (I 2) :: (I 2) :: (I 0) :: (I 5) :: (U 0) :: (I 8) :: (I 0) :: (I 0) :: (I 0) :: (U 0) :: rp 4 (I 0) ((U 0) :: rp 4 (I 0) ((U 0) :: rp 4 (I 0) ((U 0) :: rp 4 (I 0) ((U 0) :: rp 4 (I 0) ((U 0) :: rp 4 (I 0) ((U 0) :: rp 4 (I 0) ((U 0) :: rp 4 (I 0) ((U 0) :: rp 4 (I 0) ((U 0) :: rp 4 (I 0) ((U 0) :: rp 4 (I 0) ((U 0) :: rp 4 (I 0) ((U 0) :: rp 4 (I 0) ((U 0) :: rp 4 (I 0) ([U 0])))))))))))))))]
noncomputable def h59 : H := hUpd h58 2983 [] [(2752, .cells 5 ([[I 2, I 0, I 0, I 0, U 0], [I 2, I 1, I 0, I 0, U 0], [I 8, I 0, I 0, I 0, U 0], [I 2, I 2, I 0, I 5, U 0], [I 2, I 3, I 0, I 5, U 0], [I 2, I 4, I 0, I 5, U 0], [I 2, I 5, I 0, I 5, U 0], [I 2, I 6, I 0, I 5, U 0], [I 2, I 7, I 0, I 5, U 0]]) false)] []
noncomputable def m47 : Memo := ⟨[.ptr 61 0, .slice 1433 0 1 1 5 true], h58, .slice 2752 0 9 9 5 false, h59⟩
noncomputable def l63 : List (List V × V) := p45 :: l49
theorem l63_ok {σ : Nat → Int} {W0 : World} : ∀ x ∈ l63, PureOk Tryd.prog 123 σ W0 29 x := all_cons p45_ok l49_ok
theorem m47_run : ranTo (evCall (cxX Tryd.prog bad [] [] [(29, pureFn l63)]) 1000 60 20 m47.args m47.h) m47.v m47.h' = true := by kernel_rfl
theorem m47_ok {σ : Nat → Int} {W0 : World} : MemoOk Tryd.prog 123 σ W0 20 m47 := memo_ok fit (Known2.nil σ) (FnsOk.cons (pure_fn_ok (l63_ok)) (FnsOk.nil)) m47_run
noncomputable def l64 : List (List V × V) := p44 :: l50
theorem l64_ok {σ : Nat → Int} {W0 : World} : ∀ x ∈ l64, PureOk Tryd.prog 123 σ W0 29 x := all_cons p44_ok l50_ok
theorem run34 : isTrue (evCall (cxX Tryd.prog bad [] [] [(10, numExtE [(0, 7, .lit 6), (1, 9, .lit 1)]), (17, pureFn [p0]), (6, frameFn [m1]), (29, pureFn l64), (20, frameFn [m47])]) 1000 60 4 [.int .i64 (.var 0), .int .i64 (.var 1)] (sentH 201 7 errTab)) = true := by kernel_rfl
theorem case34 {σ : Nat → Int} {W : World} (hL : laidMetH Tryd.prog laidErrs W) (hk : Known2 σ [] []) (hT : TabOk Tryd.prog bad 10 σ [(0, 7, .lit 6), (1, 9, .lit 1)]) {xs : Array Value} (hv : ∀ ρ, VRs σ ρ [.int .i64 (.var 0), .int .i64 (.var 1)] xs.toList) : Calls Tryd.prog 4 xs W fun e w' => e = .returned (.bool true) ∧ Below W.heap.size W w' := by
  obtain ⟨ads, h1, h2, h3⟩ := errs_sents hL
  exact law_case_x fit h1 h2 h3 errs_all errs_lt (by kernel_rfl) hk (FnsOk.cons (hT.ok fit) (FnsOk.cons (pure_fn_ok (all_cons (p0_ok) (all_nil))) (FnsOk.cons (frame_fn_ok (all_cons (m1_ok) (all_nil))) (FnsOk.cons (pure_fn_ok (l64_ok)) (FnsOk.cons (frame_fn_ok (all_cons (m47_ok) (all_nil))) (FnsOk.nil)))))) hv ⟨_, Tryd.func4, rfl⟩ run34
noncomputable def h60 : H := hUpd h56 1434 [] [] [(16, 0, (I 2) :: (I 1) :: (I 0) :: (I 0) :: (U 0) :: (I 8) :: (I 0) :: (I 0) :: (I 0) :: (U 0) :: rp 4 (I 0) ((U 0) :: rp 4 (I 0) ((U 0) :: rp 4 (I 0) ((U 0) :: rp 4 (I 0) ((U 0) :: rp 4 (I 0) ((U 0) :: rp 4 (I 0) ((U 0) :: rp 4 (I 0) ((U 0) :: rp 4 (I 0) ((U 0) :: rp 4 (I 0) ((U 0) :: rp 4 (I 0) ((U 0) :: rp 4 (I 0) ((U 0) :: rp 4 (I 0) ((U 0) :: rp 4 (I 0) ((U 0) :: rp 4 (I 0) ([U 0]))))))))))))))),
  (16, 2, (I 2) :: (I 3) :: (I 0) :: (I 5) :: (U 0) :: (I 8) :: (I 0) :: (I 0) :: (I 0) :: (U 0) :: rp 4 (I 0) ((U 0) :: rp 4 (I 0) ((U 0) :: rp 4 (I 0) ((U 0) :: rp 4 (I 0) ((U 0) :: rp 4 (I 0) ((U 0) :: rp 4 (I 0) ((U 0) :: rp 4 (I 0) ((U 0) :: rp 4 (I 0) ((U 0) :: rp 4 (I 0) ((U 0) :: rp 4 (I 0) ((U 0) :: rp 4 (I 0) ((U 0) :: rp 4 (I 0) ((U 0) :: rp 4 (I 0) ((U 0) :: rp 4 (I 0) ([U 0])))))))))))))))]
noncomputable def h61 : H := hUpd h60 2964 [] [(2733, .cells 5 ([[I 2, I 0, I 0, I 0, U 0], [I 2, I 1, I 0, I 0, U 0], [I 8, I 0, I 0, I 0, U 0], [I 2, I 2, I 0, I 0, U 0], [I 2, I 3, I 0, I 5, U 0], [I 2, I 4, I 0, I 5, U 0], [I 2, I 5, I 0, I 5, U 0], [I 2, I 6, I 0, I 5, U 0], [I 2, I 7, I 0, I 5, U 0]]) false)] []
noncomputable def m48 : Memo := ⟨[.ptr 61 0, .slice 1433 0 1 1 5 true], h60, .slice 2733 0 9 9 5 false, h61⟩
noncomputable def l65 : List (List V × V) := p45 :: l51
theorem l65_ok {σ : Nat → Int} {W0 : World} : ∀ x ∈ l65, PureOk Tryd.prog 123 σ W0 29 x := all_cons p45_ok l51_ok
theorem m48_run : ranTo (evCall (cxX Tryd.prog bad [] [] [(29, pureFn l65)]) 1000 60 20 m48.args m48.h) m48.v m48.h' = true := by kernel_rfl
theorem m48_ok {σ : Nat → Int} {W0 : World} : MemoOk Tryd.prog 123 σ W0 20 m48 := memo_ok fit (Known2.nil σ) (FnsOk.cons (pure_fn_ok (l65_ok)) (FnsOk.nil)) m48_run
noncomputable def l66 : List (List V × V) := p44 :: l52
theorem l66_ok {σ : Nat → Int} {W0 : World} : ∀ x ∈ l66, PureOk Tryd.prog 123 σ W0 29 x := all_cons p44_ok l52_ok
theorem run35 : isTrue (evCall (cxX Tryd.prog bad [] [] [(10, numExtE [(0, 7, .lit 6), (1, 9, .lit 2)]), (17, pureFn [p0]), (6, frameFn [m1]), (29, pureFn l66), (20, frameFn [m48])]) 1000 60 4 [.int .i64 (.var 0), .int .i64 (.var 1)] (sentH 201 7 errTab)) = true := by kernel_rfl
theorem case35 {σ : Nat → Int} {W : World} (hL : laidMetH Tryd.prog laidErrs W) (hk : Known2 σ [] []) (hT : TabOk Tryd.prog bad 10 σ [(0, 7, .lit 6), (1, 9, .lit 2)]) {xs : Array Value} (hv : ∀ ρ, VRs σ ρ [.int .i64 (.var 0), .int .i64 (.var 1)] xs.toList) : Calls Tryd.prog 4 xs W fun e w' => e = .returned (.bool true) ∧ Below W.heap.size W w' := by
  obtain ⟨ads, h1, h2, h3⟩ := errs_sents hL
  exact law_case_x fit h1 h2 h3 errs_all errs_lt (by kernel_rfl) hk (FnsOk.cons (hT.ok fit) (FnsOk.cons (pure_fn_ok (all_cons (p0_ok) (all_nil))) (FnsOk.cons (frame_fn_ok (all_cons (m1_ok) (all_nil))) (FnsOk.cons (pure_fn_ok (l66_ok)) (FnsOk.cons (frame_fn_ok (all_cons (m48_ok) (all_nil))) (FnsOk.nil)))))) hv ⟨_, Tryd.func4, rfl⟩ run35
noncomputable def h62 : H := hUpd h56 1434 [] [] [(16, 0, (I 2) :: (I 1) :: (I 0) :: (I 0) :: (U 0) :: (I 8) :: (I 0) :: (I 0) :: (I 0) :: (U 0) :: rp 4 (I 0) ((U 0) :: rp 4 (I 0) ((U 0) :: rp 4 (I 0) ((U 0) :: rp 4 (I 0) ((U 0) :: rp 4 (I 0) ((U 0) :: rp 4 (I 0) ((U 0) :: rp 4 (I 0) ((U 0) :: rp 4 (I 0) ((U 0) :: rp 4 (I 0) ((U 0) :: rp 4 (I 0) ((U 0) :: rp 4 (I 0) ((U 0) :: rp 4 (I 0) ((U 0) :: rp 4 (I 0) ((U 0) :: rp 4 (I 0) ([U 0]))))))))))))))),
  (16, 3, (I 2) :: (I 4) :: (I 0) :: (I 5) :: (U 0) :: (I 8) :: (I 0) :: (I 0) :: (I 0) :: (U 0) :: rp 4 (I 0) ((U 0) :: rp 4 (I 0) ((U 0) :: rp 4 (I 0) ((U 0) :: rp 4 (I 0) ((U 0) :: rp 4 (I 0) ((U 0) :: rp 4 (I 0) ((U 0) :: rp 4 (I 0) ((U 0) :: rp 4 (I 0) ((U 0) :: rp 4 (I 0) ((U 0) :: rp 4 (I 0) ((U 0) :: rp 4 (I 0) ((U 0) :: rp 4 (I 0) ((U 0) :: rp 4 (I 0) ((U 0) :: rp 4 (I 0) ([U 0])))))))))))))))]
noncomputable def h63 : H := hUpd h62 2945 [] [(2714, .cells 5 ([[I 2, I 0, I 0, I 0, U 0], [I 2, I 1, I 0, I 0, U 0], [I 8, I 0, I 0, I 0, U 0], [I 2, I 2, I 0, I 0, U 0], [I 2, I 3, I 0, I 0, U 0], [I 2, I 4, I 0, I 5, U 0], [I 2, I 5, I 0, I 5, U 0], [I 2, I 6, I 0, I 5, U 0], [I 2, I 7, I 0, I 5, U 0]]) false)] []
noncomputable def m49 : Memo := ⟨[.ptr 61 0, .slice 1433 0 1 1 5 true], h62, .slice 2714 0 9 9 5 false, h63⟩
noncomputable def l67 : List (List V × V) := p45 :: l53
theorem l67_ok {σ : Nat → Int} {W0 : World} : ∀ x ∈ l67, PureOk Tryd.prog 123 σ W0 29 x := all_cons p45_ok l53_ok
theorem m49_run : ranTo (evCall (cxX Tryd.prog bad [] [] [(29, pureFn l67)]) 1000 60 20 m49.args m49.h) m49.v m49.h' = true := by kernel_rfl
theorem m49_ok {σ : Nat → Int} {W0 : World} : MemoOk Tryd.prog 123 σ W0 20 m49 := memo_ok fit (Known2.nil σ) (FnsOk.cons (pure_fn_ok (l67_ok)) (FnsOk.nil)) m49_run
noncomputable def l68 : List (List V × V) := p44 :: l54
theorem l68_ok {σ : Nat → Int} {W0 : World} : ∀ x ∈ l68, PureOk Tryd.prog 123 σ W0 29 x := all_cons p44_ok l54_ok
theorem run36 : isTrue (evCall (cxX Tryd.prog bad [] [] [(10, numExtE [(0, 7, .lit 6), (1, 9, .lit 3)]), (17, pureFn [p0]), (6, frameFn [m1]), (29, pureFn l68), (20, frameFn [m49])]) 1000 60 4 [.int .i64 (.var 0), .int .i64 (.var 1)] (sentH 201 7 errTab)) = true := by kernel_rfl
theorem case36 {σ : Nat → Int} {W : World} (hL : laidMetH Tryd.prog laidErrs W) (hk : Known2 σ [] []) (hT : TabOk Tryd.prog bad 10 σ [(0, 7, .lit 6), (1, 9, .lit 3)]) {xs : Array Value} (hv : ∀ ρ, VRs σ ρ [.int .i64 (.var 0), .int .i64 (.var 1)] xs.toList) : Calls Tryd.prog 4 xs W fun e w' => e = .returned (.bool true) ∧ Below W.heap.size W w' := by
  obtain ⟨ads, h1, h2, h3⟩ := errs_sents hL
  exact law_case_x fit h1 h2 h3 errs_all errs_lt (by kernel_rfl) hk (FnsOk.cons (hT.ok fit) (FnsOk.cons (pure_fn_ok (all_cons (p0_ok) (all_nil))) (FnsOk.cons (frame_fn_ok (all_cons (m1_ok) (all_nil))) (FnsOk.cons (pure_fn_ok (l68_ok)) (FnsOk.cons (frame_fn_ok (all_cons (m49_ok) (all_nil))) (FnsOk.nil)))))) hv ⟨_, Tryd.func4, rfl⟩ run36
noncomputable def h64 : H := hUpd h56 1434 [] [] [(16, 0, (I 2) :: (I 1) :: (I 0) :: (I 0) :: (U 0) :: (I 8) :: (I 0) :: (I 0) :: (I 0) :: (U 0) :: rp 4 (I 0) ((U 0) :: rp 4 (I 0) ((U 0) :: rp 4 (I 0) ((U 0) :: rp 4 (I 0) ((U 0) :: rp 4 (I 0) ((U 0) :: rp 4 (I 0) ((U 0) :: rp 4 (I 0) ((U 0) :: rp 4 (I 0) ((U 0) :: rp 4 (I 0) ((U 0) :: rp 4 (I 0) ((U 0) :: rp 4 (I 0) ((U 0) :: rp 4 (I 0) ((U 0) :: rp 4 (I 0) ((U 0) :: rp 4 (I 0) ([U 0]))))))))))))))),
  (16, 4, (I 2) :: (I 5) :: (I 0) :: (I 5) :: (U 0) :: (I 8) :: (I 0) :: (I 0) :: (I 0) :: (U 0) :: rp 4 (I 0) ((U 0) :: rp 4 (I 0) ((U 0) :: rp 4 (I 0) ((U 0) :: rp 4 (I 0) ((U 0) :: rp 4 (I 0) ((U 0) :: rp 4 (I 0) ((U 0) :: rp 4 (I 0) ((U 0) :: rp 4 (I 0) ((U 0) :: rp 4 (I 0) ((U 0) :: rp 4 (I 0) ((U 0) :: rp 4 (I 0) ((U 0) :: rp 4 (I 0) ((U 0) :: rp 4 (I 0) ((U 0) :: rp 4 (I 0) ([U 0])))))))))))))))]
noncomputable def h65 : H := hUpd h64 2926 [] [(2695, .cells 5 ([[I 2, I 0, I 0, I 0, U 0], [I 2, I 1, I 0, I 0, U 0], [I 8, I 0, I 0, I 0, U 0], [I 2, I 2, I 0, I 0, U 0], [I 2, I 3, I 0, I 0, U 0], [I 2, I 4, I 0, I 0, U 0], [I 2, I 5, I 0, I 5, U 0], [I 2, I 6, I 0, I 5, U 0], [I 2, I 7, I 0, I 5, U 0]]) false)] []
noncomputable def m50 : Memo := ⟨[.ptr 61 0, .slice 1433 0 1 1 5 true], h64, .slice 2695 0 9 9 5 false, h65⟩
noncomputable def l69 : List (List V × V) := p45 :: l55
theorem l69_ok {σ : Nat → Int} {W0 : World} : ∀ x ∈ l69, PureOk Tryd.prog 123 σ W0 29 x := all_cons p45_ok l55_ok
theorem m50_run : ranTo (evCall (cxX Tryd.prog bad [] [] [(29, pureFn l69)]) 1000 60 20 m50.args m50.h) m50.v m50.h' = true := by kernel_rfl
theorem m50_ok {σ : Nat → Int} {W0 : World} : MemoOk Tryd.prog 123 σ W0 20 m50 := memo_ok fit (Known2.nil σ) (FnsOk.cons (pure_fn_ok (l69_ok)) (FnsOk.nil)) m50_run
noncomputable def l70 : List (List V × V) := p44 :: l56
theorem l70_ok {σ : Nat → Int} {W0 : World} : ∀ x ∈ l70, PureOk Tryd.prog 123 σ W0 29 x := all_cons p44_ok l56_ok
theorem run37 : isTrue (evCall (cxX Tryd.prog bad [] [] [(10, numExtE [(0, 7, .lit 6), (1, 9, .lit 4)]), (17, pureFn [p0]), (6, frameFn [m1]), (29, pureFn l70), (20, frameFn [m50])]) 1000 60 4 [.int .i64 (.var 0), .int .i64 (.var 1)] (sentH 201 7 errTab)) = true := by kernel_rfl
theorem case37 {σ : Nat → Int} {W : World} (hL : laidMetH Tryd.prog laidErrs W) (hk : Known2 σ [] []) (hT : TabOk Tryd.prog bad 10 σ [(0, 7, .lit 6), (1, 9, .lit 4)]) {xs : Array Value} (hv : ∀ ρ, VRs σ ρ [.int .i64 (.var 0), .int .i64 (.var 1)] xs.toList) : Calls Tryd.prog 4 xs W fun e w' => e = .returned (.bool true) ∧ Below W.heap.size W w' := by
  obtain ⟨ads, h1, h2, h3⟩ := errs_sents hL
  exact law_case_x fit h1 h2 h3 errs_all errs_lt (by kernel_rfl) hk (FnsOk.cons (hT.ok fit) (FnsOk.cons (pure_fn_ok (all_cons (p0_ok) (all_nil))) (FnsOk.cons (frame_fn_ok (all_cons (m1_ok) (all_nil))) (FnsOk.cons (pure_fn_ok (l70_ok)) (FnsOk.cons (frame_fn_ok (all_cons (m50_ok) (all_nil))) (FnsOk.nil)))))) hv ⟨_, Tryd.func4, rfl⟩ run37
noncomputable def h66 : H := hUpd h56 1434 [] [] [(16, 0, (I 2) :: (I 1) :: (I 0) :: (I 0) :: (U 0) :: (I 8) :: (I 0) :: (I 0) :: (I 0) :: (U 0) :: rp 4 (I 0) ((U 0) :: rp 4 (I 0) ((U 0) :: rp 4 (I 0) ((U 0) :: rp 4 (I 0) ((U 0) :: rp 4 (I 0) ((U 0) :: rp 4 (I 0) ((U 0) :: rp 4 (I 0) ((U 0) :: rp 4 (I 0) ((U 0) :: rp 4 (I 0) ((U 0) :: rp 4 (I 0) ((U 0) :: rp 4 (I 0) ((U 0) :: rp 4 (I 0) ((U 0) :: rp 4 (I 0) ((U 0) :: rp 4 (I 0) ([U 0]))))))))))))))),
  (16, 5, (I 2) :: (I 6) :: (I 0) :: (I 5) :: (U 0) :: (I 8) :: (I 0) :: (I 0) :: (I 0) :: (U 0) :: rp 4 (I 0) ((U 0) :: rp 4 (I 0) ((U 0) :: rp 4 (I 0) ((U 0) :: rp 4 (I 0) ((U 0) :: rp 4 (I 0) ((U 0) :: rp 4 (I 0) ((U 0) :: rp 4 (I 0) ((U 0) :: rp 4 (I 0) ((U 0) :: rp 4 (I 0) ((U 0) :: rp 4 (I 0) ((U 0) :: rp 4 (I 0) ((U 0) :: rp 4 (I 0) ((U 0) :: rp 4 (I 0) ((U 0) :: rp 4 (I 0) ([U 0])))))))))))))))]
noncomputable def h67 : H := hUpd h66 2907 [] [(2676, .cells 5 ([[I 2, I 0, I 0, I 0, U 0], [I 2, I 1, I 0, I 0, U 0], [I 8, I 0, I 0, I 0, U 0], [I 2, I 2, I 0, I 0, U 0], [I 2, I 3, I 0, I 0, U 0], [I 2, I 4, I 0, I 0, U 0], [I 2, I 5, I 0, I 0, U 0], [I 2, I 6, I 0, I 5, U 0], [I 2, I 7, I 0, I 5, U 0]]) false)] []
noncomputable def m51 : Memo := ⟨[.ptr 61 0, .slice 1433 0 1 1 5 true], h66, .slice 2676 0 9 9 5 false, h67⟩
noncomputable def l71 : List (List V × V) := p45 :: l57
theorem l71_ok {σ : Nat → Int} {W0 : World} : ∀ x ∈ l71, PureOk Tryd.prog 123 σ W0 29 x := all_cons p45_ok l57_ok
theorem m51_run : ranTo (evCall (cxX Tryd.prog bad [] [] [(29, pureFn l71)]) 1000 60 20 m51.args m51.h) m51.v m51.h' = true := by kernel_rfl
theorem m51_ok {σ : Nat → Int} {W0 : World} : MemoOk Tryd.prog 123 σ W0 20 m51 := memo_ok fit (Known2.nil σ) (FnsOk.cons (pure_fn_ok (l71_ok)) (FnsOk.nil)) m51_run
noncomputable def l72 : List (List V × V) := p44 :: l58
theorem l72_ok {σ : Nat → Int} {W0 : World} : ∀ x ∈ l72, PureOk Tryd.prog 123 σ W0 29 x := all_cons p44_ok l58_ok
theorem run38 : isTrue (evCall (cxX Tryd.prog bad [] [] [(10, numExtE [(0, 7, .lit 6), (1, 9, .lit 5)]), (17, pureFn [p0]), (6, frameFn [m1]), (29, pureFn l72), (20, frameFn [m51])]) 1000 60 4 [.int .i64 (.var 0), .int .i64 (.var 1)] (sentH 201 7 errTab)) = true := by kernel_rfl
theorem case38 {σ : Nat → Int} {W : World} (hL : laidMetH Tryd.prog laidErrs W) (hk : Known2 σ [] []) (hT : TabOk Tryd.prog bad 10 σ [(0, 7, .lit 6), (1, 9, .lit 5)]) {xs : Array Value} (hv : ∀ ρ, VRs σ ρ [.int .i64 (.var 0), .int .i64 (.var 1)] xs.toList) : Calls Tryd.prog 4 xs W fun e w' => e = .returned (.bool true) ∧ Below W.heap.size W w' := by
  obtain ⟨ads, h1, h2, h3⟩ := errs_sents hL
  exact law_case_x fit h1 h2 h3 errs_all errs_lt (by kernel_rfl) hk (FnsOk.cons (hT.ok fit) (FnsOk.cons (pure_fn_ok (all_cons (p0_ok) (all_nil))) (FnsOk.cons (frame_fn_ok (all_cons (m1_ok) (all_nil))) (FnsOk.cons (pure_fn_ok (l72_ok)) (FnsOk.cons (frame_fn_ok (all_cons (m51_ok) (all_nil))) (FnsOk.nil)))))) hv ⟨_, Tryd.func4, rfl⟩ run38
noncomputable def h68 : H := hUpd h56 1434 [] [] [(16, 0, (I 2) :: (I 1) :: (I 0) :: (I 0) :: (U 0) :: (I 8) :: (I 0) :: (I 0) :: (I 0) :: (U 0) :: rp 4 (I 0) ((U 0) :: rp 4 (I 0) ((U 0) :: rp 4 (I 0) ((U 0) :: rp 4 (I 0) ((U 0) :: rp 4 (I 0) ((U 0) :: rp 4 (I 0) ((U 0) :: rp 4 (I 0) ((U 0) :: rp 4 (I 0) ((U 0) :: rp 4 (I 0) ((U 0) :: rp 4 (I 0) ((U 0) :: rp 4 (I 0) ((U 0) :: rp 4 (I 0) ((U 0) :: rp 4 (I 0) ((U 0) :: rp 4 (I 0) ([U 0]))))))))))))))),
  (16, 6, (I 2) :: (I 7) :: (I 0) :: (I 5) :: (U 0) :: (I 8) :: (I 0) :: (I 0) :: (I 0) :: (U 0) :: rp 4 (I 0) ((U 0) :: rp 4 (I 0) ((U 0) :: rp 4 (I 0) ((U 0) :: rp 4 (I 0) ((U 0) :: rp 4 (I 0) ((U 0) :: rp 4 (I 0) ((U 0) :: rp 4 (I 0) ((U 0) :: rp 4 (I 0) ((U 0) :: rp 4 (I 0) ((U 0) :: rp 4 (I 0) ((U 0) :: rp 4 (I 0) ((U 0) :: rp 4 (I 0) ((U 0) :: rp 4 (I 0) ((U 0) :: rp 4 (I 0) ([U 0])))))))))))))))]
noncomputable def h69 : H := hUpd h68 2888 [] [(2644, .cells 5 ([[I 2, I 0, I 0, I 0, U 0], [I 2, I 1, I 0, I 0, U 0], [I 8, I 0, I 0, I 0, U 0], [I 2, I 2, I 0, I 0, U 0], [I 2, I 3, I 0, I 0, U 0], [I 2, I 4, I 0, I 0, U 0], [I 2, I 5, I 0, I 0, U 0], [I 2, I 6, I 0, I 0, U 0], [I 2, I 7, I 0, I 5, U 0]]) false)] []
noncomputable def m52 : Memo := ⟨[.ptr 61 0, .slice 1433 0 1 1 5 true], h68, .slice 2644 0 9 9 5 false, h69⟩
noncomputable def l73 : List (List V × V) := p45 :: l59
theorem l73_ok {σ : Nat → Int} {W0 : World} : ∀ x ∈ l73, PureOk Tryd.prog 123 σ W0 29 x := all_cons p45_ok l59_ok
theorem m52_run : ranTo (evCall (cxX Tryd.prog bad [] [] [(29, pureFn l73)]) 1000 60 20 m52.args m52.h) m52.v m52.h' = true := by kernel_rfl
theorem m52_ok {σ : Nat → Int} {W0 : World} : MemoOk Tryd.prog 123 σ W0 20 m52 := memo_ok fit (Known2.nil σ) (FnsOk.cons (pure_fn_ok (l73_ok)) (FnsOk.nil)) m52_run
noncomputable def l74 : List (List V × V) := p45 :: l60
theorem l74_ok {σ : Nat → Int} {W0 : World} : ∀ x ∈ l74, PureOk Tryd.prog 123 σ W0 29 x := all_cons p45_ok l60_ok
theorem run39 : isTrue (evCall (cxX Tryd.prog bad [] [] [(10, numExtE [(0, 7, .lit 6), (1, 9, .lit 6)]), (17, pureFn [p0]), (6, frameFn [m1]), (29, pureFn l74), (20, frameFn [m52])]) 1000 60 4 [.int .i64 (.var 0), .int .i64 (.var 1)] (sentH 201 7 errTab)) = true := by kernel_rfl
theorem case39 {σ : Nat → Int} {W : World} (hL : laidMetH Tryd.prog laidErrs W) (hk : Known2 σ [] []) (hT : TabOk Tryd.prog bad 10 σ [(0, 7, .lit 6), (1, 9, .lit 6)]) {xs : Array Value} (hv : ∀ ρ, VRs σ ρ [.int .i64 (.var 0), .int .i64 (.var 1)] xs.toList) : Calls Tryd.prog 4 xs W fun e w' => e = .returned (.bool true) ∧ Below W.heap.size W w' := by
  obtain ⟨ads, h1, h2, h3⟩ := errs_sents hL
  exact law_case_x fit h1 h2 h3 errs_all errs_lt (by kernel_rfl) hk (FnsOk.cons (hT.ok fit) (FnsOk.cons (pure_fn_ok (all_cons (p0_ok) (all_nil))) (FnsOk.cons (frame_fn_ok (all_cons (m1_ok) (all_nil))) (FnsOk.cons (pure_fn_ok (l74_ok)) (FnsOk.cons (frame_fn_ok (all_cons (m52_ok) (all_nil))) (FnsOk.nil)))))) hv ⟨_, Tryd.func4, rfl⟩ run39
noncomputable def h70 : H := hUpd h56 1434 [] [] [(16, 0, (I 2) :: (I 1) :: (I 0) :: (I 0) :: (U 0) :: (I 8) :: (I 0) :: (I 0) :: (I 0) :: (U 0) :: rp 4 (I 0) ((U 0) :: rp 4 (I 0) ((U 0) :: rp 4 (I 0) ((U 0) :: rp 4 (I 0) ((U 0) :: rp 4 (I 0) ((U 0) :: rp 4 (I 0) ((U 0) :: rp 4 (I 0) ((U 0) :: rp 4 (I 0) ((U 0) :: rp 4 (I 0) ((U 0) :: rp 4 (I 0) ((U 0) :: rp 4 (I 0) ((U 0) :: rp 4 (I 0) ((U 0) :: rp 4 (I 0) ((U 0) :: rp 4 (I 0) ([U 0])))))))))))))))]
noncomputable def h71 : H := hUpd h70 2856 [] [(2644, .cells 5 ([[I 2, I 0, I 0, I 0, U 0], [I 2, I 1, I 0, I 0, U 0], [I 8, I 0, I 0, I 0, U 0], [I 2, I 2, I 0, I 0, U 0], [I 2, I 3, I 0, I 0, U 0], [I 2, I 4, I 0, I 0, U 0], [I 2, I 5, I 0, I 0, U 0], [I 2, I 6, I 0, I 0, U 0], [I 2, I 7, I 0, I 0, U 0]]) false)] []
noncomputable def m53 : Memo := ⟨[.ptr 61 0, .slice 1433 0 1 1 5 true], h70, .slice 2644 0 9 9 5 false, h71⟩
noncomputable def l75 : List (List V × V) := p44 :: l59
theorem l75_ok {σ : Nat → Int} {W0 : World} : ∀ x ∈ l75, PureOk Tryd.prog 123 σ W0 29 x := all_cons p44_ok l59_ok
theorem m53_run : ranTo (evCall (cxX Tryd.prog bad [] [] [(29, pureFn l75)]) 1000 60 20 m53.args m53.h) m53.v m53.h' = true := by kernel_rfl
theorem m53_ok {σ : Nat → Int} {W0 : World} : MemoOk Tryd.prog 123 σ W0 20 m53 := memo_ok fit (Known2.nil σ) (FnsOk.cons (pure_fn_ok (l75_ok)) (FnsOk.nil)) m53_run
noncomputable def l76 : List (List V × V) := p44 :: l60
theorem l76_ok {σ : Nat → Int} {W0 : World} : ∀ x ∈ l76, PureOk Tryd.prog 123 σ W0 29 x := all_cons p44_ok l60_ok
theorem run40 : isTrue (evCall (cxX Tryd.prog bad [] [] [(10, numExtE [(0, 7, .lit 6), (1, 9, .lit 7)]), (17, pureFn [p0]), (6, frameFn [m1]), (29, pureFn l76), (20, frameFn [m53])]) 1000 60 4 [.int .i64 (.var 0), .int .i64 (.var 1)] (sentH 201 7 errTab)) = true := by kernel_rfl
theorem case40 {σ : Nat → Int} {W : World} (hL : laidMetH Tryd.prog laidErrs W) (hk : Known2 σ [] []) (hT : TabOk Tryd.prog bad 10 σ [(0, 7, .lit 6), (1, 9, .lit 7)]) {xs : Array Value} (hv : ∀ ρ, VRs σ ρ [.int .i64 (.var 0), .int .i64 (.var 1)] xs.toList) : Calls Tryd.prog 4 xs W fun e w' => e = .returned (.bool true) ∧ Below W.heap.size W w' := by
  obtain ⟨ads, h1, h2, h3⟩ := errs_sents hL
  exact law_case_x fit h1 h2 h3 errs_all errs_lt (by kernel_rfl) hk (FnsOk.cons (hT.ok fit) (FnsOk.cons (pure_fn_ok (all_cons (p0_ok) (all_nil))) (FnsOk.cons (frame_fn_ok (all_cons (m1_ok) (all_nil))) (FnsOk.cons (pure_fn_ok (l76_ok)) (FnsOk.cons (frame_fn_ok (all_cons (m53_ok) (all_nil))) (FnsOk.nil)))))) hv ⟨_, Tryd.func4, rfl⟩ run40
theorem run41 : isTrue (evCall (cxX Tryd.prog bad [] [] [(10, numExtE [(0, 7, .lit 6), (1, 9, .lit 8)]), (17, pureFn [p0]), (6, frameFn [m1]), (29, pureFn l76), (20, frameFn [m53])]) 1000 60 4 [.int .i64 (.var 0), .int .i64 (.var 1)] (sentH 201 7 errTab)) = true := by kernel_rfl
theorem case41 {σ : Nat → Int} {W : World} (hL : laidMetH Tryd.prog laidErrs W) (hk : Known2 σ [] []) (hT : TabOk Tryd.prog bad 10 σ [(0, 7, .lit 6), (1, 9, .lit 8)]) {xs : Array Value} (hv : ∀ ρ, VRs σ ρ [.int .i64 (.var 0), .int .i64 (.var 1)] xs.toList) : Calls Tryd.prog 4 xs W fun e w' => e = .returned (.bool true) ∧ Below W.heap.size W w' := by
  obtain ⟨ads, h1, h2, h3⟩ := errs_sents hL
  exact law_case_x fit h1 h2 h3 errs_all errs_lt (by kernel_rfl) hk (FnsOk.cons (hT.ok fit) (FnsOk.cons (pure_fn_ok (all_cons (p0_ok) (all_nil))) (FnsOk.cons (frame_fn_ok (all_cons (m1_ok) (all_nil))) (FnsOk.cons (pure_fn_ok (l76_ok)) (FnsOk.cons (frame_fn_ok (all_cons (m53_ok) (all_nil))) (FnsOk.nil)))))) hv ⟨_, Tryd.func4, rfl⟩ run41
end Go.Proofs.YtflipohebkkkbabDoor.graphReaches
