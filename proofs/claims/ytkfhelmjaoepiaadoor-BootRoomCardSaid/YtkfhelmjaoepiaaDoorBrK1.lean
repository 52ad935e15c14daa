/- bootRoom: calls that are run once, and the runs of the cases (part 1). -/
import Derived.Test.YtkfhelmjaoepiaaDoorBrK0
set_option linter.unusedVariables false
set_option maxRecDepth 10000000
namespace Go.Proofs.YtkfhelmjaoepiaaDoor.bootRoom
open Tk
open Go.RowKit
theorem run92 : isTrue (evCall (cxX Tryd.prog bad [] [] ((6, numExtE [(0, 10, .lit 5), (1, 60, .lit 12)]) :: (21, frameFn l9) :: q40)) 1000 60 3 [.int .i64 (.var 0), .int .i64 (.var 1), .int .i64 (.var 2)] (sentH 240 18 errTab)) = true := by kernel_rfl
theorem case92 {σ : Nat → Int} {W : World} (hL : L0 W) (hk : Known2 σ [] []) (hT : TabOk Tryd.prog bad 6 σ [(0, 10, .lit 5), (1, 60, .lit 12)]) {xs : Array Value} (hv : ∀ ρ, VRs σ ρ [.int .i64 (.var 0), .int .i64 (.var 1), .int .i64 (.var 2)] xs.toList) : Calls Tryd.prog 3 xs W fun e w' => e = .returned (.bool true) ∧ Below W.heap.size W w' := by
  obtain ⟨ads, h1, h2, h3⟩ := errs_sents hL
  exact law_case_x fit h1 h2 h3 errs_all errs_lt (by kernel_rfl) hk (FnsOk.cons (hT.ok fit) (FnsOk.cons (frame_fn_ok (l9_ok hL)) ((q40_ok hL)))) hv ⟨_, Tryd.func3, rfl⟩ run92
theorem run93 : isTrue (evCall (cxX Tryd.prog bad [] [] ((6, numExtE [(0, 10, .lit 5), (1, 60, .lit 13)]) :: (21, frameFn l10) :: q40)) 1000 60 3 [.int .i64 (.var 0), .int .i64 (.var 1), .int .i64 (.var 2)] (sentH 240 18 errTab)) = true := by kernel_rfl
theorem case93 {σ : Nat → Int} {W : World} (hL : L0 W) (hk : Known2 σ [] []) (hT : TabOk Tryd.prog bad 6 σ [(0, 10, .lit 5), (1, 60, .lit 13)]) {xs : Array Value} (hv : ∀ ρ, VRs σ ρ [.int .i64 (.var 0), .int .i64 (.var 1), .int .i64 (.var 2)] xs.toList) : Calls Tryd.prog 3 xs W fun e w' => e = .returned (.bool true) ∧ Below W.heap.size W w' := by
  obtain ⟨ads, h1, h2, h3⟩ := errs_sents hL
  exact law_case_x fit h1 h2 h3 errs_all errs_lt (by kernel_rfl) hk (FnsOk.cons (hT.ok fit) (FnsOk.cons (frame_fn_ok (l10_ok hL)) ((q40_ok hL)))) hv ⟨_, Tryd.func3, rfl⟩ run93
theorem run94 : isTrue (evCall (cxX Tryd.prog bad [] [] ((6, numExtE [(0, 10, .lit 5), (1, 60, .lit 14)]) :: (21, frameFn l11) :: q40)) 1000 60 3 [.int .i64 (.var 0), .int .i64 (.var 1), .int .i64 (.var 2)] (sentH 240 18 errTab)) = true := by kernel_rfl
theorem case94 {σ : Nat → Int} {W : World} (hL : L0 W) (hk : Known2 σ [] []) (hT : TabOk Tryd.prog bad 6 σ [(0, 10, .lit 5), (1, 60, .lit 14)]) {xs : Array Value} (hv : ∀ ρ, VRs σ ρ [.int .i64 (.var 0), .int .i64 (.var 1), .int .i64 (.var 2)] xs.toList) : Calls Tryd.prog 3 xs W fun e w' => e = .returned (.bool true) ∧ Below W.heap.size W w' := by
  obtain ⟨ads, h1, h2, h3⟩ := errs_sents hL
  exact law_case_x fit h1 h2 h3 errs_all errs_lt (by kernel_rfl) hk (FnsOk.cons (hT.ok fit) (FnsOk.cons (frame_fn_ok (l11_ok hL)) ((q40_ok hL)))) hv ⟨_, Tryd.func3, rfl⟩ run94
theorem run95 : isTrue (evCall (cxX Tryd.prog bad [] [] ((6, numExtE [(0, 10, .lit 5), (1, 60, .lit 15)]) :: (21, frameFn l12) :: q40)) 1000 60 3 [.int .i64 (.var 0), .int .i64 (.var 1), .int .i64 (.var 2)] (sentH 240 18 errTab)) = true := by kernel_rfl
theorem case95 {σ : Nat → Int} {W : World} (hL : L0 W) (hk : Known2 σ [] []) (hT : TabOk Tryd.prog bad 6 σ [(0, 10, .lit 5), (1, 60, .lit 15)]) {xs : Array Value} (hv : ∀ ρ, VRs σ ρ [.int .i64 (.var 0), .int .i64 (.var 1), .int .i64 (.var 2)] xs.toList) : Calls Tryd.prog 3 xs W fun e w' => e = .returned (.bool true) ∧ Below W.heap.size W w' := by
  obtain ⟨ads, h1, h2, h3⟩ := errs_sents hL
  exact law_case_x fit h1 h2 h3 errs_all errs_lt (by kernel_rfl) hk (FnsOk.cons (hT.ok fit) (FnsOk.cons (frame_fn_ok (l12_ok hL)) ((q40_ok hL)))) hv ⟨_, Tryd.func3, rfl⟩ run95
theorem run96 : isTrue (evCall (cxX Tryd.prog bad [] [] ((6, numExtE [(0, 10, .lit 5), (1, 60, .lit 16)]) :: (21, frameFn l16) :: q40)) 1000 60 3 [.int .i64 (.var 0), .int .i64 (.var 1), .int .i64 (.var 2)] (sentH 240 18 errTab)) = true := by kernel_rfl
theorem case96 {σ : Nat → Int} {W : World} (hL : L0 W) (hk : Known2 σ [] []) (hT : TabOk Tryd.prog bad 6 σ [(0, 10, .lit 5), (1, 60, .lit 16)]) {xs : Array Value} (hv : ∀ ρ, VRs σ ρ [.int .i64 (.var 0), .int .i64 (.var 1), .int .i64 (.var 2)] xs.toList) : Calls Tryd.prog 3 xs W fun e w' => e = .returned (.bool true) ∧ Below W.heap.size W w' := by
  obtain ⟨ads, h1, h2, h3⟩ := errs_sents hL
  exact law_case_x fit h1 h2 h3 errs_all errs_lt (by kernel_rfl) hk (FnsOk.cons (hT.ok fit) (FnsOk.cons (frame_fn_ok (l16_ok hL)) ((q40_ok hL)))) hv ⟨_, Tryd.func3, rfl⟩ run96
theorem run97 : isTrue (evCall (cxX Tryd.prog bad [] [] ((6, numExtE [(0, 10, .lit 5), (1, 60, .lit 17)]) :: (21, frameFn l17) :: q40)) 1000 60 3 [.int .i64 (.var 0), .int .i64 (.var 1), .int .i64 (.var 2)] (sentH 240 18 errTab)) = true := by kernel_rfl
theorem case97 {σ : Nat → Int} {W : World} (hL : L0 W) (hk : Known2 σ [] []) (hT : TabOk Tryd.prog bad 6 σ [(0, 10, .lit 5), (1, 60, .lit 17)]) {xs : Array Value} (hv : ∀ ρ, VRs σ ρ [.int .i64 (.var 0), .int .i64 (.var 1), .int .i64 (.var 2)] xs.toList) : Calls Tryd.prog 3 xs W fun e w' => e = .returned (.bool true) ∧ Below W.heap.size W w' := by
  obtain ⟨ads, h1, h2, h3⟩ := errs_sents hL
  exact law_case_x fit h1 h2 h3 errs_all errs_lt (by kernel_rfl) hk (FnsOk.cons (hT.ok fit) (FnsOk.cons (frame_fn_ok (l17_ok hL)) ((q40_ok hL)))) hv ⟨_, Tryd.func3, rfl⟩ run97
theorem run98 : isTrue (evCall (cxX Tryd.prog bad [] [] ((6, numExtE [(0, 10, .lit 5), (1, 60, .lit 18)]) :: (21, frameFn l18) :: q40)) 1000 60 3 [.int .i64 (.var 0), .int .i64 (.var 1), .int .i64 (.var 2)] (sentH 240 18 errTab)) = true := by kernel_rfl
theorem case98 {σ : Nat → Int} {W : World} (hL : L0 W) (hk : Known2 σ [] []) (hT : TabOk Tryd.prog bad 6 σ [(0, 10, .lit 5), (1, 60, .lit 18)]) {xs : Array Value} (hv : ∀ ρ, VRs σ ρ [.int .i64 (.var 0), .int .i64 (.var 1), .int .i64 (.var 2)] xs.toList) : Calls Tryd.prog 3 xs W fun e w' => e = .returned (.bool true) ∧ Below W.heap.size W w' := by
  obtain ⟨ads, h1, h2, h3⟩ := errs_sents hL
  exact law_case_x fit h1 h2 h3 errs_all errs_lt (by kernel_rfl) hk (FnsOk.cons (hT.ok fit) (FnsOk.cons (frame_fn_ok (l18_ok hL)) ((q40_ok hL)))) hv ⟨_, Tryd.func3, rfl⟩ run98
theorem run99 : isTrue (evCall (cxX Tryd.prog bad [] [] ((6, numExtE [(0, 10, .lit 5), (1, 60, .lit 19)]) :: (21, frameFn l19) :: q40)) 1000 60 3 [.int .i64 (.var 0), .int .i64 (.var 1), .int .i64 (.var 2)] (sentH 240 18 errTab)) = true := by kernel_rfl
theorem case99 {σ : Nat → Int} {W : World} (hL : L0 W) (hk : Known2 σ [] []) (hT : TabOk Tryd.prog bad 6 σ [(0, 10, .lit 5), (1, 60, .lit 19)]) {xs : Array Value} (hv : ∀ ρ, VRs σ ρ [.int .i64 (.var 0), .int .i64 (.var 1), .int .i64 (.var 2)] xs.toList) : Calls Tryd.prog 3 xs W fun e w' => e = .returned (.bool true) ∧ Below W.heap.size W w' := by
  obtain ⟨ads, h1, h2, h3⟩ := errs_sents hL
  exact law_case_x fit h1 h2 h3 errs_all errs_lt (by kernel_rfl) hk (FnsOk.cons (hT.ok fit) (FnsOk.cons (frame_fn_ok (l19_ok hL)) ((q40_ok hL)))) hv ⟨_, Tryd.func3, rfl⟩ run99
noncomputable def h168 : H := hUpd h129 343 [] [] [(303, 0, [IZ (-1), I 20, I 0])]
noncomputable def h169 : H := hUpd h130 818 [] [] [(303, 0, [IZ (-1), I 20, I 4])]
noncomputable def m128 : Memo := ⟨[.ptr 311 0, .agg [.slice 30 0 1 1 1 true, I 1, .snil, bF]], h168, .tuple [I 0, .inil], h169⟩
theorem m128_run : ranTo (evCall (cxX Tryd.prog bad [] [] ((44, pureFn l0) :: q0)) 1000 60 21 m128.args m128.h) m128.v m128.h' = true := by kernel_rfl
theorem m128_ok {σ : Nat → Int} {W0 : World} (hL : L0 W0) : MemoOk Tryd.prog 4095 σ W0 21 m128 := memo_ok fit (Known2.nil σ) (FnsOk.cons (pure_fn_ok (l0_ok hL)) ((q0_ok hL))) m128_run
noncomputable def h170 : H := hUpd h131 821 [] [] [(303, 0, [IZ (-1), I 20, I 4])]
noncomputable def h171 : H := hUpd h132 1296 [] [] [(303, 0, [IZ (-1), I 20, I 8])]
noncomputable def m129 : Memo := ⟨[.ptr 311 0, .agg [.slice 33 0 1 1 1 true, I 1, .snil, bF]], h170, .tuple [I 1, .inil], h171⟩
theorem m129_run : ranTo (evCall (cxX Tryd.prog bad [] [] ((44, pureFn l3) :: q0)) 1000 60 21 m129.args m129.h) m129.v m129.h' = true := by kernel_rfl
theorem m129_ok {σ : Nat → Int} {W0 : World} (hL : L0 W0) : MemoOk Tryd.prog 4095 σ W0 21 m129 := memo_ok fit (Known2.nil σ) (FnsOk.cons (pure_fn_ok (l3_ok hL)) ((q0_ok hL))) m129_run
noncomputable def h172 : H := hUpd h133 1299 [] [] [(303, 0, [IZ (-1), I 20, I 8])]
noncomputable def h173 : H := hUpd h134 1774 [] [] [(303, 0, [IZ (-1), I 20, I 12])]
noncomputable def m130 : Memo := ⟨[.ptr 311 0, .agg [.slice 36 0 1 1 1 true, I 1, .snil, bF]], h172, .tuple [I 2, .inil], h173⟩
theorem m130_run : ranTo (evCall (cxX Tryd.prog bad [] [] ((44, pureFn l6) :: q0)) 1000 60 21 m130.args m130.h) m130.v m130.h' = true := by kernel_rfl
theorem m130_ok {σ : Nat → Int} {W0 : World} (hL : L0 W0) : MemoOk Tryd.prog 4095 σ W0 21 m130 := memo_ok fit (Known2.nil σ) (FnsOk.cons (pure_fn_ok (l6_ok hL)) ((q0_ok hL))) m130_run
noncomputable def h174 : H := hUpd h135 1777 [] [] [(303, 0, [IZ (-1), I 20, I 12])]
noncomputable def h175 : H := hUpd h136 2252 [] [] [(303, 0, [IZ (-1), I 20, I 16])]
noncomputable def m131 : Memo := ⟨[.ptr 311 0, .agg [.slice 39 0 1 1 1 true, I 1, .snil, bF]], h174, .tuple [I 3, .inil], h175⟩
theorem m131_run : ranTo (evCall (cxX Tryd.prog bad [] [] ((44, pureFn l13) :: q0)) 1000 60 21 m131.args m131.h) m131.v m131.h' = true := by kernel_rfl
theorem m131_ok {σ : Nat → Int} {W0 : World} (hL : L0 W0) : MemoOk Tryd.prog 4095 σ W0 21 m131 := memo_ok fit (Known2.nil σ) (FnsOk.cons (pure_fn_ok (l13_ok hL)) ((q0_ok hL))) m131_run
noncomputable def h176 : H := hUpd h137 2255 [] [] [(303, 0, [IZ (-1), I 20, I 16])]
noncomputable def h177 : H := hUpd h160 2730 [] [] [(303, 0, [IZ (-1), I 20, I 20])]
noncomputable def m132 : Memo := ⟨[.ptr 311 0, .agg [.slice 42 0 1 1 1 true, I 1, .snil, bF]], h176, .tuple [I 4, .inil], h177⟩
theorem m132_run : ranTo (evCall (cxX Tryd.prog bad [] [] ((44, pureFn l20) :: q0)) 1000 60 21 m132.args m132.h) m132.v m132.h' = true := by kernel_rfl
theorem m132_ok {σ : Nat → Int} {W0 : World} (hL : L0 W0) : MemoOk Tryd.prog 4095 σ W0 21 m132 := memo_ok fit (Known2.nil σ) (FnsOk.cons (pure_fn_ok (l20_ok hL)) ((q0_ok hL))) m132_run
noncomputable def h178 : H := hUpd h177 2733 [42] [(45, .cells 1 ([[U 5]]) false)] []
noncomputable def h179 : H := hUpd h178 2764 [] [] []
noncomputable def m133 : Memo := ⟨[.ptr 311 0, .agg [.slice 45 0 1 1 1 true, I 1, .snil, bF]], h178, .tuple [I 0, .iface 240 (.ptr 24 0)], h179⟩
theorem m133_run : ranTo (evCall (cxX Tryd.prog bad [] [] q0) 1000 60 21 m133.args m133.h) m133.v m133.h' = true := by kernel_rfl
theorem m133_ok {σ : Nat → Int} {W0 : World} (hL : L0 W0) : MemoOk Tryd.prog 4095 σ W0 21 m133 := memo_ok fit (Known2.nil σ) ((q0_ok hL)) m133_run
noncomputable def l23 : List (Memo) := m133 :: m132 :: m131 :: m130 :: m129 :: m128 :: []
theorem l23_ok {σ : Nat → Int} {W0 : World} (hL : L0 W0) : ∀ x ∈ l23, MemoOk Tryd.prog 4095 σ W0 21 x := all_cons (m133_ok hL) (all_cons (m132_ok hL) (all_cons (m131_ok hL) (all_cons (m130_ok hL) (all_cons (m129_ok hL) (all_cons (m128_ok hL) (all_nil))))))
theorem run100 : isTrue (evCall (cxX Tryd.prog bad [] [] ((6, numExtE [(0, 10, .lit 5), (1, 60, .lit 20)]) :: (21, frameFn l23) :: q40)) 1000 60 3 [.int .i64 (.var 0), .int .i64 (.var 1), .int .i64 (.var 2)] (sentH 240 18 errTab)) = true := by kernel_rfl
theorem case100 {σ : Nat → Int} {W : World} (hL : L0 W) (hk : Known2 σ [] []) (hT : TabOk Tryd.prog bad 6 σ [(0, 10, .lit 5), (1, 60, .lit 20)]) {xs : Array Value} (hv : ∀ ρ, VRs σ ρ [.int .i64 (.var 0), .int .i64 (.var 1), .int .i64 (.var 2)] xs.toList) : Calls Tryd.prog 3 xs W fun e w' => e = .returned (.bool true) ∧ Below W.heap.size W w' := by
  obtain ⟨ads, h1, h2, h3⟩ := errs_sents hL
  exact law_case_x fit h1 h2 h3 errs_all errs_lt (by kernel_rfl) hk (FnsOk.cons (hT.ok fit) (FnsOk.cons (frame_fn_ok (l23_ok hL)) ((q40_ok hL)))) hv ⟨_, Tryd.func3, rfl⟩ run100
noncomputable def h180 : H := hUpd h149 343 [] [] [(303, 0, [IZ (-1), I 21, I 0])]
noncomputable def h181 : H := hUpd h150 818 [] [] [(303, 0, [IZ (-1), I 21, I 4])]
noncomputable def m134 : Memo := ⟨[.ptr 311 0, .agg [.slice 30 0 1 1 1 true, I 1, .snil, bF]], h180, .tuple [I 0, .inil], h181⟩
theorem m134_run : ranTo (evCall (cxX Tryd.prog bad [] [] ((44, pureFn l0) :: q0)) 1000 60 21 m134.args m134.h) m134.v m134.h' = true := by kernel_rfl
theorem m134_ok {σ : Nat → Int} {W0 : World} (hL : L0 W0) : MemoOk Tryd.prog 4095 σ W0 21 m134 := memo_ok fit (Known2.nil σ) (FnsOk.cons (pure_fn_ok (l0_ok hL)) ((q0_ok hL))) m134_run
noncomputable def h182 : H := hUpd h151 821 [] [] [(303, 0, [IZ (-1), I 21, I 4])]
noncomputable def h183 : H := hUpd h152 1296 [] [] [(303, 0, [IZ (-1), I 21, I 8])]
noncomputable def m135 : Memo := ⟨[.ptr 311 0, .agg [.slice 33 0 1 1 1 true, I 1, .snil, bF]], h182, .tuple [I 1, .inil], h183⟩
theorem m135_run : ranTo (evCall (cxX Tryd.prog bad [] [] ((44, pureFn l3) :: q0)) 1000 60 21 m135.args m135.h) m135.v m135.h' = true := by kernel_rfl
theorem m135_ok {σ : Nat → Int} {W0 : World} (hL : L0 W0) : MemoOk Tryd.prog 4095 σ W0 21 m135 := memo_ok fit (Known2.nil σ) (FnsOk.cons (pure_fn_ok (l3_ok hL)) ((q0_ok hL))) m135_run
noncomputable def h184 : H := hUpd h153 1299 [] [] [(303, 0, [IZ (-1), I 21, I 8])]
noncomputable def h185 : H := hUpd h154 1774 [] [] [(303, 0, [IZ (-1), I 21, I 12])]
noncomputable def m136 : Memo := ⟨[.ptr 311 0, .agg [.slice 36 0 1 1 1 true, I 1, .snil, bF]], h184, .tuple [I 2, .inil], h185⟩
theorem m136_run : ranTo (evCall (cxX Tryd.prog bad [] [] ((44, pureFn l6) :: q0)) 1000 60 21 m136.args m136.h) m136.v m136.h' = true := by kernel_rfl
theorem m136_ok {σ : Nat → Int} {W0 : World} (hL : L0 W0) : MemoOk Tryd.prog 4095 σ W0 21 m136 := memo_ok fit (Known2.nil σ) (FnsOk.cons (pure_fn_ok (l6_ok hL)) ((q0_ok hL))) m136_run
noncomputable def h186 : H := hUpd h155 1777 [] [] [(303, 0, [IZ (-1), I 21, I 12])]
noncomputable def h187 : H := hUpd h156 2252 [] [] [(303, 0, [IZ (-1), I 21, I 16])]
noncomputable def m137 : Memo := ⟨[.ptr 311 0, .agg [.slice 39 0 1 1 1 true, I 1, .snil, bF]], h186, .tuple [I 3, .inil], h187⟩
theorem m137_run : ranTo (evCall (cxX Tryd.prog bad [] [] ((44, pureFn l13) :: q0)) 1000 60 21 m137.args m137.h) m137.v m137.h' = true := by kernel_rfl
theorem m137_ok {σ : Nat → Int} {W0 : World} (hL : L0 W0) : MemoOk Tryd.prog 4095 σ W0 21 m137 := memo_ok fit (Known2.nil σ) (FnsOk.cons (pure_fn_ok (l13_ok hL)) ((q0_ok hL))) m137_run
noncomputable def h188 : H := hUpd h157 2255 [] [] [(303, 0, [IZ (-1), I 21, I 16])]
noncomputable def h189 : H := hUpd h160 2730 [] [] [(303, 0, [IZ (-1), I 21, I 20])]
noncomputable def m138 : Memo := ⟨[.ptr 311 0, .agg [.slice 42 0 1 1 1 true, I 1, .snil, bF]], h188, .tuple [I 4, .inil], h189⟩
theorem m138_run : ranTo (evCall (cxX Tryd.prog bad [] [] ((44, pureFn l20) :: q0)) 1000 60 21 m138.args m138.h) m138.v m138.h' = true := by kernel_rfl
theorem m138_ok {σ : Nat → Int} {W0 : World} (hL : L0 W0) : MemoOk Tryd.prog 4095 σ W0 21 m138 := memo_ok fit (Known2.nil σ) (FnsOk.cons (pure_fn_ok (l20_ok hL)) ((q0_ok hL))) m138_run
noncomputable def h190 : H := hUpd h178 2733 [] [] [(303, 0, [IZ (-1), I 21, I 20])]
noncomputable def h191 : H := hUpc h178 2827 [] [(304, .map [(.agg [I 3, I 0], .agg [I 0, I 0], 0), (.agg [I 3, I 1], .agg [I 0, I 0], 1), (.agg [I 2, I 0], .agg [I 0, I 0], 2), (.agg [I 4, I 0], .agg [I 0, I 0], 3), (.agg [I 3, I 2], .agg [I 0, I 0], 4), (.agg [I 3, I 3], .agg [I 0, I 0], 5), (.agg [I 2, I 1], .agg [I 0, I 0], 6), (.agg [I 4, I 1], .agg [I 0, I 0], 7), (.agg [I 3, I 4], .agg [I 0, I 0], 8), (.agg [I 3, I 5], .agg [I 0, I 0], 9), (.agg [I 2, I 2], .agg [I 0, I 0], 10), (.agg [I 4, I 2], .agg [I 0, I 0], 11), (.agg [I 3, I 6], .agg [I 0, I 0], 12), (.agg [I 3, I 7], .agg [I 0, I 0], 13), (.agg [I 2, I 3], .agg [I 0, I 0], 14), (.agg [I 4, I 3], .agg [I 0, I 0], 15), (.agg [I 3, I 8], .agg [I 0, I 0], 16), (.agg [I 3, I 9], .agg [I 0, I 0], 17), (.agg [I 2, I 4], .agg [I 0, I 0], 18), (.agg [I 4, I 4], .agg [I 0, I 0], 19), (.agg [I 3, I 10], .agg [I 0, I 0], 20)] 21)] [(262, 10, [bT, I 0, bF]),
  (303, 0, [IZ (-1), I 21, I 21])] [(264, 10, 0, U 5)]
noncomputable def m139 : Memo := ⟨[.ptr 311 0, .agg [.slice 45 0 1 1 1 true, I 1, .snil, bF]], h190, .tuple [I 0, .iface 240 (.ptr 24 0)], h191⟩
theorem m139_run : ranTo (evCall (cxX Tryd.prog bad [] [] q0) 1000 60 21 m139.args m139.h) m139.v m139.h' = true := by kernel_rfl
theorem m139_ok {σ : Nat → Int} {W0 : World} (hL : L0 W0) : MemoOk Tryd.prog 4095 σ W0 21 m139 := memo_ok fit (Known2.nil σ) ((q0_ok hL)) m139_run
noncomputable def l24 : List (Memo) := m139 :: m138 :: m137 :: m136 :: m135 :: m134 :: []
theorem l24_ok {σ : Nat → Int} {W0 : World} (hL : L0 W0) : ∀ x ∈ l24, MemoOk Tryd.prog 4095 σ W0 21 x := all_cons (m139_ok hL) (all_cons (m138_ok hL) (all_cons (m137_ok hL) (all_cons (m136_ok hL) (all_cons (m135_ok hL) (all_cons (m134_ok hL) (all_nil))))))
theorem run101 : isTrue (evCall (cxX Tryd.prog bad [] [] ((6, numExtE [(0, 10, .lit 5), (1, 60, .lit 21)]) :: (21, frameFn l24) :: q40)) 1000 60 3 [.int .i64 (.var 0), .int .i64 (.var 1), .int .i64 (.var 2)] (sentH 240 18 errTab)) = true := by kernel_rfl
theorem case101 {σ : Nat → Int} {W : World} (hL : L0 W) (hk : Known2 σ [] []) (hT : TabOk Tryd.prog bad 6 σ [(0, 10, .lit 5), (1, 60, .lit 21)]) {xs : Array Value} (hv : ∀ ρ, VRs σ ρ [.int .i64 (.var 0), .int .i64 (.var 1), .int .i64 (.var 2)] xs.toList) : Calls Tryd.prog 3 xs W fun e w' => e = .returned (.bool true) ∧ Below W.heap.size W w' := by
  obtain ⟨ads, h1, h2, h3⟩ := errs_sents hL
  exact law_case_x fit h1 h2 h3 errs_all errs_lt (by kernel_rfl) hk (FnsOk.cons (hT.ok fit) (FnsOk.cons (frame_fn_ok (l24_ok hL)) ((q40_ok hL)))) hv ⟨_, Tryd.func3, rfl⟩ run101
noncomputable def h192 : H := hUpd h168 343 [] [] [(303, 0, [IZ (-1), I 22, I 0])]
noncomputable def h193 : H := hUpd h169 818 [] [] [(303, 0, [IZ (-1), I 22, I 4])]
noncomputable def m140 : Memo := ⟨[.ptr 311 0, .agg [.slice 30 0 1 1 1 true, I 1, .snil, bF]], h192, .tuple [I 0, .inil], h193⟩
theorem m140_run : ranTo (evCall (cxX Tryd.prog bad [] [] ((44, pureFn l0) :: q0)) 1000 60 21 m140.args m140.h) m140.v m140.h' = true := by kernel_rfl
theorem m140_ok {σ : Nat → Int} {W0 : World} (hL : L0 W0) : MemoOk Tryd.prog 4095 σ W0 21 m140 := memo_ok fit (Known2.nil σ) (FnsOk.cons (pure_fn_ok (l0_ok hL)) ((q0_ok hL))) m140_run
noncomputable def h194 : H := hUpd h170 821 [] [] [(303, 0, [IZ (-1), I 22, I 4])]
noncomputable def h195 : H := hUpd h171 1296 [] [] [(303, 0, [IZ (-1), I 22, I 8])]
noncomputable def m141 : Memo := ⟨[.ptr 311 0, .agg [.slice 33 0 1 1 1 true, I 1, .snil, bF]], h194, .tuple [I 1, .inil], h195⟩
theorem m141_run : ranTo (evCall (cxX Tryd.prog bad [] [] ((44, pureFn l3) :: q0)) 1000 60 21 m141.args m141.h) m141.v m141.h' = true := by kernel_rfl
theorem m141_ok {σ : Nat → Int} {W0 : World} (hL : L0 W0) : MemoOk Tryd.prog 4095 σ W0 21 m141 := memo_ok fit (Known2.nil σ) (FnsOk.cons (pure_fn_ok (l3_ok hL)) ((q0_ok hL))) m141_run
noncomputable def h196 : H := hUpd h172 1299 [] [] [(303, 0, [IZ (-1), I 22, I 8])]
noncomputable def h197 : H := hUpd h173 1774 [] [] [(303, 0, [IZ (-1), I 22, I 12])]
noncomputable def m142 : Memo := ⟨[.ptr 311 0, .agg [.slice 36 0 1 1 1 true, I 1, .snil, bF]], h196, .tuple [I 2, .inil], h197⟩
theorem m142_run : ranTo (evCall (cxX Tryd.prog bad [] [] ((44, pureFn l6) :: q0)) 1000 60 21 m142.args m142.h) m142.v m142.h' = true := by kernel_rfl
theorem m142_ok {σ : Nat → Int} {W0 : World} (hL : L0 W0) : MemoOk Tryd.prog 4095 σ W0 21 m142 := memo_ok fit (Known2.nil σ) (FnsOk.cons (pure_fn_ok (l6_ok hL)) ((q0_ok hL))) m142_run
noncomputable def h198 : H := hUpd h174 1777 [] [] [(303, 0, [IZ (-1), I 22, I 12])]
noncomputable def h199 : H := hUpd h175 2252 [] [] [(303, 0, [IZ (-1), I 22, I 16])]
noncomputable def m143 : Memo := ⟨[.ptr 311 0, .agg [.slice 39 0 1 1 1 true, I 1, .snil, bF]], h198, .tuple [I 3, .inil], h199⟩
theorem m143_run : ranTo (evCall (cxX Tryd.prog bad [] [] ((44, pureFn l13) :: q0)) 1000 60 21 m143.args m143.h) m143.v m143.h' = true := by kernel_rfl
theorem m143_ok {σ : Nat → Int} {W0 : World} (hL : L0 W0) : MemoOk Tryd.prog 4095 σ W0 21 m143 := memo_ok fit (Known2.nil σ) (FnsOk.cons (pure_fn_ok (l13_ok hL)) ((q0_ok hL))) m143_run
noncomputable def h200 : H := hUpd h176 2255 [] [] [(303, 0, [IZ (-1), I 22, I 16])]
noncomputable def h201 : H := hUpd h177 2730 [] [] [(303, 0, [IZ (-1), I 22, I 20])]
noncomputable def m144 : Memo := ⟨[.ptr 311 0, .agg [.slice 42 0 1 1 1 true, I 1, .snil, bF]], h200, .tuple [I 4, .inil], h201⟩
theorem m144_run : ranTo (evCall (cxX Tryd.prog bad [] [] ((44, pureFn l20) :: q0)) 1000 60 21 m144.args m144.h) m144.v m144.h' = true := by kernel_rfl
theorem m144_ok {σ : Nat → Int} {W0 : World} (hL : L0 W0) : MemoOk Tryd.prog 4095 σ W0 21 m144 := memo_ok fit (Known2.nil σ) (FnsOk.cons (pure_fn_ok (l20_ok hL)) ((q0_ok hL))) m144_run
noncomputable def p145 : Pur := ([.agg [I 3, I 10, I 0, I 0, U 0]], .inil, 1048576)
theorem p145_run : ranPure (evCall (cxX Tryd.prog bad [] [] q0) 1000 60 44 p145.1 ⟨.lf, p145.2.2⟩) p145.2.1 = true := by kernel_rfl
theorem p145_ok {σ : Nat → Int} {W0 : World} (hL : L0 W0) : PureOk Tryd.prog 4095 σ W0 44 p145 := pure_ok fit (Known2.nil σ) ((q0_ok hL)) p145_run
noncomputable def p146 : Pur := ([.agg [I 3, I 11, I 0, I 0, U 0]], .inil, 1048576)
theorem p146_run : ranPure (evCall (cxX Tryd.prog bad [] [] q0) 1000 60 44 p146.1 ⟨.lf, p146.2.2⟩) p146.2.1 = true := by kernel_rfl
theorem p146_ok {σ : Nat → Int} {W0 : World} (hL : L0 W0) : PureOk Tryd.prog 4095 σ W0 44 p146 := pure_ok fit (Known2.nil σ) ((q0_ok hL)) p146_run
noncomputable def h202 : H := hUpd h178 2733 [] [] [(303, 0, [IZ (-1), I 22, I 20])]
noncomputable def h203 : H := hUpd h191 2938 [] [(304, .map [(.agg [I 3, I 0], .agg [I 0, I 0], 0), (.agg [I 3, I 1], .agg [I 0, I 0], 1), (.agg [I 2, I 0], .agg [I 0, I 0], 2), (.agg [I 4, I 0], .agg [I 0, I 0], 3), (.agg [I 3, I 2], .agg [I 0, I 0], 4), (.agg [I 3, I 3], .agg [I 0, I 0], 5), (.agg [I 2, I 1], .agg [I 0, I 0], 6), (.agg [I 4, I 1], .agg [I 0, I 0], 7), (.agg [I 3, I 4], .agg [I 0, I 0], 8), (.agg [I 3, I 5], .agg [I 0, I 0], 9), (.agg [I 2, I 2], .agg [I 0, I 0], 10), (.agg [I 4, I 2], .agg [I 0, I 0], 11), (.agg [I 3, I 6], .agg [I 0, I 0], 12), (.agg [I 3, I 7], .agg [I 0, I 0], 13), (.agg [I 2, I 3], .agg [I 0, I 0], 14), (.agg [I 4, I 3], .agg [I 0, I 0], 15), (.agg [I 3, I 8], .agg [I 0, I 0], 16), (.agg [I 3, I 9], .agg [I 0, I 0], 17), (.agg [I 2, I 4], .agg [I 0, I 0], 18), (.agg [I 4, I 4], .agg [I 0, I 0], 19), (.agg [I 3, I 10], .agg [I 0, I 0], 20), (.agg [I 3, I 11], .agg [I 0, I 0], 21)] 22)] [(262, 11, [bT, I 0, bF]),
  (303, 0, [IZ (-1), I 22, I 22])]
noncomputable def m147 : Memo := ⟨[.ptr 311 0, .agg [.slice 45 0 1 1 1 true, I 1, .snil, bF]], h202, .tuple [I 0, .iface 240 (.ptr 24 0)], h203⟩
theorem m147_run : ranTo (evCall (cxX Tryd.prog bad [] [] ((44, pureFn [p145, p146]) :: q0)) 1000 60 21 m147.args m147.h) m147.v m147.h' = true := by kernel_rfl
theorem m147_ok {σ : Nat → Int} {W0 : World} (hL : L0 W0) : MemoOk Tryd.prog 4095 σ W0 21 m147 := memo_ok fit (Known2.nil σ) (FnsOk.cons (pure_fn_ok (all_cons (p145_ok hL) (all_cons (p146_ok hL) (all_nil)))) ((q0_ok hL))) m147_run
noncomputable def l25 : List (Memo) := m147 :: m144 :: m143 :: m142 :: m141 :: m140 :: []
theorem l25_ok {σ : Nat → Int} {W0 : World} (hL : L0 W0) : ∀ x ∈ l25, MemoOk Tryd.prog 4095 σ W0 21 x := all_cons (m147_ok hL) (all_cons (m144_ok hL) (all_cons (m143_ok hL) (all_cons (m142_ok hL) (all_cons (m141_ok hL) (all_cons (m140_ok hL) (all_nil))))))
theorem run102 : isTrue (evCall (cxX Tryd.prog bad [] [] ((6, numExtE [(0, 10, .lit 5), (1, 60, .lit 22)]) :: (21, frameFn l25) :: q40)) 1000 60 3 [.int .i64 (.var 0), .int .i64 (.var 1), .int .i64 (.var 2)] (sentH 240 18 errTab)) = true := by kernel_rfl
theorem case102 {σ : Nat → Int} {W : World} (hL : L0 W) (hk : Known2 σ [] []) (hT : TabOk Tryd.prog bad 6 σ [(0, 10, .lit 5), (1, 60, .lit 22)]) {xs : Array Value} (hv : ∀ ρ, VRs σ ρ [.int .i64 (.var 0), .int .i64 (.var 1), .int .i64 (.var 2)] xs.toList) : Calls Tryd.prog 3 xs W fun e w' => e = .returned (.bool true) ∧ Below W.heap.size W w' := by
  obtain ⟨ads, h1, h2, h3⟩ := errs_sents hL
  exact law_case_x fit h1 h2 h3 errs_all errs_lt (by kernel_rfl) hk (FnsOk.cons (hT.ok fit) (FnsOk.cons (frame_fn_ok (l25_ok hL)) ((q40_ok hL)))) hv ⟨_, Tryd.func3, rfl⟩ run102
noncomputable def h204 : H := hUpd h168 343 [] [] [(303, 0, [IZ (-1), I 23, I 0])]
noncomputable def h205 : H := hUpd h169 818 [] [] [(303, 0, [IZ (-1), I 23, I 4])]
noncomputable def m148 : Memo := ⟨[.ptr 311 0, .agg [.slice 30 0 1 1 1 true, I 1, .snil, bF]], h204, .tuple [I 0, .inil], h205⟩
theorem m148_run : ranTo (evCall (cxX Tryd.prog bad [] [] ((44, pureFn l0) :: q0)) 1000 60 21 m148.args m148.h) m148.v m148.h' = true := by kernel_rfl
theorem m148_ok {σ : Nat → Int} {W0 : World} (hL : L0 W0) : MemoOk Tryd.prog 4095 σ W0 21 m148 := memo_ok fit (Known2.nil σ) (FnsOk.cons (pure_fn_ok (l0_ok hL)) ((q0_ok hL))) m148_run
noncomputable def h206 : H := hUpd h170 821 [] [] [(303, 0, [IZ (-1), I 23, I 4])]
noncomputable def h207 : H := hUpd h171 1296 [] [] [(303, 0, [IZ (-1), I 23, I 8])]
noncomputable def m149 : Memo := ⟨[.ptr 311 0, .agg [.slice 33 0 1 1 1 true, I 1, .snil, bF]], h206, .tuple [I 1, .inil], h207⟩
theorem m149_run : ranTo (evCall (cxX Tryd.prog bad [] [] ((44, pureFn l3) :: q0)) 1000 60 21 m149.args m149.h) m149.v m149.h' = true := by kernel_rfl
theorem m149_ok {σ : Nat → Int} {W0 : World} (hL : L0 W0) : MemoOk Tryd.prog 4095 σ W0 21 m149 := memo_ok fit (Known2.nil σ) (FnsOk.cons (pure_fn_ok (l3_ok hL)) ((q0_ok hL))) m149_run
noncomputable def h208 : H := hUpd h172 1299 [] [] [(303, 0, [IZ (-1), I 23, I 8])]
noncomputable def h209 : H := hUpd h173 1774 [] [] [(303, 0, [IZ (-1), I 23, I 12])]
noncomputable def m150 : Memo := ⟨[.ptr 311 0, .agg [.slice 36 0 1 1 1 true, I 1, .snil, bF]], h208, .tuple [I 2, .inil], h209⟩
theorem m150_run : ranTo (evCall (cxX Tryd.prog bad [] [] ((44, pureFn l6) :: q0)) 1000 60 21 m150.args m150.h) m150.v m150.h' = true := by kernel_rfl
theorem m150_ok {σ : Nat → Int} {W0 : World} (hL : L0 W0) : MemoOk Tryd.prog 4095 σ W0 21 m150 := memo_ok fit (Known2.nil σ) (FnsOk.cons (pure_fn_ok (l6_ok hL)) ((q0_ok hL))) m150_run
noncomputable def h210 : H := hUpd h174 1777 [] [] [(303, 0, [IZ (-1), I 23, I 12])]
noncomputable def h211 : H := hUpd h175 2252 [] [] [(303, 0, [IZ (-1), I 23, I 16])]
noncomputable def m151 : Memo := ⟨[.ptr 311 0, .agg [.slice 39 0 1 1 1 true, I 1, .snil, bF]], h210, .tuple [I 3, .inil], h211⟩
theorem m151_run : ranTo (evCall (cxX Tryd.prog bad [] [] ((44, pureFn l13) :: q0)) 1000 60 21 m151.args m151.h) m151.v m151.h' = true := by kernel_rfl
theorem m151_ok {σ : Nat → Int} {W0 : World} (hL : L0 W0) : MemoOk Tryd.prog 4095 σ W0 21 m151 := memo_ok fit (Known2.nil σ) (FnsOk.cons (pure_fn_ok (l13_ok hL)) ((q0_ok hL))) m151_run
noncomputable def h212 : H := hUpd h176 2255 [] [] [(303, 0, [IZ (-1), I 23, I 16])]
noncomputable def h213 : H := hUpd h177 2730 [] [] [(303, 0, [IZ (-1), I 23, I 20])]
noncomputable def m152 : Memo := ⟨[.ptr 311 0, .agg [.slice 42 0 1 1 1 true, I 1, .snil, bF]], h212, .tuple [I 4, .inil], h213⟩
theorem m152_run : ranTo (evCall (cxX Tryd.prog bad [] [] ((44, pureFn l20) :: q0)) 1000 60 21 m152.args m152.h) m152.v m152.h' = true := by kernel_rfl
theorem m152_ok {σ : Nat → Int} {W0 : World} (hL : L0 W0) : MemoOk Tryd.prog 4095 σ W0 21 m152 := memo_ok fit (Known2.nil σ) (FnsOk.cons (pure_fn_ok (l20_ok hL)) ((q0_ok hL))) m152_run
noncomputable def h214 : H := hUpd h178 2733 [] [] [(303, 0, [IZ (-1), I 23, I 20])]
noncomputable def h215 : H := hUpc h203 3001 [] [(304, .map [(.agg [I 3, I 0], .agg [I 0, I 0], 0), (.agg [I 3, I 1], .agg [I 0, I 0], 1), (.agg [I 2, I 0], .agg [I 0, I 0], 2), (.agg [I 4, I 0], .agg [I 0, I 0], 3), (.agg [I 3, I 2], .agg [I 0, I 0], 4), (.agg [I 3, I 3], .agg [I 0, I 0], 5), (.agg [I 2, I 1], .agg [I 0, I 0], 6), (.agg [I 4, I 1], .agg [I 0, I 0], 7), (.agg [I 3, I 4], .agg [I 0, I 0], 8), (.agg [I 3, I 5], .agg [I 0, I 0], 9), (.agg [I 2, I 2], .agg [I 0, I 0], 10), (.agg [I 4, I 2], .agg [I 0, I 0], 11), (.agg [I 3, I 6], .agg [I 0, I 0], 12), (.agg [I 3, I 7], .agg [I 0, I 0], 13), (.agg [I 2, I 3], .agg [I 0, I 0], 14), (.agg [I 4, I 3], .agg [I 0, I 0], 15), (.agg [I 3, I 8], .agg [I 0, I 0], 16), (.agg [I 3, I 9], .agg [I 0, I 0], 17), (.agg [I 2, I 4], .agg [I 0, I 0], 18), (.agg [I 4, I 4], .agg [I 0, I 0], 19), (.agg [I 3, I 10], .agg [I 0, I 0], 20), (.agg [I 3, I 11], .agg [I 0, I 0], 21), (.agg [I 2, I 5], .agg [I 0, I 0], 22)] 23)] [(258, 5, [bT, I 0, bF]),
  (303, 0, [IZ (-1), I 23, I 23])] [(260, 5, 0, I 3), (260, 5, 1, I 10), (260, 5, 5, I 3), (260, 5, 6, I 11)]
noncomputable def m153 : Memo := ⟨[.ptr 311 0, .agg [.slice 45 0 1 1 1 true, I 1, .snil, bF]], h214, .tuple [I 0, .iface 240 (.ptr 24 0)], h215⟩
theorem m153_run : ranTo (evCall (cxX Tryd.prog bad [] [] ((44, pureFn [p145, p146]) :: q0)) 1000 60 21 m153.args m153.h) m153.v m153.h' = true := by kernel_rfl
theorem m153_ok {σ : Nat → Int} {W0 : World} (hL : L0 W0) : MemoOk Tryd.prog 4095 σ W0 21 m153 := memo_ok fit (Known2.nil σ) (FnsOk.cons (pure_fn_ok (all_cons (p145_ok hL) (all_cons (p146_ok hL) (all_nil)))) ((q0_ok hL))) m153_run
noncomputable def l26 : List (Memo) := m153 :: m152 :: m151 :: m150 :: m149 :: m148 :: []
theorem l26_ok {σ : Nat → Int} {W0 : World} (hL : L0 W0) : ∀ x ∈ l26, MemoOk Tryd.prog 4095 σ W0 21 x := all_cons (m153_ok hL) (all_cons (m152_ok hL) (all_cons (m151_ok hL) (all_cons (m150_ok hL) (all_cons (m149_ok hL) (all_cons (m148_ok hL) (all_nil))))))
theorem run103 : isTrue (evCall (cxX Tryd.prog bad [] [] ((6, numExtE [(0, 10, .lit 5), (1, 60, .lit 23)]) :: (21, frameFn l26) :: q40)) 1000 60 3 [.int .i64 (.var 0), .int .i64 (.var 1), .int .i64 (.var 2)] (sentH 240 18 errTab)) = true := by kernel_rfl
theorem case103 {σ : Nat → Int} {W : World} (hL : L0 W) (hk : Known2 σ [] []) (hT : TabOk Tryd.prog bad 6 σ [(0, 10, .lit 5), (1, 60, .lit 23)]) {xs : Array Value} (hv : ∀ ρ, VRs σ ρ [.int .i64 (.var 0), .int .i64 (.var 1), .int .i64 (.var 2)] xs.toList) : Calls Tryd.prog 3 xs W fun e w' => e = .returned (.bool true) ∧ Below W.heap.size W w' := by
  obtain ⟨ads, h1, h2, h3⟩ := errs_sents hL
  exact law_case_x fit h1 h2 h3 errs_all errs_lt (by kernel_rfl) hk (FnsOk.cons (hT.ok fit) (FnsOk.cons (frame_fn_ok (l26_ok hL)) ((q40_ok hL)))) hv ⟨_, Tryd.func3, rfl⟩ run103
noncomputable def m154 : Memo := ⟨[.ptr 311 0, .agg [.slice 30 0 1 1 1 true, I 1, .snil, bF]], h11, .tuple [I 0, .inil], h12⟩
theorem m154_run : ranTo (evCall (cxX Tryd.prog bad [((-9223372036854775808), 9223372036854775807), ((-9223372036854775808), 9223372036854775807), ((-9223372036854775808), 9223372036854775807), (24, 59)] [] ((44, pureFn l0) :: q0)) 1000 60 21 m154.args m154.h) m154.v m154.h' = true := by kernel_rfl
theorem m154_ok {σ : Nat → Int} {W0 : World} (hL : L0 W0) (hk : Known2 σ [((-9223372036854775808), 9223372036854775807), ((-9223372036854775808), 9223372036854775807), ((-9223372036854775808), 9223372036854775807), (24, 59)] []) : MemoOk Tryd.prog 4095 σ W0 21 m154 := memo_ok fit hk (FnsOk.cons (pure_fn_ok (l0_ok hL)) ((q0_ok hL))) m154_run
noncomputable def m155 : Memo := ⟨[.ptr 311 0, .agg [.slice 33 0 1 1 1 true, I 1, .snil, bF]], h36, .tuple [I 1, .inil], h37⟩
theorem m155_run : ranTo (evCall (cxX Tryd.prog bad [((-9223372036854775808), 9223372036854775807), ((-9223372036854775808), 9223372036854775807), ((-9223372036854775808), 9223372036854775807), (24, 59)] [] ((44, pureFn l3) :: q0)) 1000 60 21 m155.args m155.h) m155.v m155.h' = true := by kernel_rfl
theorem m155_ok {σ : Nat → Int} {W0 : World} (hL : L0 W0) (hk : Known2 σ [((-9223372036854775808), 9223372036854775807), ((-9223372036854775808), 9223372036854775807), ((-9223372036854775808), 9223372036854775807), (24, 59)] []) : MemoOk Tryd.prog 4095 σ W0 21 m155 := memo_ok fit hk (FnsOk.cons (pure_fn_ok (l3_ok hL)) ((q0_ok hL))) m155_run
noncomputable def m156 : Memo := ⟨[.ptr 311 0, .agg [.slice 36 0 1 1 1 true, I 1, .snil, bF]], h69, .tuple [I 2, .inil], h70⟩
theorem m156_run : ranTo (evCall (cxX Tryd.prog bad [((-9223372036854775808), 9223372036854775807), ((-9223372036854775808), 9223372036854775807), ((-9223372036854775808), 9223372036854775807), (24, 59)] [] ((44, pureFn l6) :: q0)) 1000 60 21 m156.args m156.h) m156.v m156.h' = true := by kernel_rfl
theorem m156_ok {σ : Nat → Int} {W0 : World} (hL : L0 W0) (hk : Known2 σ [((-9223372036854775808), 9223372036854775807), ((-9223372036854775808), 9223372036854775807), ((-9223372036854775808), 9223372036854775807), (24, 59)] []) : MemoOk Tryd.prog 4095 σ W0 21 m156 := memo_ok fit hk (FnsOk.cons (pure_fn_ok (l6_ok hL)) ((q0_ok hL))) m156_run
noncomputable def m157 : Memo := ⟨[.ptr 311 0, .agg [.slice 39 0 1 1 1 true, I 1, .snil, bF]], h110, .tuple [I 3, .inil], h111⟩
theorem m157_run : ranTo (evCall (cxX Tryd.prog bad [((-9223372036854775808), 9223372036854775807), ((-9223372036854775808), 9223372036854775807), ((-9223372036854775808), 9223372036854775807), (24, 59)] [] ((44, pureFn l13) :: q0)) 1000 60 21 m157.args m157.h) m157.v m157.h' = true := by kernel_rfl
theorem m157_ok {σ : Nat → Int} {W0 : World} (hL : L0 W0) (hk : Known2 σ [((-9223372036854775808), 9223372036854775807), ((-9223372036854775808), 9223372036854775807), ((-9223372036854775808), 9223372036854775807), (24, 59)] []) : MemoOk Tryd.prog 4095 σ W0 21 m157 := memo_ok fit hk (FnsOk.cons (pure_fn_ok (l13_ok hL)) ((q0_ok hL))) m157_run
noncomputable def m158 : Memo := ⟨[.ptr 311 0, .agg [.slice 42 0 1 1 1 true, I 1, .snil, bF]], h159, .tuple [I 4, .inil], h160⟩
theorem m158_run : ranTo (evCall (cxX Tryd.prog bad [((-9223372036854775808), 9223372036854775807), ((-9223372036854775808), 9223372036854775807), ((-9223372036854775808), 9223372036854775807), (24, 59)] [] ((44, pureFn l20) :: q0)) 1000 60 21 m158.args m158.h) m158.v m158.h' = true := by kernel_rfl
theorem m158_ok {σ : Nat → Int} {W0 : World} (hL : L0 W0) (hk : Known2 σ [((-9223372036854775808), 9223372036854775807), ((-9223372036854775808), 9223372036854775807), ((-9223372036854775808), 9223372036854775807), (24, 59)] []) : MemoOk Tryd.prog 4095 σ W0 21 m158 := memo_ok fit hk (FnsOk.cons (pure_fn_ok (l20_ok hL)) ((q0_ok hL))) m158_run
noncomputable def p159 : Pur := ([.agg [I 2, I 5, I 0, I 0, U 1]], .inil, 1048576)
theorem p159_run : ranPure (evCall (cxX Tryd.prog bad [] [] q0) 1000 60 44 p159.1 ⟨.lf, p159.2.2⟩) p159.2.1 = true := by kernel_rfl
theorem p159_ok {σ : Nat → Int} {W0 : World} (hL : L0 W0) : PureOk Tryd.prog 4095 σ W0 44 p159 := pure_ok fit (Known2.nil σ) ((q0_ok hL)) p159_run
noncomputable def p160 : Pur := ([.agg [I 7, I 6, I 0, I 0, U 0]], .inil, 1048576)
theorem p160_run : ranPure (evCall (cxX Tryd.prog bad [] [] q0) 1000 60 44 p160.1 ⟨.lf, p160.2.2⟩) p160.2.1 = true := by kernel_rfl
theorem p160_ok {σ : Nat → Int} {W0 : World} (hL : L0 W0) : PureOk Tryd.prog 4095 σ W0 44 p160 := pure_ok fit (Known2.nil σ) ((q0_ok hL)) p160_run
noncomputable def h216 : H := hUpd h178 2733 [] [] [(303, 0, [IZ (-1), .int .i64 (.var 3), I 20])]
noncomputable def h217 : H := hUpc h215 3208 [] [(304, .map [(.agg [I 3, I 0], .agg [I 0, I 0], 0), (.agg [I 3, I 1], .agg [I 0, I 0], 1), (.agg [I 2, I 0], .agg [I 0, I 0], 2), (.agg [I 4, I 0], .agg [I 0, I 0], 3), (.agg [I 3, I 2], .agg [I 0, I 0], 4), (.agg [I 3, I 3], .agg [I 0, I 0], 5), (.agg [I 2, I 1], .agg [I 0, I 0], 6), (.agg [I 4, I 1], .agg [I 0, I 0], 7), (.agg [I 3, I 4], .agg [I 0, I 0], 8), (.agg [I 3, I 5], .agg [I 0, I 0], 9), (.agg [I 2, I 2], .agg [I 0, I 0], 10), (.agg [I 4, I 2], .agg [I 0, I 0], 11), (.agg [I 3, I 6], .agg [I 0, I 0], 12), (.agg [I 3, I 7], .agg [I 0, I 0], 13), (.agg [I 2, I 3], .agg [I 0, I 0], 14), (.agg [I 4, I 3], .agg [I 0, I 0], 15), (.agg [I 3, I 8], .agg [I 0, I 0], 16), (.agg [I 3, I 9], .agg [I 0, I 0], 17), (.agg [I 2, I 4], .agg [I 0, I 0], 18), (.agg [I 4, I 4], .agg [I 0, I 0], 19), (.agg [I 3, I 10], .agg [I 0, I 0], 20), (.agg [I 3, I 11], .agg [I 0, I 0], 21), (.agg [I 2, I 5], .agg [I 0, I 0], 22), (.agg [I 4, I 5], .agg [I 0, I 0], 23)] 24)] [(269, 5, [bT, I 0, bF]),
  (297, 6, [bT, I 0, bF]),
  (299, 6, [I 0, I 1]),
  (303, 0, [IZ (-1), .int .i64 (.var 3), I 24])] [(271, 5, 9, I 1), (271, 5, 11, I 8), (271, 5, 16, I 7), (271, 5, 17, I 6), (271, 5, 21, I 11), (271, 5, 26, I 12), (271, 5, 31, I 13), (271, 5, 36, I 14), (271, 5, 91, I 2), (271, 5, 92, I 5), (271, 5, 95, U 1), (271, 5, 96, I 7), (271, 5, 97, I 6)]
noncomputable def m161 : Memo := ⟨[.ptr 311 0, .agg [.slice 45 0 1 1 1 true, I 1, .snil, bF]], h216, .tuple [I 5, .inil], h217⟩
noncomputable def l27 : List (Pur) := p15 :: p14 :: p13 :: p12 :: p160 :: p10 :: p159 :: p8 :: p146 :: p145 :: []
theorem l27_ok {σ : Nat → Int} {W0 : World} (hL : L0 W0) : ∀ x ∈ l27, PureOk Tryd.prog 4095 σ W0 44 x := all_cons (p15_ok hL) (all_cons (p14_ok hL) (all_cons (p13_ok hL) (all_cons (p12_ok hL) (all_cons (p160_ok hL) (all_cons (p10_ok hL) (all_cons (p159_ok hL) (all_cons (p8_ok hL) (all_cons (p146_ok hL) (all_cons (p145_ok hL) (all_nil))))))))))
theorem m161_run : ranTo (evCall (cxX Tryd.prog bad [((-9223372036854775808), 9223372036854775807), ((-9223372036854775808), 9223372036854775807), ((-9223372036854775808), 9223372036854775807), (24, 59)] [] ((44, pureFn l27) :: q0)) 1000 60 21 m161.args m161.h) m161.v m161.h' = true := by kernel_rfl
theorem m161_ok {σ : Nat → Int} {W0 : World} (hL : L0 W0) (hk : Known2 σ [((-9223372036854775808), 9223372036854775807), ((-9223372036854775808), 9223372036854775807), ((-9223372036854775808), 9223372036854775807), (24, 59)] []) : MemoOk Tryd.prog 4095 σ W0 21 m161 := memo_ok fit hk (FnsOk.cons (pure_fn_ok (l27_ok hL)) ((q0_ok hL))) m161_run
noncomputable def l28 : List (Pur) := p159 :: p160 :: l21
theorem l28_ok {σ : Nat → Int} {W0 : World} (hL : L0 W0) : ∀ x ∈ l28, PureOk Tryd.prog 4095 σ W0 44 x := all_cons (p159_ok hL) (all_cons (p160_ok hL) ((l21_ok hL)))
theorem run104 : isTrue (evCall (cxX Tryd.prog bad [((-9223372036854775808), 9223372036854775807), ((-9223372036854775808), 9223372036854775807), ((-9223372036854775808), 9223372036854775807), (24, 59)] [] ((6, numExtE [(0, 10, .lit 5), (1, 60, .var 3), (2, 4, .lit 0)]) :: (21, frameFn [m154, m155, m156, m157, m158, m161]) :: (44, pureFn l28) :: q40)) 1000 60 3 [.int .i64 (.var 0), .int .i64 (.var 1), .int .i64 (.var 2)] (sentH 240 18 errTab)) = true := by kernel_rfl
theorem case104 {σ : Nat → Int} {W : World} (hL : L0 W) (hk : Known2 σ [((-9223372036854775808), 9223372036854775807), ((-9223372036854775808), 9223372036854775807), ((-9223372036854775808), 9223372036854775807), (24, 59)] []) (hT : TabOk Tryd.prog bad 6 σ [(0, 10, .lit 5), (1, 60, .var 3), (2, 4, .lit 0)]) {xs : Array Value} (hv : ∀ ρ, VRs σ ρ [.int .i64 (.var 0), .int .i64 (.var 1), .int .i64 (.var 2)] xs.toList) : Calls Tryd.prog 3 xs W fun e w' => e = .returned (.bool true) ∧ Below W.heap.size W w' := by
  obtain ⟨ads, h1, h2, h3⟩ := errs_sents hL
  exact law_case_x fit h1 h2 h3 errs_all errs_lt (by kernel_rfl) hk (FnsOk.cons (hT.ok fit) (FnsOk.cons (frame_fn_ok (all_cons (m154_ok hL hk) (all_cons (m155_ok hL hk) (all_cons (m156_ok hL hk) (all_cons (m157_ok hL hk) (all_cons (m158_ok hL hk) (all_cons (m161_ok hL hk) (all_nil)))))))) (FnsOk.cons (pure_fn_ok (l28_ok hL)) ((q40_ok hL))))) hv ⟨_, Tryd.func3, rfl⟩ run104
noncomputable def h218 : H := hUpd h0 49 [] [] []
noncomputable def m162 : Memo := ⟨[], h218, .agg [I 16, I 24, I 8, I 12, I 8, I 6], h2⟩
theorem m162_run : ranTo (evCall (cxX Tryd.prog bad [] [] q0) 1000 60 8 m162.args m162.h) m162.v m162.h' = true := by kernel_rfl
theorem m162_ok {σ : Nat → Int} {W0 : World} (hL : L0 W0) : MemoOk Tryd.prog 4095 σ W0 8 m162 := memo_ok fit (Known2.nil σ) ((q0_ok hL)) m162_run
noncomputable def h219 : H := hUpd h216 2733 [] [(48, .cells 1 ([[I 6]]) false)] []
noncomputable def h220 : H := hUpd h217 3208 [] [(48, .cells 1 ([[I 6]]) false)] []
noncomputable def m163 : Memo := ⟨[.ptr 311 0, .agg [.slice 45 0 1 1 1 true, I 1, .slice 48 0 1 1 1 true, bF]], h219, .tuple [I 5, .inil], h220⟩
theorem m163_run : ranTo (evCall (cxX Tryd.prog bad [((-9223372036854775808), 9223372036854775807), ((-9223372036854775808), 9223372036854775807), ((-9223372036854775808), 9223372036854775807), (24, 59)] [] ((44, pureFn l27) :: q0)) 1000 60 21 m163.args m163.h) m163.v m163.h' = true := by kernel_rfl
theorem m163_ok {σ : Nat → Int} {W0 : World} (hL : L0 W0) (hk : Known2 σ [((-9223372036854775808), 9223372036854775807), ((-9223372036854775808), 9223372036854775807), ((-9223372036854775808), 9223372036854775807), (24, 59)] []) : MemoOk Tryd.prog 4095 σ W0 21 m163 := memo_ok fit hk (FnsOk.cons (pure_fn_ok (l27_ok hL)) ((q0_ok hL))) m163_run
noncomputable def q41 : Fns := [(5, pureFn [p0]), (8, frameFn [m162]), (51, itoaFn), (114, countFn), (129, indexFn)]
theorem q41_ok {σ : Nat → Int} {W0 : World} (hL : L0 W0) : FnsOk Tryd.prog 4095 σ W0 q41 := FnsOk.cons (pure_fn_ok (all_cons (p0_ok hL) (all_nil))) (FnsOk.cons (frame_fn_ok (all_cons (m162_ok hL) (all_nil))) (FnsOk.cons (ext_itoa hL) (FnsOk.cons (ext_count hL) (FnsOk.cons (ext_index hL) (FnsOk.nil)))))
theorem run105 : isTrue (evCall (cxX Tryd.prog bad [((-9223372036854775808), 9223372036854775807), ((-9223372036854775808), 9223372036854775807), ((-9223372036854775808), 9223372036854775807), (24, 59)] [] ((6, numExtE [(0, 10, .lit 5), (1, 60, .var 3), (2, 4, .lit 1)]) :: (21, frameFn [m154, m155, m156, m157, m158, m163]) :: (44, pureFn l21) :: q41)) 1000 60 3 [.int .i64 (.var 0), .int .i64 (.var 1), .int .i64 (.var 2)] (sentH 240 18 errTab)) = true := by kernel_rfl
theorem case105 {σ : Nat → Int} {W : World} (hL : L0 W) (hk : Known2 σ [((-9223372036854775808), 9223372036854775807), ((-9223372036854775808), 9223372036854775807), ((-9223372036854775808), 9223372036854775807), (24, 59)] []) (hT : TabOk Tryd.prog bad 6 σ [(0, 10, .lit 5), (1, 60, .var 3), (2, 4, .lit 1)]) {xs : Array Value} (hv : ∀ ρ, VRs σ ρ [.int .i64 (.var 0), .int .i64 (.var 1), .int .i64 (.var 2)] xs.toList) : Calls Tryd.prog 3 xs W fun e w' => e = .returned (.bool true) ∧ Below W.heap.size W w' := by
  obtain ⟨ads, h1, h2, h3⟩ := errs_sents hL
  exact law_case_x fit h1 h2 h3 errs_all errs_lt (by kernel_rfl) hk (FnsOk.cons (hT.ok fit) (FnsOk.cons (frame_fn_ok (all_cons (m154_ok hL hk) (all_cons (m155_ok hL hk) (all_cons (m156_ok hL hk) (all_cons (m157_ok hL hk) (all_cons (m158_ok hL hk) (all_cons (m163_ok hL hk) (all_nil)))))))) (FnsOk.cons (pure_fn_ok (l21_ok hL)) ((q41_ok hL))))) hv ⟨_, Tryd.func3, rfl⟩ run105
noncomputable def h221 : H := hUpd h192 343 [30] [(48, .cells 1 (rp 33 ([U 0]) ([])) false)] [(303, 0, [IZ (-1), .int .i64 (.var 3), I 0])]
noncomputable def h222 : H := hUpd h221 346 [] [] []
noncomputable def m164 : Memo := ⟨[.ptr 311 0, .agg [.slice 48 0 33 33 1 true, I 1, .snil, bF]], h221, .tuple [I 0, .iface 240 (.ptr 21 0)], h222⟩
theorem m164_run : ranTo (evCall (cxX Tryd.prog bad [] [] q0) 1000 60 21 m164.args m164.h) m164.v m164.h' = true := by kernel_rfl
theorem m164_ok {σ : Nat → Int} {W0 : World} (hL : L0 W0) : MemoOk Tryd.prog 4095 σ W0 21 m164 := memo_ok fit (Known2.nil σ) ((q0_ok hL)) m164_run
noncomputable def q42 : Fns := [(5, pureFn [p0]), (8, frameFn [m162]), (21, frameFn [m164]), (51, itoaFn), (114, countFn), (129, indexFn)]
theorem q42_ok {σ : Nat → Int} {W0 : World} (hL : L0 W0) : FnsOk Tryd.prog 4095 σ W0 q42 := FnsOk.cons (pure_fn_ok (all_cons (p0_ok hL) (all_nil))) (FnsOk.cons (frame_fn_ok (all_cons (m162_ok hL) (all_nil))) (FnsOk.cons (frame_fn_ok (all_cons (m164_ok hL) (all_nil))) (FnsOk.cons (ext_itoa hL) (FnsOk.cons (ext_count hL) (FnsOk.cons (ext_index hL) (FnsOk.nil))))))
theorem run106 : isTrue (evCall (cxX Tryd.prog bad [((-9223372036854775808), 9223372036854775807), ((-9223372036854775808), 9223372036854775807), ((-9223372036854775808), 9223372036854775807), (24, 59)] [] ((6, numExtE [(0, 10, .lit 5), (1, 60, .var 3), (2, 4, .lit 2)]) :: q42)) 1000 60 3 [.int .i64 (.var 0), .int .i64 (.var 1), .int .i64 (.var 2)] (sentH 240 18 errTab)) = true := by kernel_rfl
theorem case106 {σ : Nat → Int} {W : World} (hL : L0 W) (hk : Known2 σ [((-9223372036854775808), 9223372036854775807), ((-9223372036854775808), 9223372036854775807), ((-9223372036854775808), 9223372036854775807), (24, 59)] []) (hT : TabOk Tryd.prog bad 6 σ [(0, 10, .lit 5), (1, 60, .var 3), (2, 4, .lit 2)]) {xs : Array Value} (hv : ∀ ρ, VRs σ ρ [.int .i64 (.var 0), .int .i64 (.var 1), .int .i64 (.var 2)] xs.toList) : Calls Tryd.prog 3 xs W fun e w' => e = .returned (.bool true) ∧ Below W.heap.size W w' := by
  obtain ⟨ads, h1, h2, h3⟩ := errs_sents hL
  exact law_case_x fit h1 h2 h3 errs_all errs_lt (by kernel_rfl) hk (FnsOk.cons (hT.ok fit) ((q42_ok hL))) hv ⟨_, Tryd.func3, rfl⟩ run106
noncomputable def h223 : H := hUpc h217 3080 [] [] [(297, 6, [bF, I 0, bF]),
  (299, 6, [I 0, I 0])] [(271, 5, 11, I 0), (271, 5, 16, I 0), (271, 5, 17, I 0), (271, 5, 21, I 0), (271, 5, 26, I 0), (271, 5, 31, I 0), (271, 5, 36, I 0), (271, 5, 96, I 0), (271, 5, 97, I 0)]
noncomputable def m165 : Memo := ⟨[.ptr 311 0, .agg [.slice 45 0 1 1 1 true, IZ (-1), .snil, bF]], h216, .tuple [I 0, .iface 240 (.ptr 20 0)], h223⟩
noncomputable def l29 : List (Pur) := p159 :: p8 :: p146 :: p145 :: []
theorem l29_ok {σ : Nat → Int} {W0 : World} (hL : L0 W0) : ∀ x ∈ l29, PureOk Tryd.prog 4095 σ W0 44 x := all_cons (p159_ok hL) (all_cons (p8_ok hL) (all_cons (p146_ok hL) (all_cons (p145_ok hL) (all_nil))))
theorem m165_run : ranTo (evCall (cxX Tryd.prog bad [((-9223372036854775808), 9223372036854775807), ((-9223372036854775808), 9223372036854775807), ((-9223372036854775808), 9223372036854775807), (24, 59)] [] ((44, pureFn l29) :: q0)) 1000 60 21 m165.args m165.h) m165.v m165.h' = true := by kernel_rfl
theorem m165_ok {σ : Nat → Int} {W0 : World} (hL : L0 W0) (hk : Known2 σ [((-9223372036854775808), 9223372036854775807), ((-9223372036854775808), 9223372036854775807), ((-9223372036854775808), 9223372036854775807), (24, 59)] []) : MemoOk Tryd.prog 4095 σ W0 21 m165 := memo_ok fit hk (FnsOk.cons (pure_fn_ok (l29_ok hL)) ((q0_ok hL))) m165_run
theorem run107 : isTrue (evCall (cxX Tryd.prog bad [((-9223372036854775808), 9223372036854775807), ((-9223372036854775808), 9223372036854775807), ((-9223372036854775808), 9223372036854775807), (24, 59)] [] ((6, numExtE [(0, 10, .lit 5), (1, 60, .var 3), (2, 4, .lit 3)]) :: (21, frameFn [m154, m155, m156, m157, m158, m165]) :: q40)) 1000 60 3 [.int .i64 (.var 0), .int .i64 (.var 1), .int .i64 (.var 2)] (sentH 240 18 errTab)) = true := by kernel_rfl
theorem case107 {σ : Nat → Int} {W : World} (hL : L0 W) (hk : Known2 σ [((-9223372036854775808), 9223372036854775807), ((-9223372036854775808), 9223372036854775807), ((-9223372036854775808), 9223372036854775807), (24, 59)] []) (hT : TabOk Tryd.prog bad 6 σ [(0, 10, .lit 5), (1, 60, .var 3), (2, 4, .lit 3)]) {xs : Array Value} (hv : ∀ ρ, VRs σ ρ [.int .i64 (.var 0), .int .i64 (.var 1), .int .i64 (.var 2)] xs.toList) : Calls Tryd.prog 3 xs W fun e w' => e = .returned (.bool true) ∧ Below W.heap.size W w' := by
  obtain ⟨ads, h1, h2, h3⟩ := errs_sents hL
  exact law_case_x fit h1 h2 h3 errs_all errs_lt (by kernel_rfl) hk (FnsOk.cons (hT.ok fit) (FnsOk.cons (frame_fn_ok (all_cons (m154_ok hL hk) (all_cons (m155_ok hL hk) (all_cons (m156_ok hL hk) (all_cons (m157_ok hL hk) (all_cons (m158_ok hL hk) (all_cons (m165_ok hL hk) (all_nil)))))))) ((q40_ok hL)))) hv ⟨_, Tryd.func3, rfl⟩ run107
noncomputable def h224 : H := hUpd h218 51 [] [] []
noncomputable def m166 : Memo := ⟨[], h224, .agg [I 16, I 24, I 8, I 12, I 8, I 6], h2⟩
theorem m166_run : ranTo (evCall (cxX Tryd.prog bad [] [] q0) 1000 60 8 m166.args m166.h) m166.v m166.h' = true := by kernel_rfl
theorem m166_ok {σ : Nat → Int} {W0 : World} (hL : L0 W0) : MemoOk Tryd.prog 4095 σ W0 8 m166 := memo_ok fit (Known2.nil σ) ((q0_ok hL)) m166_run
noncomputable def q43 : Fns := [(5, pureFn [p0]), (8, frameFn [m166]), (21, frameFn [m2]), (51, itoaFn), (114, countFn), (129, indexFn)]
theorem q43_ok {σ : Nat → Int} {W0 : World} (hL : L0 W0) : FnsOk Tryd.prog 4095 σ W0 q43 := FnsOk.cons (pure_fn_ok (all_cons (p0_ok hL) (all_nil))) (FnsOk.cons (frame_fn_ok (all_cons (m166_ok hL) (all_nil))) (FnsOk.cons (frame_fn_ok (all_cons (m2_ok hL) (all_nil))) (FnsOk.cons (ext_itoa hL) (FnsOk.cons (ext_count hL) (FnsOk.cons (ext_index hL) (FnsOk.nil))))))
theorem run108 : isTrue (evCall (cxX Tryd.prog bad [] [] ((6, numExtE [(0, 10, .lit 6), (1, 60, .lit 0)]) :: q43)) 1000 60 3 [.int .i64 (.var 0), .int .i64 (.var 1), .int .i64 (.var 2)] (sentH 240 18 errTab)) = true := by kernel_rfl
theorem case108 {σ : Nat → Int} {W : World} (hL : L0 W) (hk : Known2 σ [] []) (hT : TabOk Tryd.prog bad 6 σ [(0, 10, .lit 6), (1, 60, .lit 0)]) {xs : Array Value} (hv : ∀ ρ, VRs σ ρ [.int .i64 (.var 0), .int .i64 (.var 1), .int .i64 (.var 2)] xs.toList) : Calls Tryd.prog 3 xs W fun e w' => e = .returned (.bool true) ∧ Below W.heap.size W w' := by
  obtain ⟨ads, h1, h2, h3⟩ := errs_sents hL
  exact law_case_x fit h1 h2 h3 errs_all errs_lt (by kernel_rfl) hk (FnsOk.cons (hT.ok fit) ((q43_ok hL))) hv ⟨_, Tryd.func3, rfl⟩ run108
noncomputable def q44 : Fns := [(5, pureFn [p0]), (8, frameFn [m166]), (21, frameFn [m3]), (51, itoaFn), (114, countFn), (129, indexFn)]
theorem q44_ok {σ : Nat → Int} {W0 : World} (hL : L0 W0) : FnsOk Tryd.prog 4095 σ W0 q44 := FnsOk.cons (pure_fn_ok (all_cons (p0_ok hL) (all_nil))) (FnsOk.cons (frame_fn_ok (all_cons (m166_ok hL) (all_nil))) (FnsOk.cons (frame_fn_ok (all_cons (m3_ok hL) (all_nil))) (FnsOk.cons (ext_itoa hL) (FnsOk.cons (ext_count hL) (FnsOk.cons (ext_index hL) (FnsOk.nil))))))
theorem run109 : isTrue (evCall (cxX Tryd.prog bad [] [] ((6, numExtE [(0, 10, .lit 6), (1, 60, .lit 1)]) :: q44)) 1000 60 3 [.int .i64 (.var 0), .int .i64 (.var 1), .int .i64 (.var 2)] (sentH 240 18 errTab)) = true := by kernel_rfl
theorem case109 {σ : Nat → Int} {W : World} (hL : L0 W) (hk : Known2 σ [] []) (hT : TabOk Tryd.prog bad 6 σ [(0, 10, .lit 6), (1, 60, .lit 1)]) {xs : Array Value} (hv : ∀ ρ, VRs σ ρ [.int .i64 (.var 0), .int .i64 (.var 1), .int .i64 (.var 2)] xs.toList) : Calls Tryd.prog 3 xs W fun e w' => e = .returned (.bool true) ∧ Below W.heap.size W w' := by
  obtain ⟨ads, h1, h2, h3⟩ := errs_sents hL
  exact law_case_x fit h1 h2 h3 errs_all errs_lt (by kernel_rfl) hk (FnsOk.cons (hT.ok fit) ((q44_ok hL))) hv ⟨_, Tryd.func3, rfl⟩ run109
noncomputable def q45 : Fns := [(5, pureFn [p0]), (8, frameFn [m166]), (21, frameFn [m6]), (51, itoaFn), (114, countFn), (129, indexFn)]
theorem q45_ok {σ : Nat → Int} {W0 : World} (hL : L0 W0) : FnsOk Tryd.prog 4095 σ W0 q45 := FnsOk.cons (pure_fn_ok (all_cons (p0_ok hL) (all_nil))) (FnsOk.cons (frame_fn_ok (all_cons (m166_ok hL) (all_nil))) (FnsOk.cons (frame_fn_ok (all_cons (m6_ok hL) (all_nil))) (FnsOk.cons (ext_itoa hL) (FnsOk.cons (ext_count hL) (FnsOk.cons (ext_index hL) (FnsOk.nil))))))
theorem run110 : isTrue (evCall (cxX Tryd.prog bad [] [] ((6, numExtE [(0, 10, .lit 6), (1, 60, .lit 2)]) :: q45)) 1000 60 3 [.int .i64 (.var 0), .int .i64 (.var 1), .int .i64 (.var 2)] (sentH 240 18 errTab)) = true := by kernel_rfl
theorem case110 {σ : Nat → Int} {W : World} (hL : L0 W) (hk : Known2 σ [] []) (hT : TabOk Tryd.prog bad 6 σ [(0, 10, .lit 6), (1, 60, .lit 2)]) {xs : Array Value} (hv : ∀ ρ, VRs σ ρ [.int .i64 (.var 0), .int .i64 (.var 1), .int .i64 (.var 2)] xs.toList) : Calls Tryd.prog 3 xs W fun e w' => e = .returned (.bool true) ∧ Below W.heap.size W w' := by
  obtain ⟨ads, h1, h2, h3⟩ := errs_sents hL
  exact law_case_x fit h1 h2 h3 errs_all errs_lt (by kernel_rfl) hk (FnsOk.cons (hT.ok fit) ((q45_ok hL))) hv ⟨_, Tryd.func3, rfl⟩ run110
noncomputable def q46 : Fns := [(5, pureFn [p0]), (8, frameFn [m166]), (21, frameFn [m7]), (51, itoaFn), (114, countFn), (129, indexFn)]
theorem q46_ok {σ : Nat → Int} {W0 : World} (hL : L0 W0) : FnsOk Tryd.prog 4095 σ W0 q46 := FnsOk.cons (pure_fn_ok (all_cons (p0_ok hL) (all_nil))) (FnsOk.cons (frame_fn_ok (all_cons (m166_ok hL) (all_nil))) (FnsOk.cons (frame_fn_ok (all_cons (m7_ok hL) (all_nil))) (FnsOk.cons (ext_itoa hL) (FnsOk.cons (ext_count hL) (FnsOk.cons (ext_index hL) (FnsOk.nil))))))
theorem run111 : isTrue (evCall (cxX Tryd.prog bad [] [] ((6, numExtE [(0, 10, .lit 6), (1, 60, .lit 3)]) :: q46)) 1000 60 3 [.int .i64 (.var 0), .int .i64 (.var 1), .int .i64 (.var 2)] (sentH 240 18 errTab)) = true := by kernel_rfl
theorem case111 {σ : Nat → Int} {W : World} (hL : L0 W) (hk : Known2 σ [] []) (hT : TabOk Tryd.prog bad 6 σ [(0, 10, .lit 6), (1, 60, .lit 3)]) {xs : Array Value} (hv : ∀ ρ, VRs σ ρ [.int .i64 (.var 0), .int .i64 (.var 1), .int .i64 (.var 2)] xs.toList) : Calls Tryd.prog 3 xs W fun e w' => e = .returned (.bool true) ∧ Below W.heap.size W w' := by
  obtain ⟨ads, h1, h2, h3⟩ := errs_sents hL
  exact law_case_x fit h1 h2 h3 errs_all errs_lt (by kernel_rfl) hk (FnsOk.cons (hT.ok fit) ((q46_ok hL))) hv ⟨_, Tryd.func3, rfl⟩ run111
noncomputable def q47 : Fns := [(5, pureFn [p0]), (8, frameFn [m166]), (51, itoaFn), (114, countFn), (129, indexFn)]
theorem q47_ok {σ : Nat → Int} {W0 : World} (hL : L0 W0) : FnsOk Tryd.prog 4095 σ W0 q47 := FnsOk.cons (pure_fn_ok (all_cons (p0_ok hL) (all_nil))) (FnsOk.cons (frame_fn_ok (all_cons (m166_ok hL) (all_nil))) (FnsOk.cons (ext_itoa hL) (FnsOk.cons (ext_count hL) (FnsOk.cons (ext_index hL) (FnsOk.nil)))))
theorem run112 : isTrue (evCall (cxX Tryd.prog bad [] [] ((6, numExtE [(0, 10, .lit 6), (1, 60, .lit 4)]) :: (21, frameFn [m22, m23]) :: q47)) 1000 60 3 [.int .i64 (.var 0), .int .i64 (.var 1), .int .i64 (.var 2)] (sentH 240 18 errTab)) = true := by kernel_rfl
theorem case112 {σ : Nat → Int} {W : World} (hL : L0 W) (hk : Known2 σ [] []) (hT : TabOk Tryd.prog bad 6 σ [(0, 10, .lit 6), (1, 60, .lit 4)]) {xs : Array Value} (hv : ∀ ρ, VRs σ ρ [.int .i64 (.var 0), .int .i64 (.var 1), .int .i64 (.var 2)] xs.toList) : Calls Tryd.prog 3 xs W fun e w' => e = .returned (.bool true) ∧ Below W.heap.size W w' := by
  obtain ⟨ads, h1, h2, h3⟩ := errs_sents hL
  exact law_case_x fit h1 h2 h3 errs_all errs_lt (by kernel_rfl) hk (FnsOk.cons (hT.ok fit) (FnsOk.cons (frame_fn_ok (all_cons (m22_ok hL) (all_cons (m23_ok hL) (all_nil)))) ((q47_ok hL)))) hv ⟨_, Tryd.func3, rfl⟩ run112
theorem run113 : isTrue (evCall (cxX Tryd.prog bad [] [] ((6, numExtE [(0, 10, .lit 6), (1, 60, .lit 5)]) :: (21, frameFn [m24, m25]) :: q47)) 1000 60 3 [.int .i64 (.var 0), .int .i64 (.var 1), .int .i64 (.var 2)] (sentH 240 18 errTab)) = true := by kernel_rfl
theorem case113 {σ : Nat → Int} {W : World} (hL : L0 W) (hk : Known2 σ [] []) (hT : TabOk Tryd.prog bad 6 σ [(0, 10, .lit 6), (1, 60, .lit 5)]) {xs : Array Value} (hv : ∀ ρ, VRs σ ρ [.int .i64 (.var 0), .int .i64 (.var 1), .int .i64 (.var 2)] xs.toList) : Calls Tryd.prog 3 xs W fun e w' => e = .returned (.bool true) ∧ Below W.heap.size W w' := by
  obtain ⟨ads, h1, h2, h3⟩ := errs_sents hL
  exact law_case_x fit h1 h2 h3 errs_all errs_lt (by kernel_rfl) hk (FnsOk.cons (hT.ok fit) (FnsOk.cons (frame_fn_ok (all_cons (m24_ok hL) (all_cons (m25_ok hL) (all_nil)))) ((q47_ok hL)))) hv ⟨_, Tryd.func3, rfl⟩ run113
theorem run114 : isTrue (evCall (cxX Tryd.prog bad [] [] ((6, numExtE [(0, 10, .lit 6), (1, 60, .lit 6)]) :: (21, frameFn [m26, m29]) :: q47)) 1000 60 3 [.int .i64 (.var 0), .int .i64 (.var 1), .int .i64 (.var 2)] (sentH 240 18 errTab)) = true := by kernel_rfl
theorem case114 {σ : Nat → Int} {W : World} (hL : L0 W) (hk : Known2 σ [] []) (hT : TabOk Tryd.prog bad 6 σ [(0, 10, .lit 6), (1, 60, .lit 6)]) {xs : Array Value} (hv : ∀ ρ, VRs σ ρ [.int .i64 (.var 0), .int .i64 (.var 1), .int .i64 (.var 2)] xs.toList) : Calls Tryd.prog 3 xs W fun e w' => e = .returned (.bool true) ∧ Below W.heap.size W w' := by
  obtain ⟨ads, h1, h2, h3⟩ := errs_sents hL
  exact law_case_x fit h1 h2 h3 errs_all errs_lt (by kernel_rfl) hk (FnsOk.cons (hT.ok fit) (FnsOk.cons (frame_fn_ok (all_cons (m26_ok hL) (all_cons (m29_ok hL) (all_nil)))) ((q47_ok hL)))) hv ⟨_, Tryd.func3, rfl⟩ run114
theorem run115 : isTrue (evCall (cxX Tryd.prog bad [] [] ((6, numExtE [(0, 10, .lit 6), (1, 60, .lit 7)]) :: (21, frameFn [m30, m31]) :: q47)) 1000 60 3 [.int .i64 (.var 0), .int .i64 (.var 1), .int .i64 (.var 2)] (sentH 240 18 errTab)) = true := by kernel_rfl
theorem case115 {σ : Nat → Int} {W : World} (hL : L0 W) (hk : Known2 σ [] []) (hT : TabOk Tryd.prog bad 6 σ [(0, 10, .lit 6), (1, 60, .lit 7)]) {xs : Array Value} (hv : ∀ ρ, VRs σ ρ [.int .i64 (.var 0), .int .i64 (.var 1), .int .i64 (.var 2)] xs.toList) : Calls Tryd.prog 3 xs W fun e w' => e = .returned (.bool true) ∧ Below W.heap.size W w' := by
  obtain ⟨ads, h1, h2, h3⟩ := errs_sents hL
  exact law_case_x fit h1 h2 h3 errs_all errs_lt (by kernel_rfl) hk (FnsOk.cons (hT.ok fit) (FnsOk.cons (frame_fn_ok (all_cons (m30_ok hL) (all_cons (m31_ok hL) (all_nil)))) ((q47_ok hL)))) hv ⟨_, Tryd.func3, rfl⟩ run115
theorem run116 : isTrue (evCall (cxX Tryd.prog bad [] [] ((6, numExtE [(0, 10, .lit 6), (1, 60, .lit 8)]) :: (21, frameFn [m41, m42, m43]) :: q47)) 1000 60 3 [.int .i64 (.var 0), .int .i64 (.var 1), .int .i64 (.var 2)] (sentH 240 18 errTab)) = true := by kernel_rfl
theorem case116 {σ : Nat → Int} {W : World} (hL : L0 W) (hk : Known2 σ [] []) (hT : TabOk Tryd.prog bad 6 σ [(0, 10, .lit 6), (1, 60, .lit 8)]) {xs : Array Value} (hv : ∀ ρ, VRs σ ρ [.int .i64 (.var 0), .int .i64 (.var 1), .int .i64 (.var 2)] xs.toList) : Calls Tryd.prog 3 xs W fun e w' => e = .returned (.bool true) ∧ Below W.heap.size W w' := by
  obtain ⟨ads, h1, h2, h3⟩ := errs_sents hL
  exact law_case_x fit h1 h2 h3 errs_all errs_lt (by kernel_rfl) hk (FnsOk.cons (hT.ok fit) (FnsOk.cons (frame_fn_ok (all_cons (m41_ok hL) (all_cons (m42_ok hL) (all_cons (m43_ok hL) (all_nil))))) ((q47_ok hL)))) hv ⟨_, Tryd.func3, rfl⟩ run116
theorem run117 : isTrue (evCall (cxX Tryd.prog bad [] [] ((6, numExtE [(0, 10, .lit 6), (1, 60, .lit 9)]) :: (21, frameFn [m44, m45, m46]) :: q47)) 1000 60 3 [.int .i64 (.var 0), .int .i64 (.var 1), .int .i64 (.var 2)] (sentH 240 18 errTab)) = true := by kernel_rfl
theorem case117 {σ : Nat → Int} {W : World} (hL : L0 W) (hk : Known2 σ [] []) (hT : TabOk Tryd.prog bad 6 σ [(0, 10, .lit 6), (1, 60, .lit 9)]) {xs : Array Value} (hv : ∀ ρ, VRs σ ρ [.int .i64 (.var 0), .int .i64 (.var 1), .int .i64 (.var 2)] xs.toList) : Calls Tryd.prog 3 xs W fun e w' => e = .returned (.bool true) ∧ Below W.heap.size W w' := by
  obtain ⟨ads, h1, h2, h3⟩ := errs_sents hL
  exact law_case_x fit h1 h2 h3 errs_all errs_lt (by kernel_rfl) hk (FnsOk.cons (hT.ok fit) (FnsOk.cons (frame_fn_ok (all_cons (m44_ok hL) (all_cons (m45_ok hL) (all_cons (m46_ok hL) (all_nil))))) ((q47_ok hL)))) hv ⟨_, Tryd.func3, rfl⟩ run117
theorem run118 : isTrue (evCall (cxX Tryd.prog bad [] [] ((6, numExtE [(0, 10, .lit 6), (1, 60, .lit 10)]) :: (21, frameFn [m47, m48, m51]) :: q47)) 1000 60 3 [.int .i64 (.var 0), .int .i64 (.var 1), .int .i64 (.var 2)] (sentH 240 18 errTab)) = true := by kernel_rfl
theorem case118 {σ : Nat → Int} {W : World} (hL : L0 W) (hk : Known2 σ [] []) (hT : TabOk Tryd.prog bad 6 σ [(0, 10, .lit 6), (1, 60, .lit 10)]) {xs : Array Value} (hv : ∀ ρ, VRs σ ρ [.int .i64 (.var 0), .int .i64 (.var 1), .int .i64 (.var 2)] xs.toList) : Calls Tryd.prog 3 xs W fun e w' => e = .returned (.bool true) ∧ Below W.heap.size W w' := by
  obtain ⟨ads, h1, h2, h3⟩ := errs_sents hL
  exact law_case_x fit h1 h2 h3 errs_all errs_lt (by kernel_rfl) hk (FnsOk.cons (hT.ok fit) (FnsOk.cons (frame_fn_ok (all_cons (m47_ok hL) (all_cons (m48_ok hL) (all_cons (m51_ok hL) (all_nil))))) ((q47_ok hL)))) hv ⟨_, Tryd.func3, rfl⟩ run118
theorem run119 : isTrue (evCall (cxX Tryd.prog bad [] [] ((6, numExtE [(0, 10, .lit 6), (1, 60, .lit 11)]) :: (21, frameFn [m52, m53, m54]) :: q47)) 1000 60 3 [.int .i64 (.var 0), .int .i64 (.var 1), .int .i64 (.var 2)] (sentH 240 18 errTab)) = true := by kernel_rfl
theorem case119 {σ : Nat → Int} {W : World} (hL : L0 W) (hk : Known2 σ [] []) (hT : TabOk Tryd.prog bad 6 σ [(0, 10, .lit 6), (1, 60, .lit 11)]) {xs : Array Value} (hv : ∀ ρ, VRs σ ρ [.int .i64 (.var 0), .int .i64 (.var 1), .int .i64 (.var 2)] xs.toList) : Calls Tryd.prog 3 xs W fun e w' => e = .returned (.bool true) ∧ Below W.heap.size W w' := by
  obtain ⟨ads, h1, h2, h3⟩ := errs_sents hL
  exact law_case_x fit h1 h2 h3 errs_all errs_lt (by kernel_rfl) hk (FnsOk.cons (hT.ok fit) (FnsOk.cons (frame_fn_ok (all_cons (m52_ok hL) (all_cons (m53_ok hL) (all_cons (m54_ok hL) (all_nil))))) ((q47_ok hL)))) hv ⟨_, Tryd.func3, rfl⟩ run119
theorem run120 : isTrue (evCall (cxX Tryd.prog bad [] [] ((6, numExtE [(0, 10, .lit 6), (1, 60, .lit 12)]) :: (21, frameFn l9) :: q47)) 1000 60 3 [.int .i64 (.var 0), .int .i64 (.var 1), .int .i64 (.var 2)] (sentH 240 18 errTab)) = true := by kernel_rfl
theorem case120 {σ : Nat → Int} {W : World} (hL : L0 W) (hk : Known2 σ [] []) (hT : TabOk Tryd.prog bad 6 σ [(0, 10, .lit 6), (1, 60, .lit 12)]) {xs : Array Value} (hv : ∀ ρ, VRs σ ρ [.int .i64 (.var 0), .int .i64 (.var 1), .int .i64 (.var 2)] xs.toList) : Calls Tryd.prog 3 xs W fun e w' => e = .returned (.bool true) ∧ Below W.heap.size W w' := by
  obtain ⟨ads, h1, h2, h3⟩ := errs_sents hL
  exact law_case_x fit h1 h2 h3 errs_all errs_lt (by kernel_rfl) hk (FnsOk.cons (hT.ok fit) (FnsOk.cons (frame_fn_ok (l9_ok hL)) ((q47_ok hL)))) hv ⟨_, Tryd.func3, rfl⟩ run120
theorem run121 : isTrue (evCall (cxX Tryd.prog bad [] [] ((6, numExtE [(0, 10, .lit 6), (1, 60, .lit 13)]) :: (21, frameFn l10) :: q47)) 1000 60 3 [.int .i64 (.var 0), .int .i64 (.var 1), .int .i64 (.var 2)] (sentH 240 18 errTab)) = true := by kernel_rfl
theorem case121 {σ : Nat → Int} {W : World} (hL : L0 W) (hk : Known2 σ [] []) (hT : TabOk Tryd.prog bad 6 σ [(0, 10, .lit 6), (1, 60, .lit 13)]) {xs : Array Value} (hv : ∀ ρ, VRs σ ρ [.int .i64 (.var 0), .int .i64 (.var 1), .int .i64 (.var 2)] xs.toList) : Calls Tryd.prog 3 xs W fun e w' => e = .returned (.bool true) ∧ Below W.heap.size W w' := by
  obtain ⟨ads, h1, h2, h3⟩ := errs_sents hL
  exact law_case_x fit h1 h2 h3 errs_all errs_lt (by kernel_rfl) hk (FnsOk.cons (hT.ok fit) (FnsOk.cons (frame_fn_ok (l10_ok hL)) ((q47_ok hL)))) hv ⟨_, Tryd.func3, rfl⟩ run121
theorem run122 : isTrue (evCall (cxX Tryd.prog bad [] [] ((6, numExtE [(0, 10, .lit 6), (1, 60, .lit 14)]) :: (21, frameFn l11) :: q47)) 1000 60 3 [.int .i64 (.var 0), .int .i64 (.var 1), .int .i64 (.var 2)] (sentH 240 18 errTab)) = true := by kernel_rfl
theorem case122 {σ : Nat → Int} {W : World} (hL : L0 W) (hk : Known2 σ [] []) (hT : TabOk Tryd.prog bad 6 σ [(0, 10, .lit 6), (1, 60, .lit 14)]) {xs : Array Value} (hv : ∀ ρ, VRs σ ρ [.int .i64 (.var 0), .int .i64 (.var 1), .int .i64 (.var 2)] xs.toList) : Calls Tryd.prog 3 xs W fun e w' => e = .returned (.bool true) ∧ Below W.heap.size W w' := by
  obtain ⟨ads, h1, h2, h3⟩ := errs_sents hL
  exact law_case_x fit h1 h2 h3 errs_all errs_lt (by kernel_rfl) hk (FnsOk.cons (hT.ok fit) (FnsOk.cons (frame_fn_ok (l11_ok hL)) ((q47_ok hL)))) hv ⟨_, Tryd.func3, rfl⟩ run122
theorem run123 : isTrue (evCall (cxX Tryd.prog bad [] [] ((6, numExtE [(0, 10, .lit 6), (1, 60, .lit 15)]) :: (21, frameFn l12) :: q47)) 1000 60 3 [.int .i64 (.var 0), .int .i64 (.var 1), .int .i64 (.var 2)] (sentH 240 18 errTab)) = true := by kernel_rfl
theorem case123 {σ : Nat → Int} {W : World} (hL : L0 W) (hk : Known2 σ [] []) (hT : TabOk Tryd.prog bad 6 σ [(0, 10, .lit 6), (1, 60, .lit 15)]) {xs : Array Value} (hv : ∀ ρ, VRs σ ρ [.int .i64 (.var 0), .int .i64 (.var 1), .int .i64 (.var 2)] xs.toList) : Calls Tryd.prog 3 xs W fun e w' => e = .returned (.bool true) ∧ Below W.heap.size W w' := by
  obtain ⟨ads, h1, h2, h3⟩ := errs_sents hL
  exact law_case_x fit h1 h2 h3 errs_all errs_lt (by kernel_rfl) hk (FnsOk.cons (hT.ok fit) (FnsOk.cons (frame_fn_ok (l12_ok hL)) ((q47_ok hL)))) hv ⟨_, Tryd.func3, rfl⟩ run123
theorem run124 : isTrue (evCall (cxX Tryd.prog bad [] [] ((6, numExtE [(0, 10, .lit 6), (1, 60, .lit 16)]) :: (21, frameFn l16) :: q47)) 1000 60 3 [.int .i64 (.var 0), .int .i64 (.var 1), .int .i64 (.var 2)] (sentH 240 18 errTab)) = true := by kernel_rfl
theorem case124 {σ : Nat → Int} {W : World} (hL : L0 W) (hk : Known2 σ [] []) (hT : TabOk Tryd.prog bad 6 σ [(0, 10, .lit 6), (1, 60, .lit 16)]) {xs : Array Value} (hv : ∀ ρ, VRs σ ρ [.int .i64 (.var 0), .int .i64 (.var 1), .int .i64 (.var 2)] xs.toList) : Calls Tryd.prog 3 xs W fun e w' => e = .returned (.bool true) ∧ Below W.heap.size W w' := by
  obtain ⟨ads, h1, h2, h3⟩ := errs_sents hL
  exact law_case_x fit h1 h2 h3 errs_all errs_lt (by kernel_rfl) hk (FnsOk.cons (hT.ok fit) (FnsOk.cons (frame_fn_ok (l16_ok hL)) ((q47_ok hL)))) hv ⟨_, Tryd.func3, rfl⟩ run124
theorem run125 : isTrue (evCall (cxX Tryd.prog bad [] [] ((6, numExtE [(0, 10, .lit 6), (1, 60, .lit 17)]) :: (21, frameFn l17) :: q47)) 1000 60 3 [.int .i64 (.var 0), .int .i64 (.var 1), .int .i64 (.var 2)] (sentH 240 18 errTab)) = true := by kernel_rfl
theorem case125 {σ : Nat → Int} {W : World} (hL : L0 W) (hk : Known2 σ [] []) (hT : TabOk Tryd.prog bad 6 σ [(0, 10, .lit 6), (1, 60, .lit 17)]) {xs : Array Value} (hv : ∀ ρ, VRs σ ρ [.int .i64 (.var 0), .int .i64 (.var 1), .int .i64 (.var 2)] xs.toList) : Calls Tryd.prog 3 xs W fun e w' => e = .returned (.bool true) ∧ Below W.heap.size W w' := by
  obtain ⟨ads, h1, h2, h3⟩ := errs_sents hL
  exact law_case_x fit h1 h2 h3 errs_all errs_lt (by kernel_rfl) hk (FnsOk.cons (hT.ok fit) (FnsOk.cons (frame_fn_ok (l17_ok hL)) ((q47_ok hL)))) hv ⟨_, Tryd.func3, rfl⟩ run125
theorem run126 : isTrue (evCall (cxX Tryd.prog bad [] [] ((6, numExtE [(0, 10, .lit 6), (1, 60, .lit 18)]) :: (21, frameFn l18) :: q47)) 1000 60 3 [.int .i64 (.var 0), .int .i64 (.var 1), .int .i64 (.var 2)] (sentH 240 18 errTab)) = true := by kernel_rfl
theorem case126 {σ : Nat → Int} {W : World} (hL : L0 W) (hk : Known2 σ [] []) (hT : TabOk Tryd.prog bad 6 σ [(0, 10, .lit 6), (1, 60, .lit 18)]) {xs : Array Value} (hv : ∀ ρ, VRs σ ρ [.int .i64 (.var 0), .int .i64 (.var 1), .int .i64 (.var 2)] xs.toList) : Calls Tryd.prog 3 xs W fun e w' => e = .returned (.bool true) ∧ Below W.heap.size W w' := by
  obtain ⟨ads, h1, h2, h3⟩ := errs_sents hL
  exact law_case_x fit h1 h2 h3 errs_all errs_lt (by kernel_rfl) hk (FnsOk.cons (hT.ok fit) (FnsOk.cons (frame_fn_ok (l18_ok hL)) ((q47_ok hL)))) hv ⟨_, Tryd.func3, rfl⟩ run126
theorem run127 : isTrue (evCall (cxX Tryd.prog bad [] [] ((6, numExtE [(0, 10, .lit 6), (1, 60, .lit 19)]) :: (21, frameFn l19) :: q47)) 1000 60 3 [.int .i64 (.var 0), .int .i64 (.var 1), .int .i64 (.var 2)] (sentH 240 18 errTab)) = true := by kernel_rfl
theorem case127 {σ : Nat → Int} {W : World} (hL : L0 W) (hk : Known2 σ [] []) (hT : TabOk Tryd.prog bad 6 σ [(0, 10, .lit 6), (1, 60, .lit 19)]) {xs : Array Value} (hv : ∀ ρ, VRs σ ρ [.int .i64 (.var 0), .int .i64 (.var 1), .int .i64 (.var 2)] xs.toList) : Calls Tryd.prog 3 xs W fun e w' => e = .returned (.bool true) ∧ Below W.heap.size W w' := by
  obtain ⟨ads, h1, h2, h3⟩ := errs_sents hL
  exact law_case_x fit h1 h2 h3 errs_all errs_lt (by kernel_rfl) hk (FnsOk.cons (hT.ok fit) (FnsOk.cons (frame_fn_ok (l19_ok hL)) ((q47_ok hL)))) hv ⟨_, Tryd.func3, rfl⟩ run127
theorem run128 : isTrue (evCall (cxX Tryd.prog bad [] [] ((6, numExtE [(0, 10, .lit 6), (1, 60, .lit 20)]) :: (21, frameFn l23) :: q47)) 1000 60 3 [.int .i64 (.var 0), .int .i64 (.var 1), .int .i64 (.var 2)] (sentH 240 18 errTab)) = true := by kernel_rfl
theorem case128 {σ : Nat → Int} {W : World} (hL : L0 W) (hk : Known2 σ [] []) (hT : TabOk Tryd.prog bad 6 σ [(0, 10, .lit 6), (1, 60, .lit 20)]) {xs : Array Value} (hv : ∀ ρ, VRs σ ρ [.int .i64 (.var 0), .int .i64 (.var 1), .int .i64 (.var 2)] xs.toList) : Calls Tryd.prog 3 xs W fun e w' => e = .returned (.bool true) ∧ Below W.heap.size W w' := by
  obtain ⟨ads, h1, h2, h3⟩ := errs_sents hL
  exact law_case_x fit h1 h2 h3 errs_all errs_lt (by kernel_rfl) hk (FnsOk.cons (hT.ok fit) (FnsOk.cons (frame_fn_ok (l23_ok hL)) ((q47_ok hL)))) hv ⟨_, Tryd.func3, rfl⟩ run128
theorem run129 : isTrue (evCall (cxX Tryd.prog bad [] [] ((6, numExtE [(0, 10, .lit 6), (1, 60, .lit 21)]) :: (21, frameFn l24) :: q47)) 1000 60 3 [.int .i64 (.var 0), .int .i64 (.var 1), .int .i64 (.var 2)] (sentH 240 18 errTab)) = true := by kernel_rfl
theorem case129 {σ : Nat → Int} {W : World} (hL : L0 W) (hk : Known2 σ [] []) (hT : TabOk Tryd.prog bad 6 σ [(0, 10, .lit 6), (1, 60, .lit 21)]) {xs : Array Value} (hv : ∀ ρ, VRs σ ρ [.int .i64 (.var 0), .int .i64 (.var 1), .int .i64 (.var 2)] xs.toList) : Calls Tryd.prog 3 xs W fun e w' => e = .returned (.bool true) ∧ Below W.heap.size W w' := by
  obtain ⟨ads, h1, h2, h3⟩ := errs_sents hL
  exact law_case_x fit h1 h2 h3 errs_all errs_lt (by kernel_rfl) hk (FnsOk.cons (hT.ok fit) (FnsOk.cons (frame_fn_ok (l24_ok hL)) ((q47_ok hL)))) hv ⟨_, Tryd.func3, rfl⟩ run129
theorem run130 : isTrue (evCall (cxX Tryd.prog bad [] [] ((6, numExtE [(0, 10, .lit 6), (1, 60, .lit 22)]) :: (21, frameFn l25) :: q47)) 1000 60 3 [.int .i64 (.var 0), .int .i64 (.var 1), .int .i64 (.var 2)] (sentH 240 18 errTab)) = true := by kernel_rfl
theorem case130 {σ : Nat → Int} {W : World} (hL : L0 W) (hk : Known2 σ [] []) (hT : TabOk Tryd.prog bad 6 σ [(0, 10, .lit 6), (1, 60, .lit 22)]) {xs : Array Value} (hv : ∀ ρ, VRs σ ρ [.int .i64 (.var 0), .int .i64 (.var 1), .int .i64 (.var 2)] xs.toList) : Calls Tryd.prog 3 xs W fun e w' => e = .returned (.bool true) ∧ Below W.heap.size W w' := by
  obtain ⟨ads, h1, h2, h3⟩ := errs_sents hL
  exact law_case_x fit h1 h2 h3 errs_all errs_lt (by kernel_rfl) hk (FnsOk.cons (hT.ok fit) (FnsOk.cons (frame_fn_ok (l25_ok hL)) ((q47_ok hL)))) hv ⟨_, Tryd.func3, rfl⟩ run130
theorem run131 : isTrue (evCall (cxX Tryd.prog bad [] [] ((6, numExtE [(0, 10, .lit 6), (1, 60, .lit 23)]) :: (21, frameFn l26) :: q47)) 1000 60 3 [.int .i64 (.var 0), .int .i64 (.var 1), .int .i64 (.var 2)] (sentH 240 18 errTab)) = true := by kernel_rfl
theorem case131 {σ : Nat → Int} {W : World} (hL : L0 W) (hk : Known2 σ [] []) (hT : TabOk Tryd.prog bad 6 σ [(0, 10, .lit 6), (1, 60, .lit 23)]) {xs : Array Value} (hv : ∀ ρ, VRs σ ρ [.int .i64 (.var 0), .int .i64 (.var 1), .int .i64 (.var 2)] xs.toList) : Calls Tryd.prog 3 xs W fun e w' => e = .returned (.bool true) ∧ Below W.heap.size W w' := by
  obtain ⟨ads, h1, h2, h3⟩ := errs_sents hL
  exact law_case_x fit h1 h2 h3 errs_all errs_lt (by kernel_rfl) hk (FnsOk.cons (hT.ok fit) (FnsOk.cons (frame_fn_ok (l26_ok hL)) ((q47_ok hL)))) hv ⟨_, Tryd.func3, rfl⟩ run131
noncomputable def h225 : H := hUpd h192 343 [] [] [(303, 0, [IZ (-1), I 24, I 0])]
noncomputable def h226 : H := hUpd h193 818 [] [] [(303, 0, [IZ (-1), I 24, I 4])]
noncomputable def m167 : Memo := ⟨[.ptr 311 0, .agg [.slice 30 0 1 1 1 true, I 1, .snil, bF]], h225, .tuple [I 0, .inil], h226⟩
theorem m167_run : ranTo (evCall (cxX Tryd.prog bad [] [] ((44, pureFn l0) :: q0)) 1000 60 21 m167.args m167.h) m167.v m167.h' = true := by kernel_rfl
theorem m167_ok {σ : Nat → Int} {W0 : World} (hL : L0 W0) : MemoOk Tryd.prog 4095 σ W0 21 m167 := memo_ok fit (Known2.nil σ) (FnsOk.cons (pure_fn_ok (l0_ok hL)) ((q0_ok hL))) m167_run
noncomputable def h227 : H := hUpd h194 821 [] [] [(303, 0, [IZ (-1), I 24, I 4])]
noncomputable def h228 : H := hUpd h195 1296 [] [] [(303, 0, [IZ (-1), I 24, I 8])]
noncomputable def m168 : Memo := ⟨[.ptr 311 0, .agg [.slice 33 0 1 1 1 true, I 1, .snil, bF]], h227, .tuple [I 1, .inil], h228⟩
theorem m168_run : ranTo (evCall (cxX Tryd.prog bad [] [] ((44, pureFn l3) :: q0)) 1000 60 21 m168.args m168.h) m168.v m168.h' = true := by kernel_rfl
theorem m168_ok {σ : Nat → Int} {W0 : World} (hL : L0 W0) : MemoOk Tryd.prog 4095 σ W0 21 m168 := memo_ok fit (Known2.nil σ) (FnsOk.cons (pure_fn_ok (l3_ok hL)) ((q0_ok hL))) m168_run
noncomputable def h229 : H := hUpd h196 1299 [] [] [(303, 0, [IZ (-1), I 24, I 8])]
noncomputable def h230 : H := hUpd h197 1774 [] [] [(303, 0, [IZ (-1), I 24, I 12])]
noncomputable def m169 : Memo := ⟨[.ptr 311 0, .agg [.slice 36 0 1 1 1 true, I 1, .snil, bF]], h229, .tuple [I 2, .inil], h230⟩
theorem m169_run : ranTo (evCall (cxX Tryd.prog bad [] [] ((44, pureFn l6) :: q0)) 1000 60 21 m169.args m169.h) m169.v m169.h' = true := by kernel_rfl
theorem m169_ok {σ : Nat → Int} {W0 : World} (hL : L0 W0) : MemoOk Tryd.prog 4095 σ W0 21 m169 := memo_ok fit (Known2.nil σ) (FnsOk.cons (pure_fn_ok (l6_ok hL)) ((q0_ok hL))) m169_run
noncomputable def h231 : H := hUpd h198 1777 [] [] [(303, 0, [IZ (-1), I 24, I 12])]
noncomputable def h232 : H := hUpd h199 2252 [] [] [(303, 0, [IZ (-1), I 24, I 16])]
noncomputable def m170 : Memo := ⟨[.ptr 311 0, .agg [.slice 39 0 1 1 1 true, I 1, .snil, bF]], h231, .tuple [I 3, .inil], h232⟩
theorem m170_run : ranTo (evCall (cxX Tryd.prog bad [] [] ((44, pureFn l13) :: q0)) 1000 60 21 m170.args m170.h) m170.v m170.h' = true := by kernel_rfl
theorem m170_ok {σ : Nat → Int} {W0 : World} (hL : L0 W0) : MemoOk Tryd.prog 4095 σ W0 21 m170 := memo_ok fit (Known2.nil σ) (FnsOk.cons (pure_fn_ok (l13_ok hL)) ((q0_ok hL))) m170_run
noncomputable def h233 : H := hUpd h200 2255 [] [] [(303, 0, [IZ (-1), I 24, I 16])]
noncomputable def h234 : H := hUpd h201 2730 [] [] [(303, 0, [IZ (-1), I 24, I 20])]
noncomputable def m171 : Memo := ⟨[.ptr 311 0, .agg [.slice 42 0 1 1 1 true, I 1, .snil, bF]], h233, .tuple [I 4, .inil], h234⟩
theorem m171_run : ranTo (evCall (cxX Tryd.prog bad [] [] ((44, pureFn l20) :: q0)) 1000 60 21 m171.args m171.h) m171.v m171.h' = true := by kernel_rfl
theorem m171_ok {σ : Nat → Int} {W0 : World} (hL : L0 W0) : MemoOk Tryd.prog 4095 σ W0 21 m171 := memo_ok fit (Known2.nil σ) (FnsOk.cons (pure_fn_ok (l20_ok hL)) ((q0_ok hL))) m171_run
noncomputable def h235 : H := hUpd h202 2733 [] [] [(303, 0, [IZ (-1), I 24, I 20])]
noncomputable def h236 : H := hUpd h217 3208 [] [] [(303, 0, [IZ (-1), I 24, I 24])]
noncomputable def m172 : Memo := ⟨[.ptr 311 0, .agg [.slice 45 0 1 1 1 true, I 1, .snil, bF]], h235, .tuple [I 5, .inil], h236⟩
theorem m172_run : ranTo (evCall (cxX Tryd.prog bad [] [] ((44, pureFn l27) :: q0)) 1000 60 21 m172.args m172.h) m172.v m172.h' = true := by kernel_rfl
theorem m172_ok {σ : Nat → Int} {W0 : World} (hL : L0 W0) : MemoOk Tryd.prog 4095 σ W0 21 m172 := memo_ok fit (Known2.nil σ) (FnsOk.cons (pure_fn_ok (l27_ok hL)) ((q0_ok hL))) m172_run
noncomputable def h237 : H := hUpd h236 3211 [45] [(48, .cells 1 ([[U 6]]) false)] []
noncomputable def h238 : H := hUpd h237 3242 [] [] []
noncomputable def m173 : Memo := ⟨[.ptr 311 0, .agg [.slice 48 0 1 1 1 true, I 1, .snil, bF]], h237, .tuple [I 0, .iface 240 (.ptr 24 0)], h238⟩
theorem m173_run : ranTo (evCall (cxX Tryd.prog bad [] [] q0) 1000 60 21 m173.args m173.h) m173.v m173.h' = true := by kernel_rfl
theorem m173_ok {σ : Nat → Int} {W0 : World} (hL : L0 W0) : MemoOk Tryd.prog 4095 σ W0 21 m173 := memo_ok fit (Known2.nil σ) ((q0_ok hL)) m173_run
noncomputable def l30 : List (Memo) := m173 :: m172 :: m171 :: m170 :: m169 :: m168 :: m167 :: []
theorem l30_ok {σ : Nat → Int} {W0 : World} (hL : L0 W0) : ∀ x ∈ l30, MemoOk Tryd.prog 4095 σ W0 21 x := all_cons (m173_ok hL) (all_cons (m172_ok hL) (all_cons (m171_ok hL) (all_cons (m170_ok hL) (all_cons (m169_ok hL) (all_cons (m168_ok hL) (all_cons (m167_ok hL) (all_nil)))))))
theorem run132 : isTrue (evCall (cxX Tryd.prog bad [] [] ((6, numExtE [(0, 10, .lit 6), (1, 60, .lit 24)]) :: (21, frameFn l30) :: q47)) 1000 60 3 [.int .i64 (.var 0), .int .i64 (.var 1), .int .i64 (.var 2)] (sentH 240 18 errTab)) = true := by kernel_rfl
theorem case132 {σ : Nat → Int} {W : World} (hL : L0 W) (hk : Known2 σ [] []) (hT : TabOk Tryd.prog bad 6 σ [(0, 10, .lit 6), (1, 60, .lit 24)]) {xs : Array Value} (hv : ∀ ρ, VRs σ ρ [.int .i64 (.var 0), .int .i64 (.var 1), .int .i64 (.var 2)] xs.toList) : Calls Tryd.prog 3 xs W fun e w' => e = .returned (.bool true) ∧ Below W.heap.size W w' := by
  obtain ⟨ads, h1, h2, h3⟩ := errs_sents hL
  exact law_case_x fit h1 h2 h3 errs_all errs_lt (by kernel_rfl) hk (FnsOk.cons (hT.ok fit) (FnsOk.cons (frame_fn_ok (l30_ok hL)) ((q47_ok hL)))) hv ⟨_, Tryd.func3, rfl⟩ run132
noncomputable def h239 : H := hUpd h204 343 [] [] [(303, 0, [IZ (-1), I 25, I 0])]
noncomputable def h240 : H := hUpd h205 818 [] [] [(303, 0, [IZ (-1), I 25, I 4])]
noncomputable def m174 : Memo := ⟨[.ptr 311 0, .agg [.slice 30 0 1 1 1 true, I 1, .snil, bF]], h239, .tuple [I 0, .inil], h240⟩
theorem m174_run : ranTo (evCall (cxX Tryd.prog bad [] [] ((44, pureFn l0) :: q0)) 1000 60 21 m174.args m174.h) m174.v m174.h' = true := by kernel_rfl
theorem m174_ok {σ : Nat → Int} {W0 : World} (hL : L0 W0) : MemoOk Tryd.prog 4095 σ W0 21 m174 := memo_ok fit (Known2.nil σ) (FnsOk.cons (pure_fn_ok (l0_ok hL)) ((q0_ok hL))) m174_run
noncomputable def h241 : H := hUpd h206 821 [] [] [(303, 0, [IZ (-1), I 25, I 4])]
noncomputable def h242 : H := hUpd h207 1296 [] [] [(303, 0, [IZ (-1), I 25, I 8])]
noncomputable def m175 : Memo := ⟨[.ptr 311 0, .agg [.slice 33 0 1 1 1 true, I 1, .snil, bF]], h241, .tuple [I 1, .inil], h242⟩
theorem m175_run : ranTo (evCall (cxX Tryd.prog bad [] [] ((44, pureFn l3) :: q0)) 1000 60 21 m175.args m175.h) m175.v m175.h' = true := by kernel_rfl
theorem m175_ok {σ : Nat → Int} {W0 : World} (hL : L0 W0) : MemoOk Tryd.prog 4095 σ W0 21 m175 := memo_ok fit (Known2.nil σ) (FnsOk.cons (pure_fn_ok (l3_ok hL)) ((q0_ok hL))) m175_run
noncomputable def h243 : H := hUpd h208 1299 [] [] [(303, 0, [IZ (-1), I 25, I 8])]
noncomputable def h244 : H := hUpd h209 1774 [] [] [(303, 0, [IZ (-1), I 25, I 12])]
noncomputable def m176 : Memo := ⟨[.ptr 311 0, .agg [.slice 36 0 1 1 1 true, I 1, .snil, bF]], h243, .tuple [I 2, .inil], h244⟩
theorem m176_run : ranTo (evCall (cxX Tryd.prog bad [] [] ((44, pureFn l6) :: q0)) 1000 60 21 m176.args m176.h) m176.v m176.h' = true := by kernel_rfl
theorem m176_ok {σ : Nat → Int} {W0 : World} (hL : L0 W0) : MemoOk Tryd.prog 4095 σ W0 21 m176 := memo_ok fit (Known2.nil σ) (FnsOk.cons (pure_fn_ok (l6_ok hL)) ((q0_ok hL))) m176_run
noncomputable def h245 : H := hUpd h210 1777 [] [] [(303, 0, [IZ (-1), I 25, I 12])]
noncomputable def h246 : H := hUpd h211 2252 [] [] [(303, 0, [IZ (-1), I 25, I 16])]
noncomputable def m177 : Memo := ⟨[.ptr 311 0, .agg [.slice 39 0 1 1 1 true, I 1, .snil, bF]], h245, .tuple [I 3, .inil], h246⟩
theorem m177_run : ranTo (evCall (cxX Tryd.prog bad [] [] ((44, pureFn l13) :: q0)) 1000 60 21 m177.args m177.h) m177.v m177.h' = true := by kernel_rfl
theorem m177_ok {σ : Nat → Int} {W0 : World} (hL : L0 W0) : MemoOk Tryd.prog 4095 σ W0 21 m177 := memo_ok fit (Known2.nil σ) (FnsOk.cons (pure_fn_ok (l13_ok hL)) ((q0_ok hL))) m177_run
noncomputable def h247 : H := hUpd h212 2255 [] [] [(303, 0, [IZ (-1), I 25, I 16])]
noncomputable def h248 : H := hUpd h213 2730 [] [] [(303, 0, [IZ (-1), I 25, I 20])]
noncomputable def m178 : Memo := ⟨[.ptr 311 0, .agg [.slice 42 0 1 1 1 true, I 1, .snil, bF]], h247, .tuple [I 4, .inil], h248⟩
theorem m178_run : ranTo (evCall (cxX Tryd.prog bad [] [] ((44, pureFn l20) :: q0)) 1000 60 21 m178.args m178.h) m178.v m178.h' = true := by kernel_rfl
theorem m178_ok {σ : Nat → Int} {W0 : World} (hL : L0 W0) : MemoOk Tryd.prog 4095 σ W0 21 m178 := memo_ok fit (Known2.nil σ) (FnsOk.cons (pure_fn_ok (l20_ok hL)) ((q0_ok hL))) m178_run
noncomputable def h249 : H := hUpd h214 2733 [] [] [(303, 0, [IZ (-1), I 25, I 20])]
noncomputable def h250 : H := hUpd h217 3208 [] [] [(303, 0, [IZ (-1), I 25, I 24])]
noncomputable def m179 : Memo := ⟨[.ptr 311 0, .agg [.slice 45 0 1 1 1 true, I 1, .snil, bF]], h249, .tuple [I 5, .inil], h250⟩
theorem m179_run : ranTo (evCall (cxX Tryd.prog bad [] [] ((44, pureFn l27) :: q0)) 1000 60 21 m179.args m179.h) m179.v m179.h' = true := by kernel_rfl
theorem m179_ok {σ : Nat → Int} {W0 : World} (hL : L0 W0) : MemoOk Tryd.prog 4095 σ W0 21 m179 := memo_ok fit (Known2.nil σ) (FnsOk.cons (pure_fn_ok (l27_ok hL)) ((q0_ok hL))) m179_run
noncomputable def h251 : H := hUpd h237 3211 [] [] [(303, 0, [IZ (-1), I 25, I 24])]
noncomputable def h252 : H := hUpc h237 3305 [] [(304, .map [(.agg [I 3, I 0], .agg [I 0, I 0], 0), (.agg [I 3, I 1], .agg [I 0, I 0], 1), (.agg [I 2, I 0], .agg [I 0, I 0], 2), (.agg [I 4, I 0], .agg [I 0, I 0], 3), (.agg [I 3, I 2], .agg [I 0, I 0], 4), (.agg [I 3, I 3], .agg [I 0, I 0], 5), (.agg [I 2, I 1], .agg [I 0, I 0], 6), (.agg [I 4, I 1], .agg [I 0, I 0], 7), (.agg [I 3, I 4], .agg [I 0, I 0], 8), (.agg [I 3, I 5], .agg [I 0, I 0], 9), (.agg [I 2, I 2], .agg [I 0, I 0], 10), (.agg [I 4, I 2], .agg [I 0, I 0], 11), (.agg [I 3, I 6], .agg [I 0, I 0], 12), (.agg [I 3, I 7], .agg [I 0, I 0], 13), (.agg [I 2, I 3], .agg [I 0, I 0], 14), (.agg [I 4, I 3], .agg [I 0, I 0], 15), (.agg [I 3, I 8], .agg [I 0, I 0], 16), (.agg [I 3, I 9], .agg [I 0, I 0], 17), (.agg [I 2, I 4], .agg [I 0, I 0], 18), (.agg [I 4, I 4], .agg [I 0, I 0], 19), (.agg [I 3, I 10], .agg [I 0, I 0], 20), (.agg [I 3, I 11], .agg [I 0, I 0], 21), (.agg [I 2, I 5], .agg [I 0, I 0], 22), (.agg [I 4, I 5], .agg [I 0, I 0], 23), (.agg [I 3, I 12], .agg [I 0, I 0], 24)] 25)] [(262, 12, [bT, I 0, bF]),
  (303, 0, [IZ (-1), I 25, I 25])] [(264, 12, 0, U 6)]
noncomputable def m180 : Memo := ⟨[.ptr 311 0, .agg [.slice 48 0 1 1 1 true, I 1, .snil, bF]], h251, .tuple [I 0, .iface 240 (.ptr 24 0)], h252⟩
theorem m180_run : ranTo (evCall (cxX Tryd.prog bad [] [] q0) 1000 60 21 m180.args m180.h) m180.v m180.h' = true := by kernel_rfl
theorem m180_ok {σ : Nat → Int} {W0 : World} (hL : L0 W0) : MemoOk Tryd.prog 4095 σ W0 21 m180 := memo_ok fit (Known2.nil σ) ((q0_ok hL)) m180_run
noncomputable def l31 : List (Memo) := m180 :: m179 :: m178 :: m177 :: m176 :: m175 :: m174 :: []
theorem l31_ok {σ : Nat → Int} {W0 : World} (hL : L0 W0) : ∀ x ∈ l31, MemoOk Tryd.prog 4095 σ W0 21 x := all_cons (m180_ok hL) (all_cons (m179_ok hL) (all_cons (m178_ok hL) (all_cons (m177_ok hL) (all_cons (m176_ok hL) (all_cons (m175_ok hL) (all_cons (m174_ok hL) (all_nil)))))))
theorem run133 : isTrue (evCall (cxX Tryd.prog bad [] [] ((6, numExtE [(0, 10, .lit 6), (1, 60, .lit 25)]) :: (21, frameFn l31) :: q47)) 1000 60 3 [.int .i64 (.var 0), .int .i64 (.var 1), .int .i64 (.var 2)] (sentH 240 18 errTab)) = true := by kernel_rfl
theorem case133 {σ : Nat → Int} {W : World} (hL : L0 W) (hk : Known2 σ [] []) (hT : TabOk Tryd.prog bad 6 σ [(0, 10, .lit 6), (1, 60, .lit 25)]) {xs : Array Value} (hv : ∀ ρ, VRs σ ρ [.int .i64 (.var 0), .int .i64 (.var 1), .int .i64 (.var 2)] xs.toList) : Calls Tryd.prog 3 xs W fun e w' => e = .returned (.bool true) ∧ Below W.heap.size W w' := by
  obtain ⟨ads, h1, h2, h3⟩ := errs_sents hL
  exact law_case_x fit h1 h2 h3 errs_all errs_lt (by kernel_rfl) hk (FnsOk.cons (hT.ok fit) (FnsOk.cons (frame_fn_ok (l31_ok hL)) ((q47_ok hL)))) hv ⟨_, Tryd.func3, rfl⟩ run133
noncomputable def h253 : H := hUpd h225 343 [] [] [(303, 0, [IZ (-1), I 26, I 0])]
noncomputable def h254 : H := hUpd h226 818 [] [] [(303, 0, [IZ (-1), I 26, I 4])]
noncomputable def m181 : Memo := ⟨[.ptr 311 0, .agg [.slice 30 0 1 1 1 true, I 1, .snil, bF]], h253, .tuple [I 0, .inil], h254⟩
theorem m181_run : ranTo (evCall (cxX Tryd.prog bad [] [] ((44, pureFn l0) :: q0)) 1000 60 21 m181.args m181.h) m181.v m181.h' = true := by kernel_rfl
theorem m181_ok {σ : Nat → Int} {W0 : World} (hL : L0 W0) : MemoOk Tryd.prog 4095 σ W0 21 m181 := memo_ok fit (Known2.nil σ) (FnsOk.cons (pure_fn_ok (l0_ok hL)) ((q0_ok hL))) m181_run
noncomputable def h255 : H := hUpd h227 821 [] [] [(303, 0, [IZ (-1), I 26, I 4])]
noncomputable def h256 : H := hUpd h228 1296 [] [] [(303, 0, [IZ (-1), I 26, I 8])]
noncomputable def m182 : Memo := ⟨[.ptr 311 0, .agg [.slice 33 0 1 1 1 true, I 1, .snil, bF]], h255, .tuple [I 1, .inil], h256⟩
theorem m182_run : ranTo (evCall (cxX Tryd.prog bad [] [] ((44, pureFn l3) :: q0)) 1000 60 21 m182.args m182.h) m182.v m182.h' = true := by kernel_rfl
theorem m182_ok {σ : Nat → Int} {W0 : World} (hL : L0 W0) : MemoOk Tryd.prog 4095 σ W0 21 m182 := memo_ok fit (Known2.nil σ) (FnsOk.cons (pure_fn_ok (l3_ok hL)) ((q0_ok hL))) m182_run
noncomputable def h257 : H := hUpd h229 1299 [] [] [(303, 0, [IZ (-1), I 26, I 8])]
noncomputable def h258 : H := hUpd h230 1774 [] [] [(303, 0, [IZ (-1), I 26, I 12])]
noncomputable def m183 : Memo := ⟨[.ptr 311 0, .agg [.slice 36 0 1 1 1 true, I 1, .snil, bF]], h257, .tuple [I 2, .inil], h258⟩
theorem m183_run : ranTo (evCall (cxX Tryd.prog bad [] [] ((44, pureFn l6) :: q0)) 1000 60 21 m183.args m183.h) m183.v m183.h' = true := by kernel_rfl
theorem m183_ok {σ : Nat → Int} {W0 : World} (hL : L0 W0) : MemoOk Tryd.prog 4095 σ W0 21 m183 := memo_ok fit (Known2.nil σ) (FnsOk.cons (pure_fn_ok (l6_ok hL)) ((q0_ok hL))) m183_run
noncomputable def h259 : H := hUpd h231 1777 [] [] [(303, 0, [IZ (-1), I 26, I 12])]
noncomputable def h260 : H := hUpd h232 2252 [] [] [(303, 0, [IZ (-1), I 26, I 16])]
noncomputable def m184 : Memo := ⟨[.ptr 311 0, .agg [.slice 39 0 1 1 1 true, I 1, .snil, bF]], h259, .tuple [I 3, .inil], h260⟩
theorem m184_run : ranTo (evCall (cxX Tryd.prog bad [] [] ((44, pureFn l13) :: q0)) 1000 60 21 m184.args m184.h) m184.v m184.h' = true := by kernel_rfl
theorem m184_ok {σ : Nat → Int} {W0 : World} (hL : L0 W0) : MemoOk Tryd.prog 4095 σ W0 21 m184 := memo_ok fit (Known2.nil σ) (FnsOk.cons (pure_fn_ok (l13_ok hL)) ((q0_ok hL))) m184_run
noncomputable def h261 : H := hUpd h233 2255 [] [] [(303, 0, [IZ (-1), I 26, I 16])]
noncomputable def h262 : H := hUpd h234 2730 [] [] [(303, 0, [IZ (-1), I 26, I 20])]
noncomputable def m185 : Memo := ⟨[.ptr 311 0, .agg [.slice 42 0 1 1 1 true, I 1, .snil, bF]], h261, .tuple [I 4, .inil], h262⟩
theorem m185_run : ranTo (evCall (cxX Tryd.prog bad [] [] ((44, pureFn l20) :: q0)) 1000 60 21 m185.args m185.h) m185.v m185.h' = true := by kernel_rfl
theorem m185_ok {σ : Nat → Int} {W0 : World} (hL : L0 W0) : MemoOk Tryd.prog 4095 σ W0 21 m185 := memo_ok fit (Known2.nil σ) (FnsOk.cons (pure_fn_ok (l20_ok hL)) ((q0_ok hL))) m185_run
noncomputable def h263 : H := hUpd h235 2733 [] [] [(303, 0, [IZ (-1), I 26, I 20])]
noncomputable def h264 : H := hUpd h236 3208 [] [] [(303, 0, [IZ (-1), I 26, I 24])]
noncomputable def m186 : Memo := ⟨[.ptr 311 0, .agg [.slice 45 0 1 1 1 true, I 1, .snil, bF]], h263, .tuple [I 5, .inil], h264⟩
theorem m186_run : ranTo (evCall (cxX Tryd.prog bad [] [] ((44, pureFn l27) :: q0)) 1000 60 21 m186.args m186.h) m186.v m186.h' = true := by kernel_rfl
theorem m186_ok {σ : Nat → Int} {W0 : World} (hL : L0 W0) : MemoOk Tryd.prog 4095 σ W0 21 m186 := memo_ok fit (Known2.nil σ) (FnsOk.cons (pure_fn_ok (l27_ok hL)) ((q0_ok hL))) m186_run
noncomputable def p187 : Pur := ([.agg [I 3, I 12, I 0, I 0, U 0]], .inil, 1048576)
theorem p187_run : ranPure (evCall (cxX Tryd.prog bad [] [] q0) 1000 60 44 p187.1 ⟨.lf, p187.2.2⟩) p187.2.1 = true := by kernel_rfl
theorem p187_ok {σ : Nat → Int} {W0 : World} (hL : L0 W0) : PureOk Tryd.prog 4095 σ W0 44 p187 := pure_ok fit (Known2.nil σ) ((q0_ok hL)) p187_run
noncomputable def p188 : Pur := ([.agg [I 3, I 13, I 0, I 0, U 0]], .inil, 1048576)
theorem p188_run : ranPure (evCall (cxX Tryd.prog bad [] [] q0) 1000 60 44 p188.1 ⟨.lf, p188.2.2⟩) p188.2.1 = true := by kernel_rfl
theorem p188_ok {σ : Nat → Int} {W0 : World} (hL : L0 W0) : PureOk Tryd.prog 4095 σ W0 44 p188 := pure_ok fit (Known2.nil σ) ((q0_ok hL)) p188_run
noncomputable def h265 : H := hUpd h237 3211 [] [] [(303, 0, [IZ (-1), I 26, I 24])]
noncomputable def h266 : H := hUpd h252 3416 [] [(304, .map [(.agg [I 3, I 0], .agg [I 0, I 0], 0), (.agg [I 3, I 1], .agg [I 0, I 0], 1), (.agg [I 2, I 0], .agg [I 0, I 0], 2), (.agg [I 4, I 0], .agg [I 0, I 0], 3), (.agg [I 3, I 2], .agg [I 0, I 0], 4), (.agg [I 3, I 3], .agg [I 0, I 0], 5), (.agg [I 2, I 1], .agg [I 0, I 0], 6), (.agg [I 4, I 1], .agg [I 0, I 0], 7), (.agg [I 3, I 4], .agg [I 0, I 0], 8), (.agg [I 3, I 5], .agg [I 0, I 0], 9), (.agg [I 2, I 2], .agg [I 0, I 0], 10), (.agg [I 4, I 2], .agg [I 0, I 0], 11), (.agg [I 3, I 6], .agg [I 0, I 0], 12), (.agg [I 3, I 7], .agg [I 0, I 0], 13), (.agg [I 2, I 3], .agg [I 0, I 0], 14), (.agg [I 4, I 3], .agg [I 0, I 0], 15), (.agg [I 3, I 8], .agg [I 0, I 0], 16), (.agg [I 3, I 9], .agg [I 0, I 0], 17), (.agg [I 2, I 4], .agg [I 0, I 0], 18), (.agg [I 4, I 4], .agg [I 0, I 0], 19), (.agg [I 3, I 10], .agg [I 0, I 0], 20), (.agg [I 3, I 11], .agg [I 0, I 0], 21), (.agg [I 2, I 5], .agg [I 0, I 0], 22), (.agg [I 4, I 5], .agg [I 0, I 0], 23), (.agg [I 3, I 12], .agg [I 0, I 0], 24), (.agg [I 3, I 13], .agg [I 0, I 0], 25)] 26)] [(262, 13, [bT, I 0, bF]),
  (303, 0, [IZ (-1), I 26, I 26])]
noncomputable def m189 : Memo := ⟨[.ptr 311 0, .agg [.slice 48 0 1 1 1 true, I 1, .snil, bF]], h265, .tuple [I 0, .iface 240 (.ptr 24 0)], h266⟩
theorem m189_run : ranTo (evCall (cxX Tryd.prog bad [] [] ((44, pureFn [p187, p188]) :: q0)) 1000 60 21 m189.args m189.h) m189.v m189.h' = true := by kernel_rfl
theorem m189_ok {σ : Nat → Int} {W0 : World} (hL : L0 W0) : MemoOk Tryd.prog 4095 σ W0 21 m189 := memo_ok fit (Known2.nil σ) (FnsOk.cons (pure_fn_ok (all_cons (p187_ok hL) (all_cons (p188_ok hL) (all_nil)))) ((q0_ok hL))) m189_run
noncomputable def l32 : List (Memo) := m189 :: m186 :: m185 :: m184 :: m183 :: m182 :: m181 :: []
theorem l32_ok {σ : Nat → Int} {W0 : World} (hL : L0 W0) : ∀ x ∈ l32, MemoOk Tryd.prog 4095 σ W0 21 x := all_cons (m189_ok hL) (all_cons (m186_ok hL) (all_cons (m185_ok hL) (all_cons (m184_ok hL) (all_cons (m183_ok hL) (all_cons (m182_ok hL) (all_cons (m181_ok hL) (all_nil)))))))
theorem run134 : isTrue (evCall (cxX Tryd.prog bad [] [] ((6, numExtE [(0, 10, .lit 6), (1, 60, .lit 26)]) :: (21, frameFn l32) :: q47)) 1000 60 3 [.int .i64 (.var 0), .int .i64 (.var 1), .int .i64 (.var 2)] (sentH 240 18 errTab)) = true := by kernel_rfl
theorem case134 {σ : Nat → Int} {W : World} (hL : L0 W) (hk : Known2 σ [] []) (hT : TabOk Tryd.prog bad 6 σ [(0, 10, .lit 6), (1, 60, .lit 26)]) {xs : Array Value} (hv : ∀ ρ, VRs σ ρ [.int .i64 (.var 0), .int .i64 (.var 1), .int .i64 (.var 2)] xs.toList) : Calls Tryd.prog 3 xs W fun e w' => e = .returned (.bool true) ∧ Below W.heap.size W w' := by
  obtain ⟨ads, h1, h2, h3⟩ := errs_sents hL
  exact law_case_x fit h1 h2 h3 errs_all errs_lt (by kernel_rfl) hk (FnsOk.cons (hT.ok fit) (FnsOk.cons (frame_fn_ok (l32_ok hL)) ((q47_ok hL)))) hv ⟨_, Tryd.func3, rfl⟩ run134
noncomputable def h267 : H := hUpd h239 343 [] [] [(303, 0, [IZ (-1), I 27, I 0])]
noncomputable def h268 : H := hUpd h240 818 [] [] [(303, 0, [IZ (-1), I 27, I 4])]
noncomputable def m190 : Memo := ⟨[.ptr 311 0, .agg [.slice 30 0 1 1 1 true, I 1, .snil, bF]], h267, .tuple [I 0, .inil], h268⟩
theorem m190_run : ranTo (evCall (cxX Tryd.prog bad [] [] ((44, pureFn l0) :: q0)) 1000 60 21 m190.args m190.h) m190.v m190.h' = true := by kernel_rfl
theorem m190_ok {σ : Nat → Int} {W0 : World} (hL : L0 W0) : MemoOk Tryd.prog 4095 σ W0 21 m190 := memo_ok fit (Known2.nil σ) (FnsOk.cons (pure_fn_ok (l0_ok hL)) ((q0_ok hL))) m190_run
noncomputable def h269 : H := hUpd h241 821 [] [] [(303, 0, [IZ (-1), I 27, I 4])]
noncomputable def h270 : H := hUpd h242 1296 [] [] [(303, 0, [IZ (-1), I 27, I 8])]
noncomputable def m191 : Memo := ⟨[.ptr 311 0, .agg [.slice 33 0 1 1 1 true, I 1, .snil, bF]], h269, .tuple [I 1, .inil], h270⟩
theorem m191_run : ranTo (evCall (cxX Tryd.prog bad [] [] ((44, pureFn l3) :: q0)) 1000 60 21 m191.args m191.h) m191.v m191.h' = true := by kernel_rfl
theorem m191_ok {σ : Nat → Int} {W0 : World} (hL : L0 W0) : MemoOk Tryd.prog 4095 σ W0 21 m191 := memo_ok fit (Known2.nil σ) (FnsOk.cons (pure_fn_ok (l3_ok hL)) ((q0_ok hL))) m191_run
noncomputable def h271 : H := hUpd h243 1299 [] [] [(303, 0, [IZ (-1), I 27, I 8])]
noncomputable def h272 : H := hUpd h244 1774 [] [] [(303, 0, [IZ (-1), I 27, I 12])]
noncomputable def m192 : Memo := ⟨[.ptr 311 0, .agg [.slice 36 0 1 1 1 true, I 1, .snil, bF]], h271, .tuple [I 2, .inil], h272⟩
theorem m192_run : ranTo (evCall (cxX Tryd.prog bad [] [] ((44, pureFn l6) :: q0)) 1000 60 21 m192.args m192.h) m192.v m192.h' = true := by kernel_rfl
theorem m192_ok {σ : Nat → Int} {W0 : World} (hL : L0 W0) : MemoOk Tryd.prog 4095 σ W0 21 m192 := memo_ok fit (Known2.nil σ) (FnsOk.cons (pure_fn_ok (l6_ok hL)) ((q0_ok hL))) m192_run
noncomputable def h273 : H := hUpd h245 1777 [] [] [(303, 0, [IZ (-1), I 27, I 12])]
noncomputable def h274 : H := hUpd h246 2252 [] [] [(303, 0, [IZ (-1), I 27, I 16])]
noncomputable def m193 : Memo := ⟨[.ptr 311 0, .agg [.slice 39 0 1 1 1 true, I 1, .snil, bF]], h273, .tuple [I 3, .inil], h274⟩
theorem m193_run : ranTo (evCall (cxX Tryd.prog bad [] [] ((44, pureFn l13) :: q0)) 1000 60 21 m193.args m193.h) m193.v m193.h' = true := by kernel_rfl
theorem m193_ok {σ : Nat → Int} {W0 : World} (hL : L0 W0) : MemoOk Tryd.prog 4095 σ W0 21 m193 := memo_ok fit (Known2.nil σ) (FnsOk.cons (pure_fn_ok (l13_ok hL)) ((q0_ok hL))) m193_run
noncomputable def h275 : H := hUpd h247 2255 [] [] [(303, 0, [IZ (-1), I 27, I 16])]
noncomputable def h276 : H := hUpd h248 2730 [] [] [(303, 0, [IZ (-1), I 27, I 20])]
noncomputable def m194 : Memo := ⟨[.ptr 311 0, .agg [.slice 42 0 1 1 1 true, I 1, .snil, bF]], h275, .tuple [I 4, .inil], h276⟩
theorem m194_run : ranTo (evCall (cxX Tryd.prog bad [] [] ((44, pureFn l20) :: q0)) 1000 60 21 m194.args m194.h) m194.v m194.h' = true := by kernel_rfl
theorem m194_ok {σ : Nat → Int} {W0 : World} (hL : L0 W0) : MemoOk Tryd.prog 4095 σ W0 21 m194 := memo_ok fit (Known2.nil σ) (FnsOk.cons (pure_fn_ok (l20_ok hL)) ((q0_ok hL))) m194_run
noncomputable def h277 : H := hUpd h249 2733 [] [] [(303, 0, [IZ (-1), I 27, I 20])]
noncomputable def h278 : H := hUpd h250 3208 [] [] [(303, 0, [IZ (-1), I 27, I 24])]
noncomputable def m195 : Memo := ⟨[.ptr 311 0, .agg [.slice 45 0 1 1 1 true, I 1, .snil, bF]], h277, .tuple [I 5, .inil], h278⟩
theorem m195_run : ranTo (evCall (cxX Tryd.prog bad [] [] ((44, pureFn l27) :: q0)) 1000 60 21 m195.args m195.h) m195.v m195.h' = true := by kernel_rfl
theorem m195_ok {σ : Nat → Int} {W0 : World} (hL : L0 W0) : MemoOk Tryd.prog 4095 σ W0 21 m195 := memo_ok fit (Known2.nil σ) (FnsOk.cons (pure_fn_ok (l27_ok hL)) ((q0_ok hL))) m195_run
noncomputable def h279 : H := hUpd h251 3211 [] [] [(303, 0, [IZ (-1), I 27, I 24])]
noncomputable def h280 : H := hUpc h266 3479 [] [(304, .map [(.agg [I 3, I 0], .agg [I 0, I 0], 0), (.agg [I 3, I 1], .agg [I 0, I 0], 1), (.agg [I 2, I 0], .agg [I 0, I 0], 2), (.agg [I 4, I 0], .agg [I 0, I 0], 3), (.agg [I 3, I 2], .agg [I 0, I 0], 4), (.agg [I 3, I 3], .agg [I 0, I 0], 5), (.agg [I 2, I 1], .agg [I 0, I 0], 6), (.agg [I 4, I 1], .agg [I 0, I 0], 7), (.agg [I 3, I 4], .agg [I 0, I 0], 8), (.agg [I 3, I 5], .agg [I 0, I 0], 9), (.agg [I 2, I 2], .agg [I 0, I 0], 10), (.agg [I 4, I 2], .agg [I 0, I 0], 11), (.agg [I 3, I 6], .agg [I 0, I 0], 12), (.agg [I 3, I 7], .agg [I 0, I 0], 13), (.agg [I 2, I 3], .agg [I 0, I 0], 14), (.agg [I 4, I 3], .agg [I 0, I 0], 15), (.agg [I 3, I 8], .agg [I 0, I 0], 16), (.agg [I 3, I 9], .agg [I 0, I 0], 17), (.agg [I 2, I 4], .agg [I 0, I 0], 18), (.agg [I 4, I 4], .agg [I 0, I 0], 19), (.agg [I 3, I 10], .agg [I 0, I 0], 20), (.agg [I 3, I 11], .agg [I 0, I 0], 21), (.agg [I 2, I 5], .agg [I 0, I 0], 22), (.agg [I 4, I 5], .agg [I 0, I 0], 23), (.agg [I 3, I 12], .agg [I 0, I 0], 24), (.agg [I 3, I 13], .agg [I 0, I 0], 25), (.agg [I 2, I 6], .agg [I 0, I 0], 26)] 27)] [(258, 6, [bT, I 0, bF]),
  (303, 0, [IZ (-1), I 27, I 27])] [(260, 6, 0, I 3), (260, 6, 1, I 12), (260, 6, 5, I 3), (260, 6, 6, I 13)]
noncomputable def m196 : Memo := ⟨[.ptr 311 0, .agg [.slice 48 0 1 1 1 true, I 1, .snil, bF]], h279, .tuple [I 0, .iface 240 (.ptr 24 0)], h280⟩
theorem m196_run : ranTo (evCall (cxX Tryd.prog bad [] [] ((44, pureFn [p187, p188]) :: q0)) 1000 60 21 m196.args m196.h) m196.v m196.h' = true := by kernel_rfl
theorem m196_ok {σ : Nat → Int} {W0 : World} (hL : L0 W0) : MemoOk Tryd.prog 4095 σ W0 21 m196 := memo_ok fit (Known2.nil σ) (FnsOk.cons (pure_fn_ok (all_cons (p187_ok hL) (all_cons (p188_ok hL) (all_nil)))) ((q0_ok hL))) m196_run
noncomputable def l33 : List (Memo) := m196 :: m195 :: m194 :: m193 :: m192 :: m191 :: m190 :: []
theorem l33_ok {σ : Nat → Int} {W0 : World} (hL : L0 W0) : ∀ x ∈ l33, MemoOk Tryd.prog 4095 σ W0 21 x := all_cons (m196_ok hL) (all_cons (m195_ok hL) (all_cons (m194_ok hL) (all_cons (m193_ok hL) (all_cons (m192_ok hL) (all_cons (m191_ok hL) (all_cons (m190_ok hL) (all_nil)))))))
theorem run135 : isTrue (evCall (cxX Tryd.prog bad [] [] ((6, numExtE [(0, 10, .lit 6), (1, 60, .lit 27)]) :: (21, frameFn l33) :: q47)) 1000 60 3 [.int .i64 (.var 0), .int .i64 (.var 1), .int .i64 (.var 2)] (sentH 240 18 errTab)) = true := by kernel_rfl
theorem case135 {σ : Nat → Int} {W : World} (hL : L0 W) (hk : Known2 σ [] []) (hT : TabOk Tryd.prog bad 6 σ [(0, 10, .lit 6), (1, 60, .lit 27)]) {xs : Array Value} (hv : ∀ ρ, VRs σ ρ [.int .i64 (.var 0), .int .i64 (.var 1), .int .i64 (.var 2)] xs.toList) : Calls Tryd.prog 3 xs W fun e w' => e = .returned (.bool true) ∧ Below W.heap.size W w' := by
  obtain ⟨ads, h1, h2, h3⟩ := errs_sents hL
  exact law_case_x fit h1 h2 h3 errs_all errs_lt (by kernel_rfl) hk (FnsOk.cons (hT.ok fit) (FnsOk.cons (frame_fn_ok (l33_ok hL)) ((q47_ok hL)))) hv ⟨_, Tryd.func3, rfl⟩ run135
noncomputable def m197 : Memo := ⟨[.ptr 311 0, .agg [.slice 30 0 1 1 1 true, I 1, .snil, bF]], h11, .tuple [I 0, .inil], h12⟩
theorem m197_run : ranTo (evCall (cxX Tryd.prog bad [((-9223372036854775808), 9223372036854775807), ((-9223372036854775808), 9223372036854775807), ((-9223372036854775808), 9223372036854775807), (28, 59)] [] ((44, pureFn l0) :: q0)) 1000 60 21 m197.args m197.h) m197.v m197.h' = true := by kernel_rfl
theorem m197_ok {σ : Nat → Int} {W0 : World} (hL : L0 W0) (hk : Known2 σ [((-9223372036854775808), 9223372036854775807), ((-9223372036854775808), 9223372036854775807), ((-9223372036854775808), 9223372036854775807), (28, 59)] []) : MemoOk Tryd.prog 4095 σ W0 21 m197 := memo_ok fit hk (FnsOk.cons (pure_fn_ok (l0_ok hL)) ((q0_ok hL))) m197_run
noncomputable def m198 : Memo := ⟨[.ptr 311 0, .agg [.slice 33 0 1 1 1 true, I 1, .snil, bF]], h36, .tuple [I 1, .inil], h37⟩
theorem m198_run : ranTo (evCall (cxX Tryd.prog bad [((-9223372036854775808), 9223372036854775807), ((-9223372036854775808), 9223372036854775807), ((-9223372036854775808), 9223372036854775807), (28, 59)] [] ((44, pureFn l3) :: q0)) 1000 60 21 m198.args m198.h) m198.v m198.h' = true := by kernel_rfl
theorem m198_ok {σ : Nat → Int} {W0 : World} (hL : L0 W0) (hk : Known2 σ [((-9223372036854775808), 9223372036854775807), ((-9223372036854775808), 9223372036854775807), ((-9223372036854775808), 9223372036854775807), (28, 59)] []) : MemoOk Tryd.prog 4095 σ W0 21 m198 := memo_ok fit hk (FnsOk.cons (pure_fn_ok (l3_ok hL)) ((q0_ok hL))) m198_run
noncomputable def m199 : Memo := ⟨[.ptr 311 0, .agg [.slice 36 0 1 1 1 true, I 1, .snil, bF]], h69, .tuple [I 2, .inil], h70⟩
theorem m199_run : ranTo (evCall (cxX Tryd.prog bad [((-9223372036854775808), 9223372036854775807), ((-9223372036854775808), 9223372036854775807), ((-9223372036854775808), 9223372036854775807), (28, 59)] [] ((44, pureFn l6) :: q0)) 1000 60 21 m199.args m199.h) m199.v m199.h' = true := by kernel_rfl
theorem m199_ok {σ : Nat → Int} {W0 : World} (hL : L0 W0) (hk : Known2 σ [((-9223372036854775808), 9223372036854775807), ((-9223372036854775808), 9223372036854775807), ((-9223372036854775808), 9223372036854775807), (28, 59)] []) : MemoOk Tryd.prog 4095 σ W0 21 m199 := memo_ok fit hk (FnsOk.cons (pure_fn_ok (l6_ok hL)) ((q0_ok hL))) m199_run
noncomputable def m200 : Memo := ⟨[.ptr 311 0, .agg [.slice 39 0 1 1 1 true, I 1, .snil, bF]], h110, .tuple [I 3, .inil], h111⟩
theorem m200_run : ranTo (evCall (cxX Tryd.prog bad [((-9223372036854775808), 9223372036854775807), ((-9223372036854775808), 9223372036854775807), ((-9223372036854775808), 9223372036854775807), (28, 59)] [] ((44, pureFn l13) :: q0)) 1000 60 21 m200.args m200.h) m200.v m200.h' = true := by kernel_rfl
theorem m200_ok {σ : Nat → Int} {W0 : World} (hL : L0 W0) (hk : Known2 σ [((-9223372036854775808), 9223372036854775807), ((-9223372036854775808), 9223372036854775807), ((-9223372036854775808), 9223372036854775807), (28, 59)] []) : MemoOk Tryd.prog 4095 σ W0 21 m200 := memo_ok fit hk (FnsOk.cons (pure_fn_ok (l13_ok hL)) ((q0_ok hL))) m200_run
noncomputable def m201 : Memo := ⟨[.ptr 311 0, .agg [.slice 42 0 1 1 1 true, I 1, .snil, bF]], h159, .tuple [I 4, .inil], h160⟩
theorem m201_run : ranTo (evCall (cxX Tryd.prog bad [((-9223372036854775808), 9223372036854775807), ((-9223372036854775808), 9223372036854775807), ((-9223372036854775808), 9223372036854775807), (28, 59)] [] ((44, pureFn l20) :: q0)) 1000 60 21 m201.args m201.h) m201.v m201.h' = true := by kernel_rfl
theorem m201_ok {σ : Nat → Int} {W0 : World} (hL : L0 W0) (hk : Known2 σ [((-9223372036854775808), 9223372036854775807), ((-9223372036854775808), 9223372036854775807), ((-9223372036854775808), 9223372036854775807), (28, 59)] []) : MemoOk Tryd.prog 4095 σ W0 21 m201 := memo_ok fit hk (FnsOk.cons (pure_fn_ok (l20_ok hL)) ((q0_ok hL))) m201_run
noncomputable def m202 : Memo := ⟨[.ptr 311 0, .agg [.slice 45 0 1 1 1 true, I 1, .snil, bF]], h216, .tuple [I 5, .inil], h217⟩
theorem m202_run : ranTo (evCall (cxX Tryd.prog bad [((-9223372036854775808), 9223372036854775807), ((-9223372036854775808), 9223372036854775807), ((-9223372036854775808), 9223372036854775807), (28, 59)] [] ((44, pureFn l27) :: q0)) 1000 60 21 m202.args m202.h) m202.v m202.h' = true := by kernel_rfl
theorem m202_ok {σ : Nat → Int} {W0 : World} (hL : L0 W0) (hk : Known2 σ [((-9223372036854775808), 9223372036854775807), ((-9223372036854775808), 9223372036854775807), ((-9223372036854775808), 9223372036854775807), (28, 59)] []) : MemoOk Tryd.prog 4095 σ W0 21 m202 := memo_ok fit hk (FnsOk.cons (pure_fn_ok (l27_ok hL)) ((q0_ok hL))) m202_run
noncomputable def p203 : Pur := ([.agg [I 2, I 6, I 0, I 0, U 1]], .inil, 1048576)
theorem p203_run : ranPure (evCall (cxX Tryd.prog bad [] [] q0) 1000 60 44 p203.1 ⟨.lf, p203.2.2⟩) p203.2.1 = true := by kernel_rfl
theorem p203_ok {σ : Nat → Int} {W0 : World} (hL : L0 W0) : PureOk Tryd.prog 4095 σ W0 44 p203 := pure_ok fit (Known2.nil σ) ((q0_ok hL)) p203_run
noncomputable def p204 : Pur := ([.agg [I 7, I 7, I 0, I 0, U 0]], .inil, 1048576)
theorem p204_run : ranPure (evCall (cxX Tryd.prog bad [] [] q0) 1000 60 44 p204.1 ⟨.lf, p204.2.2⟩) p204.2.1 = true := by kernel_rfl
theorem p204_ok {σ : Nat → Int} {W0 : World} (hL : L0 W0) : PureOk Tryd.prog 4095 σ W0 44 p204 := pure_ok fit (Known2.nil σ) ((q0_ok hL)) p204_run
noncomputable def h281 : H := hUpd h251 3211 [] [] [(303, 0, [IZ (-1), .int .i64 (.var 3), I 24])]
noncomputable def h282 : H := hUpc h280 3686 [] [(304, .map [(.agg [I 3, I 0], .agg [I 0, I 0], 0), (.agg [I 3, I 1], .agg [I 0, I 0], 1), (.agg [I 2, I 0], .agg [I 0, I 0], 2), (.agg [I 4, I 0], .agg [I 0, I 0], 3), (.agg [I 3, I 2], .agg [I 0, I 0], 4), (.agg [I 3, I 3], .agg [I 0, I 0], 5), (.agg [I 2, I 1], .agg [I 0, I 0], 6), (.agg [I 4, I 1], .agg [I 0, I 0], 7), (.agg [I 3, I 4], .agg [I 0, I 0], 8), (.agg [I 3, I 5], .agg [I 0, I 0], 9), (.agg [I 2, I 2], .agg [I 0, I 0], 10), (.agg [I 4, I 2], .agg [I 0, I 0], 11), (.agg [I 3, I 6], .agg [I 0, I 0], 12), (.agg [I 3, I 7], .agg [I 0, I 0], 13), (.agg [I 2, I 3], .agg [I 0, I 0], 14), (.agg [I 4, I 3], .agg [I 0, I 0], 15), (.agg [I 3, I 8], .agg [I 0, I 0], 16), (.agg [I 3, I 9], .agg [I 0, I 0], 17), (.agg [I 2, I 4], .agg [I 0, I 0], 18), (.agg [I 4, I 4], .agg [I 0, I 0], 19), (.agg [I 3, I 10], .agg [I 0, I 0], 20), (.agg [I 3, I 11], .agg [I 0, I 0], 21), (.agg [I 2, I 5], .agg [I 0, I 0], 22), (.agg [I 4, I 5], .agg [I 0, I 0], 23), (.agg [I 3, I 12], .agg [I 0, I 0], 24), (.agg [I 3, I 13], .agg [I 0, I 0], 25), (.agg [I 2, I 6], .agg [I 0, I 0], 26), (.agg [I 4, I 6], .agg [I 0, I 0], 27)] 28)] [(269, 6, [bT, I 0, bF]),
  (297, 7, [bT, I 0, bF]),
  (299, 7, [I 0, I 1]),
  (303, 0, [IZ (-1), .int .i64 (.var 3), I 28])] [(271, 6, 9, I 1), (271, 6, 11, I 8), (271, 6, 16, I 7), (271, 6, 17, I 7), (271, 6, 21, I 11), (271, 6, 26, I 12), (271, 6, 31, I 13), (271, 6, 36, I 14), (271, 6, 91, I 2), (271, 6, 92, I 6), (271, 6, 95, U 1), (271, 6, 96, I 7), (271, 6, 97, I 7)]
noncomputable def m205 : Memo := ⟨[.ptr 311 0, .agg [.slice 48 0 1 1 1 true, I 1, .snil, bF]], h281, .tuple [I 6, .inil], h282⟩
noncomputable def l34 : List (Pur) := p15 :: p14 :: p13 :: p12 :: p204 :: p10 :: p203 :: p8 :: p188 :: p187 :: []
theorem l34_ok {σ : Nat → Int} {W0 : World} (hL : L0 W0) : ∀ x ∈ l34, PureOk Tryd.prog 4095 σ W0 44 x := all_cons (p15_ok hL) (all_cons (p14_ok hL) (all_cons (p13_ok hL) (all_cons (p12_ok hL) (all_cons (p204_ok hL) (all_cons (p10_ok hL) (all_cons (p203_ok hL) (all_cons (p8_ok hL) (all_cons (p188_ok hL) (all_cons (p187_ok hL) (all_nil))))))))))
theorem m205_run : ranTo (evCall (cxX Tryd.prog bad [((-9223372036854775808), 9223372036854775807), ((-9223372036854775808), 9223372036854775807), ((-9223372036854775808), 9223372036854775807), (28, 59)] [] ((44, pureFn l34) :: q0)) 1000 60 21 m205.args m205.h) m205.v m205.h' = true := by kernel_rfl
theorem m205_ok {σ : Nat → Int} {W0 : World} (hL : L0 W0) (hk : Known2 σ [((-9223372036854775808), 9223372036854775807), ((-9223372036854775808), 9223372036854775807), ((-9223372036854775808), 9223372036854775807), (28, 59)] []) : MemoOk Tryd.prog 4095 σ W0 21 m205 := memo_ok fit hk (FnsOk.cons (pure_fn_ok (l34_ok hL)) ((q0_ok hL))) m205_run
noncomputable def l35 : List (Pur) := p203 :: p204 :: l28
theorem l35_ok {σ : Nat → Int} {W0 : World} (hL : L0 W0) : ∀ x ∈ l35, PureOk Tryd.prog 4095 σ W0 44 x := all_cons (p203_ok hL) (all_cons (p204_ok hL) ((l28_ok hL)))
theorem run136 : isTrue (evCall (cxX Tryd.prog bad [((-9223372036854775808), 9223372036854775807), ((-9223372036854775808), 9223372036854775807), ((-9223372036854775808), 9223372036854775807), (28, 59)] [] ((6, numExtE [(0, 10, .lit 6), (1, 60, .var 3), (2, 4, .lit 0)]) :: (21, frameFn [m197, m198, m199, m200, m201, m202, m205]) :: (44, pureFn l35) :: q47)) 1000 60 3 [.int .i64 (.var 0), .int .i64 (.var 1), .int .i64 (.var 2)] (sentH 240 18 errTab)) = true := by kernel_rfl
theorem case136 {σ : Nat → Int} {W : World} (hL : L0 W) (hk : Known2 σ [((-9223372036854775808), 9223372036854775807), ((-9223372036854775808), 9223372036854775807), ((-9223372036854775808), 9223372036854775807), (28, 59)] []) (hT : TabOk Tryd.prog bad 6 σ [(0, 10, .lit 6), (1, 60, .var 3), (2, 4, .lit 0)]) {xs : Array Value} (hv : ∀ ρ, VRs σ ρ [.int .i64 (.var 0), .int .i64 (.var 1), .int .i64 (.var 2)] xs.toList) : Calls Tryd.prog 3 xs W fun e w' => e = .returned (.bool true) ∧ Below W.heap.size W w' := by
  obtain ⟨ads, h1, h2, h3⟩ := errs_sents hL
  exact law_case_x fit h1 h2 h3 errs_all errs_lt (by kernel_rfl) hk (FnsOk.cons (hT.ok fit) (FnsOk.cons (frame_fn_ok (all_cons (m197_ok hL hk) (all_cons (m198_ok hL hk) (all_cons (m199_ok hL hk) (all_cons (m200_ok hL hk) (all_cons (m201_ok hL hk) (all_cons (m202_ok hL hk) (all_cons (m205_ok hL hk) (all_nil))))))))) (FnsOk.cons (pure_fn_ok (l35_ok hL)) ((q47_ok hL))))) hv ⟨_, Tryd.func3, rfl⟩ run136
noncomputable def h283 : H := hUpd h0 52 [] [] []
noncomputable def m206 : Memo := ⟨[], h283, .agg [I 16, I 24, I 8, I 12, I 8, I 6], h2⟩
theorem m206_run : ranTo (evCall (cxX Tryd.prog bad [] [] q0) 1000 60 8 m206.args m206.h) m206.v m206.h' = true := by kernel_rfl
theorem m206_ok {σ : Nat → Int} {W0 : World} (hL : L0 W0) : MemoOk Tryd.prog 4095 σ W0 8 m206 := memo_ok fit (Known2.nil σ) ((q0_ok hL)) m206_run
noncomputable def h284 : H := hUpd h281 3211 [] [(51, .cells 1 ([[I 7]]) false)] []
noncomputable def h285 : H := hUpd h282 3686 [] [(51, .cells 1 ([[I 7]]) false)] []
noncomputable def m207 : Memo := ⟨[.ptr 311 0, .agg [.slice 48 0 1 1 1 true, I 1, .slice 51 0 1 1 1 true, bF]], h284, .tuple [I 6, .inil], h285⟩
theorem m207_run : ranTo (evCall (cxX Tryd.prog bad [((-9223372036854775808), 9223372036854775807), ((-9223372036854775808), 9223372036854775807), ((-9223372036854775808), 9223372036854775807), (28, 59)] [] ((44, pureFn l34) :: q0)) 1000 60 21 m207.args m207.h) m207.v m207.h' = true := by kernel_rfl
theorem m207_ok {σ : Nat → Int} {W0 : World} (hL : L0 W0) (hk : Known2 σ [((-9223372036854775808), 9223372036854775807), ((-9223372036854775808), 9223372036854775807), ((-9223372036854775808), 9223372036854775807), (28, 59)] []) : MemoOk Tryd.prog 4095 σ W0 21 m207 := memo_ok fit hk (FnsOk.cons (pure_fn_ok (l34_ok hL)) ((q0_ok hL))) m207_run
noncomputable def q48 : Fns := [(5, pureFn [p0]), (8, frameFn [m206]), (51, itoaFn), (114, countFn), (129, indexFn)]
theorem q48_ok {σ : Nat → Int} {W0 : World} (hL : L0 W0) : FnsOk Tryd.prog 4095 σ W0 q48 := FnsOk.cons (pure_fn_ok (all_cons (p0_ok hL) (all_nil))) (FnsOk.cons (frame_fn_ok (all_cons (m206_ok hL) (all_nil))) (FnsOk.cons (ext_itoa hL) (FnsOk.cons (ext_count hL) (FnsOk.cons (ext_index hL) (FnsOk.nil)))))
theorem run137 : isTrue (evCall (cxX Tryd.prog bad [((-9223372036854775808), 9223372036854775807), ((-9223372036854775808), 9223372036854775807), ((-9223372036854775808), 9223372036854775807), (28, 59)] [] ((6, numExtE [(0, 10, .lit 6), (1, 60, .var 3), (2, 4, .lit 1)]) :: (21, frameFn [m197, m198, m199, m200, m201, m202, m207]) :: (44, pureFn l28) :: q48)) 1000 60 3 [.int .i64 (.var 0), .int .i64 (.var 1), .int .i64 (.var 2)] (sentH 240 18 errTab)) = true := by kernel_rfl
theorem case137 {σ : Nat → Int} {W : World} (hL : L0 W) (hk : Known2 σ [((-9223372036854775808), 9223372036854775807), ((-9223372036854775808), 9223372036854775807), ((-9223372036854775808), 9223372036854775807), (28, 59)] []) (hT : TabOk Tryd.prog bad 6 σ [(0, 10, .lit 6), (1, 60, .var 3), (2, 4, .lit 1)]) {xs : Array Value} (hv : ∀ ρ, VRs σ ρ [.int .i64 (.var 0), .int .i64 (.var 1), .int .i64 (.var 2)] xs.toList) : Calls Tryd.prog 3 xs W fun e w' => e = .returned (.bool true) ∧ Below W.heap.size W w' := by
  obtain ⟨ads, h1, h2, h3⟩ := errs_sents hL
  exact law_case_x fit h1 h2 h3 errs_all errs_lt (by kernel_rfl) hk (FnsOk.cons (hT.ok fit) (FnsOk.cons (frame_fn_ok (all_cons (m197_ok hL hk) (all_cons (m198_ok hL hk) (all_cons (m199_ok hL hk) (all_cons (m200_ok hL hk) (all_cons (m201_ok hL hk) (all_cons (m202_ok hL hk) (all_cons (m207_ok hL hk) (all_nil))))))))) (FnsOk.cons (pure_fn_ok (l28_ok hL)) ((q48_ok hL))))) hv ⟨_, Tryd.func3, rfl⟩ run137
noncomputable def h286 : H := hUpd h253 343 [30] [(51, .cells 1 (rp 33 ([U 0]) ([])) false)] [(303, 0, [IZ (-1), .int .i64 (.var 3), I 0])]
noncomputable def h287 : H := hUpd h286 346 [] [] []
noncomputable def m208 : Memo := ⟨[.ptr 311 0, .agg [.slice 51 0 33 33 1 true, I 1, .snil, bF]], h286, .tuple [I 0, .iface 240 (.ptr 21 0)], h287⟩
theorem m208_run : ranTo (evCall (cxX Tryd.prog bad [] [] q0) 1000 60 21 m208.args m208.h) m208.v m208.h' = true := by kernel_rfl
theorem m208_ok {σ : Nat → Int} {W0 : World} (hL : L0 W0) : MemoOk Tryd.prog 4095 σ W0 21 m208 := memo_ok fit (Known2.nil σ) ((q0_ok hL)) m208_run
noncomputable def q49 : Fns := [(5, pureFn [p0]), (8, frameFn [m206]), (21, frameFn [m208]), (51, itoaFn), (114, countFn), (129, indexFn)]
theorem q49_ok {σ : Nat → Int} {W0 : World} (hL : L0 W0) : FnsOk Tryd.prog 4095 σ W0 q49 := FnsOk.cons (pure_fn_ok (all_cons (p0_ok hL) (all_nil))) (FnsOk.cons (frame_fn_ok (all_cons (m206_ok hL) (all_nil))) (FnsOk.cons (frame_fn_ok (all_cons (m208_ok hL) (all_nil))) (FnsOk.cons (ext_itoa hL) (FnsOk.cons (ext_count hL) (FnsOk.cons (ext_index hL) (FnsOk.nil))))))
theorem run138 : isTrue (evCall (cxX Tryd.prog bad [((-9223372036854775808), 9223372036854775807), ((-9223372036854775808), 9223372036854775807), ((-9223372036854775808), 9223372036854775807), (28, 59)] [] ((6, numExtE [(0, 10, .lit 6), (1, 60, .var 3), (2, 4, .lit 2)]) :: q49)) 1000 60 3 [.int .i64 (.var 0), .int .i64 (.var 1), .int .i64 (.var 2)] (sentH 240 18 errTab)) = true := by kernel_rfl
theorem case138 {σ : Nat → Int} {W : World} (hL : L0 W) (hk : Known2 σ [((-9223372036854775808), 9223372036854775807), ((-9223372036854775808), 9223372036854775807), ((-9223372036854775808), 9223372036854775807), (28, 59)] []) (hT : TabOk Tryd.prog bad 6 σ [(0, 10, .lit 6), (1, 60, .var 3), (2, 4, .lit 2)]) {xs : Array Value} (hv : ∀ ρ, VRs σ ρ [.int .i64 (.var 0), .int .i64 (.var 1), .int .i64 (.var 2)] xs.toList) : Calls Tryd.prog 3 xs W fun e w' => e = .returned (.bool true) ∧ Below W.heap.size W w' := by
  obtain ⟨ads, h1, h2, h3⟩ := errs_sents hL
  exact law_case_x fit h1 h2 h3 errs_all errs_lt (by kernel_rfl) hk (FnsOk.cons (hT.ok fit) ((q49_ok hL))) hv ⟨_, Tryd.func3, rfl⟩ run138
noncomputable def h288 : H := hUpc h282 3558 [] [] [(297, 7, [bF, I 0, bF]),
  (299, 7, [I 0, I 0])] [(271, 6, 11, I 0), (271, 6, 16, I 0), (271, 6, 17, I 0), (271, 6, 21, I 0), (271, 6, 26, I 0), (271, 6, 31, I 0), (271, 6, 36, I 0), (271, 6, 96, I 0), (271, 6, 97, I 0)]
noncomputable def m209 : Memo := ⟨[.ptr 311 0, .agg [.slice 48 0 1 1 1 true, IZ (-1), .snil, bF]], h281, .tuple [I 0, .iface 240 (.ptr 20 0)], h288⟩
noncomputable def l36 : List (Pur) := p203 :: p8 :: p188 :: p187 :: []
theorem l36_ok {σ : Nat → Int} {W0 : World} (hL : L0 W0) : ∀ x ∈ l36, PureOk Tryd.prog 4095 σ W0 44 x := all_cons (p203_ok hL) (all_cons (p8_ok hL) (all_cons (p188_ok hL) (all_cons (p187_ok hL) (all_nil))))
theorem m209_run : ranTo (evCall (cxX Tryd.prog bad [((-9223372036854775808), 9223372036854775807), ((-9223372036854775808), 9223372036854775807), ((-9223372036854775808), 9223372036854775807), (28, 59)] [] ((44, pureFn l36) :: q0)) 1000 60 21 m209.args m209.h) m209.v m209.h' = true := by kernel_rfl
theorem m209_ok {σ : Nat → Int} {W0 : World} (hL : L0 W0) (hk : Known2 σ [((-9223372036854775808), 9223372036854775807), ((-9223372036854775808), 9223372036854775807), ((-9223372036854775808), 9223372036854775807), (28, 59)] []) : MemoOk Tryd.prog 4095 σ W0 21 m209 := memo_ok fit hk (FnsOk.cons (pure_fn_ok (l36_ok hL)) ((q0_ok hL))) m209_run
theorem run139 : isTrue (evCall (cxX Tryd.prog bad [((-9223372036854775808), 9223372036854775807), ((-9223372036854775808), 9223372036854775807), ((-9223372036854775808), 9223372036854775807), (28, 59)] [] ((6, numExtE [(0, 10, .lit 6), (1, 60, .var 3), (2, 4, .lit 3)]) :: (21, frameFn [m197, m198, m199, m200, m201, m202, m209]) :: q47)) 1000 60 3 [.int .i64 (.var 0), .int .i64 (.var 1), .int .i64 (.var 2)] (sentH 240 18 errTab)) = true := by kernel_rfl
theorem case139 {σ : Nat → Int} {W : World} (hL : L0 W) (hk : Known2 σ [((-9223372036854775808), 9223372036854775807), ((-9223372036854775808), 9223372036854775807), ((-9223372036854775808), 9223372036854775807), (28, 59)] []) (hT : TabOk Tryd.prog bad 6 σ [(0, 10, .lit 6), (1, 60, .var 3), (2, 4, .lit 3)]) {xs : Array Value} (hv : ∀ ρ, VRs σ ρ [.int .i64 (.var 0), .int .i64 (.var 1), .int .i64 (.var 2)] xs.toList) : Calls Tryd.prog 3 xs W fun e w' => e = .returned (.bool true) ∧ Below W.heap.size W w' := by
  obtain ⟨ads, h1, h2, h3⟩ := errs_sents hL
  exact law_case_x fit h1 h2 h3 errs_all errs_lt (by kernel_rfl) hk (FnsOk.cons (hT.ok fit) (FnsOk.cons (frame_fn_ok (all_cons (m197_ok hL hk) (all_cons (m198_ok hL hk) (all_cons (m199_ok hL hk) (all_cons (m200_ok hL hk) (all_cons (m201_ok hL hk) (all_cons (m202_ok hL hk) (all_cons (m209_ok hL hk) (all_nil))))))))) ((q47_ok hL)))) hv ⟨_, Tryd.func3, rfl⟩ run139
noncomputable def h289 : H := hUpd h283 54 [] [] []
noncomputable def m210 : Memo := ⟨[], h289, .agg [I 16, I 24, I 8, I 12, I 8, I 6], h2⟩
theorem m210_run : ranTo (evCall (cxX Tryd.prog bad [] [] q0) 1000 60 8 m210.args m210.h) m210.v m210.h' = true := by kernel_rfl
theorem m210_ok {σ : Nat → Int} {W0 : World} (hL : L0 W0) : MemoOk Tryd.prog 4095 σ W0 8 m210 := memo_ok fit (Known2.nil σ) ((q0_ok hL)) m210_run
noncomputable def q50 : Fns := [(5, pureFn [p0]), (8, frameFn [m210]), (21, frameFn [m2]), (51, itoaFn), (114, countFn), (129, indexFn)]
theorem q50_ok {σ : Nat → Int} {W0 : World} (hL : L0 W0) : FnsOk Tryd.prog 4095 σ W0 q50 := FnsOk.cons (pure_fn_ok (all_cons (p0_ok hL) (all_nil))) (FnsOk.cons (frame_fn_ok (all_cons (m210_ok hL) (all_nil))) (FnsOk.cons (frame_fn_ok (all_cons (m2_ok hL) (all_nil))) (FnsOk.cons (ext_itoa hL) (FnsOk.cons (ext_count hL) (FnsOk.cons (ext_index hL) (FnsOk.nil))))))
theorem run140 : isTrue (evCall (cxX Tryd.prog bad [] [] ((6, numExtE [(0, 10, .lit 7), (1, 60, .lit 0)]) :: q50)) 1000 60 3 [.int .i64 (.var 0), .int .i64 (.var 1), .int .i64 (.var 2)] (sentH 240 18 errTab)) = true := by kernel_rfl
theorem case140 {σ : Nat → Int} {W : World} (hL : L0 W) (hk : Known2 σ [] []) (hT : TabOk Tryd.prog bad 6 σ [(0, 10, .lit 7), (1, 60, .lit 0)]) {xs : Array Value} (hv : ∀ ρ, VRs σ ρ [.int .i64 (.var 0), .int .i64 (.var 1), .int .i64 (.var 2)] xs.toList) : Calls Tryd.prog 3 xs W fun e w' => e = .returned (.bool true) ∧ Below W.heap.size W w' := by
  obtain ⟨ads, h1, h2, h3⟩ := errs_sents hL
  exact law_case_x fit h1 h2 h3 errs_all errs_lt (by kernel_rfl) hk (FnsOk.cons (hT.ok fit) ((q50_ok hL))) hv ⟨_, Tryd.func3, rfl⟩ run140
noncomputable def q51 : Fns := [(5, pureFn [p0]), (8, frameFn [m210]), (21, frameFn [m3]), (51, itoaFn), (114, countFn), (129, indexFn)]
theorem q51_ok {σ : Nat → Int} {W0 : World} (hL : L0 W0) : FnsOk Tryd.prog 4095 σ W0 q51 := FnsOk.cons (pure_fn_ok (all_cons (p0_ok hL) (all_nil))) (FnsOk.cons (frame_fn_ok (all_cons (m210_ok hL) (all_nil))) (FnsOk.cons (frame_fn_ok (all_cons (m3_ok hL) (all_nil))) (FnsOk.cons (ext_itoa hL) (FnsOk.cons (ext_count hL) (FnsOk.cons (ext_index hL) (FnsOk.nil))))))
theorem run141 : isTrue (evCall (cxX Tryd.prog bad [] [] ((6, numExtE [(0, 10, .lit 7), (1, 60, .lit 1)]) :: q51)) 1000 60 3 [.int .i64 (.var 0), .int .i64 (.var 1), .int .i64 (.var 2)] (sentH 240 18 errTab)) = true := by kernel_rfl
theorem case141 {σ : Nat → Int} {W : World} (hL : L0 W) (hk : Known2 σ [] []) (hT : TabOk Tryd.prog bad 6 σ [(0, 10, .lit 7), (1, 60, .lit 1)]) {xs : Array Value} (hv : ∀ ρ, VRs σ ρ [.int .i64 (.var 0), .int .i64 (.var 1), .int .i64 (.var 2)] xs.toList) : Calls Tryd.prog 3 xs W fun e w' => e = .returned (.bool true) ∧ Below W.heap.size W w' := by
  obtain ⟨ads, h1, h2, h3⟩ := errs_sents hL
  exact law_case_x fit h1 h2 h3 errs_all errs_lt (by kernel_rfl) hk (FnsOk.cons (hT.ok fit) ((q51_ok hL))) hv ⟨_, Tryd.func3, rfl⟩ run141
noncomputable def q52 : Fns := [(5, pureFn [p0]), (8, frameFn [m210]), (21, frameFn [m6]), (51, itoaFn), (114, countFn), (129, indexFn)]
theorem q52_ok {σ : Nat → Int} {W0 : World} (hL : L0 W0) : FnsOk Tryd.prog 4095 σ W0 q52 := FnsOk.cons (pure_fn_ok (all_cons (p0_ok hL) (all_nil))) (FnsOk.cons (frame_fn_ok (all_cons (m210_ok hL) (all_nil))) (FnsOk.cons (frame_fn_ok (all_cons (m6_ok hL) (all_nil))) (FnsOk.cons (ext_itoa hL) (FnsOk.cons (ext_count hL) (FnsOk.cons (ext_index hL) (FnsOk.nil))))))
theorem run142 : isTrue (evCall (cxX Tryd.prog bad [] [] ((6, numExtE [(0, 10, .lit 7), (1, 60, .lit 2)]) :: q52)) 1000 60 3 [.int .i64 (.var 0), .int .i64 (.var 1), .int .i64 (.var 2)] (sentH 240 18 errTab)) = true := by kernel_rfl
theorem case142 {σ : Nat → Int} {W : World} (hL : L0 W) (hk : Known2 σ [] []) (hT : TabOk Tryd.prog bad 6 σ [(0, 10, .lit 7), (1, 60, .lit 2)]) {xs : Array Value} (hv : ∀ ρ, VRs σ ρ [.int .i64 (.var 0), .int .i64 (.var 1), .int .i64 (.var 2)] xs.toList) : Calls Tryd.prog 3 xs W fun e w' => e = .returned (.bool true) ∧ Below W.heap.size W w' := by
  obtain ⟨ads, h1, h2, h3⟩ := errs_sents hL
  exact law_case_x fit h1 h2 h3 errs_all errs_lt (by kernel_rfl) hk (FnsOk.cons (hT.ok fit) ((q52_ok hL))) hv ⟨_, Tryd.func3, rfl⟩ run142
noncomputable def q53 : Fns := [(5, pureFn [p0]), (8, frameFn [m210]), (21, frameFn [m7]), (51, itoaFn), (114, countFn), (129, indexFn)]
theorem q53_ok {σ : Nat → Int} {W0 : World} (hL : L0 W0) : FnsOk Tryd.prog 4095 σ W0 q53 := FnsOk.cons (pure_fn_ok (all_cons (p0_ok hL) (all_nil))) (FnsOk.cons (frame_fn_ok (all_cons (m210_ok hL) (all_nil))) (FnsOk.cons (frame_fn_ok (all_cons (m7_ok hL) (all_nil))) (FnsOk.cons (ext_itoa hL) (FnsOk.cons (ext_count hL) (FnsOk.cons (ext_index hL) (FnsOk.nil))))))
theorem run143 : isTrue (evCall (cxX Tryd.prog bad [] [] ((6, numExtE [(0, 10, .lit 7), (1, 60, .lit 3)]) :: q53)) 1000 60 3 [.int .i64 (.var 0), .int .i64 (.var 1), .int .i64 (.var 2)] (sentH 240 18 errTab)) = true := by kernel_rfl
theorem case143 {σ : Nat → Int} {W : World} (hL : L0 W) (hk : Known2 σ [] []) (hT : TabOk Tryd.prog bad 6 σ [(0, 10, .lit 7), (1, 60, .lit 3)]) {xs : Array Value} (hv : ∀ ρ, VRs σ ρ [.int .i64 (.var 0), .int .i64 (.var 1), .int .i64 (.var 2)] xs.toList) : Calls Tryd.prog 3 xs W fun e w' => e = .returned (.bool true) ∧ Below W.heap.size W w' := by
  obtain ⟨ads, h1, h2, h3⟩ := errs_sents hL
  exact law_case_x fit h1 h2 h3 errs_all errs_lt (by kernel_rfl) hk (FnsOk.cons (hT.ok fit) ((q53_ok hL))) hv ⟨_, Tryd.func3, rfl⟩ run143
noncomputable def q54 : Fns := [(5, pureFn [p0]), (8, frameFn [m210]), (51, itoaFn), (114, countFn), (129, indexFn)]
theorem q54_ok {σ : Nat → Int} {W0 : World} (hL : L0 W0) : FnsOk Tryd.prog 4095 σ W0 q54 := FnsOk.cons (pure_fn_ok (all_cons (p0_ok hL) (all_nil))) (FnsOk.cons (frame_fn_ok (all_cons (m210_ok hL) (all_nil))) (FnsOk.cons (ext_itoa hL) (FnsOk.cons (ext_count hL) (FnsOk.cons (ext_index hL) (FnsOk.nil)))))
theorem run144 : isTrue (evCall (cxX Tryd.prog bad [] [] ((6, numExtE [(0, 10, .lit 7), (1, 60, .lit 4)]) :: (21, frameFn [m22, m23]) :: q54)) 1000 60 3 [.int .i64 (.var 0), .int .i64 (.var 1), .int .i64 (.var 2)] (sentH 240 18 errTab)) = true := by kernel_rfl
theorem case144 {σ : Nat → Int} {W : World} (hL : L0 W) (hk : Known2 σ [] []) (hT : TabOk Tryd.prog bad 6 σ [(0, 10, .lit 7), (1, 60, .lit 4)]) {xs : Array Value} (hv : ∀ ρ, VRs σ ρ [.int .i64 (.var 0), .int .i64 (.var 1), .int .i64 (.var 2)] xs.toList) : Calls Tryd.prog 3 xs W fun e w' => e = .returned (.bool true) ∧ Below W.heap.size W w' := by
  obtain ⟨ads, h1, h2, h3⟩ := errs_sents hL
  exact law_case_x fit h1 h2 h3 errs_all errs_lt (by kernel_rfl) hk (FnsOk.cons (hT.ok fit) (FnsOk.cons (frame_fn_ok (all_cons (m22_ok hL) (all_cons (m23_ok hL) (all_nil)))) ((q54_ok hL)))) hv ⟨_, Tryd.func3, rfl⟩ run144
theorem run145 : isTrue (evCall (cxX Tryd.prog bad [] [] ((6, numExtE [(0, 10, .lit 7), (1, 60, .lit 5)]) :: (21, frameFn [m24, m25]) :: q54)) 1000 60 3 [.int .i64 (.var 0), .int .i64 (.var 1), .int .i64 (.var 2)] (sentH 240 18 errTab)) = true := by kernel_rfl
theorem case145 {σ : Nat → Int} {W : World} (hL : L0 W) (hk : Known2 σ [] []) (hT : TabOk Tryd.prog bad 6 σ [(0, 10, .lit 7), (1, 60, .lit 5)]) {xs : Array Value} (hv : ∀ ρ, VRs σ ρ [.int .i64 (.var 0), .int .i64 (.var 1), .int .i64 (.var 2)] xs.toList) : Calls Tryd.prog 3 xs W fun e w' => e = .returned (.bool true) ∧ Below W.heap.size W w' := by
  obtain ⟨ads, h1, h2, h3⟩ := errs_sents hL
  exact law_case_x fit h1 h2 h3 errs_all errs_lt (by kernel_rfl) hk (FnsOk.cons (hT.ok fit) (FnsOk.cons (frame_fn_ok (all_cons (m24_ok hL) (all_cons (m25_ok hL) (all_nil)))) ((q54_ok hL)))) hv ⟨_, Tryd.func3, rfl⟩ run145
theorem run146 : isTrue (evCall (cxX Tryd.prog bad [] [] ((6, numExtE [(0, 10, .lit 7), (1, 60, .lit 6)]) :: (21, frameFn [m26, m29]) :: q54)) 1000 60 3 [.int .i64 (.var 0), .int .i64 (.var 1), .int .i64 (.var 2)] (sentH 240 18 errTab)) = true := by kernel_rfl
theorem case146 {σ : Nat → Int} {W : World} (hL : L0 W) (hk : Known2 σ [] []) (hT : TabOk Tryd.prog bad 6 σ [(0, 10, .lit 7), (1, 60, .lit 6)]) {xs : Array Value} (hv : ∀ ρ, VRs σ ρ [.int .i64 (.var 0), .int .i64 (.var 1), .int .i64 (.var 2)] xs.toList) : Calls Tryd.prog 3 xs W fun e w' => e = .returned (.bool true) ∧ Below W.heap.size W w' := by
  obtain ⟨ads, h1, h2, h3⟩ := errs_sents hL
  exact law_case_x fit h1 h2 h3 errs_all errs_lt (by kernel_rfl) hk (FnsOk.cons (hT.ok fit) (FnsOk.cons (frame_fn_ok (all_cons (m26_ok hL) (all_cons (m29_ok hL) (all_nil)))) ((q54_ok hL)))) hv ⟨_, Tryd.func3, rfl⟩ run146
theorem run147 : isTrue (evCall (cxX Tryd.prog bad [] [] ((6, numExtE [(0, 10, .lit 7), (1, 60, .lit 7)]) :: (21, frameFn [m30, m31]) :: q54)) 1000 60 3 [.int .i64 (.var 0), .int .i64 (.var 1), .int .i64 (.var 2)] (sentH 240 18 errTab)) = true := by kernel_rfl
theorem case147 {σ : Nat → Int} {W : World} (hL : L0 W) (hk : Known2 σ [] []) (hT : TabOk Tryd.prog bad 6 σ [(0, 10, .lit 7), (1, 60, .lit 7)]) {xs : Array Value} (hv : ∀ ρ, VRs σ ρ [.int .i64 (.var 0), .int .i64 (.var 1), .int .i64 (.var 2)] xs.toList) : Calls Tryd.prog 3 xs W fun e w' => e = .returned (.bool true) ∧ Below W.heap.size W w' := by
  obtain ⟨ads, h1, h2, h3⟩ := errs_sents hL
  exact law_case_x fit h1 h2 h3 errs_all errs_lt (by kernel_rfl) hk (FnsOk.cons (hT.ok fit) (FnsOk.cons (frame_fn_ok (all_cons (m30_ok hL) (all_cons (m31_ok hL) (all_nil)))) ((q54_ok hL)))) hv ⟨_, Tryd.func3, rfl⟩ run147
theorem run148 : isTrue (evCall (cxX Tryd.prog bad [] [] ((6, numExtE [(0, 10, .lit 7), (1, 60, .lit 8)]) :: (21, frameFn [m41, m42, m43]) :: q54)) 1000 60 3 [.int .i64 (.var 0), .int .i64 (.var 1), .int .i64 (.var 2)] (sentH 240 18 errTab)) = true := by kernel_rfl
theorem case148 {σ : Nat → Int} {W : World} (hL : L0 W) (hk : Known2 σ [] []) (hT : TabOk Tryd.prog bad 6 σ [(0, 10, .lit 7), (1, 60, .lit 8)]) {xs : Array Value} (hv : ∀ ρ, VRs σ ρ [.int .i64 (.var 0), .int .i64 (.var 1), .int .i64 (.var 2)] xs.toList) : Calls Tryd.prog 3 xs W fun e w' => e = .returned (.bool true) ∧ Below W.heap.size W w' := by
  obtain ⟨ads, h1, h2, h3⟩ := errs_sents hL
  exact law_case_x fit h1 h2 h3 errs_all errs_lt (by kernel_rfl) hk (FnsOk.cons (hT.ok fit) (FnsOk.cons (frame_fn_ok (all_cons (m41_ok hL) (all_cons (m42_ok hL) (all_cons (m43_ok hL) (all_nil))))) ((q54_ok hL)))) hv ⟨_, Tryd.func3, rfl⟩ run148
theorem run149 : isTrue (evCall (cxX Tryd.prog bad [] [] ((6, numExtE [(0, 10, .lit 7), (1, 60, .lit 9)]) :: (21, frameFn [m44, m45, m46]) :: q54)) 1000 60 3 [.int .i64 (.var 0), .int .i64 (.var 1), .int .i64 (.var 2)] (sentH 240 18 errTab)) = true := by kernel_rfl
theorem case149 {σ : Nat → Int} {W : World} (hL : L0 W) (hk : Known2 σ [] []) (hT : TabOk Tryd.prog bad 6 σ [(0, 10, .lit 7), (1, 60, .lit 9)]) {xs : Array Value} (hv : ∀ ρ, VRs σ ρ [.int .i64 (.var 0), .int .i64 (.var 1), .int .i64 (.var 2)] xs.toList) : Calls Tryd.prog 3 xs W fun e w' => e = .returned (.bool true) ∧ Below W.heap.size W w' := by
  obtain ⟨ads, h1, h2, h3⟩ := errs_sents hL
  exact law_case_x fit h1 h2 h3 errs_all errs_lt (by kernel_rfl) hk (FnsOk.cons (hT.ok fit) (FnsOk.cons (frame_fn_ok (all_cons (m44_ok hL) (all_cons (m45_ok hL) (all_cons (m46_ok hL) (all_nil))))) ((q54_ok hL)))) hv ⟨_, Tryd.func3, rfl⟩ run149
theorem run150 : isTrue (evCall (cxX Tryd.prog bad [] [] ((6, numExtE [(0, 10, .lit 7), (1, 60, .lit 10)]) :: (21, frameFn [m47, m48, m51]) :: q54)) 1000 60 3 [.int .i64 (.var 0), .int .i64 (.var 1), .int .i64 (.var 2)] (sentH 240 18 errTab)) = true := by kernel_rfl
theorem case150 {σ : Nat → Int} {W : World} (hL : L0 W) (hk : Known2 σ [] []) (hT : TabOk Tryd.prog bad 6 σ [(0, 10, .lit 7), (1, 60, .lit 10)]) {xs : Array Value} (hv : ∀ ρ, VRs σ ρ [.int .i64 (.var 0), .int .i64 (.var 1), .int .i64 (.var 2)] xs.toList) : Calls Tryd.prog 3 xs W fun e w' => e = .returned (.bool true) ∧ Below W.heap.size W w' := by
  obtain ⟨ads, h1, h2, h3⟩ := errs_sents hL
  exact law_case_x fit h1 h2 h3 errs_all errs_lt (by kernel_rfl) hk (FnsOk.cons (hT.ok fit) (FnsOk.cons (frame_fn_ok (all_cons (m47_ok hL) (all_cons (m48_ok hL) (all_cons (m51_ok hL) (all_nil))))) ((q54_ok hL)))) hv ⟨_, Tryd.func3, rfl⟩ run150
theorem run151 : isTrue (evCall (cxX Tryd.prog bad [] [] ((6, numExtE [(0, 10, .lit 7), (1, 60, .lit 11)]) :: (21, frameFn [m52, m53, m54]) :: q54)) 1000 60 3 [.int .i64 (.var 0), .int .i64 (.var 1), .int .i64 (.var 2)] (sentH 240 18 errTab)) = true := by kernel_rfl
theorem case151 {σ : Nat → Int} {W : World} (hL : L0 W) (hk : Known2 σ [] []) (hT : TabOk Tryd.prog bad 6 σ [(0, 10, .lit 7), (1, 60, .lit 11)]) {xs : Array Value} (hv : ∀ ρ, VRs σ ρ [.int .i64 (.var 0), .int .i64 (.var 1), .int .i64 (.var 2)] xs.toList) : Calls Tryd.prog 3 xs W fun e w' => e = .returned (.bool true) ∧ Below W.heap.size W w' := by
  obtain ⟨ads, h1, h2, h3⟩ := errs_sents hL
  exact law_case_x fit h1 h2 h3 errs_all errs_lt (by kernel_rfl) hk (FnsOk.cons (hT.ok fit) (FnsOk.cons (frame_fn_ok (all_cons (m52_ok hL) (all_cons (m53_ok hL) (all_cons (m54_ok hL) (all_nil))))) ((q54_ok hL)))) hv ⟨_, Tryd.func3, rfl⟩ run151
theorem run152 : isTrue (evCall (cxX Tryd.prog bad [] [] ((6, numExtE [(0, 10, .lit 7), (1, 60, .lit 12)]) :: (21, frameFn l9) :: q54)) 1000 60 3 [.int .i64 (.var 0), .int .i64 (.var 1), .int .i64 (.var 2)] (sentH 240 18 errTab)) = true := by kernel_rfl
theorem case152 {σ : Nat → Int} {W : World} (hL : L0 W) (hk : Known2 σ [] []) (hT : TabOk Tryd.prog bad 6 σ [(0, 10, .lit 7), (1, 60, .lit 12)]) {xs : Array Value} (hv : ∀ ρ, VRs σ ρ [.int .i64 (.var 0), .int .i64 (.var 1), .int .i64 (.var 2)] xs.toList) : Calls Tryd.prog 3 xs W fun e w' => e = .returned (.bool true) ∧ Below W.heap.size W w' := by
  obtain ⟨ads, h1, h2, h3⟩ := errs_sents hL
  exact law_case_x fit h1 h2 h3 errs_all errs_lt (by kernel_rfl) hk (FnsOk.cons (hT.ok fit) (FnsOk.cons (frame_fn_ok (l9_ok hL)) ((q54_ok hL)))) hv ⟨_, Tryd.func3, rfl⟩ run152
theorem run153 : isTrue (evCall (cxX Tryd.prog bad [] [] ((6, numExtE [(0, 10, .lit 7), (1, 60, .lit 13)]) :: (21, frameFn l10) :: q54)) 1000 60 3 [.int .i64 (.var 0), .int .i64 (.var 1), .int .i64 (.var 2)] (sentH 240 18 errTab)) = true := by kernel_rfl
theorem case153 {σ : Nat → Int} {W : World} (hL : L0 W) (hk : Known2 σ [] []) (hT : TabOk Tryd.prog bad 6 σ [(0, 10, .lit 7), (1, 60, .lit 13)]) {xs : Array Value} (hv : ∀ ρ, VRs σ ρ [.int .i64 (.var 0), .int .i64 (.var 1), .int .i64 (.var 2)] xs.toList) : Calls Tryd.prog 3 xs W fun e w' => e = .returned (.bool true) ∧ Below W.heap.size W w' := by
  obtain ⟨ads, h1, h2, h3⟩ := errs_sents hL
  exact law_case_x fit h1 h2 h3 errs_all errs_lt (by kernel_rfl) hk (FnsOk.cons (hT.ok fit) (FnsOk.cons (frame_fn_ok (l10_ok hL)) ((q54_ok hL)))) hv ⟨_, Tryd.func3, rfl⟩ run153
theorem run154 : isTrue (evCall (cxX Tryd.prog bad [] [] ((6, numExtE [(0, 10, .lit 7), (1, 60, .lit 14)]) :: (21, frameFn l11) :: q54)) 1000 60 3 [.int .i64 (.var 0), .int .i64 (.var 1), .int .i64 (.var 2)] (sentH 240 18 errTab)) = true := by kernel_rfl
theorem case154 {σ : Nat → Int} {W : World} (hL : L0 W) (hk : Known2 σ [] []) (hT : TabOk Tryd.prog bad 6 σ [(0, 10, .lit 7), (1, 60, .lit 14)]) {xs : Array Value} (hv : ∀ ρ, VRs σ ρ [.int .i64 (.var 0), .int .i64 (.var 1), .int .i64 (.var 2)] xs.toList) : Calls Tryd.prog 3 xs W fun e w' => e = .returned (.bool true) ∧ Below W.heap.size W w' := by
  obtain ⟨ads, h1, h2, h3⟩ := errs_sents hL
  exact law_case_x fit h1 h2 h3 errs_all errs_lt (by kernel_rfl) hk (FnsOk.cons (hT.ok fit) (FnsOk.cons (frame_fn_ok (l11_ok hL)) ((q54_ok hL)))) hv ⟨_, Tryd.func3, rfl⟩ run154
theorem run155 : isTrue (evCall (cxX Tryd.prog bad [] [] ((6, numExtE [(0, 10, .lit 7), (1, 60, .lit 15)]) :: (21, frameFn l12) :: q54)) 1000 60 3 [.int .i64 (.var 0), .int .i64 (.var 1), .int .i64 (.var 2)] (sentH 240 18 errTab)) = true := by kernel_rfl
theorem case155 {σ : Nat → Int} {W : World} (hL : L0 W) (hk : Known2 σ [] []) (hT : TabOk Tryd.prog bad 6 σ [(0, 10, .lit 7), (1, 60, .lit 15)]) {xs : Array Value} (hv : ∀ ρ, VRs σ ρ [.int .i64 (.var 0), .int .i64 (.var 1), .int .i64 (.var 2)] xs.toList) : Calls Tryd.prog 3 xs W fun e w' => e = .returned (.bool true) ∧ Below W.heap.size W w' := by
  obtain ⟨ads, h1, h2, h3⟩ := errs_sents hL
  exact law_case_x fit h1 h2 h3 errs_all errs_lt (by kernel_rfl) hk (FnsOk.cons (hT.ok fit) (FnsOk.cons (frame_fn_ok (l12_ok hL)) ((q54_ok hL)))) hv ⟨_, Tryd.func3, rfl⟩ run155
theorem run156 : isTrue (evCall (cxX Tryd.prog bad [] [] ((6, numExtE [(0, 10, .lit 7), (1, 60, .lit 16)]) :: (21, frameFn l16) :: q54)) 1000 60 3 [.int .i64 (.var 0), .int .i64 (.var 1), .int .i64 (.var 2)] (sentH 240 18 errTab)) = true := by kernel_rfl
theorem case156 {σ : Nat → Int} {W : World} (hL : L0 W) (hk : Known2 σ [] []) (hT : TabOk Tryd.prog bad 6 σ [(0, 10, .lit 7), (1, 60, .lit 16)]) {xs : Array Value} (hv : ∀ ρ, VRs σ ρ [.int .i64 (.var 0), .int .i64 (.var 1), .int .i64 (.var 2)] xs.toList) : Calls Tryd.prog 3 xs W fun e w' => e = .returned (.bool true) ∧ Below W.heap.size W w' := by
  obtain ⟨ads, h1, h2, h3⟩ := errs_sents hL
  exact law_case_x fit h1 h2 h3 errs_all errs_lt (by kernel_rfl) hk (FnsOk.cons (hT.ok fit) (FnsOk.cons (frame_fn_ok (l16_ok hL)) ((q54_ok hL)))) hv ⟨_, Tryd.func3, rfl⟩ run156
theorem run157 : isTrue (evCall (cxX Tryd.prog bad [] [] ((6, numExtE [(0, 10, .lit 7), (1, 60, .lit 17)]) :: (21, frameFn l17) :: q54)) 1000 60 3 [.int .i64 (.var 0), .int .i64 (.var 1), .int .i64 (.var 2)] (sentH 240 18 errTab)) = true := by kernel_rfl
theorem case157 {σ : Nat → Int} {W : World} (hL : L0 W) (hk : Known2 σ [] []) (hT : TabOk Tryd.prog bad 6 σ [(0, 10, .lit 7), (1, 60, .lit 17)]) {xs : Array Value} (hv : ∀ ρ, VRs σ ρ [.int .i64 (.var 0), .int .i64 (.var 1), .int .i64 (.var 2)] xs.toList) : Calls Tryd.prog 3 xs W fun e w' => e = .returned (.bool true) ∧ Below W.heap.size W w' := by
  obtain ⟨ads, h1, h2, h3⟩ := errs_sents hL
  exact law_case_x fit h1 h2 h3 errs_all errs_lt (by kernel_rfl) hk (FnsOk.cons (hT.ok fit) (FnsOk.cons (frame_fn_ok (l17_ok hL)) ((q54_ok hL)))) hv ⟨_, Tryd.func3, rfl⟩ run157
theorem run158 : isTrue (evCall (cxX Tryd.prog bad [] [] ((6, numExtE [(0, 10, .lit 7), (1, 60, .lit 18)]) :: (21, frameFn l18) :: q54)) 1000 60 3 [.int .i64 (.var 0), .int .i64 (.var 1), .int .i64 (.var 2)] (sentH 240 18 errTab)) = true := by kernel_rfl
theorem case158 {σ : Nat → Int} {W : World} (hL : L0 W) (hk : Known2 σ [] []) (hT : TabOk Tryd.prog bad 6 σ [(0, 10, .lit 7), (1, 60, .lit 18)]) {xs : Array Value} (hv : ∀ ρ, VRs σ ρ [.int .i64 (.var 0), .int .i64 (.var 1), .int .i64 (.var 2)] xs.toList) : Calls Tryd.prog 3 xs W fun e w' => e = .returned (.bool true) ∧ Below W.heap.size W w' := by
  obtain ⟨ads, h1, h2, h3⟩ := errs_sents hL
  exact law_case_x fit h1 h2 h3 errs_all errs_lt (by kernel_rfl) hk (FnsOk.cons (hT.ok fit) (FnsOk.cons (frame_fn_ok (l18_ok hL)) ((q54_ok hL)))) hv ⟨_, Tryd.func3, rfl⟩ run158
theorem run159 : isTrue (evCall (cxX Tryd.prog bad [] [] ((6, numExtE [(0, 10, .lit 7), (1, 60, .lit 19)]) :: (21, frameFn l19) :: q54)) 1000 60 3 [.int .i64 (.var 0), .int .i64 (.var 1), .int .i64 (.var 2)] (sentH 240 18 errTab)) = true := by kernel_rfl
theorem case159 {σ : Nat → Int} {W : World} (hL : L0 W) (hk : Known2 σ [] []) (hT : TabOk Tryd.prog bad 6 σ [(0, 10, .lit 7), (1, 60, .lit 19)]) {xs : Array Value} (hv : ∀ ρ, VRs σ ρ [.int .i64 (.var 0), .int .i64 (.var 1), .int .i64 (.var 2)] xs.toList) : Calls Tryd.prog 3 xs W fun e w' => e = .returned (.bool true) ∧ Below W.heap.size W w' := by
  obtain ⟨ads, h1, h2, h3⟩ := errs_sents hL
  exact law_case_x fit h1 h2 h3 errs_all errs_lt (by kernel_rfl) hk (FnsOk.cons (hT.ok fit) (FnsOk.cons (frame_fn_ok (l19_ok hL)) ((q54_ok hL)))) hv ⟨_, Tryd.func3, rfl⟩ run159
theorem run160 : isTrue (evCall (cxX Tryd.prog bad [] [] ((6, numExtE [(0, 10, .lit 7), (1, 60, .lit 20)]) :: (21, frameFn l23) :: q54)) 1000 60 3 [.int .i64 (.var 0), .int .i64 (.var 1), .int .i64 (.var 2)] (sentH 240 18 errTab)) = true := by kernel_rfl
theorem case160 {σ : Nat → Int} {W : World} (hL : L0 W) (hk : Known2 σ [] []) (hT : TabOk Tryd.prog bad 6 σ [(0, 10, .lit 7), (1, 60, .lit 20)]) {xs : Array Value} (hv : ∀ ρ, VRs σ ρ [.int .i64 (.var 0), .int .i64 (.var 1), .int .i64 (.var 2)] xs.toList) : Calls Tryd.prog 3 xs W fun e w' => e = .returned (.bool true) ∧ Below W.heap.size W w' := by
  obtain ⟨ads, h1, h2, h3⟩ := errs_sents hL
  exact law_case_x fit h1 h2 h3 errs_all errs_lt (by kernel_rfl) hk (FnsOk.cons (hT.ok fit) (FnsOk.cons (frame_fn_ok (l23_ok hL)) ((q54_ok hL)))) hv ⟨_, Tryd.func3, rfl⟩ run160
theorem run161 : isTrue (evCall (cxX Tryd.prog bad [] [] ((6, numExtE [(0, 10, .lit 7), (1, 60, .lit 21)]) :: (21, frameFn l24) :: q54)) 1000 60 3 [.int .i64 (.var 0), .int .i64 (.var 1), .int .i64 (.var 2)] (sentH 240 18 errTab)) = true := by kernel_rfl
theorem case161 {σ : Nat → Int} {W : World} (hL : L0 W) (hk : Known2 σ [] []) (hT : TabOk Tryd.prog bad 6 σ [(0, 10, .lit 7), (1, 60, .lit 21)]) {xs : Array Value} (hv : ∀ ρ, VRs σ ρ [.int .i64 (.var 0), .int .i64 (.var 1), .int .i64 (.var 2)] xs.toList) : Calls Tryd.prog 3 xs W fun e w' => e = .returned (.bool true) ∧ Below W.heap.size W w' := by
  obtain ⟨ads, h1, h2, h3⟩ := errs_sents hL
  exact law_case_x fit h1 h2 h3 errs_all errs_lt (by kernel_rfl) hk (FnsOk.cons (hT.ok fit) (FnsOk.cons (frame_fn_ok (l24_ok hL)) ((q54_ok hL)))) hv ⟨_, Tryd.func3, rfl⟩ run161
theorem run162 : isTrue (evCall (cxX Tryd.prog bad [] [] ((6, numExtE [(0, 10, .lit 7), (1, 60, .lit 22)]) :: (21, frameFn l25) :: q54)) 1000 60 3 [.int .i64 (.var 0), .int .i64 (.var 1), .int .i64 (.var 2)] (sentH 240 18 errTab)) = true := by kernel_rfl
theorem case162 {σ : Nat → Int} {W : World} (hL : L0 W) (hk : Known2 σ [] []) (hT : TabOk Tryd.prog bad 6 σ [(0, 10, .lit 7), (1, 60, .lit 22)]) {xs : Array Value} (hv : ∀ ρ, VRs σ ρ [.int .i64 (.var 0), .int .i64 (.var 1), .int .i64 (.var 2)] xs.toList) : Calls Tryd.prog 3 xs W fun e w' => e = .returned (.bool true) ∧ Below W.heap.size W w' := by
  obtain ⟨ads, h1, h2, h3⟩ := errs_sents hL
  exact law_case_x fit h1 h2 h3 errs_all errs_lt (by kernel_rfl) hk (FnsOk.cons (hT.ok fit) (FnsOk.cons (frame_fn_ok (l25_ok hL)) ((q54_ok hL)))) hv ⟨_, Tryd.func3, rfl⟩ run162
theorem run163 : isTrue (evCall (cxX Tryd.prog bad [] [] ((6, numExtE [(0, 10, .lit 7), (1, 60, .lit 23)]) :: (21, frameFn l26) :: q54)) 1000 60 3 [.int .i64 (.var 0), .int .i64 (.var 1), .int .i64 (.var 2)] (sentH 240 18 errTab)) = true := by kernel_rfl
theorem case163 {σ : Nat → Int} {W : World} (hL : L0 W) (hk : Known2 σ [] []) (hT : TabOk Tryd.prog bad 6 σ [(0, 10, .lit 7), (1, 60, .lit 23)]) {xs : Array Value} (hv : ∀ ρ, VRs σ ρ [.int .i64 (.var 0), .int .i64 (.var 1), .int .i64 (.var 2)] xs.toList) : Calls Tryd.prog 3 xs W fun e w' => e = .returned (.bool true) ∧ Below W.heap.size W w' := by
  obtain ⟨ads, h1, h2, h3⟩ := errs_sents hL
  exact law_case_x fit h1 h2 h3 errs_all errs_lt (by kernel_rfl) hk (FnsOk.cons (hT.ok fit) (FnsOk.cons (frame_fn_ok (l26_ok hL)) ((q54_ok hL)))) hv ⟨_, Tryd.func3, rfl⟩ run163
theorem run164 : isTrue (evCall (cxX Tryd.prog bad [] [] ((6, numExtE [(0, 10, .lit 7), (1, 60, .lit 24)]) :: (21, frameFn l30) :: q54)) 1000 60 3 [.int .i64 (.var 0), .int .i64 (.var 1), .int .i64 (.var 2)] (sentH 240 18 errTab)) = true := by kernel_rfl
theorem case164 {σ : Nat → Int} {W : World} (hL : L0 W) (hk : Known2 σ [] []) (hT : TabOk Tryd.prog bad 6 σ [(0, 10, .lit 7), (1, 60, .lit 24)]) {xs : Array Value} (hv : ∀ ρ, VRs σ ρ [.int .i64 (.var 0), .int .i64 (.var 1), .int .i64 (.var 2)] xs.toList) : Calls Tryd.prog 3 xs W fun e w' => e = .returned (.bool true) ∧ Below W.heap.size W w' := by
  obtain ⟨ads, h1, h2, h3⟩ := errs_sents hL
  exact law_case_x fit h1 h2 h3 errs_all errs_lt (by kernel_rfl) hk (FnsOk.cons (hT.ok fit) (FnsOk.cons (frame_fn_ok (l30_ok hL)) ((q54_ok hL)))) hv ⟨_, Tryd.func3, rfl⟩ run164
theorem run165 : isTrue (evCall (cxX Tryd.prog bad [] [] ((6, numExtE [(0, 10, .lit 7), (1, 60, .lit 25)]) :: (21, frameFn l31) :: q54)) 1000 60 3 [.int .i64 (.var 0), .int .i64 (.var 1), .int .i64 (.var 2)] (sentH 240 18 errTab)) = true := by kernel_rfl
theorem case165 {σ : Nat → Int} {W : World} (hL : L0 W) (hk : Known2 σ [] []) (hT : TabOk Tryd.prog bad 6 σ [(0, 10, .lit 7), (1, 60, .lit 25)]) {xs : Array Value} (hv : ∀ ρ, VRs σ ρ [.int .i64 (.var 0), .int .i64 (.var 1), .int .i64 (.var 2)] xs.toList) : Calls Tryd.prog 3 xs W fun e w' => e = .returned (.bool true) ∧ Below W.heap.size W w' := by
  obtain ⟨ads, h1, h2, h3⟩ := errs_sents hL
  exact law_case_x fit h1 h2 h3 errs_all errs_lt (by kernel_rfl) hk (FnsOk.cons (hT.ok fit) (FnsOk.cons (frame_fn_ok (l31_ok hL)) ((q54_ok hL)))) hv ⟨_, Tryd.func3, rfl⟩ run165
theorem run166 : isTrue (evCall (cxX Tryd.prog bad [] [] ((6, numExtE [(0, 10, .lit 7), (1, 60, .lit 26)]) :: (21, frameFn l32) :: q54)) 1000 60 3 [.int .i64 (.var 0), .int .i64 (.var 1), .int .i64 (.var 2)] (sentH 240 18 errTab)) = true := by kernel_rfl
theorem case166 {σ : Nat → Int} {W : World} (hL : L0 W) (hk : Known2 σ [] []) (hT : TabOk Tryd.prog bad 6 σ [(0, 10, .lit 7), (1, 60, .lit 26)]) {xs : Array Value} (hv : ∀ ρ, VRs σ ρ [.int .i64 (.var 0), .int .i64 (.var 1), .int .i64 (.var 2)] xs.toList) : Calls Tryd.prog 3 xs W fun e w' => e = .returned (.bool true) ∧ Below W.heap.size W w' := by
  obtain ⟨ads, h1, h2, h3⟩ := errs_sents hL
  exact law_case_x fit h1 h2 h3 errs_all errs_lt (by kernel_rfl) hk (FnsOk.cons (hT.ok fit) (FnsOk.cons (frame_fn_ok (l32_ok hL)) ((q54_ok hL)))) hv ⟨_, Tryd.func3, rfl⟩ run166
theorem run167 : isTrue (evCall (cxX Tryd.prog bad [] [] ((6, numExtE [(0, 10, .lit 7), (1, 60, .lit 27)]) :: (21, frameFn l33) :: q54)) 1000 60 3 [.int .i64 (.var 0), .int .i64 (.var 1), .int .i64 (.var 2)] (sentH 240 18 errTab)) = true := by kernel_rfl
theorem case167 {σ : Nat → Int} {W : World} (hL : L0 W) (hk : Known2 σ [] []) (hT : TabOk Tryd.prog bad 6 σ [(0, 10, .lit 7), (1, 60, .lit 27)]) {xs : Array Value} (hv : ∀ ρ, VRs σ ρ [.int .i64 (.var 0), .int .i64 (.var 1), .int .i64 (.var 2)] xs.toList) : Calls Tryd.prog 3 xs W fun e w' => e = .returned (.bool true) ∧ Below W.heap.size W w' := by
  obtain ⟨ads, h1, h2, h3⟩ := errs_sents hL
  exact law_case_x fit h1 h2 h3 errs_all errs_lt (by kernel_rfl) hk (FnsOk.cons (hT.ok fit) (FnsOk.cons (frame_fn_ok (l33_ok hL)) ((q54_ok hL)))) hv ⟨_, Tryd.func3, rfl⟩ run167
noncomputable def h290 : H := hUpd h253 343 [] [] [(303, 0, [IZ (-1), I 28, I 0])]
noncomputable def h291 : H := hUpd h254 818 [] [] [(303, 0, [IZ (-1), I 28, I 4])]
noncomputable def m211 : Memo := ⟨[.ptr 311 0, .agg [.slice 30 0 1 1 1 true, I 1, .snil, bF]], h290, .tuple [I 0, .inil], h291⟩
theorem m211_run : ranTo (evCall (cxX Tryd.prog bad [] [] ((44, pureFn l0) :: q0)) 1000 60 21 m211.args m211.h) m211.v m211.h' = true := by kernel_rfl
theorem m211_ok {σ : Nat → Int} {W0 : World} (hL : L0 W0) : MemoOk Tryd.prog 4095 σ W0 21 m211 := memo_ok fit (Known2.nil σ) (FnsOk.cons (pure_fn_ok (l0_ok hL)) ((q0_ok hL))) m211_run
noncomputable def h292 : H := hUpd h255 821 [] [] [(303, 0, [IZ (-1), I 28, I 4])]
noncomputable def h293 : H := hUpd h256 1296 [] [] [(303, 0, [IZ (-1), I 28, I 8])]
noncomputable def m212 : Memo := ⟨[.ptr 311 0, .agg [.slice 33 0 1 1 1 true, I 1, .snil, bF]], h292, .tuple [I 1, .inil], h293⟩
theorem m212_run : ranTo (evCall (cxX Tryd.prog bad [] [] ((44, pureFn l3) :: q0)) 1000 60 21 m212.args m212.h) m212.v m212.h' = true := by kernel_rfl
theorem m212_ok {σ : Nat → Int} {W0 : World} (hL : L0 W0) : MemoOk Tryd.prog 4095 σ W0 21 m212 := memo_ok fit (Known2.nil σ) (FnsOk.cons (pure_fn_ok (l3_ok hL)) ((q0_ok hL))) m212_run
noncomputable def h294 : H := hUpd h257 1299 [] [] [(303, 0, [IZ (-1), I 28, I 8])]
noncomputable def h295 : H := hUpd h258 1774 [] [] [(303, 0, [IZ (-1), I 28, I 12])]
noncomputable def m213 : Memo := ⟨[.ptr 311 0, .agg [.slice 36 0 1 1 1 true, I 1, .snil, bF]], h294, .tuple [I 2, .inil], h295⟩
theorem m213_run : ranTo (evCall (cxX Tryd.prog bad [] [] ((44, pureFn l6) :: q0)) 1000 60 21 m213.args m213.h) m213.v m213.h' = true := by kernel_rfl
theorem m213_ok {σ : Nat → Int} {W0 : World} (hL : L0 W0) : MemoOk Tryd.prog 4095 σ W0 21 m213 := memo_ok fit (Known2.nil σ) (FnsOk.cons (pure_fn_ok (l6_ok hL)) ((q0_ok hL))) m213_run
noncomputable def h296 : H := hUpd h259 1777 [] [] [(303, 0, [IZ (-1), I 28, I 12])]
noncomputable def h297 : H := hUpd h260 2252 [] [] [(303, 0, [IZ (-1), I 28, I 16])]
noncomputable def m214 : Memo := ⟨[.ptr 311 0, .agg [.slice 39 0 1 1 1 true, I 1, .snil, bF]], h296, .tuple [I 3, .inil], h297⟩
theorem m214_run : ranTo (evCall (cxX Tryd.prog bad [] [] ((44, pureFn l13) :: q0)) 1000 60 21 m214.args m214.h) m214.v m214.h' = true := by kernel_rfl
theorem m214_ok {σ : Nat → Int} {W0 : World} (hL : L0 W0) : MemoOk Tryd.prog 4095 σ W0 21 m214 := memo_ok fit (Known2.nil σ) (FnsOk.cons (pure_fn_ok (l13_ok hL)) ((q0_ok hL))) m214_run
noncomputable def h298 : H := hUpd h261 2255 [] [] [(303, 0, [IZ (-1), I 28, I 16])]
noncomputable def h299 : H := hUpd h262 2730 [] [] [(303, 0, [IZ (-1), I 28, I 20])]
noncomputable def m215 : Memo := ⟨[.ptr 311 0, .agg [.slice 42 0 1 1 1 true, I 1, .snil, bF]], h298, .tuple [I 4, .inil], h299⟩
theorem m215_run : ranTo (evCall (cxX Tryd.prog bad [] [] ((44, pureFn l20) :: q0)) 1000 60 21 m215.args m215.h) m215.v m215.h' = true := by kernel_rfl
theorem m215_ok {σ : Nat → Int} {W0 : World} (hL : L0 W0) : MemoOk Tryd.prog 4095 σ W0 21 m215 := memo_ok fit (Known2.nil σ) (FnsOk.cons (pure_fn_ok (l20_ok hL)) ((q0_ok hL))) m215_run
noncomputable def h300 : H := hUpd h263 2733 [] [] [(303, 0, [IZ (-1), I 28, I 20])]
noncomputable def h301 : H := hUpd h264 3208 [] [] [(303, 0, [IZ (-1), I 28, I 24])]
noncomputable def m216 : Memo := ⟨[.ptr 311 0, .agg [.slice 45 0 1 1 1 true, I 1, .snil, bF]], h300, .tuple [I 5, .inil], h301⟩
theorem m216_run : ranTo (evCall (cxX Tryd.prog bad [] [] ((44, pureFn l27) :: q0)) 1000 60 21 m216.args m216.h) m216.v m216.h' = true := by kernel_rfl
theorem m216_ok {σ : Nat → Int} {W0 : World} (hL : L0 W0) : MemoOk Tryd.prog 4095 σ W0 21 m216 := memo_ok fit (Known2.nil σ) (FnsOk.cons (pure_fn_ok (l27_ok hL)) ((q0_ok hL))) m216_run
noncomputable def h302 : H := hUpd h265 3211 [] [] [(303, 0, [IZ (-1), I 28, I 24])]
noncomputable def h303 : H := hUpd h282 3686 [] [] [(303, 0, [IZ (-1), I 28, I 28])]
noncomputable def m217 : Memo := ⟨[.ptr 311 0, .agg [.slice 48 0 1 1 1 true, I 1, .snil, bF]], h302, .tuple [I 6, .inil], h303⟩
theorem m217_run : ranTo (evCall (cxX Tryd.prog bad [] [] ((44, pureFn l34) :: q0)) 1000 60 21 m217.args m217.h) m217.v m217.h' = true := by kernel_rfl
theorem m217_ok {σ : Nat → Int} {W0 : World} (hL : L0 W0) : MemoOk Tryd.prog 4095 σ W0 21 m217 := memo_ok fit (Known2.nil σ) (FnsOk.cons (pure_fn_ok (l34_ok hL)) ((q0_ok hL))) m217_run
noncomputable def h304 : H := hUpd h303 3689 [48] [(51, .cells 1 ([[U 7]]) false)] []
noncomputable def h305 : H := hUpd h304 3720 [] [] []
noncomputable def m218 : Memo := ⟨[.ptr 311 0, .agg [.slice 51 0 1 1 1 true, I 1, .snil, bF]], h304, .tuple [I 0, .iface 240 (.ptr 24 0)], h305⟩
theorem m218_run : ranTo (evCall (cxX Tryd.prog bad [] [] q0) 1000 60 21 m218.args m218.h) m218.v m218.h' = true := by kernel_rfl
theorem m218_ok {σ : Nat → Int} {W0 : World} (hL : L0 W0) : MemoOk Tryd.prog 4095 σ W0 21 m218 := memo_ok fit (Known2.nil σ) ((q0_ok hL)) m218_run
noncomputable def l37 : List (Memo) := m218 :: m217 :: m216 :: m215 :: m214 :: m213 :: m212 :: m211 :: []
theorem l37_ok {σ : Nat → Int} {W0 : World} (hL : L0 W0) : ∀ x ∈ l37, MemoOk Tryd.prog 4095 σ W0 21 x := all_cons (m218_ok hL) (all_cons (m217_ok hL) (all_cons (m216_ok hL) (all_cons (m215_ok hL) (all_cons (m214_ok hL) (all_cons (m213_ok hL) (all_cons (m212_ok hL) (all_cons (m211_ok hL) (all_nil))))))))
theorem run168 : isTrue (evCall (cxX Tryd.prog bad [] [] ((6, numExtE [(0, 10, .lit 7), (1, 60, .lit 28)]) :: (21, frameFn l37) :: q54)) 1000 60 3 [.int .i64 (.var 0), .int .i64 (.var 1), .int .i64 (.var 2)] (sentH 240 18 errTab)) = true := by kernel_rfl
theorem case168 {σ : Nat → Int} {W : World} (hL : L0 W) (hk : Known2 σ [] []) (hT : TabOk Tryd.prog bad 6 σ [(0, 10, .lit 7), (1, 60, .lit 28)]) {xs : Array Value} (hv : ∀ ρ, VRs σ ρ [.int .i64 (.var 0), .int .i64 (.var 1), .int .i64 (.var 2)] xs.toList) : Calls Tryd.prog 3 xs W fun e w' => e = .returned (.bool true) ∧ Below W.heap.size W w' := by
  obtain ⟨ads, h1, h2, h3⟩ := errs_sents hL
  exact law_case_x fit h1 h2 h3 errs_all errs_lt (by kernel_rfl) hk (FnsOk.cons (hT.ok fit) (FnsOk.cons (frame_fn_ok (l37_ok hL)) ((q54_ok hL)))) hv ⟨_, Tryd.func3, rfl⟩ run168
noncomputable def h306 : H := hUpd h267 343 [] [] [(303, 0, [IZ (-1), I 29, I 0])]
noncomputable def h307 : H := hUpd h268 818 [] [] [(303, 0, [IZ (-1), I 29, I 4])]
noncomputable def m219 : Memo := ⟨[.ptr 311 0, .agg [.slice 30 0 1 1 1 true, I 1, .snil, bF]], h306, .tuple [I 0, .inil], h307⟩
theorem m219_run : ranTo (evCall (cxX Tryd.prog bad [] [] ((44, pureFn l0) :: q0)) 1000 60 21 m219.args m219.h) m219.v m219.h' = true := by kernel_rfl
theorem m219_ok {σ : Nat → Int} {W0 : World} (hL : L0 W0) : MemoOk Tryd.prog 4095 σ W0 21 m219 := memo_ok fit (Known2.nil σ) (FnsOk.cons (pure_fn_ok (l0_ok hL)) ((q0_ok hL))) m219_run
noncomputable def h308 : H := hUpd h269 821 [] [] [(303, 0, [IZ (-1), I 29, I 4])]
noncomputable def h309 : H := hUpd h270 1296 [] [] [(303, 0, [IZ (-1), I 29, I 8])]
noncomputable def m220 : Memo := ⟨[.ptr 311 0, .agg [.slice 33 0 1 1 1 true, I 1, .snil, bF]], h308, .tuple [I 1, .inil], h309⟩
theorem m220_run : ranTo (evCall (cxX Tryd.prog bad [] [] ((44, pureFn l3) :: q0)) 1000 60 21 m220.args m220.h) m220.v m220.h' = true := by kernel_rfl
theorem m220_ok {σ : Nat → Int} {W0 : World} (hL : L0 W0) : MemoOk Tryd.prog 4095 σ W0 21 m220 := memo_ok fit (Known2.nil σ) (FnsOk.cons (pure_fn_ok (l3_ok hL)) ((q0_ok hL))) m220_run
noncomputable def h310 : H := hUpd h271 1299 [] [] [(303, 0, [IZ (-1), I 29, I 8])]
noncomputable def h311 : H := hUpd h272 1774 [] [] [(303, 0, [IZ (-1), I 29, I 12])]
noncomputable def m221 : Memo := ⟨[.ptr 311 0, .agg [.slice 36 0 1 1 1 true, I 1, .snil, bF]], h310, .tuple [I 2, .inil], h311⟩
theorem m221_run : ranTo (evCall (cxX Tryd.prog bad [] [] ((44, pureFn l6) :: q0)) 1000 60 21 m221.args m221.h) m221.v m221.h' = true := by kernel_rfl
theorem m221_ok {σ : Nat → Int} {W0 : World} (hL : L0 W0) : MemoOk Tryd.prog 4095 σ W0 21 m221 := memo_ok fit (Known2.nil σ) (FnsOk.cons (pure_fn_ok (l6_ok hL)) ((q0_ok hL))) m221_run
noncomputable def h312 : H := hUpd h273 1777 [] [] [(303, 0, [IZ (-1), I 29, I 12])]
noncomputable def h313 : H := hUpd h274 2252 [] [] [(303, 0, [IZ (-1), I 29, I 16])]
noncomputable def m222 : Memo := ⟨[.ptr 311 0, .agg [.slice 39 0 1 1 1 true, I 1, .snil, bF]], h312, .tuple [I 3, .inil], h313⟩
theorem m222_run : ranTo (evCall (cxX Tryd.prog bad [] [] ((44, pureFn l13) :: q0)) 1000 60 21 m222.args m222.h) m222.v m222.h' = true := by kernel_rfl
theorem m222_ok {σ : Nat → Int} {W0 : World} (hL : L0 W0) : MemoOk Tryd.prog 4095 σ W0 21 m222 := memo_ok fit (Known2.nil σ) (FnsOk.cons (pure_fn_ok (l13_ok hL)) ((q0_ok hL))) m222_run
noncomputable def h314 : H := hUpd h275 2255 [] [] [(303, 0, [IZ (-1), I 29, I 16])]
noncomputable def h315 : H := hUpd h276 2730 [] [] [(303, 0, [IZ (-1), I 29, I 20])]
noncomputable def m223 : Memo := ⟨[.ptr 311 0, .agg [.slice 42 0 1 1 1 true, I 1, .snil, bF]], h314, .tuple [I 4, .inil], h315⟩
theorem m223_run : ranTo (evCall (cxX Tryd.prog bad [] [] ((44, pureFn l20) :: q0)) 1000 60 21 m223.args m223.h) m223.v m223.h' = true := by kernel_rfl
theorem m223_ok {σ : Nat → Int} {W0 : World} (hL : L0 W0) : MemoOk Tryd.prog 4095 σ W0 21 m223 := memo_ok fit (Known2.nil σ) (FnsOk.cons (pure_fn_ok (l20_ok hL)) ((q0_ok hL))) m223_run
noncomputable def h316 : H := hUpd h277 2733 [] [] [(303, 0, [IZ (-1), I 29, I 20])]
noncomputable def h317 : H := hUpd h278 3208 [] [] [(303, 0, [IZ (-1), I 29, I 24])]
noncomputable def m224 : Memo := ⟨[.ptr 311 0, .agg [.slice 45 0 1 1 1 true, I 1, .snil, bF]], h316, .tuple [I 5, .inil], h317⟩
theorem m224_run : ranTo (evCall (cxX Tryd.prog bad [] [] ((44, pureFn l27) :: q0)) 1000 60 21 m224.args m224.h) m224.v m224.h' = true := by kernel_rfl
theorem m224_ok {σ : Nat → Int} {W0 : World} (hL : L0 W0) : MemoOk Tryd.prog 4095 σ W0 21 m224 := memo_ok fit (Known2.nil σ) (FnsOk.cons (pure_fn_ok (l27_ok hL)) ((q0_ok hL))) m224_run
noncomputable def h318 : H := hUpd h279 3211 [] [] [(303, 0, [IZ (-1), I 29, I 24])]
noncomputable def h319 : H := hUpd h282 3686 [] [] [(303, 0, [IZ (-1), I 29, I 28])]
noncomputable def m225 : Memo := ⟨[.ptr 311 0, .agg [.slice 48 0 1 1 1 true, I 1, .snil, bF]], h318, .tuple [I 6, .inil], h319⟩
theorem m225_run : ranTo (evCall (cxX Tryd.prog bad [] [] ((44, pureFn l34) :: q0)) 1000 60 21 m225.args m225.h) m225.v m225.h' = true := by kernel_rfl
theorem m225_ok {σ : Nat → Int} {W0 : World} (hL : L0 W0) : MemoOk Tryd.prog 4095 σ W0 21 m225 := memo_ok fit (Known2.nil σ) (FnsOk.cons (pure_fn_ok (l34_ok hL)) ((q0_ok hL))) m225_run
noncomputable def h320 : H := hUpd h304 3689 [] [] [(303, 0, [IZ (-1), I 29, I 28])]
noncomputable def h321 : H := hUpc h304 3783 [] [(304, .map [(.agg [I 3, I 0], .agg [I 0, I 0], 0), (.agg [I 3, I 1], .agg [I 0, I 0], 1), (.agg [I 2, I 0], .agg [I 0, I 0], 2), (.agg [I 4, I 0], .agg [I 0, I 0], 3), (.agg [I 3, I 2], .agg [I 0, I 0], 4), (.agg [I 3, I 3], .agg [I 0, I 0], 5), (.agg [I 2, I 1], .agg [I 0, I 0], 6), (.agg [I 4, I 1], .agg [I 0, I 0], 7), (.agg [I 3, I 4], .agg [I 0, I 0], 8), (.agg [I 3, I 5], .agg [I 0, I 0], 9), (.agg [I 2, I 2], .agg [I 0, I 0], 10), (.agg [I 4, I 2], .agg [I 0, I 0], 11), (.agg [I 3, I 6], .agg [I 0, I 0], 12), (.agg [I 3, I 7], .agg [I 0, I 0], 13), (.agg [I 2, I 3], .agg [I 0, I 0], 14), (.agg [I 4, I 3], .agg [I 0, I 0], 15), (.agg [I 3, I 8], .agg [I 0, I 0], 16), (.agg [I 3, I 9], .agg [I 0, I 0], 17), (.agg [I 2, I 4], .agg [I 0, I 0], 18), (.agg [I 4, I 4], .agg [I 0, I 0], 19), (.agg [I 3, I 10], .agg [I 0, I 0], 20), (.agg [I 3, I 11], .agg [I 0, I 0], 21), (.agg [I 2, I 5], .agg [I 0, I 0], 22), (.agg [I 4, I 5], .agg [I 0, I 0], 23), (.agg [I 3, I 12], .agg [I 0, I 0], 24), (.agg [I 3, I 13], .agg [I 0, I 0], 25), (.agg [I 2, I 6], .agg [I 0, I 0], 26), (.agg [I 4, I 6], .agg [I 0, I 0], 27), (.agg [I 3, I 14], .agg [I 0, I 0], 28)] 29)] [(262, 14, [bT, I 0, bF]),
  (303, 0, [IZ (-1), I 29, I 29])] [(264, 14, 0, U 7)]
noncomputable def m226 : Memo := ⟨[.ptr 311 0, .agg [.slice 51 0 1 1 1 true, I 1, .snil, bF]], h320, .tuple [I 0, .iface 240 (.ptr 24 0)], h321⟩
theorem m226_run : ranTo (evCall (cxX Tryd.prog bad [] [] q0) 1000 60 21 m226.args m226.h) m226.v m226.h' = true := by kernel_rfl
theorem m226_ok {σ : Nat → Int} {W0 : World} (hL : L0 W0) : MemoOk Tryd.prog 4095 σ W0 21 m226 := memo_ok fit (Known2.nil σ) ((q0_ok hL)) m226_run
noncomputable def l38 : List (Memo) := m226 :: m225 :: m224 :: m223 :: m222 :: m221 :: m220 :: m219 :: []
theorem l38_ok {σ : Nat → Int} {W0 : World} (hL : L0 W0) : ∀ x ∈ l38, MemoOk Tryd.prog 4095 σ W0 21 x := all_cons (m226_ok hL) (all_cons (m225_ok hL) (all_cons (m224_ok hL) (all_cons (m223_ok hL) (all_cons (m222_ok hL) (all_cons (m221_ok hL) (all_cons (m220_ok hL) (all_cons (m219_ok hL) (all_nil))))))))
theorem run169 : isTrue (evCall (cxX Tryd.prog bad [] [] ((6, numExtE [(0, 10, .lit 7), (1, 60, .lit 29)]) :: (21, frameFn l38) :: q54)) 1000 60 3 [.int .i64 (.var 0), .int .i64 (.var 1), .int .i64 (.var 2)] (sentH 240 18 errTab)) = true := by kernel_rfl
theorem case169 {σ : Nat → Int} {W : World} (hL : L0 W) (hk : Known2 σ [] []) (hT : TabOk Tryd.prog bad 6 σ [(0, 10, .lit 7), (1, 60, .lit 29)]) {xs : Array Value} (hv : ∀ ρ, VRs σ ρ [.int .i64 (.var 0), .int .i64 (.var 1), .int .i64 (.var 2)] xs.toList) : Calls Tryd.prog 3 xs W fun e w' => e = .returned (.bool true) ∧ Below W.heap.size W w' := by
  obtain ⟨ads, h1, h2, h3⟩ := errs_sents hL
  exact law_case_x fit h1 h2 h3 errs_all errs_lt (by kernel_rfl) hk (FnsOk.cons (hT.ok fit) (FnsOk.cons (frame_fn_ok (l38_ok hL)) ((q54_ok hL)))) hv ⟨_, Tryd.func3, rfl⟩ run169
noncomputable def h322 : H := hUpd h290 343 [] [] [(303, 0, [IZ (-1), I 30, I 0])]
noncomputable def h323 : H := hUpd h291 818 [] [] [(303, 0, [IZ (-1), I 30, I 4])]
noncomputable def m227 : Memo := ⟨[.ptr 311 0, .agg [.slice 30 0 1 1 1 true, I 1, .snil, bF]], h322, .tuple [I 0, .inil], h323⟩
theorem m227_run : ranTo (evCall (cxX Tryd.prog bad [] [] ((44, pureFn l0) :: q0)) 1000 60 21 m227.args m227.h) m227.v m227.h' = true := by kernel_rfl
theorem m227_ok {σ : Nat → Int} {W0 : World} (hL : L0 W0) : MemoOk Tryd.prog 4095 σ W0 21 m227 := memo_ok fit (Known2.nil σ) (FnsOk.cons (pure_fn_ok (l0_ok hL)) ((q0_ok hL))) m227_run
noncomputable def h324 : H := hUpd h292 821 [] [] [(303, 0, [IZ (-1), I 30, I 4])]
noncomputable def h325 : H := hUpd h293 1296 [] [] [(303, 0, [IZ (-1), I 30, I 8])]
noncomputable def m228 : Memo := ⟨[.ptr 311 0, .agg [.slice 33 0 1 1 1 true, I 1, .snil, bF]], h324, .tuple [I 1, .inil], h325⟩
theorem m228_run : ranTo (evCall (cxX Tryd.prog bad [] [] ((44, pureFn l3) :: q0)) 1000 60 21 m228.args m228.h) m228.v m228.h' = true := by kernel_rfl
theorem m228_ok {σ : Nat → Int} {W0 : World} (hL : L0 W0) : MemoOk Tryd.prog 4095 σ W0 21 m228 := memo_ok fit (Known2.nil σ) (FnsOk.cons (pure_fn_ok (l3_ok hL)) ((q0_ok hL))) m228_run
noncomputable def h326 : H := hUpd h294 1299 [] [] [(303, 0, [IZ (-1), I 30, I 8])]
noncomputable def h327 : H := hUpd h295 1774 [] [] [(303, 0, [IZ (-1), I 30, I 12])]
noncomputable def m229 : Memo := ⟨[.ptr 311 0, .agg [.slice 36 0 1 1 1 true, I 1, .snil, bF]], h326, .tuple [I 2, .inil], h327⟩
theorem m229_run : ranTo (evCall (cxX Tryd.prog bad [] [] ((44, pureFn l6) :: q0)) 1000 60 21 m229.args m229.h) m229.v m229.h' = true := by kernel_rfl
theorem m229_ok {σ : Nat → Int} {W0 : World} (hL : L0 W0) : MemoOk Tryd.prog 4095 σ W0 21 m229 := memo_ok fit (Known2.nil σ) (FnsOk.cons (pure_fn_ok (l6_ok hL)) ((q0_ok hL))) m229_run
noncomputable def h328 : H := hUpd h296 1777 [] [] [(303, 0, [IZ (-1), I 30, I 12])]
noncomputable def h329 : H := hUpd h297 2252 [] [] [(303, 0, [IZ (-1), I 30, I 16])]
noncomputable def m230 : Memo := ⟨[.ptr 311 0, .agg [.slice 39 0 1 1 1 true, I 1, .snil, bF]], h328, .tuple [I 3, .inil], h329⟩
theorem m230_run : ranTo (evCall (cxX Tryd.prog bad [] [] ((44, pureFn l13) :: q0)) 1000 60 21 m230.args m230.h) m230.v m230.h' = true := by kernel_rfl
theorem m230_ok {σ : Nat → Int} {W0 : World} (hL : L0 W0) : MemoOk Tryd.prog 4095 σ W0 21 m230 := memo_ok fit (Known2.nil σ) (FnsOk.cons (pure_fn_ok (l13_ok hL)) ((q0_ok hL))) m230_run
noncomputable def h330 : H := hUpd h298 2255 [] [] [(303, 0, [IZ (-1), I 30, I 16])]
noncomputable def h331 : H := hUpd h299 2730 [] [] [(303, 0, [IZ (-1), I 30, I 20])]
noncomputable def m231 : Memo := ⟨[.ptr 311 0, .agg [.slice 42 0 1 1 1 true, I 1, .snil, bF]], h330, .tuple [I 4, .inil], h331⟩
theorem m231_run : ranTo (evCall (cxX Tryd.prog bad [] [] ((44, pureFn l20) :: q0)) 1000 60 21 m231.args m231.h) m231.v m231.h' = true := by kernel_rfl
theorem m231_ok {σ : Nat → Int} {W0 : World} (hL : L0 W0) : MemoOk Tryd.prog 4095 σ W0 21 m231 := memo_ok fit (Known2.nil σ) (FnsOk.cons (pure_fn_ok (l20_ok hL)) ((q0_ok hL))) m231_run
noncomputable def h332 : H := hUpd h300 2733 [] [] [(303, 0, [IZ (-1), I 30, I 20])]
noncomputable def h333 : H := hUpd h301 3208 [] [] [(303, 0, [IZ (-1), I 30, I 24])]
noncomputable def m232 : Memo := ⟨[.ptr 311 0, .agg [.slice 45 0 1 1 1 true, I 1, .snil, bF]], h332, .tuple [I 5, .inil], h333⟩
theorem m232_run : ranTo (evCall (cxX Tryd.prog bad [] [] ((44, pureFn l27) :: q0)) 1000 60 21 m232.args m232.h) m232.v m232.h' = true := by kernel_rfl
theorem m232_ok {σ : Nat → Int} {W0 : World} (hL : L0 W0) : MemoOk Tryd.prog 4095 σ W0 21 m232 := memo_ok fit (Known2.nil σ) (FnsOk.cons (pure_fn_ok (l27_ok hL)) ((q0_ok hL))) m232_run
noncomputable def h334 : H := hUpd h302 3211 [] [] [(303, 0, [IZ (-1), I 30, I 24])]
noncomputable def h335 : H := hUpd h303 3686 [] [] [(303, 0, [IZ (-1), I 30, I 28])]
noncomputable def m233 : Memo := ⟨[.ptr 311 0, .agg [.slice 48 0 1 1 1 true, I 1, .snil, bF]], h334, .tuple [I 6, .inil], h335⟩
theorem m233_run : ranTo (evCall (cxX Tryd.prog bad [] [] ((44, pureFn l34) :: q0)) 1000 60 21 m233.args m233.h) m233.v m233.h' = true := by kernel_rfl
theorem m233_ok {σ : Nat → Int} {W0 : World} (hL : L0 W0) : MemoOk Tryd.prog 4095 σ W0 21 m233 := memo_ok fit (Known2.nil σ) (FnsOk.cons (pure_fn_ok (l34_ok hL)) ((q0_ok hL))) m233_run
noncomputable def p234 : Pur := ([.agg [I 3, I 14, I 0, I 0, U 0]], .inil, 1048576)
theorem p234_run : ranPure (evCall (cxX Tryd.prog bad [] [] q0) 1000 60 44 p234.1 ⟨.lf, p234.2.2⟩) p234.2.1 = true := by kernel_rfl
theorem p234_ok {σ : Nat → Int} {W0 : World} (hL : L0 W0) : PureOk Tryd.prog 4095 σ W0 44 p234 := pure_ok fit (Known2.nil σ) ((q0_ok hL)) p234_run
noncomputable def p235 : Pur := ([.agg [I 3, I 15, I 0, I 0, U 0]], .inil, 1048576)
theorem p235_run : ranPure (evCall (cxX Tryd.prog bad [] [] q0) 1000 60 44 p235.1 ⟨.lf, p235.2.2⟩) p235.2.1 = true := by kernel_rfl
theorem p235_ok {σ : Nat → Int} {W0 : World} (hL : L0 W0) : PureOk Tryd.prog 4095 σ W0 44 p235 := pure_ok fit (Known2.nil σ) ((q0_ok hL)) p235_run
noncomputable def h336 : H := hUpd h304 3689 [] [] [(303, 0, [IZ (-1), I 30, I 28])]
noncomputable def h337 : H := hUpd h321 3894 [] [(304, .map [(.agg [I 3, I 0], .agg [I 0, I 0], 0), (.agg [I 3, I 1], .agg [I 0, I 0], 1), (.agg [I 2, I 0], .agg [I 0, I 0], 2), (.agg [I 4, I 0], .agg [I 0, I 0], 3), (.agg [I 3, I 2], .agg [I 0, I 0], 4), (.agg [I 3, I 3], .agg [I 0, I 0], 5), (.agg [I 2, I 1], .agg [I 0, I 0], 6), (.agg [I 4, I 1], .agg [I 0, I 0], 7), (.agg [I 3, I 4], .agg [I 0, I 0], 8), (.agg [I 3, I 5], .agg [I 0, I 0], 9), (.agg [I 2, I 2], .agg [I 0, I 0], 10), (.agg [I 4, I 2], .agg [I 0, I 0], 11), (.agg [I 3, I 6], .agg [I 0, I 0], 12), (.agg [I 3, I 7], .agg [I 0, I 0], 13), (.agg [I 2, I 3], .agg [I 0, I 0], 14), (.agg [I 4, I 3], .agg [I 0, I 0], 15), (.agg [I 3, I 8], .agg [I 0, I 0], 16), (.agg [I 3, I 9], .agg [I 0, I 0], 17), (.agg [I 2, I 4], .agg [I 0, I 0], 18), (.agg [I 4, I 4], .agg [I 0, I 0], 19), (.agg [I 3, I 10], .agg [I 0, I 0], 20), (.agg [I 3, I 11], .agg [I 0, I 0], 21), (.agg [I 2, I 5], .agg [I 0, I 0], 22), (.agg [I 4, I 5], .agg [I 0, I 0], 23), (.agg [I 3, I 12], .agg [I 0, I 0], 24), (.agg [I 3, I 13], .agg [I 0, I 0], 25), (.agg [I 2, I 6], .agg [I 0, I 0], 26), (.agg [I 4, I 6], .agg [I 0, I 0], 27), (.agg [I 3, I 14], .agg [I 0, I 0], 28), (.agg [I 3, I 15], .agg [I 0, I 0], 29)] 30)] [(262, 15, [bT, I 0, bF]),
  (303, 0, [IZ (-1), I 30, I 30])]
noncomputable def m236 : Memo := ⟨[.ptr 311 0, .agg [.slice 51 0 1 1 1 true, I 1, .snil, bF]], h336, .tuple [I 0, .iface 240 (.ptr 24 0)], h337⟩
theorem m236_run : ranTo (evCall (cxX Tryd.prog bad [] [] ((44, pureFn [p234, p235]) :: q0)) 1000 60 21 m236.args m236.h) m236.v m236.h' = true := by kernel_rfl
theorem m236_ok {σ : Nat → Int} {W0 : World} (hL : L0 W0) : MemoOk Tryd.prog 4095 σ W0 21 m236 := memo_ok fit (Known2.nil σ) (FnsOk.cons (pure_fn_ok (all_cons (p234_ok hL) (all_cons (p235_ok hL) (all_nil)))) ((q0_ok hL))) m236_run
noncomputable def l39 : List (Memo) := m236 :: m233 :: m232 :: m231 :: m230 :: m229 :: m228 :: m227 :: []
theorem l39_ok {σ : Nat → Int} {W0 : World} (hL : L0 W0) : ∀ x ∈ l39, MemoOk Tryd.prog 4095 σ W0 21 x := all_cons (m236_ok hL) (all_cons (m233_ok hL) (all_cons (m232_ok hL) (all_cons (m231_ok hL) (all_cons (m230_ok hL) (all_cons (m229_ok hL) (all_cons (m228_ok hL) (all_cons (m227_ok hL) (all_nil))))))))
theorem run170 : isTrue (evCall (cxX Tryd.prog bad [] [] ((6, numExtE [(0, 10, .lit 7), (1, 60, .lit 30)]) :: (21, frameFn l39) :: q54)) 1000 60 3 [.int .i64 (.var 0), .int .i64 (.var 1), .int .i64 (.var 2)] (sentH 240 18 errTab)) = true := by kernel_rfl
theorem case170 {σ : Nat → Int} {W : World} (hL : L0 W) (hk : Known2 σ [] []) (hT : TabOk Tryd.prog bad 6 σ [(0, 10, .lit 7), (1, 60, .lit 30)]) {xs : Array Value} (hv : ∀ ρ, VRs σ ρ [.int .i64 (.var 0), .int .i64 (.var 1), .int .i64 (.var 2)] xs.toList) : Calls Tryd.prog 3 xs W fun e w' => e = .returned (.bool true) ∧ Below W.heap.size W w' := by
  obtain ⟨ads, h1, h2, h3⟩ := errs_sents hL
  exact law_case_x fit h1 h2 h3 errs_all errs_lt (by kernel_rfl) hk (FnsOk.cons (hT.ok fit) (FnsOk.cons (frame_fn_ok (l39_ok hL)) ((q54_ok hL)))) hv ⟨_, Tryd.func3, rfl⟩ run170
noncomputable def h338 : H := hUpd h306 343 [] [] [(303, 0, [IZ (-1), I 31, I 0])]
noncomputable def h339 : H := hUpd h307 818 [] [] [(303, 0, [IZ (-1), I 31, I 4])]
noncomputable def m237 : Memo := ⟨[.ptr 311 0, .agg [.slice 30 0 1 1 1 true, I 1, .snil, bF]], h338, .tuple [I 0, .inil], h339⟩
theorem m237_run : ranTo (evCall (cxX Tryd.prog bad [] [] ((44, pureFn l0) :: q0)) 1000 60 21 m237.args m237.h) m237.v m237.h' = true := by kernel_rfl
theorem m237_ok {σ : Nat → Int} {W0 : World} (hL : L0 W0) : MemoOk Tryd.prog 4095 σ W0 21 m237 := memo_ok fit (Known2.nil σ) (FnsOk.cons (pure_fn_ok (l0_ok hL)) ((q0_ok hL))) m237_run
noncomputable def h340 : H := hUpd h308 821 [] [] [(303, 0, [IZ (-1), I 31, I 4])]
noncomputable def h341 : H := hUpd h309 1296 [] [] [(303, 0, [IZ (-1), I 31, I 8])]
noncomputable def m238 : Memo := ⟨[.ptr 311 0, .agg [.slice 33 0 1 1 1 true, I 1, .snil, bF]], h340, .tuple [I 1, .inil], h341⟩
theorem m238_run : ranTo (evCall (cxX Tryd.prog bad [] [] ((44, pureFn l3) :: q0)) 1000 60 21 m238.args m238.h) m238.v m238.h' = true := by kernel_rfl
theorem m238_ok {σ : Nat → Int} {W0 : World} (hL : L0 W0) : MemoOk Tryd.prog 4095 σ W0 21 m238 := memo_ok fit (Known2.nil σ) (FnsOk.cons (pure_fn_ok (l3_ok hL)) ((q0_ok hL))) m238_run
noncomputable def h342 : H := hUpd h310 1299 [] [] [(303, 0, [IZ (-1), I 31, I 8])]
noncomputable def h343 : H := hUpd h311 1774 [] [] [(303, 0, [IZ (-1), I 31, I 12])]
noncomputable def m239 : Memo := ⟨[.ptr 311 0, .agg [.slice 36 0 1 1 1 true, I 1, .snil, bF]], h342, .tuple [I 2, .inil], h343⟩
theorem m239_run : ranTo (evCall (cxX Tryd.prog bad [] [] ((44, pureFn l6) :: q0)) 1000 60 21 m239.args m239.h) m239.v m239.h' = true := by kernel_rfl
theorem m239_ok {σ : Nat → Int} {W0 : World} (hL : L0 W0) : MemoOk Tryd.prog 4095 σ W0 21 m239 := memo_ok fit (Known2.nil σ) (FnsOk.cons (pure_fn_ok (l6_ok hL)) ((q0_ok hL))) m239_run
noncomputable def h344 : H := hUpd h312 1777 [] [] [(303, 0, [IZ (-1), I 31, I 12])]
noncomputable def h345 : H := hUpd h313 2252 [] [] [(303, 0, [IZ (-1), I 31, I 16])]
noncomputable def m240 : Memo := ⟨[.ptr 311 0, .agg [.slice 39 0 1 1 1 true, I 1, .snil, bF]], h344, .tuple [I 3, .inil], h345⟩
theorem m240_run : ranTo (evCall (cxX Tryd.prog bad [] [] ((44, pureFn l13) :: q0)) 1000 60 21 m240.args m240.h) m240.v m240.h' = true := by kernel_rfl
theorem m240_ok {σ : Nat → Int} {W0 : World} (hL : L0 W0) : MemoOk Tryd.prog 4095 σ W0 21 m240 := memo_ok fit (Known2.nil σ) (FnsOk.cons (pure_fn_ok (l13_ok hL)) ((q0_ok hL))) m240_run
noncomputable def h346 : H := hUpd h314 2255 [] [] [(303, 0, [IZ (-1), I 31, I 16])]
noncomputable def h347 : H := hUpd h315 2730 [] [] [(303, 0, [IZ (-1), I 31, I 20])]
noncomputable def m241 : Memo := ⟨[.ptr 311 0, .agg [.slice 42 0 1 1 1 true, I 1, .snil, bF]], h346, .tuple [I 4, .inil], h347⟩
theorem m241_run : ranTo (evCall (cxX Tryd.prog bad [] [] ((44, pureFn l20) :: q0)) 1000 60 21 m241.args m241.h) m241.v m241.h' = true := by kernel_rfl
theorem m241_ok {σ : Nat → Int} {W0 : World} (hL : L0 W0) : MemoOk Tryd.prog 4095 σ W0 21 m241 := memo_ok fit (Known2.nil σ) (FnsOk.cons (pure_fn_ok (l20_ok hL)) ((q0_ok hL))) m241_run
noncomputable def h348 : H := hUpd h316 2733 [] [] [(303, 0, [IZ (-1), I 31, I 20])]
noncomputable def h349 : H := hUpd h317 3208 [] [] [(303, 0, [IZ (-1), I 31, I 24])]
noncomputable def m242 : Memo := ⟨[.ptr 311 0, .agg [.slice 45 0 1 1 1 true, I 1, .snil, bF]], h348, .tuple [I 5, .inil], h349⟩
theorem m242_run : ranTo (evCall (cxX Tryd.prog bad [] [] ((44, pureFn l27) :: q0)) 1000 60 21 m242.args m242.h) m242.v m242.h' = true := by kernel_rfl
theorem m242_ok {σ : Nat → Int} {W0 : World} (hL : L0 W0) : MemoOk Tryd.prog 4095 σ W0 21 m242 := memo_ok fit (Known2.nil σ) (FnsOk.cons (pure_fn_ok (l27_ok hL)) ((q0_ok hL))) m242_run
noncomputable def h350 : H := hUpd h318 3211 [] [] [(303, 0, [IZ (-1), I 31, I 24])]
noncomputable def h351 : H := hUpd h319 3686 [] [] [(303, 0, [IZ (-1), I 31, I 28])]
noncomputable def m243 : Memo := ⟨[.ptr 311 0, .agg [.slice 48 0 1 1 1 true, I 1, .snil, bF]], h350, .tuple [I 6, .inil], h351⟩
theorem m243_run : ranTo (evCall (cxX Tryd.prog bad [] [] ((44, pureFn l34) :: q0)) 1000 60 21 m243.args m243.h) m243.v m243.h' = true := by kernel_rfl
theorem m243_ok {σ : Nat → Int} {W0 : World} (hL : L0 W0) : MemoOk Tryd.prog 4095 σ W0 21 m243 := memo_ok fit (Known2.nil σ) (FnsOk.cons (pure_fn_ok (l34_ok hL)) ((q0_ok hL))) m243_run
noncomputable def h352 : H := hUpd h320 3689 [] [] [(303, 0, [IZ (-1), I 31, I 28])]
noncomputable def h353 : H := hUpc h337 3957 [] [(304, .map [(.agg [I 3, I 0], .agg [I 0, I 0], 0), (.agg [I 3, I 1], .agg [I 0, I 0], 1), (.agg [I 2, I 0], .agg [I 0, I 0], 2), (.agg [I 4, I 0], .agg [I 0, I 0], 3), (.agg [I 3, I 2], .agg [I 0, I 0], 4), (.agg [I 3, I 3], .agg [I 0, I 0], 5), (.agg [I 2, I 1], .agg [I 0, I 0], 6), (.agg [I 4, I 1], .agg [I 0, I 0], 7), (.agg [I 3, I 4], .agg [I 0, I 0], 8), (.agg [I 3, I 5], .agg [I 0, I 0], 9), (.agg [I 2, I 2], .agg [I 0, I 0], 10), (.agg [I 4, I 2], .agg [I 0, I 0], 11), (.agg [I 3, I 6], .agg [I 0, I 0], 12), (.agg [I 3, I 7], .agg [I 0, I 0], 13), (.agg [I 2, I 3], .agg [I 0, I 0], 14), (.agg [I 4, I 3], .agg [I 0, I 0], 15), (.agg [I 3, I 8], .agg [I 0, I 0], 16), (.agg [I 3, I 9], .agg [I 0, I 0], 17), (.agg [I 2, I 4], .agg [I 0, I 0], 18), (.agg [I 4, I 4], .agg [I 0, I 0], 19), (.agg [I 3, I 10], .agg [I 0, I 0], 20), (.agg [I 3, I 11], .agg [I 0, I 0], 21), (.agg [I 2, I 5], .agg [I 0, I 0], 22), (.agg [I 4, I 5], .agg [I 0, I 0], 23), (.agg [I 3, I 12], .agg [I 0, I 0], 24), (.agg [I 3, I 13], .agg [I 0, I 0], 25), (.agg [I 2, I 6], .agg [I 0, I 0], 26), (.agg [I 4, I 6], .agg [I 0, I 0], 27), (.agg [I 3, I 14], .agg [I 0, I 0], 28), (.agg [I 3, I 15], .agg [I 0, I 0], 29), (.agg [I 2, I 7], .agg [I 0, I 0], 30)] 31)] [(258, 7, [bT, I 0, bF]),
  (303, 0, [IZ (-1), I 31, I 31])] [(260, 7, 0, I 3), (260, 7, 1, I 14), (260, 7, 5, I 3), (260, 7, 6, I 15)]
noncomputable def m244 : Memo := ⟨[.ptr 311 0, .agg [.slice 51 0 1 1 1 true, I 1, .snil, bF]], h352, .tuple [I 0, .iface 240 (.ptr 24 0)], h353⟩
theorem m244_run : ranTo (evCall (cxX Tryd.prog bad [] [] ((44, pureFn [p234, p235]) :: q0)) 1000 60 21 m244.args m244.h) m244.v m244.h' = true := by kernel_rfl
theorem m244_ok {σ : Nat → Int} {W0 : World} (hL : L0 W0) : MemoOk Tryd.prog 4095 σ W0 21 m244 := memo_ok fit (Known2.nil σ) (FnsOk.cons (pure_fn_ok (all_cons (p234_ok hL) (all_cons (p235_ok hL) (all_nil)))) ((q0_ok hL))) m244_run
noncomputable def l40 : List (Memo) := m244 :: m243 :: m242 :: m241 :: m240 :: m239 :: m238 :: m237 :: []
theorem l40_ok {σ : Nat → Int} {W0 : World} (hL : L0 W0) : ∀ x ∈ l40, MemoOk Tryd.prog 4095 σ W0 21 x := all_cons (m244_ok hL) (all_cons (m243_ok hL) (all_cons (m242_ok hL) (all_cons (m241_ok hL) (all_cons (m240_ok hL) (all_cons (m239_ok hL) (all_cons (m238_ok hL) (all_cons (m237_ok hL) (all_nil))))))))
theorem run171 : isTrue (evCall (cxX Tryd.prog bad [] [] ((6, numExtE [(0, 10, .lit 7), (1, 60, .lit 31)]) :: (21, frameFn l40) :: q54)) 1000 60 3 [.int .i64 (.var 0), .int .i64 (.var 1), .int .i64 (.var 2)] (sentH 240 18 errTab)) = true := by kernel_rfl
theorem case171 {σ : Nat → Int} {W : World} (hL : L0 W) (hk : Known2 σ [] []) (hT : TabOk Tryd.prog bad 6 σ [(0, 10, .lit 7), (1, 60, .lit 31)]) {xs : Array Value} (hv : ∀ ρ, VRs σ ρ [.int .i64 (.var 0), .int .i64 (.var 1), .int .i64 (.var 2)] xs.toList) : Calls Tryd.prog 3 xs W fun e w' => e = .returned (.bool true) ∧ Below W.heap.size W w' := by
  obtain ⟨ads, h1, h2, h3⟩ := errs_sents hL
  exact law_case_x fit h1 h2 h3 errs_all errs_lt (by kernel_rfl) hk (FnsOk.cons (hT.ok fit) (FnsOk.cons (frame_fn_ok (l40_ok hL)) ((q54_ok hL)))) hv ⟨_, Tryd.func3, rfl⟩ run171
noncomputable def m245 : Memo := ⟨[.ptr 311 0, .agg [.slice 30 0 1 1 1 true, I 1, .snil, bF]], h11, .tuple [I 0, .inil], h12⟩
theorem m245_run : ranTo (evCall (cxX Tryd.prog bad [((-9223372036854775808), 9223372036854775807), ((-9223372036854775808), 9223372036854775807), ((-9223372036854775808), 9223372036854775807), (32, 59)] [] ((44, pureFn l0) :: q0)) 1000 60 21 m245.args m245.h) m245.v m245.h' = true := by kernel_rfl
theorem m245_ok {σ : Nat → Int} {W0 : World} (hL : L0 W0) (hk : Known2 σ [((-9223372036854775808), 9223372036854775807), ((-9223372036854775808), 9223372036854775807), ((-9223372036854775808), 9223372036854775807), (32, 59)] []) : MemoOk Tryd.prog 4095 σ W0 21 m245 := memo_ok fit hk (FnsOk.cons (pure_fn_ok (l0_ok hL)) ((q0_ok hL))) m245_run
noncomputable def m246 : Memo := ⟨[.ptr 311 0, .agg [.slice 33 0 1 1 1 true, I 1, .snil, bF]], h36, .tuple [I 1, .inil], h37⟩
theorem m246_run : ranTo (evCall (cxX Tryd.prog bad [((-9223372036854775808), 9223372036854775807), ((-9223372036854775808), 9223372036854775807), ((-9223372036854775808), 9223372036854775807), (32, 59)] [] ((44, pureFn l3) :: q0)) 1000 60 21 m246.args m246.h) m246.v m246.h' = true := by kernel_rfl
theorem m246_ok {σ : Nat → Int} {W0 : World} (hL : L0 W0) (hk : Known2 σ [((-9223372036854775808), 9223372036854775807), ((-9223372036854775808), 9223372036854775807), ((-9223372036854775808), 9223372036854775807), (32, 59)] []) : MemoOk Tryd.prog 4095 σ W0 21 m246 := memo_ok fit hk (FnsOk.cons (pure_fn_ok (l3_ok hL)) ((q0_ok hL))) m246_run
noncomputable def m247 : Memo := ⟨[.ptr 311 0, .agg [.slice 36 0 1 1 1 true, I 1, .snil, bF]], h69, .tuple [I 2, .inil], h70⟩
theorem m247_run : ranTo (evCall (cxX Tryd.prog bad [((-9223372036854775808), 9223372036854775807), ((-9223372036854775808), 9223372036854775807), ((-9223372036854775808), 9223372036854775807), (32, 59)] [] ((44, pureFn l6) :: q0)) 1000 60 21 m247.args m247.h) m247.v m247.h' = true := by kernel_rfl
theorem m247_ok {σ : Nat → Int} {W0 : World} (hL : L0 W0) (hk : Known2 σ [((-9223372036854775808), 9223372036854775807), ((-9223372036854775808), 9223372036854775807), ((-9223372036854775808), 9223372036854775807), (32, 59)] []) : MemoOk Tryd.prog 4095 σ W0 21 m247 := memo_ok fit hk (FnsOk.cons (pure_fn_ok (l6_ok hL)) ((q0_ok hL))) m247_run
noncomputable def m248 : Memo := ⟨[.ptr 311 0, .agg [.slice 39 0 1 1 1 true, I 1, .snil, bF]], h110, .tuple [I 3, .inil], h111⟩
theorem m248_run : ranTo (evCall (cxX Tryd.prog bad [((-9223372036854775808), 9223372036854775807), ((-9223372036854775808), 9223372036854775807), ((-9223372036854775808), 9223372036854775807), (32, 59)] [] ((44, pureFn l13) :: q0)) 1000 60 21 m248.args m248.h) m248.v m248.h' = true := by kernel_rfl
theorem m248_ok {σ : Nat → Int} {W0 : World} (hL : L0 W0) (hk : Known2 σ [((-9223372036854775808), 9223372036854775807), ((-9223372036854775808), 9223372036854775807), ((-9223372036854775808), 9223372036854775807), (32, 59)] []) : MemoOk Tryd.prog 4095 σ W0 21 m248 := memo_ok fit hk (FnsOk.cons (pure_fn_ok (l13_ok hL)) ((q0_ok hL))) m248_run
noncomputable def m249 : Memo := ⟨[.ptr 311 0, .agg [.slice 42 0 1 1 1 true, I 1, .snil, bF]], h159, .tuple [I 4, .inil], h160⟩
theorem m249_run : ranTo (evCall (cxX Tryd.prog bad [((-9223372036854775808), 9223372036854775807), ((-9223372036854775808), 9223372036854775807), ((-9223372036854775808), 9223372036854775807), (32, 59)] [] ((44, pureFn l20) :: q0)) 1000 60 21 m249.args m249.h) m249.v m249.h' = true := by kernel_rfl
theorem m249_ok {σ : Nat → Int} {W0 : World} (hL : L0 W0) (hk : Known2 σ [((-9223372036854775808), 9223372036854775807), ((-9223372036854775808), 9223372036854775807), ((-9223372036854775808), 9223372036854775807), (32, 59)] []) : MemoOk Tryd.prog 4095 σ W0 21 m249 := memo_ok fit hk (FnsOk.cons (pure_fn_ok (l20_ok hL)) ((q0_ok hL))) m249_run
noncomputable def m250 : Memo := ⟨[.ptr 311 0, .agg [.slice 45 0 1 1 1 true, I 1, .snil, bF]], h216, .tuple [I 5, .inil], h217⟩
theorem m250_run : ranTo (evCall (cxX Tryd.prog bad [((-9223372036854775808), 9223372036854775807), ((-9223372036854775808), 9223372036854775807), ((-9223372036854775808), 9223372036854775807), (32, 59)] [] ((44, pureFn l27) :: q0)) 1000 60 21 m250.args m250.h) m250.v m250.h' = true := by kernel_rfl
theorem m250_ok {σ : Nat → Int} {W0 : World} (hL : L0 W0) (hk : Known2 σ [((-9223372036854775808), 9223372036854775807), ((-9223372036854775808), 9223372036854775807), ((-9223372036854775808), 9223372036854775807), (32, 59)] []) : MemoOk Tryd.prog 4095 σ W0 21 m250 := memo_ok fit hk (FnsOk.cons (pure_fn_ok (l27_ok hL)) ((q0_ok hL))) m250_run
noncomputable def m251 : Memo := ⟨[.ptr 311 0, .agg [.slice 48 0 1 1 1 true, I 1, .snil, bF]], h281, .tuple [I 6, .inil], h282⟩
theorem m251_run : ranTo (evCall (cxX Tryd.prog bad [((-9223372036854775808), 9223372036854775807), ((-9223372036854775808), 9223372036854775807), ((-9223372036854775808), 9223372036854775807), (32, 59)] [] ((44, pureFn l34) :: q0)) 1000 60 21 m251.args m251.h) m251.v m251.h' = true := by kernel_rfl
theorem m251_ok {σ : Nat → Int} {W0 : World} (hL : L0 W0) (hk : Known2 σ [((-9223372036854775808), 9223372036854775807), ((-9223372036854775808), 9223372036854775807), ((-9223372036854775808), 9223372036854775807), (32, 59)] []) : MemoOk Tryd.prog 4095 σ W0 21 m251 := memo_ok fit hk (FnsOk.cons (pure_fn_ok (l34_ok hL)) ((q0_ok hL))) m251_run
noncomputable def p252 : Pur := ([.agg [I 2, I 7, I 0, I 0, U 1]], .inil, 1048576)
theorem p252_run : ranPure (evCall (cxX Tryd.prog bad [] [] q0) 1000 60 44 p252.1 ⟨.lf, p252.2.2⟩) p252.2.1 = true := by kernel_rfl
theorem p252_ok {σ : Nat → Int} {W0 : World} (hL : L0 W0) : PureOk Tryd.prog 4095 σ W0 44 p252 := pure_ok fit (Known2.nil σ) ((q0_ok hL)) p252_run
noncomputable def p253 : Pur := ([.agg [I 7, I 8, I 0, I 0, U 0]], .inil, 1048576)
theorem p253_run : ranPure (evCall (cxX Tryd.prog bad [] [] q0) 1000 60 44 p253.1 ⟨.lf, p253.2.2⟩) p253.2.1 = true := by kernel_rfl
theorem p253_ok {σ : Nat → Int} {W0 : World} (hL : L0 W0) : PureOk Tryd.prog 4095 σ W0 44 p253 := pure_ok fit (Known2.nil σ) ((q0_ok hL)) p253_run
noncomputable def h354 : H := hUpd h320 3689 [] [] [(303, 0, [IZ (-1), .int .i64 (.var 3), I 28])]
noncomputable def h355 : H := hUpc h353 4164 [] [(304, .map [(.agg [I 3, I 0], .agg [I 0, I 0], 0), (.agg [I 3, I 1], .agg [I 0, I 0], 1), (.agg [I 2, I 0], .agg [I 0, I 0], 2), (.agg [I 4, I 0], .agg [I 0, I 0], 3), (.agg [I 3, I 2], .agg [I 0, I 0], 4), (.agg [I 3, I 3], .agg [I 0, I 0], 5), (.agg [I 2, I 1], .agg [I 0, I 0], 6), (.agg [I 4, I 1], .agg [I 0, I 0], 7), (.agg [I 3, I 4], .agg [I 0, I 0], 8), (.agg [I 3, I 5], .agg [I 0, I 0], 9), (.agg [I 2, I 2], .agg [I 0, I 0], 10), (.agg [I 4, I 2], .agg [I 0, I 0], 11), (.agg [I 3, I 6], .agg [I 0, I 0], 12), (.agg [I 3, I 7], .agg [I 0, I 0], 13), (.agg [I 2, I 3], .agg [I 0, I 0], 14), (.agg [I 4, I 3], .agg [I 0, I 0], 15), (.agg [I 3, I 8], .agg [I 0, I 0], 16), (.agg [I 3, I 9], .agg [I 0, I 0], 17), (.agg [I 2, I 4], .agg [I 0, I 0], 18), (.agg [I 4, I 4], .agg [I 0, I 0], 19), (.agg [I 3, I 10], .agg [I 0, I 0], 20), (.agg [I 3, I 11], .agg [I 0, I 0], 21), (.agg [I 2, I 5], .agg [I 0, I 0], 22), (.agg [I 4, I 5], .agg [I 0, I 0], 23), (.agg [I 3, I 12], .agg [I 0, I 0], 24), (.agg [I 3, I 13], .agg [I 0, I 0], 25), (.agg [I 2, I 6], .agg [I 0, I 0], 26), (.agg [I 4, I 6], .agg [I 0, I 0], 27), (.agg [I 3, I 14], .agg [I 0, I 0], 28), (.agg [I 3, I 15], .agg [I 0, I 0], 29), (.agg [I 2, I 7], .agg [I 0, I 0], 30), (.agg [I 4, I 7], .agg [I 0, I 0], 31)] 32)] [(269, 7, [bT, I 0, bF]),
  (297, 8, [bT, I 0, bF]),
  (299, 8, [I 0, I 1]),
  (303, 0, [IZ (-1), .int .i64 (.var 3), I 32])] [(271, 7, 9, I 1), (271, 7, 11, I 8), (271, 7, 16, I 7), (271, 7, 17, I 8), (271, 7, 21, I 11), (271, 7, 26, I 12), (271, 7, 31, I 13), (271, 7, 36, I 14), (271, 7, 91, I 2), (271, 7, 92, I 7), (271, 7, 95, U 1), (271, 7, 96, I 7), (271, 7, 97, I 8)]
noncomputable def m254 : Memo := ⟨[.ptr 311 0, .agg [.slice 51 0 1 1 1 true, I 1, .snil, bF]], h354, .tuple [I 7, .inil], h355⟩
noncomputable def l41 : List (Pur) := p15 :: p14 :: p13 :: p12 :: p253 :: p10 :: p252 :: p8 :: p235 :: p234 :: []
theorem l41_ok {σ : Nat → Int} {W0 : World} (hL : L0 W0) : ∀ x ∈ l41, PureOk Tryd.prog 4095 σ W0 44 x := all_cons (p15_ok hL) (all_cons (p14_ok hL) (all_cons (p13_ok hL) (all_cons (p12_ok hL) (all_cons (p253_ok hL) (all_cons (p10_ok hL) (all_cons (p252_ok hL) (all_cons (p8_ok hL) (all_cons (p235_ok hL) (all_cons (p234_ok hL) (all_nil))))))))))
theorem m254_run : ranTo (evCall (cxX Tryd.prog bad [((-9223372036854775808), 9223372036854775807), ((-9223372036854775808), 9223372036854775807), ((-9223372036854775808), 9223372036854775807), (32, 59)] [] ((44, pureFn l41) :: q0)) 1000 60 21 m254.args m254.h) m254.v m254.h' = true := by kernel_rfl
theorem m254_ok {σ : Nat → Int} {W0 : World} (hL : L0 W0) (hk : Known2 σ [((-9223372036854775808), 9223372036854775807), ((-9223372036854775808), 9223372036854775807), ((-9223372036854775808), 9223372036854775807), (32, 59)] []) : MemoOk Tryd.prog 4095 σ W0 21 m254 := memo_ok fit hk (FnsOk.cons (pure_fn_ok (l41_ok hL)) ((q0_ok hL))) m254_run
noncomputable def l42 : List (Pur) := p252 :: p253 :: l35
theorem l42_ok {σ : Nat → Int} {W0 : World} (hL : L0 W0) : ∀ x ∈ l42, PureOk Tryd.prog 4095 σ W0 44 x := all_cons (p252_ok hL) (all_cons (p253_ok hL) ((l35_ok hL)))
theorem run172 : isTrue (evCall (cxX Tryd.prog bad [((-9223372036854775808), 9223372036854775807), ((-9223372036854775808), 9223372036854775807), ((-9223372036854775808), 9223372036854775807), (32, 59)] [] ((6, numExtE [(0, 10, .lit 7), (1, 60, .var 3), (2, 4, .lit 0)]) :: (21, frameFn [m245, m246, m247, m248, m249, m250, m251, m254]) :: (44, pureFn l42) :: q54)) 1000 60 3 [.int .i64 (.var 0), .int .i64 (.var 1), .int .i64 (.var 2)] (sentH 240 18 errTab)) = true := by kernel_rfl
theorem case172 {σ : Nat → Int} {W : World} (hL : L0 W) (hk : Known2 σ [((-9223372036854775808), 9223372036854775807), ((-9223372036854775808), 9223372036854775807), ((-9223372036854775808), 9223372036854775807), (32, 59)] []) (hT : TabOk Tryd.prog bad 6 σ [(0, 10, .lit 7), (1, 60, .var 3), (2, 4, .lit 0)]) {xs : Array Value} (hv : ∀ ρ, VRs σ ρ [.int .i64 (.var 0), .int .i64 (.var 1), .int .i64 (.var 2)] xs.toList) : Calls Tryd.prog 3 xs W fun e w' => e = .returned (.bool true) ∧ Below W.heap.size W w' := by
  obtain ⟨ads, h1, h2, h3⟩ := errs_sents hL
  exact law_case_x fit h1 h2 h3 errs_all errs_lt (by kernel_rfl) hk (FnsOk.cons (hT.ok fit) (FnsOk.cons (frame_fn_ok (all_cons (m245_ok hL hk) (all_cons (m246_ok hL hk) (all_cons (m247_ok hL hk) (all_cons (m248_ok hL hk) (all_cons (m249_ok hL hk) (all_cons (m250_ok hL hk) (all_cons (m251_ok hL hk) (all_cons (m254_ok hL hk) (all_nil)))))))))) (FnsOk.cons (pure_fn_ok (l42_ok hL)) ((q54_ok hL))))) hv ⟨_, Tryd.func3, rfl⟩ run172
noncomputable def h356 : H := hUpd h0 55 [] [] []
noncomputable def m255 : Memo := ⟨[], h356, .agg [I 16, I 24, I 8, I 12, I 8, I 6], h2⟩
theorem m255_run : ranTo (evCall (cxX Tryd.prog bad [] [] q0) 1000 60 8 m255.args m255.h) m255.v m255.h' = true := by kernel_rfl
theorem m255_ok {σ : Nat → Int} {W0 : World} (hL : L0 W0) : MemoOk Tryd.prog 4095 σ W0 8 m255 := memo_ok fit (Known2.nil σ) ((q0_ok hL)) m255_run
noncomputable def h357 : H := hUpd h354 3689 [] [(54, .cells 1 ([[I 8]]) false)] []
noncomputable def h358 : H := hUpd h355 4164 [] [(54, .cells 1 ([[I 8]]) false)] []
noncomputable def m256 : Memo := ⟨[.ptr 311 0, .agg [.slice 51 0 1 1 1 true, I 1, .slice 54 0 1 1 1 true, bF]], h357, .tuple [I 7, .inil], h358⟩
theorem m256_run : ranTo (evCall (cxX Tryd.prog bad [((-9223372036854775808), 9223372036854775807), ((-9223372036854775808), 9223372036854775807), ((-9223372036854775808), 9223372036854775807), (32, 59)] [] ((44, pureFn l41) :: q0)) 1000 60 21 m256.args m256.h) m256.v m256.h' = true := by kernel_rfl
theorem m256_ok {σ : Nat → Int} {W0 : World} (hL : L0 W0) (hk : Known2 σ [((-9223372036854775808), 9223372036854775807), ((-9223372036854775808), 9223372036854775807), ((-9223372036854775808), 9223372036854775807), (32, 59)] []) : MemoOk Tryd.prog 4095 σ W0 21 m256 := memo_ok fit hk (FnsOk.cons (pure_fn_ok (l41_ok hL)) ((q0_ok hL))) m256_run
noncomputable def q55 : Fns := [(5, pureFn [p0]), (8, frameFn [m255]), (51, itoaFn), (114, countFn), (129, indexFn)]
theorem q55_ok {σ : Nat → Int} {W0 : World} (hL : L0 W0) : FnsOk Tryd.prog 4095 σ W0 q55 := FnsOk.cons (pure_fn_ok (all_cons (p0_ok hL) (all_nil))) (FnsOk.cons (frame_fn_ok (all_cons (m255_ok hL) (all_nil))) (FnsOk.cons (ext_itoa hL) (FnsOk.cons (ext_count hL) (FnsOk.cons (ext_index hL) (FnsOk.nil)))))
theorem run173 : isTrue (evCall (cxX Tryd.prog bad [((-9223372036854775808), 9223372036854775807), ((-9223372036854775808), 9223372036854775807), ((-9223372036854775808), 9223372036854775807), (32, 59)] [] ((6, numExtE [(0, 10, .lit 7), (1, 60, .var 3), (2, 4, .lit 1)]) :: (21, frameFn [m245, m246, m247, m248, m249, m250, m251, m256]) :: (44, pureFn l35) :: q55)) 1000 60 3 [.int .i64 (.var 0), .int .i64 (.var 1), .int .i64 (.var 2)] (sentH 240 18 errTab)) = true := by kernel_rfl
theorem case173 {σ : Nat → Int} {W : World} (hL : L0 W) (hk : Known2 σ [((-9223372036854775808), 9223372036854775807), ((-9223372036854775808), 9223372036854775807), ((-9223372036854775808), 9223372036854775807), (32, 59)] []) (hT : TabOk Tryd.prog bad 6 σ [(0, 10, .lit 7), (1, 60, .var 3), (2, 4, .lit 1)]) {xs : Array Value} (hv : ∀ ρ, VRs σ ρ [.int .i64 (.var 0), .int .i64 (.var 1), .int .i64 (.var 2)] xs.toList) : Calls Tryd.prog 3 xs W fun e w' => e = .returned (.bool true) ∧ Below W.heap.size W w' := by
  obtain ⟨ads, h1, h2, h3⟩ := errs_sents hL
  exact law_case_x fit h1 h2 h3 errs_all errs_lt (by kernel_rfl) hk (FnsOk.cons (hT.ok fit) (FnsOk.cons (frame_fn_ok (all_cons (m245_ok hL hk) (all_cons (m246_ok hL hk) (all_cons (m247_ok hL hk) (all_cons (m248_ok hL hk) (all_cons (m249_ok hL hk) (all_cons (m250_ok hL hk) (all_cons (m251_ok hL hk) (all_cons (m256_ok hL hk) (all_nil)))))))))) (FnsOk.cons (pure_fn_ok (l35_ok hL)) ((q55_ok hL))))) hv ⟨_, Tryd.func3, rfl⟩ run173
noncomputable def h359 : H := hUpd h322 343 [30] [(54, .cells 1 (rp 33 ([U 0]) ([])) false)] [(303, 0, [IZ (-1), .int .i64 (.var 3), I 0])]
noncomputable def h360 : H := hUpd h359 346 [] [] []
noncomputable def m257 : Memo := ⟨[.ptr 311 0, .agg [.slice 54 0 33 33 1 true, I 1, .snil, bF]], h359, .tuple [I 0, .iface 240 (.ptr 21 0)], h360⟩
theorem m257_run : ranTo (evCall (cxX Tryd.prog bad [] [] q0) 1000 60 21 m257.args m257.h) m257.v m257.h' = true := by kernel_rfl
theorem m257_ok {σ : Nat → Int} {W0 : World} (hL : L0 W0) : MemoOk Tryd.prog 4095 σ W0 21 m257 := memo_ok fit (Known2.nil σ) ((q0_ok hL)) m257_run
noncomputable def q56 : Fns := [(5, pureFn [p0]), (8, frameFn [m255]), (21, frameFn [m257]), (51, itoaFn), (114, countFn), (129, indexFn)]
theorem q56_ok {σ : Nat → Int} {W0 : World} (hL : L0 W0) : FnsOk Tryd.prog 4095 σ W0 q56 := FnsOk.cons (pure_fn_ok (all_cons (p0_ok hL) (all_nil))) (FnsOk.cons (frame_fn_ok (all_cons (m255_ok hL) (all_nil))) (FnsOk.cons (frame_fn_ok (all_cons (m257_ok hL) (all_nil))) (FnsOk.cons (ext_itoa hL) (FnsOk.cons (ext_count hL) (FnsOk.cons (ext_index hL) (FnsOk.nil))))))
theorem run174 : isTrue (evCall (cxX Tryd.prog bad [((-9223372036854775808), 9223372036854775807), ((-9223372036854775808), 9223372036854775807), ((-9223372036854775808), 9223372036854775807), (32, 59)] [] ((6, numExtE [(0, 10, .lit 7), (1, 60, .var 3), (2, 4, .lit 2)]) :: q56)) 1000 60 3 [.int .i64 (.var 0), .int .i64 (.var 1), .int .i64 (.var 2)] (sentH 240 18 errTab)) = true := by kernel_rfl
theorem case174 {σ : Nat → Int} {W : World} (hL : L0 W) (hk : Known2 σ [((-9223372036854775808), 9223372036854775807), ((-9223372036854775808), 9223372036854775807), ((-9223372036854775808), 9223372036854775807), (32, 59)] []) (hT : TabOk Tryd.prog bad 6 σ [(0, 10, .lit 7), (1, 60, .var 3), (2, 4, .lit 2)]) {xs : Array Value} (hv : ∀ ρ, VRs σ ρ [.int .i64 (.var 0), .int .i64 (.var 1), .int .i64 (.var 2)] xs.toList) : Calls Tryd.prog 3 xs W fun e w' => e = .returned (.bool true) ∧ Below W.heap.size W w' := by
  obtain ⟨ads, h1, h2, h3⟩ := errs_sents hL
  exact law_case_x fit h1 h2 h3 errs_all errs_lt (by kernel_rfl) hk (FnsOk.cons (hT.ok fit) ((q56_ok hL))) hv ⟨_, Tryd.func3, rfl⟩ run174
noncomputable def h361 : H := hUpc h355 4036 [] [] [(297, 8, [bF, I 0, bF]),
  (299, 8, [I 0, I 0])] [(271, 7, 11, I 0), (271, 7, 16, I 0), (271, 7, 17, I 0), (271, 7, 21, I 0), (271, 7, 26, I 0), (271, 7, 31, I 0), (271, 7, 36, I 0), (271, 7, 96, I 0), (271, 7, 97, I 0)]
noncomputable def m258 : Memo := ⟨[.ptr 311 0, .agg [.slice 51 0 1 1 1 true, IZ (-1), .snil, bF]], h354, .tuple [I 0, .iface 240 (.ptr 20 0)], h361⟩
noncomputable def l43 : List (Pur) := p252 :: p8 :: p235 :: p234 :: []
theorem l43_ok {σ : Nat → Int} {W0 : World} (hL : L0 W0) : ∀ x ∈ l43, PureOk Tryd.prog 4095 σ W0 44 x := all_cons (p252_ok hL) (all_cons (p8_ok hL) (all_cons (p235_ok hL) (all_cons (p234_ok hL) (all_nil))))
theorem m258_run : ranTo (evCall (cxX Tryd.prog bad [((-9223372036854775808), 9223372036854775807), ((-9223372036854775808), 9223372036854775807), ((-9223372036854775808), 9223372036854775807), (32, 59)] [] ((44, pureFn l43) :: q0)) 1000 60 21 m258.args m258.h) m258.v m258.h' = true := by kernel_rfl
theorem m258_ok {σ : Nat → Int} {W0 : World} (hL : L0 W0) (hk : Known2 σ [((-9223372036854775808), 9223372036854775807), ((-9223372036854775808), 9223372036854775807), ((-9223372036854775808), 9223372036854775807), (32, 59)] []) : MemoOk Tryd.prog 4095 σ W0 21 m258 := memo_ok fit hk (FnsOk.cons (pure_fn_ok (l43_ok hL)) ((q0_ok hL))) m258_run
theorem run175 : isTrue (evCall (cxX Tryd.prog bad [((-9223372036854775808), 9223372036854775807), ((-9223372036854775808), 9223372036854775807), ((-9223372036854775808), 9223372036854775807), (32, 59)] [] ((6, numExtE [(0, 10, .lit 7), (1, 60, .var 3), (2, 4, .lit 3)]) :: (21, frameFn [m245, m246, m247, m248, m249, m250, m251, m258]) :: q54)) 1000 60 3 [.int .i64 (.var 0), .int .i64 (.var 1), .int .i64 (.var 2)] (sentH 240 18 errTab)) = true := by kernel_rfl
theorem case175 {σ : Nat → Int} {W : World} (hL : L0 W) (hk : Known2 σ [((-9223372036854775808), 9223372036854775807), ((-9223372036854775808), 9223372036854775807), ((-9223372036854775808), 9223372036854775807), (32, 59)] []) (hT : TabOk Tryd.prog bad 6 σ [(0, 10, .lit 7), (1, 60, .var 3), (2, 4, .lit 3)]) {xs : Array Value} (hv : ∀ ρ, VRs σ ρ [.int .i64 (.var 0), .int .i64 (.var 1), .int .i64 (.var 2)] xs.toList) : Calls Tryd.prog 3 xs W fun e w' => e = .returned (.bool true) ∧ Below W.heap.size W w' := by
  obtain ⟨ads, h1, h2, h3⟩ := errs_sents hL
  exact law_case_x fit h1 h2 h3 errs_all errs_lt (by kernel_rfl) hk (FnsOk.cons (hT.ok fit) (FnsOk.cons (frame_fn_ok (all_cons (m245_ok hL hk) (all_cons (m246_ok hL hk) (all_cons (m247_ok hL hk) (all_cons (m248_ok hL hk) (all_cons (m249_ok hL hk) (all_cons (m250_ok hL hk) (all_cons (m251_ok hL hk) (all_cons (m258_ok hL hk) (all_nil)))))))))) ((q54_ok hL)))) hv ⟨_, Tryd.func3, rfl⟩ run175
noncomputable def h362 : H := hUpd h356 57 [] [] []
noncomputable def m259 : Memo := ⟨[], h362, .agg [I 16, I 24, I 8, I 12, I 8, I 6], h2⟩
theorem m259_run : ranTo (evCall (cxX Tryd.prog bad [] [] q0) 1000 60 8 m259.args m259.h) m259.v m259.h' = true := by kernel_rfl
theorem m259_ok {σ : Nat → Int} {W0 : World} (hL : L0 W0) : MemoOk Tryd.prog 4095 σ W0 8 m259 := memo_ok fit (Known2.nil σ) ((q0_ok hL)) m259_run
noncomputable def q57 : Fns := [(5, pureFn [p0]), (8, frameFn [m259]), (21, frameFn [m2]), (51, itoaFn), (114, countFn), (129, indexFn)]
theorem q57_ok {σ : Nat → Int} {W0 : World} (hL : L0 W0) : FnsOk Tryd.prog 4095 σ W0 q57 := FnsOk.cons (pure_fn_ok (all_cons (p0_ok hL) (all_nil))) (FnsOk.cons (frame_fn_ok (all_cons (m259_ok hL) (all_nil))) (FnsOk.cons (frame_fn_ok (all_cons (m2_ok hL) (all_nil))) (FnsOk.cons (ext_itoa hL) (FnsOk.cons (ext_count hL) (FnsOk.cons (ext_index hL) (FnsOk.nil))))))
theorem run176 : isTrue (evCall (cxX Tryd.prog bad [] [] ((6, numExtE [(0, 10, .lit 8), (1, 60, .lit 0)]) :: q57)) 1000 60 3 [.int .i64 (.var 0), .int .i64 (.var 1), .int .i64 (.var 2)] (sentH 240 18 errTab)) = true := by kernel_rfl
theorem case176 {σ : Nat → Int} {W : World} (hL : L0 W) (hk : Known2 σ [] []) (hT : TabOk Tryd.prog bad 6 σ [(0, 10, .lit 8), (1, 60, .lit 0)]) {xs : Array Value} (hv : ∀ ρ, VRs σ ρ [.int .i64 (.var 0), .int .i64 (.var 1), .int .i64 (.var 2)] xs.toList) : Calls Tryd.prog 3 xs W fun e w' => e = .returned (.bool true) ∧ Below W.heap.size W w' := by
  obtain ⟨ads, h1, h2, h3⟩ := errs_sents hL
  exact law_case_x fit h1 h2 h3 errs_all errs_lt (by kernel_rfl) hk (FnsOk.cons (hT.ok fit) ((q57_ok hL))) hv ⟨_, Tryd.func3, rfl⟩ run176
noncomputable def q58 : Fns := [(5, pureFn [p0]), (8, frameFn [m259]), (21, frameFn [m3]), (51, itoaFn), (114, countFn), (129, indexFn)]
theorem q58_ok {σ : Nat → Int} {W0 : World} (hL : L0 W0) : FnsOk Tryd.prog 4095 σ W0 q58 := FnsOk.cons (pure_fn_ok (all_cons (p0_ok hL) (all_nil))) (FnsOk.cons (frame_fn_ok (all_cons (m259_ok hL) (all_nil))) (FnsOk.cons (frame_fn_ok (all_cons (m3_ok hL) (all_nil))) (FnsOk.cons (ext_itoa hL) (FnsOk.cons (ext_count hL) (FnsOk.cons (ext_index hL) (FnsOk.nil))))))
theorem run177 : isTrue (evCall (cxX Tryd.prog bad [] [] ((6, numExtE [(0, 10, .lit 8), (1, 60, .lit 1)]) :: q58)) 1000 60 3 [.int .i64 (.var 0), .int .i64 (.var 1), .int .i64 (.var 2)] (sentH 240 18 errTab)) = true := by kernel_rfl
theorem case177 {σ : Nat → Int} {W : World} (hL : L0 W) (hk : Known2 σ [] []) (hT : TabOk Tryd.prog bad 6 σ [(0, 10, .lit 8), (1, 60, .lit 1)]) {xs : Array Value} (hv : ∀ ρ, VRs σ ρ [.int .i64 (.var 0), .int .i64 (.var 1), .int .i64 (.var 2)] xs.toList) : Calls Tryd.prog 3 xs W fun e w' => e = .returned (.bool true) ∧ Below W.heap.size W w' := by
  obtain ⟨ads, h1, h2, h3⟩ := errs_sents hL
  exact law_case_x fit h1 h2 h3 errs_all errs_lt (by kernel_rfl) hk (FnsOk.cons (hT.ok fit) ((q58_ok hL))) hv ⟨_, Tryd.func3, rfl⟩ run177
noncomputable def q59 : Fns := [(5, pureFn [p0]), (8, frameFn [m259]), (21, frameFn [m6]), (51, itoaFn), (114, countFn), (129, indexFn)]
theorem q59_ok {σ : Nat → Int} {W0 : World} (hL : L0 W0) : FnsOk Tryd.prog 4095 σ W0 q59 := FnsOk.cons (pure_fn_ok (all_cons (p0_ok hL) (all_nil))) (FnsOk.cons (frame_fn_ok (all_cons (m259_ok hL) (all_nil))) (FnsOk.cons (frame_fn_ok (all_cons (m6_ok hL) (all_nil))) (FnsOk.cons (ext_itoa hL) (FnsOk.cons (ext_count hL) (FnsOk.cons (ext_index hL) (FnsOk.nil))))))
theorem run178 : isTrue (evCall (cxX Tryd.prog bad [] [] ((6, numExtE [(0, 10, .lit 8), (1, 60, .lit 2)]) :: q59)) 1000 60 3 [.int .i64 (.var 0), .int .i64 (.var 1), .int .i64 (.var 2)] (sentH 240 18 errTab)) = true := by kernel_rfl
theorem case178 {σ : Nat → Int} {W : World} (hL : L0 W) (hk : Known2 σ [] []) (hT : TabOk Tryd.prog bad 6 σ [(0, 10, .lit 8), (1, 60, .lit 2)]) {xs : Array Value} (hv : ∀ ρ, VRs σ ρ [.int .i64 (.var 0), .int .i64 (.var 1), .int .i64 (.var 2)] xs.toList) : Calls Tryd.prog 3 xs W fun e w' => e = .returned (.bool true) ∧ Below W.heap.size W w' := by
  obtain ⟨ads, h1, h2, h3⟩ := errs_sents hL
  exact law_case_x fit h1 h2 h3 errs_all errs_lt (by kernel_rfl) hk (FnsOk.cons (hT.ok fit) ((q59_ok hL))) hv ⟨_, Tryd.func3, rfl⟩ run178
noncomputable def q60 : Fns := [(5, pureFn [p0]), (8, frameFn [m259]), (21, frameFn [m7]), (51, itoaFn), (114, countFn), (129, indexFn)]
theorem q60_ok {σ : Nat → Int} {W0 : World} (hL : L0 W0) : FnsOk Tryd.prog 4095 σ W0 q60 := FnsOk.cons (pure_fn_ok (all_cons (p0_ok hL) (all_nil))) (FnsOk.cons (frame_fn_ok (all_cons (m259_ok hL) (all_nil))) (FnsOk.cons (frame_fn_ok (all_cons (m7_ok hL) (all_nil))) (FnsOk.cons (ext_itoa hL) (FnsOk.cons (ext_count hL) (FnsOk.cons (ext_index hL) (FnsOk.nil))))))
theorem run179 : isTrue (evCall (cxX Tryd.prog bad [] [] ((6, numExtE [(0, 10, .lit 8), (1, 60, .lit 3)]) :: q60)) 1000 60 3 [.int .i64 (.var 0), .int .i64 (.var 1), .int .i64 (.var 2)] (sentH 240 18 errTab)) = true := by kernel_rfl
theorem case179 {σ : Nat → Int} {W : World} (hL : L0 W) (hk : Known2 σ [] []) (hT : TabOk Tryd.prog bad 6 σ [(0, 10, .lit 8), (1, 60, .lit 3)]) {xs : Array Value} (hv : ∀ ρ, VRs σ ρ [.int .i64 (.var 0), .int .i64 (.var 1), .int .i64 (.var 2)] xs.toList) : Calls Tryd.prog 3 xs W fun e w' => e = .returned (.bool true) ∧ Below W.heap.size W w' := by
  obtain ⟨ads, h1, h2, h3⟩ := errs_sents hL
  exact law_case_x fit h1 h2 h3 errs_all errs_lt (by kernel_rfl) hk (FnsOk.cons (hT.ok fit) ((q60_ok hL))) hv ⟨_, Tryd.func3, rfl⟩ run179
noncomputable def q61 : Fns := [(5, pureFn [p0]), (8, frameFn [m259]), (51, itoaFn), (114, countFn), (129, indexFn)]
theorem q61_ok {σ : Nat → Int} {W0 : World} (hL : L0 W0) : FnsOk Tryd.prog 4095 σ W0 q61 := FnsOk.cons (pure_fn_ok (all_cons (p0_ok hL) (all_nil))) (FnsOk.cons (frame_fn_ok (all_cons (m259_ok hL) (all_nil))) (FnsOk.cons (ext_itoa hL) (FnsOk.cons (ext_count hL) (FnsOk.cons (ext_index hL) (FnsOk.nil)))))
theorem run180 : isTrue (evCall (cxX Tryd.prog bad [] [] ((6, numExtE [(0, 10, .lit 8), (1, 60, .lit 4)]) :: (21, frameFn [m22, m23]) :: q61)) 1000 60 3 [.int .i64 (.var 0), .int .i64 (.var 1), .int .i64 (.var 2)] (sentH 240 18 errTab)) = true := by kernel_rfl
theorem case180 {σ : Nat → Int} {W : World} (hL : L0 W) (hk : Known2 σ [] []) (hT : TabOk Tryd.prog bad 6 σ [(0, 10, .lit 8), (1, 60, .lit 4)]) {xs : Array Value} (hv : ∀ ρ, VRs σ ρ [.int .i64 (.var 0), .int .i64 (.var 1), .int .i64 (.var 2)] xs.toList) : Calls Tryd.prog 3 xs W fun e w' => e = .returned (.bool true) ∧ Below W.heap.size W w' := by
  obtain ⟨ads, h1, h2, h3⟩ := errs_sents hL
  exact law_case_x fit h1 h2 h3 errs_all errs_lt (by kernel_rfl) hk (FnsOk.cons (hT.ok fit) (FnsOk.cons (frame_fn_ok (all_cons (m22_ok hL) (all_cons (m23_ok hL) (all_nil)))) ((q61_ok hL)))) hv ⟨_, Tryd.func3, rfl⟩ run180
theorem run181 : isTrue (evCall (cxX Tryd.prog bad [] [] ((6, numExtE [(0, 10, .lit 8), (1, 60, .lit 5)]) :: (21, frameFn [m24, m25]) :: q61)) 1000 60 3 [.int .i64 (.var 0), .int .i64 (.var 1), .int .i64 (.var 2)] (sentH 240 18 errTab)) = true := by kernel_rfl
theorem case181 {σ : Nat → Int} {W : World} (hL : L0 W) (hk : Known2 σ [] []) (hT : TabOk Tryd.prog bad 6 σ [(0, 10, .lit 8), (1, 60, .lit 5)]) {xs : Array Value} (hv : ∀ ρ, VRs σ ρ [.int .i64 (.var 0), .int .i64 (.var 1), .int .i64 (.var 2)] xs.toList) : Calls Tryd.prog 3 xs W fun e w' => e = .returned (.bool true) ∧ Below W.heap.size W w' := by
  obtain ⟨ads, h1, h2, h3⟩ := errs_sents hL
  exact law_case_x fit h1 h2 h3 errs_all errs_lt (by kernel_rfl) hk (FnsOk.cons (hT.ok fit) (FnsOk.cons (frame_fn_ok (all_cons (m24_ok hL) (all_cons (m25_ok hL) (all_nil)))) ((q61_ok hL)))) hv ⟨_, Tryd.func3, rfl⟩ run181
theorem run182 : isTrue (evCall (cxX Tryd.prog bad [] [] ((6, numExtE [(0, 10, .lit 8), (1, 60, .lit 6)]) :: (21, frameFn [m26, m29]) :: q61)) 1000 60 3 [.int .i64 (.var 0), .int .i64 (.var 1), .int .i64 (.var 2)] (sentH 240 18 errTab)) = true := by kernel_rfl
theorem case182 {σ : Nat → Int} {W : World} (hL : L0 W) (hk : Known2 σ [] []) (hT : TabOk Tryd.prog bad 6 σ [(0, 10, .lit 8), (1, 60, .lit 6)]) {xs : Array Value} (hv : ∀ ρ, VRs σ ρ [.int .i64 (.var 0), .int .i64 (.var 1), .int .i64 (.var 2)] xs.toList) : Calls Tryd.prog 3 xs W fun e w' => e = .returned (.bool true) ∧ Below W.heap.size W w' := by
  obtain ⟨ads, h1, h2, h3⟩ := errs_sents hL
  exact law_case_x fit h1 h2 h3 errs_all errs_lt (by kernel_rfl) hk (FnsOk.cons (hT.ok fit) (FnsOk.cons (frame_fn_ok (all_cons (m26_ok hL) (all_cons (m29_ok hL) (all_nil)))) ((q61_ok hL)))) hv ⟨_, Tryd.func3, rfl⟩ run182
theorem run183 : isTrue (evCall (cxX Tryd.prog bad [] [] ((6, numExtE [(0, 10, .lit 8), (1, 60, .lit 7)]) :: (21, frameFn [m30, m31]) :: q61)) 1000 60 3 [.int .i64 (.var 0), .int .i64 (.var 1), .int .i64 (.var 2)] (sentH 240 18 errTab)) = true := by kernel_rfl
theorem case183 {σ : Nat → Int} {W : World} (hL : L0 W) (hk : Known2 σ [] []) (hT : TabOk Tryd.prog bad 6 σ [(0, 10, .lit 8), (1, 60, .lit 7)]) {xs : Array Value} (hv : ∀ ρ, VRs σ ρ [.int .i64 (.var 0), .int .i64 (.var 1), .int .i64 (.var 2)] xs.toList) : Calls Tryd.prog 3 xs W fun e w' => e = .returned (.bool true) ∧ Below W.heap.size W w' := by
  obtain ⟨ads, h1, h2, h3⟩ := errs_sents hL
  exact law_case_x fit h1 h2 h3 errs_all errs_lt (by kernel_rfl) hk (FnsOk.cons (hT.ok fit) (FnsOk.cons (frame_fn_ok (all_cons (m30_ok hL) (all_cons (m31_ok hL) (all_nil)))) ((q61_ok hL)))) hv ⟨_, Tryd.func3, rfl⟩ run183
theorem run184 : isTrue (evCall (cxX Tryd.prog bad [] [] ((6, numExtE [(0, 10, .lit 8), (1, 60, .lit 8)]) :: (21, frameFn [m41, m42, m43]) :: q61)) 1000 60 3 [.int .i64 (.var 0), .int .i64 (.var 1), .int .i64 (.var 2)] (sentH 240 18 errTab)) = true := by kernel_rfl
theorem case184 {σ : Nat → Int} {W : World} (hL : L0 W) (hk : Known2 σ [] []) (hT : TabOk Tryd.prog bad 6 σ [(0, 10, .lit 8), (1, 60, .lit 8)]) {xs : Array Value} (hv : ∀ ρ, VRs σ ρ [.int .i64 (.var 0), .int .i64 (.var 1), .int .i64 (.var 2)] xs.toList) : Calls Tryd.prog 3 xs W fun e w' => e = .returned (.bool true) ∧ Below W.heap.size W w' := by
  obtain ⟨ads, h1, h2, h3⟩ := errs_sents hL
  exact law_case_x fit h1 h2 h3 errs_all errs_lt (by kernel_rfl) hk (FnsOk.cons (hT.ok fit) (FnsOk.cons (frame_fn_ok (all_cons (m41_ok hL) (all_cons (m42_ok hL) (all_cons (m43_ok hL) (all_nil))))) ((q61_ok hL)))) hv ⟨_, Tryd.func3, rfl⟩ run184
theorem run185 : isTrue (evCall (cxX Tryd.prog bad [] [] ((6, numExtE [(0, 10, .lit 8), (1, 60, .lit 9)]) :: (21, frameFn [m44, m45, m46]) :: q61)) 1000 60 3 [.int .i64 (.var 0), .int .i64 (.var 1), .int .i64 (.var 2)] (sentH 240 18 errTab)) = true := by kernel_rfl
theorem case185 {σ : Nat → Int} {W : World} (hL : L0 W) (hk : Known2 σ [] []) (hT : TabOk Tryd.prog bad 6 σ [(0, 10, .lit 8), (1, 60, .lit 9)]) {xs : Array Value} (hv : ∀ ρ, VRs σ ρ [.int .i64 (.var 0), .int .i64 (.var 1), .int .i64 (.var 2)] xs.toList) : Calls Tryd.prog 3 xs W fun e w' => e = .returned (.bool true) ∧ Below W.heap.size W w' := by
  obtain ⟨ads, h1, h2, h3⟩ := errs_sents hL
  exact law_case_x fit h1 h2 h3 errs_all errs_lt (by kernel_rfl) hk (FnsOk.cons (hT.ok fit) (FnsOk.cons (frame_fn_ok (all_cons (m44_ok hL) (all_cons (m45_ok hL) (all_cons (m46_ok hL) (all_nil))))) ((q61_ok hL)))) hv ⟨_, Tryd.func3, rfl⟩ run185
end Go.Proofs.YtkfhelmjaoepiaaDoor.bootRoom
