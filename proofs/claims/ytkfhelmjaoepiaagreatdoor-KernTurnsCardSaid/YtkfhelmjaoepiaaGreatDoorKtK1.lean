/- kernTurns: calls that are run once, and the runs of the cases (part 1). -/
import Derived.Test.YtkfhelmjaoepiaaGreatDoorKtK0
set_option linter.unusedVariables false
set_option maxRecDepth 10000000
namespace Go.Proofs.YtkfhelmjaoepiaaGreatDoor.kernTurns
open Tk
open Go.RowKit
noncomputable def h554 : H := hUpd h553 7820 [] [] []
noncomputable def h555 : H := hUpc h553 7989 [] [(1109, .cells 1 ([[I 1], [I 2], [I 3], [I 4], [I 0]]) false)] [(30, 0, [I 16, .slice 2267 0 5 5 10 false, I 31]),
  (56, 0, [IZ (-1), I 92])] [(34, 0, 8, U 0), (68, 0, 8, I 36)]
noncomputable def m289 : Memo := ⟨[.ptr 68 0, I 0], h554, .agg [I 0, I 1, I 0, U 0, I 0, U 0, IZ (-1), I 0], h555⟩
theorem m289_run : ranTo (evCall (cxX Tryz.prog bad [] [] [(51, pureFn [p4, p2, p3]), (172, isFn 325)]) 1000 60 10 m289.args m289.h) m289.v m289.h' = true := by kernel_rfl
theorem m289_ok {σ : Nat → Int} {W0 : World} (hL : L0 W0) : MemoOk Tryz.prog 1023 σ W0 10 m289 := memo_ok fit (Known2.nil σ) (FnsOk.cons (pure_fn_ok (all_cons (p4_ok hL) (all_cons (p2_ok hL) (all_cons (p3_ok hL) (all_nil))))) (FnsOk.cons (ext_is hL) (FnsOk.nil))) m289_run
noncomputable def h556 : H := hUpd h555 7996 [] [] []
noncomputable def h557 : H := hUpc h555 8168 [] [(1109, .cells 1 ([[I 2], [I 3], [I 4], [I 0], [I 1]]) false)] [(30, 0, [I 16, .slice 2267 0 5 5 10 false, I 32]),
  (56, 1, [IZ (-1), I 92])] [(34, 1, 8, U 0), (68, 0, 8, I 37)]
noncomputable def m290 : Memo := ⟨[.ptr 68 0, I 0], h556, .agg [I 1, I 1, I 0, U 0, I 0, U 0, IZ (-1), I 0], h557⟩
theorem m290_run : ranTo (evCall (cxX Tryz.prog bad [] [] [(51, pureFn [p66, p2, p65]), (172, isFn 325)]) 1000 60 10 m290.args m290.h) m290.v m290.h' = true := by kernel_rfl
theorem m290_ok {σ : Nat → Int} {W0 : World} (hL : L0 W0) : MemoOk Tryz.prog 1023 σ W0 10 m290 := memo_ok fit (Known2.nil σ) (FnsOk.cons (pure_fn_ok (all_cons (p66_ok hL) (all_cons (p2_ok hL) (all_cons (p65_ok hL) (all_nil))))) (FnsOk.cons (ext_is hL) (FnsOk.nil))) m290_run
noncomputable def h558 : H := hUpd h557 8175 [] [] []
noncomputable def h559 : H := hUpc h557 8350 [] [(1109, .cells 1 ([[I 3], [I 4], [I 0], [I 1], [I 2]]) false)] [(30, 0, [I 16, .slice 2267 0 5 5 10 false, I 33]),
  (56, 2, [IZ (-1), I 92])] [(34, 2, 8, U 0), (68, 0, 8, I 38)]
noncomputable def m291 : Memo := ⟨[.ptr 68 0, I 0], h558, .agg [I 2, I 1, I 0, U 0, I 0, U 0, IZ (-1), I 0], h559⟩
theorem m291_run : ranTo (evCall (cxX Tryz.prog bad [] [] [(51, pureFn [p128, p2, p127]), (172, isFn 325)]) 1000 60 10 m291.args m291.h) m291.v m291.h' = true := by kernel_rfl
theorem m291_ok {σ : Nat → Int} {W0 : World} (hL : L0 W0) : MemoOk Tryz.prog 1023 σ W0 10 m291 := memo_ok fit (Known2.nil σ) (FnsOk.cons (pure_fn_ok (all_cons (p128_ok hL) (all_cons (p2_ok hL) (all_cons (p127_ok hL) (all_nil))))) (FnsOk.cons (ext_is hL) (FnsOk.nil))) m291_run
noncomputable def h560 : H := hUpd h559 8357 [] [] []
noncomputable def h561 : H := hUpc h559 8535 [] [(1109, .cells 1 ([[I 4], [I 0], [I 1], [I 2], [I 3]]) false)] [(30, 0, [I 16, .slice 2267 0 5 5 10 false, I 34]),
  (56, 3, [IZ (-1), I 92])] [(34, 3, 8, U 0), (68, 0, 8, I 39)]
noncomputable def m292 : Memo := ⟨[.ptr 68 0, I 0], h560, .agg [I 3, I 1, I 0, U 0, I 0, U 0, IZ (-1), I 0], h561⟩
theorem m292_run : ranTo (evCall (cxX Tryz.prog bad [] [] [(51, pureFn [p190, p2, p189]), (172, isFn 325)]) 1000 60 10 m292.args m292.h) m292.v m292.h' = true := by kernel_rfl
theorem m292_ok {σ : Nat → Int} {W0 : World} (hL : L0 W0) : MemoOk Tryz.prog 1023 σ W0 10 m292 := memo_ok fit (Known2.nil σ) (FnsOk.cons (pure_fn_ok (all_cons (p190_ok hL) (all_cons (p2_ok hL) (all_cons (p189_ok hL) (all_nil))))) (FnsOk.cons (ext_is hL) (FnsOk.nil))) m292_run
noncomputable def h562 : H := hUpd h561 8542 [] [] []
noncomputable def h563 : H := hUpc h523 8723 [] [(56, .cells 2 (rp 5 ([IZ (-1), I 92]) ([[I 0, I 0], [I 0, I 0], [I 0, I 0]])) false)] [(30, 0, [I 16, .slice 2267 0 5 5 10 false, I 35])] [(68, 0, 8, I 40)]
noncomputable def m293 : Memo := ⟨[.ptr 68 0, I 0], h562, .agg [I 4, I 1, I 0, U 0, I 0, U 0, IZ (-1), I 0], h563⟩
theorem m293_run : ranTo (evCall (cxX Tryz.prog bad [] [] [(51, pureFn [p252, p2, p251]), (172, isFn 325)]) 1000 60 10 m293.args m293.h) m293.v m293.h' = true := by kernel_rfl
theorem m293_ok {σ : Nat → Int} {W0 : World} (hL : L0 W0) : MemoOk Tryz.prog 1023 σ W0 10 m293 := memo_ok fit (Known2.nil σ) (FnsOk.cons (pure_fn_ok (all_cons (p252_ok hL) (all_cons (p2_ok hL) (all_cons (p251_ok hL) (all_nil))))) (FnsOk.cons (ext_is hL) (FnsOk.nil))) m293_run
noncomputable def h564 : H := hUpd h563 8730 [] [] []
noncomputable def h565 : H := hUpc h563 8899 [] [(1109, .cells 1 ([[I 1], [I 2], [I 3], [I 4], [I 0]]) false)] [(30, 0, [I 16, .slice 2267 0 5 5 10 false, I 36]),
  (56, 0, [IZ (-1), I 91])] [(34, 0, 8, U 1), (68, 0, 8, I 41)]
noncomputable def m294 : Memo := ⟨[.ptr 68 0, I 0], h564, .agg [I 0, I 3, I 0, U 0, I 0, U 0, IZ (-1), I 0], h565⟩
theorem m294_run : ranTo (evCall (cxX Tryz.prog bad [] [] [(51, pureFn [p4, p2, p3]), (172, isFn 325)]) 1000 60 10 m294.args m294.h) m294.v m294.h' = true := by kernel_rfl
theorem m294_ok {σ : Nat → Int} {W0 : World} (hL : L0 W0) : MemoOk Tryz.prog 1023 σ W0 10 m294 := memo_ok fit (Known2.nil σ) (FnsOk.cons (pure_fn_ok (all_cons (p4_ok hL) (all_cons (p2_ok hL) (all_cons (p3_ok hL) (all_nil))))) (FnsOk.cons (ext_is hL) (FnsOk.nil))) m294_run
noncomputable def h566 : H := hUpd h565 8906 [] [] []
noncomputable def h567 : H := hUpc h565 9078 [] [(1109, .cells 1 ([[I 2], [I 3], [I 4], [I 0], [I 1]]) false)] [(30, 0, [I 16, .slice 2267 0 5 5 10 false, I 37]),
  (56, 1, [IZ (-1), I 91])] [(34, 1, 8, U 1), (68, 0, 8, I 42)]
noncomputable def m295 : Memo := ⟨[.ptr 68 0, I 0], h566, .agg [I 1, I 3, I 0, U 0, I 0, U 0, IZ (-1), I 0], h567⟩
theorem m295_run : ranTo (evCall (cxX Tryz.prog bad [] [] [(51, pureFn [p66, p2, p65]), (172, isFn 325)]) 1000 60 10 m295.args m295.h) m295.v m295.h' = true := by kernel_rfl
theorem m295_ok {σ : Nat → Int} {W0 : World} (hL : L0 W0) : MemoOk Tryz.prog 1023 σ W0 10 m295 := memo_ok fit (Known2.nil σ) (FnsOk.cons (pure_fn_ok (all_cons (p66_ok hL) (all_cons (p2_ok hL) (all_cons (p65_ok hL) (all_nil))))) (FnsOk.cons (ext_is hL) (FnsOk.nil))) m295_run
noncomputable def h568 : H := hUpd h567 9085 [] [] []
noncomputable def h569 : H := hUpc h567 9260 [] [(1109, .cells 1 ([[I 3], [I 4], [I 0], [I 1], [I 2]]) false)] [(30, 0, [I 16, .slice 2267 0 5 5 10 false, I 38]),
  (56, 2, [IZ (-1), I 91])] [(34, 2, 8, U 1), (68, 0, 8, I 43)]
noncomputable def m296 : Memo := ⟨[.ptr 68 0, I 0], h568, .agg [I 2, I 3, I 0, U 0, I 0, U 0, IZ (-1), I 0], h569⟩
theorem m296_run : ranTo (evCall (cxX Tryz.prog bad [] [] [(51, pureFn [p128, p2, p127]), (172, isFn 325)]) 1000 60 10 m296.args m296.h) m296.v m296.h' = true := by kernel_rfl
theorem m296_ok {σ : Nat → Int} {W0 : World} (hL : L0 W0) : MemoOk Tryz.prog 1023 σ W0 10 m296 := memo_ok fit (Known2.nil σ) (FnsOk.cons (pure_fn_ok (all_cons (p128_ok hL) (all_cons (p2_ok hL) (all_cons (p127_ok hL) (all_nil))))) (FnsOk.cons (ext_is hL) (FnsOk.nil))) m296_run
noncomputable def h570 : H := hUpd h569 9267 [] [] []
noncomputable def h571 : H := hUpc h569 9445 [] [(1109, .cells 1 ([[I 4], [I 0], [I 1], [I 2], [I 3]]) false)] [(30, 0, [I 16, .slice 2267 0 5 5 10 false, I 39]),
  (56, 3, [IZ (-1), I 91])] [(34, 3, 8, U 1), (68, 0, 8, I 44)]
noncomputable def m297 : Memo := ⟨[.ptr 68 0, I 0], h570, .agg [I 3, I 3, I 0, U 0, I 0, U 0, IZ (-1), I 0], h571⟩
theorem m297_run : ranTo (evCall (cxX Tryz.prog bad [] [] [(51, pureFn [p190, p2, p189]), (172, isFn 325)]) 1000 60 10 m297.args m297.h) m297.v m297.h' = true := by kernel_rfl
theorem m297_ok {σ : Nat → Int} {W0 : World} (hL : L0 W0) : MemoOk Tryz.prog 1023 σ W0 10 m297 := memo_ok fit (Known2.nil σ) (FnsOk.cons (pure_fn_ok (all_cons (p190_ok hL) (all_cons (p2_ok hL) (all_cons (p189_ok hL) (all_nil))))) (FnsOk.cons (ext_is hL) (FnsOk.nil))) m297_run
noncomputable def h572 : H := hUpd h571 9452 [] [] []
noncomputable def h573 : H := hUpc h533 9633 [] [(56, .cells 2 (rp 5 ([IZ (-1), I 91]) ([[I 0, I 0], [I 0, I 0], [I 0, I 0]])) false)] [(30, 0, [I 16, .slice 2267 0 5 5 10 false, I 40])] [(68, 0, 8, I 45)]
noncomputable def m298 : Memo := ⟨[.ptr 68 0, I 0], h572, .agg [I 4, I 3, I 0, U 0, I 0, U 0, IZ (-1), I 0], h573⟩
theorem m298_run : ranTo (evCall (cxX Tryz.prog bad [] [] [(51, pureFn [p252, p2, p251]), (172, isFn 325)]) 1000 60 10 m298.args m298.h) m298.v m298.h' = true := by kernel_rfl
theorem m298_ok {σ : Nat → Int} {W0 : World} (hL : L0 W0) : MemoOk Tryz.prog 1023 σ W0 10 m298 := memo_ok fit (Known2.nil σ) (FnsOk.cons (pure_fn_ok (all_cons (p252_ok hL) (all_cons (p2_ok hL) (all_cons (p251_ok hL) (all_nil))))) (FnsOk.cons (ext_is hL) (FnsOk.nil))) m298_run
noncomputable def h574 : H := hUpd h573 9640 [] [] []
noncomputable def h575 : H := hUpc h573 9809 [] [(1109, .cells 1 ([[I 1], [I 2], [I 3], [I 4], [I 0]]) false)] [(30, 0, [I 16, .slice 2267 0 5 5 10 false, I 41]),
  (56, 0, [IZ (-1), I 90])] [(34, 0, 8, U 0), (68, 0, 8, I 46)]
noncomputable def m299 : Memo := ⟨[.ptr 68 0, I 0], h574, .agg [I 0, I 1, I 0, U 0, I 0, U 0, IZ (-1), I 0], h575⟩
theorem m299_run : ranTo (evCall (cxX Tryz.prog bad [] [] [(51, pureFn [p4, p2, p3]), (172, isFn 325)]) 1000 60 10 m299.args m299.h) m299.v m299.h' = true := by kernel_rfl
theorem m299_ok {σ : Nat → Int} {W0 : World} (hL : L0 W0) : MemoOk Tryz.prog 1023 σ W0 10 m299 := memo_ok fit (Known2.nil σ) (FnsOk.cons (pure_fn_ok (all_cons (p4_ok hL) (all_cons (p2_ok hL) (all_cons (p3_ok hL) (all_nil))))) (FnsOk.cons (ext_is hL) (FnsOk.nil))) m299_run
noncomputable def h576 : H := hUpd h575 9816 [] [] []
noncomputable def h577 : H := hUpc h575 9988 [] [(1109, .cells 1 ([[I 2], [I 3], [I 4], [I 0], [I 1]]) false)] [(30, 0, [I 16, .slice 2267 0 5 5 10 false, I 42]),
  (56, 1, [IZ (-1), I 90])] [(34, 1, 8, U 0), (68, 0, 8, I 47)]
noncomputable def m300 : Memo := ⟨[.ptr 68 0, I 0], h576, .agg [I 1, I 1, I 0, U 0, I 0, U 0, IZ (-1), I 0], h577⟩
theorem m300_run : ranTo (evCall (cxX Tryz.prog bad [] [] [(51, pureFn [p66, p2, p65]), (172, isFn 325)]) 1000 60 10 m300.args m300.h) m300.v m300.h' = true := by kernel_rfl
theorem m300_ok {σ : Nat → Int} {W0 : World} (hL : L0 W0) : MemoOk Tryz.prog 1023 σ W0 10 m300 := memo_ok fit (Known2.nil σ) (FnsOk.cons (pure_fn_ok (all_cons (p66_ok hL) (all_cons (p2_ok hL) (all_cons (p65_ok hL) (all_nil))))) (FnsOk.cons (ext_is hL) (FnsOk.nil))) m300_run
noncomputable def h578 : H := hUpd h577 9995 [] [] []
noncomputable def h579 : H := hUpc h577 10170 [] [(1109, .cells 1 ([[I 3], [I 4], [I 0], [I 1], [I 2]]) false)] [(30, 0, [I 16, .slice 2267 0 5 5 10 false, I 43]),
  (56, 2, [IZ (-1), I 90])] [(34, 2, 8, U 0), (68, 0, 8, I 48)]
noncomputable def m301 : Memo := ⟨[.ptr 68 0, I 0], h578, .agg [I 2, I 1, I 0, U 0, I 0, U 0, IZ (-1), I 0], h579⟩
theorem m301_run : ranTo (evCall (cxX Tryz.prog bad [] [] [(51, pureFn [p128, p2, p127]), (172, isFn 325)]) 1000 60 10 m301.args m301.h) m301.v m301.h' = true := by kernel_rfl
theorem m301_ok {σ : Nat → Int} {W0 : World} (hL : L0 W0) : MemoOk Tryz.prog 1023 σ W0 10 m301 := memo_ok fit (Known2.nil σ) (FnsOk.cons (pure_fn_ok (all_cons (p128_ok hL) (all_cons (p2_ok hL) (all_cons (p127_ok hL) (all_nil))))) (FnsOk.cons (ext_is hL) (FnsOk.nil))) m301_run
noncomputable def h580 : H := hUpd h579 10177 [] [] []
noncomputable def h581 : H := hUpc h579 10355 [] [(1109, .cells 1 ([[I 4], [I 0], [I 1], [I 2], [I 3]]) false)] [(30, 0, [I 16, .slice 2267 0 5 5 10 false, I 44]),
  (56, 3, [IZ (-1), I 90])] [(34, 3, 8, U 0), (68, 0, 8, I 49)]
noncomputable def m302 : Memo := ⟨[.ptr 68 0, I 0], h580, .agg [I 3, I 1, I 0, U 0, I 0, U 0, IZ (-1), I 0], h581⟩
theorem m302_run : ranTo (evCall (cxX Tryz.prog bad [] [] [(51, pureFn [p190, p2, p189]), (172, isFn 325)]) 1000 60 10 m302.args m302.h) m302.v m302.h' = true := by kernel_rfl
theorem m302_ok {σ : Nat → Int} {W0 : World} (hL : L0 W0) : MemoOk Tryz.prog 1023 σ W0 10 m302 := memo_ok fit (Known2.nil σ) (FnsOk.cons (pure_fn_ok (all_cons (p190_ok hL) (all_cons (p2_ok hL) (all_cons (p189_ok hL) (all_nil))))) (FnsOk.cons (ext_is hL) (FnsOk.nil))) m302_run
noncomputable def h582 : H := hUpd h581 10362 [] [] []
noncomputable def h583 : H := hUpc h543 10543 [] [(56, .cells 2 (rp 5 ([IZ (-1), I 90]) ([[I 0, I 0], [I 0, I 0], [I 0, I 0]])) false)] [(30, 0, [I 16, .slice 2267 0 5 5 10 false, I 45])] [(68, 0, 8, I 50)]
noncomputable def m303 : Memo := ⟨[.ptr 68 0, I 0], h582, .agg [I 4, I 1, I 0, U 0, I 0, U 0, IZ (-1), I 0], h583⟩
theorem m303_run : ranTo (evCall (cxX Tryz.prog bad [] [] [(51, pureFn [p252, p2, p251]), (172, isFn 325)]) 1000 60 10 m303.args m303.h) m303.v m303.h' = true := by kernel_rfl
theorem m303_ok {σ : Nat → Int} {W0 : World} (hL : L0 W0) : MemoOk Tryz.prog 1023 σ W0 10 m303 := memo_ok fit (Known2.nil σ) (FnsOk.cons (pure_fn_ok (all_cons (p252_ok hL) (all_cons (p2_ok hL) (all_cons (p251_ok hL) (all_nil))))) (FnsOk.cons (ext_is hL) (FnsOk.nil))) m303_run
noncomputable def h584 : H := hUpd h583 10550 [] [] []
noncomputable def h585 : H := hUpc h583 10719 [] [(1109, .cells 1 ([[I 1], [I 2], [I 3], [I 4], [I 0]]) false)] [(30, 0, [I 16, .slice 2267 0 5 5 10 false, I 46]),
  (56, 0, [IZ (-1), I 89])] [(34, 0, 8, U 1), (68, 0, 8, I 51)]
noncomputable def m304 : Memo := ⟨[.ptr 68 0, I 0], h584, .agg [I 0, I 3, I 0, U 0, I 0, U 0, IZ (-1), I 0], h585⟩
theorem m304_run : ranTo (evCall (cxX Tryz.prog bad [] [] [(51, pureFn [p4, p2, p3]), (172, isFn 325)]) 1000 60 10 m304.args m304.h) m304.v m304.h' = true := by kernel_rfl
theorem m304_ok {σ : Nat → Int} {W0 : World} (hL : L0 W0) : MemoOk Tryz.prog 1023 σ W0 10 m304 := memo_ok fit (Known2.nil σ) (FnsOk.cons (pure_fn_ok (all_cons (p4_ok hL) (all_cons (p2_ok hL) (all_cons (p3_ok hL) (all_nil))))) (FnsOk.cons (ext_is hL) (FnsOk.nil))) m304_run
noncomputable def h586 : H := hUpd h585 10726 [] [] []
noncomputable def h587 : H := hUpc h585 10898 [] [(1109, .cells 1 ([[I 2], [I 3], [I 4], [I 0], [I 1]]) false)] [(30, 0, [I 16, .slice 2267 0 5 5 10 false, I 47]),
  (56, 1, [IZ (-1), I 89])] [(34, 1, 8, U 1), (68, 0, 8, I 52)]
noncomputable def m305 : Memo := ⟨[.ptr 68 0, I 0], h586, .agg [I 1, I 3, I 0, U 0, I 0, U 0, IZ (-1), I 0], h587⟩
theorem m305_run : ranTo (evCall (cxX Tryz.prog bad [] [] [(51, pureFn [p66, p2, p65]), (172, isFn 325)]) 1000 60 10 m305.args m305.h) m305.v m305.h' = true := by kernel_rfl
theorem m305_ok {σ : Nat → Int} {W0 : World} (hL : L0 W0) : MemoOk Tryz.prog 1023 σ W0 10 m305 := memo_ok fit (Known2.nil σ) (FnsOk.cons (pure_fn_ok (all_cons (p66_ok hL) (all_cons (p2_ok hL) (all_cons (p65_ok hL) (all_nil))))) (FnsOk.cons (ext_is hL) (FnsOk.nil))) m305_run
noncomputable def h588 : H := hUpd h587 10905 [] [] []
noncomputable def h589 : H := hUpc h587 11080 [] [(1109, .cells 1 ([[I 3], [I 4], [I 0], [I 1], [I 2]]) false)] [(30, 0, [I 16, .slice 2267 0 5 5 10 false, I 48]),
  (56, 2, [IZ (-1), I 89])] [(34, 2, 8, U 1), (68, 0, 8, I 53)]
noncomputable def m306 : Memo := ⟨[.ptr 68 0, I 0], h588, .agg [I 2, I 3, I 0, U 0, I 0, U 0, IZ (-1), I 0], h589⟩
theorem m306_run : ranTo (evCall (cxX Tryz.prog bad [] [] [(51, pureFn [p128, p2, p127]), (172, isFn 325)]) 1000 60 10 m306.args m306.h) m306.v m306.h' = true := by kernel_rfl
theorem m306_ok {σ : Nat → Int} {W0 : World} (hL : L0 W0) : MemoOk Tryz.prog 1023 σ W0 10 m306 := memo_ok fit (Known2.nil σ) (FnsOk.cons (pure_fn_ok (all_cons (p128_ok hL) (all_cons (p2_ok hL) (all_cons (p127_ok hL) (all_nil))))) (FnsOk.cons (ext_is hL) (FnsOk.nil))) m306_run
noncomputable def h590 : H := hUpd h589 11087 [] [] []
noncomputable def h591 : H := hUpc h589 11265 [] [(1109, .cells 1 ([[I 4], [I 0], [I 1], [I 2], [I 3]]) false)] [(30, 0, [I 16, .slice 2267 0 5 5 10 false, I 49]),
  (56, 3, [IZ (-1), I 89])] [(34, 3, 8, U 1), (68, 0, 8, I 54)]
noncomputable def m307 : Memo := ⟨[.ptr 68 0, I 0], h590, .agg [I 3, I 3, I 0, U 0, I 0, U 0, IZ (-1), I 0], h591⟩
theorem m307_run : ranTo (evCall (cxX Tryz.prog bad [] [] [(51, pureFn [p190, p2, p189]), (172, isFn 325)]) 1000 60 10 m307.args m307.h) m307.v m307.h' = true := by kernel_rfl
theorem m307_ok {σ : Nat → Int} {W0 : World} (hL : L0 W0) : MemoOk Tryz.prog 1023 σ W0 10 m307 := memo_ok fit (Known2.nil σ) (FnsOk.cons (pure_fn_ok (all_cons (p190_ok hL) (all_cons (p2_ok hL) (all_cons (p189_ok hL) (all_nil))))) (FnsOk.cons (ext_is hL) (FnsOk.nil))) m307_run
noncomputable def h592 : H := hUpd h591 11272 [] [] []
noncomputable def h593 : H := hUpc h553 11453 [] [(56, .cells 2 (rp 5 ([IZ (-1), I 89]) ([[I 0, I 0], [I 0, I 0], [I 0, I 0]])) false)] [(30, 0, [I 16, .slice 2267 0 5 5 10 false, I 50])] [(68, 0, 8, I 55)]
noncomputable def m308 : Memo := ⟨[.ptr 68 0, I 0], h592, .agg [I 4, I 3, I 0, U 0, I 0, U 0, IZ (-1), I 0], h593⟩
theorem m308_run : ranTo (evCall (cxX Tryz.prog bad [] [] [(51, pureFn [p252, p2, p251]), (172, isFn 325)]) 1000 60 10 m308.args m308.h) m308.v m308.h' = true := by kernel_rfl
theorem m308_ok {σ : Nat → Int} {W0 : World} (hL : L0 W0) : MemoOk Tryz.prog 1023 σ W0 10 m308 := memo_ok fit (Known2.nil σ) (FnsOk.cons (pure_fn_ok (all_cons (p252_ok hL) (all_cons (p2_ok hL) (all_cons (p251_ok hL) (all_nil))))) (FnsOk.cons (ext_is hL) (FnsOk.nil))) m308_run
noncomputable def h594 : H := hUpd h593 11460 [] [] []
noncomputable def h595 : H := hUpc h593 11629 [] [(1109, .cells 1 ([[I 1], [I 2], [I 3], [I 4], [I 0]]) false)] [(30, 0, [I 16, .slice 2267 0 5 5 10 false, I 51]),
  (56, 0, [IZ (-1), I 88])] [(34, 0, 8, U 0), (68, 0, 8, I 56)]
noncomputable def m309 : Memo := ⟨[.ptr 68 0, I 0], h594, .agg [I 0, I 1, I 0, U 0, I 0, U 0, IZ (-1), I 0], h595⟩
theorem m309_run : ranTo (evCall (cxX Tryz.prog bad [] [] [(51, pureFn [p4, p2, p3]), (172, isFn 325)]) 1000 60 10 m309.args m309.h) m309.v m309.h' = true := by kernel_rfl
theorem m309_ok {σ : Nat → Int} {W0 : World} (hL : L0 W0) : MemoOk Tryz.prog 1023 σ W0 10 m309 := memo_ok fit (Known2.nil σ) (FnsOk.cons (pure_fn_ok (all_cons (p4_ok hL) (all_cons (p2_ok hL) (all_cons (p3_ok hL) (all_nil))))) (FnsOk.cons (ext_is hL) (FnsOk.nil))) m309_run
noncomputable def h596 : H := hUpd h595 11636 [] [] []
noncomputable def h597 : H := hUpc h595 11808 [] [(1109, .cells 1 ([[I 2], [I 3], [I 4], [I 0], [I 1]]) false)] [(30, 0, [I 16, .slice 2267 0 5 5 10 false, I 52]),
  (56, 1, [IZ (-1), I 88])] [(34, 1, 8, U 0), (68, 0, 8, I 57)]
noncomputable def m310 : Memo := ⟨[.ptr 68 0, I 0], h596, .agg [I 1, I 1, I 0, U 0, I 0, U 0, IZ (-1), I 0], h597⟩
theorem m310_run : ranTo (evCall (cxX Tryz.prog bad [] [] [(51, pureFn [p66, p2, p65]), (172, isFn 325)]) 1000 60 10 m310.args m310.h) m310.v m310.h' = true := by kernel_rfl
theorem m310_ok {σ : Nat → Int} {W0 : World} (hL : L0 W0) : MemoOk Tryz.prog 1023 σ W0 10 m310 := memo_ok fit (Known2.nil σ) (FnsOk.cons (pure_fn_ok (all_cons (p66_ok hL) (all_cons (p2_ok hL) (all_cons (p65_ok hL) (all_nil))))) (FnsOk.cons (ext_is hL) (FnsOk.nil))) m310_run
noncomputable def h598 : H := hUpd h597 11815 [] [] []
noncomputable def h599 : H := hUpc h597 11990 [] [(1109, .cells 1 ([[I 3], [I 4], [I 0], [I 1], [I 2]]) false)] [(30, 0, [I 16, .slice 2267 0 5 5 10 false, I 53]),
  (56, 2, [IZ (-1), I 88])] [(34, 2, 8, U 0), (68, 0, 8, I 58)]
noncomputable def m311 : Memo := ⟨[.ptr 68 0, I 0], h598, .agg [I 2, I 1, I 0, U 0, I 0, U 0, IZ (-1), I 0], h599⟩
theorem m311_run : ranTo (evCall (cxX Tryz.prog bad [] [] [(51, pureFn [p128, p2, p127]), (172, isFn 325)]) 1000 60 10 m311.args m311.h) m311.v m311.h' = true := by kernel_rfl
theorem m311_ok {σ : Nat → Int} {W0 : World} (hL : L0 W0) : MemoOk Tryz.prog 1023 σ W0 10 m311 := memo_ok fit (Known2.nil σ) (FnsOk.cons (pure_fn_ok (all_cons (p128_ok hL) (all_cons (p2_ok hL) (all_cons (p127_ok hL) (all_nil))))) (FnsOk.cons (ext_is hL) (FnsOk.nil))) m311_run
noncomputable def h600 : H := hUpd h599 11997 [] [] []
noncomputable def h601 : H := hUpc h599 12175 [] [(1109, .cells 1 ([[I 4], [I 0], [I 1], [I 2], [I 3]]) false)] [(30, 0, [I 16, .slice 2267 0 5 5 10 false, I 54]),
  (56, 3, [IZ (-1), I 88])] [(34, 3, 8, U 0), (68, 0, 8, I 59)]
noncomputable def m312 : Memo := ⟨[.ptr 68 0, I 0], h600, .agg [I 3, I 1, I 0, U 0, I 0, U 0, IZ (-1), I 0], h601⟩
theorem m312_run : ranTo (evCall (cxX Tryz.prog bad [] [] [(51, pureFn [p190, p2, p189]), (172, isFn 325)]) 1000 60 10 m312.args m312.h) m312.v m312.h' = true := by kernel_rfl
theorem m312_ok {σ : Nat → Int} {W0 : World} (hL : L0 W0) : MemoOk Tryz.prog 1023 σ W0 10 m312 := memo_ok fit (Known2.nil σ) (FnsOk.cons (pure_fn_ok (all_cons (p190_ok hL) (all_cons (p2_ok hL) (all_cons (p189_ok hL) (all_nil))))) (FnsOk.cons (ext_is hL) (FnsOk.nil))) m312_run
noncomputable def l5 : List (Memo) := m253 :: l3
theorem l5_ok {σ : Nat → Int} {W0 : World} (hL : L0 W0) : ∀ x ∈ l5, MemoOk Tryz.prog 1023 σ W0 9 x := all_cons (m253_ok hL) ((l3_ok hL))
noncomputable def l6 : List (Memo) := m312 :: m311 :: m310 :: m309 :: m308 :: m307 :: m306 :: m305 :: m304 :: m303 :: m302 :: m301 :: m300 :: m299 :: m298 :: m297 :: m296 :: m295 :: m294 :: m293 :: m292 :: m291 :: m290 :: m289 :: m288 :: m287 :: m286 :: m285 :: m284 :: m283 :: m282 :: m281 :: m280 :: m279 :: m278 :: m277 :: m276 :: m275 :: m274 :: m273 :: m272 :: m271 :: m270 :: m269 :: m268 :: m267 :: m266 :: m265 :: m264 :: m263 :: m262 :: m261 :: m260 :: m259 :: m258 :: m257 :: m256 :: m255 :: m254 :: []
theorem l6_ok {σ : Nat → Int} {W0 : World} (hL : L0 W0) : ∀ x ∈ l6, MemoOk Tryz.prog 1023 σ W0 10 x := all_cons (m312_ok hL) (all_cons (m311_ok hL) (all_cons (m310_ok hL) (all_cons (m309_ok hL) (all_cons (m308_ok hL) (all_cons (m307_ok hL) (all_cons (m306_ok hL) (all_cons (m305_ok hL) (all_cons (m304_ok hL) (all_cons (m303_ok hL) (all_cons (m302_ok hL) (all_cons (m301_ok hL) (all_cons (m300_ok hL) (all_cons (m299_ok hL) (all_cons (m298_ok hL) (all_cons (m297_ok hL) (all_cons (m296_ok hL) (all_cons (m295_ok hL) (all_cons (m294_ok hL) (all_cons (m293_ok hL) (all_cons (m292_ok hL) (all_cons (m291_ok hL) (all_cons (m290_ok hL) (all_cons (m289_ok hL) (all_cons (m288_ok hL) (all_cons (m287_ok hL) (all_cons (m286_ok hL) (all_cons (m285_ok hL) (all_cons (m284_ok hL) (all_cons (m283_ok hL) (all_cons (m282_ok hL) (all_cons (m281_ok hL) (all_cons (m280_ok hL) (all_cons (m279_ok hL) (all_cons (m278_ok hL) (all_cons (m277_ok hL) (all_cons (m276_ok hL) (all_cons (m275_ok hL) (all_cons (m274_ok hL) (all_cons (m273_ok hL) (all_cons (m272_ok hL) (all_cons (m271_ok hL) (all_cons (m270_ok hL) (all_cons (m269_ok hL) (all_cons (m268_ok hL) (all_cons (m267_ok hL) (all_cons (m266_ok hL) (all_cons (m265_ok hL) (all_cons (m264_ok hL) (all_cons (m263_ok hL) (all_cons (m262_ok hL) (all_cons (m261_ok hL) (all_cons (m260_ok hL) (all_cons (m259_ok hL) (all_cons (m258_ok hL) (all_cons (m257_ok hL) (all_cons (m256_ok hL) (all_cons (m255_ok hL) (all_cons (m254_ok hL) (all_nil)))))))))))))))))))))))))))))))))))))))))))))))))))))))))))
theorem run4 : lawF Tryz.prog bad [] ((6, numExtE [(0, 5, .lit 4), (1, 60, .var 2)]) :: (10, frameFn l6) :: (9, frameFn l5) :: q1) 1000 60 3 [.int .i64 (.var 0), .int .i64 (.var 1)] [((-9223372036854775808), 9223372036854775807), ((-9223372036854775808), 9223372036854775807), (0, 59)] (peels 59 2) (sentH 325 10 errTab) = true := by kernel_rfl
theorem case4 {σ : Nat → Int} {W : World} (hL : L0 W) (hk : Known2 σ [((-9223372036854775808), 9223372036854775807), ((-9223372036854775808), 9223372036854775807), (0, 59)] []) (hT : TabOk Tryz.prog bad 6 σ [(0, 5, .lit 4), (1, 60, .var 2)]) {xs : Array Value} (hv : ∀ ρ, VRs σ ρ [.int .i64 (.var 0), .int .i64 (.var 1)] xs.toList) : Calls Tryz.prog 3 xs W fun e w' => e = .returned (.bool true) ∧ Below W.heap.size W w' := by
  obtain ⟨ads, h1, h2, h3⟩ := errs_sents hL
  exact law_case_f fit h1 h2 h3 errs_all errs_lt (by kernel_rfl) hk (FnsOk.cons (hT.ok fit) (FnsOk.cons (frame_fn_ok (l6_ok hL)) (FnsOk.cons (frame_fn_ok (l5_ok hL)) ((q1_ok hL))))) hv run4
end Go.Proofs.YtkfhelmjaoepiaaGreatDoor.kernTurns
