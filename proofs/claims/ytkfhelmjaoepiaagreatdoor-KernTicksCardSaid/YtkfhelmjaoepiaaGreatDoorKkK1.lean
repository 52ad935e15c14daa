/- kernTicks: calls that are run once, and the runs of the cases (part 1). -/
import Derived.Test.YtkfhelmjaoepiaaGreatDoorKkK0
set_option linter.unusedVariables false
set_option maxRecDepth 10000000
namespace Go.Proofs.YtkfhelmjaoepiaaGreatDoor.kernTicks
open Tk
open Go.RowKit
noncomputable def h710 : H := hUpd h709 2285 [] [] []
noncomputable def h711 : H := hUpc h671 2286 [] [] [] [(68, 0, 8, I 39)]
noncomputable def m359 : Memo := ⟨[.ptr 68 0, I 38], h710, .agg [IZ (-1), I 0, I 0, U 0, I 0, U 0, IZ (-1), I 0], h711⟩
theorem m359_run : ranTo (evCall (cxX Tryz.prog bad [] [] [(172, isFn 325)]) 1000 60 10 m359.args m359.h) m359.v m359.h' = true := by kernel_rfl
theorem m359_ok {σ : Nat → Int} {W0 : World} (hL : L0 W0) : MemoOk Tryz.prog 1023 σ W0 10 m359 := memo_ok fit (Known2.nil σ) (FnsOk.cons (ext_is hL) (FnsOk.nil)) m359_run
theorem run9 : lawF Tryz.prog bad [] ((6, numExtE [(0, 30, .var 2), (1, 40, .var 3)]) :: (9, frameFn [m5]) :: (10, frameFn [m45, m84, m122, m159, m195, m230, m264, m297, m329, m330, m331, m332, m333, m334, m335, m336, m337, m338, m339, m340, m341, m342, m343, m344, m345, m346, m347, m348, m349, m350, m351, m352, m353, m354, m355, m356, m357, m358, m359]) :: q0) 1000 60 4 [.int .i64 (.var 0), .int .i64 (.var 1)] [((-9223372036854775808), 9223372036854775807), ((-9223372036854775808), 9223372036854775807), (9, 9), (0, 39)] (peels 39 3) (sentH 325 10 errTab) = true := by kernel_rfl
theorem case9 {σ : Nat → Int} {W : World} (hL : L0 W) (hk : Known2 σ [((-9223372036854775808), 9223372036854775807), ((-9223372036854775808), 9223372036854775807), (9, 9), (0, 39)] []) (hT : TabOk Tryz.prog bad 6 σ [(0, 30, .var 2), (1, 40, .var 3)]) {xs : Array Value} (hv : ∀ ρ, VRs σ ρ [.int .i64 (.var 0), .int .i64 (.var 1)] xs.toList) : Calls Tryz.prog 4 xs W fun e w' => e = .returned (.bool true) ∧ Below W.heap.size W w' := by
  obtain ⟨ads, h1, h2, h3⟩ := errs_sents hL
  exact law_case_f fit h1 h2 h3 errs_all errs_lt (by kernel_rfl) hk (FnsOk.cons (hT.ok fit) (FnsOk.cons (frame_fn_ok (all_cons (m5_ok hL (hk.relax (r' := [((-9223372036854775808), 9223372036854775807), ((-9223372036854775808), 9223372036854775807), (0, 29), (0, 39)]) (by kernel_rfl))) (all_nil))) (FnsOk.cons (frame_fn_ok (all_cons (m45_ok hL (hk.relax (r' := [((-9223372036854775808), 9223372036854775807), ((-9223372036854775808), 9223372036854775807), (1, 29), (0, 39)]) (by kernel_rfl))) (all_cons (m84_ok hL (hk.relax (r' := [((-9223372036854775808), 9223372036854775807), ((-9223372036854775808), 9223372036854775807), (2, 29), (0, 39)]) (by kernel_rfl))) (all_cons (m122_ok hL (hk.relax (r' := [((-9223372036854775808), 9223372036854775807), ((-9223372036854775808), 9223372036854775807), (3, 29), (0, 39)]) (by kernel_rfl))) (all_cons (m159_ok hL (hk.relax (r' := [((-9223372036854775808), 9223372036854775807), ((-9223372036854775808), 9223372036854775807), (4, 29), (0, 39)]) (by kernel_rfl))) (all_cons (m195_ok hL (hk.relax (r' := [((-9223372036854775808), 9223372036854775807), ((-9223372036854775808), 9223372036854775807), (5, 29), (0, 39)]) (by kernel_rfl))) (all_cons (m230_ok hL (hk.relax (r' := [((-9223372036854775808), 9223372036854775807), ((-9223372036854775808), 9223372036854775807), (6, 29), (0, 39)]) (by kernel_rfl))) (all_cons (m264_ok hL (hk.relax (r' := [((-9223372036854775808), 9223372036854775807), ((-9223372036854775808), 9223372036854775807), (7, 29), (0, 39)]) (by kernel_rfl))) (all_cons (m297_ok hL (hk.relax (r' := [((-9223372036854775808), 9223372036854775807), ((-9223372036854775808), 9223372036854775807), (8, 29), (0, 39)]) (by kernel_rfl))) (all_cons (m329_ok hL (hk.relax (r' := [((-9223372036854775808), 9223372036854775807), ((-9223372036854775808), 9223372036854775807), (9, 29), (0, 39)]) (by kernel_rfl))) (all_cons (m330_ok hL hk) (all_cons (m331_ok hL) (all_cons (m332_ok hL) (all_cons (m333_ok hL) (all_cons (m334_ok hL) (all_cons (m335_ok hL) (all_cons (m336_ok hL) (all_cons (m337_ok hL) (all_cons (m338_ok hL) (all_cons (m339_ok hL) (all_cons (m340_ok hL) (all_cons (m341_ok hL) (all_cons (m342_ok hL) (all_cons (m343_ok hL) (all_cons (m344_ok hL) (all_cons (m345_ok hL) (all_cons (m346_ok hL) (all_cons (m347_ok hL) (all_cons (m348_ok hL) (all_cons (m349_ok hL) (all_cons (m350_ok hL) (all_cons (m351_ok hL) (all_cons (m352_ok hL) (all_cons (m353_ok hL) (all_cons (m354_ok hL) (all_cons (m355_ok hL) (all_cons (m356_ok hL) (all_cons (m357_ok hL) (all_cons (m358_ok hL) (all_cons (m359_ok hL) (all_nil))))))))))))))))))))))))))))))))))))))))) ((q0_ok hL))))) hv run9
noncomputable def h712 : H := hUpc h672 2110 [] [(34, .cells 107 ((rp 8 (U 0) ((U 1) :: (I 3) :: rp 5 (I 0) ((U 0) :: rp 4 (I 0) ((U 0) :: rp 4 (I 0) ((U 0) :: rp 4 (I 0) ((U 0) :: rp 4 (I 0) ((U 0) :: rp 4 (I 0) ((U 0) :: rp 4 (I 0) ((U 0) :: rp 4 (I 0) ((U 0) :: rp 4 (I 0) ((U 0) :: rp 4 (I 0) ((U 0) :: rp 4 (I 0) ((U 0) :: rp 4 (I 0) ((U 0) :: rp 4 (I 0) ((U 0) :: rp 4 (I 0) ((U 0) :: rp 4 (I 0) ((U 0) :: rp 4 (I 0) ((U 0) :: (I 3) :: (I 0) :: (I 0) :: (I 0) :: (U 0) :: (I 7) :: (I 0) :: (I 0) :: (I 0) :: (U 0) :: rp 4 (I 0) ([U 0, I 0]))))))))))))))))))) :: rp 5 (rp 9 (U 0) (rp 6 (I 0) ((U 0) :: rp 4 (I 0) ((U 0) :: rp 4 (I 0) ((U 0) :: rp 4 (I 0) ((U 0) :: rp 4 (I 0) ((U 0) :: rp 4 (I 0) ((U 0) :: rp 4 (I 0) ((U 0) :: rp 4 (I 0) ((U 0) :: rp 4 (I 0) ((U 0) :: rp 4 (I 0) ((U 0) :: rp 4 (I 0) ((U 0) :: rp 4 (I 0) ((U 0) :: rp 4 (I 0) ((U 0) :: rp 4 (I 0) ((U 0) :: rp 4 (I 0) ((U 0) :: rp 4 (I 0) ((U 0) :: rp 4 (I 0) ((U 0) :: rp 4 (I 0) ((U 0) :: rp 4 (I 0) ([U 0, I 0]))))))))))))))))))))) ([])) false),
  (56, .cells 2 ([IZ (-1), .int .i64 (.sub (.var 2) (.lit 9))] :: rp 7 ([I 0, I 0]) ([])) false),
  (27, .cells 32 (((U 201326592) :: (U 67108864) :: rp 30 (U 0) ([])) :: rp 11 (rp 32 (U 0) ([])) ([])) false)] [(67, 0, [.slice 365 0 1 1 1 false])] [(68, 0, 8, I 9)]
noncomputable def h713 : H := hUpc h712 2279 [] [] [(30, 0, [I 16, .slice 663 0 1 1 10 false, I 9]),
  (56, 0, [IZ (-1), .int .i64 (.sub (.var 2) (.lit 10))])] [(34, 0, 8, U 0), (68, 0, 8, I 10)]
noncomputable def m360 : Memo := ⟨[.ptr 68 0, I 9], h712, .agg [I 0, I 1, I 0, U 0, I 0, U 0, IZ (-1), I 0], h713⟩
theorem m360_run : ranTo (evCall (cxX Tryz.prog bad [((-9223372036854775808), 9223372036854775807), ((-9223372036854775808), 9223372036854775807), (10, 29), (0, 39)] [] [(51, pureFn [p4, p2, p3]), (172, isFn 325)]) 1000 60 10 m360.args m360.h) m360.v m360.h' = true := by kernel_rfl
theorem m360_ok {σ : Nat → Int} {W0 : World} (hL : L0 W0) (hk : Known2 σ [((-9223372036854775808), 9223372036854775807), ((-9223372036854775808), 9223372036854775807), (10, 29), (0, 39)] []) : MemoOk Tryz.prog 1023 σ W0 10 m360 := memo_ok fit hk (FnsOk.cons (pure_fn_ok (all_cons (p4_ok hL) (all_cons (p2_ok hL) (all_cons (p3_ok hL) (all_nil))))) (FnsOk.cons (ext_is hL) (FnsOk.nil))) m360_run
noncomputable def h714 : H := hUpd h713 2280 [27] [] []
noncomputable def h715 : H := hUpc h714 2398 [] [] [(67, 0, [.slice 365 0 0 1 1 false])] [(34, 0, 9, I 4), (34, 0, 10, I 6), (68, 0, 8, I 11)]
noncomputable def m361 : Memo := ⟨[.ptr 68 0, I 10], h714, .agg [I 0, I 5, I 0, U 0, I 0, U 0, IZ (-1), I 6], h715⟩
theorem m361_run : ranTo (evCall (cxX Tryz.prog bad [((-9223372036854775808), 9223372036854775807), ((-9223372036854775808), 9223372036854775807), (10, 10), (0, 39)] [] [(51, pureFn [p4, p2, p3]), (172, isFn 325)]) 1000 60 10 m361.args m361.h) m361.v m361.h' = true := by kernel_rfl
theorem m361_ok {σ : Nat → Int} {W0 : World} (hL : L0 W0) (hk : Known2 σ [((-9223372036854775808), 9223372036854775807), ((-9223372036854775808), 9223372036854775807), (10, 10), (0, 39)] []) : MemoOk Tryz.prog 1023 σ W0 10 m361 := memo_ok fit hk (FnsOk.cons (pure_fn_ok (all_cons (p4_ok hL) (all_cons (p2_ok hL) (all_cons (p3_ok hL) (all_nil))))) (FnsOk.cons (ext_is hL) (FnsOk.nil))) m361_run
noncomputable def h716 : H := hUpd h715 2399 [34, 56] [] []
noncomputable def h717 : H := hUpc h716 2400 [] [] [] [(68, 0, 8, I 12)]
noncomputable def m362 : Memo := ⟨[.ptr 68 0, I 11], h716, .agg [IZ (-1), I 0, I 0, U 0, I 0, U 0, IZ (-1), I 0], h717⟩
theorem m362_run : ranTo (evCall (cxX Tryz.prog bad [] [] [(172, isFn 325)]) 1000 60 10 m362.args m362.h) m362.v m362.h' = true := by kernel_rfl
theorem m362_ok {σ : Nat → Int} {W0 : World} (hL : L0 W0) : MemoOk Tryz.prog 1023 σ W0 10 m362 := memo_ok fit (Known2.nil σ) (FnsOk.cons (ext_is hL) (FnsOk.nil)) m362_run
noncomputable def h718 : H := hUpd h717 2401 [] [] []
noncomputable def h719 : H := hUpc h716 2402 [] [] [] [(68, 0, 8, I 13)]
noncomputable def m363 : Memo := ⟨[.ptr 68 0, I 12], h718, .agg [IZ (-1), I 0, I 0, U 0, I 0, U 0, IZ (-1), I 0], h719⟩
theorem m363_run : ranTo (evCall (cxX Tryz.prog bad [] [] [(172, isFn 325)]) 1000 60 10 m363.args m363.h) m363.v m363.h' = true := by kernel_rfl
theorem m363_ok {σ : Nat → Int} {W0 : World} (hL : L0 W0) : MemoOk Tryz.prog 1023 σ W0 10 m363 := memo_ok fit (Known2.nil σ) (FnsOk.cons (ext_is hL) (FnsOk.nil)) m363_run
noncomputable def h720 : H := hUpd h719 2403 [] [] []
noncomputable def h721 : H := hUpc h716 2404 [] [] [] [(68, 0, 8, I 14)]
noncomputable def m364 : Memo := ⟨[.ptr 68 0, I 13], h720, .agg [IZ (-1), I 0, I 0, U 0, I 0, U 0, IZ (-1), I 0], h721⟩
theorem m364_run : ranTo (evCall (cxX Tryz.prog bad [] [] [(172, isFn 325)]) 1000 60 10 m364.args m364.h) m364.v m364.h' = true := by kernel_rfl
theorem m364_ok {σ : Nat → Int} {W0 : World} (hL : L0 W0) : MemoOk Tryz.prog 1023 σ W0 10 m364 := memo_ok fit (Known2.nil σ) (FnsOk.cons (ext_is hL) (FnsOk.nil)) m364_run
noncomputable def h722 : H := hUpd h721 2405 [] [] []
noncomputable def h723 : H := hUpc h716 2406 [] [] [] [(68, 0, 8, I 15)]
noncomputable def m365 : Memo := ⟨[.ptr 68 0, I 14], h722, .agg [IZ (-1), I 0, I 0, U 0, I 0, U 0, IZ (-1), I 0], h723⟩
theorem m365_run : ranTo (evCall (cxX Tryz.prog bad [] [] [(172, isFn 325)]) 1000 60 10 m365.args m365.h) m365.v m365.h' = true := by kernel_rfl
theorem m365_ok {σ : Nat → Int} {W0 : World} (hL : L0 W0) : MemoOk Tryz.prog 1023 σ W0 10 m365 := memo_ok fit (Known2.nil σ) (FnsOk.cons (ext_is hL) (FnsOk.nil)) m365_run
noncomputable def h724 : H := hUpd h723 2407 [] [] []
noncomputable def h725 : H := hUpc h716 2408 [] [] [] [(68, 0, 8, I 16)]
noncomputable def m366 : Memo := ⟨[.ptr 68 0, I 15], h724, .agg [IZ (-1), I 0, I 0, U 0, I 0, U 0, IZ (-1), I 0], h725⟩
theorem m366_run : ranTo (evCall (cxX Tryz.prog bad [] [] [(172, isFn 325)]) 1000 60 10 m366.args m366.h) m366.v m366.h' = true := by kernel_rfl
theorem m366_ok {σ : Nat → Int} {W0 : World} (hL : L0 W0) : MemoOk Tryz.prog 1023 σ W0 10 m366 := memo_ok fit (Known2.nil σ) (FnsOk.cons (ext_is hL) (FnsOk.nil)) m366_run
noncomputable def h726 : H := hUpd h725 2409 [] [] []
noncomputable def h727 : H := hUpc h716 2410 [] [] [] [(68, 0, 8, I 17)]
noncomputable def m367 : Memo := ⟨[.ptr 68 0, I 16], h726, .agg [IZ (-1), I 0, I 0, U 0, I 0, U 0, IZ (-1), I 0], h727⟩
theorem m367_run : ranTo (evCall (cxX Tryz.prog bad [] [] [(172, isFn 325)]) 1000 60 10 m367.args m367.h) m367.v m367.h' = true := by kernel_rfl
theorem m367_ok {σ : Nat → Int} {W0 : World} (hL : L0 W0) : MemoOk Tryz.prog 1023 σ W0 10 m367 := memo_ok fit (Known2.nil σ) (FnsOk.cons (ext_is hL) (FnsOk.nil)) m367_run
noncomputable def h728 : H := hUpd h727 2411 [] [] []
noncomputable def h729 : H := hUpc h716 2412 [] [] [] [(68, 0, 8, I 18)]
noncomputable def m368 : Memo := ⟨[.ptr 68 0, I 17], h728, .agg [IZ (-1), I 0, I 0, U 0, I 0, U 0, IZ (-1), I 0], h729⟩
theorem m368_run : ranTo (evCall (cxX Tryz.prog bad [] [] [(172, isFn 325)]) 1000 60 10 m368.args m368.h) m368.v m368.h' = true := by kernel_rfl
theorem m368_ok {σ : Nat → Int} {W0 : World} (hL : L0 W0) : MemoOk Tryz.prog 1023 σ W0 10 m368 := memo_ok fit (Known2.nil σ) (FnsOk.cons (ext_is hL) (FnsOk.nil)) m368_run
noncomputable def h730 : H := hUpd h729 2413 [] [] []
noncomputable def h731 : H := hUpc h716 2414 [] [] [] [(68, 0, 8, I 19)]
noncomputable def m369 : Memo := ⟨[.ptr 68 0, I 18], h730, .agg [IZ (-1), I 0, I 0, U 0, I 0, U 0, IZ (-1), I 0], h731⟩
theorem m369_run : ranTo (evCall (cxX Tryz.prog bad [] [] [(172, isFn 325)]) 1000 60 10 m369.args m369.h) m369.v m369.h' = true := by kernel_rfl
theorem m369_ok {σ : Nat → Int} {W0 : World} (hL : L0 W0) : MemoOk Tryz.prog 1023 σ W0 10 m369 := memo_ok fit (Known2.nil σ) (FnsOk.cons (ext_is hL) (FnsOk.nil)) m369_run
noncomputable def h732 : H := hUpd h731 2415 [] [] []
noncomputable def h733 : H := hUpc h716 2416 [] [] [] [(68, 0, 8, I 20)]
noncomputable def m370 : Memo := ⟨[.ptr 68 0, I 19], h732, .agg [IZ (-1), I 0, I 0, U 0, I 0, U 0, IZ (-1), I 0], h733⟩
theorem m370_run : ranTo (evCall (cxX Tryz.prog bad [] [] [(172, isFn 325)]) 1000 60 10 m370.args m370.h) m370.v m370.h' = true := by kernel_rfl
theorem m370_ok {σ : Nat → Int} {W0 : World} (hL : L0 W0) : MemoOk Tryz.prog 1023 σ W0 10 m370 := memo_ok fit (Known2.nil σ) (FnsOk.cons (ext_is hL) (FnsOk.nil)) m370_run
noncomputable def h734 : H := hUpd h733 2417 [] [] []
noncomputable def h735 : H := hUpc h716 2418 [] [] [] [(68, 0, 8, I 21)]
noncomputable def m371 : Memo := ⟨[.ptr 68 0, I 20], h734, .agg [IZ (-1), I 0, I 0, U 0, I 0, U 0, IZ (-1), I 0], h735⟩
theorem m371_run : ranTo (evCall (cxX Tryz.prog bad [] [] [(172, isFn 325)]) 1000 60 10 m371.args m371.h) m371.v m371.h' = true := by kernel_rfl
theorem m371_ok {σ : Nat → Int} {W0 : World} (hL : L0 W0) : MemoOk Tryz.prog 1023 σ W0 10 m371 := memo_ok fit (Known2.nil σ) (FnsOk.cons (ext_is hL) (FnsOk.nil)) m371_run
noncomputable def h736 : H := hUpd h735 2419 [] [] []
noncomputable def h737 : H := hUpc h716 2420 [] [] [] [(68, 0, 8, I 22)]
noncomputable def m372 : Memo := ⟨[.ptr 68 0, I 21], h736, .agg [IZ (-1), I 0, I 0, U 0, I 0, U 0, IZ (-1), I 0], h737⟩
theorem m372_run : ranTo (evCall (cxX Tryz.prog bad [] [] [(172, isFn 325)]) 1000 60 10 m372.args m372.h) m372.v m372.h' = true := by kernel_rfl
theorem m372_ok {σ : Nat → Int} {W0 : World} (hL : L0 W0) : MemoOk Tryz.prog 1023 σ W0 10 m372 := memo_ok fit (Known2.nil σ) (FnsOk.cons (ext_is hL) (FnsOk.nil)) m372_run
noncomputable def h738 : H := hUpd h737 2421 [] [] []
noncomputable def h739 : H := hUpc h716 2422 [] [] [] [(68, 0, 8, I 23)]
noncomputable def m373 : Memo := ⟨[.ptr 68 0, I 22], h738, .agg [IZ (-1), I 0, I 0, U 0, I 0, U 0, IZ (-1), I 0], h739⟩
theorem m373_run : ranTo (evCall (cxX Tryz.prog bad [] [] [(172, isFn 325)]) 1000 60 10 m373.args m373.h) m373.v m373.h' = true := by kernel_rfl
theorem m373_ok {σ : Nat → Int} {W0 : World} (hL : L0 W0) : MemoOk Tryz.prog 1023 σ W0 10 m373 := memo_ok fit (Known2.nil σ) (FnsOk.cons (ext_is hL) (FnsOk.nil)) m373_run
noncomputable def h740 : H := hUpd h739 2423 [] [] []
noncomputable def h741 : H := hUpc h716 2424 [] [] [] [(68, 0, 8, I 24)]
noncomputable def m374 : Memo := ⟨[.ptr 68 0, I 23], h740, .agg [IZ (-1), I 0, I 0, U 0, I 0, U 0, IZ (-1), I 0], h741⟩
theorem m374_run : ranTo (evCall (cxX Tryz.prog bad [] [] [(172, isFn 325)]) 1000 60 10 m374.args m374.h) m374.v m374.h' = true := by kernel_rfl
theorem m374_ok {σ : Nat → Int} {W0 : World} (hL : L0 W0) : MemoOk Tryz.prog 1023 σ W0 10 m374 := memo_ok fit (Known2.nil σ) (FnsOk.cons (ext_is hL) (FnsOk.nil)) m374_run
noncomputable def h742 : H := hUpd h741 2425 [] [] []
noncomputable def h743 : H := hUpc h716 2426 [] [] [] [(68, 0, 8, I 25)]
noncomputable def m375 : Memo := ⟨[.ptr 68 0, I 24], h742, .agg [IZ (-1), I 0, I 0, U 0, I 0, U 0, IZ (-1), I 0], h743⟩
theorem m375_run : ranTo (evCall (cxX Tryz.prog bad [] [] [(172, isFn 325)]) 1000 60 10 m375.args m375.h) m375.v m375.h' = true := by kernel_rfl
theorem m375_ok {σ : Nat → Int} {W0 : World} (hL : L0 W0) : MemoOk Tryz.prog 1023 σ W0 10 m375 := memo_ok fit (Known2.nil σ) (FnsOk.cons (ext_is hL) (FnsOk.nil)) m375_run
noncomputable def h744 : H := hUpd h743 2427 [] [] []
noncomputable def h745 : H := hUpc h716 2428 [] [] [] [(68, 0, 8, I 26)]
noncomputable def m376 : Memo := ⟨[.ptr 68 0, I 25], h744, .agg [IZ (-1), I 0, I 0, U 0, I 0, U 0, IZ (-1), I 0], h745⟩
theorem m376_run : ranTo (evCall (cxX Tryz.prog bad [] [] [(172, isFn 325)]) 1000 60 10 m376.args m376.h) m376.v m376.h' = true := by kernel_rfl
theorem m376_ok {σ : Nat → Int} {W0 : World} (hL : L0 W0) : MemoOk Tryz.prog 1023 σ W0 10 m376 := memo_ok fit (Known2.nil σ) (FnsOk.cons (ext_is hL) (FnsOk.nil)) m376_run
noncomputable def h746 : H := hUpd h745 2429 [] [] []
noncomputable def h747 : H := hUpc h716 2430 [] [] [] [(68, 0, 8, I 27)]
noncomputable def m377 : Memo := ⟨[.ptr 68 0, I 26], h746, .agg [IZ (-1), I 0, I 0, U 0, I 0, U 0, IZ (-1), I 0], h747⟩
theorem m377_run : ranTo (evCall (cxX Tryz.prog bad [] [] [(172, isFn 325)]) 1000 60 10 m377.args m377.h) m377.v m377.h' = true := by kernel_rfl
theorem m377_ok {σ : Nat → Int} {W0 : World} (hL : L0 W0) : MemoOk Tryz.prog 1023 σ W0 10 m377 := memo_ok fit (Known2.nil σ) (FnsOk.cons (ext_is hL) (FnsOk.nil)) m377_run
noncomputable def h748 : H := hUpd h747 2431 [] [] []
noncomputable def h749 : H := hUpc h716 2432 [] [] [] [(68, 0, 8, I 28)]
noncomputable def m378 : Memo := ⟨[.ptr 68 0, I 27], h748, .agg [IZ (-1), I 0, I 0, U 0, I 0, U 0, IZ (-1), I 0], h749⟩
theorem m378_run : ranTo (evCall (cxX Tryz.prog bad [] [] [(172, isFn 325)]) 1000 60 10 m378.args m378.h) m378.v m378.h' = true := by kernel_rfl
theorem m378_ok {σ : Nat → Int} {W0 : World} (hL : L0 W0) : MemoOk Tryz.prog 1023 σ W0 10 m378 := memo_ok fit (Known2.nil σ) (FnsOk.cons (ext_is hL) (FnsOk.nil)) m378_run
noncomputable def h750 : H := hUpd h749 2433 [] [] []
noncomputable def h751 : H := hUpc h716 2434 [] [] [] [(68, 0, 8, I 29)]
noncomputable def m379 : Memo := ⟨[.ptr 68 0, I 28], h750, .agg [IZ (-1), I 0, I 0, U 0, I 0, U 0, IZ (-1), I 0], h751⟩
theorem m379_run : ranTo (evCall (cxX Tryz.prog bad [] [] [(172, isFn 325)]) 1000 60 10 m379.args m379.h) m379.v m379.h' = true := by kernel_rfl
theorem m379_ok {σ : Nat → Int} {W0 : World} (hL : L0 W0) : MemoOk Tryz.prog 1023 σ W0 10 m379 := memo_ok fit (Known2.nil σ) (FnsOk.cons (ext_is hL) (FnsOk.nil)) m379_run
noncomputable def h752 : H := hUpd h751 2435 [] [] []
noncomputable def h753 : H := hUpc h716 2436 [] [] [] [(68, 0, 8, I 30)]
noncomputable def m380 : Memo := ⟨[.ptr 68 0, I 29], h752, .agg [IZ (-1), I 0, I 0, U 0, I 0, U 0, IZ (-1), I 0], h753⟩
theorem m380_run : ranTo (evCall (cxX Tryz.prog bad [] [] [(172, isFn 325)]) 1000 60 10 m380.args m380.h) m380.v m380.h' = true := by kernel_rfl
theorem m380_ok {σ : Nat → Int} {W0 : World} (hL : L0 W0) : MemoOk Tryz.prog 1023 σ W0 10 m380 := memo_ok fit (Known2.nil σ) (FnsOk.cons (ext_is hL) (FnsOk.nil)) m380_run
noncomputable def h754 : H := hUpd h753 2437 [] [] []
noncomputable def h755 : H := hUpc h716 2438 [] [] [] [(68, 0, 8, I 31)]
noncomputable def m381 : Memo := ⟨[.ptr 68 0, I 30], h754, .agg [IZ (-1), I 0, I 0, U 0, I 0, U 0, IZ (-1), I 0], h755⟩
theorem m381_run : ranTo (evCall (cxX Tryz.prog bad [] [] [(172, isFn 325)]) 1000 60 10 m381.args m381.h) m381.v m381.h' = true := by kernel_rfl
theorem m381_ok {σ : Nat → Int} {W0 : World} (hL : L0 W0) : MemoOk Tryz.prog 1023 σ W0 10 m381 := memo_ok fit (Known2.nil σ) (FnsOk.cons (ext_is hL) (FnsOk.nil)) m381_run
noncomputable def h756 : H := hUpd h755 2439 [] [] []
noncomputable def h757 : H := hUpc h717 2440 [] [] [] [(68, 0, 8, I 32)]
noncomputable def m382 : Memo := ⟨[.ptr 68 0, I 31], h756, .agg [IZ (-1), I 0, I 0, U 0, I 0, U 0, IZ (-1), I 0], h757⟩
theorem m382_run : ranTo (evCall (cxX Tryz.prog bad [] [] [(172, isFn 325)]) 1000 60 10 m382.args m382.h) m382.v m382.h' = true := by kernel_rfl
theorem m382_ok {σ : Nat → Int} {W0 : World} (hL : L0 W0) : MemoOk Tryz.prog 1023 σ W0 10 m382 := memo_ok fit (Known2.nil σ) (FnsOk.cons (ext_is hL) (FnsOk.nil)) m382_run
noncomputable def h758 : H := hUpd h757 2441 [] [] []
noncomputable def h759 : H := hUpc h719 2442 [] [] [] [(68, 0, 8, I 33)]
noncomputable def m383 : Memo := ⟨[.ptr 68 0, I 32], h758, .agg [IZ (-1), I 0, I 0, U 0, I 0, U 0, IZ (-1), I 0], h759⟩
theorem m383_run : ranTo (evCall (cxX Tryz.prog bad [] [] [(172, isFn 325)]) 1000 60 10 m383.args m383.h) m383.v m383.h' = true := by kernel_rfl
theorem m383_ok {σ : Nat → Int} {W0 : World} (hL : L0 W0) : MemoOk Tryz.prog 1023 σ W0 10 m383 := memo_ok fit (Known2.nil σ) (FnsOk.cons (ext_is hL) (FnsOk.nil)) m383_run
noncomputable def h760 : H := hUpd h759 2443 [] [] []
noncomputable def h761 : H := hUpc h721 2444 [] [] [] [(68, 0, 8, I 34)]
noncomputable def m384 : Memo := ⟨[.ptr 68 0, I 33], h760, .agg [IZ (-1), I 0, I 0, U 0, I 0, U 0, IZ (-1), I 0], h761⟩
theorem m384_run : ranTo (evCall (cxX Tryz.prog bad [] [] [(172, isFn 325)]) 1000 60 10 m384.args m384.h) m384.v m384.h' = true := by kernel_rfl
theorem m384_ok {σ : Nat → Int} {W0 : World} (hL : L0 W0) : MemoOk Tryz.prog 1023 σ W0 10 m384 := memo_ok fit (Known2.nil σ) (FnsOk.cons (ext_is hL) (FnsOk.nil)) m384_run
noncomputable def h762 : H := hUpd h761 2445 [] [] []
noncomputable def h763 : H := hUpc h723 2446 [] [] [] [(68, 0, 8, I 35)]
noncomputable def m385 : Memo := ⟨[.ptr 68 0, I 34], h762, .agg [IZ (-1), I 0, I 0, U 0, I 0, U 0, IZ (-1), I 0], h763⟩
theorem m385_run : ranTo (evCall (cxX Tryz.prog bad [] [] [(172, isFn 325)]) 1000 60 10 m385.args m385.h) m385.v m385.h' = true := by kernel_rfl
theorem m385_ok {σ : Nat → Int} {W0 : World} (hL : L0 W0) : MemoOk Tryz.prog 1023 σ W0 10 m385 := memo_ok fit (Known2.nil σ) (FnsOk.cons (ext_is hL) (FnsOk.nil)) m385_run
noncomputable def h764 : H := hUpd h763 2447 [] [] []
noncomputable def h765 : H := hUpc h725 2448 [] [] [] [(68, 0, 8, I 36)]
noncomputable def m386 : Memo := ⟨[.ptr 68 0, I 35], h764, .agg [IZ (-1), I 0, I 0, U 0, I 0, U 0, IZ (-1), I 0], h765⟩
theorem m386_run : ranTo (evCall (cxX Tryz.prog bad [] [] [(172, isFn 325)]) 1000 60 10 m386.args m386.h) m386.v m386.h' = true := by kernel_rfl
theorem m386_ok {σ : Nat → Int} {W0 : World} (hL : L0 W0) : MemoOk Tryz.prog 1023 σ W0 10 m386 := memo_ok fit (Known2.nil σ) (FnsOk.cons (ext_is hL) (FnsOk.nil)) m386_run
noncomputable def h766 : H := hUpd h765 2449 [] [] []
noncomputable def h767 : H := hUpc h727 2450 [] [] [] [(68, 0, 8, I 37)]
noncomputable def m387 : Memo := ⟨[.ptr 68 0, I 36], h766, .agg [IZ (-1), I 0, I 0, U 0, I 0, U 0, IZ (-1), I 0], h767⟩
theorem m387_run : ranTo (evCall (cxX Tryz.prog bad [] [] [(172, isFn 325)]) 1000 60 10 m387.args m387.h) m387.v m387.h' = true := by kernel_rfl
theorem m387_ok {σ : Nat → Int} {W0 : World} (hL : L0 W0) : MemoOk Tryz.prog 1023 σ W0 10 m387 := memo_ok fit (Known2.nil σ) (FnsOk.cons (ext_is hL) (FnsOk.nil)) m387_run
noncomputable def h768 : H := hUpd h767 2451 [] [] []
noncomputable def h769 : H := hUpc h729 2452 [] [] [] [(68, 0, 8, I 38)]
noncomputable def m388 : Memo := ⟨[.ptr 68 0, I 37], h768, .agg [IZ (-1), I 0, I 0, U 0, I 0, U 0, IZ (-1), I 0], h769⟩
theorem m388_run : ranTo (evCall (cxX Tryz.prog bad [] [] [(172, isFn 325)]) 1000 60 10 m388.args m388.h) m388.v m388.h' = true := by kernel_rfl
theorem m388_ok {σ : Nat → Int} {W0 : World} (hL : L0 W0) : MemoOk Tryz.prog 1023 σ W0 10 m388 := memo_ok fit (Known2.nil σ) (FnsOk.cons (ext_is hL) (FnsOk.nil)) m388_run
noncomputable def h770 : H := hUpd h769 2453 [] [] []
noncomputable def h771 : H := hUpc h731 2454 [] [] [] [(68, 0, 8, I 39)]
noncomputable def m389 : Memo := ⟨[.ptr 68 0, I 38], h770, .agg [IZ (-1), I 0, I 0, U 0, I 0, U 0, IZ (-1), I 0], h771⟩
theorem m389_run : ranTo (evCall (cxX Tryz.prog bad [] [] [(172, isFn 325)]) 1000 60 10 m389.args m389.h) m389.v m389.h' = true := by kernel_rfl
theorem m389_ok {σ : Nat → Int} {W0 : World} (hL : L0 W0) : MemoOk Tryz.prog 1023 σ W0 10 m389 := memo_ok fit (Known2.nil σ) (FnsOk.cons (ext_is hL) (FnsOk.nil)) m389_run
theorem run10 : lawF Tryz.prog bad [] ((6, numExtE [(0, 30, .var 2), (1, 40, .var 3)]) :: (9, frameFn [m5]) :: (10, frameFn [m45, m84, m122, m159, m195, m230, m264, m297, m329, m360, m361, m362, m363, m364, m365, m366, m367, m368, m369, m370, m371, m372, m373, m374, m375, m376, m377, m378, m379, m380, m381, m382, m383, m384, m385, m386, m387, m388, m389]) :: q0) 1000 60 4 [.int .i64 (.var 0), .int .i64 (.var 1)] [((-9223372036854775808), 9223372036854775807), ((-9223372036854775808), 9223372036854775807), (10, 10), (0, 39)] (peels 39 3) (sentH 325 10 errTab) = true := by kernel_rfl
theorem case10 {σ : Nat → Int} {W : World} (hL : L0 W) (hk : Known2 σ [((-9223372036854775808), 9223372036854775807), ((-9223372036854775808), 9223372036854775807), (10, 10), (0, 39)] []) (hT : TabOk Tryz.prog bad 6 σ [(0, 30, .var 2), (1, 40, .var 3)]) {xs : Array Value} (hv : ∀ ρ, VRs σ ρ [.int .i64 (.var 0), .int .i64 (.var 1)] xs.toList) : Calls Tryz.prog 4 xs W fun e w' => e = .returned (.bool true) ∧ Below W.heap.size W w' := by
  obtain ⟨ads, h1, h2, h3⟩ := errs_sents hL
  exact law_case_f fit h1 h2 h3 errs_all errs_lt (by kernel_rfl) hk (FnsOk.cons (hT.ok fit) (FnsOk.cons (frame_fn_ok (all_cons (m5_ok hL (hk.relax (r' := [((-9223372036854775808), 9223372036854775807), ((-9223372036854775808), 9223372036854775807), (0, 29), (0, 39)]) (by kernel_rfl))) (all_nil))) (FnsOk.cons (frame_fn_ok (all_cons (m45_ok hL (hk.relax (r' := [((-9223372036854775808), 9223372036854775807), ((-9223372036854775808), 9223372036854775807), (1, 29), (0, 39)]) (by kernel_rfl))) (all_cons (m84_ok hL (hk.relax (r' := [((-9223372036854775808), 9223372036854775807), ((-9223372036854775808), 9223372036854775807), (2, 29), (0, 39)]) (by kernel_rfl))) (all_cons (m122_ok hL (hk.relax (r' := [((-9223372036854775808), 9223372036854775807), ((-9223372036854775808), 9223372036854775807), (3, 29), (0, 39)]) (by kernel_rfl))) (all_cons (m159_ok hL (hk.relax (r' := [((-9223372036854775808), 9223372036854775807), ((-9223372036854775808), 9223372036854775807), (4, 29), (0, 39)]) (by kernel_rfl))) (all_cons (m195_ok hL (hk.relax (r' := [((-9223372036854775808), 9223372036854775807), ((-9223372036854775808), 9223372036854775807), (5, 29), (0, 39)]) (by kernel_rfl))) (all_cons (m230_ok hL (hk.relax (r' := [((-9223372036854775808), 9223372036854775807), ((-9223372036854775808), 9223372036854775807), (6, 29), (0, 39)]) (by kernel_rfl))) (all_cons (m264_ok hL (hk.relax (r' := [((-9223372036854775808), 9223372036854775807), ((-9223372036854775808), 9223372036854775807), (7, 29), (0, 39)]) (by kernel_rfl))) (all_cons (m297_ok hL (hk.relax (r' := [((-9223372036854775808), 9223372036854775807), ((-9223372036854775808), 9223372036854775807), (8, 29), (0, 39)]) (by kernel_rfl))) (all_cons (m329_ok hL (hk.relax (r' := [((-9223372036854775808), 9223372036854775807), ((-9223372036854775808), 9223372036854775807), (9, 29), (0, 39)]) (by kernel_rfl))) (all_cons (m360_ok hL (hk.relax (r' := [((-9223372036854775808), 9223372036854775807), ((-9223372036854775808), 9223372036854775807), (10, 29), (0, 39)]) (by kernel_rfl))) (all_cons (m361_ok hL hk) (all_cons (m362_ok hL) (all_cons (m363_ok hL) (all_cons (m364_ok hL) (all_cons (m365_ok hL) (all_cons (m366_ok hL) (all_cons (m367_ok hL) (all_cons (m368_ok hL) (all_cons (m369_ok hL) (all_cons (m370_ok hL) (all_cons (m371_ok hL) (all_cons (m372_ok hL) (all_cons (m373_ok hL) (all_cons (m374_ok hL) (all_cons (m375_ok hL) (all_cons (m376_ok hL) (all_cons (m377_ok hL) (all_cons (m378_ok hL) (all_cons (m379_ok hL) (all_cons (m380_ok hL) (all_cons (m381_ok hL) (all_cons (m382_ok hL) (all_cons (m383_ok hL) (all_cons (m384_ok hL) (all_cons (m385_ok hL) (all_cons (m386_ok hL) (all_cons (m387_ok hL) (all_cons (m388_ok hL) (all_cons (m389_ok hL) (all_nil))))))))))))))))))))))))))))))))))))))))) ((q0_ok hL))))) hv run10
noncomputable def h772 : H := hUpc h732 2280 [] [(34, .cells 107 ((rp 9 (U 0) ((I 3) :: rp 5 (I 0) ((U 0) :: rp 4 (I 0) ((U 0) :: rp 4 (I 0) ((U 0) :: rp 4 (I 0) ((U 0) :: rp 4 (I 0) ((U 0) :: rp 4 (I 0) ((U 0) :: rp 4 (I 0) ((U 0) :: rp 4 (I 0) ((U 0) :: rp 4 (I 0) ((U 0) :: rp 4 (I 0) ((U 0) :: rp 4 (I 0) ((U 0) :: rp 4 (I 0) ((U 0) :: rp 4 (I 0) ((U 0) :: rp 4 (I 0) ((U 0) :: rp 4 (I 0) ((U 0) :: rp 4 (I 0) ((U 0) :: (I 3) :: (I 0) :: (I 0) :: (I 0) :: (U 0) :: (I 7) :: (I 0) :: (I 0) :: (I 0) :: (U 0) :: rp 4 (I 0) ([U 0, I 0]))))))))))))))))))) :: rp 5 (rp 9 (U 0) (rp 6 (I 0) ((U 0) :: rp 4 (I 0) ((U 0) :: rp 4 (I 0) ((U 0) :: rp 4 (I 0) ((U 0) :: rp 4 (I 0) ((U 0) :: rp 4 (I 0) ((U 0) :: rp 4 (I 0) ((U 0) :: rp 4 (I 0) ((U 0) :: rp 4 (I 0) ((U 0) :: rp 4 (I 0) ((U 0) :: rp 4 (I 0) ((U 0) :: rp 4 (I 0) ((U 0) :: rp 4 (I 0) ((U 0) :: rp 4 (I 0) ((U 0) :: rp 4 (I 0) ((U 0) :: rp 4 (I 0) ((U 0) :: rp 4 (I 0) ((U 0) :: rp 4 (I 0) ((U 0) :: rp 4 (I 0) ([U 0, I 0]))))))))))))))))))))) ([])) false),
  (56, .cells 2 ([IZ (-1), .int .i64 (.sub (.var 2) (.lit 10))] :: rp 7 ([I 0, I 0]) ([])) false),
  (27, .cells 32 (((U 201326592) :: (U 67108864) :: rp 30 (U 0) ([])) :: rp 11 (rp 32 (U 0) ([])) ([])) false)] [(67, 0, [.slice 365 0 1 1 1 false])] [(68, 0, 8, I 10)]
noncomputable def h773 : H := hUpc h772 2449 [] [] [(30, 0, [I 16, .slice 663 0 1 1 10 false, I 10]),
  (56, 0, [IZ (-1), .int .i64 (.sub (.var 2) (.lit 11))])] [(34, 0, 8, U 1), (68, 0, 8, I 11)]
noncomputable def m390 : Memo := ⟨[.ptr 68 0, I 10], h772, .agg [I 0, I 3, I 0, U 0, I 0, U 0, IZ (-1), I 0], h773⟩
theorem m390_run : ranTo (evCall (cxX Tryz.prog bad [((-9223372036854775808), 9223372036854775807), ((-9223372036854775808), 9223372036854775807), (11, 29), (0, 39)] [] [(51, pureFn [p4, p2, p3]), (172, isFn 325)]) 1000 60 10 m390.args m390.h) m390.v m390.h' = true := by kernel_rfl
theorem m390_ok {σ : Nat → Int} {W0 : World} (hL : L0 W0) (hk : Known2 σ [((-9223372036854775808), 9223372036854775807), ((-9223372036854775808), 9223372036854775807), (11, 29), (0, 39)] []) : MemoOk Tryz.prog 1023 σ W0 10 m390 := memo_ok fit hk (FnsOk.cons (pure_fn_ok (all_cons (p4_ok hL) (all_cons (p2_ok hL) (all_cons (p3_ok hL) (all_nil))))) (FnsOk.cons (ext_is hL) (FnsOk.nil))) m390_run
noncomputable def h774 : H := hUpd h773 2450 [27] [] []
noncomputable def h775 : H := hUpc h774 2568 [] [] [(67, 0, [.slice 365 0 0 1 1 false])] [(34, 0, 9, I 4), (34, 0, 10, I 6), (68, 0, 8, I 12)]
noncomputable def m391 : Memo := ⟨[.ptr 68 0, I 11], h774, .agg [I 0, I 5, I 0, U 0, I 0, U 0, IZ (-1), I 6], h775⟩
theorem m391_run : ranTo (evCall (cxX Tryz.prog bad [((-9223372036854775808), 9223372036854775807), ((-9223372036854775808), 9223372036854775807), (11, 11), (0, 39)] [] [(51, pureFn [p4, p2, p3]), (172, isFn 325)]) 1000 60 10 m391.args m391.h) m391.v m391.h' = true := by kernel_rfl
theorem m391_ok {σ : Nat → Int} {W0 : World} (hL : L0 W0) (hk : Known2 σ [((-9223372036854775808), 9223372036854775807), ((-9223372036854775808), 9223372036854775807), (11, 11), (0, 39)] []) : MemoOk Tryz.prog 1023 σ W0 10 m391 := memo_ok fit hk (FnsOk.cons (pure_fn_ok (all_cons (p4_ok hL) (all_cons (p2_ok hL) (all_cons (p3_ok hL) (all_nil))))) (FnsOk.cons (ext_is hL) (FnsOk.nil))) m391_run
noncomputable def h776 : H := hUpd h775 2569 [34, 56] [] []
noncomputable def h777 : H := hUpc h776 2570 [] [] [] [(68, 0, 8, I 13)]
noncomputable def m392 : Memo := ⟨[.ptr 68 0, I 12], h776, .agg [IZ (-1), I 0, I 0, U 0, I 0, U 0, IZ (-1), I 0], h777⟩
theorem m392_run : ranTo (evCall (cxX Tryz.prog bad [] [] [(172, isFn 325)]) 1000 60 10 m392.args m392.h) m392.v m392.h' = true := by kernel_rfl
theorem m392_ok {σ : Nat → Int} {W0 : World} (hL : L0 W0) : MemoOk Tryz.prog 1023 σ W0 10 m392 := memo_ok fit (Known2.nil σ) (FnsOk.cons (ext_is hL) (FnsOk.nil)) m392_run
noncomputable def h778 : H := hUpd h777 2571 [] [] []
noncomputable def h779 : H := hUpc h776 2572 [] [] [] [(68, 0, 8, I 14)]
noncomputable def m393 : Memo := ⟨[.ptr 68 0, I 13], h778, .agg [IZ (-1), I 0, I 0, U 0, I 0, U 0, IZ (-1), I 0], h779⟩
theorem m393_run : ranTo (evCall (cxX Tryz.prog bad [] [] [(172, isFn 325)]) 1000 60 10 m393.args m393.h) m393.v m393.h' = true := by kernel_rfl
theorem m393_ok {σ : Nat → Int} {W0 : World} (hL : L0 W0) : MemoOk Tryz.prog 1023 σ W0 10 m393 := memo_ok fit (Known2.nil σ) (FnsOk.cons (ext_is hL) (FnsOk.nil)) m393_run
noncomputable def h780 : H := hUpd h779 2573 [] [] []
noncomputable def h781 : H := hUpc h776 2574 [] [] [] [(68, 0, 8, I 15)]
noncomputable def m394 : Memo := ⟨[.ptr 68 0, I 14], h780, .agg [IZ (-1), I 0, I 0, U 0, I 0, U 0, IZ (-1), I 0], h781⟩
theorem m394_run : ranTo (evCall (cxX Tryz.prog bad [] [] [(172, isFn 325)]) 1000 60 10 m394.args m394.h) m394.v m394.h' = true := by kernel_rfl
theorem m394_ok {σ : Nat → Int} {W0 : World} (hL : L0 W0) : MemoOk Tryz.prog 1023 σ W0 10 m394 := memo_ok fit (Known2.nil σ) (FnsOk.cons (ext_is hL) (FnsOk.nil)) m394_run
noncomputable def h782 : H := hUpd h781 2575 [] [] []
noncomputable def h783 : H := hUpc h776 2576 [] [] [] [(68, 0, 8, I 16)]
noncomputable def m395 : Memo := ⟨[.ptr 68 0, I 15], h782, .agg [IZ (-1), I 0, I 0, U 0, I 0, U 0, IZ (-1), I 0], h783⟩
theorem m395_run : ranTo (evCall (cxX Tryz.prog bad [] [] [(172, isFn 325)]) 1000 60 10 m395.args m395.h) m395.v m395.h' = true := by kernel_rfl
theorem m395_ok {σ : Nat → Int} {W0 : World} (hL : L0 W0) : MemoOk Tryz.prog 1023 σ W0 10 m395 := memo_ok fit (Known2.nil σ) (FnsOk.cons (ext_is hL) (FnsOk.nil)) m395_run
noncomputable def h784 : H := hUpd h783 2577 [] [] []
noncomputable def h785 : H := hUpc h776 2578 [] [] [] [(68, 0, 8, I 17)]
noncomputable def m396 : Memo := ⟨[.ptr 68 0, I 16], h784, .agg [IZ (-1), I 0, I 0, U 0, I 0, U 0, IZ (-1), I 0], h785⟩
theorem m396_run : ranTo (evCall (cxX Tryz.prog bad [] [] [(172, isFn 325)]) 1000 60 10 m396.args m396.h) m396.v m396.h' = true := by kernel_rfl
theorem m396_ok {σ : Nat → Int} {W0 : World} (hL : L0 W0) : MemoOk Tryz.prog 1023 σ W0 10 m396 := memo_ok fit (Known2.nil σ) (FnsOk.cons (ext_is hL) (FnsOk.nil)) m396_run
noncomputable def h786 : H := hUpd h785 2579 [] [] []
noncomputable def h787 : H := hUpc h776 2580 [] [] [] [(68, 0, 8, I 18)]
noncomputable def m397 : Memo := ⟨[.ptr 68 0, I 17], h786, .agg [IZ (-1), I 0, I 0, U 0, I 0, U 0, IZ (-1), I 0], h787⟩
theorem m397_run : ranTo (evCall (cxX Tryz.prog bad [] [] [(172, isFn 325)]) 1000 60 10 m397.args m397.h) m397.v m397.h' = true := by kernel_rfl
theorem m397_ok {σ : Nat → Int} {W0 : World} (hL : L0 W0) : MemoOk Tryz.prog 1023 σ W0 10 m397 := memo_ok fit (Known2.nil σ) (FnsOk.cons (ext_is hL) (FnsOk.nil)) m397_run
noncomputable def h788 : H := hUpd h787 2581 [] [] []
noncomputable def h789 : H := hUpc h776 2582 [] [] [] [(68, 0, 8, I 19)]
noncomputable def m398 : Memo := ⟨[.ptr 68 0, I 18], h788, .agg [IZ (-1), I 0, I 0, U 0, I 0, U 0, IZ (-1), I 0], h789⟩
theorem m398_run : ranTo (evCall (cxX Tryz.prog bad [] [] [(172, isFn 325)]) 1000 60 10 m398.args m398.h) m398.v m398.h' = true := by kernel_rfl
theorem m398_ok {σ : Nat → Int} {W0 : World} (hL : L0 W0) : MemoOk Tryz.prog 1023 σ W0 10 m398 := memo_ok fit (Known2.nil σ) (FnsOk.cons (ext_is hL) (FnsOk.nil)) m398_run
noncomputable def h790 : H := hUpd h789 2583 [] [] []
noncomputable def h791 : H := hUpc h776 2584 [] [] [] [(68, 0, 8, I 20)]
noncomputable def m399 : Memo := ⟨[.ptr 68 0, I 19], h790, .agg [IZ (-1), I 0, I 0, U 0, I 0, U 0, IZ (-1), I 0], h791⟩
theorem m399_run : ranTo (evCall (cxX Tryz.prog bad [] [] [(172, isFn 325)]) 1000 60 10 m399.args m399.h) m399.v m399.h' = true := by kernel_rfl
theorem m399_ok {σ : Nat → Int} {W0 : World} (hL : L0 W0) : MemoOk Tryz.prog 1023 σ W0 10 m399 := memo_ok fit (Known2.nil σ) (FnsOk.cons (ext_is hL) (FnsOk.nil)) m399_run
noncomputable def h792 : H := hUpd h791 2585 [] [] []
noncomputable def h793 : H := hUpc h776 2586 [] [] [] [(68, 0, 8, I 21)]
noncomputable def m400 : Memo := ⟨[.ptr 68 0, I 20], h792, .agg [IZ (-1), I 0, I 0, U 0, I 0, U 0, IZ (-1), I 0], h793⟩
theorem m400_run : ranTo (evCall (cxX Tryz.prog bad [] [] [(172, isFn 325)]) 1000 60 10 m400.args m400.h) m400.v m400.h' = true := by kernel_rfl
theorem m400_ok {σ : Nat → Int} {W0 : World} (hL : L0 W0) : MemoOk Tryz.prog 1023 σ W0 10 m400 := memo_ok fit (Known2.nil σ) (FnsOk.cons (ext_is hL) (FnsOk.nil)) m400_run
noncomputable def h794 : H := hUpd h793 2587 [] [] []
noncomputable def h795 : H := hUpc h776 2588 [] [] [] [(68, 0, 8, I 22)]
noncomputable def m401 : Memo := ⟨[.ptr 68 0, I 21], h794, .agg [IZ (-1), I 0, I 0, U 0, I 0, U 0, IZ (-1), I 0], h795⟩
theorem m401_run : ranTo (evCall (cxX Tryz.prog bad [] [] [(172, isFn 325)]) 1000 60 10 m401.args m401.h) m401.v m401.h' = true := by kernel_rfl
theorem m401_ok {σ : Nat → Int} {W0 : World} (hL : L0 W0) : MemoOk Tryz.prog 1023 σ W0 10 m401 := memo_ok fit (Known2.nil σ) (FnsOk.cons (ext_is hL) (FnsOk.nil)) m401_run
noncomputable def h796 : H := hUpd h795 2589 [] [] []
noncomputable def h797 : H := hUpc h776 2590 [] [] [] [(68, 0, 8, I 23)]
noncomputable def m402 : Memo := ⟨[.ptr 68 0, I 22], h796, .agg [IZ (-1), I 0, I 0, U 0, I 0, U 0, IZ (-1), I 0], h797⟩
theorem m402_run : ranTo (evCall (cxX Tryz.prog bad [] [] [(172, isFn 325)]) 1000 60 10 m402.args m402.h) m402.v m402.h' = true := by kernel_rfl
theorem m402_ok {σ : Nat → Int} {W0 : World} (hL : L0 W0) : MemoOk Tryz.prog 1023 σ W0 10 m402 := memo_ok fit (Known2.nil σ) (FnsOk.cons (ext_is hL) (FnsOk.nil)) m402_run
noncomputable def h798 : H := hUpd h797 2591 [] [] []
noncomputable def h799 : H := hUpc h776 2592 [] [] [] [(68, 0, 8, I 24)]
noncomputable def m403 : Memo := ⟨[.ptr 68 0, I 23], h798, .agg [IZ (-1), I 0, I 0, U 0, I 0, U 0, IZ (-1), I 0], h799⟩
theorem m403_run : ranTo (evCall (cxX Tryz.prog bad [] [] [(172, isFn 325)]) 1000 60 10 m403.args m403.h) m403.v m403.h' = true := by kernel_rfl
theorem m403_ok {σ : Nat → Int} {W0 : World} (hL : L0 W0) : MemoOk Tryz.prog 1023 σ W0 10 m403 := memo_ok fit (Known2.nil σ) (FnsOk.cons (ext_is hL) (FnsOk.nil)) m403_run
noncomputable def h800 : H := hUpd h799 2593 [] [] []
noncomputable def h801 : H := hUpc h776 2594 [] [] [] [(68, 0, 8, I 25)]
noncomputable def m404 : Memo := ⟨[.ptr 68 0, I 24], h800, .agg [IZ (-1), I 0, I 0, U 0, I 0, U 0, IZ (-1), I 0], h801⟩
theorem m404_run : ranTo (evCall (cxX Tryz.prog bad [] [] [(172, isFn 325)]) 1000 60 10 m404.args m404.h) m404.v m404.h' = true := by kernel_rfl
theorem m404_ok {σ : Nat → Int} {W0 : World} (hL : L0 W0) : MemoOk Tryz.prog 1023 σ W0 10 m404 := memo_ok fit (Known2.nil σ) (FnsOk.cons (ext_is hL) (FnsOk.nil)) m404_run
noncomputable def h802 : H := hUpd h801 2595 [] [] []
noncomputable def h803 : H := hUpc h776 2596 [] [] [] [(68, 0, 8, I 26)]
noncomputable def m405 : Memo := ⟨[.ptr 68 0, I 25], h802, .agg [IZ (-1), I 0, I 0, U 0, I 0, U 0, IZ (-1), I 0], h803⟩
theorem m405_run : ranTo (evCall (cxX Tryz.prog bad [] [] [(172, isFn 325)]) 1000 60 10 m405.args m405.h) m405.v m405.h' = true := by kernel_rfl
theorem m405_ok {σ : Nat → Int} {W0 : World} (hL : L0 W0) : MemoOk Tryz.prog 1023 σ W0 10 m405 := memo_ok fit (Known2.nil σ) (FnsOk.cons (ext_is hL) (FnsOk.nil)) m405_run
noncomputable def h804 : H := hUpd h803 2597 [] [] []
noncomputable def h805 : H := hUpc h776 2598 [] [] [] [(68, 0, 8, I 27)]
noncomputable def m406 : Memo := ⟨[.ptr 68 0, I 26], h804, .agg [IZ (-1), I 0, I 0, U 0, I 0, U 0, IZ (-1), I 0], h805⟩
theorem m406_run : ranTo (evCall (cxX Tryz.prog bad [] [] [(172, isFn 325)]) 1000 60 10 m406.args m406.h) m406.v m406.h' = true := by kernel_rfl
theorem m406_ok {σ : Nat → Int} {W0 : World} (hL : L0 W0) : MemoOk Tryz.prog 1023 σ W0 10 m406 := memo_ok fit (Known2.nil σ) (FnsOk.cons (ext_is hL) (FnsOk.nil)) m406_run
noncomputable def h806 : H := hUpd h805 2599 [] [] []
noncomputable def h807 : H := hUpc h776 2600 [] [] [] [(68, 0, 8, I 28)]
noncomputable def m407 : Memo := ⟨[.ptr 68 0, I 27], h806, .agg [IZ (-1), I 0, I 0, U 0, I 0, U 0, IZ (-1), I 0], h807⟩
theorem m407_run : ranTo (evCall (cxX Tryz.prog bad [] [] [(172, isFn 325)]) 1000 60 10 m407.args m407.h) m407.v m407.h' = true := by kernel_rfl
theorem m407_ok {σ : Nat → Int} {W0 : World} (hL : L0 W0) : MemoOk Tryz.prog 1023 σ W0 10 m407 := memo_ok fit (Known2.nil σ) (FnsOk.cons (ext_is hL) (FnsOk.nil)) m407_run
noncomputable def h808 : H := hUpd h807 2601 [] [] []
noncomputable def h809 : H := hUpc h776 2602 [] [] [] [(68, 0, 8, I 29)]
noncomputable def m408 : Memo := ⟨[.ptr 68 0, I 28], h808, .agg [IZ (-1), I 0, I 0, U 0, I 0, U 0, IZ (-1), I 0], h809⟩
theorem m408_run : ranTo (evCall (cxX Tryz.prog bad [] [] [(172, isFn 325)]) 1000 60 10 m408.args m408.h) m408.v m408.h' = true := by kernel_rfl
theorem m408_ok {σ : Nat → Int} {W0 : World} (hL : L0 W0) : MemoOk Tryz.prog 1023 σ W0 10 m408 := memo_ok fit (Known2.nil σ) (FnsOk.cons (ext_is hL) (FnsOk.nil)) m408_run
noncomputable def h810 : H := hUpd h809 2603 [] [] []
noncomputable def h811 : H := hUpc h776 2604 [] [] [] [(68, 0, 8, I 30)]
noncomputable def m409 : Memo := ⟨[.ptr 68 0, I 29], h810, .agg [IZ (-1), I 0, I 0, U 0, I 0, U 0, IZ (-1), I 0], h811⟩
theorem m409_run : ranTo (evCall (cxX Tryz.prog bad [] [] [(172, isFn 325)]) 1000 60 10 m409.args m409.h) m409.v m409.h' = true := by kernel_rfl
theorem m409_ok {σ : Nat → Int} {W0 : World} (hL : L0 W0) : MemoOk Tryz.prog 1023 σ W0 10 m409 := memo_ok fit (Known2.nil σ) (FnsOk.cons (ext_is hL) (FnsOk.nil)) m409_run
noncomputable def h812 : H := hUpd h811 2605 [] [] []
noncomputable def h813 : H := hUpc h776 2606 [] [] [] [(68, 0, 8, I 31)]
noncomputable def m410 : Memo := ⟨[.ptr 68 0, I 30], h812, .agg [IZ (-1), I 0, I 0, U 0, I 0, U 0, IZ (-1), I 0], h813⟩
theorem m410_run : ranTo (evCall (cxX Tryz.prog bad [] [] [(172, isFn 325)]) 1000 60 10 m410.args m410.h) m410.v m410.h' = true := by kernel_rfl
theorem m410_ok {σ : Nat → Int} {W0 : World} (hL : L0 W0) : MemoOk Tryz.prog 1023 σ W0 10 m410 := memo_ok fit (Known2.nil σ) (FnsOk.cons (ext_is hL) (FnsOk.nil)) m410_run
noncomputable def h814 : H := hUpd h813 2607 [] [] []
noncomputable def h815 : H := hUpc h776 2608 [] [] [] [(68, 0, 8, I 32)]
noncomputable def m411 : Memo := ⟨[.ptr 68 0, I 31], h814, .agg [IZ (-1), I 0, I 0, U 0, I 0, U 0, IZ (-1), I 0], h815⟩
theorem m411_run : ranTo (evCall (cxX Tryz.prog bad [] [] [(172, isFn 325)]) 1000 60 10 m411.args m411.h) m411.v m411.h' = true := by kernel_rfl
theorem m411_ok {σ : Nat → Int} {W0 : World} (hL : L0 W0) : MemoOk Tryz.prog 1023 σ W0 10 m411 := memo_ok fit (Known2.nil σ) (FnsOk.cons (ext_is hL) (FnsOk.nil)) m411_run
noncomputable def h816 : H := hUpd h815 2609 [] [] []
noncomputable def h817 : H := hUpc h777 2610 [] [] [] [(68, 0, 8, I 33)]
noncomputable def m412 : Memo := ⟨[.ptr 68 0, I 32], h816, .agg [IZ (-1), I 0, I 0, U 0, I 0, U 0, IZ (-1), I 0], h817⟩
theorem m412_run : ranTo (evCall (cxX Tryz.prog bad [] [] [(172, isFn 325)]) 1000 60 10 m412.args m412.h) m412.v m412.h' = true := by kernel_rfl
theorem m412_ok {σ : Nat → Int} {W0 : World} (hL : L0 W0) : MemoOk Tryz.prog 1023 σ W0 10 m412 := memo_ok fit (Known2.nil σ) (FnsOk.cons (ext_is hL) (FnsOk.nil)) m412_run
noncomputable def h818 : H := hUpd h817 2611 [] [] []
noncomputable def h819 : H := hUpc h779 2612 [] [] [] [(68, 0, 8, I 34)]
noncomputable def m413 : Memo := ⟨[.ptr 68 0, I 33], h818, .agg [IZ (-1), I 0, I 0, U 0, I 0, U 0, IZ (-1), I 0], h819⟩
theorem m413_run : ranTo (evCall (cxX Tryz.prog bad [] [] [(172, isFn 325)]) 1000 60 10 m413.args m413.h) m413.v m413.h' = true := by kernel_rfl
theorem m413_ok {σ : Nat → Int} {W0 : World} (hL : L0 W0) : MemoOk Tryz.prog 1023 σ W0 10 m413 := memo_ok fit (Known2.nil σ) (FnsOk.cons (ext_is hL) (FnsOk.nil)) m413_run
noncomputable def h820 : H := hUpd h819 2613 [] [] []
noncomputable def h821 : H := hUpc h781 2614 [] [] [] [(68, 0, 8, I 35)]
noncomputable def m414 : Memo := ⟨[.ptr 68 0, I 34], h820, .agg [IZ (-1), I 0, I 0, U 0, I 0, U 0, IZ (-1), I 0], h821⟩
theorem m414_run : ranTo (evCall (cxX Tryz.prog bad [] [] [(172, isFn 325)]) 1000 60 10 m414.args m414.h) m414.v m414.h' = true := by kernel_rfl
theorem m414_ok {σ : Nat → Int} {W0 : World} (hL : L0 W0) : MemoOk Tryz.prog 1023 σ W0 10 m414 := memo_ok fit (Known2.nil σ) (FnsOk.cons (ext_is hL) (FnsOk.nil)) m414_run
noncomputable def h822 : H := hUpd h821 2615 [] [] []
noncomputable def h823 : H := hUpc h783 2616 [] [] [] [(68, 0, 8, I 36)]
noncomputable def m415 : Memo := ⟨[.ptr 68 0, I 35], h822, .agg [IZ (-1), I 0, I 0, U 0, I 0, U 0, IZ (-1), I 0], h823⟩
theorem m415_run : ranTo (evCall (cxX Tryz.prog bad [] [] [(172, isFn 325)]) 1000 60 10 m415.args m415.h) m415.v m415.h' = true := by kernel_rfl
theorem m415_ok {σ : Nat → Int} {W0 : World} (hL : L0 W0) : MemoOk Tryz.prog 1023 σ W0 10 m415 := memo_ok fit (Known2.nil σ) (FnsOk.cons (ext_is hL) (FnsOk.nil)) m415_run
noncomputable def h824 : H := hUpd h823 2617 [] [] []
noncomputable def h825 : H := hUpc h785 2618 [] [] [] [(68, 0, 8, I 37)]
noncomputable def m416 : Memo := ⟨[.ptr 68 0, I 36], h824, .agg [IZ (-1), I 0, I 0, U 0, I 0, U 0, IZ (-1), I 0], h825⟩
theorem m416_run : ranTo (evCall (cxX Tryz.prog bad [] [] [(172, isFn 325)]) 1000 60 10 m416.args m416.h) m416.v m416.h' = true := by kernel_rfl
theorem m416_ok {σ : Nat → Int} {W0 : World} (hL : L0 W0) : MemoOk Tryz.prog 1023 σ W0 10 m416 := memo_ok fit (Known2.nil σ) (FnsOk.cons (ext_is hL) (FnsOk.nil)) m416_run
noncomputable def h826 : H := hUpd h825 2619 [] [] []
noncomputable def h827 : H := hUpc h787 2620 [] [] [] [(68, 0, 8, I 38)]
noncomputable def m417 : Memo := ⟨[.ptr 68 0, I 37], h826, .agg [IZ (-1), I 0, I 0, U 0, I 0, U 0, IZ (-1), I 0], h827⟩
theorem m417_run : ranTo (evCall (cxX Tryz.prog bad [] [] [(172, isFn 325)]) 1000 60 10 m417.args m417.h) m417.v m417.h' = true := by kernel_rfl
theorem m417_ok {σ : Nat → Int} {W0 : World} (hL : L0 W0) : MemoOk Tryz.prog 1023 σ W0 10 m417 := memo_ok fit (Known2.nil σ) (FnsOk.cons (ext_is hL) (FnsOk.nil)) m417_run
noncomputable def h828 : H := hUpd h827 2621 [] [] []
noncomputable def h829 : H := hUpc h789 2622 [] [] [] [(68, 0, 8, I 39)]
noncomputable def m418 : Memo := ⟨[.ptr 68 0, I 38], h828, .agg [IZ (-1), I 0, I 0, U 0, I 0, U 0, IZ (-1), I 0], h829⟩
theorem m418_run : ranTo (evCall (cxX Tryz.prog bad [] [] [(172, isFn 325)]) 1000 60 10 m418.args m418.h) m418.v m418.h' = true := by kernel_rfl
theorem m418_ok {σ : Nat → Int} {W0 : World} (hL : L0 W0) : MemoOk Tryz.prog 1023 σ W0 10 m418 := memo_ok fit (Known2.nil σ) (FnsOk.cons (ext_is hL) (FnsOk.nil)) m418_run
theorem run11 : lawF Tryz.prog bad [] ((6, numExtE [(0, 30, .var 2), (1, 40, .var 3)]) :: (9, frameFn [m5]) :: (10, frameFn [m45, m84, m122, m159, m195, m230, m264, m297, m329, m360, m390, m391, m392, m393, m394, m395, m396, m397, m398, m399, m400, m401, m402, m403, m404, m405, m406, m407, m408, m409, m410, m411, m412, m413, m414, m415, m416, m417, m418]) :: q0) 1000 60 4 [.int .i64 (.var 0), .int .i64 (.var 1)] [((-9223372036854775808), 9223372036854775807), ((-9223372036854775808), 9223372036854775807), (11, 11), (0, 39)] (peels 39 3) (sentH 325 10 errTab) = true := by kernel_rfl
theorem case11 {σ : Nat → Int} {W : World} (hL : L0 W) (hk : Known2 σ [((-9223372036854775808), 9223372036854775807), ((-9223372036854775808), 9223372036854775807), (11, 11), (0, 39)] []) (hT : TabOk Tryz.prog bad 6 σ [(0, 30, .var 2), (1, 40, .var 3)]) {xs : Array Value} (hv : ∀ ρ, VRs σ ρ [.int .i64 (.var 0), .int .i64 (.var 1)] xs.toList) : Calls Tryz.prog 4 xs W fun e w' => e = .returned (.bool true) ∧ Below W.heap.size W w' := by
  obtain ⟨ads, h1, h2, h3⟩ := errs_sents hL
  exact law_case_f fit h1 h2 h3 errs_all errs_lt (by kernel_rfl) hk (FnsOk.cons (hT.ok fit) (FnsOk.cons (frame_fn_ok (all_cons (m5_ok hL (hk.relax (r' := [((-9223372036854775808), 9223372036854775807), ((-9223372036854775808), 9223372036854775807), (0, 29), (0, 39)]) (by kernel_rfl))) (all_nil))) (FnsOk.cons (frame_fn_ok (all_cons (m45_ok hL (hk.relax (r' := [((-9223372036854775808), 9223372036854775807), ((-9223372036854775808), 9223372036854775807), (1, 29), (0, 39)]) (by kernel_rfl))) (all_cons (m84_ok hL (hk.relax (r' := [((-9223372036854775808), 9223372036854775807), ((-9223372036854775808), 9223372036854775807), (2, 29), (0, 39)]) (by kernel_rfl))) (all_cons (m122_ok hL (hk.relax (r' := [((-9223372036854775808), 9223372036854775807), ((-9223372036854775808), 9223372036854775807), (3, 29), (0, 39)]) (by kernel_rfl))) (all_cons (m159_ok hL (hk.relax (r' := [((-9223372036854775808), 9223372036854775807), ((-9223372036854775808), 9223372036854775807), (4, 29), (0, 39)]) (by kernel_rfl))) (all_cons (m195_ok hL (hk.relax (r' := [((-9223372036854775808), 9223372036854775807), ((-9223372036854775808), 9223372036854775807), (5, 29), (0, 39)]) (by kernel_rfl))) (all_cons (m230_ok hL (hk.relax (r' := [((-9223372036854775808), 9223372036854775807), ((-9223372036854775808), 9223372036854775807), (6, 29), (0, 39)]) (by kernel_rfl))) (all_cons (m264_ok hL (hk.relax (r' := [((-9223372036854775808), 9223372036854775807), ((-9223372036854775808), 9223372036854775807), (7, 29), (0, 39)]) (by kernel_rfl))) (all_cons (m297_ok hL (hk.relax (r' := [((-9223372036854775808), 9223372036854775807), ((-9223372036854775808), 9223372036854775807), (8, 29), (0, 39)]) (by kernel_rfl))) (all_cons (m329_ok hL (hk.relax (r' := [((-9223372036854775808), 9223372036854775807), ((-9223372036854775808), 9223372036854775807), (9, 29), (0, 39)]) (by kernel_rfl))) (all_cons (m360_ok hL (hk.relax (r' := [((-9223372036854775808), 9223372036854775807), ((-9223372036854775808), 9223372036854775807), (10, 29), (0, 39)]) (by kernel_rfl))) (all_cons (m390_ok hL (hk.relax (r' := [((-9223372036854775808), 9223372036854775807), ((-9223372036854775808), 9223372036854775807), (11, 29), (0, 39)]) (by kernel_rfl))) (all_cons (m391_ok hL hk) (all_cons (m392_ok hL) (all_cons (m393_ok hL) (all_cons (m394_ok hL) (all_cons (m395_ok hL) (all_cons (m396_ok hL) (all_cons (m397_ok hL) (all_cons (m398_ok hL) (all_cons (m399_ok hL) (all_cons (m400_ok hL) (all_cons (m401_ok hL) (all_cons (m402_ok hL) (all_cons (m403_ok hL) (all_cons (m404_ok hL) (all_cons (m405_ok hL) (all_cons (m406_ok hL) (all_cons (m407_ok hL) (all_cons (m408_ok hL) (all_cons (m409_ok hL) (all_cons (m410_ok hL) (all_cons (m411_ok hL) (all_cons (m412_ok hL) (all_cons (m413_ok hL) (all_cons (m414_ok hL) (all_cons (m415_ok hL) (all_cons (m416_ok hL) (all_cons (m417_ok hL) (all_cons (m418_ok hL) (all_nil))))))))))))))))))))))))))))))))))))))))) ((q0_ok hL))))) hv run11
noncomputable def h830 : H := hUpc h790 2450 [] [(34, .cells 107 ((rp 8 (U 0) ((U 1) :: (I 3) :: rp 5 (I 0) ((U 0) :: rp 4 (I 0) ((U 0) :: rp 4 (I 0) ((U 0) :: rp 4 (I 0) ((U 0) :: rp 4 (I 0) ((U 0) :: rp 4 (I 0) ((U 0) :: rp 4 (I 0) ((U 0) :: rp 4 (I 0) ((U 0) :: rp 4 (I 0) ((U 0) :: rp 4 (I 0) ((U 0) :: rp 4 (I 0) ((U 0) :: rp 4 (I 0) ((U 0) :: rp 4 (I 0) ((U 0) :: rp 4 (I 0) ((U 0) :: rp 4 (I 0) ((U 0) :: rp 4 (I 0) ((U 0) :: (I 3) :: (I 0) :: (I 0) :: (I 0) :: (U 0) :: (I 7) :: (I 0) :: (I 0) :: (I 0) :: (U 0) :: rp 4 (I 0) ([U 0, I 0]))))))))))))))))))) :: rp 5 (rp 9 (U 0) (rp 6 (I 0) ((U 0) :: rp 4 (I 0) ((U 0) :: rp 4 (I 0) ((U 0) :: rp 4 (I 0) ((U 0) :: rp 4 (I 0) ((U 0) :: rp 4 (I 0) ((U 0) :: rp 4 (I 0) ((U 0) :: rp 4 (I 0) ((U 0) :: rp 4 (I 0) ((U 0) :: rp 4 (I 0) ((U 0) :: rp 4 (I 0) ((U 0) :: rp 4 (I 0) ((U 0) :: rp 4 (I 0) ((U 0) :: rp 4 (I 0) ((U 0) :: rp 4 (I 0) ((U 0) :: rp 4 (I 0) ((U 0) :: rp 4 (I 0) ((U 0) :: rp 4 (I 0) ((U 0) :: rp 4 (I 0) ([U 0, I 0]))))))))))))))))))))) ([])) false),
  (56, .cells 2 ([IZ (-1), .int .i64 (.sub (.var 2) (.lit 11))] :: rp 7 ([I 0, I 0]) ([])) false),
  (27, .cells 32 (((U 201326592) :: (U 67108864) :: rp 30 (U 0) ([])) :: rp 11 (rp 32 (U 0) ([])) ([])) false)] [(67, 0, [.slice 365 0 1 1 1 false])] [(68, 0, 8, I 11)]
noncomputable def h831 : H := hUpc h830 2619 [] [] [(30, 0, [I 16, .slice 663 0 1 1 10 false, I 11]),
  (56, 0, [IZ (-1), .int .i64 (.sub (.var 2) (.lit 12))])] [(34, 0, 8, U 0), (68, 0, 8, I 12)]
noncomputable def m419 : Memo := ⟨[.ptr 68 0, I 11], h830, .agg [I 0, I 1, I 0, U 0, I 0, U 0, IZ (-1), I 0], h831⟩
theorem m419_run : ranTo (evCall (cxX Tryz.prog bad [((-9223372036854775808), 9223372036854775807), ((-9223372036854775808), 9223372036854775807), (12, 29), (0, 39)] [] [(51, pureFn [p4, p2, p3]), (172, isFn 325)]) 1000 60 10 m419.args m419.h) m419.v m419.h' = true := by kernel_rfl
theorem m419_ok {σ : Nat → Int} {W0 : World} (hL : L0 W0) (hk : Known2 σ [((-9223372036854775808), 9223372036854775807), ((-9223372036854775808), 9223372036854775807), (12, 29), (0, 39)] []) : MemoOk Tryz.prog 1023 σ W0 10 m419 := memo_ok fit hk (FnsOk.cons (pure_fn_ok (all_cons (p4_ok hL) (all_cons (p2_ok hL) (all_cons (p3_ok hL) (all_nil))))) (FnsOk.cons (ext_is hL) (FnsOk.nil))) m419_run
noncomputable def h832 : H := hUpd h831 2620 [27] [] []
noncomputable def h833 : H := hUpc h832 2738 [] [] [(67, 0, [.slice 365 0 0 1 1 false])] [(34, 0, 9, I 4), (34, 0, 10, I 6), (68, 0, 8, I 13)]
noncomputable def m420 : Memo := ⟨[.ptr 68 0, I 12], h832, .agg [I 0, I 5, I 0, U 0, I 0, U 0, IZ (-1), I 6], h833⟩
theorem m420_run : ranTo (evCall (cxX Tryz.prog bad [((-9223372036854775808), 9223372036854775807), ((-9223372036854775808), 9223372036854775807), (12, 12), (0, 39)] [] [(51, pureFn [p4, p2, p3]), (172, isFn 325)]) 1000 60 10 m420.args m420.h) m420.v m420.h' = true := by kernel_rfl
theorem m420_ok {σ : Nat → Int} {W0 : World} (hL : L0 W0) (hk : Known2 σ [((-9223372036854775808), 9223372036854775807), ((-9223372036854775808), 9223372036854775807), (12, 12), (0, 39)] []) : MemoOk Tryz.prog 1023 σ W0 10 m420 := memo_ok fit hk (FnsOk.cons (pure_fn_ok (all_cons (p4_ok hL) (all_cons (p2_ok hL) (all_cons (p3_ok hL) (all_nil))))) (FnsOk.cons (ext_is hL) (FnsOk.nil))) m420_run
noncomputable def h834 : H := hUpd h833 2739 [34, 56] [] []
noncomputable def h835 : H := hUpc h834 2740 [] [] [] [(68, 0, 8, I 14)]
noncomputable def m421 : Memo := ⟨[.ptr 68 0, I 13], h834, .agg [IZ (-1), I 0, I 0, U 0, I 0, U 0, IZ (-1), I 0], h835⟩
theorem m421_run : ranTo (evCall (cxX Tryz.prog bad [] [] [(172, isFn 325)]) 1000 60 10 m421.args m421.h) m421.v m421.h' = true := by kernel_rfl
theorem m421_ok {σ : Nat → Int} {W0 : World} (hL : L0 W0) : MemoOk Tryz.prog 1023 σ W0 10 m421 := memo_ok fit (Known2.nil σ) (FnsOk.cons (ext_is hL) (FnsOk.nil)) m421_run
noncomputable def h836 : H := hUpd h835 2741 [] [] []
noncomputable def h837 : H := hUpc h834 2742 [] [] [] [(68, 0, 8, I 15)]
noncomputable def m422 : Memo := ⟨[.ptr 68 0, I 14], h836, .agg [IZ (-1), I 0, I 0, U 0, I 0, U 0, IZ (-1), I 0], h837⟩
theorem m422_run : ranTo (evCall (cxX Tryz.prog bad [] [] [(172, isFn 325)]) 1000 60 10 m422.args m422.h) m422.v m422.h' = true := by kernel_rfl
theorem m422_ok {σ : Nat → Int} {W0 : World} (hL : L0 W0) : MemoOk Tryz.prog 1023 σ W0 10 m422 := memo_ok fit (Known2.nil σ) (FnsOk.cons (ext_is hL) (FnsOk.nil)) m422_run
noncomputable def h838 : H := hUpd h837 2743 [] [] []
noncomputable def h839 : H := hUpc h834 2744 [] [] [] [(68, 0, 8, I 16)]
noncomputable def m423 : Memo := ⟨[.ptr 68 0, I 15], h838, .agg [IZ (-1), I 0, I 0, U 0, I 0, U 0, IZ (-1), I 0], h839⟩
theorem m423_run : ranTo (evCall (cxX Tryz.prog bad [] [] [(172, isFn 325)]) 1000 60 10 m423.args m423.h) m423.v m423.h' = true := by kernel_rfl
theorem m423_ok {σ : Nat → Int} {W0 : World} (hL : L0 W0) : MemoOk Tryz.prog 1023 σ W0 10 m423 := memo_ok fit (Known2.nil σ) (FnsOk.cons (ext_is hL) (FnsOk.nil)) m423_run
noncomputable def h840 : H := hUpd h839 2745 [] [] []
noncomputable def h841 : H := hUpc h834 2746 [] [] [] [(68, 0, 8, I 17)]
noncomputable def m424 : Memo := ⟨[.ptr 68 0, I 16], h840, .agg [IZ (-1), I 0, I 0, U 0, I 0, U 0, IZ (-1), I 0], h841⟩
theorem m424_run : ranTo (evCall (cxX Tryz.prog bad [] [] [(172, isFn 325)]) 1000 60 10 m424.args m424.h) m424.v m424.h' = true := by kernel_rfl
theorem m424_ok {σ : Nat → Int} {W0 : World} (hL : L0 W0) : MemoOk Tryz.prog 1023 σ W0 10 m424 := memo_ok fit (Known2.nil σ) (FnsOk.cons (ext_is hL) (FnsOk.nil)) m424_run
noncomputable def h842 : H := hUpd h841 2747 [] [] []
noncomputable def h843 : H := hUpc h834 2748 [] [] [] [(68, 0, 8, I 18)]
noncomputable def m425 : Memo := ⟨[.ptr 68 0, I 17], h842, .agg [IZ (-1), I 0, I 0, U 0, I 0, U 0, IZ (-1), I 0], h843⟩
theorem m425_run : ranTo (evCall (cxX Tryz.prog bad [] [] [(172, isFn 325)]) 1000 60 10 m425.args m425.h) m425.v m425.h' = true := by kernel_rfl
theorem m425_ok {σ : Nat → Int} {W0 : World} (hL : L0 W0) : MemoOk Tryz.prog 1023 σ W0 10 m425 := memo_ok fit (Known2.nil σ) (FnsOk.cons (ext_is hL) (FnsOk.nil)) m425_run
noncomputable def h844 : H := hUpd h843 2749 [] [] []
noncomputable def h845 : H := hUpc h834 2750 [] [] [] [(68, 0, 8, I 19)]
noncomputable def m426 : Memo := ⟨[.ptr 68 0, I 18], h844, .agg [IZ (-1), I 0, I 0, U 0, I 0, U 0, IZ (-1), I 0], h845⟩
theorem m426_run : ranTo (evCall (cxX Tryz.prog bad [] [] [(172, isFn 325)]) 1000 60 10 m426.args m426.h) m426.v m426.h' = true := by kernel_rfl
theorem m426_ok {σ : Nat → Int} {W0 : World} (hL : L0 W0) : MemoOk Tryz.prog 1023 σ W0 10 m426 := memo_ok fit (Known2.nil σ) (FnsOk.cons (ext_is hL) (FnsOk.nil)) m426_run
noncomputable def h846 : H := hUpd h845 2751 [] [] []
noncomputable def h847 : H := hUpc h834 2752 [] [] [] [(68, 0, 8, I 20)]
noncomputable def m427 : Memo := ⟨[.ptr 68 0, I 19], h846, .agg [IZ (-1), I 0, I 0, U 0, I 0, U 0, IZ (-1), I 0], h847⟩
theorem m427_run : ranTo (evCall (cxX Tryz.prog bad [] [] [(172, isFn 325)]) 1000 60 10 m427.args m427.h) m427.v m427.h' = true := by kernel_rfl
theorem m427_ok {σ : Nat → Int} {W0 : World} (hL : L0 W0) : MemoOk Tryz.prog 1023 σ W0 10 m427 := memo_ok fit (Known2.nil σ) (FnsOk.cons (ext_is hL) (FnsOk.nil)) m427_run
noncomputable def h848 : H := hUpd h847 2753 [] [] []
noncomputable def h849 : H := hUpc h834 2754 [] [] [] [(68, 0, 8, I 21)]
noncomputable def m428 : Memo := ⟨[.ptr 68 0, I 20], h848, .agg [IZ (-1), I 0, I 0, U 0, I 0, U 0, IZ (-1), I 0], h849⟩
theorem m428_run : ranTo (evCall (cxX Tryz.prog bad [] [] [(172, isFn 325)]) 1000 60 10 m428.args m428.h) m428.v m428.h' = true := by kernel_rfl
theorem m428_ok {σ : Nat → Int} {W0 : World} (hL : L0 W0) : MemoOk Tryz.prog 1023 σ W0 10 m428 := memo_ok fit (Known2.nil σ) (FnsOk.cons (ext_is hL) (FnsOk.nil)) m428_run
noncomputable def h850 : H := hUpd h849 2755 [] [] []
noncomputable def h851 : H := hUpc h834 2756 [] [] [] [(68, 0, 8, I 22)]
noncomputable def m429 : Memo := ⟨[.ptr 68 0, I 21], h850, .agg [IZ (-1), I 0, I 0, U 0, I 0, U 0, IZ (-1), I 0], h851⟩
theorem m429_run : ranTo (evCall (cxX Tryz.prog bad [] [] [(172, isFn 325)]) 1000 60 10 m429.args m429.h) m429.v m429.h' = true := by kernel_rfl
theorem m429_ok {σ : Nat → Int} {W0 : World} (hL : L0 W0) : MemoOk Tryz.prog 1023 σ W0 10 m429 := memo_ok fit (Known2.nil σ) (FnsOk.cons (ext_is hL) (FnsOk.nil)) m429_run
noncomputable def h852 : H := hUpd h851 2757 [] [] []
noncomputable def h853 : H := hUpc h834 2758 [] [] [] [(68, 0, 8, I 23)]
noncomputable def m430 : Memo := ⟨[.ptr 68 0, I 22], h852, .agg [IZ (-1), I 0, I 0, U 0, I 0, U 0, IZ (-1), I 0], h853⟩
theorem m430_run : ranTo (evCall (cxX Tryz.prog bad [] [] [(172, isFn 325)]) 1000 60 10 m430.args m430.h) m430.v m430.h' = true := by kernel_rfl
theorem m430_ok {σ : Nat → Int} {W0 : World} (hL : L0 W0) : MemoOk Tryz.prog 1023 σ W0 10 m430 := memo_ok fit (Known2.nil σ) (FnsOk.cons (ext_is hL) (FnsOk.nil)) m430_run
noncomputable def h854 : H := hUpd h853 2759 [] [] []
noncomputable def h855 : H := hUpc h834 2760 [] [] [] [(68, 0, 8, I 24)]
noncomputable def m431 : Memo := ⟨[.ptr 68 0, I 23], h854, .agg [IZ (-1), I 0, I 0, U 0, I 0, U 0, IZ (-1), I 0], h855⟩
theorem m431_run : ranTo (evCall (cxX Tryz.prog bad [] [] [(172, isFn 325)]) 1000 60 10 m431.args m431.h) m431.v m431.h' = true := by kernel_rfl
theorem m431_ok {σ : Nat → Int} {W0 : World} (hL : L0 W0) : MemoOk Tryz.prog 1023 σ W0 10 m431 := memo_ok fit (Known2.nil σ) (FnsOk.cons (ext_is hL) (FnsOk.nil)) m431_run
noncomputable def h856 : H := hUpd h855 2761 [] [] []
noncomputable def h857 : H := hUpc h834 2762 [] [] [] [(68, 0, 8, I 25)]
noncomputable def m432 : Memo := ⟨[.ptr 68 0, I 24], h856, .agg [IZ (-1), I 0, I 0, U 0, I 0, U 0, IZ (-1), I 0], h857⟩
theorem m432_run : ranTo (evCall (cxX Tryz.prog bad [] [] [(172, isFn 325)]) 1000 60 10 m432.args m432.h) m432.v m432.h' = true := by kernel_rfl
theorem m432_ok {σ : Nat → Int} {W0 : World} (hL : L0 W0) : MemoOk Tryz.prog 1023 σ W0 10 m432 := memo_ok fit (Known2.nil σ) (FnsOk.cons (ext_is hL) (FnsOk.nil)) m432_run
noncomputable def h858 : H := hUpd h857 2763 [] [] []
noncomputable def h859 : H := hUpc h834 2764 [] [] [] [(68, 0, 8, I 26)]
noncomputable def m433 : Memo := ⟨[.ptr 68 0, I 25], h858, .agg [IZ (-1), I 0, I 0, U 0, I 0, U 0, IZ (-1), I 0], h859⟩
theorem m433_run : ranTo (evCall (cxX Tryz.prog bad [] [] [(172, isFn 325)]) 1000 60 10 m433.args m433.h) m433.v m433.h' = true := by kernel_rfl
theorem m433_ok {σ : Nat → Int} {W0 : World} (hL : L0 W0) : MemoOk Tryz.prog 1023 σ W0 10 m433 := memo_ok fit (Known2.nil σ) (FnsOk.cons (ext_is hL) (FnsOk.nil)) m433_run
noncomputable def h860 : H := hUpd h859 2765 [] [] []
noncomputable def h861 : H := hUpc h834 2766 [] [] [] [(68, 0, 8, I 27)]
noncomputable def m434 : Memo := ⟨[.ptr 68 0, I 26], h860, .agg [IZ (-1), I 0, I 0, U 0, I 0, U 0, IZ (-1), I 0], h861⟩
theorem m434_run : ranTo (evCall (cxX Tryz.prog bad [] [] [(172, isFn 325)]) 1000 60 10 m434.args m434.h) m434.v m434.h' = true := by kernel_rfl
theorem m434_ok {σ : Nat → Int} {W0 : World} (hL : L0 W0) : MemoOk Tryz.prog 1023 σ W0 10 m434 := memo_ok fit (Known2.nil σ) (FnsOk.cons (ext_is hL) (FnsOk.nil)) m434_run
noncomputable def h862 : H := hUpd h861 2767 [] [] []
noncomputable def h863 : H := hUpc h834 2768 [] [] [] [(68, 0, 8, I 28)]
noncomputable def m435 : Memo := ⟨[.ptr 68 0, I 27], h862, .agg [IZ (-1), I 0, I 0, U 0, I 0, U 0, IZ (-1), I 0], h863⟩
theorem m435_run : ranTo (evCall (cxX Tryz.prog bad [] [] [(172, isFn 325)]) 1000 60 10 m435.args m435.h) m435.v m435.h' = true := by kernel_rfl
theorem m435_ok {σ : Nat → Int} {W0 : World} (hL : L0 W0) : MemoOk Tryz.prog 1023 σ W0 10 m435 := memo_ok fit (Known2.nil σ) (FnsOk.cons (ext_is hL) (FnsOk.nil)) m435_run
noncomputable def h864 : H := hUpd h863 2769 [] [] []
noncomputable def h865 : H := hUpc h834 2770 [] [] [] [(68, 0, 8, I 29)]
noncomputable def m436 : Memo := ⟨[.ptr 68 0, I 28], h864, .agg [IZ (-1), I 0, I 0, U 0, I 0, U 0, IZ (-1), I 0], h865⟩
theorem m436_run : ranTo (evCall (cxX Tryz.prog bad [] [] [(172, isFn 325)]) 1000 60 10 m436.args m436.h) m436.v m436.h' = true := by kernel_rfl
theorem m436_ok {σ : Nat → Int} {W0 : World} (hL : L0 W0) : MemoOk Tryz.prog 1023 σ W0 10 m436 := memo_ok fit (Known2.nil σ) (FnsOk.cons (ext_is hL) (FnsOk.nil)) m436_run
noncomputable def h866 : H := hUpd h865 2771 [] [] []
noncomputable def h867 : H := hUpc h834 2772 [] [] [] [(68, 0, 8, I 30)]
noncomputable def m437 : Memo := ⟨[.ptr 68 0, I 29], h866, .agg [IZ (-1), I 0, I 0, U 0, I 0, U 0, IZ (-1), I 0], h867⟩
theorem m437_run : ranTo (evCall (cxX Tryz.prog bad [] [] [(172, isFn 325)]) 1000 60 10 m437.args m437.h) m437.v m437.h' = true := by kernel_rfl
theorem m437_ok {σ : Nat → Int} {W0 : World} (hL : L0 W0) : MemoOk Tryz.prog 1023 σ W0 10 m437 := memo_ok fit (Known2.nil σ) (FnsOk.cons (ext_is hL) (FnsOk.nil)) m437_run
noncomputable def h868 : H := hUpd h867 2773 [] [] []
noncomputable def h869 : H := hUpc h834 2774 [] [] [] [(68, 0, 8, I 31)]
noncomputable def m438 : Memo := ⟨[.ptr 68 0, I 30], h868, .agg [IZ (-1), I 0, I 0, U 0, I 0, U 0, IZ (-1), I 0], h869⟩
theorem m438_run : ranTo (evCall (cxX Tryz.prog bad [] [] [(172, isFn 325)]) 1000 60 10 m438.args m438.h) m438.v m438.h' = true := by kernel_rfl
theorem m438_ok {σ : Nat → Int} {W0 : World} (hL : L0 W0) : MemoOk Tryz.prog 1023 σ W0 10 m438 := memo_ok fit (Known2.nil σ) (FnsOk.cons (ext_is hL) (FnsOk.nil)) m438_run
noncomputable def h870 : H := hUpd h869 2775 [] [] []
noncomputable def h871 : H := hUpc h834 2776 [] [] [] [(68, 0, 8, I 32)]
noncomputable def m439 : Memo := ⟨[.ptr 68 0, I 31], h870, .agg [IZ (-1), I 0, I 0, U 0, I 0, U 0, IZ (-1), I 0], h871⟩
theorem m439_run : ranTo (evCall (cxX Tryz.prog bad [] [] [(172, isFn 325)]) 1000 60 10 m439.args m439.h) m439.v m439.h' = true := by kernel_rfl
theorem m439_ok {σ : Nat → Int} {W0 : World} (hL : L0 W0) : MemoOk Tryz.prog 1023 σ W0 10 m439 := memo_ok fit (Known2.nil σ) (FnsOk.cons (ext_is hL) (FnsOk.nil)) m439_run
noncomputable def h872 : H := hUpd h871 2777 [] [] []
noncomputable def h873 : H := hUpc h834 2778 [] [] [] [(68, 0, 8, I 33)]
noncomputable def m440 : Memo := ⟨[.ptr 68 0, I 32], h872, .agg [IZ (-1), I 0, I 0, U 0, I 0, U 0, IZ (-1), I 0], h873⟩
theorem m440_run : ranTo (evCall (cxX Tryz.prog bad [] [] [(172, isFn 325)]) 1000 60 10 m440.args m440.h) m440.v m440.h' = true := by kernel_rfl
theorem m440_ok {σ : Nat → Int} {W0 : World} (hL : L0 W0) : MemoOk Tryz.prog 1023 σ W0 10 m440 := memo_ok fit (Known2.nil σ) (FnsOk.cons (ext_is hL) (FnsOk.nil)) m440_run
noncomputable def h874 : H := hUpd h873 2779 [] [] []
noncomputable def h875 : H := hUpc h835 2780 [] [] [] [(68, 0, 8, I 34)]
noncomputable def m441 : Memo := ⟨[.ptr 68 0, I 33], h874, .agg [IZ (-1), I 0, I 0, U 0, I 0, U 0, IZ (-1), I 0], h875⟩
theorem m441_run : ranTo (evCall (cxX Tryz.prog bad [] [] [(172, isFn 325)]) 1000 60 10 m441.args m441.h) m441.v m441.h' = true := by kernel_rfl
theorem m441_ok {σ : Nat → Int} {W0 : World} (hL : L0 W0) : MemoOk Tryz.prog 1023 σ W0 10 m441 := memo_ok fit (Known2.nil σ) (FnsOk.cons (ext_is hL) (FnsOk.nil)) m441_run
noncomputable def h876 : H := hUpd h875 2781 [] [] []
noncomputable def h877 : H := hUpc h837 2782 [] [] [] [(68, 0, 8, I 35)]
noncomputable def m442 : Memo := ⟨[.ptr 68 0, I 34], h876, .agg [IZ (-1), I 0, I 0, U 0, I 0, U 0, IZ (-1), I 0], h877⟩
theorem m442_run : ranTo (evCall (cxX Tryz.prog bad [] [] [(172, isFn 325)]) 1000 60 10 m442.args m442.h) m442.v m442.h' = true := by kernel_rfl
theorem m442_ok {σ : Nat → Int} {W0 : World} (hL : L0 W0) : MemoOk Tryz.prog 1023 σ W0 10 m442 := memo_ok fit (Known2.nil σ) (FnsOk.cons (ext_is hL) (FnsOk.nil)) m442_run
noncomputable def h878 : H := hUpd h877 2783 [] [] []
noncomputable def h879 : H := hUpc h839 2784 [] [] [] [(68, 0, 8, I 36)]
noncomputable def m443 : Memo := ⟨[.ptr 68 0, I 35], h878, .agg [IZ (-1), I 0, I 0, U 0, I 0, U 0, IZ (-1), I 0], h879⟩
theorem m443_run : ranTo (evCall (cxX Tryz.prog bad [] [] [(172, isFn 325)]) 1000 60 10 m443.args m443.h) m443.v m443.h' = true := by kernel_rfl
theorem m443_ok {σ : Nat → Int} {W0 : World} (hL : L0 W0) : MemoOk Tryz.prog 1023 σ W0 10 m443 := memo_ok fit (Known2.nil σ) (FnsOk.cons (ext_is hL) (FnsOk.nil)) m443_run
noncomputable def h880 : H := hUpd h879 2785 [] [] []
noncomputable def h881 : H := hUpc h841 2786 [] [] [] [(68, 0, 8, I 37)]
noncomputable def m444 : Memo := ⟨[.ptr 68 0, I 36], h880, .agg [IZ (-1), I 0, I 0, U 0, I 0, U 0, IZ (-1), I 0], h881⟩
theorem m444_run : ranTo (evCall (cxX Tryz.prog bad [] [] [(172, isFn 325)]) 1000 60 10 m444.args m444.h) m444.v m444.h' = true := by kernel_rfl
theorem m444_ok {σ : Nat → Int} {W0 : World} (hL : L0 W0) : MemoOk Tryz.prog 1023 σ W0 10 m444 := memo_ok fit (Known2.nil σ) (FnsOk.cons (ext_is hL) (FnsOk.nil)) m444_run
noncomputable def h882 : H := hUpd h881 2787 [] [] []
noncomputable def h883 : H := hUpc h843 2788 [] [] [] [(68, 0, 8, I 38)]
noncomputable def m445 : Memo := ⟨[.ptr 68 0, I 37], h882, .agg [IZ (-1), I 0, I 0, U 0, I 0, U 0, IZ (-1), I 0], h883⟩
theorem m445_run : ranTo (evCall (cxX Tryz.prog bad [] [] [(172, isFn 325)]) 1000 60 10 m445.args m445.h) m445.v m445.h' = true := by kernel_rfl
theorem m445_ok {σ : Nat → Int} {W0 : World} (hL : L0 W0) : MemoOk Tryz.prog 1023 σ W0 10 m445 := memo_ok fit (Known2.nil σ) (FnsOk.cons (ext_is hL) (FnsOk.nil)) m445_run
noncomputable def h884 : H := hUpd h883 2789 [] [] []
noncomputable def h885 : H := hUpc h845 2790 [] [] [] [(68, 0, 8, I 39)]
noncomputable def m446 : Memo := ⟨[.ptr 68 0, I 38], h884, .agg [IZ (-1), I 0, I 0, U 0, I 0, U 0, IZ (-1), I 0], h885⟩
theorem m446_run : ranTo (evCall (cxX Tryz.prog bad [] [] [(172, isFn 325)]) 1000 60 10 m446.args m446.h) m446.v m446.h' = true := by kernel_rfl
theorem m446_ok {σ : Nat → Int} {W0 : World} (hL : L0 W0) : MemoOk Tryz.prog 1023 σ W0 10 m446 := memo_ok fit (Known2.nil σ) (FnsOk.cons (ext_is hL) (FnsOk.nil)) m446_run
theorem run12 : lawF Tryz.prog bad [] ((6, numExtE [(0, 30, .var 2), (1, 40, .var 3)]) :: (9, frameFn [m5]) :: (10, frameFn [m45, m84, m122, m159, m195, m230, m264, m297, m329, m360, m390, m419, m420, m421, m422, m423, m424, m425, m426, m427, m428, m429, m430, m431, m432, m433, m434, m435, m436, m437, m438, m439, m440, m441, m442, m443, m444, m445, m446]) :: q0) 1000 60 4 [.int .i64 (.var 0), .int .i64 (.var 1)] [((-9223372036854775808), 9223372036854775807), ((-9223372036854775808), 9223372036854775807), (12, 12), (0, 39)] (peels 39 3) (sentH 325 10 errTab) = true := by kernel_rfl
theorem case12 {σ : Nat → Int} {W : World} (hL : L0 W) (hk : Known2 σ [((-9223372036854775808), 9223372036854775807), ((-9223372036854775808), 9223372036854775807), (12, 12), (0, 39)] []) (hT : TabOk Tryz.prog bad 6 σ [(0, 30, .var 2), (1, 40, .var 3)]) {xs : Array Value} (hv : ∀ ρ, VRs σ ρ [.int .i64 (.var 0), .int .i64 (.var 1)] xs.toList) : Calls Tryz.prog 4 xs W fun e w' => e = .returned (.bool true) ∧ Below W.heap.size W w' := by
  obtain ⟨ads, h1, h2, h3⟩ := errs_sents hL
  exact law_case_f fit h1 h2 h3 errs_all errs_lt (by kernel_rfl) hk (FnsOk.cons (hT.ok fit) (FnsOk.cons (frame_fn_ok (all_cons (m5_ok hL (hk.relax (r' := [((-9223372036854775808), 9223372036854775807), ((-9223372036854775808), 9223372036854775807), (0, 29), (0, 39)]) (by kernel_rfl))) (all_nil))) (FnsOk.cons (frame_fn_ok (all_cons (m45_ok hL (hk.relax (r' := [((-9223372036854775808), 9223372036854775807), ((-9223372036854775808), 9223372036854775807), (1, 29), (0, 39)]) (by kernel_rfl))) (all_cons (m84_ok hL (hk.relax (r' := [((-9223372036854775808), 9223372036854775807), ((-9223372036854775808), 9223372036854775807), (2, 29), (0, 39)]) (by kernel_rfl))) (all_cons (m122_ok hL (hk.relax (r' := [((-9223372036854775808), 9223372036854775807), ((-9223372036854775808), 9223372036854775807), (3, 29), (0, 39)]) (by kernel_rfl))) (all_cons (m159_ok hL (hk.relax (r' := [((-9223372036854775808), 9223372036854775807), ((-9223372036854775808), 9223372036854775807), (4, 29), (0, 39)]) (by kernel_rfl))) (all_cons (m195_ok hL (hk.relax (r' := [((-9223372036854775808), 9223372036854775807), ((-9223372036854775808), 9223372036854775807), (5, 29), (0, 39)]) (by kernel_rfl))) (all_cons (m230_ok hL (hk.relax (r' := [((-9223372036854775808), 9223372036854775807), ((-9223372036854775808), 9223372036854775807), (6, 29), (0, 39)]) (by kernel_rfl))) (all_cons (m264_ok hL (hk.relax (r' := [((-9223372036854775808), 9223372036854775807), ((-9223372036854775808), 9223372036854775807), (7, 29), (0, 39)]) (by kernel_rfl))) (all_cons (m297_ok hL (hk.relax (r' := [((-9223372036854775808), 9223372036854775807), ((-9223372036854775808), 9223372036854775807), (8, 29), (0, 39)]) (by kernel_rfl))) (all_cons (m329_ok hL (hk.relax (r' := [((-9223372036854775808), 9223372036854775807), ((-9223372036854775808), 9223372036854775807), (9, 29), (0, 39)]) (by kernel_rfl))) (all_cons (m360_ok hL (hk.relax (r' := [((-9223372036854775808), 9223372036854775807), ((-9223372036854775808), 9223372036854775807), (10, 29), (0, 39)]) (by kernel_rfl))) (all_cons (m390_ok hL (hk.relax (r' := [((-9223372036854775808), 9223372036854775807), ((-9223372036854775808), 9223372036854775807), (11, 29), (0, 39)]) (by kernel_rfl))) (all_cons (m419_ok hL (hk.relax (r' := [((-9223372036854775808), 9223372036854775807), ((-9223372036854775808), 9223372036854775807), (12, 29), (0, 39)]) (by kernel_rfl))) (all_cons (m420_ok hL hk) (all_cons (m421_ok hL) (all_cons (m422_ok hL) (all_cons (m423_ok hL) (all_cons (m424_ok hL) (all_cons (m425_ok hL) (all_cons (m426_ok hL) (all_cons (m427_ok hL) (all_cons (m428_ok hL) (all_cons (m429_ok hL) (all_cons (m430_ok hL) (all_cons (m431_ok hL) (all_cons (m432_ok hL) (all_cons (m433_ok hL) (all_cons (m434_ok hL) (all_cons (m435_ok hL) (all_cons (m436_ok hL) (all_cons (m437_ok hL) (all_cons (m438_ok hL) (all_cons (m439_ok hL) (all_cons (m440_ok hL) (all_cons (m441_ok hL) (all_cons (m442_ok hL) (all_cons (m443_ok hL) (all_cons (m444_ok hL) (all_cons (m445_ok hL) (all_cons (m446_ok hL) (all_nil))))))))))))))))))))))))))))))))))))))))) ((q0_ok hL))))) hv run12
noncomputable def h886 : H := hUpc h846 2620 [] [(34, .cells 107 ((rp 9 (U 0) ((I 3) :: rp 5 (I 0) ((U 0) :: rp 4 (I 0) ((U 0) :: rp 4 (I 0) ((U 0) :: rp 4 (I 0) ((U 0) :: rp 4 (I 0) ((U 0) :: rp 4 (I 0) ((U 0) :: rp 4 (I 0) ((U 0) :: rp 4 (I 0) ((U 0) :: rp 4 (I 0) ((U 0) :: rp 4 (I 0) ((U 0) :: rp 4 (I 0) ((U 0) :: rp 4 (I 0) ((U 0) :: rp 4 (I 0) ((U 0) :: rp 4 (I 0) ((U 0) :: rp 4 (I 0) ((U 0) :: rp 4 (I 0) ((U 0) :: (I 3) :: (I 0) :: (I 0) :: (I 0) :: (U 0) :: (I 7) :: (I 0) :: (I 0) :: (I 0) :: (U 0) :: rp 4 (I 0) ([U 0, I 0]))))))))))))))))))) :: rp 5 (rp 9 (U 0) (rp 6 (I 0) ((U 0) :: rp 4 (I 0) ((U 0) :: rp 4 (I 0) ((U 0) :: rp 4 (I 0) ((U 0) :: rp 4 (I 0) ((U 0) :: rp 4 (I 0) ((U 0) :: rp 4 (I 0) ((U 0) :: rp 4 (I 0) ((U 0) :: rp 4 (I 0) ((U 0) :: rp 4 (I 0) ((U 0) :: rp 4 (I 0) ((U 0) :: rp 4 (I 0) ((U 0) :: rp 4 (I 0) ((U 0) :: rp 4 (I 0) ((U 0) :: rp 4 (I 0) ((U 0) :: rp 4 (I 0) ((U 0) :: rp 4 (I 0) ((U 0) :: rp 4 (I 0) ((U 0) :: rp 4 (I 0) ([U 0, I 0]))))))))))))))))))))) ([])) false),
  (56, .cells 2 ([IZ (-1), .int .i64 (.sub (.var 2) (.lit 12))] :: rp 7 ([I 0, I 0]) ([])) false),
  (27, .cells 32 (((U 201326592) :: (U 67108864) :: rp 30 (U 0) ([])) :: rp 11 (rp 32 (U 0) ([])) ([])) false)] [(67, 0, [.slice 365 0 1 1 1 false])] [(68, 0, 8, I 12)]
noncomputable def h887 : H := hUpc h886 2789 [] [] [(30, 0, [I 16, .slice 663 0 1 1 10 false, I 12]),
  (56, 0, [IZ (-1), .int .i64 (.sub (.var 2) (.lit 13))])] [(34, 0, 8, U 1), (68, 0, 8, I 13)]
noncomputable def m447 : Memo := ⟨[.ptr 68 0, I 12], h886, .agg [I 0, I 3, I 0, U 0, I 0, U 0, IZ (-1), I 0], h887⟩
theorem m447_run : ranTo (evCall (cxX Tryz.prog bad [((-9223372036854775808), 9223372036854775807), ((-9223372036854775808), 9223372036854775807), (13, 29), (0, 39)] [] [(51, pureFn [p4, p2, p3]), (172, isFn 325)]) 1000 60 10 m447.args m447.h) m447.v m447.h' = true := by kernel_rfl
theorem m447_ok {σ : Nat → Int} {W0 : World} (hL : L0 W0) (hk : Known2 σ [((-9223372036854775808), 9223372036854775807), ((-9223372036854775808), 9223372036854775807), (13, 29), (0, 39)] []) : MemoOk Tryz.prog 1023 σ W0 10 m447 := memo_ok fit hk (FnsOk.cons (pure_fn_ok (all_cons (p4_ok hL) (all_cons (p2_ok hL) (all_cons (p3_ok hL) (all_nil))))) (FnsOk.cons (ext_is hL) (FnsOk.nil))) m447_run
noncomputable def h888 : H := hUpd h887 2790 [27] [] []
noncomputable def h889 : H := hUpc h888 2908 [] [] [(67, 0, [.slice 365 0 0 1 1 false])] [(34, 0, 9, I 4), (34, 0, 10, I 6), (68, 0, 8, I 14)]
noncomputable def m448 : Memo := ⟨[.ptr 68 0, I 13], h888, .agg [I 0, I 5, I 0, U 0, I 0, U 0, IZ (-1), I 6], h889⟩
theorem m448_run : ranTo (evCall (cxX Tryz.prog bad [((-9223372036854775808), 9223372036854775807), ((-9223372036854775808), 9223372036854775807), (13, 13), (0, 39)] [] [(51, pureFn [p4, p2, p3]), (172, isFn 325)]) 1000 60 10 m448.args m448.h) m448.v m448.h' = true := by kernel_rfl
theorem m448_ok {σ : Nat → Int} {W0 : World} (hL : L0 W0) (hk : Known2 σ [((-9223372036854775808), 9223372036854775807), ((-9223372036854775808), 9223372036854775807), (13, 13), (0, 39)] []) : MemoOk Tryz.prog 1023 σ W0 10 m448 := memo_ok fit hk (FnsOk.cons (pure_fn_ok (all_cons (p4_ok hL) (all_cons (p2_ok hL) (all_cons (p3_ok hL) (all_nil))))) (FnsOk.cons (ext_is hL) (FnsOk.nil))) m448_run
noncomputable def h890 : H := hUpd h889 2909 [34, 56] [] []
noncomputable def h891 : H := hUpc h890 2910 [] [] [] [(68, 0, 8, I 15)]
noncomputable def m449 : Memo := ⟨[.ptr 68 0, I 14], h890, .agg [IZ (-1), I 0, I 0, U 0, I 0, U 0, IZ (-1), I 0], h891⟩
theorem m449_run : ranTo (evCall (cxX Tryz.prog bad [] [] [(172, isFn 325)]) 1000 60 10 m449.args m449.h) m449.v m449.h' = true := by kernel_rfl
theorem m449_ok {σ : Nat → Int} {W0 : World} (hL : L0 W0) : MemoOk Tryz.prog 1023 σ W0 10 m449 := memo_ok fit (Known2.nil σ) (FnsOk.cons (ext_is hL) (FnsOk.nil)) m449_run
noncomputable def h892 : H := hUpd h891 2911 [] [] []
noncomputable def h893 : H := hUpc h890 2912 [] [] [] [(68, 0, 8, I 16)]
noncomputable def m450 : Memo := ⟨[.ptr 68 0, I 15], h892, .agg [IZ (-1), I 0, I 0, U 0, I 0, U 0, IZ (-1), I 0], h893⟩
theorem m450_run : ranTo (evCall (cxX Tryz.prog bad [] [] [(172, isFn 325)]) 1000 60 10 m450.args m450.h) m450.v m450.h' = true := by kernel_rfl
theorem m450_ok {σ : Nat → Int} {W0 : World} (hL : L0 W0) : MemoOk Tryz.prog 1023 σ W0 10 m450 := memo_ok fit (Known2.nil σ) (FnsOk.cons (ext_is hL) (FnsOk.nil)) m450_run
noncomputable def h894 : H := hUpd h893 2913 [] [] []
noncomputable def h895 : H := hUpc h890 2914 [] [] [] [(68, 0, 8, I 17)]
noncomputable def m451 : Memo := ⟨[.ptr 68 0, I 16], h894, .agg [IZ (-1), I 0, I 0, U 0, I 0, U 0, IZ (-1), I 0], h895⟩
theorem m451_run : ranTo (evCall (cxX Tryz.prog bad [] [] [(172, isFn 325)]) 1000 60 10 m451.args m451.h) m451.v m451.h' = true := by kernel_rfl
theorem m451_ok {σ : Nat → Int} {W0 : World} (hL : L0 W0) : MemoOk Tryz.prog 1023 σ W0 10 m451 := memo_ok fit (Known2.nil σ) (FnsOk.cons (ext_is hL) (FnsOk.nil)) m451_run
noncomputable def h896 : H := hUpd h895 2915 [] [] []
noncomputable def h897 : H := hUpc h890 2916 [] [] [] [(68, 0, 8, I 18)]
noncomputable def m452 : Memo := ⟨[.ptr 68 0, I 17], h896, .agg [IZ (-1), I 0, I 0, U 0, I 0, U 0, IZ (-1), I 0], h897⟩
theorem m452_run : ranTo (evCall (cxX Tryz.prog bad [] [] [(172, isFn 325)]) 1000 60 10 m452.args m452.h) m452.v m452.h' = true := by kernel_rfl
theorem m452_ok {σ : Nat → Int} {W0 : World} (hL : L0 W0) : MemoOk Tryz.prog 1023 σ W0 10 m452 := memo_ok fit (Known2.nil σ) (FnsOk.cons (ext_is hL) (FnsOk.nil)) m452_run
noncomputable def h898 : H := hUpd h897 2917 [] [] []
noncomputable def h899 : H := hUpc h890 2918 [] [] [] [(68, 0, 8, I 19)]
noncomputable def m453 : Memo := ⟨[.ptr 68 0, I 18], h898, .agg [IZ (-1), I 0, I 0, U 0, I 0, U 0, IZ (-1), I 0], h899⟩
theorem m453_run : ranTo (evCall (cxX Tryz.prog bad [] [] [(172, isFn 325)]) 1000 60 10 m453.args m453.h) m453.v m453.h' = true := by kernel_rfl
theorem m453_ok {σ : Nat → Int} {W0 : World} (hL : L0 W0) : MemoOk Tryz.prog 1023 σ W0 10 m453 := memo_ok fit (Known2.nil σ) (FnsOk.cons (ext_is hL) (FnsOk.nil)) m453_run
noncomputable def h900 : H := hUpd h899 2919 [] [] []
noncomputable def h901 : H := hUpc h890 2920 [] [] [] [(68, 0, 8, I 20)]
noncomputable def m454 : Memo := ⟨[.ptr 68 0, I 19], h900, .agg [IZ (-1), I 0, I 0, U 0, I 0, U 0, IZ (-1), I 0], h901⟩
theorem m454_run : ranTo (evCall (cxX Tryz.prog bad [] [] [(172, isFn 325)]) 1000 60 10 m454.args m454.h) m454.v m454.h' = true := by kernel_rfl
theorem m454_ok {σ : Nat → Int} {W0 : World} (hL : L0 W0) : MemoOk Tryz.prog 1023 σ W0 10 m454 := memo_ok fit (Known2.nil σ) (FnsOk.cons (ext_is hL) (FnsOk.nil)) m454_run
noncomputable def h902 : H := hUpd h901 2921 [] [] []
noncomputable def h903 : H := hUpc h890 2922 [] [] [] [(68, 0, 8, I 21)]
noncomputable def m455 : Memo := ⟨[.ptr 68 0, I 20], h902, .agg [IZ (-1), I 0, I 0, U 0, I 0, U 0, IZ (-1), I 0], h903⟩
theorem m455_run : ranTo (evCall (cxX Tryz.prog bad [] [] [(172, isFn 325)]) 1000 60 10 m455.args m455.h) m455.v m455.h' = true := by kernel_rfl
theorem m455_ok {σ : Nat → Int} {W0 : World} (hL : L0 W0) : MemoOk Tryz.prog 1023 σ W0 10 m455 := memo_ok fit (Known2.nil σ) (FnsOk.cons (ext_is hL) (FnsOk.nil)) m455_run
noncomputable def h904 : H := hUpd h903 2923 [] [] []
noncomputable def h905 : H := hUpc h890 2924 [] [] [] [(68, 0, 8, I 22)]
noncomputable def m456 : Memo := ⟨[.ptr 68 0, I 21], h904, .agg [IZ (-1), I 0, I 0, U 0, I 0, U 0, IZ (-1), I 0], h905⟩
theorem m456_run : ranTo (evCall (cxX Tryz.prog bad [] [] [(172, isFn 325)]) 1000 60 10 m456.args m456.h) m456.v m456.h' = true := by kernel_rfl
theorem m456_ok {σ : Nat → Int} {W0 : World} (hL : L0 W0) : MemoOk Tryz.prog 1023 σ W0 10 m456 := memo_ok fit (Known2.nil σ) (FnsOk.cons (ext_is hL) (FnsOk.nil)) m456_run
noncomputable def h906 : H := hUpd h905 2925 [] [] []
noncomputable def h907 : H := hUpc h890 2926 [] [] [] [(68, 0, 8, I 23)]
noncomputable def m457 : Memo := ⟨[.ptr 68 0, I 22], h906, .agg [IZ (-1), I 0, I 0, U 0, I 0, U 0, IZ (-1), I 0], h907⟩
theorem m457_run : ranTo (evCall (cxX Tryz.prog bad [] [] [(172, isFn 325)]) 1000 60 10 m457.args m457.h) m457.v m457.h' = true := by kernel_rfl
theorem m457_ok {σ : Nat → Int} {W0 : World} (hL : L0 W0) : MemoOk Tryz.prog 1023 σ W0 10 m457 := memo_ok fit (Known2.nil σ) (FnsOk.cons (ext_is hL) (FnsOk.nil)) m457_run
noncomputable def h908 : H := hUpd h907 2927 [] [] []
noncomputable def h909 : H := hUpc h890 2928 [] [] [] [(68, 0, 8, I 24)]
noncomputable def m458 : Memo := ⟨[.ptr 68 0, I 23], h908, .agg [IZ (-1), I 0, I 0, U 0, I 0, U 0, IZ (-1), I 0], h909⟩
theorem m458_run : ranTo (evCall (cxX Tryz.prog bad [] [] [(172, isFn 325)]) 1000 60 10 m458.args m458.h) m458.v m458.h' = true := by kernel_rfl
theorem m458_ok {σ : Nat → Int} {W0 : World} (hL : L0 W0) : MemoOk Tryz.prog 1023 σ W0 10 m458 := memo_ok fit (Known2.nil σ) (FnsOk.cons (ext_is hL) (FnsOk.nil)) m458_run
noncomputable def h910 : H := hUpd h909 2929 [] [] []
noncomputable def h911 : H := hUpc h890 2930 [] [] [] [(68, 0, 8, I 25)]
noncomputable def m459 : Memo := ⟨[.ptr 68 0, I 24], h910, .agg [IZ (-1), I 0, I 0, U 0, I 0, U 0, IZ (-1), I 0], h911⟩
theorem m459_run : ranTo (evCall (cxX Tryz.prog bad [] [] [(172, isFn 325)]) 1000 60 10 m459.args m459.h) m459.v m459.h' = true := by kernel_rfl
theorem m459_ok {σ : Nat → Int} {W0 : World} (hL : L0 W0) : MemoOk Tryz.prog 1023 σ W0 10 m459 := memo_ok fit (Known2.nil σ) (FnsOk.cons (ext_is hL) (FnsOk.nil)) m459_run
noncomputable def h912 : H := hUpd h911 2931 [] [] []
noncomputable def h913 : H := hUpc h890 2932 [] [] [] [(68, 0, 8, I 26)]
noncomputable def m460 : Memo := ⟨[.ptr 68 0, I 25], h912, .agg [IZ (-1), I 0, I 0, U 0, I 0, U 0, IZ (-1), I 0], h913⟩
theorem m460_run : ranTo (evCall (cxX Tryz.prog bad [] [] [(172, isFn 325)]) 1000 60 10 m460.args m460.h) m460.v m460.h' = true := by kernel_rfl
theorem m460_ok {σ : Nat → Int} {W0 : World} (hL : L0 W0) : MemoOk Tryz.prog 1023 σ W0 10 m460 := memo_ok fit (Known2.nil σ) (FnsOk.cons (ext_is hL) (FnsOk.nil)) m460_run
noncomputable def h914 : H := hUpd h913 2933 [] [] []
noncomputable def h915 : H := hUpc h890 2934 [] [] [] [(68, 0, 8, I 27)]
noncomputable def m461 : Memo := ⟨[.ptr 68 0, I 26], h914, .agg [IZ (-1), I 0, I 0, U 0, I 0, U 0, IZ (-1), I 0], h915⟩
theorem m461_run : ranTo (evCall (cxX Tryz.prog bad [] [] [(172, isFn 325)]) 1000 60 10 m461.args m461.h) m461.v m461.h' = true := by kernel_rfl
theorem m461_ok {σ : Nat → Int} {W0 : World} (hL : L0 W0) : MemoOk Tryz.prog 1023 σ W0 10 m461 := memo_ok fit (Known2.nil σ) (FnsOk.cons (ext_is hL) (FnsOk.nil)) m461_run
noncomputable def h916 : H := hUpd h915 2935 [] [] []
noncomputable def h917 : H := hUpc h890 2936 [] [] [] [(68, 0, 8, I 28)]
noncomputable def m462 : Memo := ⟨[.ptr 68 0, I 27], h916, .agg [IZ (-1), I 0, I 0, U 0, I 0, U 0, IZ (-1), I 0], h917⟩
theorem m462_run : ranTo (evCall (cxX Tryz.prog bad [] [] [(172, isFn 325)]) 1000 60 10 m462.args m462.h) m462.v m462.h' = true := by kernel_rfl
theorem m462_ok {σ : Nat → Int} {W0 : World} (hL : L0 W0) : MemoOk Tryz.prog 1023 σ W0 10 m462 := memo_ok fit (Known2.nil σ) (FnsOk.cons (ext_is hL) (FnsOk.nil)) m462_run
noncomputable def h918 : H := hUpd h917 2937 [] [] []
noncomputable def h919 : H := hUpc h890 2938 [] [] [] [(68, 0, 8, I 29)]
noncomputable def m463 : Memo := ⟨[.ptr 68 0, I 28], h918, .agg [IZ (-1), I 0, I 0, U 0, I 0, U 0, IZ (-1), I 0], h919⟩
theorem m463_run : ranTo (evCall (cxX Tryz.prog bad [] [] [(172, isFn 325)]) 1000 60 10 m463.args m463.h) m463.v m463.h' = true := by kernel_rfl
theorem m463_ok {σ : Nat → Int} {W0 : World} (hL : L0 W0) : MemoOk Tryz.prog 1023 σ W0 10 m463 := memo_ok fit (Known2.nil σ) (FnsOk.cons (ext_is hL) (FnsOk.nil)) m463_run
noncomputable def h920 : H := hUpd h919 2939 [] [] []
noncomputable def h921 : H := hUpc h890 2940 [] [] [] [(68, 0, 8, I 30)]
noncomputable def m464 : Memo := ⟨[.ptr 68 0, I 29], h920, .agg [IZ (-1), I 0, I 0, U 0, I 0, U 0, IZ (-1), I 0], h921⟩
theorem m464_run : ranTo (evCall (cxX Tryz.prog bad [] [] [(172, isFn 325)]) 1000 60 10 m464.args m464.h) m464.v m464.h' = true := by kernel_rfl
theorem m464_ok {σ : Nat → Int} {W0 : World} (hL : L0 W0) : MemoOk Tryz.prog 1023 σ W0 10 m464 := memo_ok fit (Known2.nil σ) (FnsOk.cons (ext_is hL) (FnsOk.nil)) m464_run
noncomputable def h922 : H := hUpd h921 2941 [] [] []
noncomputable def h923 : H := hUpc h890 2942 [] [] [] [(68, 0, 8, I 31)]
noncomputable def m465 : Memo := ⟨[.ptr 68 0, I 30], h922, .agg [IZ (-1), I 0, I 0, U 0, I 0, U 0, IZ (-1), I 0], h923⟩
theorem m465_run : ranTo (evCall (cxX Tryz.prog bad [] [] [(172, isFn 325)]) 1000 60 10 m465.args m465.h) m465.v m465.h' = true := by kernel_rfl
theorem m465_ok {σ : Nat → Int} {W0 : World} (hL : L0 W0) : MemoOk Tryz.prog 1023 σ W0 10 m465 := memo_ok fit (Known2.nil σ) (FnsOk.cons (ext_is hL) (FnsOk.nil)) m465_run
noncomputable def h924 : H := hUpd h923 2943 [] [] []
noncomputable def h925 : H := hUpc h890 2944 [] [] [] [(68, 0, 8, I 32)]
noncomputable def m466 : Memo := ⟨[.ptr 68 0, I 31], h924, .agg [IZ (-1), I 0, I 0, U 0, I 0, U 0, IZ (-1), I 0], h925⟩
theorem m466_run : ranTo (evCall (cxX Tryz.prog bad [] [] [(172, isFn 325)]) 1000 60 10 m466.args m466.h) m466.v m466.h' = true := by kernel_rfl
theorem m466_ok {σ : Nat → Int} {W0 : World} (hL : L0 W0) : MemoOk Tryz.prog 1023 σ W0 10 m466 := memo_ok fit (Known2.nil σ) (FnsOk.cons (ext_is hL) (FnsOk.nil)) m466_run
noncomputable def h926 : H := hUpd h925 2945 [] [] []
noncomputable def h927 : H := hUpc h890 2946 [] [] [] [(68, 0, 8, I 33)]
noncomputable def m467 : Memo := ⟨[.ptr 68 0, I 32], h926, .agg [IZ (-1), I 0, I 0, U 0, I 0, U 0, IZ (-1), I 0], h927⟩
theorem m467_run : ranTo (evCall (cxX Tryz.prog bad [] [] [(172, isFn 325)]) 1000 60 10 m467.args m467.h) m467.v m467.h' = true := by kernel_rfl
theorem m467_ok {σ : Nat → Int} {W0 : World} (hL : L0 W0) : MemoOk Tryz.prog 1023 σ W0 10 m467 := memo_ok fit (Known2.nil σ) (FnsOk.cons (ext_is hL) (FnsOk.nil)) m467_run
noncomputable def h928 : H := hUpd h927 2947 [] [] []
noncomputable def h929 : H := hUpc h890 2948 [] [] [] [(68, 0, 8, I 34)]
noncomputable def m468 : Memo := ⟨[.ptr 68 0, I 33], h928, .agg [IZ (-1), I 0, I 0, U 0, I 0, U 0, IZ (-1), I 0], h929⟩
theorem m468_run : ranTo (evCall (cxX Tryz.prog bad [] [] [(172, isFn 325)]) 1000 60 10 m468.args m468.h) m468.v m468.h' = true := by kernel_rfl
theorem m468_ok {σ : Nat → Int} {W0 : World} (hL : L0 W0) : MemoOk Tryz.prog 1023 σ W0 10 m468 := memo_ok fit (Known2.nil σ) (FnsOk.cons (ext_is hL) (FnsOk.nil)) m468_run
noncomputable def h930 : H := hUpd h929 2949 [] [] []
noncomputable def h931 : H := hUpc h891 2950 [] [] [] [(68, 0, 8, I 35)]
noncomputable def m469 : Memo := ⟨[.ptr 68 0, I 34], h930, .agg [IZ (-1), I 0, I 0, U 0, I 0, U 0, IZ (-1), I 0], h931⟩
theorem m469_run : ranTo (evCall (cxX Tryz.prog bad [] [] [(172, isFn 325)]) 1000 60 10 m469.args m469.h) m469.v m469.h' = true := by kernel_rfl
theorem m469_ok {σ : Nat → Int} {W0 : World} (hL : L0 W0) : MemoOk Tryz.prog 1023 σ W0 10 m469 := memo_ok fit (Known2.nil σ) (FnsOk.cons (ext_is hL) (FnsOk.nil)) m469_run
noncomputable def h932 : H := hUpd h931 2951 [] [] []
noncomputable def h933 : H := hUpc h893 2952 [] [] [] [(68, 0, 8, I 36)]
noncomputable def m470 : Memo := ⟨[.ptr 68 0, I 35], h932, .agg [IZ (-1), I 0, I 0, U 0, I 0, U 0, IZ (-1), I 0], h933⟩
theorem m470_run : ranTo (evCall (cxX Tryz.prog bad [] [] [(172, isFn 325)]) 1000 60 10 m470.args m470.h) m470.v m470.h' = true := by kernel_rfl
theorem m470_ok {σ : Nat → Int} {W0 : World} (hL : L0 W0) : MemoOk Tryz.prog 1023 σ W0 10 m470 := memo_ok fit (Known2.nil σ) (FnsOk.cons (ext_is hL) (FnsOk.nil)) m470_run
noncomputable def h934 : H := hUpd h933 2953 [] [] []
noncomputable def h935 : H := hUpc h895 2954 [] [] [] [(68, 0, 8, I 37)]
noncomputable def m471 : Memo := ⟨[.ptr 68 0, I 36], h934, .agg [IZ (-1), I 0, I 0, U 0, I 0, U 0, IZ (-1), I 0], h935⟩
theorem m471_run : ranTo (evCall (cxX Tryz.prog bad [] [] [(172, isFn 325)]) 1000 60 10 m471.args m471.h) m471.v m471.h' = true := by kernel_rfl
theorem m471_ok {σ : Nat → Int} {W0 : World} (hL : L0 W0) : MemoOk Tryz.prog 1023 σ W0 10 m471 := memo_ok fit (Known2.nil σ) (FnsOk.cons (ext_is hL) (FnsOk.nil)) m471_run
noncomputable def h936 : H := hUpd h935 2955 [] [] []
noncomputable def h937 : H := hUpc h897 2956 [] [] [] [(68, 0, 8, I 38)]
noncomputable def m472 : Memo := ⟨[.ptr 68 0, I 37], h936, .agg [IZ (-1), I 0, I 0, U 0, I 0, U 0, IZ (-1), I 0], h937⟩
theorem m472_run : ranTo (evCall (cxX Tryz.prog bad [] [] [(172, isFn 325)]) 1000 60 10 m472.args m472.h) m472.v m472.h' = true := by kernel_rfl
theorem m472_ok {σ : Nat → Int} {W0 : World} (hL : L0 W0) : MemoOk Tryz.prog 1023 σ W0 10 m472 := memo_ok fit (Known2.nil σ) (FnsOk.cons (ext_is hL) (FnsOk.nil)) m472_run
noncomputable def h938 : H := hUpd h937 2957 [] [] []
noncomputable def h939 : H := hUpc h899 2958 [] [] [] [(68, 0, 8, I 39)]
noncomputable def m473 : Memo := ⟨[.ptr 68 0, I 38], h938, .agg [IZ (-1), I 0, I 0, U 0, I 0, U 0, IZ (-1), I 0], h939⟩
theorem m473_run : ranTo (evCall (cxX Tryz.prog bad [] [] [(172, isFn 325)]) 1000 60 10 m473.args m473.h) m473.v m473.h' = true := by kernel_rfl
theorem m473_ok {σ : Nat → Int} {W0 : World} (hL : L0 W0) : MemoOk Tryz.prog 1023 σ W0 10 m473 := memo_ok fit (Known2.nil σ) (FnsOk.cons (ext_is hL) (FnsOk.nil)) m473_run
theorem run13 : lawF Tryz.prog bad [] ((6, numExtE [(0, 30, .var 2), (1, 40, .var 3)]) :: (9, frameFn [m5]) :: (10, frameFn [m45, m84, m122, m159, m195, m230, m264, m297, m329, m360, m390, m419, m447, m448, m449, m450, m451, m452, m453, m454, m455, m456, m457, m458, m459, m460, m461, m462, m463, m464, m465, m466, m467, m468, m469, m470, m471, m472, m473]) :: q0) 1000 60 4 [.int .i64 (.var 0), .int .i64 (.var 1)] [((-9223372036854775808), 9223372036854775807), ((-9223372036854775808), 9223372036854775807), (13, 13), (0, 39)] (peels 39 3) (sentH 325 10 errTab) = true := by kernel_rfl
theorem case13 {σ : Nat → Int} {W : World} (hL : L0 W) (hk : Known2 σ [((-9223372036854775808), 9223372036854775807), ((-9223372036854775808), 9223372036854775807), (13, 13), (0, 39)] []) (hT : TabOk Tryz.prog bad 6 σ [(0, 30, .var 2), (1, 40, .var 3)]) {xs : Array Value} (hv : ∀ ρ, VRs σ ρ [.int .i64 (.var 0), .int .i64 (.var 1)] xs.toList) : Calls Tryz.prog 4 xs W fun e w' => e = .returned (.bool true) ∧ Below W.heap.size W w' := by
  obtain ⟨ads, h1, h2, h3⟩ := errs_sents hL
  exact law_case_f fit h1 h2 h3 errs_all errs_lt (by kernel_rfl) hk (FnsOk.cons (hT.ok fit) (FnsOk.cons (frame_fn_ok (all_cons (m5_ok hL (hk.relax (r' := [((-9223372036854775808), 9223372036854775807), ((-9223372036854775808), 9223372036854775807), (0, 29), (0, 39)]) (by kernel_rfl))) (all_nil))) (FnsOk.cons (frame_fn_ok (all_cons (m45_ok hL (hk.relax (r' := [((-9223372036854775808), 9223372036854775807), ((-9223372036854775808), 9223372036854775807), (1, 29), (0, 39)]) (by kernel_rfl))) (all_cons (m84_ok hL (hk.relax (r' := [((-9223372036854775808), 9223372036854775807), ((-9223372036854775808), 9223372036854775807), (2, 29), (0, 39)]) (by kernel_rfl))) (all_cons (m122_ok hL (hk.relax (r' := [((-9223372036854775808), 9223372036854775807), ((-9223372036854775808), 9223372036854775807), (3, 29), (0, 39)]) (by kernel_rfl))) (all_cons (m159_ok hL (hk.relax (r' := [((-9223372036854775808), 9223372036854775807), ((-9223372036854775808), 9223372036854775807), (4, 29), (0, 39)]) (by kernel_rfl))) (all_cons (m195_ok hL (hk.relax (r' := [((-9223372036854775808), 9223372036854775807), ((-9223372036854775808), 9223372036854775807), (5, 29), (0, 39)]) (by kernel_rfl))) (all_cons (m230_ok hL (hk.relax (r' := [((-9223372036854775808), 9223372036854775807), ((-9223372036854775808), 9223372036854775807), (6, 29), (0, 39)]) (by kernel_rfl))) (all_cons (m264_ok hL (hk.relax (r' := [((-9223372036854775808), 9223372036854775807), ((-9223372036854775808), 9223372036854775807), (7, 29), (0, 39)]) (by kernel_rfl))) (all_cons (m297_ok hL (hk.relax (r' := [((-9223372036854775808), 9223372036854775807), ((-9223372036854775808), 9223372036854775807), (8, 29), (0, 39)]) (by kernel_rfl))) (all_cons (m329_ok hL (hk.relax (r' := [((-9223372036854775808), 9223372036854775807), ((-9223372036854775808), 9223372036854775807), (9, 29), (0, 39)]) (by kernel_rfl))) (all_cons (m360_ok hL (hk.relax (r' := [((-9223372036854775808), 9223372036854775807), ((-9223372036854775808), 9223372036854775807), (10, 29), (0, 39)]) (by kernel_rfl))) (all_cons (m390_ok hL (hk.relax (r' := [((-9223372036854775808), 9223372036854775807), ((-9223372036854775808), 9223372036854775807), (11, 29), (0, 39)]) (by kernel_rfl))) (all_cons (m419_ok hL (hk.relax (r' := [((-9223372036854775808), 9223372036854775807), ((-9223372036854775808), 9223372036854775807), (12, 29), (0, 39)]) (by kernel_rfl))) (all_cons (m447_ok hL (hk.relax (r' := [((-9223372036854775808), 9223372036854775807), ((-9223372036854775808), 9223372036854775807), (13, 29), (0, 39)]) (by kernel_rfl))) (all_cons (m448_ok hL hk) (all_cons (m449_ok hL) (all_cons (m450_ok hL) (all_cons (m451_ok hL) (all_cons (m452_ok hL) (all_cons (m453_ok hL) (all_cons (m454_ok hL) (all_cons (m455_ok hL) (all_cons (m456_ok hL) (all_cons (m457_ok hL) (all_cons (m458_ok hL) (all_cons (m459_ok hL) (all_cons (m460_ok hL) (all_cons (m461_ok hL) (all_cons (m462_ok hL) (all_cons (m463_ok hL) (all_cons (m464_ok hL) (all_cons (m465_ok hL) (all_cons (m466_ok hL) (all_cons (m467_ok hL) (all_cons (m468_ok hL) (all_cons (m469_ok hL) (all_cons (m470_ok hL) (all_cons (m471_ok hL) (all_cons (m472_ok hL) (all_cons (m473_ok hL) (all_nil))))))))))))))))))))))))))))))))))))))))) ((q0_ok hL))))) hv run13
noncomputable def h940 : H := hUpc h900 2790 [] [(34, .cells 107 ((rp 8 (U 0) ((U 1) :: (I 3) :: rp 5 (I 0) ((U 0) :: rp 4 (I 0) ((U 0) :: rp 4 (I 0) ((U 0) :: rp 4 (I 0) ((U 0) :: rp 4 (I 0) ((U 0) :: rp 4 (I 0) ((U 0) :: rp 4 (I 0) ((U 0) :: rp 4 (I 0) ((U 0) :: rp 4 (I 0) ((U 0) :: rp 4 (I 0) ((U 0) :: rp 4 (I 0) ((U 0) :: rp 4 (I 0) ((U 0) :: rp 4 (I 0) ((U 0) :: rp 4 (I 0) ((U 0) :: rp 4 (I 0) ((U 0) :: rp 4 (I 0) ((U 0) :: (I 3) :: (I 0) :: (I 0) :: (I 0) :: (U 0) :: (I 7) :: (I 0) :: (I 0) :: (I 0) :: (U 0) :: rp 4 (I 0) ([U 0, I 0]))))))))))))))))))) :: rp 5 (rp 9 (U 0) (rp 6 (I 0) ((U 0) :: rp 4 (I 0) ((U 0) :: rp 4 (I 0) ((U 0) :: rp 4 (I 0) ((U 0) :: rp 4 (I 0) ((U 0) :: rp 4 (I 0) ((U 0) :: rp 4 (I 0) ((U 0) :: rp 4 (I 0) ((U 0) :: rp 4 (I 0) ((U 0) :: rp 4 (I 0) ((U 0) :: rp 4 (I 0) ((U 0) :: rp 4 (I 0) ((U 0) :: rp 4 (I 0) ((U 0) :: rp 4 (I 0) ((U 0) :: rp 4 (I 0) ((U 0) :: rp 4 (I 0) ((U 0) :: rp 4 (I 0) ((U 0) :: rp 4 (I 0) ((U 0) :: rp 4 (I 0) ([U 0, I 0]))))))))))))))))))))) ([])) false),
  (56, .cells 2 ([IZ (-1), .int .i64 (.sub (.var 2) (.lit 13))] :: rp 7 ([I 0, I 0]) ([])) false),
  (27, .cells 32 (((U 201326592) :: (U 67108864) :: rp 30 (U 0) ([])) :: rp 11 (rp 32 (U 0) ([])) ([])) false)] [(67, 0, [.slice 365 0 1 1 1 false])] [(68, 0, 8, I 13)]
noncomputable def h941 : H := hUpc h940 2959 [] [] [(30, 0, [I 16, .slice 663 0 1 1 10 false, I 13]),
  (56, 0, [IZ (-1), .int .i64 (.sub (.var 2) (.lit 14))])] [(34, 0, 8, U 0), (68, 0, 8, I 14)]
noncomputable def m474 : Memo := ⟨[.ptr 68 0, I 13], h940, .agg [I 0, I 1, I 0, U 0, I 0, U 0, IZ (-1), I 0], h941⟩
theorem m474_run : ranTo (evCall (cxX Tryz.prog bad [((-9223372036854775808), 9223372036854775807), ((-9223372036854775808), 9223372036854775807), (14, 29), (0, 39)] [] [(51, pureFn [p4, p2, p3]), (172, isFn 325)]) 1000 60 10 m474.args m474.h) m474.v m474.h' = true := by kernel_rfl
theorem m474_ok {σ : Nat → Int} {W0 : World} (hL : L0 W0) (hk : Known2 σ [((-9223372036854775808), 9223372036854775807), ((-9223372036854775808), 9223372036854775807), (14, 29), (0, 39)] []) : MemoOk Tryz.prog 1023 σ W0 10 m474 := memo_ok fit hk (FnsOk.cons (pure_fn_ok (all_cons (p4_ok hL) (all_cons (p2_ok hL) (all_cons (p3_ok hL) (all_nil))))) (FnsOk.cons (ext_is hL) (FnsOk.nil))) m474_run
noncomputable def h942 : H := hUpd h941 2960 [27] [] []
noncomputable def h943 : H := hUpc h942 3078 [] [] [(67, 0, [.slice 365 0 0 1 1 false])] [(34, 0, 9, I 4), (34, 0, 10, I 6), (68, 0, 8, I 15)]
noncomputable def m475 : Memo := ⟨[.ptr 68 0, I 14], h942, .agg [I 0, I 5, I 0, U 0, I 0, U 0, IZ (-1), I 6], h943⟩
theorem m475_run : ranTo (evCall (cxX Tryz.prog bad [((-9223372036854775808), 9223372036854775807), ((-9223372036854775808), 9223372036854775807), (14, 14), (0, 39)] [] [(51, pureFn [p4, p2, p3]), (172, isFn 325)]) 1000 60 10 m475.args m475.h) m475.v m475.h' = true := by kernel_rfl
theorem m475_ok {σ : Nat → Int} {W0 : World} (hL : L0 W0) (hk : Known2 σ [((-9223372036854775808), 9223372036854775807), ((-9223372036854775808), 9223372036854775807), (14, 14), (0, 39)] []) : MemoOk Tryz.prog 1023 σ W0 10 m475 := memo_ok fit hk (FnsOk.cons (pure_fn_ok (all_cons (p4_ok hL) (all_cons (p2_ok hL) (all_cons (p3_ok hL) (all_nil))))) (FnsOk.cons (ext_is hL) (FnsOk.nil))) m475_run
noncomputable def h944 : H := hUpd h943 3079 [34, 56] [] []
noncomputable def h945 : H := hUpc h944 3080 [] [] [] [(68, 0, 8, I 16)]
noncomputable def m476 : Memo := ⟨[.ptr 68 0, I 15], h944, .agg [IZ (-1), I 0, I 0, U 0, I 0, U 0, IZ (-1), I 0], h945⟩
theorem m476_run : ranTo (evCall (cxX Tryz.prog bad [] [] [(172, isFn 325)]) 1000 60 10 m476.args m476.h) m476.v m476.h' = true := by kernel_rfl
theorem m476_ok {σ : Nat → Int} {W0 : World} (hL : L0 W0) : MemoOk Tryz.prog 1023 σ W0 10 m476 := memo_ok fit (Known2.nil σ) (FnsOk.cons (ext_is hL) (FnsOk.nil)) m476_run
noncomputable def h946 : H := hUpd h945 3081 [] [] []
noncomputable def h947 : H := hUpc h944 3082 [] [] [] [(68, 0, 8, I 17)]
noncomputable def m477 : Memo := ⟨[.ptr 68 0, I 16], h946, .agg [IZ (-1), I 0, I 0, U 0, I 0, U 0, IZ (-1), I 0], h947⟩
theorem m477_run : ranTo (evCall (cxX Tryz.prog bad [] [] [(172, isFn 325)]) 1000 60 10 m477.args m477.h) m477.v m477.h' = true := by kernel_rfl
theorem m477_ok {σ : Nat → Int} {W0 : World} (hL : L0 W0) : MemoOk Tryz.prog 1023 σ W0 10 m477 := memo_ok fit (Known2.nil σ) (FnsOk.cons (ext_is hL) (FnsOk.nil)) m477_run
noncomputable def h948 : H := hUpd h947 3083 [] [] []
noncomputable def h949 : H := hUpc h944 3084 [] [] [] [(68, 0, 8, I 18)]
noncomputable def m478 : Memo := ⟨[.ptr 68 0, I 17], h948, .agg [IZ (-1), I 0, I 0, U 0, I 0, U 0, IZ (-1), I 0], h949⟩
theorem m478_run : ranTo (evCall (cxX Tryz.prog bad [] [] [(172, isFn 325)]) 1000 60 10 m478.args m478.h) m478.v m478.h' = true := by kernel_rfl
theorem m478_ok {σ : Nat → Int} {W0 : World} (hL : L0 W0) : MemoOk Tryz.prog 1023 σ W0 10 m478 := memo_ok fit (Known2.nil σ) (FnsOk.cons (ext_is hL) (FnsOk.nil)) m478_run
noncomputable def h950 : H := hUpd h949 3085 [] [] []
noncomputable def h951 : H := hUpc h944 3086 [] [] [] [(68, 0, 8, I 19)]
noncomputable def m479 : Memo := ⟨[.ptr 68 0, I 18], h950, .agg [IZ (-1), I 0, I 0, U 0, I 0, U 0, IZ (-1), I 0], h951⟩
theorem m479_run : ranTo (evCall (cxX Tryz.prog bad [] [] [(172, isFn 325)]) 1000 60 10 m479.args m479.h) m479.v m479.h' = true := by kernel_rfl
theorem m479_ok {σ : Nat → Int} {W0 : World} (hL : L0 W0) : MemoOk Tryz.prog 1023 σ W0 10 m479 := memo_ok fit (Known2.nil σ) (FnsOk.cons (ext_is hL) (FnsOk.nil)) m479_run
noncomputable def h952 : H := hUpd h951 3087 [] [] []
noncomputable def h953 : H := hUpc h944 3088 [] [] [] [(68, 0, 8, I 20)]
noncomputable def m480 : Memo := ⟨[.ptr 68 0, I 19], h952, .agg [IZ (-1), I 0, I 0, U 0, I 0, U 0, IZ (-1), I 0], h953⟩
theorem m480_run : ranTo (evCall (cxX Tryz.prog bad [] [] [(172, isFn 325)]) 1000 60 10 m480.args m480.h) m480.v m480.h' = true := by kernel_rfl
theorem m480_ok {σ : Nat → Int} {W0 : World} (hL : L0 W0) : MemoOk Tryz.prog 1023 σ W0 10 m480 := memo_ok fit (Known2.nil σ) (FnsOk.cons (ext_is hL) (FnsOk.nil)) m480_run
noncomputable def h954 : H := hUpd h953 3089 [] [] []
noncomputable def h955 : H := hUpc h944 3090 [] [] [] [(68, 0, 8, I 21)]
noncomputable def m481 : Memo := ⟨[.ptr 68 0, I 20], h954, .agg [IZ (-1), I 0, I 0, U 0, I 0, U 0, IZ (-1), I 0], h955⟩
theorem m481_run : ranTo (evCall (cxX Tryz.prog bad [] [] [(172, isFn 325)]) 1000 60 10 m481.args m481.h) m481.v m481.h' = true := by kernel_rfl
theorem m481_ok {σ : Nat → Int} {W0 : World} (hL : L0 W0) : MemoOk Tryz.prog 1023 σ W0 10 m481 := memo_ok fit (Known2.nil σ) (FnsOk.cons (ext_is hL) (FnsOk.nil)) m481_run
noncomputable def h956 : H := hUpd h955 3091 [] [] []
noncomputable def h957 : H := hUpc h944 3092 [] [] [] [(68, 0, 8, I 22)]
noncomputable def m482 : Memo := ⟨[.ptr 68 0, I 21], h956, .agg [IZ (-1), I 0, I 0, U 0, I 0, U 0, IZ (-1), I 0], h957⟩
theorem m482_run : ranTo (evCall (cxX Tryz.prog bad [] [] [(172, isFn 325)]) 1000 60 10 m482.args m482.h) m482.v m482.h' = true := by kernel_rfl
theorem m482_ok {σ : Nat → Int} {W0 : World} (hL : L0 W0) : MemoOk Tryz.prog 1023 σ W0 10 m482 := memo_ok fit (Known2.nil σ) (FnsOk.cons (ext_is hL) (FnsOk.nil)) m482_run
noncomputable def h958 : H := hUpd h957 3093 [] [] []
noncomputable def h959 : H := hUpc h944 3094 [] [] [] [(68, 0, 8, I 23)]
noncomputable def m483 : Memo := ⟨[.ptr 68 0, I 22], h958, .agg [IZ (-1), I 0, I 0, U 0, I 0, U 0, IZ (-1), I 0], h959⟩
theorem m483_run : ranTo (evCall (cxX Tryz.prog bad [] [] [(172, isFn 325)]) 1000 60 10 m483.args m483.h) m483.v m483.h' = true := by kernel_rfl
theorem m483_ok {σ : Nat → Int} {W0 : World} (hL : L0 W0) : MemoOk Tryz.prog 1023 σ W0 10 m483 := memo_ok fit (Known2.nil σ) (FnsOk.cons (ext_is hL) (FnsOk.nil)) m483_run
noncomputable def h960 : H := hUpd h959 3095 [] [] []
noncomputable def h961 : H := hUpc h944 3096 [] [] [] [(68, 0, 8, I 24)]
noncomputable def m484 : Memo := ⟨[.ptr 68 0, I 23], h960, .agg [IZ (-1), I 0, I 0, U 0, I 0, U 0, IZ (-1), I 0], h961⟩
theorem m484_run : ranTo (evCall (cxX Tryz.prog bad [] [] [(172, isFn 325)]) 1000 60 10 m484.args m484.h) m484.v m484.h' = true := by kernel_rfl
theorem m484_ok {σ : Nat → Int} {W0 : World} (hL : L0 W0) : MemoOk Tryz.prog 1023 σ W0 10 m484 := memo_ok fit (Known2.nil σ) (FnsOk.cons (ext_is hL) (FnsOk.nil)) m484_run
noncomputable def h962 : H := hUpd h961 3097 [] [] []
noncomputable def h963 : H := hUpc h944 3098 [] [] [] [(68, 0, 8, I 25)]
noncomputable def m485 : Memo := ⟨[.ptr 68 0, I 24], h962, .agg [IZ (-1), I 0, I 0, U 0, I 0, U 0, IZ (-1), I 0], h963⟩
theorem m485_run : ranTo (evCall (cxX Tryz.prog bad [] [] [(172, isFn 325)]) 1000 60 10 m485.args m485.h) m485.v m485.h' = true := by kernel_rfl
theorem m485_ok {σ : Nat → Int} {W0 : World} (hL : L0 W0) : MemoOk Tryz.prog 1023 σ W0 10 m485 := memo_ok fit (Known2.nil σ) (FnsOk.cons (ext_is hL) (FnsOk.nil)) m485_run
noncomputable def h964 : H := hUpd h963 3099 [] [] []
noncomputable def h965 : H := hUpc h944 3100 [] [] [] [(68, 0, 8, I 26)]
noncomputable def m486 : Memo := ⟨[.ptr 68 0, I 25], h964, .agg [IZ (-1), I 0, I 0, U 0, I 0, U 0, IZ (-1), I 0], h965⟩
theorem m486_run : ranTo (evCall (cxX Tryz.prog bad [] [] [(172, isFn 325)]) 1000 60 10 m486.args m486.h) m486.v m486.h' = true := by kernel_rfl
theorem m486_ok {σ : Nat → Int} {W0 : World} (hL : L0 W0) : MemoOk Tryz.prog 1023 σ W0 10 m486 := memo_ok fit (Known2.nil σ) (FnsOk.cons (ext_is hL) (FnsOk.nil)) m486_run
noncomputable def h966 : H := hUpd h965 3101 [] [] []
noncomputable def h967 : H := hUpc h944 3102 [] [] [] [(68, 0, 8, I 27)]
noncomputable def m487 : Memo := ⟨[.ptr 68 0, I 26], h966, .agg [IZ (-1), I 0, I 0, U 0, I 0, U 0, IZ (-1), I 0], h967⟩
theorem m487_run : ranTo (evCall (cxX Tryz.prog bad [] [] [(172, isFn 325)]) 1000 60 10 m487.args m487.h) m487.v m487.h' = true := by kernel_rfl
theorem m487_ok {σ : Nat → Int} {W0 : World} (hL : L0 W0) : MemoOk Tryz.prog 1023 σ W0 10 m487 := memo_ok fit (Known2.nil σ) (FnsOk.cons (ext_is hL) (FnsOk.nil)) m487_run
noncomputable def h968 : H := hUpd h967 3103 [] [] []
noncomputable def h969 : H := hUpc h944 3104 [] [] [] [(68, 0, 8, I 28)]
noncomputable def m488 : Memo := ⟨[.ptr 68 0, I 27], h968, .agg [IZ (-1), I 0, I 0, U 0, I 0, U 0, IZ (-1), I 0], h969⟩
theorem m488_run : ranTo (evCall (cxX Tryz.prog bad [] [] [(172, isFn 325)]) 1000 60 10 m488.args m488.h) m488.v m488.h' = true := by kernel_rfl
theorem m488_ok {σ : Nat → Int} {W0 : World} (hL : L0 W0) : MemoOk Tryz.prog 1023 σ W0 10 m488 := memo_ok fit (Known2.nil σ) (FnsOk.cons (ext_is hL) (FnsOk.nil)) m488_run
noncomputable def h970 : H := hUpd h969 3105 [] [] []
noncomputable def h971 : H := hUpc h944 3106 [] [] [] [(68, 0, 8, I 29)]
noncomputable def m489 : Memo := ⟨[.ptr 68 0, I 28], h970, .agg [IZ (-1), I 0, I 0, U 0, I 0, U 0, IZ (-1), I 0], h971⟩
theorem m489_run : ranTo (evCall (cxX Tryz.prog bad [] [] [(172, isFn 325)]) 1000 60 10 m489.args m489.h) m489.v m489.h' = true := by kernel_rfl
theorem m489_ok {σ : Nat → Int} {W0 : World} (hL : L0 W0) : MemoOk Tryz.prog 1023 σ W0 10 m489 := memo_ok fit (Known2.nil σ) (FnsOk.cons (ext_is hL) (FnsOk.nil)) m489_run
noncomputable def h972 : H := hUpd h971 3107 [] [] []
noncomputable def h973 : H := hUpc h944 3108 [] [] [] [(68, 0, 8, I 30)]
noncomputable def m490 : Memo := ⟨[.ptr 68 0, I 29], h972, .agg [IZ (-1), I 0, I 0, U 0, I 0, U 0, IZ (-1), I 0], h973⟩
theorem m490_run : ranTo (evCall (cxX Tryz.prog bad [] [] [(172, isFn 325)]) 1000 60 10 m490.args m490.h) m490.v m490.h' = true := by kernel_rfl
theorem m490_ok {σ : Nat → Int} {W0 : World} (hL : L0 W0) : MemoOk Tryz.prog 1023 σ W0 10 m490 := memo_ok fit (Known2.nil σ) (FnsOk.cons (ext_is hL) (FnsOk.nil)) m490_run
noncomputable def h974 : H := hUpd h973 3109 [] [] []
noncomputable def h975 : H := hUpc h944 3110 [] [] [] [(68, 0, 8, I 31)]
noncomputable def m491 : Memo := ⟨[.ptr 68 0, I 30], h974, .agg [IZ (-1), I 0, I 0, U 0, I 0, U 0, IZ (-1), I 0], h975⟩
theorem m491_run : ranTo (evCall (cxX Tryz.prog bad [] [] [(172, isFn 325)]) 1000 60 10 m491.args m491.h) m491.v m491.h' = true := by kernel_rfl
theorem m491_ok {σ : Nat → Int} {W0 : World} (hL : L0 W0) : MemoOk Tryz.prog 1023 σ W0 10 m491 := memo_ok fit (Known2.nil σ) (FnsOk.cons (ext_is hL) (FnsOk.nil)) m491_run
noncomputable def h976 : H := hUpd h975 3111 [] [] []
noncomputable def h977 : H := hUpc h944 3112 [] [] [] [(68, 0, 8, I 32)]
noncomputable def m492 : Memo := ⟨[.ptr 68 0, I 31], h976, .agg [IZ (-1), I 0, I 0, U 0, I 0, U 0, IZ (-1), I 0], h977⟩
theorem m492_run : ranTo (evCall (cxX Tryz.prog bad [] [] [(172, isFn 325)]) 1000 60 10 m492.args m492.h) m492.v m492.h' = true := by kernel_rfl
theorem m492_ok {σ : Nat → Int} {W0 : World} (hL : L0 W0) : MemoOk Tryz.prog 1023 σ W0 10 m492 := memo_ok fit (Known2.nil σ) (FnsOk.cons (ext_is hL) (FnsOk.nil)) m492_run
noncomputable def h978 : H := hUpd h977 3113 [] [] []
noncomputable def h979 : H := hUpc h944 3114 [] [] [] [(68, 0, 8, I 33)]
noncomputable def m493 : Memo := ⟨[.ptr 68 0, I 32], h978, .agg [IZ (-1), I 0, I 0, U 0, I 0, U 0, IZ (-1), I 0], h979⟩
theorem m493_run : ranTo (evCall (cxX Tryz.prog bad [] [] [(172, isFn 325)]) 1000 60 10 m493.args m493.h) m493.v m493.h' = true := by kernel_rfl
theorem m493_ok {σ : Nat → Int} {W0 : World} (hL : L0 W0) : MemoOk Tryz.prog 1023 σ W0 10 m493 := memo_ok fit (Known2.nil σ) (FnsOk.cons (ext_is hL) (FnsOk.nil)) m493_run
noncomputable def h980 : H := hUpd h979 3115 [] [] []
noncomputable def h981 : H := hUpc h944 3116 [] [] [] [(68, 0, 8, I 34)]
noncomputable def m494 : Memo := ⟨[.ptr 68 0, I 33], h980, .agg [IZ (-1), I 0, I 0, U 0, I 0, U 0, IZ (-1), I 0], h981⟩
theorem m494_run : ranTo (evCall (cxX Tryz.prog bad [] [] [(172, isFn 325)]) 1000 60 10 m494.args m494.h) m494.v m494.h' = true := by kernel_rfl
theorem m494_ok {σ : Nat → Int} {W0 : World} (hL : L0 W0) : MemoOk Tryz.prog 1023 σ W0 10 m494 := memo_ok fit (Known2.nil σ) (FnsOk.cons (ext_is hL) (FnsOk.nil)) m494_run
noncomputable def h982 : H := hUpd h981 3117 [] [] []
noncomputable def h983 : H := hUpc h944 3118 [] [] [] [(68, 0, 8, I 35)]
noncomputable def m495 : Memo := ⟨[.ptr 68 0, I 34], h982, .agg [IZ (-1), I 0, I 0, U 0, I 0, U 0, IZ (-1), I 0], h983⟩
theorem m495_run : ranTo (evCall (cxX Tryz.prog bad [] [] [(172, isFn 325)]) 1000 60 10 m495.args m495.h) m495.v m495.h' = true := by kernel_rfl
theorem m495_ok {σ : Nat → Int} {W0 : World} (hL : L0 W0) : MemoOk Tryz.prog 1023 σ W0 10 m495 := memo_ok fit (Known2.nil σ) (FnsOk.cons (ext_is hL) (FnsOk.nil)) m495_run
noncomputable def h984 : H := hUpd h983 3119 [] [] []
noncomputable def h985 : H := hUpc h945 3120 [] [] [] [(68, 0, 8, I 36)]
noncomputable def m496 : Memo := ⟨[.ptr 68 0, I 35], h984, .agg [IZ (-1), I 0, I 0, U 0, I 0, U 0, IZ (-1), I 0], h985⟩
theorem m496_run : ranTo (evCall (cxX Tryz.prog bad [] [] [(172, isFn 325)]) 1000 60 10 m496.args m496.h) m496.v m496.h' = true := by kernel_rfl
theorem m496_ok {σ : Nat → Int} {W0 : World} (hL : L0 W0) : MemoOk Tryz.prog 1023 σ W0 10 m496 := memo_ok fit (Known2.nil σ) (FnsOk.cons (ext_is hL) (FnsOk.nil)) m496_run
noncomputable def h986 : H := hUpd h985 3121 [] [] []
noncomputable def h987 : H := hUpc h947 3122 [] [] [] [(68, 0, 8, I 37)]
noncomputable def m497 : Memo := ⟨[.ptr 68 0, I 36], h986, .agg [IZ (-1), I 0, I 0, U 0, I 0, U 0, IZ (-1), I 0], h987⟩
theorem m497_run : ranTo (evCall (cxX Tryz.prog bad [] [] [(172, isFn 325)]) 1000 60 10 m497.args m497.h) m497.v m497.h' = true := by kernel_rfl
theorem m497_ok {σ : Nat → Int} {W0 : World} (hL : L0 W0) : MemoOk Tryz.prog 1023 σ W0 10 m497 := memo_ok fit (Known2.nil σ) (FnsOk.cons (ext_is hL) (FnsOk.nil)) m497_run
noncomputable def h988 : H := hUpd h987 3123 [] [] []
noncomputable def h989 : H := hUpc h949 3124 [] [] [] [(68, 0, 8, I 38)]
noncomputable def m498 : Memo := ⟨[.ptr 68 0, I 37], h988, .agg [IZ (-1), I 0, I 0, U 0, I 0, U 0, IZ (-1), I 0], h989⟩
theorem m498_run : ranTo (evCall (cxX Tryz.prog bad [] [] [(172, isFn 325)]) 1000 60 10 m498.args m498.h) m498.v m498.h' = true := by kernel_rfl
theorem m498_ok {σ : Nat → Int} {W0 : World} (hL : L0 W0) : MemoOk Tryz.prog 1023 σ W0 10 m498 := memo_ok fit (Known2.nil σ) (FnsOk.cons (ext_is hL) (FnsOk.nil)) m498_run
noncomputable def h990 : H := hUpd h989 3125 [] [] []
noncomputable def h991 : H := hUpc h951 3126 [] [] [] [(68, 0, 8, I 39)]
noncomputable def m499 : Memo := ⟨[.ptr 68 0, I 38], h990, .agg [IZ (-1), I 0, I 0, U 0, I 0, U 0, IZ (-1), I 0], h991⟩
theorem m499_run : ranTo (evCall (cxX Tryz.prog bad [] [] [(172, isFn 325)]) 1000 60 10 m499.args m499.h) m499.v m499.h' = true := by kernel_rfl
theorem m499_ok {σ : Nat → Int} {W0 : World} (hL : L0 W0) : MemoOk Tryz.prog 1023 σ W0 10 m499 := memo_ok fit (Known2.nil σ) (FnsOk.cons (ext_is hL) (FnsOk.nil)) m499_run
theorem run14 : lawF Tryz.prog bad [] ((6, numExtE [(0, 30, .var 2), (1, 40, .var 3)]) :: (9, frameFn [m5]) :: (10, frameFn [m45, m84, m122, m159, m195, m230, m264, m297, m329, m360, m390, m419, m447, m474, m475, m476, m477, m478, m479, m480, m481, m482, m483, m484, m485, m486, m487, m488, m489, m490, m491, m492, m493, m494, m495, m496, m497, m498, m499]) :: q0) 1000 60 4 [.int .i64 (.var 0), .int .i64 (.var 1)] [((-9223372036854775808), 9223372036854775807), ((-9223372036854775808), 9223372036854775807), (14, 14), (0, 39)] (peels 39 3) (sentH 325 10 errTab) = true := by kernel_rfl
theorem case14 {σ : Nat → Int} {W : World} (hL : L0 W) (hk : Known2 σ [((-9223372036854775808), 9223372036854775807), ((-9223372036854775808), 9223372036854775807), (14, 14), (0, 39)] []) (hT : TabOk Tryz.prog bad 6 σ [(0, 30, .var 2), (1, 40, .var 3)]) {xs : Array Value} (hv : ∀ ρ, VRs σ ρ [.int .i64 (.var 0), .int .i64 (.var 1)] xs.toList) : Calls Tryz.prog 4 xs W fun e w' => e = .returned (.bool true) ∧ Below W.heap.size W w' := by
  obtain ⟨ads, h1, h2, h3⟩ := errs_sents hL
  exact law_case_f fit h1 h2 h3 errs_all errs_lt (by kernel_rfl) hk (FnsOk.cons (hT.ok fit) (FnsOk.cons (frame_fn_ok (all_cons (m5_ok hL (hk.relax (r' := [((-9223372036854775808), 9223372036854775807), ((-9223372036854775808), 9223372036854775807), (0, 29), (0, 39)]) (by kernel_rfl))) (all_nil))) (FnsOk.cons (frame_fn_ok (all_cons (m45_ok hL (hk.relax (r' := [((-9223372036854775808), 9223372036854775807), ((-9223372036854775808), 9223372036854775807), (1, 29), (0, 39)]) (by kernel_rfl))) (all_cons (m84_ok hL (hk.relax (r' := [((-9223372036854775808), 9223372036854775807), ((-9223372036854775808), 9223372036854775807), (2, 29), (0, 39)]) (by kernel_rfl))) (all_cons (m122_ok hL (hk.relax (r' := [((-9223372036854775808), 9223372036854775807), ((-9223372036854775808), 9223372036854775807), (3, 29), (0, 39)]) (by kernel_rfl))) (all_cons (m159_ok hL (hk.relax (r' := [((-9223372036854775808), 9223372036854775807), ((-9223372036854775808), 9223372036854775807), (4, 29), (0, 39)]) (by kernel_rfl))) (all_cons (m195_ok hL (hk.relax (r' := [((-9223372036854775808), 9223372036854775807), ((-9223372036854775808), 9223372036854775807), (5, 29), (0, 39)]) (by kernel_rfl))) (all_cons (m230_ok hL (hk.relax (r' := [((-9223372036854775808), 9223372036854775807), ((-9223372036854775808), 9223372036854775807), (6, 29), (0, 39)]) (by kernel_rfl))) (all_cons (m264_ok hL (hk.relax (r' := [((-9223372036854775808), 9223372036854775807), ((-9223372036854775808), 9223372036854775807), (7, 29), (0, 39)]) (by kernel_rfl))) (all_cons (m297_ok hL (hk.relax (r' := [((-9223372036854775808), 9223372036854775807), ((-9223372036854775808), 9223372036854775807), (8, 29), (0, 39)]) (by kernel_rfl))) (all_cons (m329_ok hL (hk.relax (r' := [((-9223372036854775808), 9223372036854775807), ((-9223372036854775808), 9223372036854775807), (9, 29), (0, 39)]) (by kernel_rfl))) (all_cons (m360_ok hL (hk.relax (r' := [((-9223372036854775808), 9223372036854775807), ((-9223372036854775808), 9223372036854775807), (10, 29), (0, 39)]) (by kernel_rfl))) (all_cons (m390_ok hL (hk.relax (r' := [((-9223372036854775808), 9223372036854775807), ((-9223372036854775808), 9223372036854775807), (11, 29), (0, 39)]) (by kernel_rfl))) (all_cons (m419_ok hL (hk.relax (r' := [((-9223372036854775808), 9223372036854775807), ((-9223372036854775808), 9223372036854775807), (12, 29), (0, 39)]) (by kernel_rfl))) (all_cons (m447_ok hL (hk.relax (r' := [((-9223372036854775808), 9223372036854775807), ((-9223372036854775808), 9223372036854775807), (13, 29), (0, 39)]) (by kernel_rfl))) (all_cons (m474_ok hL (hk.relax (r' := [((-9223372036854775808), 9223372036854775807), ((-9223372036854775808), 9223372036854775807), (14, 29), (0, 39)]) (by kernel_rfl))) (all_cons (m475_ok hL hk) (all_cons (m476_ok hL) (all_cons (m477_ok hL) (all_cons (m478_ok hL) (all_cons (m479_ok hL) (all_cons (m480_ok hL) (all_cons (m481_ok hL) (all_cons (m482_ok hL) (all_cons (m483_ok hL) (all_cons (m484_ok hL) (all_cons (m485_ok hL) (all_cons (m486_ok hL) (all_cons (m487_ok hL) (all_cons (m488_ok hL) (all_cons (m489_ok hL) (all_cons (m490_ok hL) (all_cons (m491_ok hL) (all_cons (m492_ok hL) (all_cons (m493_ok hL) (all_cons (m494_ok hL) (all_cons (m495_ok hL) (all_cons (m496_ok hL) (all_cons (m497_ok hL) (all_cons (m498_ok hL) (all_cons (m499_ok hL) (all_nil))))))))))))))))))))))))))))))))))))))))) ((q0_ok hL))))) hv run14
noncomputable def h992 : H := hUpc h952 2960 [] [(34, .cells 107 ((rp 9 (U 0) ((I 3) :: rp 5 (I 0) ((U 0) :: rp 4 (I 0) ((U 0) :: rp 4 (I 0) ((U 0) :: rp 4 (I 0) ((U 0) :: rp 4 (I 0) ((U 0) :: rp 4 (I 0) ((U 0) :: rp 4 (I 0) ((U 0) :: rp 4 (I 0) ((U 0) :: rp 4 (I 0) ((U 0) :: rp 4 (I 0) ((U 0) :: rp 4 (I 0) ((U 0) :: rp 4 (I 0) ((U 0) :: rp 4 (I 0) ((U 0) :: rp 4 (I 0) ((U 0) :: rp 4 (I 0) ((U 0) :: rp 4 (I 0) ((U 0) :: (I 3) :: (I 0) :: (I 0) :: (I 0) :: (U 0) :: (I 7) :: (I 0) :: (I 0) :: (I 0) :: (U 0) :: rp 4 (I 0) ([U 0, I 0]))))))))))))))))))) :: rp 5 (rp 9 (U 0) (rp 6 (I 0) ((U 0) :: rp 4 (I 0) ((U 0) :: rp 4 (I 0) ((U 0) :: rp 4 (I 0) ((U 0) :: rp 4 (I 0) ((U 0) :: rp 4 (I 0) ((U 0) :: rp 4 (I 0) ((U 0) :: rp 4 (I 0) ((U 0) :: rp 4 (I 0) ((U 0) :: rp 4 (I 0) ((U 0) :: rp 4 (I 0) ((U 0) :: rp 4 (I 0) ((U 0) :: rp 4 (I 0) ((U 0) :: rp 4 (I 0) ((U 0) :: rp 4 (I 0) ((U 0) :: rp 4 (I 0) ((U 0) :: rp 4 (I 0) ((U 0) :: rp 4 (I 0) ((U 0) :: rp 4 (I 0) ([U 0, I 0]))))))))))))))))))))) ([])) false),
  (56, .cells 2 ([IZ (-1), .int .i64 (.sub (.var 2) (.lit 14))] :: rp 7 ([I 0, I 0]) ([])) false),
  (27, .cells 32 (((U 201326592) :: (U 67108864) :: rp 30 (U 0) ([])) :: rp 11 (rp 32 (U 0) ([])) ([])) false)] [(67, 0, [.slice 365 0 1 1 1 false])] [(68, 0, 8, I 14)]
noncomputable def h993 : H := hUpc h992 3129 [] [] [(30, 0, [I 16, .slice 663 0 1 1 10 false, I 14]),
  (56, 0, [IZ (-1), .int .i64 (.sub (.var 2) (.lit 15))])] [(34, 0, 8, U 1), (68, 0, 8, I 15)]
noncomputable def m500 : Memo := ⟨[.ptr 68 0, I 14], h992, .agg [I 0, I 3, I 0, U 0, I 0, U 0, IZ (-1), I 0], h993⟩
theorem m500_run : ranTo (evCall (cxX Tryz.prog bad [((-9223372036854775808), 9223372036854775807), ((-9223372036854775808), 9223372036854775807), (15, 29), (0, 39)] [] [(51, pureFn [p4, p2, p3]), (172, isFn 325)]) 1000 60 10 m500.args m500.h) m500.v m500.h' = true := by kernel_rfl
theorem m500_ok {σ : Nat → Int} {W0 : World} (hL : L0 W0) (hk : Known2 σ [((-9223372036854775808), 9223372036854775807), ((-9223372036854775808), 9223372036854775807), (15, 29), (0, 39)] []) : MemoOk Tryz.prog 1023 σ W0 10 m500 := memo_ok fit hk (FnsOk.cons (pure_fn_ok (all_cons (p4_ok hL) (all_cons (p2_ok hL) (all_cons (p3_ok hL) (all_nil))))) (FnsOk.cons (ext_is hL) (FnsOk.nil))) m500_run
noncomputable def h994 : H := hUpd h993 3130 [27] [] []
noncomputable def h995 : H := hUpc h994 3248 [] [] [(67, 0, [.slice 365 0 0 1 1 false])] [(34, 0, 9, I 4), (34, 0, 10, I 6), (68, 0, 8, I 16)]
noncomputable def m501 : Memo := ⟨[.ptr 68 0, I 15], h994, .agg [I 0, I 5, I 0, U 0, I 0, U 0, IZ (-1), I 6], h995⟩
theorem m501_run : ranTo (evCall (cxX Tryz.prog bad [((-9223372036854775808), 9223372036854775807), ((-9223372036854775808), 9223372036854775807), (15, 15), (0, 39)] [] [(51, pureFn [p4, p2, p3]), (172, isFn 325)]) 1000 60 10 m501.args m501.h) m501.v m501.h' = true := by kernel_rfl
theorem m501_ok {σ : Nat → Int} {W0 : World} (hL : L0 W0) (hk : Known2 σ [((-9223372036854775808), 9223372036854775807), ((-9223372036854775808), 9223372036854775807), (15, 15), (0, 39)] []) : MemoOk Tryz.prog 1023 σ W0 10 m501 := memo_ok fit hk (FnsOk.cons (pure_fn_ok (all_cons (p4_ok hL) (all_cons (p2_ok hL) (all_cons (p3_ok hL) (all_nil))))) (FnsOk.cons (ext_is hL) (FnsOk.nil))) m501_run
noncomputable def h996 : H := hUpd h995 3249 [34, 56] [] []
noncomputable def h997 : H := hUpc h996 3250 [] [] [] [(68, 0, 8, I 17)]
noncomputable def m502 : Memo := ⟨[.ptr 68 0, I 16], h996, .agg [IZ (-1), I 0, I 0, U 0, I 0, U 0, IZ (-1), I 0], h997⟩
theorem m502_run : ranTo (evCall (cxX Tryz.prog bad [] [] [(172, isFn 325)]) 1000 60 10 m502.args m502.h) m502.v m502.h' = true := by kernel_rfl
theorem m502_ok {σ : Nat → Int} {W0 : World} (hL : L0 W0) : MemoOk Tryz.prog 1023 σ W0 10 m502 := memo_ok fit (Known2.nil σ) (FnsOk.cons (ext_is hL) (FnsOk.nil)) m502_run
noncomputable def h998 : H := hUpd h997 3251 [] [] []
noncomputable def h999 : H := hUpc h996 3252 [] [] [] [(68, 0, 8, I 18)]
noncomputable def m503 : Memo := ⟨[.ptr 68 0, I 17], h998, .agg [IZ (-1), I 0, I 0, U 0, I 0, U 0, IZ (-1), I 0], h999⟩
theorem m503_run : ranTo (evCall (cxX Tryz.prog bad [] [] [(172, isFn 325)]) 1000 60 10 m503.args m503.h) m503.v m503.h' = true := by kernel_rfl
theorem m503_ok {σ : Nat → Int} {W0 : World} (hL : L0 W0) : MemoOk Tryz.prog 1023 σ W0 10 m503 := memo_ok fit (Known2.nil σ) (FnsOk.cons (ext_is hL) (FnsOk.nil)) m503_run
noncomputable def h1000 : H := hUpd h999 3253 [] [] []
noncomputable def h1001 : H := hUpc h996 3254 [] [] [] [(68, 0, 8, I 19)]
noncomputable def m504 : Memo := ⟨[.ptr 68 0, I 18], h1000, .agg [IZ (-1), I 0, I 0, U 0, I 0, U 0, IZ (-1), I 0], h1001⟩
theorem m504_run : ranTo (evCall (cxX Tryz.prog bad [] [] [(172, isFn 325)]) 1000 60 10 m504.args m504.h) m504.v m504.h' = true := by kernel_rfl
theorem m504_ok {σ : Nat → Int} {W0 : World} (hL : L0 W0) : MemoOk Tryz.prog 1023 σ W0 10 m504 := memo_ok fit (Known2.nil σ) (FnsOk.cons (ext_is hL) (FnsOk.nil)) m504_run
noncomputable def h1002 : H := hUpd h1001 3255 [] [] []
noncomputable def h1003 : H := hUpc h996 3256 [] [] [] [(68, 0, 8, I 20)]
noncomputable def m505 : Memo := ⟨[.ptr 68 0, I 19], h1002, .agg [IZ (-1), I 0, I 0, U 0, I 0, U 0, IZ (-1), I 0], h1003⟩
theorem m505_run : ranTo (evCall (cxX Tryz.prog bad [] [] [(172, isFn 325)]) 1000 60 10 m505.args m505.h) m505.v m505.h' = true := by kernel_rfl
theorem m505_ok {σ : Nat → Int} {W0 : World} (hL : L0 W0) : MemoOk Tryz.prog 1023 σ W0 10 m505 := memo_ok fit (Known2.nil σ) (FnsOk.cons (ext_is hL) (FnsOk.nil)) m505_run
noncomputable def h1004 : H := hUpd h1003 3257 [] [] []
noncomputable def h1005 : H := hUpc h996 3258 [] [] [] [(68, 0, 8, I 21)]
noncomputable def m506 : Memo := ⟨[.ptr 68 0, I 20], h1004, .agg [IZ (-1), I 0, I 0, U 0, I 0, U 0, IZ (-1), I 0], h1005⟩
theorem m506_run : ranTo (evCall (cxX Tryz.prog bad [] [] [(172, isFn 325)]) 1000 60 10 m506.args m506.h) m506.v m506.h' = true := by kernel_rfl
theorem m506_ok {σ : Nat → Int} {W0 : World} (hL : L0 W0) : MemoOk Tryz.prog 1023 σ W0 10 m506 := memo_ok fit (Known2.nil σ) (FnsOk.cons (ext_is hL) (FnsOk.nil)) m506_run
noncomputable def h1006 : H := hUpd h1005 3259 [] [] []
noncomputable def h1007 : H := hUpc h996 3260 [] [] [] [(68, 0, 8, I 22)]
noncomputable def m507 : Memo := ⟨[.ptr 68 0, I 21], h1006, .agg [IZ (-1), I 0, I 0, U 0, I 0, U 0, IZ (-1), I 0], h1007⟩
theorem m507_run : ranTo (evCall (cxX Tryz.prog bad [] [] [(172, isFn 325)]) 1000 60 10 m507.args m507.h) m507.v m507.h' = true := by kernel_rfl
theorem m507_ok {σ : Nat → Int} {W0 : World} (hL : L0 W0) : MemoOk Tryz.prog 1023 σ W0 10 m507 := memo_ok fit (Known2.nil σ) (FnsOk.cons (ext_is hL) (FnsOk.nil)) m507_run
noncomputable def h1008 : H := hUpd h1007 3261 [] [] []
noncomputable def h1009 : H := hUpc h996 3262 [] [] [] [(68, 0, 8, I 23)]
noncomputable def m508 : Memo := ⟨[.ptr 68 0, I 22], h1008, .agg [IZ (-1), I 0, I 0, U 0, I 0, U 0, IZ (-1), I 0], h1009⟩
theorem m508_run : ranTo (evCall (cxX Tryz.prog bad [] [] [(172, isFn 325)]) 1000 60 10 m508.args m508.h) m508.v m508.h' = true := by kernel_rfl
theorem m508_ok {σ : Nat → Int} {W0 : World} (hL : L0 W0) : MemoOk Tryz.prog 1023 σ W0 10 m508 := memo_ok fit (Known2.nil σ) (FnsOk.cons (ext_is hL) (FnsOk.nil)) m508_run
noncomputable def h1010 : H := hUpd h1009 3263 [] [] []
noncomputable def h1011 : H := hUpc h996 3264 [] [] [] [(68, 0, 8, I 24)]
noncomputable def m509 : Memo := ⟨[.ptr 68 0, I 23], h1010, .agg [IZ (-1), I 0, I 0, U 0, I 0, U 0, IZ (-1), I 0], h1011⟩
theorem m509_run : ranTo (evCall (cxX Tryz.prog bad [] [] [(172, isFn 325)]) 1000 60 10 m509.args m509.h) m509.v m509.h' = true := by kernel_rfl
theorem m509_ok {σ : Nat → Int} {W0 : World} (hL : L0 W0) : MemoOk Tryz.prog 1023 σ W0 10 m509 := memo_ok fit (Known2.nil σ) (FnsOk.cons (ext_is hL) (FnsOk.nil)) m509_run
noncomputable def h1012 : H := hUpd h1011 3265 [] [] []
noncomputable def h1013 : H := hUpc h996 3266 [] [] [] [(68, 0, 8, I 25)]
noncomputable def m510 : Memo := ⟨[.ptr 68 0, I 24], h1012, .agg [IZ (-1), I 0, I 0, U 0, I 0, U 0, IZ (-1), I 0], h1013⟩
theorem m510_run : ranTo (evCall (cxX Tryz.prog bad [] [] [(172, isFn 325)]) 1000 60 10 m510.args m510.h) m510.v m510.h' = true := by kernel_rfl
theorem m510_ok {σ : Nat → Int} {W0 : World} (hL : L0 W0) : MemoOk Tryz.prog 1023 σ W0 10 m510 := memo_ok fit (Known2.nil σ) (FnsOk.cons (ext_is hL) (FnsOk.nil)) m510_run
noncomputable def h1014 : H := hUpd h1013 3267 [] [] []
noncomputable def h1015 : H := hUpc h996 3268 [] [] [] [(68, 0, 8, I 26)]
noncomputable def m511 : Memo := ⟨[.ptr 68 0, I 25], h1014, .agg [IZ (-1), I 0, I 0, U 0, I 0, U 0, IZ (-1), I 0], h1015⟩
theorem m511_run : ranTo (evCall (cxX Tryz.prog bad [] [] [(172, isFn 325)]) 1000 60 10 m511.args m511.h) m511.v m511.h' = true := by kernel_rfl
theorem m511_ok {σ : Nat → Int} {W0 : World} (hL : L0 W0) : MemoOk Tryz.prog 1023 σ W0 10 m511 := memo_ok fit (Known2.nil σ) (FnsOk.cons (ext_is hL) (FnsOk.nil)) m511_run
noncomputable def h1016 : H := hUpd h1015 3269 [] [] []
noncomputable def h1017 : H := hUpc h996 3270 [] [] [] [(68, 0, 8, I 27)]
noncomputable def m512 : Memo := ⟨[.ptr 68 0, I 26], h1016, .agg [IZ (-1), I 0, I 0, U 0, I 0, U 0, IZ (-1), I 0], h1017⟩
theorem m512_run : ranTo (evCall (cxX Tryz.prog bad [] [] [(172, isFn 325)]) 1000 60 10 m512.args m512.h) m512.v m512.h' = true := by kernel_rfl
theorem m512_ok {σ : Nat → Int} {W0 : World} (hL : L0 W0) : MemoOk Tryz.prog 1023 σ W0 10 m512 := memo_ok fit (Known2.nil σ) (FnsOk.cons (ext_is hL) (FnsOk.nil)) m512_run
noncomputable def h1018 : H := hUpd h1017 3271 [] [] []
noncomputable def h1019 : H := hUpc h996 3272 [] [] [] [(68, 0, 8, I 28)]
noncomputable def m513 : Memo := ⟨[.ptr 68 0, I 27], h1018, .agg [IZ (-1), I 0, I 0, U 0, I 0, U 0, IZ (-1), I 0], h1019⟩
theorem m513_run : ranTo (evCall (cxX Tryz.prog bad [] [] [(172, isFn 325)]) 1000 60 10 m513.args m513.h) m513.v m513.h' = true := by kernel_rfl
theorem m513_ok {σ : Nat → Int} {W0 : World} (hL : L0 W0) : MemoOk Tryz.prog 1023 σ W0 10 m513 := memo_ok fit (Known2.nil σ) (FnsOk.cons (ext_is hL) (FnsOk.nil)) m513_run
noncomputable def h1020 : H := hUpd h1019 3273 [] [] []
noncomputable def h1021 : H := hUpc h996 3274 [] [] [] [(68, 0, 8, I 29)]
noncomputable def m514 : Memo := ⟨[.ptr 68 0, I 28], h1020, .agg [IZ (-1), I 0, I 0, U 0, I 0, U 0, IZ (-1), I 0], h1021⟩
theorem m514_run : ranTo (evCall (cxX Tryz.prog bad [] [] [(172, isFn 325)]) 1000 60 10 m514.args m514.h) m514.v m514.h' = true := by kernel_rfl
theorem m514_ok {σ : Nat → Int} {W0 : World} (hL : L0 W0) : MemoOk Tryz.prog 1023 σ W0 10 m514 := memo_ok fit (Known2.nil σ) (FnsOk.cons (ext_is hL) (FnsOk.nil)) m514_run
noncomputable def h1022 : H := hUpd h1021 3275 [] [] []
noncomputable def h1023 : H := hUpc h996 3276 [] [] [] [(68, 0, 8, I 30)]
noncomputable def m515 : Memo := ⟨[.ptr 68 0, I 29], h1022, .agg [IZ (-1), I 0, I 0, U 0, I 0, U 0, IZ (-1), I 0], h1023⟩
theorem m515_run : ranTo (evCall (cxX Tryz.prog bad [] [] [(172, isFn 325)]) 1000 60 10 m515.args m515.h) m515.v m515.h' = true := by kernel_rfl
theorem m515_ok {σ : Nat → Int} {W0 : World} (hL : L0 W0) : MemoOk Tryz.prog 1023 σ W0 10 m515 := memo_ok fit (Known2.nil σ) (FnsOk.cons (ext_is hL) (FnsOk.nil)) m515_run
noncomputable def h1024 : H := hUpd h1023 3277 [] [] []
noncomputable def h1025 : H := hUpc h996 3278 [] [] [] [(68, 0, 8, I 31)]
noncomputable def m516 : Memo := ⟨[.ptr 68 0, I 30], h1024, .agg [IZ (-1), I 0, I 0, U 0, I 0, U 0, IZ (-1), I 0], h1025⟩
theorem m516_run : ranTo (evCall (cxX Tryz.prog bad [] [] [(172, isFn 325)]) 1000 60 10 m516.args m516.h) m516.v m516.h' = true := by kernel_rfl
theorem m516_ok {σ : Nat → Int} {W0 : World} (hL : L0 W0) : MemoOk Tryz.prog 1023 σ W0 10 m516 := memo_ok fit (Known2.nil σ) (FnsOk.cons (ext_is hL) (FnsOk.nil)) m516_run
noncomputable def h1026 : H := hUpd h1025 3279 [] [] []
noncomputable def h1027 : H := hUpc h996 3280 [] [] [] [(68, 0, 8, I 32)]
noncomputable def m517 : Memo := ⟨[.ptr 68 0, I 31], h1026, .agg [IZ (-1), I 0, I 0, U 0, I 0, U 0, IZ (-1), I 0], h1027⟩
theorem m517_run : ranTo (evCall (cxX Tryz.prog bad [] [] [(172, isFn 325)]) 1000 60 10 m517.args m517.h) m517.v m517.h' = true := by kernel_rfl
theorem m517_ok {σ : Nat → Int} {W0 : World} (hL : L0 W0) : MemoOk Tryz.prog 1023 σ W0 10 m517 := memo_ok fit (Known2.nil σ) (FnsOk.cons (ext_is hL) (FnsOk.nil)) m517_run
noncomputable def h1028 : H := hUpd h1027 3281 [] [] []
noncomputable def h1029 : H := hUpc h996 3282 [] [] [] [(68, 0, 8, I 33)]
noncomputable def m518 : Memo := ⟨[.ptr 68 0, I 32], h1028, .agg [IZ (-1), I 0, I 0, U 0, I 0, U 0, IZ (-1), I 0], h1029⟩
theorem m518_run : ranTo (evCall (cxX Tryz.prog bad [] [] [(172, isFn 325)]) 1000 60 10 m518.args m518.h) m518.v m518.h' = true := by kernel_rfl
theorem m518_ok {σ : Nat → Int} {W0 : World} (hL : L0 W0) : MemoOk Tryz.prog 1023 σ W0 10 m518 := memo_ok fit (Known2.nil σ) (FnsOk.cons (ext_is hL) (FnsOk.nil)) m518_run
noncomputable def h1030 : H := hUpd h1029 3283 [] [] []
noncomputable def h1031 : H := hUpc h996 3284 [] [] [] [(68, 0, 8, I 34)]
noncomputable def m519 : Memo := ⟨[.ptr 68 0, I 33], h1030, .agg [IZ (-1), I 0, I 0, U 0, I 0, U 0, IZ (-1), I 0], h1031⟩
theorem m519_run : ranTo (evCall (cxX Tryz.prog bad [] [] [(172, isFn 325)]) 1000 60 10 m519.args m519.h) m519.v m519.h' = true := by kernel_rfl
theorem m519_ok {σ : Nat → Int} {W0 : World} (hL : L0 W0) : MemoOk Tryz.prog 1023 σ W0 10 m519 := memo_ok fit (Known2.nil σ) (FnsOk.cons (ext_is hL) (FnsOk.nil)) m519_run
noncomputable def h1032 : H := hUpd h1031 3285 [] [] []
noncomputable def h1033 : H := hUpc h996 3286 [] [] [] [(68, 0, 8, I 35)]
noncomputable def m520 : Memo := ⟨[.ptr 68 0, I 34], h1032, .agg [IZ (-1), I 0, I 0, U 0, I 0, U 0, IZ (-1), I 0], h1033⟩
theorem m520_run : ranTo (evCall (cxX Tryz.prog bad [] [] [(172, isFn 325)]) 1000 60 10 m520.args m520.h) m520.v m520.h' = true := by kernel_rfl
theorem m520_ok {σ : Nat → Int} {W0 : World} (hL : L0 W0) : MemoOk Tryz.prog 1023 σ W0 10 m520 := memo_ok fit (Known2.nil σ) (FnsOk.cons (ext_is hL) (FnsOk.nil)) m520_run
noncomputable def h1034 : H := hUpd h1033 3287 [] [] []
noncomputable def h1035 : H := hUpc h996 3288 [] [] [] [(68, 0, 8, I 36)]
noncomputable def m521 : Memo := ⟨[.ptr 68 0, I 35], h1034, .agg [IZ (-1), I 0, I 0, U 0, I 0, U 0, IZ (-1), I 0], h1035⟩
theorem m521_run : ranTo (evCall (cxX Tryz.prog bad [] [] [(172, isFn 325)]) 1000 60 10 m521.args m521.h) m521.v m521.h' = true := by kernel_rfl
theorem m521_ok {σ : Nat → Int} {W0 : World} (hL : L0 W0) : MemoOk Tryz.prog 1023 σ W0 10 m521 := memo_ok fit (Known2.nil σ) (FnsOk.cons (ext_is hL) (FnsOk.nil)) m521_run
noncomputable def h1036 : H := hUpd h1035 3289 [] [] []
noncomputable def h1037 : H := hUpc h997 3290 [] [] [] [(68, 0, 8, I 37)]
noncomputable def m522 : Memo := ⟨[.ptr 68 0, I 36], h1036, .agg [IZ (-1), I 0, I 0, U 0, I 0, U 0, IZ (-1), I 0], h1037⟩
theorem m522_run : ranTo (evCall (cxX Tryz.prog bad [] [] [(172, isFn 325)]) 1000 60 10 m522.args m522.h) m522.v m522.h' = true := by kernel_rfl
theorem m522_ok {σ : Nat → Int} {W0 : World} (hL : L0 W0) : MemoOk Tryz.prog 1023 σ W0 10 m522 := memo_ok fit (Known2.nil σ) (FnsOk.cons (ext_is hL) (FnsOk.nil)) m522_run
noncomputable def h1038 : H := hUpd h1037 3291 [] [] []
noncomputable def h1039 : H := hUpc h999 3292 [] [] [] [(68, 0, 8, I 38)]
noncomputable def m523 : Memo := ⟨[.ptr 68 0, I 37], h1038, .agg [IZ (-1), I 0, I 0, U 0, I 0, U 0, IZ (-1), I 0], h1039⟩
theorem m523_run : ranTo (evCall (cxX Tryz.prog bad [] [] [(172, isFn 325)]) 1000 60 10 m523.args m523.h) m523.v m523.h' = true := by kernel_rfl
theorem m523_ok {σ : Nat → Int} {W0 : World} (hL : L0 W0) : MemoOk Tryz.prog 1023 σ W0 10 m523 := memo_ok fit (Known2.nil σ) (FnsOk.cons (ext_is hL) (FnsOk.nil)) m523_run
noncomputable def h1040 : H := hUpd h1039 3293 [] [] []
noncomputable def h1041 : H := hUpc h1001 3294 [] [] [] [(68, 0, 8, I 39)]
noncomputable def m524 : Memo := ⟨[.ptr 68 0, I 38], h1040, .agg [IZ (-1), I 0, I 0, U 0, I 0, U 0, IZ (-1), I 0], h1041⟩
theorem m524_run : ranTo (evCall (cxX Tryz.prog bad [] [] [(172, isFn 325)]) 1000 60 10 m524.args m524.h) m524.v m524.h' = true := by kernel_rfl
theorem m524_ok {σ : Nat → Int} {W0 : World} (hL : L0 W0) : MemoOk Tryz.prog 1023 σ W0 10 m524 := memo_ok fit (Known2.nil σ) (FnsOk.cons (ext_is hL) (FnsOk.nil)) m524_run
theorem run15 : lawF Tryz.prog bad [] ((6, numExtE [(0, 30, .var 2), (1, 40, .var 3)]) :: (9, frameFn [m5]) :: (10, frameFn [m45, m84, m122, m159, m195, m230, m264, m297, m329, m360, m390, m419, m447, m474, m500, m501, m502, m503, m504, m505, m506, m507, m508, m509, m510, m511, m512, m513, m514, m515, m516, m517, m518, m519, m520, m521, m522, m523, m524]) :: q0) 1000 60 4 [.int .i64 (.var 0), .int .i64 (.var 1)] [((-9223372036854775808), 9223372036854775807), ((-9223372036854775808), 9223372036854775807), (15, 15), (0, 39)] (peels 39 3) (sentH 325 10 errTab) = true := by kernel_rfl
theorem case15 {σ : Nat → Int} {W : World} (hL : L0 W) (hk : Known2 σ [((-9223372036854775808), 9223372036854775807), ((-9223372036854775808), 9223372036854775807), (15, 15), (0, 39)] []) (hT : TabOk Tryz.prog bad 6 σ [(0, 30, .var 2), (1, 40, .var 3)]) {xs : Array Value} (hv : ∀ ρ, VRs σ ρ [.int .i64 (.var 0), .int .i64 (.var 1)] xs.toList) : Calls Tryz.prog 4 xs W fun e w' => e = .returned (.bool true) ∧ Below W.heap.size W w' := by
  obtain ⟨ads, h1, h2, h3⟩ := errs_sents hL
  exact law_case_f fit h1 h2 h3 errs_all errs_lt (by kernel_rfl) hk (FnsOk.cons (hT.ok fit) (FnsOk.cons (frame_fn_ok (all_cons (m5_ok hL (hk.relax (r' := [((-9223372036854775808), 9223372036854775807), ((-9223372036854775808), 9223372036854775807), (0, 29), (0, 39)]) (by kernel_rfl))) (all_nil))) (FnsOk.cons (frame_fn_ok (all_cons (m45_ok hL (hk.relax (r' := [((-9223372036854775808), 9223372036854775807), ((-9223372036854775808), 9223372036854775807), (1, 29), (0, 39)]) (by kernel_rfl))) (all_cons (m84_ok hL (hk.relax (r' := [((-9223372036854775808), 9223372036854775807), ((-9223372036854775808), 9223372036854775807), (2, 29), (0, 39)]) (by kernel_rfl))) (all_cons (m122_ok hL (hk.relax (r' := [((-9223372036854775808), 9223372036854775807), ((-9223372036854775808), 9223372036854775807), (3, 29), (0, 39)]) (by kernel_rfl))) (all_cons (m159_ok hL (hk.relax (r' := [((-9223372036854775808), 9223372036854775807), ((-9223372036854775808), 9223372036854775807), (4, 29), (0, 39)]) (by kernel_rfl))) (all_cons (m195_ok hL (hk.relax (r' := [((-9223372036854775808), 9223372036854775807), ((-9223372036854775808), 9223372036854775807), (5, 29), (0, 39)]) (by kernel_rfl))) (all_cons (m230_ok hL (hk.relax (r' := [((-9223372036854775808), 9223372036854775807), ((-9223372036854775808), 9223372036854775807), (6, 29), (0, 39)]) (by kernel_rfl))) (all_cons (m264_ok hL (hk.relax (r' := [((-9223372036854775808), 9223372036854775807), ((-9223372036854775808), 9223372036854775807), (7, 29), (0, 39)]) (by kernel_rfl))) (all_cons (m297_ok hL (hk.relax (r' := [((-9223372036854775808), 9223372036854775807), ((-9223372036854775808), 9223372036854775807), (8, 29), (0, 39)]) (by kernel_rfl))) (all_cons (m329_ok hL (hk.relax (r' := [((-9223372036854775808), 9223372036854775807), ((-9223372036854775808), 9223372036854775807), (9, 29), (0, 39)]) (by kernel_rfl))) (all_cons (m360_ok hL (hk.relax (r' := [((-9223372036854775808), 9223372036854775807), ((-9223372036854775808), 9223372036854775807), (10, 29), (0, 39)]) (by kernel_rfl))) (all_cons (m390_ok hL (hk.relax (r' := [((-9223372036854775808), 9223372036854775807), ((-9223372036854775808), 9223372036854775807), (11, 29), (0, 39)]) (by kernel_rfl))) (all_cons (m419_ok hL (hk.relax (r' := [((-9223372036854775808), 9223372036854775807), ((-9223372036854775808), 9223372036854775807), (12, 29), (0, 39)]) (by kernel_rfl))) (all_cons (m447_ok hL (hk.relax (r' := [((-9223372036854775808), 9223372036854775807), ((-9223372036854775808), 9223372036854775807), (13, 29), (0, 39)]) (by kernel_rfl))) (all_cons (m474_ok hL (hk.relax (r' := [((-9223372036854775808), 9223372036854775807), ((-9223372036854775808), 9223372036854775807), (14, 29), (0, 39)]) (by kernel_rfl))) (all_cons (m500_ok hL (hk.relax (r' := [((-9223372036854775808), 9223372036854775807), ((-9223372036854775808), 9223372036854775807), (15, 29), (0, 39)]) (by kernel_rfl))) (all_cons (m501_ok hL hk) (all_cons (m502_ok hL) (all_cons (m503_ok hL) (all_cons (m504_ok hL) (all_cons (m505_ok hL) (all_cons (m506_ok hL) (all_cons (m507_ok hL) (all_cons (m508_ok hL) (all_cons (m509_ok hL) (all_cons (m510_ok hL) (all_cons (m511_ok hL) (all_cons (m512_ok hL) (all_cons (m513_ok hL) (all_cons (m514_ok hL) (all_cons (m515_ok hL) (all_cons (m516_ok hL) (all_cons (m517_ok hL) (all_cons (m518_ok hL) (all_cons (m519_ok hL) (all_cons (m520_ok hL) (all_cons (m521_ok hL) (all_cons (m522_ok hL) (all_cons (m523_ok hL) (all_cons (m524_ok hL) (all_nil))))))))))))))))))))))))))))))))))))))))) ((q0_ok hL))))) hv run15
noncomputable def h1042 : H := hUpc h1002 3130 [] [(34, .cells 107 ((rp 8 (U 0) ((U 1) :: (I 3) :: rp 5 (I 0) ((U 0) :: rp 4 (I 0) ((U 0) :: rp 4 (I 0) ((U 0) :: rp 4 (I 0) ((U 0) :: rp 4 (I 0) ((U 0) :: rp 4 (I 0) ((U 0) :: rp 4 (I 0) ((U 0) :: rp 4 (I 0) ((U 0) :: rp 4 (I 0) ((U 0) :: rp 4 (I 0) ((U 0) :: rp 4 (I 0) ((U 0) :: rp 4 (I 0) ((U 0) :: rp 4 (I 0) ((U 0) :: rp 4 (I 0) ((U 0) :: rp 4 (I 0) ((U 0) :: rp 4 (I 0) ((U 0) :: (I 3) :: (I 0) :: (I 0) :: (I 0) :: (U 0) :: (I 7) :: (I 0) :: (I 0) :: (I 0) :: (U 0) :: rp 4 (I 0) ([U 0, I 0]))))))))))))))))))) :: rp 5 (rp 9 (U 0) (rp 6 (I 0) ((U 0) :: rp 4 (I 0) ((U 0) :: rp 4 (I 0) ((U 0) :: rp 4 (I 0) ((U 0) :: rp 4 (I 0) ((U 0) :: rp 4 (I 0) ((U 0) :: rp 4 (I 0) ((U 0) :: rp 4 (I 0) ((U 0) :: rp 4 (I 0) ((U 0) :: rp 4 (I 0) ((U 0) :: rp 4 (I 0) ((U 0) :: rp 4 (I 0) ((U 0) :: rp 4 (I 0) ((U 0) :: rp 4 (I 0) ((U 0) :: rp 4 (I 0) ((U 0) :: rp 4 (I 0) ((U 0) :: rp 4 (I 0) ((U 0) :: rp 4 (I 0) ((U 0) :: rp 4 (I 0) ([U 0, I 0]))))))))))))))))))))) ([])) false),
  (56, .cells 2 ([IZ (-1), .int .i64 (.sub (.var 2) (.lit 15))] :: rp 7 ([I 0, I 0]) ([])) false),
  (27, .cells 32 (((U 201326592) :: (U 67108864) :: rp 30 (U 0) ([])) :: rp 11 (rp 32 (U 0) ([])) ([])) false)] [(67, 0, [.slice 365 0 1 1 1 false])] [(68, 0, 8, I 15)]
noncomputable def h1043 : H := hUpc h1042 3299 [] [] [(30, 0, [I 16, .slice 663 0 1 1 10 false, I 15]),
  (56, 0, [IZ (-1), .int .i64 (.sub (.var 2) (.lit 16))])] [(34, 0, 8, U 0), (68, 0, 8, I 16)]
noncomputable def m525 : Memo := ⟨[.ptr 68 0, I 15], h1042, .agg [I 0, I 1, I 0, U 0, I 0, U 0, IZ (-1), I 0], h1043⟩
theorem m525_run : ranTo (evCall (cxX Tryz.prog bad [((-9223372036854775808), 9223372036854775807), ((-9223372036854775808), 9223372036854775807), (16, 29), (0, 39)] [] [(51, pureFn [p4, p2, p3]), (172, isFn 325)]) 1000 60 10 m525.args m525.h) m525.v m525.h' = true := by kernel_rfl
theorem m525_ok {σ : Nat → Int} {W0 : World} (hL : L0 W0) (hk : Known2 σ [((-9223372036854775808), 9223372036854775807), ((-9223372036854775808), 9223372036854775807), (16, 29), (0, 39)] []) : MemoOk Tryz.prog 1023 σ W0 10 m525 := memo_ok fit hk (FnsOk.cons (pure_fn_ok (all_cons (p4_ok hL) (all_cons (p2_ok hL) (all_cons (p3_ok hL) (all_nil))))) (FnsOk.cons (ext_is hL) (FnsOk.nil))) m525_run
noncomputable def h1044 : H := hUpd h1043 3300 [27] [] []
noncomputable def h1045 : H := hUpc h1044 3418 [] [] [(67, 0, [.slice 365 0 0 1 1 false])] [(34, 0, 9, I 4), (34, 0, 10, I 6), (68, 0, 8, I 17)]
noncomputable def m526 : Memo := ⟨[.ptr 68 0, I 16], h1044, .agg [I 0, I 5, I 0, U 0, I 0, U 0, IZ (-1), I 6], h1045⟩
theorem m526_run : ranTo (evCall (cxX Tryz.prog bad [((-9223372036854775808), 9223372036854775807), ((-9223372036854775808), 9223372036854775807), (16, 16), (0, 39)] [] [(51, pureFn [p4, p2, p3]), (172, isFn 325)]) 1000 60 10 m526.args m526.h) m526.v m526.h' = true := by kernel_rfl
theorem m526_ok {σ : Nat → Int} {W0 : World} (hL : L0 W0) (hk : Known2 σ [((-9223372036854775808), 9223372036854775807), ((-9223372036854775808), 9223372036854775807), (16, 16), (0, 39)] []) : MemoOk Tryz.prog 1023 σ W0 10 m526 := memo_ok fit hk (FnsOk.cons (pure_fn_ok (all_cons (p4_ok hL) (all_cons (p2_ok hL) (all_cons (p3_ok hL) (all_nil))))) (FnsOk.cons (ext_is hL) (FnsOk.nil))) m526_run
noncomputable def h1046 : H := hUpd h1045 3419 [34, 56] [] []
noncomputable def h1047 : H := hUpc h1046 3420 [] [] [] [(68, 0, 8, I 18)]
noncomputable def m527 : Memo := ⟨[.ptr 68 0, I 17], h1046, .agg [IZ (-1), I 0, I 0, U 0, I 0, U 0, IZ (-1), I 0], h1047⟩
theorem m527_run : ranTo (evCall (cxX Tryz.prog bad [] [] [(172, isFn 325)]) 1000 60 10 m527.args m527.h) m527.v m527.h' = true := by kernel_rfl
theorem m527_ok {σ : Nat → Int} {W0 : World} (hL : L0 W0) : MemoOk Tryz.prog 1023 σ W0 10 m527 := memo_ok fit (Known2.nil σ) (FnsOk.cons (ext_is hL) (FnsOk.nil)) m527_run
noncomputable def h1048 : H := hUpd h1047 3421 [] [] []
noncomputable def h1049 : H := hUpc h1046 3422 [] [] [] [(68, 0, 8, I 19)]
noncomputable def m528 : Memo := ⟨[.ptr 68 0, I 18], h1048, .agg [IZ (-1), I 0, I 0, U 0, I 0, U 0, IZ (-1), I 0], h1049⟩
theorem m528_run : ranTo (evCall (cxX Tryz.prog bad [] [] [(172, isFn 325)]) 1000 60 10 m528.args m528.h) m528.v m528.h' = true := by kernel_rfl
theorem m528_ok {σ : Nat → Int} {W0 : World} (hL : L0 W0) : MemoOk Tryz.prog 1023 σ W0 10 m528 := memo_ok fit (Known2.nil σ) (FnsOk.cons (ext_is hL) (FnsOk.nil)) m528_run
noncomputable def h1050 : H := hUpd h1049 3423 [] [] []
noncomputable def h1051 : H := hUpc h1046 3424 [] [] [] [(68, 0, 8, I 20)]
noncomputable def m529 : Memo := ⟨[.ptr 68 0, I 19], h1050, .agg [IZ (-1), I 0, I 0, U 0, I 0, U 0, IZ (-1), I 0], h1051⟩
theorem m529_run : ranTo (evCall (cxX Tryz.prog bad [] [] [(172, isFn 325)]) 1000 60 10 m529.args m529.h) m529.v m529.h' = true := by kernel_rfl
theorem m529_ok {σ : Nat → Int} {W0 : World} (hL : L0 W0) : MemoOk Tryz.prog 1023 σ W0 10 m529 := memo_ok fit (Known2.nil σ) (FnsOk.cons (ext_is hL) (FnsOk.nil)) m529_run
noncomputable def h1052 : H := hUpd h1051 3425 [] [] []
noncomputable def h1053 : H := hUpc h1046 3426 [] [] [] [(68, 0, 8, I 21)]
noncomputable def m530 : Memo := ⟨[.ptr 68 0, I 20], h1052, .agg [IZ (-1), I 0, I 0, U 0, I 0, U 0, IZ (-1), I 0], h1053⟩
theorem m530_run : ranTo (evCall (cxX Tryz.prog bad [] [] [(172, isFn 325)]) 1000 60 10 m530.args m530.h) m530.v m530.h' = true := by kernel_rfl
theorem m530_ok {σ : Nat → Int} {W0 : World} (hL : L0 W0) : MemoOk Tryz.prog 1023 σ W0 10 m530 := memo_ok fit (Known2.nil σ) (FnsOk.cons (ext_is hL) (FnsOk.nil)) m530_run
noncomputable def h1054 : H := hUpd h1053 3427 [] [] []
noncomputable def h1055 : H := hUpc h1046 3428 [] [] [] [(68, 0, 8, I 22)]
noncomputable def m531 : Memo := ⟨[.ptr 68 0, I 21], h1054, .agg [IZ (-1), I 0, I 0, U 0, I 0, U 0, IZ (-1), I 0], h1055⟩
theorem m531_run : ranTo (evCall (cxX Tryz.prog bad [] [] [(172, isFn 325)]) 1000 60 10 m531.args m531.h) m531.v m531.h' = true := by kernel_rfl
theorem m531_ok {σ : Nat → Int} {W0 : World} (hL : L0 W0) : MemoOk Tryz.prog 1023 σ W0 10 m531 := memo_ok fit (Known2.nil σ) (FnsOk.cons (ext_is hL) (FnsOk.nil)) m531_run
noncomputable def h1056 : H := hUpd h1055 3429 [] [] []
noncomputable def h1057 : H := hUpc h1046 3430 [] [] [] [(68, 0, 8, I 23)]
noncomputable def m532 : Memo := ⟨[.ptr 68 0, I 22], h1056, .agg [IZ (-1), I 0, I 0, U 0, I 0, U 0, IZ (-1), I 0], h1057⟩
theorem m532_run : ranTo (evCall (cxX Tryz.prog bad [] [] [(172, isFn 325)]) 1000 60 10 m532.args m532.h) m532.v m532.h' = true := by kernel_rfl
theorem m532_ok {σ : Nat → Int} {W0 : World} (hL : L0 W0) : MemoOk Tryz.prog 1023 σ W0 10 m532 := memo_ok fit (Known2.nil σ) (FnsOk.cons (ext_is hL) (FnsOk.nil)) m532_run
noncomputable def h1058 : H := hUpd h1057 3431 [] [] []
noncomputable def h1059 : H := hUpc h1046 3432 [] [] [] [(68, 0, 8, I 24)]
noncomputable def m533 : Memo := ⟨[.ptr 68 0, I 23], h1058, .agg [IZ (-1), I 0, I 0, U 0, I 0, U 0, IZ (-1), I 0], h1059⟩
theorem m533_run : ranTo (evCall (cxX Tryz.prog bad [] [] [(172, isFn 325)]) 1000 60 10 m533.args m533.h) m533.v m533.h' = true := by kernel_rfl
theorem m533_ok {σ : Nat → Int} {W0 : World} (hL : L0 W0) : MemoOk Tryz.prog 1023 σ W0 10 m533 := memo_ok fit (Known2.nil σ) (FnsOk.cons (ext_is hL) (FnsOk.nil)) m533_run
noncomputable def h1060 : H := hUpd h1059 3433 [] [] []
noncomputable def h1061 : H := hUpc h1046 3434 [] [] [] [(68, 0, 8, I 25)]
noncomputable def m534 : Memo := ⟨[.ptr 68 0, I 24], h1060, .agg [IZ (-1), I 0, I 0, U 0, I 0, U 0, IZ (-1), I 0], h1061⟩
theorem m534_run : ranTo (evCall (cxX Tryz.prog bad [] [] [(172, isFn 325)]) 1000 60 10 m534.args m534.h) m534.v m534.h' = true := by kernel_rfl
theorem m534_ok {σ : Nat → Int} {W0 : World} (hL : L0 W0) : MemoOk Tryz.prog 1023 σ W0 10 m534 := memo_ok fit (Known2.nil σ) (FnsOk.cons (ext_is hL) (FnsOk.nil)) m534_run
noncomputable def h1062 : H := hUpd h1061 3435 [] [] []
noncomputable def h1063 : H := hUpc h1046 3436 [] [] [] [(68, 0, 8, I 26)]
noncomputable def m535 : Memo := ⟨[.ptr 68 0, I 25], h1062, .agg [IZ (-1), I 0, I 0, U 0, I 0, U 0, IZ (-1), I 0], h1063⟩
theorem m535_run : ranTo (evCall (cxX Tryz.prog bad [] [] [(172, isFn 325)]) 1000 60 10 m535.args m535.h) m535.v m535.h' = true := by kernel_rfl
theorem m535_ok {σ : Nat → Int} {W0 : World} (hL : L0 W0) : MemoOk Tryz.prog 1023 σ W0 10 m535 := memo_ok fit (Known2.nil σ) (FnsOk.cons (ext_is hL) (FnsOk.nil)) m535_run
noncomputable def h1064 : H := hUpd h1063 3437 [] [] []
noncomputable def h1065 : H := hUpc h1046 3438 [] [] [] [(68, 0, 8, I 27)]
noncomputable def m536 : Memo := ⟨[.ptr 68 0, I 26], h1064, .agg [IZ (-1), I 0, I 0, U 0, I 0, U 0, IZ (-1), I 0], h1065⟩
theorem m536_run : ranTo (evCall (cxX Tryz.prog bad [] [] [(172, isFn 325)]) 1000 60 10 m536.args m536.h) m536.v m536.h' = true := by kernel_rfl
theorem m536_ok {σ : Nat → Int} {W0 : World} (hL : L0 W0) : MemoOk Tryz.prog 1023 σ W0 10 m536 := memo_ok fit (Known2.nil σ) (FnsOk.cons (ext_is hL) (FnsOk.nil)) m536_run
noncomputable def h1066 : H := hUpd h1065 3439 [] [] []
noncomputable def h1067 : H := hUpc h1046 3440 [] [] [] [(68, 0, 8, I 28)]
noncomputable def m537 : Memo := ⟨[.ptr 68 0, I 27], h1066, .agg [IZ (-1), I 0, I 0, U 0, I 0, U 0, IZ (-1), I 0], h1067⟩
theorem m537_run : ranTo (evCall (cxX Tryz.prog bad [] [] [(172, isFn 325)]) 1000 60 10 m537.args m537.h) m537.v m537.h' = true := by kernel_rfl
theorem m537_ok {σ : Nat → Int} {W0 : World} (hL : L0 W0) : MemoOk Tryz.prog 1023 σ W0 10 m537 := memo_ok fit (Known2.nil σ) (FnsOk.cons (ext_is hL) (FnsOk.nil)) m537_run
noncomputable def h1068 : H := hUpd h1067 3441 [] [] []
noncomputable def h1069 : H := hUpc h1046 3442 [] [] [] [(68, 0, 8, I 29)]
noncomputable def m538 : Memo := ⟨[.ptr 68 0, I 28], h1068, .agg [IZ (-1), I 0, I 0, U 0, I 0, U 0, IZ (-1), I 0], h1069⟩
theorem m538_run : ranTo (evCall (cxX Tryz.prog bad [] [] [(172, isFn 325)]) 1000 60 10 m538.args m538.h) m538.v m538.h' = true := by kernel_rfl
theorem m538_ok {σ : Nat → Int} {W0 : World} (hL : L0 W0) : MemoOk Tryz.prog 1023 σ W0 10 m538 := memo_ok fit (Known2.nil σ) (FnsOk.cons (ext_is hL) (FnsOk.nil)) m538_run
noncomputable def h1070 : H := hUpd h1069 3443 [] [] []
noncomputable def h1071 : H := hUpc h1046 3444 [] [] [] [(68, 0, 8, I 30)]
noncomputable def m539 : Memo := ⟨[.ptr 68 0, I 29], h1070, .agg [IZ (-1), I 0, I 0, U 0, I 0, U 0, IZ (-1), I 0], h1071⟩
theorem m539_run : ranTo (evCall (cxX Tryz.prog bad [] [] [(172, isFn 325)]) 1000 60 10 m539.args m539.h) m539.v m539.h' = true := by kernel_rfl
theorem m539_ok {σ : Nat → Int} {W0 : World} (hL : L0 W0) : MemoOk Tryz.prog 1023 σ W0 10 m539 := memo_ok fit (Known2.nil σ) (FnsOk.cons (ext_is hL) (FnsOk.nil)) m539_run
noncomputable def h1072 : H := hUpd h1071 3445 [] [] []
noncomputable def h1073 : H := hUpc h1046 3446 [] [] [] [(68, 0, 8, I 31)]
noncomputable def m540 : Memo := ⟨[.ptr 68 0, I 30], h1072, .agg [IZ (-1), I 0, I 0, U 0, I 0, U 0, IZ (-1), I 0], h1073⟩
theorem m540_run : ranTo (evCall (cxX Tryz.prog bad [] [] [(172, isFn 325)]) 1000 60 10 m540.args m540.h) m540.v m540.h' = true := by kernel_rfl
theorem m540_ok {σ : Nat → Int} {W0 : World} (hL : L0 W0) : MemoOk Tryz.prog 1023 σ W0 10 m540 := memo_ok fit (Known2.nil σ) (FnsOk.cons (ext_is hL) (FnsOk.nil)) m540_run
noncomputable def h1074 : H := hUpd h1073 3447 [] [] []
noncomputable def h1075 : H := hUpc h1046 3448 [] [] [] [(68, 0, 8, I 32)]
noncomputable def m541 : Memo := ⟨[.ptr 68 0, I 31], h1074, .agg [IZ (-1), I 0, I 0, U 0, I 0, U 0, IZ (-1), I 0], h1075⟩
theorem m541_run : ranTo (evCall (cxX Tryz.prog bad [] [] [(172, isFn 325)]) 1000 60 10 m541.args m541.h) m541.v m541.h' = true := by kernel_rfl
theorem m541_ok {σ : Nat → Int} {W0 : World} (hL : L0 W0) : MemoOk Tryz.prog 1023 σ W0 10 m541 := memo_ok fit (Known2.nil σ) (FnsOk.cons (ext_is hL) (FnsOk.nil)) m541_run
noncomputable def h1076 : H := hUpd h1075 3449 [] [] []
noncomputable def h1077 : H := hUpc h1046 3450 [] [] [] [(68, 0, 8, I 33)]
noncomputable def m542 : Memo := ⟨[.ptr 68 0, I 32], h1076, .agg [IZ (-1), I 0, I 0, U 0, I 0, U 0, IZ (-1), I 0], h1077⟩
theorem m542_run : ranTo (evCall (cxX Tryz.prog bad [] [] [(172, isFn 325)]) 1000 60 10 m542.args m542.h) m542.v m542.h' = true := by kernel_rfl
theorem m542_ok {σ : Nat → Int} {W0 : World} (hL : L0 W0) : MemoOk Tryz.prog 1023 σ W0 10 m542 := memo_ok fit (Known2.nil σ) (FnsOk.cons (ext_is hL) (FnsOk.nil)) m542_run
noncomputable def h1078 : H := hUpd h1077 3451 [] [] []
noncomputable def h1079 : H := hUpc h1046 3452 [] [] [] [(68, 0, 8, I 34)]
noncomputable def m543 : Memo := ⟨[.ptr 68 0, I 33], h1078, .agg [IZ (-1), I 0, I 0, U 0, I 0, U 0, IZ (-1), I 0], h1079⟩
theorem m543_run : ranTo (evCall (cxX Tryz.prog bad [] [] [(172, isFn 325)]) 1000 60 10 m543.args m543.h) m543.v m543.h' = true := by kernel_rfl
theorem m543_ok {σ : Nat → Int} {W0 : World} (hL : L0 W0) : MemoOk Tryz.prog 1023 σ W0 10 m543 := memo_ok fit (Known2.nil σ) (FnsOk.cons (ext_is hL) (FnsOk.nil)) m543_run
noncomputable def h1080 : H := hUpd h1079 3453 [] [] []
noncomputable def h1081 : H := hUpc h1046 3454 [] [] [] [(68, 0, 8, I 35)]
noncomputable def m544 : Memo := ⟨[.ptr 68 0, I 34], h1080, .agg [IZ (-1), I 0, I 0, U 0, I 0, U 0, IZ (-1), I 0], h1081⟩
theorem m544_run : ranTo (evCall (cxX Tryz.prog bad [] [] [(172, isFn 325)]) 1000 60 10 m544.args m544.h) m544.v m544.h' = true := by kernel_rfl
theorem m544_ok {σ : Nat → Int} {W0 : World} (hL : L0 W0) : MemoOk Tryz.prog 1023 σ W0 10 m544 := memo_ok fit (Known2.nil σ) (FnsOk.cons (ext_is hL) (FnsOk.nil)) m544_run
noncomputable def h1082 : H := hUpd h1081 3455 [] [] []
noncomputable def h1083 : H := hUpc h1046 3456 [] [] [] [(68, 0, 8, I 36)]
noncomputable def m545 : Memo := ⟨[.ptr 68 0, I 35], h1082, .agg [IZ (-1), I 0, I 0, U 0, I 0, U 0, IZ (-1), I 0], h1083⟩
theorem m545_run : ranTo (evCall (cxX Tryz.prog bad [] [] [(172, isFn 325)]) 1000 60 10 m545.args m545.h) m545.v m545.h' = true := by kernel_rfl
theorem m545_ok {σ : Nat → Int} {W0 : World} (hL : L0 W0) : MemoOk Tryz.prog 1023 σ W0 10 m545 := memo_ok fit (Known2.nil σ) (FnsOk.cons (ext_is hL) (FnsOk.nil)) m545_run
noncomputable def h1084 : H := hUpd h1083 3457 [] [] []
noncomputable def h1085 : H := hUpc h1046 3458 [] [] [] [(68, 0, 8, I 37)]
noncomputable def m546 : Memo := ⟨[.ptr 68 0, I 36], h1084, .agg [IZ (-1), I 0, I 0, U 0, I 0, U 0, IZ (-1), I 0], h1085⟩
theorem m546_run : ranTo (evCall (cxX Tryz.prog bad [] [] [(172, isFn 325)]) 1000 60 10 m546.args m546.h) m546.v m546.h' = true := by kernel_rfl
theorem m546_ok {σ : Nat → Int} {W0 : World} (hL : L0 W0) : MemoOk Tryz.prog 1023 σ W0 10 m546 := memo_ok fit (Known2.nil σ) (FnsOk.cons (ext_is hL) (FnsOk.nil)) m546_run
noncomputable def h1086 : H := hUpd h1085 3459 [] [] []
noncomputable def h1087 : H := hUpc h1047 3460 [] [] [] [(68, 0, 8, I 38)]
noncomputable def m547 : Memo := ⟨[.ptr 68 0, I 37], h1086, .agg [IZ (-1), I 0, I 0, U 0, I 0, U 0, IZ (-1), I 0], h1087⟩
theorem m547_run : ranTo (evCall (cxX Tryz.prog bad [] [] [(172, isFn 325)]) 1000 60 10 m547.args m547.h) m547.v m547.h' = true := by kernel_rfl
theorem m547_ok {σ : Nat → Int} {W0 : World} (hL : L0 W0) : MemoOk Tryz.prog 1023 σ W0 10 m547 := memo_ok fit (Known2.nil σ) (FnsOk.cons (ext_is hL) (FnsOk.nil)) m547_run
noncomputable def h1088 : H := hUpd h1087 3461 [] [] []
noncomputable def h1089 : H := hUpc h1049 3462 [] [] [] [(68, 0, 8, I 39)]
noncomputable def m548 : Memo := ⟨[.ptr 68 0, I 38], h1088, .agg [IZ (-1), I 0, I 0, U 0, I 0, U 0, IZ (-1), I 0], h1089⟩
theorem m548_run : ranTo (evCall (cxX Tryz.prog bad [] [] [(172, isFn 325)]) 1000 60 10 m548.args m548.h) m548.v m548.h' = true := by kernel_rfl
theorem m548_ok {σ : Nat → Int} {W0 : World} (hL : L0 W0) : MemoOk Tryz.prog 1023 σ W0 10 m548 := memo_ok fit (Known2.nil σ) (FnsOk.cons (ext_is hL) (FnsOk.nil)) m548_run
theorem run16 : lawF Tryz.prog bad [] ((6, numExtE [(0, 30, .var 2), (1, 40, .var 3)]) :: (9, frameFn [m5]) :: (10, frameFn [m45, m84, m122, m159, m195, m230, m264, m297, m329, m360, m390, m419, m447, m474, m500, m525, m526, m527, m528, m529, m530, m531, m532, m533, m534, m535, m536, m537, m538, m539, m540, m541, m542, m543, m544, m545, m546, m547, m548]) :: q0) 1000 60 4 [.int .i64 (.var 0), .int .i64 (.var 1)] [((-9223372036854775808), 9223372036854775807), ((-9223372036854775808), 9223372036854775807), (16, 16), (0, 39)] (peels 39 3) (sentH 325 10 errTab) = true := by kernel_rfl
theorem case16 {σ : Nat → Int} {W : World} (hL : L0 W) (hk : Known2 σ [((-9223372036854775808), 9223372036854775807), ((-9223372036854775808), 9223372036854775807), (16, 16), (0, 39)] []) (hT : TabOk Tryz.prog bad 6 σ [(0, 30, .var 2), (1, 40, .var 3)]) {xs : Array Value} (hv : ∀ ρ, VRs σ ρ [.int .i64 (.var 0), .int .i64 (.var 1)] xs.toList) : Calls Tryz.prog 4 xs W fun e w' => e = .returned (.bool true) ∧ Below W.heap.size W w' := by
  obtain ⟨ads, h1, h2, h3⟩ := errs_sents hL
  exact law_case_f fit h1 h2 h3 errs_all errs_lt (by kernel_rfl) hk (FnsOk.cons (hT.ok fit) (FnsOk.cons (frame_fn_ok (all_cons (m5_ok hL (hk.relax (r' := [((-9223372036854775808), 9223372036854775807), ((-9223372036854775808), 9223372036854775807), (0, 29), (0, 39)]) (by kernel_rfl))) (all_nil))) (FnsOk.cons (frame_fn_ok (all_cons (m45_ok hL (hk.relax (r' := [((-9223372036854775808), 9223372036854775807), ((-9223372036854775808), 9223372036854775807), (1, 29), (0, 39)]) (by kernel_rfl))) (all_cons (m84_ok hL (hk.relax (r' := [((-9223372036854775808), 9223372036854775807), ((-9223372036854775808), 9223372036854775807), (2, 29), (0, 39)]) (by kernel_rfl))) (all_cons (m122_ok hL (hk.relax (r' := [((-9223372036854775808), 9223372036854775807), ((-9223372036854775808), 9223372036854775807), (3, 29), (0, 39)]) (by kernel_rfl))) (all_cons (m159_ok hL (hk.relax (r' := [((-9223372036854775808), 9223372036854775807), ((-9223372036854775808), 9223372036854775807), (4, 29), (0, 39)]) (by kernel_rfl))) (all_cons (m195_ok hL (hk.relax (r' := [((-9223372036854775808), 9223372036854775807), ((-9223372036854775808), 9223372036854775807), (5, 29), (0, 39)]) (by kernel_rfl))) (all_cons (m230_ok hL (hk.relax (r' := [((-9223372036854775808), 9223372036854775807), ((-9223372036854775808), 9223372036854775807), (6, 29), (0, 39)]) (by kernel_rfl))) (all_cons (m264_ok hL (hk.relax (r' := [((-9223372036854775808), 9223372036854775807), ((-9223372036854775808), 9223372036854775807), (7, 29), (0, 39)]) (by kernel_rfl))) (all_cons (m297_ok hL (hk.relax (r' := [((-9223372036854775808), 9223372036854775807), ((-9223372036854775808), 9223372036854775807), (8, 29), (0, 39)]) (by kernel_rfl))) (all_cons (m329_ok hL (hk.relax (r' := [((-9223372036854775808), 9223372036854775807), ((-9223372036854775808), 9223372036854775807), (9, 29), (0, 39)]) (by kernel_rfl))) (all_cons (m360_ok hL (hk.relax (r' := [((-9223372036854775808), 9223372036854775807), ((-9223372036854775808), 9223372036854775807), (10, 29), (0, 39)]) (by kernel_rfl))) (all_cons (m390_ok hL (hk.relax (r' := [((-9223372036854775808), 9223372036854775807), ((-9223372036854775808), 9223372036854775807), (11, 29), (0, 39)]) (by kernel_rfl))) (all_cons (m419_ok hL (hk.relax (r' := [((-9223372036854775808), 9223372036854775807), ((-9223372036854775808), 9223372036854775807), (12, 29), (0, 39)]) (by kernel_rfl))) (all_cons (m447_ok hL (hk.relax (r' := [((-9223372036854775808), 9223372036854775807), ((-9223372036854775808), 9223372036854775807), (13, 29), (0, 39)]) (by kernel_rfl))) (all_cons (m474_ok hL (hk.relax (r' := [((-9223372036854775808), 9223372036854775807), ((-9223372036854775808), 9223372036854775807), (14, 29), (0, 39)]) (by kernel_rfl))) (all_cons (m500_ok hL (hk.relax (r' := [((-9223372036854775808), 9223372036854775807), ((-9223372036854775808), 9223372036854775807), (15, 29), (0, 39)]) (by kernel_rfl))) (all_cons (m525_ok hL (hk.relax (r' := [((-9223372036854775808), 9223372036854775807), ((-9223372036854775808), 9223372036854775807), (16, 29), (0, 39)]) (by kernel_rfl))) (all_cons (m526_ok hL hk) (all_cons (m527_ok hL) (all_cons (m528_ok hL) (all_cons (m529_ok hL) (all_cons (m530_ok hL) (all_cons (m531_ok hL) (all_cons (m532_ok hL) (all_cons (m533_ok hL) (all_cons (m534_ok hL) (all_cons (m535_ok hL) (all_cons (m536_ok hL) (all_cons (m537_ok hL) (all_cons (m538_ok hL) (all_cons (m539_ok hL) (all_cons (m540_ok hL) (all_cons (m541_ok hL) (all_cons (m542_ok hL) (all_cons (m543_ok hL) (all_cons (m544_ok hL) (all_cons (m545_ok hL) (all_cons (m546_ok hL) (all_cons (m547_ok hL) (all_cons (m548_ok hL) (all_nil))))))))))))))))))))))))))))))))))))))))) ((q0_ok hL))))) hv run16
noncomputable def h1090 : H := hUpc h1050 3300 [] [(34, .cells 107 ((rp 9 (U 0) ((I 3) :: rp 5 (I 0) ((U 0) :: rp 4 (I 0) ((U 0) :: rp 4 (I 0) ((U 0) :: rp 4 (I 0) ((U 0) :: rp 4 (I 0) ((U 0) :: rp 4 (I 0) ((U 0) :: rp 4 (I 0) ((U 0) :: rp 4 (I 0) ((U 0) :: rp 4 (I 0) ((U 0) :: rp 4 (I 0) ((U 0) :: rp 4 (I 0) ((U 0) :: rp 4 (I 0) ((U 0) :: rp 4 (I 0) ((U 0) :: rp 4 (I 0) ((U 0) :: rp 4 (I 0) ((U 0) :: rp 4 (I 0) ((U 0) :: (I 3) :: (I 0) :: (I 0) :: (I 0) :: (U 0) :: (I 7) :: (I 0) :: (I 0) :: (I 0) :: (U 0) :: rp 4 (I 0) ([U 0, I 0]))))))))))))))))))) :: rp 5 (rp 9 (U 0) (rp 6 (I 0) ((U 0) :: rp 4 (I 0) ((U 0) :: rp 4 (I 0) ((U 0) :: rp 4 (I 0) ((U 0) :: rp 4 (I 0) ((U 0) :: rp 4 (I 0) ((U 0) :: rp 4 (I 0) ((U 0) :: rp 4 (I 0) ((U 0) :: rp 4 (I 0) ((U 0) :: rp 4 (I 0) ((U 0) :: rp 4 (I 0) ((U 0) :: rp 4 (I 0) ((U 0) :: rp 4 (I 0) ((U 0) :: rp 4 (I 0) ((U 0) :: rp 4 (I 0) ((U 0) :: rp 4 (I 0) ((U 0) :: rp 4 (I 0) ((U 0) :: rp 4 (I 0) ((U 0) :: rp 4 (I 0) ([U 0, I 0]))))))))))))))))))))) ([])) false),
  (56, .cells 2 ([IZ (-1), .int .i64 (.sub (.var 2) (.lit 16))] :: rp 7 ([I 0, I 0]) ([])) false),
  (27, .cells 32 (((U 201326592) :: (U 67108864) :: rp 30 (U 0) ([])) :: rp 11 (rp 32 (U 0) ([])) ([])) false)] [(67, 0, [.slice 365 0 1 1 1 false])] [(68, 0, 8, I 16)]
noncomputable def h1091 : H := hUpc h1090 3469 [] [] [(30, 0, [I 16, .slice 663 0 1 1 10 false, I 16]),
  (56, 0, [IZ (-1), .int .i64 (.sub (.var 2) (.lit 17))])] [(34, 0, 8, U 1), (68, 0, 8, I 17)]
noncomputable def m549 : Memo := ⟨[.ptr 68 0, I 16], h1090, .agg [I 0, I 3, I 0, U 0, I 0, U 0, IZ (-1), I 0], h1091⟩
theorem m549_run : ranTo (evCall (cxX Tryz.prog bad [((-9223372036854775808), 9223372036854775807), ((-9223372036854775808), 9223372036854775807), (17, 29), (0, 39)] [] [(51, pureFn [p4, p2, p3]), (172, isFn 325)]) 1000 60 10 m549.args m549.h) m549.v m549.h' = true := by kernel_rfl
theorem m549_ok {σ : Nat → Int} {W0 : World} (hL : L0 W0) (hk : Known2 σ [((-9223372036854775808), 9223372036854775807), ((-9223372036854775808), 9223372036854775807), (17, 29), (0, 39)] []) : MemoOk Tryz.prog 1023 σ W0 10 m549 := memo_ok fit hk (FnsOk.cons (pure_fn_ok (all_cons (p4_ok hL) (all_cons (p2_ok hL) (all_cons (p3_ok hL) (all_nil))))) (FnsOk.cons (ext_is hL) (FnsOk.nil))) m549_run
noncomputable def h1092 : H := hUpd h1091 3470 [27] [] []
noncomputable def h1093 : H := hUpc h1092 3588 [] [] [(67, 0, [.slice 365 0 0 1 1 false])] [(34, 0, 9, I 4), (34, 0, 10, I 6), (68, 0, 8, I 18)]
noncomputable def m550 : Memo := ⟨[.ptr 68 0, I 17], h1092, .agg [I 0, I 5, I 0, U 0, I 0, U 0, IZ (-1), I 6], h1093⟩
theorem m550_run : ranTo (evCall (cxX Tryz.prog bad [((-9223372036854775808), 9223372036854775807), ((-9223372036854775808), 9223372036854775807), (17, 17), (0, 39)] [] [(51, pureFn [p4, p2, p3]), (172, isFn 325)]) 1000 60 10 m550.args m550.h) m550.v m550.h' = true := by kernel_rfl
theorem m550_ok {σ : Nat → Int} {W0 : World} (hL : L0 W0) (hk : Known2 σ [((-9223372036854775808), 9223372036854775807), ((-9223372036854775808), 9223372036854775807), (17, 17), (0, 39)] []) : MemoOk Tryz.prog 1023 σ W0 10 m550 := memo_ok fit hk (FnsOk.cons (pure_fn_ok (all_cons (p4_ok hL) (all_cons (p2_ok hL) (all_cons (p3_ok hL) (all_nil))))) (FnsOk.cons (ext_is hL) (FnsOk.nil))) m550_run
noncomputable def h1094 : H := hUpd h1093 3589 [34, 56] [] []
noncomputable def h1095 : H := hUpc h1094 3590 [] [] [] [(68, 0, 8, I 19)]
noncomputable def m551 : Memo := ⟨[.ptr 68 0, I 18], h1094, .agg [IZ (-1), I 0, I 0, U 0, I 0, U 0, IZ (-1), I 0], h1095⟩
theorem m551_run : ranTo (evCall (cxX Tryz.prog bad [] [] [(172, isFn 325)]) 1000 60 10 m551.args m551.h) m551.v m551.h' = true := by kernel_rfl
theorem m551_ok {σ : Nat → Int} {W0 : World} (hL : L0 W0) : MemoOk Tryz.prog 1023 σ W0 10 m551 := memo_ok fit (Known2.nil σ) (FnsOk.cons (ext_is hL) (FnsOk.nil)) m551_run
noncomputable def h1096 : H := hUpd h1095 3591 [] [] []
noncomputable def h1097 : H := hUpc h1094 3592 [] [] [] [(68, 0, 8, I 20)]
noncomputable def m552 : Memo := ⟨[.ptr 68 0, I 19], h1096, .agg [IZ (-1), I 0, I 0, U 0, I 0, U 0, IZ (-1), I 0], h1097⟩
theorem m552_run : ranTo (evCall (cxX Tryz.prog bad [] [] [(172, isFn 325)]) 1000 60 10 m552.args m552.h) m552.v m552.h' = true := by kernel_rfl
theorem m552_ok {σ : Nat → Int} {W0 : World} (hL : L0 W0) : MemoOk Tryz.prog 1023 σ W0 10 m552 := memo_ok fit (Known2.nil σ) (FnsOk.cons (ext_is hL) (FnsOk.nil)) m552_run
noncomputable def h1098 : H := hUpd h1097 3593 [] [] []
noncomputable def h1099 : H := hUpc h1094 3594 [] [] [] [(68, 0, 8, I 21)]
noncomputable def m553 : Memo := ⟨[.ptr 68 0, I 20], h1098, .agg [IZ (-1), I 0, I 0, U 0, I 0, U 0, IZ (-1), I 0], h1099⟩
theorem m553_run : ranTo (evCall (cxX Tryz.prog bad [] [] [(172, isFn 325)]) 1000 60 10 m553.args m553.h) m553.v m553.h' = true := by kernel_rfl
theorem m553_ok {σ : Nat → Int} {W0 : World} (hL : L0 W0) : MemoOk Tryz.prog 1023 σ W0 10 m553 := memo_ok fit (Known2.nil σ) (FnsOk.cons (ext_is hL) (FnsOk.nil)) m553_run
noncomputable def h1100 : H := hUpd h1099 3595 [] [] []
noncomputable def h1101 : H := hUpc h1094 3596 [] [] [] [(68, 0, 8, I 22)]
noncomputable def m554 : Memo := ⟨[.ptr 68 0, I 21], h1100, .agg [IZ (-1), I 0, I 0, U 0, I 0, U 0, IZ (-1), I 0], h1101⟩
theorem m554_run : ranTo (evCall (cxX Tryz.prog bad [] [] [(172, isFn 325)]) 1000 60 10 m554.args m554.h) m554.v m554.h' = true := by kernel_rfl
theorem m554_ok {σ : Nat → Int} {W0 : World} (hL : L0 W0) : MemoOk Tryz.prog 1023 σ W0 10 m554 := memo_ok fit (Known2.nil σ) (FnsOk.cons (ext_is hL) (FnsOk.nil)) m554_run
noncomputable def h1102 : H := hUpd h1101 3597 [] [] []
noncomputable def h1103 : H := hUpc h1094 3598 [] [] [] [(68, 0, 8, I 23)]
noncomputable def m555 : Memo := ⟨[.ptr 68 0, I 22], h1102, .agg [IZ (-1), I 0, I 0, U 0, I 0, U 0, IZ (-1), I 0], h1103⟩
theorem m555_run : ranTo (evCall (cxX Tryz.prog bad [] [] [(172, isFn 325)]) 1000 60 10 m555.args m555.h) m555.v m555.h' = true := by kernel_rfl
theorem m555_ok {σ : Nat → Int} {W0 : World} (hL : L0 W0) : MemoOk Tryz.prog 1023 σ W0 10 m555 := memo_ok fit (Known2.nil σ) (FnsOk.cons (ext_is hL) (FnsOk.nil)) m555_run
noncomputable def h1104 : H := hUpd h1103 3599 [] [] []
noncomputable def h1105 : H := hUpc h1094 3600 [] [] [] [(68, 0, 8, I 24)]
noncomputable def m556 : Memo := ⟨[.ptr 68 0, I 23], h1104, .agg [IZ (-1), I 0, I 0, U 0, I 0, U 0, IZ (-1), I 0], h1105⟩
theorem m556_run : ranTo (evCall (cxX Tryz.prog bad [] [] [(172, isFn 325)]) 1000 60 10 m556.args m556.h) m556.v m556.h' = true := by kernel_rfl
theorem m556_ok {σ : Nat → Int} {W0 : World} (hL : L0 W0) : MemoOk Tryz.prog 1023 σ W0 10 m556 := memo_ok fit (Known2.nil σ) (FnsOk.cons (ext_is hL) (FnsOk.nil)) m556_run
noncomputable def h1106 : H := hUpd h1105 3601 [] [] []
noncomputable def h1107 : H := hUpc h1094 3602 [] [] [] [(68, 0, 8, I 25)]
noncomputable def m557 : Memo := ⟨[.ptr 68 0, I 24], h1106, .agg [IZ (-1), I 0, I 0, U 0, I 0, U 0, IZ (-1), I 0], h1107⟩
theorem m557_run : ranTo (evCall (cxX Tryz.prog bad [] [] [(172, isFn 325)]) 1000 60 10 m557.args m557.h) m557.v m557.h' = true := by kernel_rfl
theorem m557_ok {σ : Nat → Int} {W0 : World} (hL : L0 W0) : MemoOk Tryz.prog 1023 σ W0 10 m557 := memo_ok fit (Known2.nil σ) (FnsOk.cons (ext_is hL) (FnsOk.nil)) m557_run
noncomputable def h1108 : H := hUpd h1107 3603 [] [] []
noncomputable def h1109 : H := hUpc h1094 3604 [] [] [] [(68, 0, 8, I 26)]
noncomputable def m558 : Memo := ⟨[.ptr 68 0, I 25], h1108, .agg [IZ (-1), I 0, I 0, U 0, I 0, U 0, IZ (-1), I 0], h1109⟩
theorem m558_run : ranTo (evCall (cxX Tryz.prog bad [] [] [(172, isFn 325)]) 1000 60 10 m558.args m558.h) m558.v m558.h' = true := by kernel_rfl
theorem m558_ok {σ : Nat → Int} {W0 : World} (hL : L0 W0) : MemoOk Tryz.prog 1023 σ W0 10 m558 := memo_ok fit (Known2.nil σ) (FnsOk.cons (ext_is hL) (FnsOk.nil)) m558_run
noncomputable def h1110 : H := hUpd h1109 3605 [] [] []
noncomputable def h1111 : H := hUpc h1094 3606 [] [] [] [(68, 0, 8, I 27)]
noncomputable def m559 : Memo := ⟨[.ptr 68 0, I 26], h1110, .agg [IZ (-1), I 0, I 0, U 0, I 0, U 0, IZ (-1), I 0], h1111⟩
theorem m559_run : ranTo (evCall (cxX Tryz.prog bad [] [] [(172, isFn 325)]) 1000 60 10 m559.args m559.h) m559.v m559.h' = true := by kernel_rfl
theorem m559_ok {σ : Nat → Int} {W0 : World} (hL : L0 W0) : MemoOk Tryz.prog 1023 σ W0 10 m559 := memo_ok fit (Known2.nil σ) (FnsOk.cons (ext_is hL) (FnsOk.nil)) m559_run
noncomputable def h1112 : H := hUpd h1111 3607 [] [] []
noncomputable def h1113 : H := hUpc h1094 3608 [] [] [] [(68, 0, 8, I 28)]
noncomputable def m560 : Memo := ⟨[.ptr 68 0, I 27], h1112, .agg [IZ (-1), I 0, I 0, U 0, I 0, U 0, IZ (-1), I 0], h1113⟩
theorem m560_run : ranTo (evCall (cxX Tryz.prog bad [] [] [(172, isFn 325)]) 1000 60 10 m560.args m560.h) m560.v m560.h' = true := by kernel_rfl
theorem m560_ok {σ : Nat → Int} {W0 : World} (hL : L0 W0) : MemoOk Tryz.prog 1023 σ W0 10 m560 := memo_ok fit (Known2.nil σ) (FnsOk.cons (ext_is hL) (FnsOk.nil)) m560_run
noncomputable def h1114 : H := hUpd h1113 3609 [] [] []
noncomputable def h1115 : H := hUpc h1094 3610 [] [] [] [(68, 0, 8, I 29)]
noncomputable def m561 : Memo := ⟨[.ptr 68 0, I 28], h1114, .agg [IZ (-1), I 0, I 0, U 0, I 0, U 0, IZ (-1), I 0], h1115⟩
theorem m561_run : ranTo (evCall (cxX Tryz.prog bad [] [] [(172, isFn 325)]) 1000 60 10 m561.args m561.h) m561.v m561.h' = true := by kernel_rfl
theorem m561_ok {σ : Nat → Int} {W0 : World} (hL : L0 W0) : MemoOk Tryz.prog 1023 σ W0 10 m561 := memo_ok fit (Known2.nil σ) (FnsOk.cons (ext_is hL) (FnsOk.nil)) m561_run
noncomputable def h1116 : H := hUpd h1115 3611 [] [] []
noncomputable def h1117 : H := hUpc h1094 3612 [] [] [] [(68, 0, 8, I 30)]
noncomputable def m562 : Memo := ⟨[.ptr 68 0, I 29], h1116, .agg [IZ (-1), I 0, I 0, U 0, I 0, U 0, IZ (-1), I 0], h1117⟩
theorem m562_run : ranTo (evCall (cxX Tryz.prog bad [] [] [(172, isFn 325)]) 1000 60 10 m562.args m562.h) m562.v m562.h' = true := by kernel_rfl
theorem m562_ok {σ : Nat → Int} {W0 : World} (hL : L0 W0) : MemoOk Tryz.prog 1023 σ W0 10 m562 := memo_ok fit (Known2.nil σ) (FnsOk.cons (ext_is hL) (FnsOk.nil)) m562_run
noncomputable def h1118 : H := hUpd h1117 3613 [] [] []
noncomputable def h1119 : H := hUpc h1094 3614 [] [] [] [(68, 0, 8, I 31)]
noncomputable def m563 : Memo := ⟨[.ptr 68 0, I 30], h1118, .agg [IZ (-1), I 0, I 0, U 0, I 0, U 0, IZ (-1), I 0], h1119⟩
theorem m563_run : ranTo (evCall (cxX Tryz.prog bad [] [] [(172, isFn 325)]) 1000 60 10 m563.args m563.h) m563.v m563.h' = true := by kernel_rfl
theorem m563_ok {σ : Nat → Int} {W0 : World} (hL : L0 W0) : MemoOk Tryz.prog 1023 σ W0 10 m563 := memo_ok fit (Known2.nil σ) (FnsOk.cons (ext_is hL) (FnsOk.nil)) m563_run
noncomputable def h1120 : H := hUpd h1119 3615 [] [] []
noncomputable def h1121 : H := hUpc h1094 3616 [] [] [] [(68, 0, 8, I 32)]
noncomputable def m564 : Memo := ⟨[.ptr 68 0, I 31], h1120, .agg [IZ (-1), I 0, I 0, U 0, I 0, U 0, IZ (-1), I 0], h1121⟩
theorem m564_run : ranTo (evCall (cxX Tryz.prog bad [] [] [(172, isFn 325)]) 1000 60 10 m564.args m564.h) m564.v m564.h' = true := by kernel_rfl
theorem m564_ok {σ : Nat → Int} {W0 : World} (hL : L0 W0) : MemoOk Tryz.prog 1023 σ W0 10 m564 := memo_ok fit (Known2.nil σ) (FnsOk.cons (ext_is hL) (FnsOk.nil)) m564_run
noncomputable def h1122 : H := hUpd h1121 3617 [] [] []
noncomputable def h1123 : H := hUpc h1094 3618 [] [] [] [(68, 0, 8, I 33)]
noncomputable def m565 : Memo := ⟨[.ptr 68 0, I 32], h1122, .agg [IZ (-1), I 0, I 0, U 0, I 0, U 0, IZ (-1), I 0], h1123⟩
theorem m565_run : ranTo (evCall (cxX Tryz.prog bad [] [] [(172, isFn 325)]) 1000 60 10 m565.args m565.h) m565.v m565.h' = true := by kernel_rfl
theorem m565_ok {σ : Nat → Int} {W0 : World} (hL : L0 W0) : MemoOk Tryz.prog 1023 σ W0 10 m565 := memo_ok fit (Known2.nil σ) (FnsOk.cons (ext_is hL) (FnsOk.nil)) m565_run
noncomputable def h1124 : H := hUpd h1123 3619 [] [] []
noncomputable def h1125 : H := hUpc h1094 3620 [] [] [] [(68, 0, 8, I 34)]
noncomputable def m566 : Memo := ⟨[.ptr 68 0, I 33], h1124, .agg [IZ (-1), I 0, I 0, U 0, I 0, U 0, IZ (-1), I 0], h1125⟩
theorem m566_run : ranTo (evCall (cxX Tryz.prog bad [] [] [(172, isFn 325)]) 1000 60 10 m566.args m566.h) m566.v m566.h' = true := by kernel_rfl
theorem m566_ok {σ : Nat → Int} {W0 : World} (hL : L0 W0) : MemoOk Tryz.prog 1023 σ W0 10 m566 := memo_ok fit (Known2.nil σ) (FnsOk.cons (ext_is hL) (FnsOk.nil)) m566_run
noncomputable def h1126 : H := hUpd h1125 3621 [] [] []
noncomputable def h1127 : H := hUpc h1094 3622 [] [] [] [(68, 0, 8, I 35)]
noncomputable def m567 : Memo := ⟨[.ptr 68 0, I 34], h1126, .agg [IZ (-1), I 0, I 0, U 0, I 0, U 0, IZ (-1), I 0], h1127⟩
theorem m567_run : ranTo (evCall (cxX Tryz.prog bad [] [] [(172, isFn 325)]) 1000 60 10 m567.args m567.h) m567.v m567.h' = true := by kernel_rfl
theorem m567_ok {σ : Nat → Int} {W0 : World} (hL : L0 W0) : MemoOk Tryz.prog 1023 σ W0 10 m567 := memo_ok fit (Known2.nil σ) (FnsOk.cons (ext_is hL) (FnsOk.nil)) m567_run
noncomputable def h1128 : H := hUpd h1127 3623 [] [] []
noncomputable def h1129 : H := hUpc h1094 3624 [] [] [] [(68, 0, 8, I 36)]
noncomputable def m568 : Memo := ⟨[.ptr 68 0, I 35], h1128, .agg [IZ (-1), I 0, I 0, U 0, I 0, U 0, IZ (-1), I 0], h1129⟩
theorem m568_run : ranTo (evCall (cxX Tryz.prog bad [] [] [(172, isFn 325)]) 1000 60 10 m568.args m568.h) m568.v m568.h' = true := by kernel_rfl
theorem m568_ok {σ : Nat → Int} {W0 : World} (hL : L0 W0) : MemoOk Tryz.prog 1023 σ W0 10 m568 := memo_ok fit (Known2.nil σ) (FnsOk.cons (ext_is hL) (FnsOk.nil)) m568_run
noncomputable def h1130 : H := hUpd h1129 3625 [] [] []
noncomputable def h1131 : H := hUpc h1094 3626 [] [] [] [(68, 0, 8, I 37)]
noncomputable def m569 : Memo := ⟨[.ptr 68 0, I 36], h1130, .agg [IZ (-1), I 0, I 0, U 0, I 0, U 0, IZ (-1), I 0], h1131⟩
theorem m569_run : ranTo (evCall (cxX Tryz.prog bad [] [] [(172, isFn 325)]) 1000 60 10 m569.args m569.h) m569.v m569.h' = true := by kernel_rfl
theorem m569_ok {σ : Nat → Int} {W0 : World} (hL : L0 W0) : MemoOk Tryz.prog 1023 σ W0 10 m569 := memo_ok fit (Known2.nil σ) (FnsOk.cons (ext_is hL) (FnsOk.nil)) m569_run
noncomputable def h1132 : H := hUpd h1131 3627 [] [] []
noncomputable def h1133 : H := hUpc h1094 3628 [] [] [] [(68, 0, 8, I 38)]
noncomputable def m570 : Memo := ⟨[.ptr 68 0, I 37], h1132, .agg [IZ (-1), I 0, I 0, U 0, I 0, U 0, IZ (-1), I 0], h1133⟩
theorem m570_run : ranTo (evCall (cxX Tryz.prog bad [] [] [(172, isFn 325)]) 1000 60 10 m570.args m570.h) m570.v m570.h' = true := by kernel_rfl
theorem m570_ok {σ : Nat → Int} {W0 : World} (hL : L0 W0) : MemoOk Tryz.prog 1023 σ W0 10 m570 := memo_ok fit (Known2.nil σ) (FnsOk.cons (ext_is hL) (FnsOk.nil)) m570_run
noncomputable def h1134 : H := hUpd h1133 3629 [] [] []
noncomputable def h1135 : H := hUpc h1095 3630 [] [] [] [(68, 0, 8, I 39)]
noncomputable def m571 : Memo := ⟨[.ptr 68 0, I 38], h1134, .agg [IZ (-1), I 0, I 0, U 0, I 0, U 0, IZ (-1), I 0], h1135⟩
theorem m571_run : ranTo (evCall (cxX Tryz.prog bad [] [] [(172, isFn 325)]) 1000 60 10 m571.args m571.h) m571.v m571.h' = true := by kernel_rfl
theorem m571_ok {σ : Nat → Int} {W0 : World} (hL : L0 W0) : MemoOk Tryz.prog 1023 σ W0 10 m571 := memo_ok fit (Known2.nil σ) (FnsOk.cons (ext_is hL) (FnsOk.nil)) m571_run
theorem run17 : lawF Tryz.prog bad [] ((6, numExtE [(0, 30, .var 2), (1, 40, .var 3)]) :: (9, frameFn [m5]) :: (10, frameFn [m45, m84, m122, m159, m195, m230, m264, m297, m329, m360, m390, m419, m447, m474, m500, m525, m549, m550, m551, m552, m553, m554, m555, m556, m557, m558, m559, m560, m561, m562, m563, m564, m565, m566, m567, m568, m569, m570, m571]) :: q0) 1000 60 4 [.int .i64 (.var 0), .int .i64 (.var 1)] [((-9223372036854775808), 9223372036854775807), ((-9223372036854775808), 9223372036854775807), (17, 17), (0, 39)] (peels 39 3) (sentH 325 10 errTab) = true := by kernel_rfl
theorem case17 {σ : Nat → Int} {W : World} (hL : L0 W) (hk : Known2 σ [((-9223372036854775808), 9223372036854775807), ((-9223372036854775808), 9223372036854775807), (17, 17), (0, 39)] []) (hT : TabOk Tryz.prog bad 6 σ [(0, 30, .var 2), (1, 40, .var 3)]) {xs : Array Value} (hv : ∀ ρ, VRs σ ρ [.int .i64 (.var 0), .int .i64 (.var 1)] xs.toList) : Calls Tryz.prog 4 xs W fun e w' => e = .returned (.bool true) ∧ Below W.heap.size W w' := by
  obtain ⟨ads, h1, h2, h3⟩ := errs_sents hL
  exact law_case_f fit h1 h2 h3 errs_all errs_lt (by kernel_rfl) hk (FnsOk.cons (hT.ok fit) (FnsOk.cons (frame_fn_ok (all_cons (m5_ok hL (hk.relax (r' := [((-9223372036854775808), 9223372036854775807), ((-9223372036854775808), 9223372036854775807), (0, 29), (0, 39)]) (by kernel_rfl))) (all_nil))) (FnsOk.cons (frame_fn_ok (all_cons (m45_ok hL (hk.relax (r' := [((-9223372036854775808), 9223372036854775807), ((-9223372036854775808), 9223372036854775807), (1, 29), (0, 39)]) (by kernel_rfl))) (all_cons (m84_ok hL (hk.relax (r' := [((-9223372036854775808), 9223372036854775807), ((-9223372036854775808), 9223372036854775807), (2, 29), (0, 39)]) (by kernel_rfl))) (all_cons (m122_ok hL (hk.relax (r' := [((-9223372036854775808), 9223372036854775807), ((-9223372036854775808), 9223372036854775807), (3, 29), (0, 39)]) (by kernel_rfl))) (all_cons (m159_ok hL (hk.relax (r' := [((-9223372036854775808), 9223372036854775807), ((-9223372036854775808), 9223372036854775807), (4, 29), (0, 39)]) (by kernel_rfl))) (all_cons (m195_ok hL (hk.relax (r' := [((-9223372036854775808), 9223372036854775807), ((-9223372036854775808), 9223372036854775807), (5, 29), (0, 39)]) (by kernel_rfl))) (all_cons (m230_ok hL (hk.relax (r' := [((-9223372036854775808), 9223372036854775807), ((-9223372036854775808), 9223372036854775807), (6, 29), (0, 39)]) (by kernel_rfl))) (all_cons (m264_ok hL (hk.relax (r' := [((-9223372036854775808), 9223372036854775807), ((-9223372036854775808), 9223372036854775807), (7, 29), (0, 39)]) (by kernel_rfl))) (all_cons (m297_ok hL (hk.relax (r' := [((-9223372036854775808), 9223372036854775807), ((-9223372036854775808), 9223372036854775807), (8, 29), (0, 39)]) (by kernel_rfl))) (all_cons (m329_ok hL (hk.relax (r' := [((-9223372036854775808), 9223372036854775807), ((-9223372036854775808), 9223372036854775807), (9, 29), (0, 39)]) (by kernel_rfl))) (all_cons (m360_ok hL (hk.relax (r' := [((-9223372036854775808), 9223372036854775807), ((-9223372036854775808), 9223372036854775807), (10, 29), (0, 39)]) (by kernel_rfl))) (all_cons (m390_ok hL (hk.relax (r' := [((-9223372036854775808), 9223372036854775807), ((-9223372036854775808), 9223372036854775807), (11, 29), (0, 39)]) (by kernel_rfl))) (all_cons (m419_ok hL (hk.relax (r' := [((-9223372036854775808), 9223372036854775807), ((-9223372036854775808), 9223372036854775807), (12, 29), (0, 39)]) (by kernel_rfl))) (all_cons (m447_ok hL (hk.relax (r' := [((-9223372036854775808), 9223372036854775807), ((-9223372036854775808), 9223372036854775807), (13, 29), (0, 39)]) (by kernel_rfl))) (all_cons (m474_ok hL (hk.relax (r' := [((-9223372036854775808), 9223372036854775807), ((-9223372036854775808), 9223372036854775807), (14, 29), (0, 39)]) (by kernel_rfl))) (all_cons (m500_ok hL (hk.relax (r' := [((-9223372036854775808), 9223372036854775807), ((-9223372036854775808), 9223372036854775807), (15, 29), (0, 39)]) (by kernel_rfl))) (all_cons (m525_ok hL (hk.relax (r' := [((-9223372036854775808), 9223372036854775807), ((-9223372036854775808), 9223372036854775807), (16, 29), (0, 39)]) (by kernel_rfl))) (all_cons (m549_ok hL (hk.relax (r' := [((-9223372036854775808), 9223372036854775807), ((-9223372036854775808), 9223372036854775807), (17, 29), (0, 39)]) (by kernel_rfl))) (all_cons (m550_ok hL hk) (all_cons (m551_ok hL) (all_cons (m552_ok hL) (all_cons (m553_ok hL) (all_cons (m554_ok hL) (all_cons (m555_ok hL) (all_cons (m556_ok hL) (all_cons (m557_ok hL) (all_cons (m558_ok hL) (all_cons (m559_ok hL) (all_cons (m560_ok hL) (all_cons (m561_ok hL) (all_cons (m562_ok hL) (all_cons (m563_ok hL) (all_cons (m564_ok hL) (all_cons (m565_ok hL) (all_cons (m566_ok hL) (all_cons (m567_ok hL) (all_cons (m568_ok hL) (all_cons (m569_ok hL) (all_cons (m570_ok hL) (all_cons (m571_ok hL) (all_nil))))))))))))))))))))))))))))))))))))))))) ((q0_ok hL))))) hv run17
noncomputable def h1136 : H := hUpc h1096 3470 [] [(34, .cells 107 ((rp 8 (U 0) ((U 1) :: (I 3) :: rp 5 (I 0) ((U 0) :: rp 4 (I 0) ((U 0) :: rp 4 (I 0) ((U 0) :: rp 4 (I 0) ((U 0) :: rp 4 (I 0) ((U 0) :: rp 4 (I 0) ((U 0) :: rp 4 (I 0) ((U 0) :: rp 4 (I 0) ((U 0) :: rp 4 (I 0) ((U 0) :: rp 4 (I 0) ((U 0) :: rp 4 (I 0) ((U 0) :: rp 4 (I 0) ((U 0) :: rp 4 (I 0) ((U 0) :: rp 4 (I 0) ((U 0) :: rp 4 (I 0) ((U 0) :: rp 4 (I 0) ((U 0) :: (I 3) :: (I 0) :: (I 0) :: (I 0) :: (U 0) :: (I 7) :: (I 0) :: (I 0) :: (I 0) :: (U 0) :: rp 4 (I 0) ([U 0, I 0]))))))))))))))))))) :: rp 5 (rp 9 (U 0) (rp 6 (I 0) ((U 0) :: rp 4 (I 0) ((U 0) :: rp 4 (I 0) ((U 0) :: rp 4 (I 0) ((U 0) :: rp 4 (I 0) ((U 0) :: rp 4 (I 0) ((U 0) :: rp 4 (I 0) ((U 0) :: rp 4 (I 0) ((U 0) :: rp 4 (I 0) ((U 0) :: rp 4 (I 0) ((U 0) :: rp 4 (I 0) ((U 0) :: rp 4 (I 0) ((U 0) :: rp 4 (I 0) ((U 0) :: rp 4 (I 0) ((U 0) :: rp 4 (I 0) ((U 0) :: rp 4 (I 0) ((U 0) :: rp 4 (I 0) ((U 0) :: rp 4 (I 0) ((U 0) :: rp 4 (I 0) ([U 0, I 0]))))))))))))))))))))) ([])) false),
  (56, .cells 2 ([IZ (-1), .int .i64 (.sub (.var 2) (.lit 17))] :: rp 7 ([I 0, I 0]) ([])) false),
  (27, .cells 32 (((U 201326592) :: (U 67108864) :: rp 30 (U 0) ([])) :: rp 11 (rp 32 (U 0) ([])) ([])) false)] [(67, 0, [.slice 365 0 1 1 1 false])] [(68, 0, 8, I 17)]
noncomputable def h1137 : H := hUpc h1136 3639 [] [] [(30, 0, [I 16, .slice 663 0 1 1 10 false, I 17]),
  (56, 0, [IZ (-1), .int .i64 (.sub (.var 2) (.lit 18))])] [(34, 0, 8, U 0), (68, 0, 8, I 18)]
noncomputable def m572 : Memo := ⟨[.ptr 68 0, I 17], h1136, .agg [I 0, I 1, I 0, U 0, I 0, U 0, IZ (-1), I 0], h1137⟩
theorem m572_run : ranTo (evCall (cxX Tryz.prog bad [((-9223372036854775808), 9223372036854775807), ((-9223372036854775808), 9223372036854775807), (18, 29), (0, 39)] [] [(51, pureFn [p4, p2, p3]), (172, isFn 325)]) 1000 60 10 m572.args m572.h) m572.v m572.h' = true := by kernel_rfl
theorem m572_ok {σ : Nat → Int} {W0 : World} (hL : L0 W0) (hk : Known2 σ [((-9223372036854775808), 9223372036854775807), ((-9223372036854775808), 9223372036854775807), (18, 29), (0, 39)] []) : MemoOk Tryz.prog 1023 σ W0 10 m572 := memo_ok fit hk (FnsOk.cons (pure_fn_ok (all_cons (p4_ok hL) (all_cons (p2_ok hL) (all_cons (p3_ok hL) (all_nil))))) (FnsOk.cons (ext_is hL) (FnsOk.nil))) m572_run
noncomputable def h1138 : H := hUpd h1137 3640 [27] [] []
noncomputable def h1139 : H := hUpc h1138 3758 [] [] [(67, 0, [.slice 365 0 0 1 1 false])] [(34, 0, 9, I 4), (34, 0, 10, I 6), (68, 0, 8, I 19)]
noncomputable def m573 : Memo := ⟨[.ptr 68 0, I 18], h1138, .agg [I 0, I 5, I 0, U 0, I 0, U 0, IZ (-1), I 6], h1139⟩
theorem m573_run : ranTo (evCall (cxX Tryz.prog bad [((-9223372036854775808), 9223372036854775807), ((-9223372036854775808), 9223372036854775807), (18, 18), (0, 39)] [] [(51, pureFn [p4, p2, p3]), (172, isFn 325)]) 1000 60 10 m573.args m573.h) m573.v m573.h' = true := by kernel_rfl
theorem m573_ok {σ : Nat → Int} {W0 : World} (hL : L0 W0) (hk : Known2 σ [((-9223372036854775808), 9223372036854775807), ((-9223372036854775808), 9223372036854775807), (18, 18), (0, 39)] []) : MemoOk Tryz.prog 1023 σ W0 10 m573 := memo_ok fit hk (FnsOk.cons (pure_fn_ok (all_cons (p4_ok hL) (all_cons (p2_ok hL) (all_cons (p3_ok hL) (all_nil))))) (FnsOk.cons (ext_is hL) (FnsOk.nil))) m573_run
noncomputable def h1140 : H := hUpd h1139 3759 [34, 56] [] []
noncomputable def h1141 : H := hUpc h1140 3760 [] [] [] [(68, 0, 8, I 20)]
noncomputable def m574 : Memo := ⟨[.ptr 68 0, I 19], h1140, .agg [IZ (-1), I 0, I 0, U 0, I 0, U 0, IZ (-1), I 0], h1141⟩
theorem m574_run : ranTo (evCall (cxX Tryz.prog bad [] [] [(172, isFn 325)]) 1000 60 10 m574.args m574.h) m574.v m574.h' = true := by kernel_rfl
theorem m574_ok {σ : Nat → Int} {W0 : World} (hL : L0 W0) : MemoOk Tryz.prog 1023 σ W0 10 m574 := memo_ok fit (Known2.nil σ) (FnsOk.cons (ext_is hL) (FnsOk.nil)) m574_run
noncomputable def h1142 : H := hUpd h1141 3761 [] [] []
noncomputable def h1143 : H := hUpc h1140 3762 [] [] [] [(68, 0, 8, I 21)]
noncomputable def m575 : Memo := ⟨[.ptr 68 0, I 20], h1142, .agg [IZ (-1), I 0, I 0, U 0, I 0, U 0, IZ (-1), I 0], h1143⟩
theorem m575_run : ranTo (evCall (cxX Tryz.prog bad [] [] [(172, isFn 325)]) 1000 60 10 m575.args m575.h) m575.v m575.h' = true := by kernel_rfl
theorem m575_ok {σ : Nat → Int} {W0 : World} (hL : L0 W0) : MemoOk Tryz.prog 1023 σ W0 10 m575 := memo_ok fit (Known2.nil σ) (FnsOk.cons (ext_is hL) (FnsOk.nil)) m575_run
noncomputable def h1144 : H := hUpd h1143 3763 [] [] []
noncomputable def h1145 : H := hUpc h1140 3764 [] [] [] [(68, 0, 8, I 22)]
noncomputable def m576 : Memo := ⟨[.ptr 68 0, I 21], h1144, .agg [IZ (-1), I 0, I 0, U 0, I 0, U 0, IZ (-1), I 0], h1145⟩
theorem m576_run : ranTo (evCall (cxX Tryz.prog bad [] [] [(172, isFn 325)]) 1000 60 10 m576.args m576.h) m576.v m576.h' = true := by kernel_rfl
theorem m576_ok {σ : Nat → Int} {W0 : World} (hL : L0 W0) : MemoOk Tryz.prog 1023 σ W0 10 m576 := memo_ok fit (Known2.nil σ) (FnsOk.cons (ext_is hL) (FnsOk.nil)) m576_run
noncomputable def h1146 : H := hUpd h1145 3765 [] [] []
noncomputable def h1147 : H := hUpc h1140 3766 [] [] [] [(68, 0, 8, I 23)]
noncomputable def m577 : Memo := ⟨[.ptr 68 0, I 22], h1146, .agg [IZ (-1), I 0, I 0, U 0, I 0, U 0, IZ (-1), I 0], h1147⟩
theorem m577_run : ranTo (evCall (cxX Tryz.prog bad [] [] [(172, isFn 325)]) 1000 60 10 m577.args m577.h) m577.v m577.h' = true := by kernel_rfl
theorem m577_ok {σ : Nat → Int} {W0 : World} (hL : L0 W0) : MemoOk Tryz.prog 1023 σ W0 10 m577 := memo_ok fit (Known2.nil σ) (FnsOk.cons (ext_is hL) (FnsOk.nil)) m577_run
noncomputable def h1148 : H := hUpd h1147 3767 [] [] []
noncomputable def h1149 : H := hUpc h1140 3768 [] [] [] [(68, 0, 8, I 24)]
noncomputable def m578 : Memo := ⟨[.ptr 68 0, I 23], h1148, .agg [IZ (-1), I 0, I 0, U 0, I 0, U 0, IZ (-1), I 0], h1149⟩
theorem m578_run : ranTo (evCall (cxX Tryz.prog bad [] [] [(172, isFn 325)]) 1000 60 10 m578.args m578.h) m578.v m578.h' = true := by kernel_rfl
theorem m578_ok {σ : Nat → Int} {W0 : World} (hL : L0 W0) : MemoOk Tryz.prog 1023 σ W0 10 m578 := memo_ok fit (Known2.nil σ) (FnsOk.cons (ext_is hL) (FnsOk.nil)) m578_run
noncomputable def h1150 : H := hUpd h1149 3769 [] [] []
noncomputable def h1151 : H := hUpc h1140 3770 [] [] [] [(68, 0, 8, I 25)]
noncomputable def m579 : Memo := ⟨[.ptr 68 0, I 24], h1150, .agg [IZ (-1), I 0, I 0, U 0, I 0, U 0, IZ (-1), I 0], h1151⟩
theorem m579_run : ranTo (evCall (cxX Tryz.prog bad [] [] [(172, isFn 325)]) 1000 60 10 m579.args m579.h) m579.v m579.h' = true := by kernel_rfl
theorem m579_ok {σ : Nat → Int} {W0 : World} (hL : L0 W0) : MemoOk Tryz.prog 1023 σ W0 10 m579 := memo_ok fit (Known2.nil σ) (FnsOk.cons (ext_is hL) (FnsOk.nil)) m579_run
noncomputable def h1152 : H := hUpd h1151 3771 [] [] []
noncomputable def h1153 : H := hUpc h1140 3772 [] [] [] [(68, 0, 8, I 26)]
noncomputable def m580 : Memo := ⟨[.ptr 68 0, I 25], h1152, .agg [IZ (-1), I 0, I 0, U 0, I 0, U 0, IZ (-1), I 0], h1153⟩
theorem m580_run : ranTo (evCall (cxX Tryz.prog bad [] [] [(172, isFn 325)]) 1000 60 10 m580.args m580.h) m580.v m580.h' = true := by kernel_rfl
theorem m580_ok {σ : Nat → Int} {W0 : World} (hL : L0 W0) : MemoOk Tryz.prog 1023 σ W0 10 m580 := memo_ok fit (Known2.nil σ) (FnsOk.cons (ext_is hL) (FnsOk.nil)) m580_run
noncomputable def h1154 : H := hUpd h1153 3773 [] [] []
noncomputable def h1155 : H := hUpc h1140 3774 [] [] [] [(68, 0, 8, I 27)]
noncomputable def m581 : Memo := ⟨[.ptr 68 0, I 26], h1154, .agg [IZ (-1), I 0, I 0, U 0, I 0, U 0, IZ (-1), I 0], h1155⟩
theorem m581_run : ranTo (evCall (cxX Tryz.prog bad [] [] [(172, isFn 325)]) 1000 60 10 m581.args m581.h) m581.v m581.h' = true := by kernel_rfl
theorem m581_ok {σ : Nat → Int} {W0 : World} (hL : L0 W0) : MemoOk Tryz.prog 1023 σ W0 10 m581 := memo_ok fit (Known2.nil σ) (FnsOk.cons (ext_is hL) (FnsOk.nil)) m581_run
noncomputable def h1156 : H := hUpd h1155 3775 [] [] []
noncomputable def h1157 : H := hUpc h1140 3776 [] [] [] [(68, 0, 8, I 28)]
noncomputable def m582 : Memo := ⟨[.ptr 68 0, I 27], h1156, .agg [IZ (-1), I 0, I 0, U 0, I 0, U 0, IZ (-1), I 0], h1157⟩
theorem m582_run : ranTo (evCall (cxX Tryz.prog bad [] [] [(172, isFn 325)]) 1000 60 10 m582.args m582.h) m582.v m582.h' = true := by kernel_rfl
theorem m582_ok {σ : Nat → Int} {W0 : World} (hL : L0 W0) : MemoOk Tryz.prog 1023 σ W0 10 m582 := memo_ok fit (Known2.nil σ) (FnsOk.cons (ext_is hL) (FnsOk.nil)) m582_run
noncomputable def h1158 : H := hUpd h1157 3777 [] [] []
noncomputable def h1159 : H := hUpc h1140 3778 [] [] [] [(68, 0, 8, I 29)]
noncomputable def m583 : Memo := ⟨[.ptr 68 0, I 28], h1158, .agg [IZ (-1), I 0, I 0, U 0, I 0, U 0, IZ (-1), I 0], h1159⟩
theorem m583_run : ranTo (evCall (cxX Tryz.prog bad [] [] [(172, isFn 325)]) 1000 60 10 m583.args m583.h) m583.v m583.h' = true := by kernel_rfl
theorem m583_ok {σ : Nat → Int} {W0 : World} (hL : L0 W0) : MemoOk Tryz.prog 1023 σ W0 10 m583 := memo_ok fit (Known2.nil σ) (FnsOk.cons (ext_is hL) (FnsOk.nil)) m583_run
noncomputable def h1160 : H := hUpd h1159 3779 [] [] []
noncomputable def h1161 : H := hUpc h1140 3780 [] [] [] [(68, 0, 8, I 30)]
noncomputable def m584 : Memo := ⟨[.ptr 68 0, I 29], h1160, .agg [IZ (-1), I 0, I 0, U 0, I 0, U 0, IZ (-1), I 0], h1161⟩
theorem m584_run : ranTo (evCall (cxX Tryz.prog bad [] [] [(172, isFn 325)]) 1000 60 10 m584.args m584.h) m584.v m584.h' = true := by kernel_rfl
theorem m584_ok {σ : Nat → Int} {W0 : World} (hL : L0 W0) : MemoOk Tryz.prog 1023 σ W0 10 m584 := memo_ok fit (Known2.nil σ) (FnsOk.cons (ext_is hL) (FnsOk.nil)) m584_run
noncomputable def h1162 : H := hUpd h1161 3781 [] [] []
noncomputable def h1163 : H := hUpc h1140 3782 [] [] [] [(68, 0, 8, I 31)]
noncomputable def m585 : Memo := ⟨[.ptr 68 0, I 30], h1162, .agg [IZ (-1), I 0, I 0, U 0, I 0, U 0, IZ (-1), I 0], h1163⟩
theorem m585_run : ranTo (evCall (cxX Tryz.prog bad [] [] [(172, isFn 325)]) 1000 60 10 m585.args m585.h) m585.v m585.h' = true := by kernel_rfl
theorem m585_ok {σ : Nat → Int} {W0 : World} (hL : L0 W0) : MemoOk Tryz.prog 1023 σ W0 10 m585 := memo_ok fit (Known2.nil σ) (FnsOk.cons (ext_is hL) (FnsOk.nil)) m585_run
noncomputable def h1164 : H := hUpd h1163 3783 [] [] []
noncomputable def h1165 : H := hUpc h1140 3784 [] [] [] [(68, 0, 8, I 32)]
noncomputable def m586 : Memo := ⟨[.ptr 68 0, I 31], h1164, .agg [IZ (-1), I 0, I 0, U 0, I 0, U 0, IZ (-1), I 0], h1165⟩
theorem m586_run : ranTo (evCall (cxX Tryz.prog bad [] [] [(172, isFn 325)]) 1000 60 10 m586.args m586.h) m586.v m586.h' = true := by kernel_rfl
theorem m586_ok {σ : Nat → Int} {W0 : World} (hL : L0 W0) : MemoOk Tryz.prog 1023 σ W0 10 m586 := memo_ok fit (Known2.nil σ) (FnsOk.cons (ext_is hL) (FnsOk.nil)) m586_run
noncomputable def h1166 : H := hUpd h1165 3785 [] [] []
noncomputable def h1167 : H := hUpc h1140 3786 [] [] [] [(68, 0, 8, I 33)]
noncomputable def m587 : Memo := ⟨[.ptr 68 0, I 32], h1166, .agg [IZ (-1), I 0, I 0, U 0, I 0, U 0, IZ (-1), I 0], h1167⟩
theorem m587_run : ranTo (evCall (cxX Tryz.prog bad [] [] [(172, isFn 325)]) 1000 60 10 m587.args m587.h) m587.v m587.h' = true := by kernel_rfl
theorem m587_ok {σ : Nat → Int} {W0 : World} (hL : L0 W0) : MemoOk Tryz.prog 1023 σ W0 10 m587 := memo_ok fit (Known2.nil σ) (FnsOk.cons (ext_is hL) (FnsOk.nil)) m587_run
noncomputable def h1168 : H := hUpd h1167 3787 [] [] []
noncomputable def h1169 : H := hUpc h1140 3788 [] [] [] [(68, 0, 8, I 34)]
noncomputable def m588 : Memo := ⟨[.ptr 68 0, I 33], h1168, .agg [IZ (-1), I 0, I 0, U 0, I 0, U 0, IZ (-1), I 0], h1169⟩
theorem m588_run : ranTo (evCall (cxX Tryz.prog bad [] [] [(172, isFn 325)]) 1000 60 10 m588.args m588.h) m588.v m588.h' = true := by kernel_rfl
theorem m588_ok {σ : Nat → Int} {W0 : World} (hL : L0 W0) : MemoOk Tryz.prog 1023 σ W0 10 m588 := memo_ok fit (Known2.nil σ) (FnsOk.cons (ext_is hL) (FnsOk.nil)) m588_run
noncomputable def h1170 : H := hUpd h1169 3789 [] [] []
noncomputable def h1171 : H := hUpc h1140 3790 [] [] [] [(68, 0, 8, I 35)]
noncomputable def m589 : Memo := ⟨[.ptr 68 0, I 34], h1170, .agg [IZ (-1), I 0, I 0, U 0, I 0, U 0, IZ (-1), I 0], h1171⟩
theorem m589_run : ranTo (evCall (cxX Tryz.prog bad [] [] [(172, isFn 325)]) 1000 60 10 m589.args m589.h) m589.v m589.h' = true := by kernel_rfl
theorem m589_ok {σ : Nat → Int} {W0 : World} (hL : L0 W0) : MemoOk Tryz.prog 1023 σ W0 10 m589 := memo_ok fit (Known2.nil σ) (FnsOk.cons (ext_is hL) (FnsOk.nil)) m589_run
noncomputable def h1172 : H := hUpd h1171 3791 [] [] []
noncomputable def h1173 : H := hUpc h1140 3792 [] [] [] [(68, 0, 8, I 36)]
noncomputable def m590 : Memo := ⟨[.ptr 68 0, I 35], h1172, .agg [IZ (-1), I 0, I 0, U 0, I 0, U 0, IZ (-1), I 0], h1173⟩
theorem m590_run : ranTo (evCall (cxX Tryz.prog bad [] [] [(172, isFn 325)]) 1000 60 10 m590.args m590.h) m590.v m590.h' = true := by kernel_rfl
theorem m590_ok {σ : Nat → Int} {W0 : World} (hL : L0 W0) : MemoOk Tryz.prog 1023 σ W0 10 m590 := memo_ok fit (Known2.nil σ) (FnsOk.cons (ext_is hL) (FnsOk.nil)) m590_run
noncomputable def h1174 : H := hUpd h1173 3793 [] [] []
noncomputable def h1175 : H := hUpc h1140 3794 [] [] [] [(68, 0, 8, I 37)]
noncomputable def m591 : Memo := ⟨[.ptr 68 0, I 36], h1174, .agg [IZ (-1), I 0, I 0, U 0, I 0, U 0, IZ (-1), I 0], h1175⟩
theorem m591_run : ranTo (evCall (cxX Tryz.prog bad [] [] [(172, isFn 325)]) 1000 60 10 m591.args m591.h) m591.v m591.h' = true := by kernel_rfl
theorem m591_ok {σ : Nat → Int} {W0 : World} (hL : L0 W0) : MemoOk Tryz.prog 1023 σ W0 10 m591 := memo_ok fit (Known2.nil σ) (FnsOk.cons (ext_is hL) (FnsOk.nil)) m591_run
noncomputable def h1176 : H := hUpd h1175 3795 [] [] []
noncomputable def h1177 : H := hUpc h1140 3796 [] [] [] [(68, 0, 8, I 38)]
noncomputable def m592 : Memo := ⟨[.ptr 68 0, I 37], h1176, .agg [IZ (-1), I 0, I 0, U 0, I 0, U 0, IZ (-1), I 0], h1177⟩
theorem m592_run : ranTo (evCall (cxX Tryz.prog bad [] [] [(172, isFn 325)]) 1000 60 10 m592.args m592.h) m592.v m592.h' = true := by kernel_rfl
theorem m592_ok {σ : Nat → Int} {W0 : World} (hL : L0 W0) : MemoOk Tryz.prog 1023 σ W0 10 m592 := memo_ok fit (Known2.nil σ) (FnsOk.cons (ext_is hL) (FnsOk.nil)) m592_run
noncomputable def h1178 : H := hUpd h1177 3797 [] [] []
noncomputable def h1179 : H := hUpc h1140 3798 [] [] [] [(68, 0, 8, I 39)]
noncomputable def m593 : Memo := ⟨[.ptr 68 0, I 38], h1178, .agg [IZ (-1), I 0, I 0, U 0, I 0, U 0, IZ (-1), I 0], h1179⟩
theorem m593_run : ranTo (evCall (cxX Tryz.prog bad [] [] [(172, isFn 325)]) 1000 60 10 m593.args m593.h) m593.v m593.h' = true := by kernel_rfl
theorem m593_ok {σ : Nat → Int} {W0 : World} (hL : L0 W0) : MemoOk Tryz.prog 1023 σ W0 10 m593 := memo_ok fit (Known2.nil σ) (FnsOk.cons (ext_is hL) (FnsOk.nil)) m593_run
theorem run18 : lawF Tryz.prog bad [] ((6, numExtE [(0, 30, .var 2), (1, 40, .var 3)]) :: (9, frameFn [m5]) :: (10, frameFn [m45, m84, m122, m159, m195, m230, m264, m297, m329, m360, m390, m419, m447, m474, m500, m525, m549, m572, m573, m574, m575, m576, m577, m578, m579, m580, m581, m582, m583, m584, m585, m586, m587, m588, m589, m590, m591, m592, m593]) :: q0) 1000 60 4 [.int .i64 (.var 0), .int .i64 (.var 1)] [((-9223372036854775808), 9223372036854775807), ((-9223372036854775808), 9223372036854775807), (18, 18), (0, 39)] (peels 39 3) (sentH 325 10 errTab) = true := by kernel_rfl
theorem case18 {σ : Nat → Int} {W : World} (hL : L0 W) (hk : Known2 σ [((-9223372036854775808), 9223372036854775807), ((-9223372036854775808), 9223372036854775807), (18, 18), (0, 39)] []) (hT : TabOk Tryz.prog bad 6 σ [(0, 30, .var 2), (1, 40, .var 3)]) {xs : Array Value} (hv : ∀ ρ, VRs σ ρ [.int .i64 (.var 0), .int .i64 (.var 1)] xs.toList) : Calls Tryz.prog 4 xs W fun e w' => e = .returned (.bool true) ∧ Below W.heap.size W w' := by
  obtain ⟨ads, h1, h2, h3⟩ := errs_sents hL
  exact law_case_f fit h1 h2 h3 errs_all errs_lt (by kernel_rfl) hk (FnsOk.cons (hT.ok fit) (FnsOk.cons (frame_fn_ok (all_cons (m5_ok hL (hk.relax (r' := [((-9223372036854775808), 9223372036854775807), ((-9223372036854775808), 9223372036854775807), (0, 29), (0, 39)]) (by kernel_rfl))) (all_nil))) (FnsOk.cons (frame_fn_ok (all_cons (m45_ok hL (hk.relax (r' := [((-9223372036854775808), 9223372036854775807), ((-9223372036854775808), 9223372036854775807), (1, 29), (0, 39)]) (by kernel_rfl))) (all_cons (m84_ok hL (hk.relax (r' := [((-9223372036854775808), 9223372036854775807), ((-9223372036854775808), 9223372036854775807), (2, 29), (0, 39)]) (by kernel_rfl))) (all_cons (m122_ok hL (hk.relax (r' := [((-9223372036854775808), 9223372036854775807), ((-9223372036854775808), 9223372036854775807), (3, 29), (0, 39)]) (by kernel_rfl))) (all_cons (m159_ok hL (hk.relax (r' := [((-9223372036854775808), 9223372036854775807), ((-9223372036854775808), 9223372036854775807), (4, 29), (0, 39)]) (by kernel_rfl))) (all_cons (m195_ok hL (hk.relax (r' := [((-9223372036854775808), 9223372036854775807), ((-9223372036854775808), 9223372036854775807), (5, 29), (0, 39)]) (by kernel_rfl))) (all_cons (m230_ok hL (hk.relax (r' := [((-9223372036854775808), 9223372036854775807), ((-9223372036854775808), 9223372036854775807), (6, 29), (0, 39)]) (by kernel_rfl))) (all_cons (m264_ok hL (hk.relax (r' := [((-9223372036854775808), 9223372036854775807), ((-9223372036854775808), 9223372036854775807), (7, 29), (0, 39)]) (by kernel_rfl))) (all_cons (m297_ok hL (hk.relax (r' := [((-9223372036854775808), 9223372036854775807), ((-9223372036854775808), 9223372036854775807), (8, 29), (0, 39)]) (by kernel_rfl))) (all_cons (m329_ok hL (hk.relax (r' := [((-9223372036854775808), 9223372036854775807), ((-9223372036854775808), 9223372036854775807), (9, 29), (0, 39)]) (by kernel_rfl))) (all_cons (m360_ok hL (hk.relax (r' := [((-9223372036854775808), 9223372036854775807), ((-9223372036854775808), 9223372036854775807), (10, 29), (0, 39)]) (by kernel_rfl))) (all_cons (m390_ok hL (hk.relax (r' := [((-9223372036854775808), 9223372036854775807), ((-9223372036854775808), 9223372036854775807), (11, 29), (0, 39)]) (by kernel_rfl))) (all_cons (m419_ok hL (hk.relax (r' := [((-9223372036854775808), 9223372036854775807), ((-9223372036854775808), 9223372036854775807), (12, 29), (0, 39)]) (by kernel_rfl))) (all_cons (m447_ok hL (hk.relax (r' := [((-9223372036854775808), 9223372036854775807), ((-9223372036854775808), 9223372036854775807), (13, 29), (0, 39)]) (by kernel_rfl))) (all_cons (m474_ok hL (hk.relax (r' := [((-9223372036854775808), 9223372036854775807), ((-9223372036854775808), 9223372036854775807), (14, 29), (0, 39)]) (by kernel_rfl))) (all_cons (m500_ok hL (hk.relax (r' := [((-9223372036854775808), 9223372036854775807), ((-9223372036854775808), 9223372036854775807), (15, 29), (0, 39)]) (by kernel_rfl))) (all_cons (m525_ok hL (hk.relax (r' := [((-9223372036854775808), 9223372036854775807), ((-9223372036854775808), 9223372036854775807), (16, 29), (0, 39)]) (by kernel_rfl))) (all_cons (m549_ok hL (hk.relax (r' := [((-9223372036854775808), 9223372036854775807), ((-9223372036854775808), 9223372036854775807), (17, 29), (0, 39)]) (by kernel_rfl))) (all_cons (m572_ok hL (hk.relax (r' := [((-9223372036854775808), 9223372036854775807), ((-9223372036854775808), 9223372036854775807), (18, 29), (0, 39)]) (by kernel_rfl))) (all_cons (m573_ok hL hk) (all_cons (m574_ok hL) (all_cons (m575_ok hL) (all_cons (m576_ok hL) (all_cons (m577_ok hL) (all_cons (m578_ok hL) (all_cons (m579_ok hL) (all_cons (m580_ok hL) (all_cons (m581_ok hL) (all_cons (m582_ok hL) (all_cons (m583_ok hL) (all_cons (m584_ok hL) (all_cons (m585_ok hL) (all_cons (m586_ok hL) (all_cons (m587_ok hL) (all_cons (m588_ok hL) (all_cons (m589_ok hL) (all_cons (m590_ok hL) (all_cons (m591_ok hL) (all_cons (m592_ok hL) (all_cons (m593_ok hL) (all_nil))))))))))))))))))))))))))))))))))))))))) ((q0_ok hL))))) hv run18
noncomputable def h1180 : H := hUpc h1140 3640 [] [(34, .cells 107 ((rp 9 (U 0) ((I 3) :: rp 5 (I 0) ((U 0) :: rp 4 (I 0) ((U 0) :: rp 4 (I 0) ((U 0) :: rp 4 (I 0) ((U 0) :: rp 4 (I 0) ((U 0) :: rp 4 (I 0) ((U 0) :: rp 4 (I 0) ((U 0) :: rp 4 (I 0) ((U 0) :: rp 4 (I 0) ((U 0) :: rp 4 (I 0) ((U 0) :: rp 4 (I 0) ((U 0) :: rp 4 (I 0) ((U 0) :: rp 4 (I 0) ((U 0) :: rp 4 (I 0) ((U 0) :: rp 4 (I 0) ((U 0) :: rp 4 (I 0) ((U 0) :: (I 3) :: (I 0) :: (I 0) :: (I 0) :: (U 0) :: (I 7) :: (I 0) :: (I 0) :: (I 0) :: (U 0) :: rp 4 (I 0) ([U 0, I 0]))))))))))))))))))) :: rp 5 (rp 9 (U 0) (rp 6 (I 0) ((U 0) :: rp 4 (I 0) ((U 0) :: rp 4 (I 0) ((U 0) :: rp 4 (I 0) ((U 0) :: rp 4 (I 0) ((U 0) :: rp 4 (I 0) ((U 0) :: rp 4 (I 0) ((U 0) :: rp 4 (I 0) ((U 0) :: rp 4 (I 0) ((U 0) :: rp 4 (I 0) ((U 0) :: rp 4 (I 0) ((U 0) :: rp 4 (I 0) ((U 0) :: rp 4 (I 0) ((U 0) :: rp 4 (I 0) ((U 0) :: rp 4 (I 0) ((U 0) :: rp 4 (I 0) ((U 0) :: rp 4 (I 0) ((U 0) :: rp 4 (I 0) ((U 0) :: rp 4 (I 0) ([U 0, I 0]))))))))))))))))))))) ([])) false),
  (56, .cells 2 ([IZ (-1), .int .i64 (.sub (.var 2) (.lit 18))] :: rp 7 ([I 0, I 0]) ([])) false),
  (27, .cells 32 (((U 201326592) :: (U 67108864) :: rp 30 (U 0) ([])) :: rp 11 (rp 32 (U 0) ([])) ([])) false)] [(67, 0, [.slice 365 0 1 1 1 false])] [(68, 0, 8, I 18)]
noncomputable def h1181 : H := hUpc h1180 3809 [] [] [(30, 0, [I 16, .slice 663 0 1 1 10 false, I 18]),
  (56, 0, [IZ (-1), .int .i64 (.sub (.var 2) (.lit 19))])] [(34, 0, 8, U 1), (68, 0, 8, I 19)]
noncomputable def m594 : Memo := ⟨[.ptr 68 0, I 18], h1180, .agg [I 0, I 3, I 0, U 0, I 0, U 0, IZ (-1), I 0], h1181⟩
theorem m594_run : ranTo (evCall (cxX Tryz.prog bad [((-9223372036854775808), 9223372036854775807), ((-9223372036854775808), 9223372036854775807), (19, 29), (0, 39)] [] [(51, pureFn [p4, p2, p3]), (172, isFn 325)]) 1000 60 10 m594.args m594.h) m594.v m594.h' = true := by kernel_rfl
theorem m594_ok {σ : Nat → Int} {W0 : World} (hL : L0 W0) (hk : Known2 σ [((-9223372036854775808), 9223372036854775807), ((-9223372036854775808), 9223372036854775807), (19, 29), (0, 39)] []) : MemoOk Tryz.prog 1023 σ W0 10 m594 := memo_ok fit hk (FnsOk.cons (pure_fn_ok (all_cons (p4_ok hL) (all_cons (p2_ok hL) (all_cons (p3_ok hL) (all_nil))))) (FnsOk.cons (ext_is hL) (FnsOk.nil))) m594_run
noncomputable def h1182 : H := hUpd h1181 3810 [27] [] []
noncomputable def h1183 : H := hUpc h1182 3928 [] [] [(67, 0, [.slice 365 0 0 1 1 false])] [(34, 0, 9, I 4), (34, 0, 10, I 6), (68, 0, 8, I 20)]
noncomputable def m595 : Memo := ⟨[.ptr 68 0, I 19], h1182, .agg [I 0, I 5, I 0, U 0, I 0, U 0, IZ (-1), I 6], h1183⟩
theorem m595_run : ranTo (evCall (cxX Tryz.prog bad [((-9223372036854775808), 9223372036854775807), ((-9223372036854775808), 9223372036854775807), (19, 19), (0, 39)] [] [(51, pureFn [p4, p2, p3]), (172, isFn 325)]) 1000 60 10 m595.args m595.h) m595.v m595.h' = true := by kernel_rfl
theorem m595_ok {σ : Nat → Int} {W0 : World} (hL : L0 W0) (hk : Known2 σ [((-9223372036854775808), 9223372036854775807), ((-9223372036854775808), 9223372036854775807), (19, 19), (0, 39)] []) : MemoOk Tryz.prog 1023 σ W0 10 m595 := memo_ok fit hk (FnsOk.cons (pure_fn_ok (all_cons (p4_ok hL) (all_cons (p2_ok hL) (all_cons (p3_ok hL) (all_nil))))) (FnsOk.cons (ext_is hL) (FnsOk.nil))) m595_run
noncomputable def h1184 : H := hUpd h1183 3929 [34, 56] [] []
noncomputable def h1185 : H := hUpc h1184 3930 [] [] [] [(68, 0, 8, I 21)]
noncomputable def m596 : Memo := ⟨[.ptr 68 0, I 20], h1184, .agg [IZ (-1), I 0, I 0, U 0, I 0, U 0, IZ (-1), I 0], h1185⟩
theorem m596_run : ranTo (evCall (cxX Tryz.prog bad [] [] [(172, isFn 325)]) 1000 60 10 m596.args m596.h) m596.v m596.h' = true := by kernel_rfl
theorem m596_ok {σ : Nat → Int} {W0 : World} (hL : L0 W0) : MemoOk Tryz.prog 1023 σ W0 10 m596 := memo_ok fit (Known2.nil σ) (FnsOk.cons (ext_is hL) (FnsOk.nil)) m596_run
noncomputable def h1186 : H := hUpd h1185 3931 [] [] []
noncomputable def h1187 : H := hUpc h1184 3932 [] [] [] [(68, 0, 8, I 22)]
noncomputable def m597 : Memo := ⟨[.ptr 68 0, I 21], h1186, .agg [IZ (-1), I 0, I 0, U 0, I 0, U 0, IZ (-1), I 0], h1187⟩
theorem m597_run : ranTo (evCall (cxX Tryz.prog bad [] [] [(172, isFn 325)]) 1000 60 10 m597.args m597.h) m597.v m597.h' = true := by kernel_rfl
theorem m597_ok {σ : Nat → Int} {W0 : World} (hL : L0 W0) : MemoOk Tryz.prog 1023 σ W0 10 m597 := memo_ok fit (Known2.nil σ) (FnsOk.cons (ext_is hL) (FnsOk.nil)) m597_run
noncomputable def h1188 : H := hUpd h1187 3933 [] [] []
noncomputable def h1189 : H := hUpc h1184 3934 [] [] [] [(68, 0, 8, I 23)]
noncomputable def m598 : Memo := ⟨[.ptr 68 0, I 22], h1188, .agg [IZ (-1), I 0, I 0, U 0, I 0, U 0, IZ (-1), I 0], h1189⟩
theorem m598_run : ranTo (evCall (cxX Tryz.prog bad [] [] [(172, isFn 325)]) 1000 60 10 m598.args m598.h) m598.v m598.h' = true := by kernel_rfl
theorem m598_ok {σ : Nat → Int} {W0 : World} (hL : L0 W0) : MemoOk Tryz.prog 1023 σ W0 10 m598 := memo_ok fit (Known2.nil σ) (FnsOk.cons (ext_is hL) (FnsOk.nil)) m598_run
noncomputable def h1190 : H := hUpd h1189 3935 [] [] []
noncomputable def h1191 : H := hUpc h1184 3936 [] [] [] [(68, 0, 8, I 24)]
noncomputable def m599 : Memo := ⟨[.ptr 68 0, I 23], h1190, .agg [IZ (-1), I 0, I 0, U 0, I 0, U 0, IZ (-1), I 0], h1191⟩
theorem m599_run : ranTo (evCall (cxX Tryz.prog bad [] [] [(172, isFn 325)]) 1000 60 10 m599.args m599.h) m599.v m599.h' = true := by kernel_rfl
theorem m599_ok {σ : Nat → Int} {W0 : World} (hL : L0 W0) : MemoOk Tryz.prog 1023 σ W0 10 m599 := memo_ok fit (Known2.nil σ) (FnsOk.cons (ext_is hL) (FnsOk.nil)) m599_run
noncomputable def h1192 : H := hUpd h1191 3937 [] [] []
noncomputable def h1193 : H := hUpc h1184 3938 [] [] [] [(68, 0, 8, I 25)]
noncomputable def m600 : Memo := ⟨[.ptr 68 0, I 24], h1192, .agg [IZ (-1), I 0, I 0, U 0, I 0, U 0, IZ (-1), I 0], h1193⟩
theorem m600_run : ranTo (evCall (cxX Tryz.prog bad [] [] [(172, isFn 325)]) 1000 60 10 m600.args m600.h) m600.v m600.h' = true := by kernel_rfl
theorem m600_ok {σ : Nat → Int} {W0 : World} (hL : L0 W0) : MemoOk Tryz.prog 1023 σ W0 10 m600 := memo_ok fit (Known2.nil σ) (FnsOk.cons (ext_is hL) (FnsOk.nil)) m600_run
noncomputable def h1194 : H := hUpd h1193 3939 [] [] []
noncomputable def h1195 : H := hUpc h1184 3940 [] [] [] [(68, 0, 8, I 26)]
noncomputable def m601 : Memo := ⟨[.ptr 68 0, I 25], h1194, .agg [IZ (-1), I 0, I 0, U 0, I 0, U 0, IZ (-1), I 0], h1195⟩
theorem m601_run : ranTo (evCall (cxX Tryz.prog bad [] [] [(172, isFn 325)]) 1000 60 10 m601.args m601.h) m601.v m601.h' = true := by kernel_rfl
theorem m601_ok {σ : Nat → Int} {W0 : World} (hL : L0 W0) : MemoOk Tryz.prog 1023 σ W0 10 m601 := memo_ok fit (Known2.nil σ) (FnsOk.cons (ext_is hL) (FnsOk.nil)) m601_run
noncomputable def h1196 : H := hUpd h1195 3941 [] [] []
noncomputable def h1197 : H := hUpc h1184 3942 [] [] [] [(68, 0, 8, I 27)]
noncomputable def m602 : Memo := ⟨[.ptr 68 0, I 26], h1196, .agg [IZ (-1), I 0, I 0, U 0, I 0, U 0, IZ (-1), I 0], h1197⟩
theorem m602_run : ranTo (evCall (cxX Tryz.prog bad [] [] [(172, isFn 325)]) 1000 60 10 m602.args m602.h) m602.v m602.h' = true := by kernel_rfl
theorem m602_ok {σ : Nat → Int} {W0 : World} (hL : L0 W0) : MemoOk Tryz.prog 1023 σ W0 10 m602 := memo_ok fit (Known2.nil σ) (FnsOk.cons (ext_is hL) (FnsOk.nil)) m602_run
noncomputable def h1198 : H := hUpd h1197 3943 [] [] []
noncomputable def h1199 : H := hUpc h1184 3944 [] [] [] [(68, 0, 8, I 28)]
noncomputable def m603 : Memo := ⟨[.ptr 68 0, I 27], h1198, .agg [IZ (-1), I 0, I 0, U 0, I 0, U 0, IZ (-1), I 0], h1199⟩
theorem m603_run : ranTo (evCall (cxX Tryz.prog bad [] [] [(172, isFn 325)]) 1000 60 10 m603.args m603.h) m603.v m603.h' = true := by kernel_rfl
theorem m603_ok {σ : Nat → Int} {W0 : World} (hL : L0 W0) : MemoOk Tryz.prog 1023 σ W0 10 m603 := memo_ok fit (Known2.nil σ) (FnsOk.cons (ext_is hL) (FnsOk.nil)) m603_run
noncomputable def h1200 : H := hUpd h1199 3945 [] [] []
noncomputable def h1201 : H := hUpc h1184 3946 [] [] [] [(68, 0, 8, I 29)]
noncomputable def m604 : Memo := ⟨[.ptr 68 0, I 28], h1200, .agg [IZ (-1), I 0, I 0, U 0, I 0, U 0, IZ (-1), I 0], h1201⟩
theorem m604_run : ranTo (evCall (cxX Tryz.prog bad [] [] [(172, isFn 325)]) 1000 60 10 m604.args m604.h) m604.v m604.h' = true := by kernel_rfl
theorem m604_ok {σ : Nat → Int} {W0 : World} (hL : L0 W0) : MemoOk Tryz.prog 1023 σ W0 10 m604 := memo_ok fit (Known2.nil σ) (FnsOk.cons (ext_is hL) (FnsOk.nil)) m604_run
noncomputable def h1202 : H := hUpd h1201 3947 [] [] []
noncomputable def h1203 : H := hUpc h1184 3948 [] [] [] [(68, 0, 8, I 30)]
noncomputable def m605 : Memo := ⟨[.ptr 68 0, I 29], h1202, .agg [IZ (-1), I 0, I 0, U 0, I 0, U 0, IZ (-1), I 0], h1203⟩
theorem m605_run : ranTo (evCall (cxX Tryz.prog bad [] [] [(172, isFn 325)]) 1000 60 10 m605.args m605.h) m605.v m605.h' = true := by kernel_rfl
theorem m605_ok {σ : Nat → Int} {W0 : World} (hL : L0 W0) : MemoOk Tryz.prog 1023 σ W0 10 m605 := memo_ok fit (Known2.nil σ) (FnsOk.cons (ext_is hL) (FnsOk.nil)) m605_run
noncomputable def h1204 : H := hUpd h1203 3949 [] [] []
noncomputable def h1205 : H := hUpc h1184 3950 [] [] [] [(68, 0, 8, I 31)]
noncomputable def m606 : Memo := ⟨[.ptr 68 0, I 30], h1204, .agg [IZ (-1), I 0, I 0, U 0, I 0, U 0, IZ (-1), I 0], h1205⟩
theorem m606_run : ranTo (evCall (cxX Tryz.prog bad [] [] [(172, isFn 325)]) 1000 60 10 m606.args m606.h) m606.v m606.h' = true := by kernel_rfl
theorem m606_ok {σ : Nat → Int} {W0 : World} (hL : L0 W0) : MemoOk Tryz.prog 1023 σ W0 10 m606 := memo_ok fit (Known2.nil σ) (FnsOk.cons (ext_is hL) (FnsOk.nil)) m606_run
noncomputable def h1206 : H := hUpd h1205 3951 [] [] []
noncomputable def h1207 : H := hUpc h1184 3952 [] [] [] [(68, 0, 8, I 32)]
noncomputable def m607 : Memo := ⟨[.ptr 68 0, I 31], h1206, .agg [IZ (-1), I 0, I 0, U 0, I 0, U 0, IZ (-1), I 0], h1207⟩
theorem m607_run : ranTo (evCall (cxX Tryz.prog bad [] [] [(172, isFn 325)]) 1000 60 10 m607.args m607.h) m607.v m607.h' = true := by kernel_rfl
theorem m607_ok {σ : Nat → Int} {W0 : World} (hL : L0 W0) : MemoOk Tryz.prog 1023 σ W0 10 m607 := memo_ok fit (Known2.nil σ) (FnsOk.cons (ext_is hL) (FnsOk.nil)) m607_run
noncomputable def h1208 : H := hUpd h1207 3953 [] [] []
noncomputable def h1209 : H := hUpc h1184 3954 [] [] [] [(68, 0, 8, I 33)]
noncomputable def m608 : Memo := ⟨[.ptr 68 0, I 32], h1208, .agg [IZ (-1), I 0, I 0, U 0, I 0, U 0, IZ (-1), I 0], h1209⟩
theorem m608_run : ranTo (evCall (cxX Tryz.prog bad [] [] [(172, isFn 325)]) 1000 60 10 m608.args m608.h) m608.v m608.h' = true := by kernel_rfl
theorem m608_ok {σ : Nat → Int} {W0 : World} (hL : L0 W0) : MemoOk Tryz.prog 1023 σ W0 10 m608 := memo_ok fit (Known2.nil σ) (FnsOk.cons (ext_is hL) (FnsOk.nil)) m608_run
noncomputable def h1210 : H := hUpd h1209 3955 [] [] []
noncomputable def h1211 : H := hUpc h1184 3956 [] [] [] [(68, 0, 8, I 34)]
noncomputable def m609 : Memo := ⟨[.ptr 68 0, I 33], h1210, .agg [IZ (-1), I 0, I 0, U 0, I 0, U 0, IZ (-1), I 0], h1211⟩
theorem m609_run : ranTo (evCall (cxX Tryz.prog bad [] [] [(172, isFn 325)]) 1000 60 10 m609.args m609.h) m609.v m609.h' = true := by kernel_rfl
theorem m609_ok {σ : Nat → Int} {W0 : World} (hL : L0 W0) : MemoOk Tryz.prog 1023 σ W0 10 m609 := memo_ok fit (Known2.nil σ) (FnsOk.cons (ext_is hL) (FnsOk.nil)) m609_run
noncomputable def h1212 : H := hUpd h1211 3957 [] [] []
noncomputable def h1213 : H := hUpc h1184 3958 [] [] [] [(68, 0, 8, I 35)]
noncomputable def m610 : Memo := ⟨[.ptr 68 0, I 34], h1212, .agg [IZ (-1), I 0, I 0, U 0, I 0, U 0, IZ (-1), I 0], h1213⟩
theorem m610_run : ranTo (evCall (cxX Tryz.prog bad [] [] [(172, isFn 325)]) 1000 60 10 m610.args m610.h) m610.v m610.h' = true := by kernel_rfl
theorem m610_ok {σ : Nat → Int} {W0 : World} (hL : L0 W0) : MemoOk Tryz.prog 1023 σ W0 10 m610 := memo_ok fit (Known2.nil σ) (FnsOk.cons (ext_is hL) (FnsOk.nil)) m610_run
noncomputable def h1214 : H := hUpd h1213 3959 [] [] []
noncomputable def h1215 : H := hUpc h1184 3960 [] [] [] [(68, 0, 8, I 36)]
noncomputable def m611 : Memo := ⟨[.ptr 68 0, I 35], h1214, .agg [IZ (-1), I 0, I 0, U 0, I 0, U 0, IZ (-1), I 0], h1215⟩
theorem m611_run : ranTo (evCall (cxX Tryz.prog bad [] [] [(172, isFn 325)]) 1000 60 10 m611.args m611.h) m611.v m611.h' = true := by kernel_rfl
theorem m611_ok {σ : Nat → Int} {W0 : World} (hL : L0 W0) : MemoOk Tryz.prog 1023 σ W0 10 m611 := memo_ok fit (Known2.nil σ) (FnsOk.cons (ext_is hL) (FnsOk.nil)) m611_run
noncomputable def h1216 : H := hUpd h1215 3961 [] [] []
noncomputable def h1217 : H := hUpc h1184 3962 [] [] [] [(68, 0, 8, I 37)]
noncomputable def m612 : Memo := ⟨[.ptr 68 0, I 36], h1216, .agg [IZ (-1), I 0, I 0, U 0, I 0, U 0, IZ (-1), I 0], h1217⟩
theorem m612_run : ranTo (evCall (cxX Tryz.prog bad [] [] [(172, isFn 325)]) 1000 60 10 m612.args m612.h) m612.v m612.h' = true := by kernel_rfl
theorem m612_ok {σ : Nat → Int} {W0 : World} (hL : L0 W0) : MemoOk Tryz.prog 1023 σ W0 10 m612 := memo_ok fit (Known2.nil σ) (FnsOk.cons (ext_is hL) (FnsOk.nil)) m612_run
noncomputable def h1218 : H := hUpd h1217 3963 [] [] []
noncomputable def h1219 : H := hUpc h1184 3964 [] [] [] [(68, 0, 8, I 38)]
noncomputable def m613 : Memo := ⟨[.ptr 68 0, I 37], h1218, .agg [IZ (-1), I 0, I 0, U 0, I 0, U 0, IZ (-1), I 0], h1219⟩
theorem m613_run : ranTo (evCall (cxX Tryz.prog bad [] [] [(172, isFn 325)]) 1000 60 10 m613.args m613.h) m613.v m613.h' = true := by kernel_rfl
theorem m613_ok {σ : Nat → Int} {W0 : World} (hL : L0 W0) : MemoOk Tryz.prog 1023 σ W0 10 m613 := memo_ok fit (Known2.nil σ) (FnsOk.cons (ext_is hL) (FnsOk.nil)) m613_run
noncomputable def h1220 : H := hUpd h1219 3965 [] [] []
noncomputable def h1221 : H := hUpc h1184 3966 [] [] [] [(68, 0, 8, I 39)]
noncomputable def m614 : Memo := ⟨[.ptr 68 0, I 38], h1220, .agg [IZ (-1), I 0, I 0, U 0, I 0, U 0, IZ (-1), I 0], h1221⟩
theorem m614_run : ranTo (evCall (cxX Tryz.prog bad [] [] [(172, isFn 325)]) 1000 60 10 m614.args m614.h) m614.v m614.h' = true := by kernel_rfl
theorem m614_ok {σ : Nat → Int} {W0 : World} (hL : L0 W0) : MemoOk Tryz.prog 1023 σ W0 10 m614 := memo_ok fit (Known2.nil σ) (FnsOk.cons (ext_is hL) (FnsOk.nil)) m614_run
theorem run19 : lawF Tryz.prog bad [] ((6, numExtE [(0, 30, .var 2), (1, 40, .var 3)]) :: (9, frameFn [m5]) :: (10, frameFn [m45, m84, m122, m159, m195, m230, m264, m297, m329, m360, m390, m419, m447, m474, m500, m525, m549, m572, m594, m595, m596, m597, m598, m599, m600, m601, m602, m603, m604, m605, m606, m607, m608, m609, m610, m611, m612, m613, m614]) :: q0) 1000 60 4 [.int .i64 (.var 0), .int .i64 (.var 1)] [((-9223372036854775808), 9223372036854775807), ((-9223372036854775808), 9223372036854775807), (19, 19), (0, 39)] (peels 39 3) (sentH 325 10 errTab) = true := by kernel_rfl
theorem case19 {σ : Nat → Int} {W : World} (hL : L0 W) (hk : Known2 σ [((-9223372036854775808), 9223372036854775807), ((-9223372036854775808), 9223372036854775807), (19, 19), (0, 39)] []) (hT : TabOk Tryz.prog bad 6 σ [(0, 30, .var 2), (1, 40, .var 3)]) {xs : Array Value} (hv : ∀ ρ, VRs σ ρ [.int .i64 (.var 0), .int .i64 (.var 1)] xs.toList) : Calls Tryz.prog 4 xs W fun e w' => e = .returned (.bool true) ∧ Below W.heap.size W w' := by
  obtain ⟨ads, h1, h2, h3⟩ := errs_sents hL
  exact law_case_f fit h1 h2 h3 errs_all errs_lt (by kernel_rfl) hk (FnsOk.cons (hT.ok fit) (FnsOk.cons (frame_fn_ok (all_cons (m5_ok hL (hk.relax (r' := [((-9223372036854775808), 9223372036854775807), ((-9223372036854775808), 9223372036854775807), (0, 29), (0, 39)]) (by kernel_rfl))) (all_nil))) (FnsOk.cons (frame_fn_ok (all_cons (m45_ok hL (hk.relax (r' := [((-9223372036854775808), 9223372036854775807), ((-9223372036854775808), 9223372036854775807), (1, 29), (0, 39)]) (by kernel_rfl))) (all_cons (m84_ok hL (hk.relax (r' := [((-9223372036854775808), 9223372036854775807), ((-9223372036854775808), 9223372036854775807), (2, 29), (0, 39)]) (by kernel_rfl))) (all_cons (m122_ok hL (hk.relax (r' := [((-9223372036854775808), 9223372036854775807), ((-9223372036854775808), 9223372036854775807), (3, 29), (0, 39)]) (by kernel_rfl))) (all_cons (m159_ok hL (hk.relax (r' := [((-9223372036854775808), 9223372036854775807), ((-9223372036854775808), 9223372036854775807), (4, 29), (0, 39)]) (by kernel_rfl))) (all_cons (m195_ok hL (hk.relax (r' := [((-9223372036854775808), 9223372036854775807), ((-9223372036854775808), 9223372036854775807), (5, 29), (0, 39)]) (by kernel_rfl))) (all_cons (m230_ok hL (hk.relax (r' := [((-9223372036854775808), 9223372036854775807), ((-9223372036854775808), 9223372036854775807), (6, 29), (0, 39)]) (by kernel_rfl))) (all_cons (m264_ok hL (hk.relax (r' := [((-9223372036854775808), 9223372036854775807), ((-9223372036854775808), 9223372036854775807), (7, 29), (0, 39)]) (by kernel_rfl))) (all_cons (m297_ok hL (hk.relax (r' := [((-9223372036854775808), 9223372036854775807), ((-9223372036854775808), 9223372036854775807), (8, 29), (0, 39)]) (by kernel_rfl))) (all_cons (m329_ok hL (hk.relax (r' := [((-9223372036854775808), 9223372036854775807), ((-9223372036854775808), 9223372036854775807), (9, 29), (0, 39)]) (by kernel_rfl))) (all_cons (m360_ok hL (hk.relax (r' := [((-9223372036854775808), 9223372036854775807), ((-9223372036854775808), 9223372036854775807), (10, 29), (0, 39)]) (by kernel_rfl))) (all_cons (m390_ok hL (hk.relax (r' := [((-9223372036854775808), 9223372036854775807), ((-9223372036854775808), 9223372036854775807), (11, 29), (0, 39)]) (by kernel_rfl))) (all_cons (m419_ok hL (hk.relax (r' := [((-9223372036854775808), 9223372036854775807), ((-9223372036854775808), 9223372036854775807), (12, 29), (0, 39)]) (by kernel_rfl))) (all_cons (m447_ok hL (hk.relax (r' := [((-9223372036854775808), 9223372036854775807), ((-9223372036854775808), 9223372036854775807), (13, 29), (0, 39)]) (by kernel_rfl))) (all_cons (m474_ok hL (hk.relax (r' := [((-9223372036854775808), 9223372036854775807), ((-9223372036854775808), 9223372036854775807), (14, 29), (0, 39)]) (by kernel_rfl))) (all_cons (m500_ok hL (hk.relax (r' := [((-9223372036854775808), 9223372036854775807), ((-9223372036854775808), 9223372036854775807), (15, 29), (0, 39)]) (by kernel_rfl))) (all_cons (m525_ok hL (hk.relax (r' := [((-9223372036854775808), 9223372036854775807), ((-9223372036854775808), 9223372036854775807), (16, 29), (0, 39)]) (by kernel_rfl))) (all_cons (m549_ok hL (hk.relax (r' := [((-9223372036854775808), 9223372036854775807), ((-9223372036854775808), 9223372036854775807), (17, 29), (0, 39)]) (by kernel_rfl))) (all_cons (m572_ok hL (hk.relax (r' := [((-9223372036854775808), 9223372036854775807), ((-9223372036854775808), 9223372036854775807), (18, 29), (0, 39)]) (by kernel_rfl))) (all_cons (m594_ok hL (hk.relax (r' := [((-9223372036854775808), 9223372036854775807), ((-9223372036854775808), 9223372036854775807), (19, 29), (0, 39)]) (by kernel_rfl))) (all_cons (m595_ok hL hk) (all_cons (m596_ok hL) (all_cons (m597_ok hL) (all_cons (m598_ok hL) (all_cons (m599_ok hL) (all_cons (m600_ok hL) (all_cons (m601_ok hL) (all_cons (m602_ok hL) (all_cons (m603_ok hL) (all_cons (m604_ok hL) (all_cons (m605_ok hL) (all_cons (m606_ok hL) (all_cons (m607_ok hL) (all_cons (m608_ok hL) (all_cons (m609_ok hL) (all_cons (m610_ok hL) (all_cons (m611_ok hL) (all_cons (m612_ok hL) (all_cons (m613_ok hL) (all_cons (m614_ok hL) (all_nil))))))))))))))))))))))))))))))))))))))))) ((q0_ok hL))))) hv run19
noncomputable def h1222 : H := hUpd h1182 3810 [] [(27, .cells 32 (((U 201326592) :: (U 67108864) :: rp 30 (U 0) ([])) :: rp 11 (rp 32 (U 0) ([])) ([])) false)] []
noncomputable def h1223 : H := hUpc h1222 3979 [] [] [(30, 0, [I 16, .slice 663 0 1 1 10 false, I 19]),
  (56, 0, [IZ (-1), .int .i64 (.sub (.var 2) (.lit 20))])] [(34, 0, 8, U 0), (68, 0, 8, I 20)]
noncomputable def m615 : Memo := ⟨[.ptr 68 0, I 19], h1222, .agg [I 0, I 1, I 0, U 0, I 0, U 0, IZ (-1), I 0], h1223⟩
theorem m615_run : ranTo (evCall (cxX Tryz.prog bad [((-9223372036854775808), 9223372036854775807), ((-9223372036854775808), 9223372036854775807), (20, 29), (0, 39)] [] [(51, pureFn [p4, p2, p3]), (172, isFn 325)]) 1000 60 10 m615.args m615.h) m615.v m615.h' = true := by kernel_rfl
theorem m615_ok {σ : Nat → Int} {W0 : World} (hL : L0 W0) (hk : Known2 σ [((-9223372036854775808), 9223372036854775807), ((-9223372036854775808), 9223372036854775807), (20, 29), (0, 39)] []) : MemoOk Tryz.prog 1023 σ W0 10 m615 := memo_ok fit hk (FnsOk.cons (pure_fn_ok (all_cons (p4_ok hL) (all_cons (p2_ok hL) (all_cons (p3_ok hL) (all_nil))))) (FnsOk.cons (ext_is hL) (FnsOk.nil))) m615_run
noncomputable def h1224 : H := hUpd h1223 3980 [27] [] []
noncomputable def h1225 : H := hUpc h1224 4098 [] [] [(67, 0, [.slice 365 0 0 1 1 false])] [(34, 0, 9, I 4), (34, 0, 10, I 6), (68, 0, 8, I 21)]
noncomputable def m616 : Memo := ⟨[.ptr 68 0, I 20], h1224, .agg [I 0, I 5, I 0, U 0, I 0, U 0, IZ (-1), I 6], h1225⟩
theorem m616_run : ranTo (evCall (cxX Tryz.prog bad [((-9223372036854775808), 9223372036854775807), ((-9223372036854775808), 9223372036854775807), (20, 20), (0, 39)] [] [(51, pureFn [p4, p2, p3]), (172, isFn 325)]) 1000 60 10 m616.args m616.h) m616.v m616.h' = true := by kernel_rfl
theorem m616_ok {σ : Nat → Int} {W0 : World} (hL : L0 W0) (hk : Known2 σ [((-9223372036854775808), 9223372036854775807), ((-9223372036854775808), 9223372036854775807), (20, 20), (0, 39)] []) : MemoOk Tryz.prog 1023 σ W0 10 m616 := memo_ok fit hk (FnsOk.cons (pure_fn_ok (all_cons (p4_ok hL) (all_cons (p2_ok hL) (all_cons (p3_ok hL) (all_nil))))) (FnsOk.cons (ext_is hL) (FnsOk.nil))) m616_run
noncomputable def h1226 : H := hUpd h1225 4099 [34, 56] [] []
noncomputable def h1227 : H := hUpc h1226 4100 [] [] [] [(68, 0, 8, I 22)]
noncomputable def m617 : Memo := ⟨[.ptr 68 0, I 21], h1226, .agg [IZ (-1), I 0, I 0, U 0, I 0, U 0, IZ (-1), I 0], h1227⟩
theorem m617_run : ranTo (evCall (cxX Tryz.prog bad [] [] [(172, isFn 325)]) 1000 60 10 m617.args m617.h) m617.v m617.h' = true := by kernel_rfl
theorem m617_ok {σ : Nat → Int} {W0 : World} (hL : L0 W0) : MemoOk Tryz.prog 1023 σ W0 10 m617 := memo_ok fit (Known2.nil σ) (FnsOk.cons (ext_is hL) (FnsOk.nil)) m617_run
noncomputable def h1228 : H := hUpd h1227 4101 [] [] []
noncomputable def h1229 : H := hUpc h1226 4102 [] [] [] [(68, 0, 8, I 23)]
noncomputable def m618 : Memo := ⟨[.ptr 68 0, I 22], h1228, .agg [IZ (-1), I 0, I 0, U 0, I 0, U 0, IZ (-1), I 0], h1229⟩
theorem m618_run : ranTo (evCall (cxX Tryz.prog bad [] [] [(172, isFn 325)]) 1000 60 10 m618.args m618.h) m618.v m618.h' = true := by kernel_rfl
theorem m618_ok {σ : Nat → Int} {W0 : World} (hL : L0 W0) : MemoOk Tryz.prog 1023 σ W0 10 m618 := memo_ok fit (Known2.nil σ) (FnsOk.cons (ext_is hL) (FnsOk.nil)) m618_run
noncomputable def h1230 : H := hUpd h1229 4103 [] [] []
noncomputable def h1231 : H := hUpc h1226 4104 [] [] [] [(68, 0, 8, I 24)]
noncomputable def m619 : Memo := ⟨[.ptr 68 0, I 23], h1230, .agg [IZ (-1), I 0, I 0, U 0, I 0, U 0, IZ (-1), I 0], h1231⟩
theorem m619_run : ranTo (evCall (cxX Tryz.prog bad [] [] [(172, isFn 325)]) 1000 60 10 m619.args m619.h) m619.v m619.h' = true := by kernel_rfl
theorem m619_ok {σ : Nat → Int} {W0 : World} (hL : L0 W0) : MemoOk Tryz.prog 1023 σ W0 10 m619 := memo_ok fit (Known2.nil σ) (FnsOk.cons (ext_is hL) (FnsOk.nil)) m619_run
noncomputable def h1232 : H := hUpd h1231 4105 [] [] []
noncomputable def h1233 : H := hUpc h1226 4106 [] [] [] [(68, 0, 8, I 25)]
noncomputable def m620 : Memo := ⟨[.ptr 68 0, I 24], h1232, .agg [IZ (-1), I 0, I 0, U 0, I 0, U 0, IZ (-1), I 0], h1233⟩
theorem m620_run : ranTo (evCall (cxX Tryz.prog bad [] [] [(172, isFn 325)]) 1000 60 10 m620.args m620.h) m620.v m620.h' = true := by kernel_rfl
theorem m620_ok {σ : Nat → Int} {W0 : World} (hL : L0 W0) : MemoOk Tryz.prog 1023 σ W0 10 m620 := memo_ok fit (Known2.nil σ) (FnsOk.cons (ext_is hL) (FnsOk.nil)) m620_run
noncomputable def h1234 : H := hUpd h1233 4107 [] [] []
noncomputable def h1235 : H := hUpc h1226 4108 [] [] [] [(68, 0, 8, I 26)]
noncomputable def m621 : Memo := ⟨[.ptr 68 0, I 25], h1234, .agg [IZ (-1), I 0, I 0, U 0, I 0, U 0, IZ (-1), I 0], h1235⟩
theorem m621_run : ranTo (evCall (cxX Tryz.prog bad [] [] [(172, isFn 325)]) 1000 60 10 m621.args m621.h) m621.v m621.h' = true := by kernel_rfl
theorem m621_ok {σ : Nat → Int} {W0 : World} (hL : L0 W0) : MemoOk Tryz.prog 1023 σ W0 10 m621 := memo_ok fit (Known2.nil σ) (FnsOk.cons (ext_is hL) (FnsOk.nil)) m621_run
noncomputable def h1236 : H := hUpd h1235 4109 [] [] []
noncomputable def h1237 : H := hUpc h1226 4110 [] [] [] [(68, 0, 8, I 27)]
noncomputable def m622 : Memo := ⟨[.ptr 68 0, I 26], h1236, .agg [IZ (-1), I 0, I 0, U 0, I 0, U 0, IZ (-1), I 0], h1237⟩
theorem m622_run : ranTo (evCall (cxX Tryz.prog bad [] [] [(172, isFn 325)]) 1000 60 10 m622.args m622.h) m622.v m622.h' = true := by kernel_rfl
theorem m622_ok {σ : Nat → Int} {W0 : World} (hL : L0 W0) : MemoOk Tryz.prog 1023 σ W0 10 m622 := memo_ok fit (Known2.nil σ) (FnsOk.cons (ext_is hL) (FnsOk.nil)) m622_run
noncomputable def h1238 : H := hUpd h1237 4111 [] [] []
noncomputable def h1239 : H := hUpc h1226 4112 [] [] [] [(68, 0, 8, I 28)]
noncomputable def m623 : Memo := ⟨[.ptr 68 0, I 27], h1238, .agg [IZ (-1), I 0, I 0, U 0, I 0, U 0, IZ (-1), I 0], h1239⟩
theorem m623_run : ranTo (evCall (cxX Tryz.prog bad [] [] [(172, isFn 325)]) 1000 60 10 m623.args m623.h) m623.v m623.h' = true := by kernel_rfl
theorem m623_ok {σ : Nat → Int} {W0 : World} (hL : L0 W0) : MemoOk Tryz.prog 1023 σ W0 10 m623 := memo_ok fit (Known2.nil σ) (FnsOk.cons (ext_is hL) (FnsOk.nil)) m623_run
noncomputable def h1240 : H := hUpd h1239 4113 [] [] []
noncomputable def h1241 : H := hUpc h1226 4114 [] [] [] [(68, 0, 8, I 29)]
noncomputable def m624 : Memo := ⟨[.ptr 68 0, I 28], h1240, .agg [IZ (-1), I 0, I 0, U 0, I 0, U 0, IZ (-1), I 0], h1241⟩
theorem m624_run : ranTo (evCall (cxX Tryz.prog bad [] [] [(172, isFn 325)]) 1000 60 10 m624.args m624.h) m624.v m624.h' = true := by kernel_rfl
theorem m624_ok {σ : Nat → Int} {W0 : World} (hL : L0 W0) : MemoOk Tryz.prog 1023 σ W0 10 m624 := memo_ok fit (Known2.nil σ) (FnsOk.cons (ext_is hL) (FnsOk.nil)) m624_run
noncomputable def h1242 : H := hUpd h1241 4115 [] [] []
noncomputable def h1243 : H := hUpc h1226 4116 [] [] [] [(68, 0, 8, I 30)]
noncomputable def m625 : Memo := ⟨[.ptr 68 0, I 29], h1242, .agg [IZ (-1), I 0, I 0, U 0, I 0, U 0, IZ (-1), I 0], h1243⟩
theorem m625_run : ranTo (evCall (cxX Tryz.prog bad [] [] [(172, isFn 325)]) 1000 60 10 m625.args m625.h) m625.v m625.h' = true := by kernel_rfl
theorem m625_ok {σ : Nat → Int} {W0 : World} (hL : L0 W0) : MemoOk Tryz.prog 1023 σ W0 10 m625 := memo_ok fit (Known2.nil σ) (FnsOk.cons (ext_is hL) (FnsOk.nil)) m625_run
noncomputable def h1244 : H := hUpd h1243 4117 [] [] []
noncomputable def h1245 : H := hUpc h1226 4118 [] [] [] [(68, 0, 8, I 31)]
noncomputable def m626 : Memo := ⟨[.ptr 68 0, I 30], h1244, .agg [IZ (-1), I 0, I 0, U 0, I 0, U 0, IZ (-1), I 0], h1245⟩
theorem m626_run : ranTo (evCall (cxX Tryz.prog bad [] [] [(172, isFn 325)]) 1000 60 10 m626.args m626.h) m626.v m626.h' = true := by kernel_rfl
theorem m626_ok {σ : Nat → Int} {W0 : World} (hL : L0 W0) : MemoOk Tryz.prog 1023 σ W0 10 m626 := memo_ok fit (Known2.nil σ) (FnsOk.cons (ext_is hL) (FnsOk.nil)) m626_run
noncomputable def h1246 : H := hUpd h1245 4119 [] [] []
noncomputable def h1247 : H := hUpc h1226 4120 [] [] [] [(68, 0, 8, I 32)]
noncomputable def m627 : Memo := ⟨[.ptr 68 0, I 31], h1246, .agg [IZ (-1), I 0, I 0, U 0, I 0, U 0, IZ (-1), I 0], h1247⟩
theorem m627_run : ranTo (evCall (cxX Tryz.prog bad [] [] [(172, isFn 325)]) 1000 60 10 m627.args m627.h) m627.v m627.h' = true := by kernel_rfl
theorem m627_ok {σ : Nat → Int} {W0 : World} (hL : L0 W0) : MemoOk Tryz.prog 1023 σ W0 10 m627 := memo_ok fit (Known2.nil σ) (FnsOk.cons (ext_is hL) (FnsOk.nil)) m627_run
noncomputable def h1248 : H := hUpd h1247 4121 [] [] []
noncomputable def h1249 : H := hUpc h1226 4122 [] [] [] [(68, 0, 8, I 33)]
noncomputable def m628 : Memo := ⟨[.ptr 68 0, I 32], h1248, .agg [IZ (-1), I 0, I 0, U 0, I 0, U 0, IZ (-1), I 0], h1249⟩
theorem m628_run : ranTo (evCall (cxX Tryz.prog bad [] [] [(172, isFn 325)]) 1000 60 10 m628.args m628.h) m628.v m628.h' = true := by kernel_rfl
theorem m628_ok {σ : Nat → Int} {W0 : World} (hL : L0 W0) : MemoOk Tryz.prog 1023 σ W0 10 m628 := memo_ok fit (Known2.nil σ) (FnsOk.cons (ext_is hL) (FnsOk.nil)) m628_run
noncomputable def h1250 : H := hUpd h1249 4123 [] [] []
noncomputable def h1251 : H := hUpc h1226 4124 [] [] [] [(68, 0, 8, I 34)]
noncomputable def m629 : Memo := ⟨[.ptr 68 0, I 33], h1250, .agg [IZ (-1), I 0, I 0, U 0, I 0, U 0, IZ (-1), I 0], h1251⟩
theorem m629_run : ranTo (evCall (cxX Tryz.prog bad [] [] [(172, isFn 325)]) 1000 60 10 m629.args m629.h) m629.v m629.h' = true := by kernel_rfl
theorem m629_ok {σ : Nat → Int} {W0 : World} (hL : L0 W0) : MemoOk Tryz.prog 1023 σ W0 10 m629 := memo_ok fit (Known2.nil σ) (FnsOk.cons (ext_is hL) (FnsOk.nil)) m629_run
noncomputable def h1252 : H := hUpd h1251 4125 [] [] []
noncomputable def h1253 : H := hUpc h1226 4126 [] [] [] [(68, 0, 8, I 35)]
noncomputable def m630 : Memo := ⟨[.ptr 68 0, I 34], h1252, .agg [IZ (-1), I 0, I 0, U 0, I 0, U 0, IZ (-1), I 0], h1253⟩
theorem m630_run : ranTo (evCall (cxX Tryz.prog bad [] [] [(172, isFn 325)]) 1000 60 10 m630.args m630.h) m630.v m630.h' = true := by kernel_rfl
theorem m630_ok {σ : Nat → Int} {W0 : World} (hL : L0 W0) : MemoOk Tryz.prog 1023 σ W0 10 m630 := memo_ok fit (Known2.nil σ) (FnsOk.cons (ext_is hL) (FnsOk.nil)) m630_run
noncomputable def h1254 : H := hUpd h1253 4127 [] [] []
noncomputable def h1255 : H := hUpc h1226 4128 [] [] [] [(68, 0, 8, I 36)]
noncomputable def m631 : Memo := ⟨[.ptr 68 0, I 35], h1254, .agg [IZ (-1), I 0, I 0, U 0, I 0, U 0, IZ (-1), I 0], h1255⟩
theorem m631_run : ranTo (evCall (cxX Tryz.prog bad [] [] [(172, isFn 325)]) 1000 60 10 m631.args m631.h) m631.v m631.h' = true := by kernel_rfl
theorem m631_ok {σ : Nat → Int} {W0 : World} (hL : L0 W0) : MemoOk Tryz.prog 1023 σ W0 10 m631 := memo_ok fit (Known2.nil σ) (FnsOk.cons (ext_is hL) (FnsOk.nil)) m631_run
noncomputable def h1256 : H := hUpd h1255 4129 [] [] []
noncomputable def h1257 : H := hUpc h1226 4130 [] [] [] [(68, 0, 8, I 37)]
noncomputable def m632 : Memo := ⟨[.ptr 68 0, I 36], h1256, .agg [IZ (-1), I 0, I 0, U 0, I 0, U 0, IZ (-1), I 0], h1257⟩
theorem m632_run : ranTo (evCall (cxX Tryz.prog bad [] [] [(172, isFn 325)]) 1000 60 10 m632.args m632.h) m632.v m632.h' = true := by kernel_rfl
theorem m632_ok {σ : Nat → Int} {W0 : World} (hL : L0 W0) : MemoOk Tryz.prog 1023 σ W0 10 m632 := memo_ok fit (Known2.nil σ) (FnsOk.cons (ext_is hL) (FnsOk.nil)) m632_run
noncomputable def h1258 : H := hUpd h1257 4131 [] [] []
noncomputable def h1259 : H := hUpc h1226 4132 [] [] [] [(68, 0, 8, I 38)]
noncomputable def m633 : Memo := ⟨[.ptr 68 0, I 37], h1258, .agg [IZ (-1), I 0, I 0, U 0, I 0, U 0, IZ (-1), I 0], h1259⟩
theorem m633_run : ranTo (evCall (cxX Tryz.prog bad [] [] [(172, isFn 325)]) 1000 60 10 m633.args m633.h) m633.v m633.h' = true := by kernel_rfl
theorem m633_ok {σ : Nat → Int} {W0 : World} (hL : L0 W0) : MemoOk Tryz.prog 1023 σ W0 10 m633 := memo_ok fit (Known2.nil σ) (FnsOk.cons (ext_is hL) (FnsOk.nil)) m633_run
noncomputable def h1260 : H := hUpd h1259 4133 [] [] []
noncomputable def h1261 : H := hUpc h1226 4134 [] [] [] [(68, 0, 8, I 39)]
noncomputable def m634 : Memo := ⟨[.ptr 68 0, I 38], h1260, .agg [IZ (-1), I 0, I 0, U 0, I 0, U 0, IZ (-1), I 0], h1261⟩
theorem m634_run : ranTo (evCall (cxX Tryz.prog bad [] [] [(172, isFn 325)]) 1000 60 10 m634.args m634.h) m634.v m634.h' = true := by kernel_rfl
theorem m634_ok {σ : Nat → Int} {W0 : World} (hL : L0 W0) : MemoOk Tryz.prog 1023 σ W0 10 m634 := memo_ok fit (Known2.nil σ) (FnsOk.cons (ext_is hL) (FnsOk.nil)) m634_run
theorem run20 : lawF Tryz.prog bad [] ((6, numExtE [(0, 30, .var 2), (1, 40, .var 3)]) :: (9, frameFn [m5]) :: (10, frameFn [m45, m84, m122, m159, m195, m230, m264, m297, m329, m360, m390, m419, m447, m474, m500, m525, m549, m572, m594, m615, m616, m617, m618, m619, m620, m621, m622, m623, m624, m625, m626, m627, m628, m629, m630, m631, m632, m633, m634]) :: q0) 1000 60 4 [.int .i64 (.var 0), .int .i64 (.var 1)] [((-9223372036854775808), 9223372036854775807), ((-9223372036854775808), 9223372036854775807), (20, 20), (0, 39)] (peels 39 3) (sentH 325 10 errTab) = true := by kernel_rfl
theorem case20 {σ : Nat → Int} {W : World} (hL : L0 W) (hk : Known2 σ [((-9223372036854775808), 9223372036854775807), ((-9223372036854775808), 9223372036854775807), (20, 20), (0, 39)] []) (hT : TabOk Tryz.prog bad 6 σ [(0, 30, .var 2), (1, 40, .var 3)]) {xs : Array Value} (hv : ∀ ρ, VRs σ ρ [.int .i64 (.var 0), .int .i64 (.var 1)] xs.toList) : Calls Tryz.prog 4 xs W fun e w' => e = .returned (.bool true) ∧ Below W.heap.size W w' := by
  obtain ⟨ads, h1, h2, h3⟩ := errs_sents hL
  exact law_case_f fit h1 h2 h3 errs_all errs_lt (by kernel_rfl) hk (FnsOk.cons (hT.ok fit) (FnsOk.cons (frame_fn_ok (all_cons (m5_ok hL (hk.relax (r' := [((-9223372036854775808), 9223372036854775807), ((-9223372036854775808), 9223372036854775807), (0, 29), (0, 39)]) (by kernel_rfl))) (all_nil))) (FnsOk.cons (frame_fn_ok (all_cons (m45_ok hL (hk.relax (r' := [((-9223372036854775808), 9223372036854775807), ((-9223372036854775808), 9223372036854775807), (1, 29), (0, 39)]) (by kernel_rfl))) (all_cons (m84_ok hL (hk.relax (r' := [((-9223372036854775808), 9223372036854775807), ((-9223372036854775808), 9223372036854775807), (2, 29), (0, 39)]) (by kernel_rfl))) (all_cons (m122_ok hL (hk.relax (r' := [((-9223372036854775808), 9223372036854775807), ((-9223372036854775808), 9223372036854775807), (3, 29), (0, 39)]) (by kernel_rfl))) (all_cons (m159_ok hL (hk.relax (r' := [((-9223372036854775808), 9223372036854775807), ((-9223372036854775808), 9223372036854775807), (4, 29), (0, 39)]) (by kernel_rfl))) (all_cons (m195_ok hL (hk.relax (r' := [((-9223372036854775808), 9223372036854775807), ((-9223372036854775808), 9223372036854775807), (5, 29), (0, 39)]) (by kernel_rfl))) (all_cons (m230_ok hL (hk.relax (r' := [((-9223372036854775808), 9223372036854775807), ((-9223372036854775808), 9223372036854775807), (6, 29), (0, 39)]) (by kernel_rfl))) (all_cons (m264_ok hL (hk.relax (r' := [((-9223372036854775808), 9223372036854775807), ((-9223372036854775808), 9223372036854775807), (7, 29), (0, 39)]) (by kernel_rfl))) (all_cons (m297_ok hL (hk.relax (r' := [((-9223372036854775808), 9223372036854775807), ((-9223372036854775808), 9223372036854775807), (8, 29), (0, 39)]) (by kernel_rfl))) (all_cons (m329_ok hL (hk.relax (r' := [((-9223372036854775808), 9223372036854775807), ((-9223372036854775808), 9223372036854775807), (9, 29), (0, 39)]) (by kernel_rfl))) (all_cons (m360_ok hL (hk.relax (r' := [((-9223372036854775808), 9223372036854775807), ((-9223372036854775808), 9223372036854775807), (10, 29), (0, 39)]) (by kernel_rfl))) (all_cons (m390_ok hL (hk.relax (r' := [((-9223372036854775808), 9223372036854775807), ((-9223372036854775808), 9223372036854775807), (11, 29), (0, 39)]) (by kernel_rfl))) (all_cons (m419_ok hL (hk.relax (r' := [((-9223372036854775808), 9223372036854775807), ((-9223372036854775808), 9223372036854775807), (12, 29), (0, 39)]) (by kernel_rfl))) (all_cons (m447_ok hL (hk.relax (r' := [((-9223372036854775808), 9223372036854775807), ((-9223372036854775808), 9223372036854775807), (13, 29), (0, 39)]) (by kernel_rfl))) (all_cons (m474_ok hL (hk.relax (r' := [((-9223372036854775808), 9223372036854775807), ((-9223372036854775808), 9223372036854775807), (14, 29), (0, 39)]) (by kernel_rfl))) (all_cons (m500_ok hL (hk.relax (r' := [((-9223372036854775808), 9223372036854775807), ((-9223372036854775808), 9223372036854775807), (15, 29), (0, 39)]) (by kernel_rfl))) (all_cons (m525_ok hL (hk.relax (r' := [((-9223372036854775808), 9223372036854775807), ((-9223372036854775808), 9223372036854775807), (16, 29), (0, 39)]) (by kernel_rfl))) (all_cons (m549_ok hL (hk.relax (r' := [((-9223372036854775808), 9223372036854775807), ((-9223372036854775808), 9223372036854775807), (17, 29), (0, 39)]) (by kernel_rfl))) (all_cons (m572_ok hL (hk.relax (r' := [((-9223372036854775808), 9223372036854775807), ((-9223372036854775808), 9223372036854775807), (18, 29), (0, 39)]) (by kernel_rfl))) (all_cons (m594_ok hL (hk.relax (r' := [((-9223372036854775808), 9223372036854775807), ((-9223372036854775808), 9223372036854775807), (19, 29), (0, 39)]) (by kernel_rfl))) (all_cons (m615_ok hL (hk.relax (r' := [((-9223372036854775808), 9223372036854775807), ((-9223372036854775808), 9223372036854775807), (20, 29), (0, 39)]) (by kernel_rfl))) (all_cons (m616_ok hL hk) (all_cons (m617_ok hL) (all_cons (m618_ok hL) (all_cons (m619_ok hL) (all_cons (m620_ok hL) (all_cons (m621_ok hL) (all_cons (m622_ok hL) (all_cons (m623_ok hL) (all_cons (m624_ok hL) (all_cons (m625_ok hL) (all_cons (m626_ok hL) (all_cons (m627_ok hL) (all_cons (m628_ok hL) (all_cons (m629_ok hL) (all_cons (m630_ok hL) (all_cons (m631_ok hL) (all_cons (m632_ok hL) (all_cons (m633_ok hL) (all_cons (m634_ok hL) (all_nil))))))))))))))))))))))))))))))))))))))))) ((q0_ok hL))))) hv run20
noncomputable def h1262 : H := hUpd h1223 3980 [] [] []
noncomputable def h1263 : H := hUpc h1223 4149 [] [] [(30, 0, [I 16, .slice 663 0 1 1 10 false, I 20]),
  (56, 0, [IZ (-1), .int .i64 (.sub (.var 2) (.lit 21))])] [(34, 0, 8, U 1), (68, 0, 8, I 21)]
noncomputable def m635 : Memo := ⟨[.ptr 68 0, I 20], h1262, .agg [I 0, I 3, I 0, U 0, I 0, U 0, IZ (-1), I 0], h1263⟩
theorem m635_run : ranTo (evCall (cxX Tryz.prog bad [((-9223372036854775808), 9223372036854775807), ((-9223372036854775808), 9223372036854775807), (21, 29), (0, 39)] [] [(51, pureFn [p4, p2, p3]), (172, isFn 325)]) 1000 60 10 m635.args m635.h) m635.v m635.h' = true := by kernel_rfl
theorem m635_ok {σ : Nat → Int} {W0 : World} (hL : L0 W0) (hk : Known2 σ [((-9223372036854775808), 9223372036854775807), ((-9223372036854775808), 9223372036854775807), (21, 29), (0, 39)] []) : MemoOk Tryz.prog 1023 σ W0 10 m635 := memo_ok fit hk (FnsOk.cons (pure_fn_ok (all_cons (p4_ok hL) (all_cons (p2_ok hL) (all_cons (p3_ok hL) (all_nil))))) (FnsOk.cons (ext_is hL) (FnsOk.nil))) m635_run
noncomputable def h1264 : H := hUpd h1263 4150 [27] [] []
noncomputable def h1265 : H := hUpc h1264 4268 [] [] [(67, 0, [.slice 365 0 0 1 1 false])] [(34, 0, 9, I 4), (34, 0, 10, I 6), (68, 0, 8, I 22)]
noncomputable def m636 : Memo := ⟨[.ptr 68 0, I 21], h1264, .agg [I 0, I 5, I 0, U 0, I 0, U 0, IZ (-1), I 6], h1265⟩
theorem m636_run : ranTo (evCall (cxX Tryz.prog bad [((-9223372036854775808), 9223372036854775807), ((-9223372036854775808), 9223372036854775807), (21, 21), (0, 39)] [] [(51, pureFn [p4, p2, p3]), (172, isFn 325)]) 1000 60 10 m636.args m636.h) m636.v m636.h' = true := by kernel_rfl
theorem m636_ok {σ : Nat → Int} {W0 : World} (hL : L0 W0) (hk : Known2 σ [((-9223372036854775808), 9223372036854775807), ((-9223372036854775808), 9223372036854775807), (21, 21), (0, 39)] []) : MemoOk Tryz.prog 1023 σ W0 10 m636 := memo_ok fit hk (FnsOk.cons (pure_fn_ok (all_cons (p4_ok hL) (all_cons (p2_ok hL) (all_cons (p3_ok hL) (all_nil))))) (FnsOk.cons (ext_is hL) (FnsOk.nil))) m636_run
noncomputable def h1266 : H := hUpd h1265 4269 [34, 56] [] []
noncomputable def h1267 : H := hUpc h1266 4270 [] [] [] [(68, 0, 8, I 23)]
noncomputable def m637 : Memo := ⟨[.ptr 68 0, I 22], h1266, .agg [IZ (-1), I 0, I 0, U 0, I 0, U 0, IZ (-1), I 0], h1267⟩
theorem m637_run : ranTo (evCall (cxX Tryz.prog bad [] [] [(172, isFn 325)]) 1000 60 10 m637.args m637.h) m637.v m637.h' = true := by kernel_rfl
theorem m637_ok {σ : Nat → Int} {W0 : World} (hL : L0 W0) : MemoOk Tryz.prog 1023 σ W0 10 m637 := memo_ok fit (Known2.nil σ) (FnsOk.cons (ext_is hL) (FnsOk.nil)) m637_run
noncomputable def h1268 : H := hUpd h1267 4271 [] [] []
noncomputable def h1269 : H := hUpc h1266 4272 [] [] [] [(68, 0, 8, I 24)]
noncomputable def m638 : Memo := ⟨[.ptr 68 0, I 23], h1268, .agg [IZ (-1), I 0, I 0, U 0, I 0, U 0, IZ (-1), I 0], h1269⟩
theorem m638_run : ranTo (evCall (cxX Tryz.prog bad [] [] [(172, isFn 325)]) 1000 60 10 m638.args m638.h) m638.v m638.h' = true := by kernel_rfl
theorem m638_ok {σ : Nat → Int} {W0 : World} (hL : L0 W0) : MemoOk Tryz.prog 1023 σ W0 10 m638 := memo_ok fit (Known2.nil σ) (FnsOk.cons (ext_is hL) (FnsOk.nil)) m638_run
noncomputable def h1270 : H := hUpd h1269 4273 [] [] []
noncomputable def h1271 : H := hUpc h1266 4274 [] [] [] [(68, 0, 8, I 25)]
noncomputable def m639 : Memo := ⟨[.ptr 68 0, I 24], h1270, .agg [IZ (-1), I 0, I 0, U 0, I 0, U 0, IZ (-1), I 0], h1271⟩
theorem m639_run : ranTo (evCall (cxX Tryz.prog bad [] [] [(172, isFn 325)]) 1000 60 10 m639.args m639.h) m639.v m639.h' = true := by kernel_rfl
theorem m639_ok {σ : Nat → Int} {W0 : World} (hL : L0 W0) : MemoOk Tryz.prog 1023 σ W0 10 m639 := memo_ok fit (Known2.nil σ) (FnsOk.cons (ext_is hL) (FnsOk.nil)) m639_run
noncomputable def h1272 : H := hUpd h1271 4275 [] [] []
noncomputable def h1273 : H := hUpc h1266 4276 [] [] [] [(68, 0, 8, I 26)]
noncomputable def m640 : Memo := ⟨[.ptr 68 0, I 25], h1272, .agg [IZ (-1), I 0, I 0, U 0, I 0, U 0, IZ (-1), I 0], h1273⟩
theorem m640_run : ranTo (evCall (cxX Tryz.prog bad [] [] [(172, isFn 325)]) 1000 60 10 m640.args m640.h) m640.v m640.h' = true := by kernel_rfl
theorem m640_ok {σ : Nat → Int} {W0 : World} (hL : L0 W0) : MemoOk Tryz.prog 1023 σ W0 10 m640 := memo_ok fit (Known2.nil σ) (FnsOk.cons (ext_is hL) (FnsOk.nil)) m640_run
noncomputable def h1274 : H := hUpd h1273 4277 [] [] []
noncomputable def h1275 : H := hUpc h1266 4278 [] [] [] [(68, 0, 8, I 27)]
noncomputable def m641 : Memo := ⟨[.ptr 68 0, I 26], h1274, .agg [IZ (-1), I 0, I 0, U 0, I 0, U 0, IZ (-1), I 0], h1275⟩
theorem m641_run : ranTo (evCall (cxX Tryz.prog bad [] [] [(172, isFn 325)]) 1000 60 10 m641.args m641.h) m641.v m641.h' = true := by kernel_rfl
theorem m641_ok {σ : Nat → Int} {W0 : World} (hL : L0 W0) : MemoOk Tryz.prog 1023 σ W0 10 m641 := memo_ok fit (Known2.nil σ) (FnsOk.cons (ext_is hL) (FnsOk.nil)) m641_run
noncomputable def h1276 : H := hUpd h1275 4279 [] [] []
noncomputable def h1277 : H := hUpc h1266 4280 [] [] [] [(68, 0, 8, I 28)]
noncomputable def m642 : Memo := ⟨[.ptr 68 0, I 27], h1276, .agg [IZ (-1), I 0, I 0, U 0, I 0, U 0, IZ (-1), I 0], h1277⟩
theorem m642_run : ranTo (evCall (cxX Tryz.prog bad [] [] [(172, isFn 325)]) 1000 60 10 m642.args m642.h) m642.v m642.h' = true := by kernel_rfl
theorem m642_ok {σ : Nat → Int} {W0 : World} (hL : L0 W0) : MemoOk Tryz.prog 1023 σ W0 10 m642 := memo_ok fit (Known2.nil σ) (FnsOk.cons (ext_is hL) (FnsOk.nil)) m642_run
noncomputable def h1278 : H := hUpd h1277 4281 [] [] []
noncomputable def h1279 : H := hUpc h1266 4282 [] [] [] [(68, 0, 8, I 29)]
noncomputable def m643 : Memo := ⟨[.ptr 68 0, I 28], h1278, .agg [IZ (-1), I 0, I 0, U 0, I 0, U 0, IZ (-1), I 0], h1279⟩
theorem m643_run : ranTo (evCall (cxX Tryz.prog bad [] [] [(172, isFn 325)]) 1000 60 10 m643.args m643.h) m643.v m643.h' = true := by kernel_rfl
theorem m643_ok {σ : Nat → Int} {W0 : World} (hL : L0 W0) : MemoOk Tryz.prog 1023 σ W0 10 m643 := memo_ok fit (Known2.nil σ) (FnsOk.cons (ext_is hL) (FnsOk.nil)) m643_run
noncomputable def h1280 : H := hUpd h1279 4283 [] [] []
noncomputable def h1281 : H := hUpc h1266 4284 [] [] [] [(68, 0, 8, I 30)]
noncomputable def m644 : Memo := ⟨[.ptr 68 0, I 29], h1280, .agg [IZ (-1), I 0, I 0, U 0, I 0, U 0, IZ (-1), I 0], h1281⟩
theorem m644_run : ranTo (evCall (cxX Tryz.prog bad [] [] [(172, isFn 325)]) 1000 60 10 m644.args m644.h) m644.v m644.h' = true := by kernel_rfl
theorem m644_ok {σ : Nat → Int} {W0 : World} (hL : L0 W0) : MemoOk Tryz.prog 1023 σ W0 10 m644 := memo_ok fit (Known2.nil σ) (FnsOk.cons (ext_is hL) (FnsOk.nil)) m644_run
noncomputable def h1282 : H := hUpd h1281 4285 [] [] []
noncomputable def h1283 : H := hUpc h1266 4286 [] [] [] [(68, 0, 8, I 31)]
noncomputable def m645 : Memo := ⟨[.ptr 68 0, I 30], h1282, .agg [IZ (-1), I 0, I 0, U 0, I 0, U 0, IZ (-1), I 0], h1283⟩
theorem m645_run : ranTo (evCall (cxX Tryz.prog bad [] [] [(172, isFn 325)]) 1000 60 10 m645.args m645.h) m645.v m645.h' = true := by kernel_rfl
theorem m645_ok {σ : Nat → Int} {W0 : World} (hL : L0 W0) : MemoOk Tryz.prog 1023 σ W0 10 m645 := memo_ok fit (Known2.nil σ) (FnsOk.cons (ext_is hL) (FnsOk.nil)) m645_run
noncomputable def h1284 : H := hUpd h1283 4287 [] [] []
noncomputable def h1285 : H := hUpc h1266 4288 [] [] [] [(68, 0, 8, I 32)]
noncomputable def m646 : Memo := ⟨[.ptr 68 0, I 31], h1284, .agg [IZ (-1), I 0, I 0, U 0, I 0, U 0, IZ (-1), I 0], h1285⟩
theorem m646_run : ranTo (evCall (cxX Tryz.prog bad [] [] [(172, isFn 325)]) 1000 60 10 m646.args m646.h) m646.v m646.h' = true := by kernel_rfl
theorem m646_ok {σ : Nat → Int} {W0 : World} (hL : L0 W0) : MemoOk Tryz.prog 1023 σ W0 10 m646 := memo_ok fit (Known2.nil σ) (FnsOk.cons (ext_is hL) (FnsOk.nil)) m646_run
noncomputable def h1286 : H := hUpd h1285 4289 [] [] []
noncomputable def h1287 : H := hUpc h1266 4290 [] [] [] [(68, 0, 8, I 33)]
noncomputable def m647 : Memo := ⟨[.ptr 68 0, I 32], h1286, .agg [IZ (-1), I 0, I 0, U 0, I 0, U 0, IZ (-1), I 0], h1287⟩
theorem m647_run : ranTo (evCall (cxX Tryz.prog bad [] [] [(172, isFn 325)]) 1000 60 10 m647.args m647.h) m647.v m647.h' = true := by kernel_rfl
theorem m647_ok {σ : Nat → Int} {W0 : World} (hL : L0 W0) : MemoOk Tryz.prog 1023 σ W0 10 m647 := memo_ok fit (Known2.nil σ) (FnsOk.cons (ext_is hL) (FnsOk.nil)) m647_run
noncomputable def h1288 : H := hUpd h1287 4291 [] [] []
noncomputable def h1289 : H := hUpc h1266 4292 [] [] [] [(68, 0, 8, I 34)]
noncomputable def m648 : Memo := ⟨[.ptr 68 0, I 33], h1288, .agg [IZ (-1), I 0, I 0, U 0, I 0, U 0, IZ (-1), I 0], h1289⟩
theorem m648_run : ranTo (evCall (cxX Tryz.prog bad [] [] [(172, isFn 325)]) 1000 60 10 m648.args m648.h) m648.v m648.h' = true := by kernel_rfl
theorem m648_ok {σ : Nat → Int} {W0 : World} (hL : L0 W0) : MemoOk Tryz.prog 1023 σ W0 10 m648 := memo_ok fit (Known2.nil σ) (FnsOk.cons (ext_is hL) (FnsOk.nil)) m648_run
noncomputable def h1290 : H := hUpd h1289 4293 [] [] []
noncomputable def h1291 : H := hUpc h1266 4294 [] [] [] [(68, 0, 8, I 35)]
noncomputable def m649 : Memo := ⟨[.ptr 68 0, I 34], h1290, .agg [IZ (-1), I 0, I 0, U 0, I 0, U 0, IZ (-1), I 0], h1291⟩
theorem m649_run : ranTo (evCall (cxX Tryz.prog bad [] [] [(172, isFn 325)]) 1000 60 10 m649.args m649.h) m649.v m649.h' = true := by kernel_rfl
theorem m649_ok {σ : Nat → Int} {W0 : World} (hL : L0 W0) : MemoOk Tryz.prog 1023 σ W0 10 m649 := memo_ok fit (Known2.nil σ) (FnsOk.cons (ext_is hL) (FnsOk.nil)) m649_run
noncomputable def h1292 : H := hUpd h1291 4295 [] [] []
noncomputable def h1293 : H := hUpc h1266 4296 [] [] [] [(68, 0, 8, I 36)]
noncomputable def m650 : Memo := ⟨[.ptr 68 0, I 35], h1292, .agg [IZ (-1), I 0, I 0, U 0, I 0, U 0, IZ (-1), I 0], h1293⟩
theorem m650_run : ranTo (evCall (cxX Tryz.prog bad [] [] [(172, isFn 325)]) 1000 60 10 m650.args m650.h) m650.v m650.h' = true := by kernel_rfl
theorem m650_ok {σ : Nat → Int} {W0 : World} (hL : L0 W0) : MemoOk Tryz.prog 1023 σ W0 10 m650 := memo_ok fit (Known2.nil σ) (FnsOk.cons (ext_is hL) (FnsOk.nil)) m650_run
noncomputable def h1294 : H := hUpd h1293 4297 [] [] []
noncomputable def h1295 : H := hUpc h1266 4298 [] [] [] [(68, 0, 8, I 37)]
noncomputable def m651 : Memo := ⟨[.ptr 68 0, I 36], h1294, .agg [IZ (-1), I 0, I 0, U 0, I 0, U 0, IZ (-1), I 0], h1295⟩
theorem m651_run : ranTo (evCall (cxX Tryz.prog bad [] [] [(172, isFn 325)]) 1000 60 10 m651.args m651.h) m651.v m651.h' = true := by kernel_rfl
theorem m651_ok {σ : Nat → Int} {W0 : World} (hL : L0 W0) : MemoOk Tryz.prog 1023 σ W0 10 m651 := memo_ok fit (Known2.nil σ) (FnsOk.cons (ext_is hL) (FnsOk.nil)) m651_run
noncomputable def h1296 : H := hUpd h1295 4299 [] [] []
noncomputable def h1297 : H := hUpc h1266 4300 [] [] [] [(68, 0, 8, I 38)]
noncomputable def m652 : Memo := ⟨[.ptr 68 0, I 37], h1296, .agg [IZ (-1), I 0, I 0, U 0, I 0, U 0, IZ (-1), I 0], h1297⟩
theorem m652_run : ranTo (evCall (cxX Tryz.prog bad [] [] [(172, isFn 325)]) 1000 60 10 m652.args m652.h) m652.v m652.h' = true := by kernel_rfl
theorem m652_ok {σ : Nat → Int} {W0 : World} (hL : L0 W0) : MemoOk Tryz.prog 1023 σ W0 10 m652 := memo_ok fit (Known2.nil σ) (FnsOk.cons (ext_is hL) (FnsOk.nil)) m652_run
noncomputable def h1298 : H := hUpd h1297 4301 [] [] []
noncomputable def h1299 : H := hUpc h1266 4302 [] [] [] [(68, 0, 8, I 39)]
noncomputable def m653 : Memo := ⟨[.ptr 68 0, I 38], h1298, .agg [IZ (-1), I 0, I 0, U 0, I 0, U 0, IZ (-1), I 0], h1299⟩
theorem m653_run : ranTo (evCall (cxX Tryz.prog bad [] [] [(172, isFn 325)]) 1000 60 10 m653.args m653.h) m653.v m653.h' = true := by kernel_rfl
theorem m653_ok {σ : Nat → Int} {W0 : World} (hL : L0 W0) : MemoOk Tryz.prog 1023 σ W0 10 m653 := memo_ok fit (Known2.nil σ) (FnsOk.cons (ext_is hL) (FnsOk.nil)) m653_run
theorem run21 : lawF Tryz.prog bad [] ((6, numExtE [(0, 30, .var 2), (1, 40, .var 3)]) :: (9, frameFn [m5]) :: (10, frameFn [m45, m84, m122, m159, m195, m230, m264, m297, m329, m360, m390, m419, m447, m474, m500, m525, m549, m572, m594, m615, m635, m636, m637, m638, m639, m640, m641, m642, m643, m644, m645, m646, m647, m648, m649, m650, m651, m652, m653]) :: q0) 1000 60 4 [.int .i64 (.var 0), .int .i64 (.var 1)] [((-9223372036854775808), 9223372036854775807), ((-9223372036854775808), 9223372036854775807), (21, 21), (0, 39)] (peels 39 3) (sentH 325 10 errTab) = true := by kernel_rfl
theorem case21 {σ : Nat → Int} {W : World} (hL : L0 W) (hk : Known2 σ [((-9223372036854775808), 9223372036854775807), ((-9223372036854775808), 9223372036854775807), (21, 21), (0, 39)] []) (hT : TabOk Tryz.prog bad 6 σ [(0, 30, .var 2), (1, 40, .var 3)]) {xs : Array Value} (hv : ∀ ρ, VRs σ ρ [.int .i64 (.var 0), .int .i64 (.var 1)] xs.toList) : Calls Tryz.prog 4 xs W fun e w' => e = .returned (.bool true) ∧ Below W.heap.size W w' := by
  obtain ⟨ads, h1, h2, h3⟩ := errs_sents hL
  exact law_case_f fit h1 h2 h3 errs_all errs_lt (by kernel_rfl) hk (FnsOk.cons (hT.ok fit) (FnsOk.cons (frame_fn_ok (all_cons (m5_ok hL (hk.relax (r' := [((-9223372036854775808), 9223372036854775807), ((-9223372036854775808), 9223372036854775807), (0, 29), (0, 39)]) (by kernel_rfl))) (all_nil))) (FnsOk.cons (frame_fn_ok (all_cons (m45_ok hL (hk.relax (r' := [((-9223372036854775808), 9223372036854775807), ((-9223372036854775808), 9223372036854775807), (1, 29), (0, 39)]) (by kernel_rfl))) (all_cons (m84_ok hL (hk.relax (r' := [((-9223372036854775808), 9223372036854775807), ((-9223372036854775808), 9223372036854775807), (2, 29), (0, 39)]) (by kernel_rfl))) (all_cons (m122_ok hL (hk.relax (r' := [((-9223372036854775808), 9223372036854775807), ((-9223372036854775808), 9223372036854775807), (3, 29), (0, 39)]) (by kernel_rfl))) (all_cons (m159_ok hL (hk.relax (r' := [((-9223372036854775808), 9223372036854775807), ((-9223372036854775808), 9223372036854775807), (4, 29), (0, 39)]) (by kernel_rfl))) (all_cons (m195_ok hL (hk.relax (r' := [((-9223372036854775808), 9223372036854775807), ((-9223372036854775808), 9223372036854775807), (5, 29), (0, 39)]) (by kernel_rfl))) (all_cons (m230_ok hL (hk.relax (r' := [((-9223372036854775808), 9223372036854775807), ((-9223372036854775808), 9223372036854775807), (6, 29), (0, 39)]) (by kernel_rfl))) (all_cons (m264_ok hL (hk.relax (r' := [((-9223372036854775808), 9223372036854775807), ((-9223372036854775808), 9223372036854775807), (7, 29), (0, 39)]) (by kernel_rfl))) (all_cons (m297_ok hL (hk.relax (r' := [((-9223372036854775808), 9223372036854775807), ((-9223372036854775808), 9223372036854775807), (8, 29), (0, 39)]) (by kernel_rfl))) (all_cons (m329_ok hL (hk.relax (r' := [((-9223372036854775808), 9223372036854775807), ((-9223372036854775808), 9223372036854775807), (9, 29), (0, 39)]) (by kernel_rfl))) (all_cons (m360_ok hL (hk.relax (r' := [((-9223372036854775808), 9223372036854775807), ((-9223372036854775808), 9223372036854775807), (10, 29), (0, 39)]) (by kernel_rfl))) (all_cons (m390_ok hL (hk.relax (r' := [((-9223372036854775808), 9223372036854775807), ((-9223372036854775808), 9223372036854775807), (11, 29), (0, 39)]) (by kernel_rfl))) (all_cons (m419_ok hL (hk.relax (r' := [((-9223372036854775808), 9223372036854775807), ((-9223372036854775808), 9223372036854775807), (12, 29), (0, 39)]) (by kernel_rfl))) (all_cons (m447_ok hL (hk.relax (r' := [((-9223372036854775808), 9223372036854775807), ((-9223372036854775808), 9223372036854775807), (13, 29), (0, 39)]) (by kernel_rfl))) (all_cons (m474_ok hL (hk.relax (r' := [((-9223372036854775808), 9223372036854775807), ((-9223372036854775808), 9223372036854775807), (14, 29), (0, 39)]) (by kernel_rfl))) (all_cons (m500_ok hL (hk.relax (r' := [((-9223372036854775808), 9223372036854775807), ((-9223372036854775808), 9223372036854775807), (15, 29), (0, 39)]) (by kernel_rfl))) (all_cons (m525_ok hL (hk.relax (r' := [((-9223372036854775808), 9223372036854775807), ((-9223372036854775808), 9223372036854775807), (16, 29), (0, 39)]) (by kernel_rfl))) (all_cons (m549_ok hL (hk.relax (r' := [((-9223372036854775808), 9223372036854775807), ((-9223372036854775808), 9223372036854775807), (17, 29), (0, 39)]) (by kernel_rfl))) (all_cons (m572_ok hL (hk.relax (r' := [((-9223372036854775808), 9223372036854775807), ((-9223372036854775808), 9223372036854775807), (18, 29), (0, 39)]) (by kernel_rfl))) (all_cons (m594_ok hL (hk.relax (r' := [((-9223372036854775808), 9223372036854775807), ((-9223372036854775808), 9223372036854775807), (19, 29), (0, 39)]) (by kernel_rfl))) (all_cons (m615_ok hL (hk.relax (r' := [((-9223372036854775808), 9223372036854775807), ((-9223372036854775808), 9223372036854775807), (20, 29), (0, 39)]) (by kernel_rfl))) (all_cons (m635_ok hL (hk.relax (r' := [((-9223372036854775808), 9223372036854775807), ((-9223372036854775808), 9223372036854775807), (21, 29), (0, 39)]) (by kernel_rfl))) (all_cons (m636_ok hL hk) (all_cons (m637_ok hL) (all_cons (m638_ok hL) (all_cons (m639_ok hL) (all_cons (m640_ok hL) (all_cons (m641_ok hL) (all_cons (m642_ok hL) (all_cons (m643_ok hL) (all_cons (m644_ok hL) (all_cons (m645_ok hL) (all_cons (m646_ok hL) (all_cons (m647_ok hL) (all_cons (m648_ok hL) (all_cons (m649_ok hL) (all_cons (m650_ok hL) (all_cons (m651_ok hL) (all_cons (m652_ok hL) (all_cons (m653_ok hL) (all_nil))))))))))))))))))))))))))))))))))))))))) ((q0_ok hL))))) hv run21
noncomputable def h1300 : H := hUpd h1263 4150 [] [] []
noncomputable def h1301 : H := hUpc h1262 4319 [] [] [(30, 0, [I 16, .slice 663 0 1 1 10 false, I 21]),
  (56, 0, [IZ (-1), .int .i64 (.sub (.var 2) (.lit 22))])] [(68, 0, 8, I 22)]
noncomputable def m654 : Memo := ⟨[.ptr 68 0, I 21], h1300, .agg [I 0, I 1, I 0, U 0, I 0, U 0, IZ (-1), I 0], h1301⟩
theorem m654_run : ranTo (evCall (cxX Tryz.prog bad [((-9223372036854775808), 9223372036854775807), ((-9223372036854775808), 9223372036854775807), (22, 29), (0, 39)] [] [(51, pureFn [p4, p2, p3]), (172, isFn 325)]) 1000 60 10 m654.args m654.h) m654.v m654.h' = true := by kernel_rfl
theorem m654_ok {σ : Nat → Int} {W0 : World} (hL : L0 W0) (hk : Known2 σ [((-9223372036854775808), 9223372036854775807), ((-9223372036854775808), 9223372036854775807), (22, 29), (0, 39)] []) : MemoOk Tryz.prog 1023 σ W0 10 m654 := memo_ok fit hk (FnsOk.cons (pure_fn_ok (all_cons (p4_ok hL) (all_cons (p2_ok hL) (all_cons (p3_ok hL) (all_nil))))) (FnsOk.cons (ext_is hL) (FnsOk.nil))) m654_run
noncomputable def h1302 : H := hUpd h1301 4320 [27] [] []
noncomputable def h1303 : H := hUpc h1302 4438 [] [] [(67, 0, [.slice 365 0 0 1 1 false])] [(34, 0, 9, I 4), (34, 0, 10, I 6), (68, 0, 8, I 23)]
noncomputable def m655 : Memo := ⟨[.ptr 68 0, I 22], h1302, .agg [I 0, I 5, I 0, U 0, I 0, U 0, IZ (-1), I 6], h1303⟩
theorem m655_run : ranTo (evCall (cxX Tryz.prog bad [((-9223372036854775808), 9223372036854775807), ((-9223372036854775808), 9223372036854775807), (22, 22), (0, 39)] [] [(51, pureFn [p4, p2, p3]), (172, isFn 325)]) 1000 60 10 m655.args m655.h) m655.v m655.h' = true := by kernel_rfl
theorem m655_ok {σ : Nat → Int} {W0 : World} (hL : L0 W0) (hk : Known2 σ [((-9223372036854775808), 9223372036854775807), ((-9223372036854775808), 9223372036854775807), (22, 22), (0, 39)] []) : MemoOk Tryz.prog 1023 σ W0 10 m655 := memo_ok fit hk (FnsOk.cons (pure_fn_ok (all_cons (p4_ok hL) (all_cons (p2_ok hL) (all_cons (p3_ok hL) (all_nil))))) (FnsOk.cons (ext_is hL) (FnsOk.nil))) m655_run
end Go.Proofs.YtkfhelmjaoepiaaGreatDoor.kernTicks
