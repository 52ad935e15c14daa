/- kernTicks: calls that are run once, and the runs of the cases (part 2). -/
import Derived.Test.YtkfhelmjaoepiaaGreatDoorKkK1
set_option linter.unusedVariables false
set_option maxRecDepth 10000000
namespace Go.Proofs.YtkfhelmjaoepiaaGreatDoor.kernTicks
open Tk
open Go.RowKit
noncomputable def h1304 : H := hUpd h1303 4439 [34, 56] [] []
noncomputable def h1305 : H := hUpc h1304 4440 [] [] [] [(68, 0, 8, I 24)]
noncomputable def m656 : Memo := ⟨[.ptr 68 0, I 23], h1304, .agg [IZ (-1), I 0, I 0, U 0, I 0, U 0, IZ (-1), I 0], h1305⟩
theorem m656_run : ranTo (evCall (cxX Tryz.prog bad [] [] [(172, isFn 325)]) 1000 60 10 m656.args m656.h) m656.v m656.h' = true := by kernel_rfl
theorem m656_ok {σ : Nat → Int} {W0 : World} (hL : L0 W0) : MemoOk Tryz.prog 1023 σ W0 10 m656 := memo_ok fit (Known2.nil σ) (FnsOk.cons (ext_is hL) (FnsOk.nil)) m656_run
noncomputable def h1306 : H := hUpd h1305 4441 [] [] []
noncomputable def h1307 : H := hUpc h1304 4442 [] [] [] [(68, 0, 8, I 25)]
noncomputable def m657 : Memo := ⟨[.ptr 68 0, I 24], h1306, .agg [IZ (-1), I 0, I 0, U 0, I 0, U 0, IZ (-1), I 0], h1307⟩
theorem m657_run : ranTo (evCall (cxX Tryz.prog bad [] [] [(172, isFn 325)]) 1000 60 10 m657.args m657.h) m657.v m657.h' = true := by kernel_rfl
theorem m657_ok {σ : Nat → Int} {W0 : World} (hL : L0 W0) : MemoOk Tryz.prog 1023 σ W0 10 m657 := memo_ok fit (Known2.nil σ) (FnsOk.cons (ext_is hL) (FnsOk.nil)) m657_run
noncomputable def h1308 : H := hUpd h1307 4443 [] [] []
noncomputable def h1309 : H := hUpc h1304 4444 [] [] [] [(68, 0, 8, I 26)]
noncomputable def m658 : Memo := ⟨[.ptr 68 0, I 25], h1308, .agg [IZ (-1), I 0, I 0, U 0, I 0, U 0, IZ (-1), I 0], h1309⟩
theorem m658_run : ranTo (evCall (cxX Tryz.prog bad [] [] [(172, isFn 325)]) 1000 60 10 m658.args m658.h) m658.v m658.h' = true := by kernel_rfl
theorem m658_ok {σ : Nat → Int} {W0 : World} (hL : L0 W0) : MemoOk Tryz.prog 1023 σ W0 10 m658 := memo_ok fit (Known2.nil σ) (FnsOk.cons (ext_is hL) (FnsOk.nil)) m658_run
noncomputable def h1310 : H := hUpd h1309 4445 [] [] []
noncomputable def h1311 : H := hUpc h1304 4446 [] [] [] [(68, 0, 8, I 27)]
noncomputable def m659 : Memo := ⟨[.ptr 68 0, I 26], h1310, .agg [IZ (-1), I 0, I 0, U 0, I 0, U 0, IZ (-1), I 0], h1311⟩
theorem m659_run : ranTo (evCall (cxX Tryz.prog bad [] [] [(172, isFn 325)]) 1000 60 10 m659.args m659.h) m659.v m659.h' = true := by kernel_rfl
theorem m659_ok {σ : Nat → Int} {W0 : World} (hL : L0 W0) : MemoOk Tryz.prog 1023 σ W0 10 m659 := memo_ok fit (Known2.nil σ) (FnsOk.cons (ext_is hL) (FnsOk.nil)) m659_run
noncomputable def h1312 : H := hUpd h1311 4447 [] [] []
noncomputable def h1313 : H := hUpc h1304 4448 [] [] [] [(68, 0, 8, I 28)]
noncomputable def m660 : Memo := ⟨[.ptr 68 0, I 27], h1312, .agg [IZ (-1), I 0, I 0, U 0, I 0, U 0, IZ (-1), I 0], h1313⟩
theorem m660_run : ranTo (evCall (cxX Tryz.prog bad [] [] [(172, isFn 325)]) 1000 60 10 m660.args m660.h) m660.v m660.h' = true := by kernel_rfl
theorem m660_ok {σ : Nat → Int} {W0 : World} (hL : L0 W0) : MemoOk Tryz.prog 1023 σ W0 10 m660 := memo_ok fit (Known2.nil σ) (FnsOk.cons (ext_is hL) (FnsOk.nil)) m660_run
noncomputable def h1314 : H := hUpd h1313 4449 [] [] []
noncomputable def h1315 : H := hUpc h1304 4450 [] [] [] [(68, 0, 8, I 29)]
noncomputable def m661 : Memo := ⟨[.ptr 68 0, I 28], h1314, .agg [IZ (-1), I 0, I 0, U 0, I 0, U 0, IZ (-1), I 0], h1315⟩
theorem m661_run : ranTo (evCall (cxX Tryz.prog bad [] [] [(172, isFn 325)]) 1000 60 10 m661.args m661.h) m661.v m661.h' = true := by kernel_rfl
theorem m661_ok {σ : Nat → Int} {W0 : World} (hL : L0 W0) : MemoOk Tryz.prog 1023 σ W0 10 m661 := memo_ok fit (Known2.nil σ) (FnsOk.cons (ext_is hL) (FnsOk.nil)) m661_run
noncomputable def h1316 : H := hUpd h1315 4451 [] [] []
noncomputable def h1317 : H := hUpc h1304 4452 [] [] [] [(68, 0, 8, I 30)]
noncomputable def m662 : Memo := ⟨[.ptr 68 0, I 29], h1316, .agg [IZ (-1), I 0, I 0, U 0, I 0, U 0, IZ (-1), I 0], h1317⟩
theorem m662_run : ranTo (evCall (cxX Tryz.prog bad [] [] [(172, isFn 325)]) 1000 60 10 m662.args m662.h) m662.v m662.h' = true := by kernel_rfl
theorem m662_ok {σ : Nat → Int} {W0 : World} (hL : L0 W0) : MemoOk Tryz.prog 1023 σ W0 10 m662 := memo_ok fit (Known2.nil σ) (FnsOk.cons (ext_is hL) (FnsOk.nil)) m662_run
noncomputable def h1318 : H := hUpd h1317 4453 [] [] []
noncomputable def h1319 : H := hUpc h1304 4454 [] [] [] [(68, 0, 8, I 31)]
noncomputable def m663 : Memo := ⟨[.ptr 68 0, I 30], h1318, .agg [IZ (-1), I 0, I 0, U 0, I 0, U 0, IZ (-1), I 0], h1319⟩
theorem m663_run : ranTo (evCall (cxX Tryz.prog bad [] [] [(172, isFn 325)]) 1000 60 10 m663.args m663.h) m663.v m663.h' = true := by kernel_rfl
theorem m663_ok {σ : Nat → Int} {W0 : World} (hL : L0 W0) : MemoOk Tryz.prog 1023 σ W0 10 m663 := memo_ok fit (Known2.nil σ) (FnsOk.cons (ext_is hL) (FnsOk.nil)) m663_run
noncomputable def h1320 : H := hUpd h1319 4455 [] [] []
noncomputable def h1321 : H := hUpc h1304 4456 [] [] [] [(68, 0, 8, I 32)]
noncomputable def m664 : Memo := ⟨[.ptr 68 0, I 31], h1320, .agg [IZ (-1), I 0, I 0, U 0, I 0, U 0, IZ (-1), I 0], h1321⟩
theorem m664_run : ranTo (evCall (cxX Tryz.prog bad [] [] [(172, isFn 325)]) 1000 60 10 m664.args m664.h) m664.v m664.h' = true := by kernel_rfl
theorem m664_ok {σ : Nat → Int} {W0 : World} (hL : L0 W0) : MemoOk Tryz.prog 1023 σ W0 10 m664 := memo_ok fit (Known2.nil σ) (FnsOk.cons (ext_is hL) (FnsOk.nil)) m664_run
noncomputable def h1322 : H := hUpd h1321 4457 [] [] []
noncomputable def h1323 : H := hUpc h1304 4458 [] [] [] [(68, 0, 8, I 33)]
noncomputable def m665 : Memo := ⟨[.ptr 68 0, I 32], h1322, .agg [IZ (-1), I 0, I 0, U 0, I 0, U 0, IZ (-1), I 0], h1323⟩
theorem m665_run : ranTo (evCall (cxX Tryz.prog bad [] [] [(172, isFn 325)]) 1000 60 10 m665.args m665.h) m665.v m665.h' = true := by kernel_rfl
theorem m665_ok {σ : Nat → Int} {W0 : World} (hL : L0 W0) : MemoOk Tryz.prog 1023 σ W0 10 m665 := memo_ok fit (Known2.nil σ) (FnsOk.cons (ext_is hL) (FnsOk.nil)) m665_run
noncomputable def h1324 : H := hUpd h1323 4459 [] [] []
noncomputable def h1325 : H := hUpc h1304 4460 [] [] [] [(68, 0, 8, I 34)]
noncomputable def m666 : Memo := ⟨[.ptr 68 0, I 33], h1324, .agg [IZ (-1), I 0, I 0, U 0, I 0, U 0, IZ (-1), I 0], h1325⟩
theorem m666_run : ranTo (evCall (cxX Tryz.prog bad [] [] [(172, isFn 325)]) 1000 60 10 m666.args m666.h) m666.v m666.h' = true := by kernel_rfl
theorem m666_ok {σ : Nat → Int} {W0 : World} (hL : L0 W0) : MemoOk Tryz.prog 1023 σ W0 10 m666 := memo_ok fit (Known2.nil σ) (FnsOk.cons (ext_is hL) (FnsOk.nil)) m666_run
noncomputable def h1326 : H := hUpd h1325 4461 [] [] []
noncomputable def h1327 : H := hUpc h1304 4462 [] [] [] [(68, 0, 8, I 35)]
noncomputable def m667 : Memo := ⟨[.ptr 68 0, I 34], h1326, .agg [IZ (-1), I 0, I 0, U 0, I 0, U 0, IZ (-1), I 0], h1327⟩
theorem m667_run : ranTo (evCall (cxX Tryz.prog bad [] [] [(172, isFn 325)]) 1000 60 10 m667.args m667.h) m667.v m667.h' = true := by kernel_rfl
theorem m667_ok {σ : Nat → Int} {W0 : World} (hL : L0 W0) : MemoOk Tryz.prog 1023 σ W0 10 m667 := memo_ok fit (Known2.nil σ) (FnsOk.cons (ext_is hL) (FnsOk.nil)) m667_run
noncomputable def h1328 : H := hUpd h1327 4463 [] [] []
noncomputable def h1329 : H := hUpc h1304 4464 [] [] [] [(68, 0, 8, I 36)]
noncomputable def m668 : Memo := ⟨[.ptr 68 0, I 35], h1328, .agg [IZ (-1), I 0, I 0, U 0, I 0, U 0, IZ (-1), I 0], h1329⟩
theorem m668_run : ranTo (evCall (cxX Tryz.prog bad [] [] [(172, isFn 325)]) 1000 60 10 m668.args m668.h) m668.v m668.h' = true := by kernel_rfl
theorem m668_ok {σ : Nat → Int} {W0 : World} (hL : L0 W0) : MemoOk Tryz.prog 1023 σ W0 10 m668 := memo_ok fit (Known2.nil σ) (FnsOk.cons (ext_is hL) (FnsOk.nil)) m668_run
noncomputable def h1330 : H := hUpd h1329 4465 [] [] []
noncomputable def h1331 : H := hUpc h1304 4466 [] [] [] [(68, 0, 8, I 37)]
noncomputable def m669 : Memo := ⟨[.ptr 68 0, I 36], h1330, .agg [IZ (-1), I 0, I 0, U 0, I 0, U 0, IZ (-1), I 0], h1331⟩
theorem m669_run : ranTo (evCall (cxX Tryz.prog bad [] [] [(172, isFn 325)]) 1000 60 10 m669.args m669.h) m669.v m669.h' = true := by kernel_rfl
theorem m669_ok {σ : Nat → Int} {W0 : World} (hL : L0 W0) : MemoOk Tryz.prog 1023 σ W0 10 m669 := memo_ok fit (Known2.nil σ) (FnsOk.cons (ext_is hL) (FnsOk.nil)) m669_run
noncomputable def h1332 : H := hUpd h1331 4467 [] [] []
noncomputable def h1333 : H := hUpc h1304 4468 [] [] [] [(68, 0, 8, I 38)]
noncomputable def m670 : Memo := ⟨[.ptr 68 0, I 37], h1332, .agg [IZ (-1), I 0, I 0, U 0, I 0, U 0, IZ (-1), I 0], h1333⟩
theorem m670_run : ranTo (evCall (cxX Tryz.prog bad [] [] [(172, isFn 325)]) 1000 60 10 m670.args m670.h) m670.v m670.h' = true := by kernel_rfl
theorem m670_ok {σ : Nat → Int} {W0 : World} (hL : L0 W0) : MemoOk Tryz.prog 1023 σ W0 10 m670 := memo_ok fit (Known2.nil σ) (FnsOk.cons (ext_is hL) (FnsOk.nil)) m670_run
noncomputable def h1334 : H := hUpd h1333 4469 [] [] []
noncomputable def h1335 : H := hUpc h1304 4470 [] [] [] [(68, 0, 8, I 39)]
noncomputable def m671 : Memo := ⟨[.ptr 68 0, I 38], h1334, .agg [IZ (-1), I 0, I 0, U 0, I 0, U 0, IZ (-1), I 0], h1335⟩
theorem m671_run : ranTo (evCall (cxX Tryz.prog bad [] [] [(172, isFn 325)]) 1000 60 10 m671.args m671.h) m671.v m671.h' = true := by kernel_rfl
theorem m671_ok {σ : Nat → Int} {W0 : World} (hL : L0 W0) : MemoOk Tryz.prog 1023 σ W0 10 m671 := memo_ok fit (Known2.nil σ) (FnsOk.cons (ext_is hL) (FnsOk.nil)) m671_run
theorem run22 : lawF Tryz.prog bad [] ((6, numExtE [(0, 30, .var 2), (1, 40, .var 3)]) :: (9, frameFn [m5]) :: (10, frameFn [m45, m84, m122, m159, m195, m230, m264, m297, m329, m360, m390, m419, m447, m474, m500, m525, m549, m572, m594, m615, m635, m654, m655, m656, m657, m658, m659, m660, m661, m662, m663, m664, m665, m666, m667, m668, m669, m670, m671]) :: q0) 1000 60 4 [.int .i64 (.var 0), .int .i64 (.var 1)] [((-9223372036854775808), 9223372036854775807), ((-9223372036854775808), 9223372036854775807), (22, 22), (0, 39)] (peels 39 3) (sentH 325 10 errTab) = true := by kernel_rfl
theorem case22 {σ : Nat → Int} {W : World} (hL : L0 W) (hk : Known2 σ [((-9223372036854775808), 9223372036854775807), ((-9223372036854775808), 9223372036854775807), (22, 22), (0, 39)] []) (hT : TabOk Tryz.prog bad 6 σ [(0, 30, .var 2), (1, 40, .var 3)]) {xs : Array Value} (hv : ∀ ρ, VRs σ ρ [.int .i64 (.var 0), .int .i64 (.var 1)] xs.toList) : Calls Tryz.prog 4 xs W fun e w' => e = .returned (.bool true) ∧ Below W.heap.size W w' := by
  obtain ⟨ads, h1, h2, h3⟩ := errs_sents hL
  exact law_case_f fit h1 h2 h3 errs_all errs_lt (by kernel_rfl) hk (FnsOk.cons (hT.ok fit) (FnsOk.cons (frame_fn_ok (all_cons (m5_ok hL (hk.relax (r' := [((-9223372036854775808), 9223372036854775807), ((-9223372036854775808), 9223372036854775807), (0, 29), (0, 39)]) (by kernel_rfl))) (all_nil))) (FnsOk.cons (frame_fn_ok (all_cons (m45_ok hL (hk.relax (r' := [((-9223372036854775808), 9223372036854775807), ((-9223372036854775808), 9223372036854775807), (1, 29), (0, 39)]) (by kernel_rfl))) (all_cons (m84_ok hL (hk.relax (r' := [((-9223372036854775808), 9223372036854775807), ((-9223372036854775808), 9223372036854775807), (2, 29), (0, 39)]) (by kernel_rfl))) (all_cons (m122_ok hL (hk.relax (r' := [((-9223372036854775808), 9223372036854775807), ((-9223372036854775808), 9223372036854775807), (3, 29), (0, 39)]) (by kernel_rfl))) (all_cons (m159_ok hL (hk.relax (r' := [((-9223372036854775808), 9223372036854775807), ((-9223372036854775808), 9223372036854775807), (4, 29), (0, 39)]) (by kernel_rfl))) (all_cons (m195_ok hL (hk.relax (r' := [((-9223372036854775808), 9223372036854775807), ((-9223372036854775808), 9223372036854775807), (5, 29), (0, 39)]) (by kernel_rfl))) (all_cons (m230_ok hL (hk.relax (r' := [((-9223372036854775808), 9223372036854775807), ((-9223372036854775808), 9223372036854775807), (6, 29), (0, 39)]) (by kernel_rfl))) (all_cons (m264_ok hL (hk.relax (r' := [((-9223372036854775808), 9223372036854775807), ((-9223372036854775808), 9223372036854775807), (7, 29), (0, 39)]) (by kernel_rfl))) (all_cons (m297_ok hL (hk.relax (r' := [((-9223372036854775808), 9223372036854775807), ((-9223372036854775808), 9223372036854775807), (8, 29), (0, 39)]) (by kernel_rfl))) (all_cons (m329_ok hL (hk.relax (r' := [((-9223372036854775808), 9223372036854775807), ((-9223372036854775808), 9223372036854775807), (9, 29), (0, 39)]) (by kernel_rfl))) (all_cons (m360_ok hL (hk.relax (r' := [((-9223372036854775808), 9223372036854775807), ((-9223372036854775808), 9223372036854775807), (10, 29), (0, 39)]) (by kernel_rfl))) (all_cons (m390_ok hL (hk.relax (r' := [((-9223372036854775808), 9223372036854775807), ((-9223372036854775808), 9223372036854775807), (11, 29), (0, 39)]) (by kernel_rfl))) (all_cons (m419_ok hL (hk.relax (r' := [((-9223372036854775808), 9223372036854775807), ((-9223372036854775808), 9223372036854775807), (12, 29), (0, 39)]) (by kernel_rfl))) (all_cons (m447_ok hL (hk.relax (r' := [((-9223372036854775808), 9223372036854775807), ((-9223372036854775808), 9223372036854775807), (13, 29), (0, 39)]) (by kernel_rfl))) (all_cons (m474_ok hL (hk.relax (r' := [((-9223372036854775808), 9223372036854775807), ((-9223372036854775808), 9223372036854775807), (14, 29), (0, 39)]) (by kernel_rfl))) (all_cons (m500_ok hL (hk.relax (r' := [((-9223372036854775808), 9223372036854775807), ((-9223372036854775808), 9223372036854775807), (15, 29), (0, 39)]) (by kernel_rfl))) (all_cons (m525_ok hL (hk.relax (r' := [((-9223372036854775808), 9223372036854775807), ((-9223372036854775808), 9223372036854775807), (16, 29), (0, 39)]) (by kernel_rfl))) (all_cons (m549_ok hL (hk.relax (r' := [((-9223372036854775808), 9223372036854775807), ((-9223372036854775808), 9223372036854775807), (17, 29), (0, 39)]) (by kernel_rfl))) (all_cons (m572_ok hL (hk.relax (r' := [((-9223372036854775808), 9223372036854775807), ((-9223372036854775808), 9223372036854775807), (18, 29), (0, 39)]) (by kernel_rfl))) (all_cons (m594_ok hL (hk.relax (r' := [((-9223372036854775808), 9223372036854775807), ((-9223372036854775808), 9223372036854775807), (19, 29), (0, 39)]) (by kernel_rfl))) (all_cons (m615_ok hL (hk.relax (r' := [((-9223372036854775808), 9223372036854775807), ((-9223372036854775808), 9223372036854775807), (20, 29), (0, 39)]) (by kernel_rfl))) (all_cons (m635_ok hL (hk.relax (r' := [((-9223372036854775808), 9223372036854775807), ((-9223372036854775808), 9223372036854775807), (21, 29), (0, 39)]) (by kernel_rfl))) (all_cons (m654_ok hL (hk.relax (r' := [((-9223372036854775808), 9223372036854775807), ((-9223372036854775808), 9223372036854775807), (22, 29), (0, 39)]) (by kernel_rfl))) (all_cons (m655_ok hL hk) (all_cons (m656_ok hL) (all_cons (m657_ok hL) (all_cons (m658_ok hL) (all_cons (m659_ok hL) (all_cons (m660_ok hL) (all_cons (m661_ok hL) (all_cons (m662_ok hL) (all_cons (m663_ok hL) (all_cons (m664_ok hL) (all_cons (m665_ok hL) (all_cons (m666_ok hL) (all_cons (m667_ok hL) (all_cons (m668_ok hL) (all_cons (m669_ok hL) (all_cons (m670_ok hL) (all_cons (m671_ok hL) (all_nil))))))))))))))))))))))))))))))))))))))))) ((q0_ok hL))))) hv run22
noncomputable def h1336 : H := hUpd h1301 4320 [] [] []
noncomputable def h1337 : H := hUpc h1300 4489 [] [] [(30, 0, [I 16, .slice 663 0 1 1 10 false, I 22]),
  (56, 0, [IZ (-1), .int .i64 (.sub (.var 2) (.lit 23))])] [(68, 0, 8, I 23)]
noncomputable def m672 : Memo := ⟨[.ptr 68 0, I 22], h1336, .agg [I 0, I 3, I 0, U 0, I 0, U 0, IZ (-1), I 0], h1337⟩
theorem m672_run : ranTo (evCall (cxX Tryz.prog bad [((-9223372036854775808), 9223372036854775807), ((-9223372036854775808), 9223372036854775807), (23, 29), (0, 39)] [] [(51, pureFn [p4, p2, p3]), (172, isFn 325)]) 1000 60 10 m672.args m672.h) m672.v m672.h' = true := by kernel_rfl
theorem m672_ok {σ : Nat → Int} {W0 : World} (hL : L0 W0) (hk : Known2 σ [((-9223372036854775808), 9223372036854775807), ((-9223372036854775808), 9223372036854775807), (23, 29), (0, 39)] []) : MemoOk Tryz.prog 1023 σ W0 10 m672 := memo_ok fit hk (FnsOk.cons (pure_fn_ok (all_cons (p4_ok hL) (all_cons (p2_ok hL) (all_cons (p3_ok hL) (all_nil))))) (FnsOk.cons (ext_is hL) (FnsOk.nil))) m672_run
noncomputable def h1338 : H := hUpd h1337 4490 [27] [] []
noncomputable def h1339 : H := hUpc h1338 4608 [] [] [(67, 0, [.slice 365 0 0 1 1 false])] [(34, 0, 9, I 4), (34, 0, 10, I 6), (68, 0, 8, I 24)]
noncomputable def m673 : Memo := ⟨[.ptr 68 0, I 23], h1338, .agg [I 0, I 5, I 0, U 0, I 0, U 0, IZ (-1), I 6], h1339⟩
theorem m673_run : ranTo (evCall (cxX Tryz.prog bad [((-9223372036854775808), 9223372036854775807), ((-9223372036854775808), 9223372036854775807), (23, 23), (0, 39)] [] [(51, pureFn [p4, p2, p3]), (172, isFn 325)]) 1000 60 10 m673.args m673.h) m673.v m673.h' = true := by kernel_rfl
theorem m673_ok {σ : Nat → Int} {W0 : World} (hL : L0 W0) (hk : Known2 σ [((-9223372036854775808), 9223372036854775807), ((-9223372036854775808), 9223372036854775807), (23, 23), (0, 39)] []) : MemoOk Tryz.prog 1023 σ W0 10 m673 := memo_ok fit hk (FnsOk.cons (pure_fn_ok (all_cons (p4_ok hL) (all_cons (p2_ok hL) (all_cons (p3_ok hL) (all_nil))))) (FnsOk.cons (ext_is hL) (FnsOk.nil))) m673_run
noncomputable def h1340 : H := hUpd h1339 4609 [34, 56] [] []
noncomputable def h1341 : H := hUpc h1340 4610 [] [] [] [(68, 0, 8, I 25)]
noncomputable def m674 : Memo := ⟨[.ptr 68 0, I 24], h1340, .agg [IZ (-1), I 0, I 0, U 0, I 0, U 0, IZ (-1), I 0], h1341⟩
theorem m674_run : ranTo (evCall (cxX Tryz.prog bad [] [] [(172, isFn 325)]) 1000 60 10 m674.args m674.h) m674.v m674.h' = true := by kernel_rfl
theorem m674_ok {σ : Nat → Int} {W0 : World} (hL : L0 W0) : MemoOk Tryz.prog 1023 σ W0 10 m674 := memo_ok fit (Known2.nil σ) (FnsOk.cons (ext_is hL) (FnsOk.nil)) m674_run
noncomputable def h1342 : H := hUpd h1341 4611 [] [] []
noncomputable def h1343 : H := hUpc h1340 4612 [] [] [] [(68, 0, 8, I 26)]
noncomputable def m675 : Memo := ⟨[.ptr 68 0, I 25], h1342, .agg [IZ (-1), I 0, I 0, U 0, I 0, U 0, IZ (-1), I 0], h1343⟩
theorem m675_run : ranTo (evCall (cxX Tryz.prog bad [] [] [(172, isFn 325)]) 1000 60 10 m675.args m675.h) m675.v m675.h' = true := by kernel_rfl
theorem m675_ok {σ : Nat → Int} {W0 : World} (hL : L0 W0) : MemoOk Tryz.prog 1023 σ W0 10 m675 := memo_ok fit (Known2.nil σ) (FnsOk.cons (ext_is hL) (FnsOk.nil)) m675_run
noncomputable def h1344 : H := hUpd h1343 4613 [] [] []
noncomputable def h1345 : H := hUpc h1340 4614 [] [] [] [(68, 0, 8, I 27)]
noncomputable def m676 : Memo := ⟨[.ptr 68 0, I 26], h1344, .agg [IZ (-1), I 0, I 0, U 0, I 0, U 0, IZ (-1), I 0], h1345⟩
theorem m676_run : ranTo (evCall (cxX Tryz.prog bad [] [] [(172, isFn 325)]) 1000 60 10 m676.args m676.h) m676.v m676.h' = true := by kernel_rfl
theorem m676_ok {σ : Nat → Int} {W0 : World} (hL : L0 W0) : MemoOk Tryz.prog 1023 σ W0 10 m676 := memo_ok fit (Known2.nil σ) (FnsOk.cons (ext_is hL) (FnsOk.nil)) m676_run
noncomputable def h1346 : H := hUpd h1345 4615 [] [] []
noncomputable def h1347 : H := hUpc h1340 4616 [] [] [] [(68, 0, 8, I 28)]
noncomputable def m677 : Memo := ⟨[.ptr 68 0, I 27], h1346, .agg [IZ (-1), I 0, I 0, U 0, I 0, U 0, IZ (-1), I 0], h1347⟩
theorem m677_run : ranTo (evCall (cxX Tryz.prog bad [] [] [(172, isFn 325)]) 1000 60 10 m677.args m677.h) m677.v m677.h' = true := by kernel_rfl
theorem m677_ok {σ : Nat → Int} {W0 : World} (hL : L0 W0) : MemoOk Tryz.prog 1023 σ W0 10 m677 := memo_ok fit (Known2.nil σ) (FnsOk.cons (ext_is hL) (FnsOk.nil)) m677_run
noncomputable def h1348 : H := hUpd h1347 4617 [] [] []
noncomputable def h1349 : H := hUpc h1340 4618 [] [] [] [(68, 0, 8, I 29)]
noncomputable def m678 : Memo := ⟨[.ptr 68 0, I 28], h1348, .agg [IZ (-1), I 0, I 0, U 0, I 0, U 0, IZ (-1), I 0], h1349⟩
theorem m678_run : ranTo (evCall (cxX Tryz.prog bad [] [] [(172, isFn 325)]) 1000 60 10 m678.args m678.h) m678.v m678.h' = true := by kernel_rfl
theorem m678_ok {σ : Nat → Int} {W0 : World} (hL : L0 W0) : MemoOk Tryz.prog 1023 σ W0 10 m678 := memo_ok fit (Known2.nil σ) (FnsOk.cons (ext_is hL) (FnsOk.nil)) m678_run
noncomputable def h1350 : H := hUpd h1349 4619 [] [] []
noncomputable def h1351 : H := hUpc h1340 4620 [] [] [] [(68, 0, 8, I 30)]
noncomputable def m679 : Memo := ⟨[.ptr 68 0, I 29], h1350, .agg [IZ (-1), I 0, I 0, U 0, I 0, U 0, IZ (-1), I 0], h1351⟩
theorem m679_run : ranTo (evCall (cxX Tryz.prog bad [] [] [(172, isFn 325)]) 1000 60 10 m679.args m679.h) m679.v m679.h' = true := by kernel_rfl
theorem m679_ok {σ : Nat → Int} {W0 : World} (hL : L0 W0) : MemoOk Tryz.prog 1023 σ W0 10 m679 := memo_ok fit (Known2.nil σ) (FnsOk.cons (ext_is hL) (FnsOk.nil)) m679_run
noncomputable def h1352 : H := hUpd h1351 4621 [] [] []
noncomputable def h1353 : H := hUpc h1340 4622 [] [] [] [(68, 0, 8, I 31)]
noncomputable def m680 : Memo := ⟨[.ptr 68 0, I 30], h1352, .agg [IZ (-1), I 0, I 0, U 0, I 0, U 0, IZ (-1), I 0], h1353⟩
theorem m680_run : ranTo (evCall (cxX Tryz.prog bad [] [] [(172, isFn 325)]) 1000 60 10 m680.args m680.h) m680.v m680.h' = true := by kernel_rfl
theorem m680_ok {σ : Nat → Int} {W0 : World} (hL : L0 W0) : MemoOk Tryz.prog 1023 σ W0 10 m680 := memo_ok fit (Known2.nil σ) (FnsOk.cons (ext_is hL) (FnsOk.nil)) m680_run
noncomputable def h1354 : H := hUpd h1353 4623 [] [] []
noncomputable def h1355 : H := hUpc h1340 4624 [] [] [] [(68, 0, 8, I 32)]
noncomputable def m681 : Memo := ⟨[.ptr 68 0, I 31], h1354, .agg [IZ (-1), I 0, I 0, U 0, I 0, U 0, IZ (-1), I 0], h1355⟩
theorem m681_run : ranTo (evCall (cxX Tryz.prog bad [] [] [(172, isFn 325)]) 1000 60 10 m681.args m681.h) m681.v m681.h' = true := by kernel_rfl
theorem m681_ok {σ : Nat → Int} {W0 : World} (hL : L0 W0) : MemoOk Tryz.prog 1023 σ W0 10 m681 := memo_ok fit (Known2.nil σ) (FnsOk.cons (ext_is hL) (FnsOk.nil)) m681_run
noncomputable def h1356 : H := hUpd h1355 4625 [] [] []
noncomputable def h1357 : H := hUpc h1340 4626 [] [] [] [(68, 0, 8, I 33)]
noncomputable def m682 : Memo := ⟨[.ptr 68 0, I 32], h1356, .agg [IZ (-1), I 0, I 0, U 0, I 0, U 0, IZ (-1), I 0], h1357⟩
theorem m682_run : ranTo (evCall (cxX Tryz.prog bad [] [] [(172, isFn 325)]) 1000 60 10 m682.args m682.h) m682.v m682.h' = true := by kernel_rfl
theorem m682_ok {σ : Nat → Int} {W0 : World} (hL : L0 W0) : MemoOk Tryz.prog 1023 σ W0 10 m682 := memo_ok fit (Known2.nil σ) (FnsOk.cons (ext_is hL) (FnsOk.nil)) m682_run
noncomputable def h1358 : H := hUpd h1357 4627 [] [] []
noncomputable def h1359 : H := hUpc h1340 4628 [] [] [] [(68, 0, 8, I 34)]
noncomputable def m683 : Memo := ⟨[.ptr 68 0, I 33], h1358, .agg [IZ (-1), I 0, I 0, U 0, I 0, U 0, IZ (-1), I 0], h1359⟩
theorem m683_run : ranTo (evCall (cxX Tryz.prog bad [] [] [(172, isFn 325)]) 1000 60 10 m683.args m683.h) m683.v m683.h' = true := by kernel_rfl
theorem m683_ok {σ : Nat → Int} {W0 : World} (hL : L0 W0) : MemoOk Tryz.prog 1023 σ W0 10 m683 := memo_ok fit (Known2.nil σ) (FnsOk.cons (ext_is hL) (FnsOk.nil)) m683_run
noncomputable def h1360 : H := hUpd h1359 4629 [] [] []
noncomputable def h1361 : H := hUpc h1340 4630 [] [] [] [(68, 0, 8, I 35)]
noncomputable def m684 : Memo := ⟨[.ptr 68 0, I 34], h1360, .agg [IZ (-1), I 0, I 0, U 0, I 0, U 0, IZ (-1), I 0], h1361⟩
theorem m684_run : ranTo (evCall (cxX Tryz.prog bad [] [] [(172, isFn 325)]) 1000 60 10 m684.args m684.h) m684.v m684.h' = true := by kernel_rfl
theorem m684_ok {σ : Nat → Int} {W0 : World} (hL : L0 W0) : MemoOk Tryz.prog 1023 σ W0 10 m684 := memo_ok fit (Known2.nil σ) (FnsOk.cons (ext_is hL) (FnsOk.nil)) m684_run
noncomputable def h1362 : H := hUpd h1361 4631 [] [] []
noncomputable def h1363 : H := hUpc h1340 4632 [] [] [] [(68, 0, 8, I 36)]
noncomputable def m685 : Memo := ⟨[.ptr 68 0, I 35], h1362, .agg [IZ (-1), I 0, I 0, U 0, I 0, U 0, IZ (-1), I 0], h1363⟩
theorem m685_run : ranTo (evCall (cxX Tryz.prog bad [] [] [(172, isFn 325)]) 1000 60 10 m685.args m685.h) m685.v m685.h' = true := by kernel_rfl
theorem m685_ok {σ : Nat → Int} {W0 : World} (hL : L0 W0) : MemoOk Tryz.prog 1023 σ W0 10 m685 := memo_ok fit (Known2.nil σ) (FnsOk.cons (ext_is hL) (FnsOk.nil)) m685_run
noncomputable def h1364 : H := hUpd h1363 4633 [] [] []
noncomputable def h1365 : H := hUpc h1340 4634 [] [] [] [(68, 0, 8, I 37)]
noncomputable def m686 : Memo := ⟨[.ptr 68 0, I 36], h1364, .agg [IZ (-1), I 0, I 0, U 0, I 0, U 0, IZ (-1), I 0], h1365⟩
theorem m686_run : ranTo (evCall (cxX Tryz.prog bad [] [] [(172, isFn 325)]) 1000 60 10 m686.args m686.h) m686.v m686.h' = true := by kernel_rfl
theorem m686_ok {σ : Nat → Int} {W0 : World} (hL : L0 W0) : MemoOk Tryz.prog 1023 σ W0 10 m686 := memo_ok fit (Known2.nil σ) (FnsOk.cons (ext_is hL) (FnsOk.nil)) m686_run
noncomputable def h1366 : H := hUpd h1365 4635 [] [] []
noncomputable def h1367 : H := hUpc h1340 4636 [] [] [] [(68, 0, 8, I 38)]
noncomputable def m687 : Memo := ⟨[.ptr 68 0, I 37], h1366, .agg [IZ (-1), I 0, I 0, U 0, I 0, U 0, IZ (-1), I 0], h1367⟩
theorem m687_run : ranTo (evCall (cxX Tryz.prog bad [] [] [(172, isFn 325)]) 1000 60 10 m687.args m687.h) m687.v m687.h' = true := by kernel_rfl
theorem m687_ok {σ : Nat → Int} {W0 : World} (hL : L0 W0) : MemoOk Tryz.prog 1023 σ W0 10 m687 := memo_ok fit (Known2.nil σ) (FnsOk.cons (ext_is hL) (FnsOk.nil)) m687_run
noncomputable def h1368 : H := hUpd h1367 4637 [] [] []
noncomputable def h1369 : H := hUpc h1340 4638 [] [] [] [(68, 0, 8, I 39)]
noncomputable def m688 : Memo := ⟨[.ptr 68 0, I 38], h1368, .agg [IZ (-1), I 0, I 0, U 0, I 0, U 0, IZ (-1), I 0], h1369⟩
theorem m688_run : ranTo (evCall (cxX Tryz.prog bad [] [] [(172, isFn 325)]) 1000 60 10 m688.args m688.h) m688.v m688.h' = true := by kernel_rfl
theorem m688_ok {σ : Nat → Int} {W0 : World} (hL : L0 W0) : MemoOk Tryz.prog 1023 σ W0 10 m688 := memo_ok fit (Known2.nil σ) (FnsOk.cons (ext_is hL) (FnsOk.nil)) m688_run
theorem run23 : lawF Tryz.prog bad [] ((6, numExtE [(0, 30, .var 2), (1, 40, .var 3)]) :: (9, frameFn [m5]) :: (10, frameFn [m45, m84, m122, m159, m195, m230, m264, m297, m329, m360, m390, m419, m447, m474, m500, m525, m549, m572, m594, m615, m635, m654, m672, m673, m674, m675, m676, m677, m678, m679, m680, m681, m682, m683, m684, m685, m686, m687, m688]) :: q0) 1000 60 4 [.int .i64 (.var 0), .int .i64 (.var 1)] [((-9223372036854775808), 9223372036854775807), ((-9223372036854775808), 9223372036854775807), (23, 23), (0, 39)] (peels 39 3) (sentH 325 10 errTab) = true := by kernel_rfl
theorem case23 {σ : Nat → Int} {W : World} (hL : L0 W) (hk : Known2 σ [((-9223372036854775808), 9223372036854775807), ((-9223372036854775808), 9223372036854775807), (23, 23), (0, 39)] []) (hT : TabOk Tryz.prog bad 6 σ [(0, 30, .var 2), (1, 40, .var 3)]) {xs : Array Value} (hv : ∀ ρ, VRs σ ρ [.int .i64 (.var 0), .int .i64 (.var 1)] xs.toList) : Calls Tryz.prog 4 xs W fun e w' => e = .returned (.bool true) ∧ Below W.heap.size W w' := by
  obtain ⟨ads, h1, h2, h3⟩ := errs_sents hL
  exact law_case_f fit h1 h2 h3 errs_all errs_lt (by kernel_rfl) hk (FnsOk.cons (hT.ok fit) (FnsOk.cons (frame_fn_ok (all_cons (m5_ok hL (hk.relax (r' := [((-9223372036854775808), 9223372036854775807), ((-9223372036854775808), 9223372036854775807), (0, 29), (0, 39)]) (by kernel_rfl))) (all_nil))) (FnsOk.cons (frame_fn_ok (all_cons (m45_ok hL (hk.relax (r' := [((-9223372036854775808), 9223372036854775807), ((-9223372036854775808), 9223372036854775807), (1, 29), (0, 39)]) (by kernel_rfl))) (all_cons (m84_ok hL (hk.relax (r' := [((-9223372036854775808), 9223372036854775807), ((-9223372036854775808), 9223372036854775807), (2, 29), (0, 39)]) (by kernel_rfl))) (all_cons (m122_ok hL (hk.relax (r' := [((-9223372036854775808), 9223372036854775807), ((-9223372036854775808), 9223372036854775807), (3, 29), (0, 39)]) (by kernel_rfl))) (all_cons (m159_ok hL (hk.relax (r' := [((-9223372036854775808), 9223372036854775807), ((-9223372036854775808), 9223372036854775807), (4, 29), (0, 39)]) (by kernel_rfl))) (all_cons (m195_ok hL (hk.relax (r' := [((-9223372036854775808), 9223372036854775807), ((-9223372036854775808), 9223372036854775807), (5, 29), (0, 39)]) (by kernel_rfl))) (all_cons (m230_ok hL (hk.relax (r' := [((-9223372036854775808), 9223372036854775807), ((-9223372036854775808), 9223372036854775807), (6, 29), (0, 39)]) (by kernel_rfl))) (all_cons (m264_ok hL (hk.relax (r' := [((-9223372036854775808), 9223372036854775807), ((-9223372036854775808), 9223372036854775807), (7, 29), (0, 39)]) (by kernel_rfl))) (all_cons (m297_ok hL (hk.relax (r' := [((-9223372036854775808), 9223372036854775807), ((-9223372036854775808), 9223372036854775807), (8, 29), (0, 39)]) (by kernel_rfl))) (all_cons (m329_ok hL (hk.relax (r' := [((-9223372036854775808), 9223372036854775807), ((-9223372036854775808), 9223372036854775807), (9, 29), (0, 39)]) (by kernel_rfl))) (all_cons (m360_ok hL (hk.relax (r' := [((-9223372036854775808), 9223372036854775807), ((-9223372036854775808), 9223372036854775807), (10, 29), (0, 39)]) (by kernel_rfl))) (all_cons (m390_ok hL (hk.relax (r' := [((-9223372036854775808), 9223372036854775807), ((-9223372036854775808), 9223372036854775807), (11, 29), (0, 39)]) (by kernel_rfl))) (all_cons (m419_ok hL (hk.relax (r' := [((-9223372036854775808), 9223372036854775807), ((-9223372036854775808), 9223372036854775807), (12, 29), (0, 39)]) (by kernel_rfl))) (all_cons (m447_ok hL (hk.relax (r' := [((-9223372036854775808), 9223372036854775807), ((-9223372036854775808), 9223372036854775807), (13, 29), (0, 39)]) (by kernel_rfl))) (all_cons (m474_ok hL (hk.relax (r' := [((-9223372036854775808), 9223372036854775807), ((-9223372036854775808), 9223372036854775807), (14, 29), (0, 39)]) (by kernel_rfl))) (all_cons (m500_ok hL (hk.relax (r' := [((-9223372036854775808), 9223372036854775807), ((-9223372036854775808), 9223372036854775807), (15, 29), (0, 39)]) (by kernel_rfl))) (all_cons (m525_ok hL (hk.relax (r' := [((-9223372036854775808), 9223372036854775807), ((-9223372036854775808), 9223372036854775807), (16, 29), (0, 39)]) (by kernel_rfl))) (all_cons (m549_ok hL (hk.relax (r' := [((-9223372036854775808), 9223372036854775807), ((-9223372036854775808), 9223372036854775807), (17, 29), (0, 39)]) (by kernel_rfl))) (all_cons (m572_ok hL (hk.relax (r' := [((-9223372036854775808), 9223372036854775807), ((-9223372036854775808), 9223372036854775807), (18, 29), (0, 39)]) (by kernel_rfl))) (all_cons (m594_ok hL (hk.relax (r' := [((-9223372036854775808), 9223372036854775807), ((-9223372036854775808), 9223372036854775807), (19, 29), (0, 39)]) (by kernel_rfl))) (all_cons (m615_ok hL (hk.relax (r' := [((-9223372036854775808), 9223372036854775807), ((-9223372036854775808), 9223372036854775807), (20, 29), (0, 39)]) (by kernel_rfl))) (all_cons (m635_ok hL (hk.relax (r' := [((-9223372036854775808), 9223372036854775807), ((-9223372036854775808), 9223372036854775807), (21, 29), (0, 39)]) (by kernel_rfl))) (all_cons (m654_ok hL (hk.relax (r' := [((-9223372036854775808), 9223372036854775807), ((-9223372036854775808), 9223372036854775807), (22, 29), (0, 39)]) (by kernel_rfl))) (all_cons (m672_ok hL (hk.relax (r' := [((-9223372036854775808), 9223372036854775807), ((-9223372036854775808), 9223372036854775807), (23, 29), (0, 39)]) (by kernel_rfl))) (all_cons (m673_ok hL hk) (all_cons (m674_ok hL) (all_cons (m675_ok hL) (all_cons (m676_ok hL) (all_cons (m677_ok hL) (all_cons (m678_ok hL) (all_cons (m679_ok hL) (all_cons (m680_ok hL) (all_cons (m681_ok hL) (all_cons (m682_ok hL) (all_cons (m683_ok hL) (all_cons (m684_ok hL) (all_cons (m685_ok hL) (all_cons (m686_ok hL) (all_cons (m687_ok hL) (all_cons (m688_ok hL) (all_nil))))))))))))))))))))))))))))))))))))))))) ((q0_ok hL))))) hv run23
noncomputable def h1370 : H := hUpd h1337 4490 [] [] []
noncomputable def h1371 : H := hUpc h1336 4659 [] [] [(30, 0, [I 16, .slice 663 0 1 1 10 false, I 23]),
  (56, 0, [IZ (-1), .int .i64 (.sub (.var 2) (.lit 24))])] [(68, 0, 8, I 24)]
noncomputable def m689 : Memo := ⟨[.ptr 68 0, I 23], h1370, .agg [I 0, I 1, I 0, U 0, I 0, U 0, IZ (-1), I 0], h1371⟩
theorem m689_run : ranTo (evCall (cxX Tryz.prog bad [((-9223372036854775808), 9223372036854775807), ((-9223372036854775808), 9223372036854775807), (24, 29), (0, 39)] [] [(51, pureFn [p4, p2, p3]), (172, isFn 325)]) 1000 60 10 m689.args m689.h) m689.v m689.h' = true := by kernel_rfl
theorem m689_ok {σ : Nat → Int} {W0 : World} (hL : L0 W0) (hk : Known2 σ [((-9223372036854775808), 9223372036854775807), ((-9223372036854775808), 9223372036854775807), (24, 29), (0, 39)] []) : MemoOk Tryz.prog 1023 σ W0 10 m689 := memo_ok fit hk (FnsOk.cons (pure_fn_ok (all_cons (p4_ok hL) (all_cons (p2_ok hL) (all_cons (p3_ok hL) (all_nil))))) (FnsOk.cons (ext_is hL) (FnsOk.nil))) m689_run
noncomputable def h1372 : H := hUpd h1371 4660 [27] [] []
noncomputable def h1373 : H := hUpc h1372 4778 [] [] [(67, 0, [.slice 365 0 0 1 1 false])] [(34, 0, 9, I 4), (34, 0, 10, I 6), (68, 0, 8, I 25)]
noncomputable def m690 : Memo := ⟨[.ptr 68 0, I 24], h1372, .agg [I 0, I 5, I 0, U 0, I 0, U 0, IZ (-1), I 6], h1373⟩
theorem m690_run : ranTo (evCall (cxX Tryz.prog bad [((-9223372036854775808), 9223372036854775807), ((-9223372036854775808), 9223372036854775807), (24, 24), (0, 39)] [] [(51, pureFn [p4, p2, p3]), (172, isFn 325)]) 1000 60 10 m690.args m690.h) m690.v m690.h' = true := by kernel_rfl
theorem m690_ok {σ : Nat → Int} {W0 : World} (hL : L0 W0) (hk : Known2 σ [((-9223372036854775808), 9223372036854775807), ((-9223372036854775808), 9223372036854775807), (24, 24), (0, 39)] []) : MemoOk Tryz.prog 1023 σ W0 10 m690 := memo_ok fit hk (FnsOk.cons (pure_fn_ok (all_cons (p4_ok hL) (all_cons (p2_ok hL) (all_cons (p3_ok hL) (all_nil))))) (FnsOk.cons (ext_is hL) (FnsOk.nil))) m690_run
noncomputable def h1374 : H := hUpd h1373 4779 [34, 56] [] []
noncomputable def h1375 : H := hUpc h1374 4780 [] [] [] [(68, 0, 8, I 26)]
noncomputable def m691 : Memo := ⟨[.ptr 68 0, I 25], h1374, .agg [IZ (-1), I 0, I 0, U 0, I 0, U 0, IZ (-1), I 0], h1375⟩
theorem m691_run : ranTo (evCall (cxX Tryz.prog bad [] [] [(172, isFn 325)]) 1000 60 10 m691.args m691.h) m691.v m691.h' = true := by kernel_rfl
theorem m691_ok {σ : Nat → Int} {W0 : World} (hL : L0 W0) : MemoOk Tryz.prog 1023 σ W0 10 m691 := memo_ok fit (Known2.nil σ) (FnsOk.cons (ext_is hL) (FnsOk.nil)) m691_run
noncomputable def h1376 : H := hUpd h1375 4781 [] [] []
noncomputable def h1377 : H := hUpc h1374 4782 [] [] [] [(68, 0, 8, I 27)]
noncomputable def m692 : Memo := ⟨[.ptr 68 0, I 26], h1376, .agg [IZ (-1), I 0, I 0, U 0, I 0, U 0, IZ (-1), I 0], h1377⟩
theorem m692_run : ranTo (evCall (cxX Tryz.prog bad [] [] [(172, isFn 325)]) 1000 60 10 m692.args m692.h) m692.v m692.h' = true := by kernel_rfl
theorem m692_ok {σ : Nat → Int} {W0 : World} (hL : L0 W0) : MemoOk Tryz.prog 1023 σ W0 10 m692 := memo_ok fit (Known2.nil σ) (FnsOk.cons (ext_is hL) (FnsOk.nil)) m692_run
noncomputable def h1378 : H := hUpd h1377 4783 [] [] []
noncomputable def h1379 : H := hUpc h1374 4784 [] [] [] [(68, 0, 8, I 28)]
noncomputable def m693 : Memo := ⟨[.ptr 68 0, I 27], h1378, .agg [IZ (-1), I 0, I 0, U 0, I 0, U 0, IZ (-1), I 0], h1379⟩
theorem m693_run : ranTo (evCall (cxX Tryz.prog bad [] [] [(172, isFn 325)]) 1000 60 10 m693.args m693.h) m693.v m693.h' = true := by kernel_rfl
theorem m693_ok {σ : Nat → Int} {W0 : World} (hL : L0 W0) : MemoOk Tryz.prog 1023 σ W0 10 m693 := memo_ok fit (Known2.nil σ) (FnsOk.cons (ext_is hL) (FnsOk.nil)) m693_run
noncomputable def h1380 : H := hUpd h1379 4785 [] [] []
noncomputable def h1381 : H := hUpc h1374 4786 [] [] [] [(68, 0, 8, I 29)]
noncomputable def m694 : Memo := ⟨[.ptr 68 0, I 28], h1380, .agg [IZ (-1), I 0, I 0, U 0, I 0, U 0, IZ (-1), I 0], h1381⟩
theorem m694_run : ranTo (evCall (cxX Tryz.prog bad [] [] [(172, isFn 325)]) 1000 60 10 m694.args m694.h) m694.v m694.h' = true := by kernel_rfl
theorem m694_ok {σ : Nat → Int} {W0 : World} (hL : L0 W0) : MemoOk Tryz.prog 1023 σ W0 10 m694 := memo_ok fit (Known2.nil σ) (FnsOk.cons (ext_is hL) (FnsOk.nil)) m694_run
noncomputable def h1382 : H := hUpd h1381 4787 [] [] []
noncomputable def h1383 : H := hUpc h1374 4788 [] [] [] [(68, 0, 8, I 30)]
noncomputable def m695 : Memo := ⟨[.ptr 68 0, I 29], h1382, .agg [IZ (-1), I 0, I 0, U 0, I 0, U 0, IZ (-1), I 0], h1383⟩
theorem m695_run : ranTo (evCall (cxX Tryz.prog bad [] [] [(172, isFn 325)]) 1000 60 10 m695.args m695.h) m695.v m695.h' = true := by kernel_rfl
theorem m695_ok {σ : Nat → Int} {W0 : World} (hL : L0 W0) : MemoOk Tryz.prog 1023 σ W0 10 m695 := memo_ok fit (Known2.nil σ) (FnsOk.cons (ext_is hL) (FnsOk.nil)) m695_run
noncomputable def h1384 : H := hUpd h1383 4789 [] [] []
noncomputable def h1385 : H := hUpc h1374 4790 [] [] [] [(68, 0, 8, I 31)]
noncomputable def m696 : Memo := ⟨[.ptr 68 0, I 30], h1384, .agg [IZ (-1), I 0, I 0, U 0, I 0, U 0, IZ (-1), I 0], h1385⟩
theorem m696_run : ranTo (evCall (cxX Tryz.prog bad [] [] [(172, isFn 325)]) 1000 60 10 m696.args m696.h) m696.v m696.h' = true := by kernel_rfl
theorem m696_ok {σ : Nat → Int} {W0 : World} (hL : L0 W0) : MemoOk Tryz.prog 1023 σ W0 10 m696 := memo_ok fit (Known2.nil σ) (FnsOk.cons (ext_is hL) (FnsOk.nil)) m696_run
noncomputable def h1386 : H := hUpd h1385 4791 [] [] []
noncomputable def h1387 : H := hUpc h1374 4792 [] [] [] [(68, 0, 8, I 32)]
noncomputable def m697 : Memo := ⟨[.ptr 68 0, I 31], h1386, .agg [IZ (-1), I 0, I 0, U 0, I 0, U 0, IZ (-1), I 0], h1387⟩
theorem m697_run : ranTo (evCall (cxX Tryz.prog bad [] [] [(172, isFn 325)]) 1000 60 10 m697.args m697.h) m697.v m697.h' = true := by kernel_rfl
theorem m697_ok {σ : Nat → Int} {W0 : World} (hL : L0 W0) : MemoOk Tryz.prog 1023 σ W0 10 m697 := memo_ok fit (Known2.nil σ) (FnsOk.cons (ext_is hL) (FnsOk.nil)) m697_run
noncomputable def h1388 : H := hUpd h1387 4793 [] [] []
noncomputable def h1389 : H := hUpc h1374 4794 [] [] [] [(68, 0, 8, I 33)]
noncomputable def m698 : Memo := ⟨[.ptr 68 0, I 32], h1388, .agg [IZ (-1), I 0, I 0, U 0, I 0, U 0, IZ (-1), I 0], h1389⟩
theorem m698_run : ranTo (evCall (cxX Tryz.prog bad [] [] [(172, isFn 325)]) 1000 60 10 m698.args m698.h) m698.v m698.h' = true := by kernel_rfl
theorem m698_ok {σ : Nat → Int} {W0 : World} (hL : L0 W0) : MemoOk Tryz.prog 1023 σ W0 10 m698 := memo_ok fit (Known2.nil σ) (FnsOk.cons (ext_is hL) (FnsOk.nil)) m698_run
noncomputable def h1390 : H := hUpd h1389 4795 [] [] []
noncomputable def h1391 : H := hUpc h1374 4796 [] [] [] [(68, 0, 8, I 34)]
noncomputable def m699 : Memo := ⟨[.ptr 68 0, I 33], h1390, .agg [IZ (-1), I 0, I 0, U 0, I 0, U 0, IZ (-1), I 0], h1391⟩
theorem m699_run : ranTo (evCall (cxX Tryz.prog bad [] [] [(172, isFn 325)]) 1000 60 10 m699.args m699.h) m699.v m699.h' = true := by kernel_rfl
theorem m699_ok {σ : Nat → Int} {W0 : World} (hL : L0 W0) : MemoOk Tryz.prog 1023 σ W0 10 m699 := memo_ok fit (Known2.nil σ) (FnsOk.cons (ext_is hL) (FnsOk.nil)) m699_run
noncomputable def h1392 : H := hUpd h1391 4797 [] [] []
noncomputable def h1393 : H := hUpc h1374 4798 [] [] [] [(68, 0, 8, I 35)]
noncomputable def m700 : Memo := ⟨[.ptr 68 0, I 34], h1392, .agg [IZ (-1), I 0, I 0, U 0, I 0, U 0, IZ (-1), I 0], h1393⟩
theorem m700_run : ranTo (evCall (cxX Tryz.prog bad [] [] [(172, isFn 325)]) 1000 60 10 m700.args m700.h) m700.v m700.h' = true := by kernel_rfl
theorem m700_ok {σ : Nat → Int} {W0 : World} (hL : L0 W0) : MemoOk Tryz.prog 1023 σ W0 10 m700 := memo_ok fit (Known2.nil σ) (FnsOk.cons (ext_is hL) (FnsOk.nil)) m700_run
noncomputable def h1394 : H := hUpd h1393 4799 [] [] []
noncomputable def h1395 : H := hUpc h1374 4800 [] [] [] [(68, 0, 8, I 36)]
noncomputable def m701 : Memo := ⟨[.ptr 68 0, I 35], h1394, .agg [IZ (-1), I 0, I 0, U 0, I 0, U 0, IZ (-1), I 0], h1395⟩
theorem m701_run : ranTo (evCall (cxX Tryz.prog bad [] [] [(172, isFn 325)]) 1000 60 10 m701.args m701.h) m701.v m701.h' = true := by kernel_rfl
theorem m701_ok {σ : Nat → Int} {W0 : World} (hL : L0 W0) : MemoOk Tryz.prog 1023 σ W0 10 m701 := memo_ok fit (Known2.nil σ) (FnsOk.cons (ext_is hL) (FnsOk.nil)) m701_run
noncomputable def h1396 : H := hUpd h1395 4801 [] [] []
noncomputable def h1397 : H := hUpc h1374 4802 [] [] [] [(68, 0, 8, I 37)]
noncomputable def m702 : Memo := ⟨[.ptr 68 0, I 36], h1396, .agg [IZ (-1), I 0, I 0, U 0, I 0, U 0, IZ (-1), I 0], h1397⟩
theorem m702_run : ranTo (evCall (cxX Tryz.prog bad [] [] [(172, isFn 325)]) 1000 60 10 m702.args m702.h) m702.v m702.h' = true := by kernel_rfl
theorem m702_ok {σ : Nat → Int} {W0 : World} (hL : L0 W0) : MemoOk Tryz.prog 1023 σ W0 10 m702 := memo_ok fit (Known2.nil σ) (FnsOk.cons (ext_is hL) (FnsOk.nil)) m702_run
noncomputable def h1398 : H := hUpd h1397 4803 [] [] []
noncomputable def h1399 : H := hUpc h1374 4804 [] [] [] [(68, 0, 8, I 38)]
noncomputable def m703 : Memo := ⟨[.ptr 68 0, I 37], h1398, .agg [IZ (-1), I 0, I 0, U 0, I 0, U 0, IZ (-1), I 0], h1399⟩
theorem m703_run : ranTo (evCall (cxX Tryz.prog bad [] [] [(172, isFn 325)]) 1000 60 10 m703.args m703.h) m703.v m703.h' = true := by kernel_rfl
theorem m703_ok {σ : Nat → Int} {W0 : World} (hL : L0 W0) : MemoOk Tryz.prog 1023 σ W0 10 m703 := memo_ok fit (Known2.nil σ) (FnsOk.cons (ext_is hL) (FnsOk.nil)) m703_run
noncomputable def h1400 : H := hUpd h1399 4805 [] [] []
noncomputable def h1401 : H := hUpc h1374 4806 [] [] [] [(68, 0, 8, I 39)]
noncomputable def m704 : Memo := ⟨[.ptr 68 0, I 38], h1400, .agg [IZ (-1), I 0, I 0, U 0, I 0, U 0, IZ (-1), I 0], h1401⟩
theorem m704_run : ranTo (evCall (cxX Tryz.prog bad [] [] [(172, isFn 325)]) 1000 60 10 m704.args m704.h) m704.v m704.h' = true := by kernel_rfl
theorem m704_ok {σ : Nat → Int} {W0 : World} (hL : L0 W0) : MemoOk Tryz.prog 1023 σ W0 10 m704 := memo_ok fit (Known2.nil σ) (FnsOk.cons (ext_is hL) (FnsOk.nil)) m704_run
theorem run24 : lawF Tryz.prog bad [] ((6, numExtE [(0, 30, .var 2), (1, 40, .var 3)]) :: (9, frameFn [m5]) :: (10, frameFn [m45, m84, m122, m159, m195, m230, m264, m297, m329, m360, m390, m419, m447, m474, m500, m525, m549, m572, m594, m615, m635, m654, m672, m689, m690, m691, m692, m693, m694, m695, m696, m697, m698, m699, m700, m701, m702, m703, m704]) :: q0) 1000 60 4 [.int .i64 (.var 0), .int .i64 (.var 1)] [((-9223372036854775808), 9223372036854775807), ((-9223372036854775808), 9223372036854775807), (24, 24), (0, 39)] (peels 39 3) (sentH 325 10 errTab) = true := by kernel_rfl
theorem case24 {σ : Nat → Int} {W : World} (hL : L0 W) (hk : Known2 σ [((-9223372036854775808), 9223372036854775807), ((-9223372036854775808), 9223372036854775807), (24, 24), (0, 39)] []) (hT : TabOk Tryz.prog bad 6 σ [(0, 30, .var 2), (1, 40, .var 3)]) {xs : Array Value} (hv : ∀ ρ, VRs σ ρ [.int .i64 (.var 0), .int .i64 (.var 1)] xs.toList) : Calls Tryz.prog 4 xs W fun e w' => e = .returned (.bool true) ∧ Below W.heap.size W w' := by
  obtain ⟨ads, h1, h2, h3⟩ := errs_sents hL
  exact law_case_f fit h1 h2 h3 errs_all errs_lt (by kernel_rfl) hk (FnsOk.cons (hT.ok fit) (FnsOk.cons (frame_fn_ok (all_cons (m5_ok hL (hk.relax (r' := [((-9223372036854775808), 9223372036854775807), ((-9223372036854775808), 9223372036854775807), (0, 29), (0, 39)]) (by kernel_rfl))) (all_nil))) (FnsOk.cons (frame_fn_ok (all_cons (m45_ok hL (hk.relax (r' := [((-9223372036854775808), 9223372036854775807), ((-9223372036854775808), 9223372036854775807), (1, 29), (0, 39)]) (by kernel_rfl))) (all_cons (m84_ok hL (hk.relax (r' := [((-9223372036854775808), 9223372036854775807), ((-9223372036854775808), 9223372036854775807), (2, 29), (0, 39)]) (by kernel_rfl))) (all_cons (m122_ok hL (hk.relax (r' := [((-9223372036854775808), 9223372036854775807), ((-9223372036854775808), 9223372036854775807), (3, 29), (0, 39)]) (by kernel_rfl))) (all_cons (m159_ok hL (hk.relax (r' := [((-9223372036854775808), 9223372036854775807), ((-9223372036854775808), 9223372036854775807), (4, 29), (0, 39)]) (by kernel_rfl))) (all_cons (m195_ok hL (hk.relax (r' := [((-9223372036854775808), 9223372036854775807), ((-9223372036854775808), 9223372036854775807), (5, 29), (0, 39)]) (by kernel_rfl))) (all_cons (m230_ok hL (hk.relax (r' := [((-9223372036854775808), 9223372036854775807), ((-9223372036854775808), 9223372036854775807), (6, 29), (0, 39)]) (by kernel_rfl))) (all_cons (m264_ok hL (hk.relax (r' := [((-9223372036854775808), 9223372036854775807), ((-9223372036854775808), 9223372036854775807), (7, 29), (0, 39)]) (by kernel_rfl))) (all_cons (m297_ok hL (hk.relax (r' := [((-9223372036854775808), 9223372036854775807), ((-9223372036854775808), 9223372036854775807), (8, 29), (0, 39)]) (by kernel_rfl))) (all_cons (m329_ok hL (hk.relax (r' := [((-9223372036854775808), 9223372036854775807), ((-9223372036854775808), 9223372036854775807), (9, 29), (0, 39)]) (by kernel_rfl))) (all_cons (m360_ok hL (hk.relax (r' := [((-9223372036854775808), 9223372036854775807), ((-9223372036854775808), 9223372036854775807), (10, 29), (0, 39)]) (by kernel_rfl))) (all_cons (m390_ok hL (hk.relax (r' := [((-9223372036854775808), 9223372036854775807), ((-9223372036854775808), 9223372036854775807), (11, 29), (0, 39)]) (by kernel_rfl))) (all_cons (m419_ok hL (hk.relax (r' := [((-9223372036854775808), 9223372036854775807), ((-9223372036854775808), 9223372036854775807), (12, 29), (0, 39)]) (by kernel_rfl))) (all_cons (m447_ok hL (hk.relax (r' := [((-9223372036854775808), 9223372036854775807), ((-9223372036854775808), 9223372036854775807), (13, 29), (0, 39)]) (by kernel_rfl))) (all_cons (m474_ok hL (hk.relax (r' := [((-9223372036854775808), 9223372036854775807), ((-9223372036854775808), 9223372036854775807), (14, 29), (0, 39)]) (by kernel_rfl))) (all_cons (m500_ok hL (hk.relax (r' := [((-9223372036854775808), 9223372036854775807), ((-9223372036854775808), 9223372036854775807), (15, 29), (0, 39)]) (by kernel_rfl))) (all_cons (m525_ok hL (hk.relax (r' := [((-9223372036854775808), 9223372036854775807), ((-9223372036854775808), 9223372036854775807), (16, 29), (0, 39)]) (by kernel_rfl))) (all_cons (m549_ok hL (hk.relax (r' := [((-9223372036854775808), 9223372036854775807), ((-9223372036854775808), 9223372036854775807), (17, 29), (0, 39)]) (by kernel_rfl))) (all_cons (m572_ok hL (hk.relax (r' := [((-9223372036854775808), 9223372036854775807), ((-9223372036854775808), 9223372036854775807), (18, 29), (0, 39)]) (by kernel_rfl))) (all_cons (m594_ok hL (hk.relax (r' := [((-9223372036854775808), 9223372036854775807), ((-9223372036854775808), 9223372036854775807), (19, 29), (0, 39)]) (by kernel_rfl))) (all_cons (m615_ok hL (hk.relax (r' := [((-9223372036854775808), 9223372036854775807), ((-9223372036854775808), 9223372036854775807), (20, 29), (0, 39)]) (by kernel_rfl))) (all_cons (m635_ok hL (hk.relax (r' := [((-9223372036854775808), 9223372036854775807), ((-9223372036854775808), 9223372036854775807), (21, 29), (0, 39)]) (by kernel_rfl))) (all_cons (m654_ok hL (hk.relax (r' := [((-9223372036854775808), 9223372036854775807), ((-9223372036854775808), 9223372036854775807), (22, 29), (0, 39)]) (by kernel_rfl))) (all_cons (m672_ok hL (hk.relax (r' := [((-9223372036854775808), 9223372036854775807), ((-9223372036854775808), 9223372036854775807), (23, 29), (0, 39)]) (by kernel_rfl))) (all_cons (m689_ok hL (hk.relax (r' := [((-9223372036854775808), 9223372036854775807), ((-9223372036854775808), 9223372036854775807), (24, 29), (0, 39)]) (by kernel_rfl))) (all_cons (m690_ok hL hk) (all_cons (m691_ok hL) (all_cons (m692_ok hL) (all_cons (m693_ok hL) (all_cons (m694_ok hL) (all_cons (m695_ok hL) (all_cons (m696_ok hL) (all_cons (m697_ok hL) (all_cons (m698_ok hL) (all_cons (m699_ok hL) (all_cons (m700_ok hL) (all_cons (m701_ok hL) (all_cons (m702_ok hL) (all_cons (m703_ok hL) (all_cons (m704_ok hL) (all_nil))))))))))))))))))))))))))))))))))))))))) ((q0_ok hL))))) hv run24
noncomputable def h1402 : H := hUpd h1371 4660 [] [] []
noncomputable def h1403 : H := hUpc h1370 4829 [] [] [(30, 0, [I 16, .slice 663 0 1 1 10 false, I 24]),
  (56, 0, [IZ (-1), .int .i64 (.sub (.var 2) (.lit 25))])] [(68, 0, 8, I 25)]
noncomputable def m705 : Memo := ⟨[.ptr 68 0, I 24], h1402, .agg [I 0, I 3, I 0, U 0, I 0, U 0, IZ (-1), I 0], h1403⟩
theorem m705_run : ranTo (evCall (cxX Tryz.prog bad [((-9223372036854775808), 9223372036854775807), ((-9223372036854775808), 9223372036854775807), (25, 29), (0, 39)] [] [(51, pureFn [p4, p2, p3]), (172, isFn 325)]) 1000 60 10 m705.args m705.h) m705.v m705.h' = true := by kernel_rfl
theorem m705_ok {σ : Nat → Int} {W0 : World} (hL : L0 W0) (hk : Known2 σ [((-9223372036854775808), 9223372036854775807), ((-9223372036854775808), 9223372036854775807), (25, 29), (0, 39)] []) : MemoOk Tryz.prog 1023 σ W0 10 m705 := memo_ok fit hk (FnsOk.cons (pure_fn_ok (all_cons (p4_ok hL) (all_cons (p2_ok hL) (all_cons (p3_ok hL) (all_nil))))) (FnsOk.cons (ext_is hL) (FnsOk.nil))) m705_run
noncomputable def h1404 : H := hUpd h1403 4830 [27] [] []
noncomputable def h1405 : H := hUpc h1404 4948 [] [] [(67, 0, [.slice 365 0 0 1 1 false])] [(34, 0, 9, I 4), (34, 0, 10, I 6), (68, 0, 8, I 26)]
noncomputable def m706 : Memo := ⟨[.ptr 68 0, I 25], h1404, .agg [I 0, I 5, I 0, U 0, I 0, U 0, IZ (-1), I 6], h1405⟩
theorem m706_run : ranTo (evCall (cxX Tryz.prog bad [((-9223372036854775808), 9223372036854775807), ((-9223372036854775808), 9223372036854775807), (25, 25), (0, 39)] [] [(51, pureFn [p4, p2, p3]), (172, isFn 325)]) 1000 60 10 m706.args m706.h) m706.v m706.h' = true := by kernel_rfl
theorem m706_ok {σ : Nat → Int} {W0 : World} (hL : L0 W0) (hk : Known2 σ [((-9223372036854775808), 9223372036854775807), ((-9223372036854775808), 9223372036854775807), (25, 25), (0, 39)] []) : MemoOk Tryz.prog 1023 σ W0 10 m706 := memo_ok fit hk (FnsOk.cons (pure_fn_ok (all_cons (p4_ok hL) (all_cons (p2_ok hL) (all_cons (p3_ok hL) (all_nil))))) (FnsOk.cons (ext_is hL) (FnsOk.nil))) m706_run
noncomputable def h1406 : H := hUpd h1405 4949 [34, 56] [] []
noncomputable def h1407 : H := hUpc h1406 4950 [] [] [] [(68, 0, 8, I 27)]
noncomputable def m707 : Memo := ⟨[.ptr 68 0, I 26], h1406, .agg [IZ (-1), I 0, I 0, U 0, I 0, U 0, IZ (-1), I 0], h1407⟩
theorem m707_run : ranTo (evCall (cxX Tryz.prog bad [] [] [(172, isFn 325)]) 1000 60 10 m707.args m707.h) m707.v m707.h' = true := by kernel_rfl
theorem m707_ok {σ : Nat → Int} {W0 : World} (hL : L0 W0) : MemoOk Tryz.prog 1023 σ W0 10 m707 := memo_ok fit (Known2.nil σ) (FnsOk.cons (ext_is hL) (FnsOk.nil)) m707_run
noncomputable def h1408 : H := hUpd h1407 4951 [] [] []
noncomputable def h1409 : H := hUpc h1406 4952 [] [] [] [(68, 0, 8, I 28)]
noncomputable def m708 : Memo := ⟨[.ptr 68 0, I 27], h1408, .agg [IZ (-1), I 0, I 0, U 0, I 0, U 0, IZ (-1), I 0], h1409⟩
theorem m708_run : ranTo (evCall (cxX Tryz.prog bad [] [] [(172, isFn 325)]) 1000 60 10 m708.args m708.h) m708.v m708.h' = true := by kernel_rfl
theorem m708_ok {σ : Nat → Int} {W0 : World} (hL : L0 W0) : MemoOk Tryz.prog 1023 σ W0 10 m708 := memo_ok fit (Known2.nil σ) (FnsOk.cons (ext_is hL) (FnsOk.nil)) m708_run
noncomputable def h1410 : H := hUpd h1409 4953 [] [] []
noncomputable def h1411 : H := hUpc h1406 4954 [] [] [] [(68, 0, 8, I 29)]
noncomputable def m709 : Memo := ⟨[.ptr 68 0, I 28], h1410, .agg [IZ (-1), I 0, I 0, U 0, I 0, U 0, IZ (-1), I 0], h1411⟩
theorem m709_run : ranTo (evCall (cxX Tryz.prog bad [] [] [(172, isFn 325)]) 1000 60 10 m709.args m709.h) m709.v m709.h' = true := by kernel_rfl
theorem m709_ok {σ : Nat → Int} {W0 : World} (hL : L0 W0) : MemoOk Tryz.prog 1023 σ W0 10 m709 := memo_ok fit (Known2.nil σ) (FnsOk.cons (ext_is hL) (FnsOk.nil)) m709_run
noncomputable def h1412 : H := hUpd h1411 4955 [] [] []
noncomputable def h1413 : H := hUpc h1406 4956 [] [] [] [(68, 0, 8, I 30)]
noncomputable def m710 : Memo := ⟨[.ptr 68 0, I 29], h1412, .agg [IZ (-1), I 0, I 0, U 0, I 0, U 0, IZ (-1), I 0], h1413⟩
theorem m710_run : ranTo (evCall (cxX Tryz.prog bad [] [] [(172, isFn 325)]) 1000 60 10 m710.args m710.h) m710.v m710.h' = true := by kernel_rfl
theorem m710_ok {σ : Nat → Int} {W0 : World} (hL : L0 W0) : MemoOk Tryz.prog 1023 σ W0 10 m710 := memo_ok fit (Known2.nil σ) (FnsOk.cons (ext_is hL) (FnsOk.nil)) m710_run
noncomputable def h1414 : H := hUpd h1413 4957 [] [] []
noncomputable def h1415 : H := hUpc h1406 4958 [] [] [] [(68, 0, 8, I 31)]
noncomputable def m711 : Memo := ⟨[.ptr 68 0, I 30], h1414, .agg [IZ (-1), I 0, I 0, U 0, I 0, U 0, IZ (-1), I 0], h1415⟩
theorem m711_run : ranTo (evCall (cxX Tryz.prog bad [] [] [(172, isFn 325)]) 1000 60 10 m711.args m711.h) m711.v m711.h' = true := by kernel_rfl
theorem m711_ok {σ : Nat → Int} {W0 : World} (hL : L0 W0) : MemoOk Tryz.prog 1023 σ W0 10 m711 := memo_ok fit (Known2.nil σ) (FnsOk.cons (ext_is hL) (FnsOk.nil)) m711_run
noncomputable def h1416 : H := hUpd h1415 4959 [] [] []
noncomputable def h1417 : H := hUpc h1406 4960 [] [] [] [(68, 0, 8, I 32)]
noncomputable def m712 : Memo := ⟨[.ptr 68 0, I 31], h1416, .agg [IZ (-1), I 0, I 0, U 0, I 0, U 0, IZ (-1), I 0], h1417⟩
theorem m712_run : ranTo (evCall (cxX Tryz.prog bad [] [] [(172, isFn 325)]) 1000 60 10 m712.args m712.h) m712.v m712.h' = true := by kernel_rfl
theorem m712_ok {σ : Nat → Int} {W0 : World} (hL : L0 W0) : MemoOk Tryz.prog 1023 σ W0 10 m712 := memo_ok fit (Known2.nil σ) (FnsOk.cons (ext_is hL) (FnsOk.nil)) m712_run
noncomputable def h1418 : H := hUpd h1417 4961 [] [] []
noncomputable def h1419 : H := hUpc h1406 4962 [] [] [] [(68, 0, 8, I 33)]
noncomputable def m713 : Memo := ⟨[.ptr 68 0, I 32], h1418, .agg [IZ (-1), I 0, I 0, U 0, I 0, U 0, IZ (-1), I 0], h1419⟩
theorem m713_run : ranTo (evCall (cxX Tryz.prog bad [] [] [(172, isFn 325)]) 1000 60 10 m713.args m713.h) m713.v m713.h' = true := by kernel_rfl
theorem m713_ok {σ : Nat → Int} {W0 : World} (hL : L0 W0) : MemoOk Tryz.prog 1023 σ W0 10 m713 := memo_ok fit (Known2.nil σ) (FnsOk.cons (ext_is hL) (FnsOk.nil)) m713_run
noncomputable def h1420 : H := hUpd h1419 4963 [] [] []
noncomputable def h1421 : H := hUpc h1406 4964 [] [] [] [(68, 0, 8, I 34)]
noncomputable def m714 : Memo := ⟨[.ptr 68 0, I 33], h1420, .agg [IZ (-1), I 0, I 0, U 0, I 0, U 0, IZ (-1), I 0], h1421⟩
theorem m714_run : ranTo (evCall (cxX Tryz.prog bad [] [] [(172, isFn 325)]) 1000 60 10 m714.args m714.h) m714.v m714.h' = true := by kernel_rfl
theorem m714_ok {σ : Nat → Int} {W0 : World} (hL : L0 W0) : MemoOk Tryz.prog 1023 σ W0 10 m714 := memo_ok fit (Known2.nil σ) (FnsOk.cons (ext_is hL) (FnsOk.nil)) m714_run
noncomputable def h1422 : H := hUpd h1421 4965 [] [] []
noncomputable def h1423 : H := hUpc h1406 4966 [] [] [] [(68, 0, 8, I 35)]
noncomputable def m715 : Memo := ⟨[.ptr 68 0, I 34], h1422, .agg [IZ (-1), I 0, I 0, U 0, I 0, U 0, IZ (-1), I 0], h1423⟩
theorem m715_run : ranTo (evCall (cxX Tryz.prog bad [] [] [(172, isFn 325)]) 1000 60 10 m715.args m715.h) m715.v m715.h' = true := by kernel_rfl
theorem m715_ok {σ : Nat → Int} {W0 : World} (hL : L0 W0) : MemoOk Tryz.prog 1023 σ W0 10 m715 := memo_ok fit (Known2.nil σ) (FnsOk.cons (ext_is hL) (FnsOk.nil)) m715_run
noncomputable def h1424 : H := hUpd h1423 4967 [] [] []
noncomputable def h1425 : H := hUpc h1406 4968 [] [] [] [(68, 0, 8, I 36)]
noncomputable def m716 : Memo := ⟨[.ptr 68 0, I 35], h1424, .agg [IZ (-1), I 0, I 0, U 0, I 0, U 0, IZ (-1), I 0], h1425⟩
theorem m716_run : ranTo (evCall (cxX Tryz.prog bad [] [] [(172, isFn 325)]) 1000 60 10 m716.args m716.h) m716.v m716.h' = true := by kernel_rfl
theorem m716_ok {σ : Nat → Int} {W0 : World} (hL : L0 W0) : MemoOk Tryz.prog 1023 σ W0 10 m716 := memo_ok fit (Known2.nil σ) (FnsOk.cons (ext_is hL) (FnsOk.nil)) m716_run
noncomputable def h1426 : H := hUpd h1425 4969 [] [] []
noncomputable def h1427 : H := hUpc h1406 4970 [] [] [] [(68, 0, 8, I 37)]
noncomputable def m717 : Memo := ⟨[.ptr 68 0, I 36], h1426, .agg [IZ (-1), I 0, I 0, U 0, I 0, U 0, IZ (-1), I 0], h1427⟩
theorem m717_run : ranTo (evCall (cxX Tryz.prog bad [] [] [(172, isFn 325)]) 1000 60 10 m717.args m717.h) m717.v m717.h' = true := by kernel_rfl
theorem m717_ok {σ : Nat → Int} {W0 : World} (hL : L0 W0) : MemoOk Tryz.prog 1023 σ W0 10 m717 := memo_ok fit (Known2.nil σ) (FnsOk.cons (ext_is hL) (FnsOk.nil)) m717_run
noncomputable def h1428 : H := hUpd h1427 4971 [] [] []
noncomputable def h1429 : H := hUpc h1406 4972 [] [] [] [(68, 0, 8, I 38)]
noncomputable def m718 : Memo := ⟨[.ptr 68 0, I 37], h1428, .agg [IZ (-1), I 0, I 0, U 0, I 0, U 0, IZ (-1), I 0], h1429⟩
theorem m718_run : ranTo (evCall (cxX Tryz.prog bad [] [] [(172, isFn 325)]) 1000 60 10 m718.args m718.h) m718.v m718.h' = true := by kernel_rfl
theorem m718_ok {σ : Nat → Int} {W0 : World} (hL : L0 W0) : MemoOk Tryz.prog 1023 σ W0 10 m718 := memo_ok fit (Known2.nil σ) (FnsOk.cons (ext_is hL) (FnsOk.nil)) m718_run
noncomputable def h1430 : H := hUpd h1429 4973 [] [] []
noncomputable def h1431 : H := hUpc h1406 4974 [] [] [] [(68, 0, 8, I 39)]
noncomputable def m719 : Memo := ⟨[.ptr 68 0, I 38], h1430, .agg [IZ (-1), I 0, I 0, U 0, I 0, U 0, IZ (-1), I 0], h1431⟩
theorem m719_run : ranTo (evCall (cxX Tryz.prog bad [] [] [(172, isFn 325)]) 1000 60 10 m719.args m719.h) m719.v m719.h' = true := by kernel_rfl
theorem m719_ok {σ : Nat → Int} {W0 : World} (hL : L0 W0) : MemoOk Tryz.prog 1023 σ W0 10 m719 := memo_ok fit (Known2.nil σ) (FnsOk.cons (ext_is hL) (FnsOk.nil)) m719_run
theorem run25 : lawF Tryz.prog bad [] ((6, numExtE [(0, 30, .var 2), (1, 40, .var 3)]) :: (9, frameFn [m5]) :: (10, frameFn [m45, m84, m122, m159, m195, m230, m264, m297, m329, m360, m390, m419, m447, m474, m500, m525, m549, m572, m594, m615, m635, m654, m672, m689, m705, m706, m707, m708, m709, m710, m711, m712, m713, m714, m715, m716, m717, m718, m719]) :: q0) 1000 60 4 [.int .i64 (.var 0), .int .i64 (.var 1)] [((-9223372036854775808), 9223372036854775807), ((-9223372036854775808), 9223372036854775807), (25, 25), (0, 39)] (peels 39 3) (sentH 325 10 errTab) = true := by kernel_rfl
theorem case25 {σ : Nat → Int} {W : World} (hL : L0 W) (hk : Known2 σ [((-9223372036854775808), 9223372036854775807), ((-9223372036854775808), 9223372036854775807), (25, 25), (0, 39)] []) (hT : TabOk Tryz.prog bad 6 σ [(0, 30, .var 2), (1, 40, .var 3)]) {xs : Array Value} (hv : ∀ ρ, VRs σ ρ [.int .i64 (.var 0), .int .i64 (.var 1)] xs.toList) : Calls Tryz.prog 4 xs W fun e w' => e = .returned (.bool true) ∧ Below W.heap.size W w' := by
  obtain ⟨ads, h1, h2, h3⟩ := errs_sents hL
  exact law_case_f fit h1 h2 h3 errs_all errs_lt (by kernel_rfl) hk (FnsOk.cons (hT.ok fit) (FnsOk.cons (frame_fn_ok (all_cons (m5_ok hL (hk.relax (r' := [((-9223372036854775808), 9223372036854775807), ((-9223372036854775808), 9223372036854775807), (0, 29), (0, 39)]) (by kernel_rfl))) (all_nil))) (FnsOk.cons (frame_fn_ok (all_cons (m45_ok hL (hk.relax (r' := [((-9223372036854775808), 9223372036854775807), ((-9223372036854775808), 9223372036854775807), (1, 29), (0, 39)]) (by kernel_rfl))) (all_cons (m84_ok hL (hk.relax (r' := [((-9223372036854775808), 9223372036854775807), ((-9223372036854775808), 9223372036854775807), (2, 29), (0, 39)]) (by kernel_rfl))) (all_cons (m122_ok hL (hk.relax (r' := [((-9223372036854775808), 9223372036854775807), ((-9223372036854775808), 9223372036854775807), (3, 29), (0, 39)]) (by kernel_rfl))) (all_cons (m159_ok hL (hk.relax (r' := [((-9223372036854775808), 9223372036854775807), ((-9223372036854775808), 9223372036854775807), (4, 29), (0, 39)]) (by kernel_rfl))) (all_cons (m195_ok hL (hk.relax (r' := [((-9223372036854775808), 9223372036854775807), ((-9223372036854775808), 9223372036854775807), (5, 29), (0, 39)]) (by kernel_rfl))) (all_cons (m230_ok hL (hk.relax (r' := [((-9223372036854775808), 9223372036854775807), ((-9223372036854775808), 9223372036854775807), (6, 29), (0, 39)]) (by kernel_rfl))) (all_cons (m264_ok hL (hk.relax (r' := [((-9223372036854775808), 9223372036854775807), ((-9223372036854775808), 9223372036854775807), (7, 29), (0, 39)]) (by kernel_rfl))) (all_cons (m297_ok hL (hk.relax (r' := [((-9223372036854775808), 9223372036854775807), ((-9223372036854775808), 9223372036854775807), (8, 29), (0, 39)]) (by kernel_rfl))) (all_cons (m329_ok hL (hk.relax (r' := [((-9223372036854775808), 9223372036854775807), ((-9223372036854775808), 9223372036854775807), (9, 29), (0, 39)]) (by kernel_rfl))) (all_cons (m360_ok hL (hk.relax (r' := [((-9223372036854775808), 9223372036854775807), ((-9223372036854775808), 9223372036854775807), (10, 29), (0, 39)]) (by kernel_rfl))) (all_cons (m390_ok hL (hk.relax (r' := [((-9223372036854775808), 9223372036854775807), ((-9223372036854775808), 9223372036854775807), (11, 29), (0, 39)]) (by kernel_rfl))) (all_cons (m419_ok hL (hk.relax (r' := [((-9223372036854775808), 9223372036854775807), ((-9223372036854775808), 9223372036854775807), (12, 29), (0, 39)]) (by kernel_rfl))) (all_cons (m447_ok hL (hk.relax (r' := [((-9223372036854775808), 9223372036854775807), ((-9223372036854775808), 9223372036854775807), (13, 29), (0, 39)]) (by kernel_rfl))) (all_cons (m474_ok hL (hk.relax (r' := [((-9223372036854775808), 9223372036854775807), ((-9223372036854775808), 9223372036854775807), (14, 29), (0, 39)]) (by kernel_rfl))) (all_cons (m500_ok hL (hk.relax (r' := [((-9223372036854775808), 9223372036854775807), ((-9223372036854775808), 9223372036854775807), (15, 29), (0, 39)]) (by kernel_rfl))) (all_cons (m525_ok hL (hk.relax (r' := [((-9223372036854775808), 9223372036854775807), ((-9223372036854775808), 9223372036854775807), (16, 29), (0, 39)]) (by kernel_rfl))) (all_cons (m549_ok hL (hk.relax (r' := [((-9223372036854775808), 9223372036854775807), ((-9223372036854775808), 9223372036854775807), (17, 29), (0, 39)]) (by kernel_rfl))) (all_cons (m572_ok hL (hk.relax (r' := [((-9223372036854775808), 9223372036854775807), ((-9223372036854775808), 9223372036854775807), (18, 29), (0, 39)]) (by kernel_rfl))) (all_cons (m594_ok hL (hk.relax (r' := [((-9223372036854775808), 9223372036854775807), ((-9223372036854775808), 9223372036854775807), (19, 29), (0, 39)]) (by kernel_rfl))) (all_cons (m615_ok hL (hk.relax (r' := [((-9223372036854775808), 9223372036854775807), ((-9223372036854775808), 9223372036854775807), (20, 29), (0, 39)]) (by kernel_rfl))) (all_cons (m635_ok hL (hk.relax (r' := [((-9223372036854775808), 9223372036854775807), ((-9223372036854775808), 9223372036854775807), (21, 29), (0, 39)]) (by kernel_rfl))) (all_cons (m654_ok hL (hk.relax (r' := [((-9223372036854775808), 9223372036854775807), ((-9223372036854775808), 9223372036854775807), (22, 29), (0, 39)]) (by kernel_rfl))) (all_cons (m672_ok hL (hk.relax (r' := [((-9223372036854775808), 9223372036854775807), ((-9223372036854775808), 9223372036854775807), (23, 29), (0, 39)]) (by kernel_rfl))) (all_cons (m689_ok hL (hk.relax (r' := [((-9223372036854775808), 9223372036854775807), ((-9223372036854775808), 9223372036854775807), (24, 29), (0, 39)]) (by kernel_rfl))) (all_cons (m705_ok hL (hk.relax (r' := [((-9223372036854775808), 9223372036854775807), ((-9223372036854775808), 9223372036854775807), (25, 29), (0, 39)]) (by kernel_rfl))) (all_cons (m706_ok hL hk) (all_cons (m707_ok hL) (all_cons (m708_ok hL) (all_cons (m709_ok hL) (all_cons (m710_ok hL) (all_cons (m711_ok hL) (all_cons (m712_ok hL) (all_cons (m713_ok hL) (all_cons (m714_ok hL) (all_cons (m715_ok hL) (all_cons (m716_ok hL) (all_cons (m717_ok hL) (all_cons (m718_ok hL) (all_cons (m719_ok hL) (all_nil))))))))))))))))))))))))))))))))))))))))) ((q0_ok hL))))) hv run25
noncomputable def h1432 : H := hUpd h1403 4830 [] [] []
noncomputable def h1433 : H := hUpc h1402 4999 [] [] [(30, 0, [I 16, .slice 663 0 1 1 10 false, I 25]),
  (56, 0, [IZ (-1), .int .i64 (.sub (.var 2) (.lit 26))])] [(68, 0, 8, I 26)]
noncomputable def m720 : Memo := ⟨[.ptr 68 0, I 25], h1432, .agg [I 0, I 1, I 0, U 0, I 0, U 0, IZ (-1), I 0], h1433⟩
theorem m720_run : ranTo (evCall (cxX Tryz.prog bad [((-9223372036854775808), 9223372036854775807), ((-9223372036854775808), 9223372036854775807), (26, 29), (0, 39)] [] [(51, pureFn [p4, p2, p3]), (172, isFn 325)]) 1000 60 10 m720.args m720.h) m720.v m720.h' = true := by kernel_rfl
theorem m720_ok {σ : Nat → Int} {W0 : World} (hL : L0 W0) (hk : Known2 σ [((-9223372036854775808), 9223372036854775807), ((-9223372036854775808), 9223372036854775807), (26, 29), (0, 39)] []) : MemoOk Tryz.prog 1023 σ W0 10 m720 := memo_ok fit hk (FnsOk.cons (pure_fn_ok (all_cons (p4_ok hL) (all_cons (p2_ok hL) (all_cons (p3_ok hL) (all_nil))))) (FnsOk.cons (ext_is hL) (FnsOk.nil))) m720_run
noncomputable def h1434 : H := hUpd h1433 5000 [27] [] []
noncomputable def h1435 : H := hUpc h1434 5118 [] [] [(67, 0, [.slice 365 0 0 1 1 false])] [(34, 0, 9, I 4), (34, 0, 10, I 6), (68, 0, 8, I 27)]
noncomputable def m721 : Memo := ⟨[.ptr 68 0, I 26], h1434, .agg [I 0, I 5, I 0, U 0, I 0, U 0, IZ (-1), I 6], h1435⟩
theorem m721_run : ranTo (evCall (cxX Tryz.prog bad [((-9223372036854775808), 9223372036854775807), ((-9223372036854775808), 9223372036854775807), (26, 26), (0, 39)] [] [(51, pureFn [p4, p2, p3]), (172, isFn 325)]) 1000 60 10 m721.args m721.h) m721.v m721.h' = true := by kernel_rfl
theorem m721_ok {σ : Nat → Int} {W0 : World} (hL : L0 W0) (hk : Known2 σ [((-9223372036854775808), 9223372036854775807), ((-9223372036854775808), 9223372036854775807), (26, 26), (0, 39)] []) : MemoOk Tryz.prog 1023 σ W0 10 m721 := memo_ok fit hk (FnsOk.cons (pure_fn_ok (all_cons (p4_ok hL) (all_cons (p2_ok hL) (all_cons (p3_ok hL) (all_nil))))) (FnsOk.cons (ext_is hL) (FnsOk.nil))) m721_run
noncomputable def h1436 : H := hUpd h1435 5119 [34, 56] [] []
noncomputable def h1437 : H := hUpc h1436 5120 [] [] [] [(68, 0, 8, I 28)]
noncomputable def m722 : Memo := ⟨[.ptr 68 0, I 27], h1436, .agg [IZ (-1), I 0, I 0, U 0, I 0, U 0, IZ (-1), I 0], h1437⟩
theorem m722_run : ranTo (evCall (cxX Tryz.prog bad [] [] [(172, isFn 325)]) 1000 60 10 m722.args m722.h) m722.v m722.h' = true := by kernel_rfl
theorem m722_ok {σ : Nat → Int} {W0 : World} (hL : L0 W0) : MemoOk Tryz.prog 1023 σ W0 10 m722 := memo_ok fit (Known2.nil σ) (FnsOk.cons (ext_is hL) (FnsOk.nil)) m722_run
noncomputable def h1438 : H := hUpd h1437 5121 [] [] []
noncomputable def h1439 : H := hUpc h1436 5122 [] [] [] [(68, 0, 8, I 29)]
noncomputable def m723 : Memo := ⟨[.ptr 68 0, I 28], h1438, .agg [IZ (-1), I 0, I 0, U 0, I 0, U 0, IZ (-1), I 0], h1439⟩
theorem m723_run : ranTo (evCall (cxX Tryz.prog bad [] [] [(172, isFn 325)]) 1000 60 10 m723.args m723.h) m723.v m723.h' = true := by kernel_rfl
theorem m723_ok {σ : Nat → Int} {W0 : World} (hL : L0 W0) : MemoOk Tryz.prog 1023 σ W0 10 m723 := memo_ok fit (Known2.nil σ) (FnsOk.cons (ext_is hL) (FnsOk.nil)) m723_run
noncomputable def h1440 : H := hUpd h1439 5123 [] [] []
noncomputable def h1441 : H := hUpc h1436 5124 [] [] [] [(68, 0, 8, I 30)]
noncomputable def m724 : Memo := ⟨[.ptr 68 0, I 29], h1440, .agg [IZ (-1), I 0, I 0, U 0, I 0, U 0, IZ (-1), I 0], h1441⟩
theorem m724_run : ranTo (evCall (cxX Tryz.prog bad [] [] [(172, isFn 325)]) 1000 60 10 m724.args m724.h) m724.v m724.h' = true := by kernel_rfl
theorem m724_ok {σ : Nat → Int} {W0 : World} (hL : L0 W0) : MemoOk Tryz.prog 1023 σ W0 10 m724 := memo_ok fit (Known2.nil σ) (FnsOk.cons (ext_is hL) (FnsOk.nil)) m724_run
noncomputable def h1442 : H := hUpd h1441 5125 [] [] []
noncomputable def h1443 : H := hUpc h1436 5126 [] [] [] [(68, 0, 8, I 31)]
noncomputable def m725 : Memo := ⟨[.ptr 68 0, I 30], h1442, .agg [IZ (-1), I 0, I 0, U 0, I 0, U 0, IZ (-1), I 0], h1443⟩
theorem m725_run : ranTo (evCall (cxX Tryz.prog bad [] [] [(172, isFn 325)]) 1000 60 10 m725.args m725.h) m725.v m725.h' = true := by kernel_rfl
theorem m725_ok {σ : Nat → Int} {W0 : World} (hL : L0 W0) : MemoOk Tryz.prog 1023 σ W0 10 m725 := memo_ok fit (Known2.nil σ) (FnsOk.cons (ext_is hL) (FnsOk.nil)) m725_run
noncomputable def h1444 : H := hUpd h1443 5127 [] [] []
noncomputable def h1445 : H := hUpc h1436 5128 [] [] [] [(68, 0, 8, I 32)]
noncomputable def m726 : Memo := ⟨[.ptr 68 0, I 31], h1444, .agg [IZ (-1), I 0, I 0, U 0, I 0, U 0, IZ (-1), I 0], h1445⟩
theorem m726_run : ranTo (evCall (cxX Tryz.prog bad [] [] [(172, isFn 325)]) 1000 60 10 m726.args m726.h) m726.v m726.h' = true := by kernel_rfl
theorem m726_ok {σ : Nat → Int} {W0 : World} (hL : L0 W0) : MemoOk Tryz.prog 1023 σ W0 10 m726 := memo_ok fit (Known2.nil σ) (FnsOk.cons (ext_is hL) (FnsOk.nil)) m726_run
noncomputable def h1446 : H := hUpd h1445 5129 [] [] []
noncomputable def h1447 : H := hUpc h1436 5130 [] [] [] [(68, 0, 8, I 33)]
noncomputable def m727 : Memo := ⟨[.ptr 68 0, I 32], h1446, .agg [IZ (-1), I 0, I 0, U 0, I 0, U 0, IZ (-1), I 0], h1447⟩
theorem m727_run : ranTo (evCall (cxX Tryz.prog bad [] [] [(172, isFn 325)]) 1000 60 10 m727.args m727.h) m727.v m727.h' = true := by kernel_rfl
theorem m727_ok {σ : Nat → Int} {W0 : World} (hL : L0 W0) : MemoOk Tryz.prog 1023 σ W0 10 m727 := memo_ok fit (Known2.nil σ) (FnsOk.cons (ext_is hL) (FnsOk.nil)) m727_run
noncomputable def h1448 : H := hUpd h1447 5131 [] [] []
noncomputable def h1449 : H := hUpc h1436 5132 [] [] [] [(68, 0, 8, I 34)]
noncomputable def m728 : Memo := ⟨[.ptr 68 0, I 33], h1448, .agg [IZ (-1), I 0, I 0, U 0, I 0, U 0, IZ (-1), I 0], h1449⟩
theorem m728_run : ranTo (evCall (cxX Tryz.prog bad [] [] [(172, isFn 325)]) 1000 60 10 m728.args m728.h) m728.v m728.h' = true := by kernel_rfl
theorem m728_ok {σ : Nat → Int} {W0 : World} (hL : L0 W0) : MemoOk Tryz.prog 1023 σ W0 10 m728 := memo_ok fit (Known2.nil σ) (FnsOk.cons (ext_is hL) (FnsOk.nil)) m728_run
noncomputable def h1450 : H := hUpd h1449 5133 [] [] []
noncomputable def h1451 : H := hUpc h1436 5134 [] [] [] [(68, 0, 8, I 35)]
noncomputable def m729 : Memo := ⟨[.ptr 68 0, I 34], h1450, .agg [IZ (-1), I 0, I 0, U 0, I 0, U 0, IZ (-1), I 0], h1451⟩
theorem m729_run : ranTo (evCall (cxX Tryz.prog bad [] [] [(172, isFn 325)]) 1000 60 10 m729.args m729.h) m729.v m729.h' = true := by kernel_rfl
theorem m729_ok {σ : Nat → Int} {W0 : World} (hL : L0 W0) : MemoOk Tryz.prog 1023 σ W0 10 m729 := memo_ok fit (Known2.nil σ) (FnsOk.cons (ext_is hL) (FnsOk.nil)) m729_run
noncomputable def h1452 : H := hUpd h1451 5135 [] [] []
noncomputable def h1453 : H := hUpc h1436 5136 [] [] [] [(68, 0, 8, I 36)]
noncomputable def m730 : Memo := ⟨[.ptr 68 0, I 35], h1452, .agg [IZ (-1), I 0, I 0, U 0, I 0, U 0, IZ (-1), I 0], h1453⟩
theorem m730_run : ranTo (evCall (cxX Tryz.prog bad [] [] [(172, isFn 325)]) 1000 60 10 m730.args m730.h) m730.v m730.h' = true := by kernel_rfl
theorem m730_ok {σ : Nat → Int} {W0 : World} (hL : L0 W0) : MemoOk Tryz.prog 1023 σ W0 10 m730 := memo_ok fit (Known2.nil σ) (FnsOk.cons (ext_is hL) (FnsOk.nil)) m730_run
noncomputable def h1454 : H := hUpd h1453 5137 [] [] []
noncomputable def h1455 : H := hUpc h1436 5138 [] [] [] [(68, 0, 8, I 37)]
noncomputable def m731 : Memo := ⟨[.ptr 68 0, I 36], h1454, .agg [IZ (-1), I 0, I 0, U 0, I 0, U 0, IZ (-1), I 0], h1455⟩
theorem m731_run : ranTo (evCall (cxX Tryz.prog bad [] [] [(172, isFn 325)]) 1000 60 10 m731.args m731.h) m731.v m731.h' = true := by kernel_rfl
theorem m731_ok {σ : Nat → Int} {W0 : World} (hL : L0 W0) : MemoOk Tryz.prog 1023 σ W0 10 m731 := memo_ok fit (Known2.nil σ) (FnsOk.cons (ext_is hL) (FnsOk.nil)) m731_run
noncomputable def h1456 : H := hUpd h1455 5139 [] [] []
noncomputable def h1457 : H := hUpc h1436 5140 [] [] [] [(68, 0, 8, I 38)]
noncomputable def m732 : Memo := ⟨[.ptr 68 0, I 37], h1456, .agg [IZ (-1), I 0, I 0, U 0, I 0, U 0, IZ (-1), I 0], h1457⟩
theorem m732_run : ranTo (evCall (cxX Tryz.prog bad [] [] [(172, isFn 325)]) 1000 60 10 m732.args m732.h) m732.v m732.h' = true := by kernel_rfl
theorem m732_ok {σ : Nat → Int} {W0 : World} (hL : L0 W0) : MemoOk Tryz.prog 1023 σ W0 10 m732 := memo_ok fit (Known2.nil σ) (FnsOk.cons (ext_is hL) (FnsOk.nil)) m732_run
noncomputable def h1458 : H := hUpd h1457 5141 [] [] []
noncomputable def h1459 : H := hUpc h1436 5142 [] [] [] [(68, 0, 8, I 39)]
noncomputable def m733 : Memo := ⟨[.ptr 68 0, I 38], h1458, .agg [IZ (-1), I 0, I 0, U 0, I 0, U 0, IZ (-1), I 0], h1459⟩
theorem m733_run : ranTo (evCall (cxX Tryz.prog bad [] [] [(172, isFn 325)]) 1000 60 10 m733.args m733.h) m733.v m733.h' = true := by kernel_rfl
theorem m733_ok {σ : Nat → Int} {W0 : World} (hL : L0 W0) : MemoOk Tryz.prog 1023 σ W0 10 m733 := memo_ok fit (Known2.nil σ) (FnsOk.cons (ext_is hL) (FnsOk.nil)) m733_run
theorem run26 : lawF Tryz.prog bad [] ((6, numExtE [(0, 30, .var 2), (1, 40, .var 3)]) :: (9, frameFn [m5]) :: (10, frameFn [m45, m84, m122, m159, m195, m230, m264, m297, m329, m360, m390, m419, m447, m474, m500, m525, m549, m572, m594, m615, m635, m654, m672, m689, m705, m720, m721, m722, m723, m724, m725, m726, m727, m728, m729, m730, m731, m732, m733]) :: q0) 1000 60 4 [.int .i64 (.var 0), .int .i64 (.var 1)] [((-9223372036854775808), 9223372036854775807), ((-9223372036854775808), 9223372036854775807), (26, 26), (0, 39)] (peels 39 3) (sentH 325 10 errTab) = true := by kernel_rfl
theorem case26 {σ : Nat → Int} {W : World} (hL : L0 W) (hk : Known2 σ [((-9223372036854775808), 9223372036854775807), ((-9223372036854775808), 9223372036854775807), (26, 26), (0, 39)] []) (hT : TabOk Tryz.prog bad 6 σ [(0, 30, .var 2), (1, 40, .var 3)]) {xs : Array Value} (hv : ∀ ρ, VRs σ ρ [.int .i64 (.var 0), .int .i64 (.var 1)] xs.toList) : Calls Tryz.prog 4 xs W fun e w' => e = .returned (.bool true) ∧ Below W.heap.size W w' := by
  obtain ⟨ads, h1, h2, h3⟩ := errs_sents hL
  exact law_case_f fit h1 h2 h3 errs_all errs_lt (by kernel_rfl) hk (FnsOk.cons (hT.ok fit) (FnsOk.cons (frame_fn_ok (all_cons (m5_ok hL (hk.relax (r' := [((-9223372036854775808), 9223372036854775807), ((-9223372036854775808), 9223372036854775807), (0, 29), (0, 39)]) (by kernel_rfl))) (all_nil))) (FnsOk.cons (frame_fn_ok (all_cons (m45_ok hL (hk.relax (r' := [((-9223372036854775808), 9223372036854775807), ((-9223372036854775808), 9223372036854775807), (1, 29), (0, 39)]) (by kernel_rfl))) (all_cons (m84_ok hL (hk.relax (r' := [((-9223372036854775808), 9223372036854775807), ((-9223372036854775808), 9223372036854775807), (2, 29), (0, 39)]) (by kernel_rfl))) (all_cons (m122_ok hL (hk.relax (r' := [((-9223372036854775808), 9223372036854775807), ((-9223372036854775808), 9223372036854775807), (3, 29), (0, 39)]) (by kernel_rfl))) (all_cons (m159_ok hL (hk.relax (r' := [((-9223372036854775808), 9223372036854775807), ((-9223372036854775808), 9223372036854775807), (4, 29), (0, 39)]) (by kernel_rfl))) (all_cons (m195_ok hL (hk.relax (r' := [((-9223372036854775808), 9223372036854775807), ((-9223372036854775808), 9223372036854775807), (5, 29), (0, 39)]) (by kernel_rfl))) (all_cons (m230_ok hL (hk.relax (r' := [((-9223372036854775808), 9223372036854775807), ((-9223372036854775808), 9223372036854775807), (6, 29), (0, 39)]) (by kernel_rfl))) (all_cons (m264_ok hL (hk.relax (r' := [((-9223372036854775808), 9223372036854775807), ((-9223372036854775808), 9223372036854775807), (7, 29), (0, 39)]) (by kernel_rfl))) (all_cons (m297_ok hL (hk.relax (r' := [((-9223372036854775808), 9223372036854775807), ((-9223372036854775808), 9223372036854775807), (8, 29), (0, 39)]) (by kernel_rfl))) (all_cons (m329_ok hL (hk.relax (r' := [((-9223372036854775808), 9223372036854775807), ((-9223372036854775808), 9223372036854775807), (9, 29), (0, 39)]) (by kernel_rfl))) (all_cons (m360_ok hL (hk.relax (r' := [((-9223372036854775808), 9223372036854775807), ((-9223372036854775808), 9223372036854775807), (10, 29), (0, 39)]) (by kernel_rfl))) (all_cons (m390_ok hL (hk.relax (r' := [((-9223372036854775808), 9223372036854775807), ((-9223372036854775808), 9223372036854775807), (11, 29), (0, 39)]) (by kernel_rfl))) (all_cons (m419_ok hL (hk.relax (r' := [((-9223372036854775808), 9223372036854775807), ((-9223372036854775808), 9223372036854775807), (12, 29), (0, 39)]) (by kernel_rfl))) (all_cons (m447_ok hL (hk.relax (r' := [((-9223372036854775808), 9223372036854775807), ((-9223372036854775808), 9223372036854775807), (13, 29), (0, 39)]) (by kernel_rfl))) (all_cons (m474_ok hL (hk.relax (r' := [((-9223372036854775808), 9223372036854775807), ((-9223372036854775808), 9223372036854775807), (14, 29), (0, 39)]) (by kernel_rfl))) (all_cons (m500_ok hL (hk.relax (r' := [((-9223372036854775808), 9223372036854775807), ((-9223372036854775808), 9223372036854775807), (15, 29), (0, 39)]) (by kernel_rfl))) (all_cons (m525_ok hL (hk.relax (r' := [((-9223372036854775808), 9223372036854775807), ((-9223372036854775808), 9223372036854775807), (16, 29), (0, 39)]) (by kernel_rfl))) (all_cons (m549_ok hL (hk.relax (r' := [((-9223372036854775808), 9223372036854775807), ((-9223372036854775808), 9223372036854775807), (17, 29), (0, 39)]) (by kernel_rfl))) (all_cons (m572_ok hL (hk.relax (r' := [((-9223372036854775808), 9223372036854775807), ((-9223372036854775808), 9223372036854775807), (18, 29), (0, 39)]) (by kernel_rfl))) (all_cons (m594_ok hL (hk.relax (r' := [((-9223372036854775808), 9223372036854775807), ((-9223372036854775808), 9223372036854775807), (19, 29), (0, 39)]) (by kernel_rfl))) (all_cons (m615_ok hL (hk.relax (r' := [((-9223372036854775808), 9223372036854775807), ((-9223372036854775808), 9223372036854775807), (20, 29), (0, 39)]) (by kernel_rfl))) (all_cons (m635_ok hL (hk.relax (r' := [((-9223372036854775808), 9223372036854775807), ((-9223372036854775808), 9223372036854775807), (21, 29), (0, 39)]) (by kernel_rfl))) (all_cons (m654_ok hL (hk.relax (r' := [((-9223372036854775808), 9223372036854775807), ((-9223372036854775808), 9223372036854775807), (22, 29), (0, 39)]) (by kernel_rfl))) (all_cons (m672_ok hL (hk.relax (r' := [((-9223372036854775808), 9223372036854775807), ((-9223372036854775808), 9223372036854775807), (23, 29), (0, 39)]) (by kernel_rfl))) (all_cons (m689_ok hL (hk.relax (r' := [((-9223372036854775808), 9223372036854775807), ((-9223372036854775808), 9223372036854775807), (24, 29), (0, 39)]) (by kernel_rfl))) (all_cons (m705_ok hL (hk.relax (r' := [((-9223372036854775808), 9223372036854775807), ((-9223372036854775808), 9223372036854775807), (25, 29), (0, 39)]) (by kernel_rfl))) (all_cons (m720_ok hL (hk.relax (r' := [((-9223372036854775808), 9223372036854775807), ((-9223372036854775808), 9223372036854775807), (26, 29), (0, 39)]) (by kernel_rfl))) (all_cons (m721_ok hL hk) (all_cons (m722_ok hL) (all_cons (m723_ok hL) (all_cons (m724_ok hL) (all_cons (m725_ok hL) (all_cons (m726_ok hL) (all_cons (m727_ok hL) (all_cons (m728_ok hL) (all_cons (m729_ok hL) (all_cons (m730_ok hL) (all_cons (m731_ok hL) (all_cons (m732_ok hL) (all_cons (m733_ok hL) (all_nil))))))))))))))))))))))))))))))))))))))))) ((q0_ok hL))))) hv run26
noncomputable def h1460 : H := hUpd h1433 5000 [] [] []
noncomputable def h1461 : H := hUpc h1432 5169 [] [] [(30, 0, [I 16, .slice 663 0 1 1 10 false, I 26]),
  (56, 0, [IZ (-1), .int .i64 (.sub (.var 2) (.lit 27))])] [(68, 0, 8, I 27)]
noncomputable def m734 : Memo := ⟨[.ptr 68 0, I 26], h1460, .agg [I 0, I 3, I 0, U 0, I 0, U 0, IZ (-1), I 0], h1461⟩
theorem m734_run : ranTo (evCall (cxX Tryz.prog bad [((-9223372036854775808), 9223372036854775807), ((-9223372036854775808), 9223372036854775807), (27, 29), (0, 39)] [] [(51, pureFn [p4, p2, p3]), (172, isFn 325)]) 1000 60 10 m734.args m734.h) m734.v m734.h' = true := by kernel_rfl
theorem m734_ok {σ : Nat → Int} {W0 : World} (hL : L0 W0) (hk : Known2 σ [((-9223372036854775808), 9223372036854775807), ((-9223372036854775808), 9223372036854775807), (27, 29), (0, 39)] []) : MemoOk Tryz.prog 1023 σ W0 10 m734 := memo_ok fit hk (FnsOk.cons (pure_fn_ok (all_cons (p4_ok hL) (all_cons (p2_ok hL) (all_cons (p3_ok hL) (all_nil))))) (FnsOk.cons (ext_is hL) (FnsOk.nil))) m734_run
noncomputable def h1462 : H := hUpd h1461 5170 [27] [] []
noncomputable def h1463 : H := hUpc h1462 5288 [] [] [(67, 0, [.slice 365 0 0 1 1 false])] [(34, 0, 9, I 4), (34, 0, 10, I 6), (68, 0, 8, I 28)]
noncomputable def m735 : Memo := ⟨[.ptr 68 0, I 27], h1462, .agg [I 0, I 5, I 0, U 0, I 0, U 0, IZ (-1), I 6], h1463⟩
theorem m735_run : ranTo (evCall (cxX Tryz.prog bad [((-9223372036854775808), 9223372036854775807), ((-9223372036854775808), 9223372036854775807), (27, 27), (0, 39)] [] [(51, pureFn [p4, p2, p3]), (172, isFn 325)]) 1000 60 10 m735.args m735.h) m735.v m735.h' = true := by kernel_rfl
theorem m735_ok {σ : Nat → Int} {W0 : World} (hL : L0 W0) (hk : Known2 σ [((-9223372036854775808), 9223372036854775807), ((-9223372036854775808), 9223372036854775807), (27, 27), (0, 39)] []) : MemoOk Tryz.prog 1023 σ W0 10 m735 := memo_ok fit hk (FnsOk.cons (pure_fn_ok (all_cons (p4_ok hL) (all_cons (p2_ok hL) (all_cons (p3_ok hL) (all_nil))))) (FnsOk.cons (ext_is hL) (FnsOk.nil))) m735_run
noncomputable def h1464 : H := hUpd h1463 5289 [34, 56] [] []
noncomputable def h1465 : H := hUpc h1464 5290 [] [] [] [(68, 0, 8, I 29)]
noncomputable def m736 : Memo := ⟨[.ptr 68 0, I 28], h1464, .agg [IZ (-1), I 0, I 0, U 0, I 0, U 0, IZ (-1), I 0], h1465⟩
theorem m736_run : ranTo (evCall (cxX Tryz.prog bad [] [] [(172, isFn 325)]) 1000 60 10 m736.args m736.h) m736.v m736.h' = true := by kernel_rfl
theorem m736_ok {σ : Nat → Int} {W0 : World} (hL : L0 W0) : MemoOk Tryz.prog 1023 σ W0 10 m736 := memo_ok fit (Known2.nil σ) (FnsOk.cons (ext_is hL) (FnsOk.nil)) m736_run
noncomputable def h1466 : H := hUpd h1465 5291 [] [] []
noncomputable def h1467 : H := hUpc h1464 5292 [] [] [] [(68, 0, 8, I 30)]
noncomputable def m737 : Memo := ⟨[.ptr 68 0, I 29], h1466, .agg [IZ (-1), I 0, I 0, U 0, I 0, U 0, IZ (-1), I 0], h1467⟩
theorem m737_run : ranTo (evCall (cxX Tryz.prog bad [] [] [(172, isFn 325)]) 1000 60 10 m737.args m737.h) m737.v m737.h' = true := by kernel_rfl
theorem m737_ok {σ : Nat → Int} {W0 : World} (hL : L0 W0) : MemoOk Tryz.prog 1023 σ W0 10 m737 := memo_ok fit (Known2.nil σ) (FnsOk.cons (ext_is hL) (FnsOk.nil)) m737_run
noncomputable def h1468 : H := hUpd h1467 5293 [] [] []
noncomputable def h1469 : H := hUpc h1464 5294 [] [] [] [(68, 0, 8, I 31)]
noncomputable def m738 : Memo := ⟨[.ptr 68 0, I 30], h1468, .agg [IZ (-1), I 0, I 0, U 0, I 0, U 0, IZ (-1), I 0], h1469⟩
theorem m738_run : ranTo (evCall (cxX Tryz.prog bad [] [] [(172, isFn 325)]) 1000 60 10 m738.args m738.h) m738.v m738.h' = true := by kernel_rfl
theorem m738_ok {σ : Nat → Int} {W0 : World} (hL : L0 W0) : MemoOk Tryz.prog 1023 σ W0 10 m738 := memo_ok fit (Known2.nil σ) (FnsOk.cons (ext_is hL) (FnsOk.nil)) m738_run
noncomputable def h1470 : H := hUpd h1469 5295 [] [] []
noncomputable def h1471 : H := hUpc h1464 5296 [] [] [] [(68, 0, 8, I 32)]
noncomputable def m739 : Memo := ⟨[.ptr 68 0, I 31], h1470, .agg [IZ (-1), I 0, I 0, U 0, I 0, U 0, IZ (-1), I 0], h1471⟩
theorem m739_run : ranTo (evCall (cxX Tryz.prog bad [] [] [(172, isFn 325)]) 1000 60 10 m739.args m739.h) m739.v m739.h' = true := by kernel_rfl
theorem m739_ok {σ : Nat → Int} {W0 : World} (hL : L0 W0) : MemoOk Tryz.prog 1023 σ W0 10 m739 := memo_ok fit (Known2.nil σ) (FnsOk.cons (ext_is hL) (FnsOk.nil)) m739_run
noncomputable def h1472 : H := hUpd h1471 5297 [] [] []
noncomputable def h1473 : H := hUpc h1464 5298 [] [] [] [(68, 0, 8, I 33)]
noncomputable def m740 : Memo := ⟨[.ptr 68 0, I 32], h1472, .agg [IZ (-1), I 0, I 0, U 0, I 0, U 0, IZ (-1), I 0], h1473⟩
theorem m740_run : ranTo (evCall (cxX Tryz.prog bad [] [] [(172, isFn 325)]) 1000 60 10 m740.args m740.h) m740.v m740.h' = true := by kernel_rfl
theorem m740_ok {σ : Nat → Int} {W0 : World} (hL : L0 W0) : MemoOk Tryz.prog 1023 σ W0 10 m740 := memo_ok fit (Known2.nil σ) (FnsOk.cons (ext_is hL) (FnsOk.nil)) m740_run
noncomputable def h1474 : H := hUpd h1473 5299 [] [] []
noncomputable def h1475 : H := hUpc h1464 5300 [] [] [] [(68, 0, 8, I 34)]
noncomputable def m741 : Memo := ⟨[.ptr 68 0, I 33], h1474, .agg [IZ (-1), I 0, I 0, U 0, I 0, U 0, IZ (-1), I 0], h1475⟩
theorem m741_run : ranTo (evCall (cxX Tryz.prog bad [] [] [(172, isFn 325)]) 1000 60 10 m741.args m741.h) m741.v m741.h' = true := by kernel_rfl
theorem m741_ok {σ : Nat → Int} {W0 : World} (hL : L0 W0) : MemoOk Tryz.prog 1023 σ W0 10 m741 := memo_ok fit (Known2.nil σ) (FnsOk.cons (ext_is hL) (FnsOk.nil)) m741_run
noncomputable def h1476 : H := hUpd h1475 5301 [] [] []
noncomputable def h1477 : H := hUpc h1464 5302 [] [] [] [(68, 0, 8, I 35)]
noncomputable def m742 : Memo := ⟨[.ptr 68 0, I 34], h1476, .agg [IZ (-1), I 0, I 0, U 0, I 0, U 0, IZ (-1), I 0], h1477⟩
theorem m742_run : ranTo (evCall (cxX Tryz.prog bad [] [] [(172, isFn 325)]) 1000 60 10 m742.args m742.h) m742.v m742.h' = true := by kernel_rfl
theorem m742_ok {σ : Nat → Int} {W0 : World} (hL : L0 W0) : MemoOk Tryz.prog 1023 σ W0 10 m742 := memo_ok fit (Known2.nil σ) (FnsOk.cons (ext_is hL) (FnsOk.nil)) m742_run
noncomputable def h1478 : H := hUpd h1477 5303 [] [] []
noncomputable def h1479 : H := hUpc h1464 5304 [] [] [] [(68, 0, 8, I 36)]
noncomputable def m743 : Memo := ⟨[.ptr 68 0, I 35], h1478, .agg [IZ (-1), I 0, I 0, U 0, I 0, U 0, IZ (-1), I 0], h1479⟩
theorem m743_run : ranTo (evCall (cxX Tryz.prog bad [] [] [(172, isFn 325)]) 1000 60 10 m743.args m743.h) m743.v m743.h' = true := by kernel_rfl
theorem m743_ok {σ : Nat → Int} {W0 : World} (hL : L0 W0) : MemoOk Tryz.prog 1023 σ W0 10 m743 := memo_ok fit (Known2.nil σ) (FnsOk.cons (ext_is hL) (FnsOk.nil)) m743_run
noncomputable def h1480 : H := hUpd h1479 5305 [] [] []
noncomputable def h1481 : H := hUpc h1464 5306 [] [] [] [(68, 0, 8, I 37)]
noncomputable def m744 : Memo := ⟨[.ptr 68 0, I 36], h1480, .agg [IZ (-1), I 0, I 0, U 0, I 0, U 0, IZ (-1), I 0], h1481⟩
theorem m744_run : ranTo (evCall (cxX Tryz.prog bad [] [] [(172, isFn 325)]) 1000 60 10 m744.args m744.h) m744.v m744.h' = true := by kernel_rfl
theorem m744_ok {σ : Nat → Int} {W0 : World} (hL : L0 W0) : MemoOk Tryz.prog 1023 σ W0 10 m744 := memo_ok fit (Known2.nil σ) (FnsOk.cons (ext_is hL) (FnsOk.nil)) m744_run
noncomputable def h1482 : H := hUpd h1481 5307 [] [] []
noncomputable def h1483 : H := hUpc h1464 5308 [] [] [] [(68, 0, 8, I 38)]
noncomputable def m745 : Memo := ⟨[.ptr 68 0, I 37], h1482, .agg [IZ (-1), I 0, I 0, U 0, I 0, U 0, IZ (-1), I 0], h1483⟩
theorem m745_run : ranTo (evCall (cxX Tryz.prog bad [] [] [(172, isFn 325)]) 1000 60 10 m745.args m745.h) m745.v m745.h' = true := by kernel_rfl
theorem m745_ok {σ : Nat → Int} {W0 : World} (hL : L0 W0) : MemoOk Tryz.prog 1023 σ W0 10 m745 := memo_ok fit (Known2.nil σ) (FnsOk.cons (ext_is hL) (FnsOk.nil)) m745_run
noncomputable def h1484 : H := hUpd h1483 5309 [] [] []
noncomputable def h1485 : H := hUpc h1464 5310 [] [] [] [(68, 0, 8, I 39)]
noncomputable def m746 : Memo := ⟨[.ptr 68 0, I 38], h1484, .agg [IZ (-1), I 0, I 0, U 0, I 0, U 0, IZ (-1), I 0], h1485⟩
theorem m746_run : ranTo (evCall (cxX Tryz.prog bad [] [] [(172, isFn 325)]) 1000 60 10 m746.args m746.h) m746.v m746.h' = true := by kernel_rfl
theorem m746_ok {σ : Nat → Int} {W0 : World} (hL : L0 W0) : MemoOk Tryz.prog 1023 σ W0 10 m746 := memo_ok fit (Known2.nil σ) (FnsOk.cons (ext_is hL) (FnsOk.nil)) m746_run
theorem run27 : lawF Tryz.prog bad [] ((6, numExtE [(0, 30, .var 2), (1, 40, .var 3)]) :: (9, frameFn [m5]) :: (10, frameFn [m45, m84, m122, m159, m195, m230, m264, m297, m329, m360, m390, m419, m447, m474, m500, m525, m549, m572, m594, m615, m635, m654, m672, m689, m705, m720, m734, m735, m736, m737, m738, m739, m740, m741, m742, m743, m744, m745, m746]) :: q0) 1000 60 4 [.int .i64 (.var 0), .int .i64 (.var 1)] [((-9223372036854775808), 9223372036854775807), ((-9223372036854775808), 9223372036854775807), (27, 27), (0, 39)] (peels 39 3) (sentH 325 10 errTab) = true := by kernel_rfl
theorem case27 {σ : Nat → Int} {W : World} (hL : L0 W) (hk : Known2 σ [((-9223372036854775808), 9223372036854775807), ((-9223372036854775808), 9223372036854775807), (27, 27), (0, 39)] []) (hT : TabOk Tryz.prog bad 6 σ [(0, 30, .var 2), (1, 40, .var 3)]) {xs : Array Value} (hv : ∀ ρ, VRs σ ρ [.int .i64 (.var 0), .int .i64 (.var 1)] xs.toList) : Calls Tryz.prog 4 xs W fun e w' => e = .returned (.bool true) ∧ Below W.heap.size W w' := by
  obtain ⟨ads, h1, h2, h3⟩ := errs_sents hL
  exact law_case_f fit h1 h2 h3 errs_all errs_lt (by kernel_rfl) hk (FnsOk.cons (hT.ok fit) (FnsOk.cons (frame_fn_ok (all_cons (m5_ok hL (hk.relax (r' := [((-9223372036854775808), 9223372036854775807), ((-9223372036854775808), 9223372036854775807), (0, 29), (0, 39)]) (by kernel_rfl))) (all_nil))) (FnsOk.cons (frame_fn_ok (all_cons (m45_ok hL (hk.relax (r' := [((-9223372036854775808), 9223372036854775807), ((-9223372036854775808), 9223372036854775807), (1, 29), (0, 39)]) (by kernel_rfl))) (all_cons (m84_ok hL (hk.relax (r' := [((-9223372036854775808), 9223372036854775807), ((-9223372036854775808), 9223372036854775807), (2, 29), (0, 39)]) (by kernel_rfl))) (all_cons (m122_ok hL (hk.relax (r' := [((-9223372036854775808), 9223372036854775807), ((-9223372036854775808), 9223372036854775807), (3, 29), (0, 39)]) (by kernel_rfl))) (all_cons (m159_ok hL (hk.relax (r' := [((-9223372036854775808), 9223372036854775807), ((-9223372036854775808), 9223372036854775807), (4, 29), (0, 39)]) (by kernel_rfl))) (all_cons (m195_ok hL (hk.relax (r' := [((-9223372036854775808), 9223372036854775807), ((-9223372036854775808), 9223372036854775807), (5, 29), (0, 39)]) (by kernel_rfl))) (all_cons (m230_ok hL (hk.relax (r' := [((-9223372036854775808), 9223372036854775807), ((-9223372036854775808), 9223372036854775807), (6, 29), (0, 39)]) (by kernel_rfl))) (all_cons (m264_ok hL (hk.relax (r' := [((-9223372036854775808), 9223372036854775807), ((-9223372036854775808), 9223372036854775807), (7, 29), (0, 39)]) (by kernel_rfl))) (all_cons (m297_ok hL (hk.relax (r' := [((-9223372036854775808), 9223372036854775807), ((-9223372036854775808), 9223372036854775807), (8, 29), (0, 39)]) (by kernel_rfl))) (all_cons (m329_ok hL (hk.relax (r' := [((-9223372036854775808), 9223372036854775807), ((-9223372036854775808), 9223372036854775807), (9, 29), (0, 39)]) (by kernel_rfl))) (all_cons (m360_ok hL (hk.relax (r' := [((-9223372036854775808), 9223372036854775807), ((-9223372036854775808), 9223372036854775807), (10, 29), (0, 39)]) (by kernel_rfl))) (all_cons (m390_ok hL (hk.relax (r' := [((-9223372036854775808), 9223372036854775807), ((-9223372036854775808), 9223372036854775807), (11, 29), (0, 39)]) (by kernel_rfl))) (all_cons (m419_ok hL (hk.relax (r' := [((-9223372036854775808), 9223372036854775807), ((-9223372036854775808), 9223372036854775807), (12, 29), (0, 39)]) (by kernel_rfl))) (all_cons (m447_ok hL (hk.relax (r' := [((-9223372036854775808), 9223372036854775807), ((-9223372036854775808), 9223372036854775807), (13, 29), (0, 39)]) (by kernel_rfl))) (all_cons (m474_ok hL (hk.relax (r' := [((-9223372036854775808), 9223372036854775807), ((-9223372036854775808), 9223372036854775807), (14, 29), (0, 39)]) (by kernel_rfl))) (all_cons (m500_ok hL (hk.relax (r' := [((-9223372036854775808), 9223372036854775807), ((-9223372036854775808), 9223372036854775807), (15, 29), (0, 39)]) (by kernel_rfl))) (all_cons (m525_ok hL (hk.relax (r' := [((-9223372036854775808), 9223372036854775807), ((-9223372036854775808), 9223372036854775807), (16, 29), (0, 39)]) (by kernel_rfl))) (all_cons (m549_ok hL (hk.relax (r' := [((-9223372036854775808), 9223372036854775807), ((-9223372036854775808), 9223372036854775807), (17, 29), (0, 39)]) (by kernel_rfl))) (all_cons (m572_ok hL (hk.relax (r' := [((-9223372036854775808), 9223372036854775807), ((-9223372036854775808), 9223372036854775807), (18, 29), (0, 39)]) (by kernel_rfl))) (all_cons (m594_ok hL (hk.relax (r' := [((-9223372036854775808), 9223372036854775807), ((-9223372036854775808), 9223372036854775807), (19, 29), (0, 39)]) (by kernel_rfl))) (all_cons (m615_ok hL (hk.relax (r' := [((-9223372036854775808), 9223372036854775807), ((-9223372036854775808), 9223372036854775807), (20, 29), (0, 39)]) (by kernel_rfl))) (all_cons (m635_ok hL (hk.relax (r' := [((-9223372036854775808), 9223372036854775807), ((-9223372036854775808), 9223372036854775807), (21, 29), (0, 39)]) (by kernel_rfl))) (all_cons (m654_ok hL (hk.relax (r' := [((-9223372036854775808), 9223372036854775807), ((-9223372036854775808), 9223372036854775807), (22, 29), (0, 39)]) (by kernel_rfl))) (all_cons (m672_ok hL (hk.relax (r' := [((-9223372036854775808), 9223372036854775807), ((-9223372036854775808), 9223372036854775807), (23, 29), (0, 39)]) (by kernel_rfl))) (all_cons (m689_ok hL (hk.relax (r' := [((-9223372036854775808), 9223372036854775807), ((-9223372036854775808), 9223372036854775807), (24, 29), (0, 39)]) (by kernel_rfl))) (all_cons (m705_ok hL (hk.relax (r' := [((-9223372036854775808), 9223372036854775807), ((-9223372036854775808), 9223372036854775807), (25, 29), (0, 39)]) (by kernel_rfl))) (all_cons (m720_ok hL (hk.relax (r' := [((-9223372036854775808), 9223372036854775807), ((-9223372036854775808), 9223372036854775807), (26, 29), (0, 39)]) (by kernel_rfl))) (all_cons (m734_ok hL (hk.relax (r' := [((-9223372036854775808), 9223372036854775807), ((-9223372036854775808), 9223372036854775807), (27, 29), (0, 39)]) (by kernel_rfl))) (all_cons (m735_ok hL hk) (all_cons (m736_ok hL) (all_cons (m737_ok hL) (all_cons (m738_ok hL) (all_cons (m739_ok hL) (all_cons (m740_ok hL) (all_cons (m741_ok hL) (all_cons (m742_ok hL) (all_cons (m743_ok hL) (all_cons (m744_ok hL) (all_cons (m745_ok hL) (all_cons (m746_ok hL) (all_nil))))))))))))))))))))))))))))))))))))))))) ((q0_ok hL))))) hv run27
noncomputable def h1486 : H := hUpd h1461 5170 [] [] []
noncomputable def h1487 : H := hUpc h1460 5339 [] [] [(30, 0, [I 16, .slice 663 0 1 1 10 false, I 27]),
  (56, 0, [IZ (-1), .int .i64 (.sub (.var 2) (.lit 28))])] [(68, 0, 8, I 28)]
noncomputable def m747 : Memo := ⟨[.ptr 68 0, I 27], h1486, .agg [I 0, I 1, I 0, U 0, I 0, U 0, IZ (-1), I 0], h1487⟩
theorem m747_run : ranTo (evCall (cxX Tryz.prog bad [((-9223372036854775808), 9223372036854775807), ((-9223372036854775808), 9223372036854775807), (28, 29), (0, 39)] [] [(51, pureFn [p4, p2, p3]), (172, isFn 325)]) 1000 60 10 m747.args m747.h) m747.v m747.h' = true := by kernel_rfl
theorem m747_ok {σ : Nat → Int} {W0 : World} (hL : L0 W0) (hk : Known2 σ [((-9223372036854775808), 9223372036854775807), ((-9223372036854775808), 9223372036854775807), (28, 29), (0, 39)] []) : MemoOk Tryz.prog 1023 σ W0 10 m747 := memo_ok fit hk (FnsOk.cons (pure_fn_ok (all_cons (p4_ok hL) (all_cons (p2_ok hL) (all_cons (p3_ok hL) (all_nil))))) (FnsOk.cons (ext_is hL) (FnsOk.nil))) m747_run
noncomputable def h1488 : H := hUpd h1487 5340 [27] [] []
noncomputable def h1489 : H := hUpc h1488 5458 [] [] [(67, 0, [.slice 365 0 0 1 1 false])] [(34, 0, 9, I 4), (34, 0, 10, I 6), (68, 0, 8, I 29)]
noncomputable def m748 : Memo := ⟨[.ptr 68 0, I 28], h1488, .agg [I 0, I 5, I 0, U 0, I 0, U 0, IZ (-1), I 6], h1489⟩
theorem m748_run : ranTo (evCall (cxX Tryz.prog bad [((-9223372036854775808), 9223372036854775807), ((-9223372036854775808), 9223372036854775807), (28, 28), (0, 39)] [] [(51, pureFn [p4, p2, p3]), (172, isFn 325)]) 1000 60 10 m748.args m748.h) m748.v m748.h' = true := by kernel_rfl
theorem m748_ok {σ : Nat → Int} {W0 : World} (hL : L0 W0) (hk : Known2 σ [((-9223372036854775808), 9223372036854775807), ((-9223372036854775808), 9223372036854775807), (28, 28), (0, 39)] []) : MemoOk Tryz.prog 1023 σ W0 10 m748 := memo_ok fit hk (FnsOk.cons (pure_fn_ok (all_cons (p4_ok hL) (all_cons (p2_ok hL) (all_cons (p3_ok hL) (all_nil))))) (FnsOk.cons (ext_is hL) (FnsOk.nil))) m748_run
noncomputable def h1490 : H := hUpd h1489 5459 [34, 56] [] []
noncomputable def h1491 : H := hUpc h1490 5460 [] [] [] [(68, 0, 8, I 30)]
noncomputable def m749 : Memo := ⟨[.ptr 68 0, I 29], h1490, .agg [IZ (-1), I 0, I 0, U 0, I 0, U 0, IZ (-1), I 0], h1491⟩
theorem m749_run : ranTo (evCall (cxX Tryz.prog bad [] [] [(172, isFn 325)]) 1000 60 10 m749.args m749.h) m749.v m749.h' = true := by kernel_rfl
theorem m749_ok {σ : Nat → Int} {W0 : World} (hL : L0 W0) : MemoOk Tryz.prog 1023 σ W0 10 m749 := memo_ok fit (Known2.nil σ) (FnsOk.cons (ext_is hL) (FnsOk.nil)) m749_run
noncomputable def h1492 : H := hUpd h1491 5461 [] [] []
noncomputable def h1493 : H := hUpc h1490 5462 [] [] [] [(68, 0, 8, I 31)]
noncomputable def m750 : Memo := ⟨[.ptr 68 0, I 30], h1492, .agg [IZ (-1), I 0, I 0, U 0, I 0, U 0, IZ (-1), I 0], h1493⟩
theorem m750_run : ranTo (evCall (cxX Tryz.prog bad [] [] [(172, isFn 325)]) 1000 60 10 m750.args m750.h) m750.v m750.h' = true := by kernel_rfl
theorem m750_ok {σ : Nat → Int} {W0 : World} (hL : L0 W0) : MemoOk Tryz.prog 1023 σ W0 10 m750 := memo_ok fit (Known2.nil σ) (FnsOk.cons (ext_is hL) (FnsOk.nil)) m750_run
noncomputable def h1494 : H := hUpd h1493 5463 [] [] []
noncomputable def h1495 : H := hUpc h1490 5464 [] [] [] [(68, 0, 8, I 32)]
noncomputable def m751 : Memo := ⟨[.ptr 68 0, I 31], h1494, .agg [IZ (-1), I 0, I 0, U 0, I 0, U 0, IZ (-1), I 0], h1495⟩
theorem m751_run : ranTo (evCall (cxX Tryz.prog bad [] [] [(172, isFn 325)]) 1000 60 10 m751.args m751.h) m751.v m751.h' = true := by kernel_rfl
theorem m751_ok {σ : Nat → Int} {W0 : World} (hL : L0 W0) : MemoOk Tryz.prog 1023 σ W0 10 m751 := memo_ok fit (Known2.nil σ) (FnsOk.cons (ext_is hL) (FnsOk.nil)) m751_run
noncomputable def h1496 : H := hUpd h1495 5465 [] [] []
noncomputable def h1497 : H := hUpc h1490 5466 [] [] [] [(68, 0, 8, I 33)]
noncomputable def m752 : Memo := ⟨[.ptr 68 0, I 32], h1496, .agg [IZ (-1), I 0, I 0, U 0, I 0, U 0, IZ (-1), I 0], h1497⟩
theorem m752_run : ranTo (evCall (cxX Tryz.prog bad [] [] [(172, isFn 325)]) 1000 60 10 m752.args m752.h) m752.v m752.h' = true := by kernel_rfl
theorem m752_ok {σ : Nat → Int} {W0 : World} (hL : L0 W0) : MemoOk Tryz.prog 1023 σ W0 10 m752 := memo_ok fit (Known2.nil σ) (FnsOk.cons (ext_is hL) (FnsOk.nil)) m752_run
noncomputable def h1498 : H := hUpd h1497 5467 [] [] []
noncomputable def h1499 : H := hUpc h1490 5468 [] [] [] [(68, 0, 8, I 34)]
noncomputable def m753 : Memo := ⟨[.ptr 68 0, I 33], h1498, .agg [IZ (-1), I 0, I 0, U 0, I 0, U 0, IZ (-1), I 0], h1499⟩
theorem m753_run : ranTo (evCall (cxX Tryz.prog bad [] [] [(172, isFn 325)]) 1000 60 10 m753.args m753.h) m753.v m753.h' = true := by kernel_rfl
theorem m753_ok {σ : Nat → Int} {W0 : World} (hL : L0 W0) : MemoOk Tryz.prog 1023 σ W0 10 m753 := memo_ok fit (Known2.nil σ) (FnsOk.cons (ext_is hL) (FnsOk.nil)) m753_run
noncomputable def h1500 : H := hUpd h1499 5469 [] [] []
noncomputable def h1501 : H := hUpc h1490 5470 [] [] [] [(68, 0, 8, I 35)]
noncomputable def m754 : Memo := ⟨[.ptr 68 0, I 34], h1500, .agg [IZ (-1), I 0, I 0, U 0, I 0, U 0, IZ (-1), I 0], h1501⟩
theorem m754_run : ranTo (evCall (cxX Tryz.prog bad [] [] [(172, isFn 325)]) 1000 60 10 m754.args m754.h) m754.v m754.h' = true := by kernel_rfl
theorem m754_ok {σ : Nat → Int} {W0 : World} (hL : L0 W0) : MemoOk Tryz.prog 1023 σ W0 10 m754 := memo_ok fit (Known2.nil σ) (FnsOk.cons (ext_is hL) (FnsOk.nil)) m754_run
noncomputable def h1502 : H := hUpd h1501 5471 [] [] []
noncomputable def h1503 : H := hUpc h1490 5472 [] [] [] [(68, 0, 8, I 36)]
noncomputable def m755 : Memo := ⟨[.ptr 68 0, I 35], h1502, .agg [IZ (-1), I 0, I 0, U 0, I 0, U 0, IZ (-1), I 0], h1503⟩
theorem m755_run : ranTo (evCall (cxX Tryz.prog bad [] [] [(172, isFn 325)]) 1000 60 10 m755.args m755.h) m755.v m755.h' = true := by kernel_rfl
theorem m755_ok {σ : Nat → Int} {W0 : World} (hL : L0 W0) : MemoOk Tryz.prog 1023 σ W0 10 m755 := memo_ok fit (Known2.nil σ) (FnsOk.cons (ext_is hL) (FnsOk.nil)) m755_run
noncomputable def h1504 : H := hUpd h1503 5473 [] [] []
noncomputable def h1505 : H := hUpc h1490 5474 [] [] [] [(68, 0, 8, I 37)]
noncomputable def m756 : Memo := ⟨[.ptr 68 0, I 36], h1504, .agg [IZ (-1), I 0, I 0, U 0, I 0, U 0, IZ (-1), I 0], h1505⟩
theorem m756_run : ranTo (evCall (cxX Tryz.prog bad [] [] [(172, isFn 325)]) 1000 60 10 m756.args m756.h) m756.v m756.h' = true := by kernel_rfl
theorem m756_ok {σ : Nat → Int} {W0 : World} (hL : L0 W0) : MemoOk Tryz.prog 1023 σ W0 10 m756 := memo_ok fit (Known2.nil σ) (FnsOk.cons (ext_is hL) (FnsOk.nil)) m756_run
noncomputable def h1506 : H := hUpd h1505 5475 [] [] []
noncomputable def h1507 : H := hUpc h1490 5476 [] [] [] [(68, 0, 8, I 38)]
noncomputable def m757 : Memo := ⟨[.ptr 68 0, I 37], h1506, .agg [IZ (-1), I 0, I 0, U 0, I 0, U 0, IZ (-1), I 0], h1507⟩
theorem m757_run : ranTo (evCall (cxX Tryz.prog bad [] [] [(172, isFn 325)]) 1000 60 10 m757.args m757.h) m757.v m757.h' = true := by kernel_rfl
theorem m757_ok {σ : Nat → Int} {W0 : World} (hL : L0 W0) : MemoOk Tryz.prog 1023 σ W0 10 m757 := memo_ok fit (Known2.nil σ) (FnsOk.cons (ext_is hL) (FnsOk.nil)) m757_run
noncomputable def h1508 : H := hUpd h1507 5477 [] [] []
noncomputable def h1509 : H := hUpc h1490 5478 [] [] [] [(68, 0, 8, I 39)]
noncomputable def m758 : Memo := ⟨[.ptr 68 0, I 38], h1508, .agg [IZ (-1), I 0, I 0, U 0, I 0, U 0, IZ (-1), I 0], h1509⟩
theorem m758_run : ranTo (evCall (cxX Tryz.prog bad [] [] [(172, isFn 325)]) 1000 60 10 m758.args m758.h) m758.v m758.h' = true := by kernel_rfl
theorem m758_ok {σ : Nat → Int} {W0 : World} (hL : L0 W0) : MemoOk Tryz.prog 1023 σ W0 10 m758 := memo_ok fit (Known2.nil σ) (FnsOk.cons (ext_is hL) (FnsOk.nil)) m758_run
theorem run28 : lawF Tryz.prog bad [] ((6, numExtE [(0, 30, .var 2), (1, 40, .var 3)]) :: (9, frameFn [m5]) :: (10, frameFn [m45, m84, m122, m159, m195, m230, m264, m297, m329, m360, m390, m419, m447, m474, m500, m525, m549, m572, m594, m615, m635, m654, m672, m689, m705, m720, m734, m747, m748, m749, m750, m751, m752, m753, m754, m755, m756, m757, m758]) :: q0) 1000 60 4 [.int .i64 (.var 0), .int .i64 (.var 1)] [((-9223372036854775808), 9223372036854775807), ((-9223372036854775808), 9223372036854775807), (28, 28), (0, 39)] (peels 39 3) (sentH 325 10 errTab) = true := by kernel_rfl
theorem case28 {σ : Nat → Int} {W : World} (hL : L0 W) (hk : Known2 σ [((-9223372036854775808), 9223372036854775807), ((-9223372036854775808), 9223372036854775807), (28, 28), (0, 39)] []) (hT : TabOk Tryz.prog bad 6 σ [(0, 30, .var 2), (1, 40, .var 3)]) {xs : Array Value} (hv : ∀ ρ, VRs σ ρ [.int .i64 (.var 0), .int .i64 (.var 1)] xs.toList) : Calls Tryz.prog 4 xs W fun e w' => e = .returned (.bool true) ∧ Below W.heap.size W w' := by
  obtain ⟨ads, h1, h2, h3⟩ := errs_sents hL
  exact law_case_f fit h1 h2 h3 errs_all errs_lt (by kernel_rfl) hk (FnsOk.cons (hT.ok fit) (FnsOk.cons (frame_fn_ok (all_cons (m5_ok hL (hk.relax (r' := [((-9223372036854775808), 9223372036854775807), ((-9223372036854775808), 9223372036854775807), (0, 29), (0, 39)]) (by kernel_rfl))) (all_nil))) (FnsOk.cons (frame_fn_ok (all_cons (m45_ok hL (hk.relax (r' := [((-9223372036854775808), 9223372036854775807), ((-9223372036854775808), 9223372036854775807), (1, 29), (0, 39)]) (by kernel_rfl))) (all_cons (m84_ok hL (hk.relax (r' := [((-9223372036854775808), 9223372036854775807), ((-9223372036854775808), 9223372036854775807), (2, 29), (0, 39)]) (by kernel_rfl))) (all_cons (m122_ok hL (hk.relax (r' := [((-9223372036854775808), 9223372036854775807), ((-9223372036854775808), 9223372036854775807), (3, 29), (0, 39)]) (by kernel_rfl))) (all_cons (m159_ok hL (hk.relax (r' := [((-9223372036854775808), 9223372036854775807), ((-9223372036854775808), 9223372036854775807), (4, 29), (0, 39)]) (by kernel_rfl))) (all_cons (m195_ok hL (hk.relax (r' := [((-9223372036854775808), 9223372036854775807), ((-9223372036854775808), 9223372036854775807), (5, 29), (0, 39)]) (by kernel_rfl))) (all_cons (m230_ok hL (hk.relax (r' := [((-9223372036854775808), 9223372036854775807), ((-9223372036854775808), 9223372036854775807), (6, 29), (0, 39)]) (by kernel_rfl))) (all_cons (m264_ok hL (hk.relax (r' := [((-9223372036854775808), 9223372036854775807), ((-9223372036854775808), 9223372036854775807), (7, 29), (0, 39)]) (by kernel_rfl))) (all_cons (m297_ok hL (hk.relax (r' := [((-9223372036854775808), 9223372036854775807), ((-9223372036854775808), 9223372036854775807), (8, 29), (0, 39)]) (by kernel_rfl))) (all_cons (m329_ok hL (hk.relax (r' := [((-9223372036854775808), 9223372036854775807), ((-9223372036854775808), 9223372036854775807), (9, 29), (0, 39)]) (by kernel_rfl))) (all_cons (m360_ok hL (hk.relax (r' := [((-9223372036854775808), 9223372036854775807), ((-9223372036854775808), 9223372036854775807), (10, 29), (0, 39)]) (by kernel_rfl))) (all_cons (m390_ok hL (hk.relax (r' := [((-9223372036854775808), 9223372036854775807), ((-9223372036854775808), 9223372036854775807), (11, 29), (0, 39)]) (by kernel_rfl))) (all_cons (m419_ok hL (hk.relax (r' := [((-9223372036854775808), 9223372036854775807), ((-9223372036854775808), 9223372036854775807), (12, 29), (0, 39)]) (by kernel_rfl))) (all_cons (m447_ok hL (hk.relax (r' := [((-9223372036854775808), 9223372036854775807), ((-9223372036854775808), 9223372036854775807), (13, 29), (0, 39)]) (by kernel_rfl))) (all_cons (m474_ok hL (hk.relax (r' := [((-9223372036854775808), 9223372036854775807), ((-9223372036854775808), 9223372036854775807), (14, 29), (0, 39)]) (by kernel_rfl))) (all_cons (m500_ok hL (hk.relax (r' := [((-9223372036854775808), 9223372036854775807), ((-9223372036854775808), 9223372036854775807), (15, 29), (0, 39)]) (by kernel_rfl))) (all_cons (m525_ok hL (hk.relax (r' := [((-9223372036854775808), 9223372036854775807), ((-9223372036854775808), 9223372036854775807), (16, 29), (0, 39)]) (by kernel_rfl))) (all_cons (m549_ok hL (hk.relax (r' := [((-9223372036854775808), 9223372036854775807), ((-9223372036854775808), 9223372036854775807), (17, 29), (0, 39)]) (by kernel_rfl))) (all_cons (m572_ok hL (hk.relax (r' := [((-9223372036854775808), 9223372036854775807), ((-9223372036854775808), 9223372036854775807), (18, 29), (0, 39)]) (by kernel_rfl))) (all_cons (m594_ok hL (hk.relax (r' := [((-9223372036854775808), 9223372036854775807), ((-9223372036854775808), 9223372036854775807), (19, 29), (0, 39)]) (by kernel_rfl))) (all_cons (m615_ok hL (hk.relax (r' := [((-9223372036854775808), 9223372036854775807), ((-9223372036854775808), 9223372036854775807), (20, 29), (0, 39)]) (by kernel_rfl))) (all_cons (m635_ok hL (hk.relax (r' := [((-9223372036854775808), 9223372036854775807), ((-9223372036854775808), 9223372036854775807), (21, 29), (0, 39)]) (by kernel_rfl))) (all_cons (m654_ok hL (hk.relax (r' := [((-9223372036854775808), 9223372036854775807), ((-9223372036854775808), 9223372036854775807), (22, 29), (0, 39)]) (by kernel_rfl))) (all_cons (m672_ok hL (hk.relax (r' := [((-9223372036854775808), 9223372036854775807), ((-9223372036854775808), 9223372036854775807), (23, 29), (0, 39)]) (by kernel_rfl))) (all_cons (m689_ok hL (hk.relax (r' := [((-9223372036854775808), 9223372036854775807), ((-9223372036854775808), 9223372036854775807), (24, 29), (0, 39)]) (by kernel_rfl))) (all_cons (m705_ok hL (hk.relax (r' := [((-9223372036854775808), 9223372036854775807), ((-9223372036854775808), 9223372036854775807), (25, 29), (0, 39)]) (by kernel_rfl))) (all_cons (m720_ok hL (hk.relax (r' := [((-9223372036854775808), 9223372036854775807), ((-9223372036854775808), 9223372036854775807), (26, 29), (0, 39)]) (by kernel_rfl))) (all_cons (m734_ok hL (hk.relax (r' := [((-9223372036854775808), 9223372036854775807), ((-9223372036854775808), 9223372036854775807), (27, 29), (0, 39)]) (by kernel_rfl))) (all_cons (m747_ok hL (hk.relax (r' := [((-9223372036854775808), 9223372036854775807), ((-9223372036854775808), 9223372036854775807), (28, 29), (0, 39)]) (by kernel_rfl))) (all_cons (m748_ok hL hk) (all_cons (m749_ok hL) (all_cons (m750_ok hL) (all_cons (m751_ok hL) (all_cons (m752_ok hL) (all_cons (m753_ok hL) (all_cons (m754_ok hL) (all_cons (m755_ok hL) (all_cons (m756_ok hL) (all_cons (m757_ok hL) (all_cons (m758_ok hL) (all_nil))))))))))))))))))))))))))))))))))))))))) ((q0_ok hL))))) hv run28
noncomputable def h1510 : H := hUpd h1487 5340 [] [] []
noncomputable def h1511 : H := hUpc h1486 5509 [] [] [(30, 0, [I 16, .slice 663 0 1 1 10 false, I 28]),
  (56, 0, [IZ (-1), I 0])] [(68, 0, 8, I 29)]
noncomputable def m759 : Memo := ⟨[.ptr 68 0, I 28], h1510, .agg [I 0, I 3, I 0, U 0, I 0, U 0, IZ (-1), I 0], h1511⟩
theorem m759_run : ranTo (evCall (cxX Tryz.prog bad [((-9223372036854775808), 9223372036854775807), ((-9223372036854775808), 9223372036854775807), (29, 29), (0, 39)] [] [(51, pureFn [p4, p2, p3]), (172, isFn 325)]) 1000 60 10 m759.args m759.h) m759.v m759.h' = true := by kernel_rfl
theorem m759_ok {σ : Nat → Int} {W0 : World} (hL : L0 W0) (hk : Known2 σ [((-9223372036854775808), 9223372036854775807), ((-9223372036854775808), 9223372036854775807), (29, 29), (0, 39)] []) : MemoOk Tryz.prog 1023 σ W0 10 m759 := memo_ok fit hk (FnsOk.cons (pure_fn_ok (all_cons (p4_ok hL) (all_cons (p2_ok hL) (all_cons (p3_ok hL) (all_nil))))) (FnsOk.cons (ext_is hL) (FnsOk.nil))) m759_run
noncomputable def h1512 : H := hUpd h1511 5510 [27] [] []
noncomputable def h1513 : H := hUpc h1512 5628 [] [] [(67, 0, [.slice 365 0 0 1 1 false])] [(34, 0, 9, I 4), (34, 0, 10, I 6), (68, 0, 8, I 30)]
noncomputable def m760 : Memo := ⟨[.ptr 68 0, I 29], h1512, .agg [I 0, I 5, I 0, U 0, I 0, U 0, IZ (-1), I 6], h1513⟩
theorem m760_run : ranTo (evCall (cxX Tryz.prog bad [] [] [(51, pureFn [p4, p2, p3]), (172, isFn 325)]) 1000 60 10 m760.args m760.h) m760.v m760.h' = true := by kernel_rfl
theorem m760_ok {σ : Nat → Int} {W0 : World} (hL : L0 W0) : MemoOk Tryz.prog 1023 σ W0 10 m760 := memo_ok fit (Known2.nil σ) (FnsOk.cons (pure_fn_ok (all_cons (p4_ok hL) (all_cons (p2_ok hL) (all_cons (p3_ok hL) (all_nil))))) (FnsOk.cons (ext_is hL) (FnsOk.nil))) m760_run
noncomputable def h1514 : H := hUpd h1513 5629 [34] [] []
noncomputable def h1515 : H := hUpc h1514 5630 [] [] [] [(68, 0, 8, I 31)]
noncomputable def m761 : Memo := ⟨[.ptr 68 0, I 30], h1514, .agg [IZ (-1), I 0, I 0, U 0, I 0, U 0, IZ (-1), I 0], h1515⟩
theorem m761_run : ranTo (evCall (cxX Tryz.prog bad [] [] [(172, isFn 325)]) 1000 60 10 m761.args m761.h) m761.v m761.h' = true := by kernel_rfl
theorem m761_ok {σ : Nat → Int} {W0 : World} (hL : L0 W0) : MemoOk Tryz.prog 1023 σ W0 10 m761 := memo_ok fit (Known2.nil σ) (FnsOk.cons (ext_is hL) (FnsOk.nil)) m761_run
noncomputable def h1516 : H := hUpd h1515 5631 [] [] []
noncomputable def h1517 : H := hUpc h1514 5632 [] [] [] [(68, 0, 8, I 32)]
noncomputable def m762 : Memo := ⟨[.ptr 68 0, I 31], h1516, .agg [IZ (-1), I 0, I 0, U 0, I 0, U 0, IZ (-1), I 0], h1517⟩
theorem m762_run : ranTo (evCall (cxX Tryz.prog bad [] [] [(172, isFn 325)]) 1000 60 10 m762.args m762.h) m762.v m762.h' = true := by kernel_rfl
theorem m762_ok {σ : Nat → Int} {W0 : World} (hL : L0 W0) : MemoOk Tryz.prog 1023 σ W0 10 m762 := memo_ok fit (Known2.nil σ) (FnsOk.cons (ext_is hL) (FnsOk.nil)) m762_run
noncomputable def h1518 : H := hUpd h1517 5633 [] [] []
noncomputable def h1519 : H := hUpc h1514 5634 [] [] [] [(68, 0, 8, I 33)]
noncomputable def m763 : Memo := ⟨[.ptr 68 0, I 32], h1518, .agg [IZ (-1), I 0, I 0, U 0, I 0, U 0, IZ (-1), I 0], h1519⟩
theorem m763_run : ranTo (evCall (cxX Tryz.prog bad [] [] [(172, isFn 325)]) 1000 60 10 m763.args m763.h) m763.v m763.h' = true := by kernel_rfl
theorem m763_ok {σ : Nat → Int} {W0 : World} (hL : L0 W0) : MemoOk Tryz.prog 1023 σ W0 10 m763 := memo_ok fit (Known2.nil σ) (FnsOk.cons (ext_is hL) (FnsOk.nil)) m763_run
noncomputable def h1520 : H := hUpd h1519 5635 [] [] []
noncomputable def h1521 : H := hUpc h1514 5636 [] [] [] [(68, 0, 8, I 34)]
noncomputable def m764 : Memo := ⟨[.ptr 68 0, I 33], h1520, .agg [IZ (-1), I 0, I 0, U 0, I 0, U 0, IZ (-1), I 0], h1521⟩
theorem m764_run : ranTo (evCall (cxX Tryz.prog bad [] [] [(172, isFn 325)]) 1000 60 10 m764.args m764.h) m764.v m764.h' = true := by kernel_rfl
theorem m764_ok {σ : Nat → Int} {W0 : World} (hL : L0 W0) : MemoOk Tryz.prog 1023 σ W0 10 m764 := memo_ok fit (Known2.nil σ) (FnsOk.cons (ext_is hL) (FnsOk.nil)) m764_run
noncomputable def h1522 : H := hUpd h1521 5637 [] [] []
noncomputable def h1523 : H := hUpc h1514 5638 [] [] [] [(68, 0, 8, I 35)]
noncomputable def m765 : Memo := ⟨[.ptr 68 0, I 34], h1522, .agg [IZ (-1), I 0, I 0, U 0, I 0, U 0, IZ (-1), I 0], h1523⟩
theorem m765_run : ranTo (evCall (cxX Tryz.prog bad [] [] [(172, isFn 325)]) 1000 60 10 m765.args m765.h) m765.v m765.h' = true := by kernel_rfl
theorem m765_ok {σ : Nat → Int} {W0 : World} (hL : L0 W0) : MemoOk Tryz.prog 1023 σ W0 10 m765 := memo_ok fit (Known2.nil σ) (FnsOk.cons (ext_is hL) (FnsOk.nil)) m765_run
noncomputable def h1524 : H := hUpd h1523 5639 [] [] []
noncomputable def h1525 : H := hUpc h1514 5640 [] [] [] [(68, 0, 8, I 36)]
noncomputable def m766 : Memo := ⟨[.ptr 68 0, I 35], h1524, .agg [IZ (-1), I 0, I 0, U 0, I 0, U 0, IZ (-1), I 0], h1525⟩
theorem m766_run : ranTo (evCall (cxX Tryz.prog bad [] [] [(172, isFn 325)]) 1000 60 10 m766.args m766.h) m766.v m766.h' = true := by kernel_rfl
theorem m766_ok {σ : Nat → Int} {W0 : World} (hL : L0 W0) : MemoOk Tryz.prog 1023 σ W0 10 m766 := memo_ok fit (Known2.nil σ) (FnsOk.cons (ext_is hL) (FnsOk.nil)) m766_run
noncomputable def h1526 : H := hUpd h1525 5641 [] [] []
noncomputable def h1527 : H := hUpc h1514 5642 [] [] [] [(68, 0, 8, I 37)]
noncomputable def m767 : Memo := ⟨[.ptr 68 0, I 36], h1526, .agg [IZ (-1), I 0, I 0, U 0, I 0, U 0, IZ (-1), I 0], h1527⟩
theorem m767_run : ranTo (evCall (cxX Tryz.prog bad [] [] [(172, isFn 325)]) 1000 60 10 m767.args m767.h) m767.v m767.h' = true := by kernel_rfl
theorem m767_ok {σ : Nat → Int} {W0 : World} (hL : L0 W0) : MemoOk Tryz.prog 1023 σ W0 10 m767 := memo_ok fit (Known2.nil σ) (FnsOk.cons (ext_is hL) (FnsOk.nil)) m767_run
noncomputable def h1528 : H := hUpd h1527 5643 [] [] []
noncomputable def h1529 : H := hUpc h1514 5644 [] [] [] [(68, 0, 8, I 38)]
noncomputable def m768 : Memo := ⟨[.ptr 68 0, I 37], h1528, .agg [IZ (-1), I 0, I 0, U 0, I 0, U 0, IZ (-1), I 0], h1529⟩
theorem m768_run : ranTo (evCall (cxX Tryz.prog bad [] [] [(172, isFn 325)]) 1000 60 10 m768.args m768.h) m768.v m768.h' = true := by kernel_rfl
theorem m768_ok {σ : Nat → Int} {W0 : World} (hL : L0 W0) : MemoOk Tryz.prog 1023 σ W0 10 m768 := memo_ok fit (Known2.nil σ) (FnsOk.cons (ext_is hL) (FnsOk.nil)) m768_run
noncomputable def h1530 : H := hUpd h1529 5645 [] [] []
noncomputable def h1531 : H := hUpc h1514 5646 [] [] [] [(68, 0, 8, I 39)]
noncomputable def m769 : Memo := ⟨[.ptr 68 0, I 38], h1530, .agg [IZ (-1), I 0, I 0, U 0, I 0, U 0, IZ (-1), I 0], h1531⟩
theorem m769_run : ranTo (evCall (cxX Tryz.prog bad [] [] [(172, isFn 325)]) 1000 60 10 m769.args m769.h) m769.v m769.h' = true := by kernel_rfl
theorem m769_ok {σ : Nat → Int} {W0 : World} (hL : L0 W0) : MemoOk Tryz.prog 1023 σ W0 10 m769 := memo_ok fit (Known2.nil σ) (FnsOk.cons (ext_is hL) (FnsOk.nil)) m769_run
theorem run29 : lawF Tryz.prog bad [] ((6, numExtE [(0, 30, .var 2), (1, 40, .var 3)]) :: (9, frameFn [m5]) :: (10, frameFn [m45, m84, m122, m159, m195, m230, m264, m297, m329, m360, m390, m419, m447, m474, m500, m525, m549, m572, m594, m615, m635, m654, m672, m689, m705, m720, m734, m747, m759, m760, m761, m762, m763, m764, m765, m766, m767, m768, m769]) :: q0) 1000 60 4 [.int .i64 (.var 0), .int .i64 (.var 1)] [((-9223372036854775808), 9223372036854775807), ((-9223372036854775808), 9223372036854775807), (29, 29), (0, 39)] (peels 39 3) (sentH 325 10 errTab) = true := by kernel_rfl
theorem case29 {σ : Nat → Int} {W : World} (hL : L0 W) (hk : Known2 σ [((-9223372036854775808), 9223372036854775807), ((-9223372036854775808), 9223372036854775807), (29, 29), (0, 39)] []) (hT : TabOk Tryz.prog bad 6 σ [(0, 30, .var 2), (1, 40, .var 3)]) {xs : Array Value} (hv : ∀ ρ, VRs σ ρ [.int .i64 (.var 0), .int .i64 (.var 1)] xs.toList) : Calls Tryz.prog 4 xs W fun e w' => e = .returned (.bool true) ∧ Below W.heap.size W w' := by
  obtain ⟨ads, h1, h2, h3⟩ := errs_sents hL
  exact law_case_f fit h1 h2 h3 errs_all errs_lt (by kernel_rfl) hk (FnsOk.cons (hT.ok fit) (FnsOk.cons (frame_fn_ok (all_cons (m5_ok hL (hk.relax (r' := [((-9223372036854775808), 9223372036854775807), ((-9223372036854775808), 9223372036854775807), (0, 29), (0, 39)]) (by kernel_rfl))) (all_nil))) (FnsOk.cons (frame_fn_ok (all_cons (m45_ok hL (hk.relax (r' := [((-9223372036854775808), 9223372036854775807), ((-9223372036854775808), 9223372036854775807), (1, 29), (0, 39)]) (by kernel_rfl))) (all_cons (m84_ok hL (hk.relax (r' := [((-9223372036854775808), 9223372036854775807), ((-9223372036854775808), 9223372036854775807), (2, 29), (0, 39)]) (by kernel_rfl))) (all_cons (m122_ok hL (hk.relax (r' := [((-9223372036854775808), 9223372036854775807), ((-9223372036854775808), 9223372036854775807), (3, 29), (0, 39)]) (by kernel_rfl))) (all_cons (m159_ok hL (hk.relax (r' := [((-9223372036854775808), 9223372036854775807), ((-9223372036854775808), 9223372036854775807), (4, 29), (0, 39)]) (by kernel_rfl))) (all_cons (m195_ok hL (hk.relax (r' := [((-9223372036854775808), 9223372036854775807), ((-9223372036854775808), 9223372036854775807), (5, 29), (0, 39)]) (by kernel_rfl))) (all_cons (m230_ok hL (hk.relax (r' := [((-9223372036854775808), 9223372036854775807), ((-9223372036854775808), 9223372036854775807), (6, 29), (0, 39)]) (by kernel_rfl))) (all_cons (m264_ok hL (hk.relax (r' := [((-9223372036854775808), 9223372036854775807), ((-9223372036854775808), 9223372036854775807), (7, 29), (0, 39)]) (by kernel_rfl))) (all_cons (m297_ok hL (hk.relax (r' := [((-9223372036854775808), 9223372036854775807), ((-9223372036854775808), 9223372036854775807), (8, 29), (0, 39)]) (by kernel_rfl))) (all_cons (m329_ok hL (hk.relax (r' := [((-9223372036854775808), 9223372036854775807), ((-9223372036854775808), 9223372036854775807), (9, 29), (0, 39)]) (by kernel_rfl))) (all_cons (m360_ok hL (hk.relax (r' := [((-9223372036854775808), 9223372036854775807), ((-9223372036854775808), 9223372036854775807), (10, 29), (0, 39)]) (by kernel_rfl))) (all_cons (m390_ok hL (hk.relax (r' := [((-9223372036854775808), 9223372036854775807), ((-9223372036854775808), 9223372036854775807), (11, 29), (0, 39)]) (by kernel_rfl))) (all_cons (m419_ok hL (hk.relax (r' := [((-9223372036854775808), 9223372036854775807), ((-9223372036854775808), 9223372036854775807), (12, 29), (0, 39)]) (by kernel_rfl))) (all_cons (m447_ok hL (hk.relax (r' := [((-9223372036854775808), 9223372036854775807), ((-9223372036854775808), 9223372036854775807), (13, 29), (0, 39)]) (by kernel_rfl))) (all_cons (m474_ok hL (hk.relax (r' := [((-9223372036854775808), 9223372036854775807), ((-9223372036854775808), 9223372036854775807), (14, 29), (0, 39)]) (by kernel_rfl))) (all_cons (m500_ok hL (hk.relax (r' := [((-9223372036854775808), 9223372036854775807), ((-9223372036854775808), 9223372036854775807), (15, 29), (0, 39)]) (by kernel_rfl))) (all_cons (m525_ok hL (hk.relax (r' := [((-9223372036854775808), 9223372036854775807), ((-9223372036854775808), 9223372036854775807), (16, 29), (0, 39)]) (by kernel_rfl))) (all_cons (m549_ok hL (hk.relax (r' := [((-9223372036854775808), 9223372036854775807), ((-9223372036854775808), 9223372036854775807), (17, 29), (0, 39)]) (by kernel_rfl))) (all_cons (m572_ok hL (hk.relax (r' := [((-9223372036854775808), 9223372036854775807), ((-9223372036854775808), 9223372036854775807), (18, 29), (0, 39)]) (by kernel_rfl))) (all_cons (m594_ok hL (hk.relax (r' := [((-9223372036854775808), 9223372036854775807), ((-9223372036854775808), 9223372036854775807), (19, 29), (0, 39)]) (by kernel_rfl))) (all_cons (m615_ok hL (hk.relax (r' := [((-9223372036854775808), 9223372036854775807), ((-9223372036854775808), 9223372036854775807), (20, 29), (0, 39)]) (by kernel_rfl))) (all_cons (m635_ok hL (hk.relax (r' := [((-9223372036854775808), 9223372036854775807), ((-9223372036854775808), 9223372036854775807), (21, 29), (0, 39)]) (by kernel_rfl))) (all_cons (m654_ok hL (hk.relax (r' := [((-9223372036854775808), 9223372036854775807), ((-9223372036854775808), 9223372036854775807), (22, 29), (0, 39)]) (by kernel_rfl))) (all_cons (m672_ok hL (hk.relax (r' := [((-9223372036854775808), 9223372036854775807), ((-9223372036854775808), 9223372036854775807), (23, 29), (0, 39)]) (by kernel_rfl))) (all_cons (m689_ok hL (hk.relax (r' := [((-9223372036854775808), 9223372036854775807), ((-9223372036854775808), 9223372036854775807), (24, 29), (0, 39)]) (by kernel_rfl))) (all_cons (m705_ok hL (hk.relax (r' := [((-9223372036854775808), 9223372036854775807), ((-9223372036854775808), 9223372036854775807), (25, 29), (0, 39)]) (by kernel_rfl))) (all_cons (m720_ok hL (hk.relax (r' := [((-9223372036854775808), 9223372036854775807), ((-9223372036854775808), 9223372036854775807), (26, 29), (0, 39)]) (by kernel_rfl))) (all_cons (m734_ok hL (hk.relax (r' := [((-9223372036854775808), 9223372036854775807), ((-9223372036854775808), 9223372036854775807), (27, 29), (0, 39)]) (by kernel_rfl))) (all_cons (m747_ok hL (hk.relax (r' := [((-9223372036854775808), 9223372036854775807), ((-9223372036854775808), 9223372036854775807), (28, 29), (0, 39)]) (by kernel_rfl))) (all_cons (m759_ok hL hk) (all_cons (m760_ok hL) (all_cons (m761_ok hL) (all_cons (m762_ok hL) (all_cons (m763_ok hL) (all_cons (m764_ok hL) (all_cons (m765_ok hL) (all_cons (m766_ok hL) (all_cons (m767_ok hL) (all_cons (m768_ok hL) (all_cons (m769_ok hL) (all_nil))))))))))))))))))))))))))))))))))))))))) ((q0_ok hL))))) hv run29
end Go.Proofs.YtkfhelmjaoepiaaGreatDoor.kernTicks
