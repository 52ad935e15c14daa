/- deskErrors: calls that are run once, and the runs of the cases (part 0). -/
import Derived.Test.YtkfhelmjaoepiabGreatDoorEvDeF
set_option linter.unusedVariables false
set_option maxRecDepth 10000000
namespace Go.Proofs.YtkfhelmjaoepiabGreatDoor.deskErrors
open Tk
open Go.RowKit
noncomputable def h0 : H := sentH 453 20 errTab
noncomputable def q0 : Fns := [(295, isFn 453), (122, atoiFullFn 384), (123, itoaFullFn), (195, joinFn), (307, countFn), (352, indexFn), (308, cutOf Tryz.prog 59391 bad [(307, countFn), (352, indexFn)] 1000 20 308)]
theorem q0_ok {σ : Nat → Int} {W0 : World} (hL : L0 W0) : FnsOk Tryz.prog 59391 σ W0 q0 := FnsOk.cons (ext_is hL) (FnsOk.cons (ext_atoi hL) (FnsOk.cons (ext_itoa hL) (FnsOk.cons (ext_join hL) (FnsOk.cons (ext_count hL) (FnsOk.cons (ext_index hL) (FnsOk.cons (ext_cut308 hL) (FnsOk.nil)))))))
noncomputable def p0 : Pur := ([], bT, 1048576)
theorem p0_run : ranPure (evCall (cxX Tryz.prog bad [] [] q0) 1000 60 29 p0.1 ⟨.lf, p0.2.2⟩) p0.2.1 = true := by kernel_rfl
theorem p0_ok {σ : Nat → Int} {W0 : World} (hL : L0 W0) : PureOk Tryz.prog 59391 σ W0 29 p0 := pure_ok fit (Known2.nil σ) ((q0_ok hL)) p0_run
noncomputable def h1 : H := hUpd h0 35 [] [(34, .cells 2 ([[.snil, .pnil]]) false)] []
noncomputable def m1 : Memo := ⟨[], h0, .ptr 34 0, h1⟩
theorem m1_run : ranTo (evCall (cxX Tryz.prog bad [] [] q0) 1000 60 30 m1.args m1.h) m1.v m1.h' = true := by kernel_rfl
theorem m1_ok {σ : Nat → Int} {W0 : World} (hL : L0 W0) : MemoOk Tryz.prog 59391 σ W0 30 m1 := memo_ok fit (Known2.nil σ) ((q0_ok hL)) m1_run
noncomputable def h2 : H := hUpd h1 38 [] [] []
noncomputable def h3 : H := hUpd h1 256 [] [] []
noncomputable def m2 : Memo := ⟨[.ptr 34 0, .str [119, 111, 114, 108, 100, 115]], h2, .tuple [.snil, .iface 453 (.ptr 32 0)], h3⟩
theorem m2_run : ranTo (evCall (cxX Tryz.prog bad [] [] q0) 1000 60 31 m2.args m2.h) m2.v m2.h' = true := by kernel_rfl
theorem m2_ok {σ : Nat → Int} {W0 : World} (hL : L0 W0) : MemoOk Tryz.prog 59391 σ W0 31 m2 := memo_ok fit (Known2.nil σ) ((q0_ok hL)) m2_run
noncomputable def h4 : H := hUpd h1 512 [] [] []
noncomputable def m3 : Memo := ⟨[.ptr 34 0, .str [112, 114, 111, 103, 114, 97, 109, 32, 120, 32, 48]], h3, .tuple [.snil, .iface 453 (.ptr 33 0)], h4⟩
theorem m3_run : ranTo (evCall (cxX Tryz.prog bad [] [] q0) 1000 60 31 m3.args m3.h) m3.v m3.h' = true := by kernel_rfl
theorem m3_ok {σ : Nat → Int} {W0 : World} (hL : L0 W0) : MemoOk Tryz.prog 59391 σ W0 31 m3 := memo_ok fit (Known2.nil σ) ((q0_ok hL)) m3_run
noncomputable def h5 : H := hUpd h1 768 [] [] []
noncomputable def m4 : Memo := ⟨[.ptr 34 0, .str [115, 116, 101, 112, 32, 49]], h4, .tuple [.snil, .iface 453 (.ptr 26 0)], h5⟩
theorem m4_run : ranTo (evCall (cxX Tryz.prog bad [] [] q0) 1000 60 31 m4.args m4.h) m4.v m4.h' = true := by kernel_rfl
theorem m4_ok {σ : Nat → Int} {W0 : World} (hL : L0 W0) : MemoOk Tryz.prog 59391 σ W0 31 m4 := memo_ok fit (Known2.nil σ) ((q0_ok hL)) m4_run
noncomputable def h6 : H := hUpd h1 1024 [] [] []
noncomputable def m5 : Memo := ⟨[.ptr 34 0, .str [32, 35, 32, 98, 111, 111, 116]], h5, .tuple [.snil, .inil], h6⟩
theorem m5_run : ranTo (evCall (cxX Tryz.prog bad [] [] q0) 1000 60 31 m5.args m5.h) m5.v m5.h' = true := by kernel_rfl
theorem m5_ok {σ : Nat → Int} {W0 : World} (hL : L0 W0) : MemoOk Tryz.prog 59391 σ W0 31 m5 := memo_ok fit (Known2.nil σ) ((q0_ok hL)) m5_run
noncomputable def h7 : H := hUpd h1 1280 [] [] []
noncomputable def m6 : Memo := ⟨[.ptr 34 0, .str [32, 32, 32]], h6, .tuple [.snil, .inil], h7⟩
theorem m6_run : ranTo (evCall (cxX Tryz.prog bad [] [] q0) 1000 60 31 m6.args m6.h) m6.v m6.h' = true := by kernel_rfl
theorem m6_ok {σ : Nat → Int} {W0 : World} (hL : L0 W0) : MemoOk Tryz.prog 59391 σ W0 31 m6 := memo_ok fit (Known2.nil σ) ((q0_ok hL)) m6_run
noncomputable def h8 : H := hUpd h1 1316 [] [] []
noncomputable def h9 : H := hUpd h1 1536 [] [(1374, .cells 1 ([[.snil]]) false),
  (1390, .cells 1 ([[.slice 1389 0 16 16 3 true]]) false),
  (1326, .cells 3 (rp 64 ([bF, I 0, bF]) ([])) false),
  (1398, .cells 3 (rp 16 ([bF, I 0, bF]) ([])) false),
  (1334, .cells 2 ([[.ptr 1329 0, .ptr 1333 0]]) false),
  (1350, .cells 1 ([[.snil]]) false),
  (1402, .cells 1 ([[.snil]]) false),
  (1338, .cells 1 ([[.slice 1337 0 16 16 3 true]]) false),
  (1434, .cells 2 ([[.ptr 1403 0, .snil]]) false),
  (1386, .cells 1 ([[.snil]]) false),
  (1394, .cells 1 ([[.slice 1393 0 16 16 3 true]]) false),
  (1330, .cells 3 (rp 64 ([bF, I 0, bF]) ([])) false),
  (1362, .cells 1 ([[.snil]]) false),
  (1340, .cells 3 ([[.ptr 1338 0, .slice 1339 0 16 16 107 true, .slice 1388 0 16 16 1 false]]) false),
  (1388, .cells 1 ([[.ptr 1341 0], [.ptr 1344 0], [.ptr 1347 0], [.ptr 1350 0], [.ptr 1353 0], [.ptr 1356 0], [.ptr 1359 0], [.ptr 1362 0], [.ptr 1365 0], [.ptr 1368 0], [.ptr 1371 0], [.ptr 1374 0], [.ptr 1377 0], [.ptr 1380 0], [.ptr 1383 0], [.ptr 1386 0]]) false),
  (1356, .cells 1 ([[.snil]]) false),
  (1396, .map [] 0),
  (1332, .cells 32 (rp 64 (rp 32 (U 0) ([])) ([])) false),
  (1380, .cells 1 ([[.snil]]) false),
  (1400, .cells 31 (rp 16 ((bF) :: rp 4 (I 0) ((U 0) :: rp 4 (I 0) ((U 0) :: rp 4 (I 0) ((U 0) :: rp 4 (I 0) ((U 0) :: rp 4 (I 0) ((U 0) :: rp 4 (I 0) ([U 0]))))))) ([])) false),
  (1336, .cells 3 ([[.ptr 1334 0, I 16, .ptr 1335 0]]) false),
  (1368, .cells 1 ([[.snil]]) false),
  (1392, .cells 2 ([[.ptr 1390 0, .slice 1391 0 16 16 2 true]]) false),
  (1328, .cells 80 (rp 64 (rp 4 (I 0) ((U 0) :: rp 4 (I 0) ((U 0) :: rp 4 (I 0) ((U 0) :: rp 4 (I 0) ((U 0) :: rp 4 (I 0) ((U 0) :: rp 4 (I 0) ((U 0) :: rp 4 (I 0) ((U 0) :: rp 4 (I 0) ((U 0) :: rp 4 (I 0) ((U 0) :: rp 4 (I 0) ((U 0) :: rp 4 (I 0) ((U 0) :: rp 4 (I 0) ((U 0) :: rp 4 (I 0) ((U 0) :: rp 4 (I 0) ((U 0) :: rp 4 (I 0) ((U 0) :: rp 4 (I 0) ([U 0]))))))))))))))))) ([])) false),
  (1344, .cells 1 ([[.snil]]) false),
  (1341, .cells 1 ([[.snil]]) false),
  (1389, .cells 3 ([bT, I 0, bF] :: rp 15 ([bF, I 0, bF]) ([])) false),
  (1397, .cells 5 ([[.ptr 1394 0, .slice 1395 0 16 16 3 true, .map 1396, .ptr 1336 0, .ptr 1340 0]]) false),
  (1333, .cells 2 ([[.ptr 1331 0, .slice 1332 0 64 64 32 true]]) false),
  (1365, .cells 1 ([[.snil]]) false),
  (1401, .cells 2 ([[.ptr 1399 0, .slice 1400 0 16 16 31 true]]) false),
  (1337, .cells 3 (rp 16 ([bF, I 0, bF]) ([])) false),
  (1353, .cells 1 ([[.snil]]) false),
  (1393, .cells 3 ([bT, I 0, bF] :: rp 15 ([bF, I 0, bF]) ([])) false),
  (1329, .cells 2 ([[.ptr 1327 0, .slice 1328 0 64 64 80 true]]) false),
  (1377, .cells 1 ([[.snil]]) false),
  (1403, .cells 9 ([[.ptr 1336 0, .ptr 1340 0, .ptr 1392 0, .ptr 1397 0, .ptr 1401 0, .ptr 1402 0, .snil, .snil, I 0]]) false),
  (1339, .cells 107 (rp 16 (rp 9 (U 0) (rp 6 (I 0) ((U 0) :: rp 4 (I 0) ((U 0) :: rp 4 (I 0) ((U 0) :: rp 4 (I 0) ((U 0) :: rp 4 (I 0) ((U 0) :: rp 4 (I 0) ((U 0) :: rp 4 (I 0) ((U 0) :: rp 4 (I 0) ((U 0) :: rp 4 (I 0) ((U 0) :: rp 4 (I 0) ((U 0) :: rp 4 (I 0) ((U 0) :: rp 4 (I 0) ((U 0) :: rp 4 (I 0) ((U 0) :: rp 4 (I 0) ((U 0) :: rp 4 (I 0) ((U 0) :: rp 4 (I 0) ((U 0) :: rp 4 (I 0) ((U 0) :: rp 4 (I 0) ((U 0) :: rp 4 (I 0) ([U 0, I 0]))))))))))))))))))))) ([])) false),
  (1371, .cells 1 ([[.snil]]) false),
  (1395, .cells 3 ([IZ (-1), I 5, I 0] :: rp 15 ([I 0, I 0, I 0]) ([])) false),
  (1331, .cells 1 ([[.slice 1330 0 64 64 3 true]]) false),
  (1347, .cells 1 ([[.snil]]) false),
  (1399, .cells 1 ([[.slice 1398 0 16 16 3 true]]) false),
  (1335, .cells 3 ([[I 16, .snil, I 0]]) false),
  (1383, .cells 1 ([[.snil]]) false),
  (1391, .cells 2 ([IZ (-1), I 2147483647] :: rp 15 ([I 0, I 0]) ([])) false),
  (1327, .cells 1 ([[.slice 1326 0 64 64 3 true]]) false),
  (1359, .cells 1 ([[.snil]]) false)] [(34, 0, [.snil, .ptr 1434 0])]
noncomputable def m7 : Memo := ⟨[.ptr 34 0, .str [98, 111, 111, 116, 32, 53]], h8, .tuple [.snil, .inil], h9⟩
theorem m7_run : ranTo (evCall (cxX Tryz.prog bad [] [] q0) 1000 60 31 m7.args m7.h) m7.v m7.h' = true := by kernel_rfl
theorem m7_ok {σ : Nat → Int} {W0 : World} (hL : L0 W0) : MemoOk Tryz.prog 59391 σ W0 31 m7 := memo_ok fit (Known2.nil σ) ((q0_ok hL)) m7_run
noncomputable def h10 : H := hUpd h9 1537 [] [] []
noncomputable def h11 : H := hUpd h9 1792 [] [] []
noncomputable def m8 : Memo := ⟨[.ptr 34 0, .str [98, 111, 111, 116, 32, 54]], h10, .tuple [.snil, .iface 453 (.ptr 30 0)], h11⟩
theorem m8_run : ranTo (evCall (cxX Tryz.prog bad [] [] q0) 1000 60 31 m8.args m8.h) m8.v m8.h' = true := by kernel_rfl
theorem m8_ok {σ : Nat → Int} {W0 : World} (hL : L0 W0) : MemoOk Tryz.prog 59391 σ W0 31 m8 := memo_ok fit (Known2.nil σ) ((q0_ok hL)) m8_run
noncomputable def h12 : H := hUpd h9 2048 [] [] []
noncomputable def m9 : Memo := ⟨[.ptr 34 0, .str [100, 111, 109, 97, 105, 110, 32, 49, 53]], h11, .tuple [.snil, .iface 453 (.ptr 26 0)], h12⟩
theorem m9_run : ranTo (evCall (cxX Tryz.prog bad [] [] q0) 1000 60 31 m9.args m9.h) m9.v m9.h' = true := by kernel_rfl
theorem m9_ok {σ : Nat → Int} {W0 : World} (hL : L0 W0) : MemoOk Tryz.prog 59391 σ W0 31 m9 := memo_ok fit (Known2.nil σ) ((q0_ok hL)) m9_run
noncomputable def l0 : List (Memo) := m9 :: m8 :: m7 :: m6 :: m5 :: m4 :: m3 :: m2 :: []
theorem l0_ok {σ : Nat → Int} {W0 : World} (hL : L0 W0) : ∀ x ∈ l0, MemoOk Tryz.prog 59391 σ W0 31 x := all_cons (m9_ok hL) (all_cons (m8_ok hL) (all_cons (m7_ok hL) (all_cons (m6_ok hL) (all_cons (m5_ok hL) (all_cons (m4_ok hL) (all_cons (m3_ok hL) (all_cons (m2_ok hL) (all_nil))))))))
noncomputable def q1 : Fns := [(29, pureFn [p0]), (30, frameFn [m1]), (295, isFn 453), (122, atoiFullFn 384), (123, itoaFullFn), (195, joinFn), (307, countFn), (352, indexFn), (308, cutOf Tryz.prog 59391 bad [(307, countFn), (352, indexFn)] 1000 20 308)]
theorem q1_ok {σ : Nat → Int} {W0 : World} (hL : L0 W0) : FnsOk Tryz.prog 59391 σ W0 q1 := FnsOk.cons (pure_fn_ok (all_cons (p0_ok hL) (all_nil))) (FnsOk.cons (frame_fn_ok (all_cons (m1_ok hL) (all_nil))) (FnsOk.cons (ext_is hL) (FnsOk.cons (ext_atoi hL) (FnsOk.cons (ext_itoa hL) (FnsOk.cons (ext_join hL) (FnsOk.cons (ext_count hL) (FnsOk.cons (ext_index hL) (FnsOk.cons (ext_cut308 hL) (FnsOk.nil)))))))))
theorem run0 : isTrue (evCall (cxX Tryz.prog bad [] [] ((8, numExtE [(0, 11, .lit 0), (0, 10, .lit 0), (0, 8, .lit 0), (0, 2, .lit 0)]) :: (31, frameFn l0) :: q1)) 1000 60 6 [.int .i64 (.var 0)] (sentH 453 20 errTab)) = true := by kernel_rfl
abbrev CaseS (rng : Rg) (facts : List (Bool × E × E × Bool)) (tab : NumTabE) (vs : List V) : Prop := ∀ {σ : Nat → Int} {W : World} (hL : L0 W) (hk : Known2 σ rng facts) (hT : TabOk Tryz.prog bad 8 σ tab) {xs : Array Value} (hv : ∀ ρ, VRs σ ρ vs xs.toList), Calls Tryz.prog 6 xs W fun e w' => e = .returned (.bool true) ∧ Below W.heap.size W w'
theorem caseS {rng : Rg} {facts : List (Bool × E × E × Bool)} {tab : NumTabE} {vs : List V} {fs : Fns} (hx : ∀ {σ : Nat → Int} {W : World}, L0 W → Known2 σ rng facts → TabOk Tryz.prog bad 8 σ tab → FnsOk Tryz.prog 59391 σ W fs)
    (run : isTrue (evCall (cxX Tryz.prog bad rng facts fs) 1000 60 6 vs (sentH 453 20 errTab)) = true) : CaseS rng facts tab vs := by
  intro σ W hL hk hT xs hv
  obtain ⟨ads, h1, h2, h3⟩ := errs_sents hL
  exact law_case_x fit h1 h2 h3 errs_all errs_lt (by kernel_rfl) hk (hx hL hk hT) hv ⟨_, Tryz.func6, rfl⟩ run
theorem case0 : CaseS [] [] [(0, 11, .lit 0), (0, 10, .lit 0), (0, 8, .lit 0), (0, 2, .lit 0)] [.int .i64 (.var 0)] := caseS (fun hL hk hT => FnsOk.cons (hT.ok fit) (FnsOk.cons (frame_fn_ok (l0_ok hL)) ((q1_ok hL)))) run0
noncomputable def m10 : Memo := ⟨[.ptr 34 0, .str [112, 114, 111, 103, 114, 97, 109, 32, 53, 32, 50]], h3, .tuple [.snil, .iface 453 (.ptr 33 0)], h4⟩
theorem m10_run : ranTo (evCall (cxX Tryz.prog bad [] [] q0) 1000 60 31 m10.args m10.h) m10.v m10.h' = true := by kernel_rfl
theorem m10_ok {σ : Nat → Int} {W0 : World} (hL : L0 W0) : MemoOk Tryz.prog 59391 σ W0 31 m10 := memo_ok fit (Known2.nil σ) ((q0_ok hL)) m10_run
noncomputable def m11 : Memo := ⟨[.ptr 34 0, .str [100, 111, 109, 97, 105, 110, 32, 48]], h4, .tuple [.snil, .iface 453 (.ptr 26 0)], h5⟩
theorem m11_run : ranTo (evCall (cxX Tryz.prog bad [] [] q0) 1000 60 31 m11.args m11.h) m11.v m11.h' = true := by kernel_rfl
theorem m11_ok {σ : Nat → Int} {W0 : World} (hL : L0 W0) : MemoOk Tryz.prog 59391 σ W0 31 m11 := memo_ok fit (Known2.nil σ) ((q0_ok hL)) m11_run
noncomputable def m12 : Memo := ⟨[.ptr 34 0, .str [112, 114, 111, 103, 114, 97, 109, 32, 53, 32, 49]], h10, .tuple [.snil, .iface 453 (.ptr 30 0)], h11⟩
theorem m12_run : ranTo (evCall (cxX Tryz.prog bad [] [] q0) 1000 60 31 m12.args m12.h) m12.v m12.h' = true := by kernel_rfl
theorem m12_ok {σ : Nat → Int} {W0 : World} (hL : L0 W0) : MemoOk Tryz.prog 59391 σ W0 31 m12 := memo_ok fit (Known2.nil σ) ((q0_ok hL)) m12_run
noncomputable def l1 : List (Memo) := m9 :: m12 :: m7 :: m6 :: m5 :: m11 :: m10 :: m2 :: []
theorem l1_ok {σ : Nat → Int} {W0 : World} (hL : L0 W0) : ∀ x ∈ l1, MemoOk Tryz.prog 59391 σ W0 31 x := all_cons (m9_ok hL) (all_cons (m12_ok hL) (all_cons (m7_ok hL) (all_cons (m6_ok hL) (all_cons (m5_ok hL) (all_cons (m11_ok hL) (all_cons (m10_ok hL) (all_cons (m2_ok hL) (all_nil))))))))
theorem run1 : isTrue (evCall (cxX Tryz.prog bad [] [] ((8, numExtE [(0, 11, .lit 0), (0, 10, .lit 1), (0, 8, .lit 1), (0, 2, .lit 1)]) :: (31, frameFn l1) :: q1)) 1000 60 6 [.int .i64 (.var 0)] (sentH 453 20 errTab)) = true := by kernel_rfl
theorem case1 : CaseS [] [] [(0, 11, .lit 0), (0, 10, .lit 1), (0, 8, .lit 1), (0, 2, .lit 1)] [.int .i64 (.var 0)] := caseS (fun hL hk hT => FnsOk.cons (hT.ok fit) (FnsOk.cons (frame_fn_ok (l1_ok hL)) ((q1_ok hL)))) run1
noncomputable def m13 : Memo := ⟨[.ptr 34 0, .str [98, 111, 111, 116, 32, 48, 49]], h3, .tuple [.snil, .iface 453 (.ptr 33 0)], h4⟩
theorem m13_run : ranTo (evCall (cxX Tryz.prog bad [] [] q0) 1000 60 31 m13.args m13.h) m13.v m13.h' = true := by kernel_rfl
theorem m13_ok {σ : Nat → Int} {W0 : World} (hL : L0 W0) : MemoOk Tryz.prog 59391 σ W0 31 m13 := memo_ok fit (Known2.nil σ) ((q0_ok hL)) m13_run
noncomputable def m14 : Memo := ⟨[.ptr 34 0, .str [98, 97, 110, 107, 32, 48]], h4, .tuple [.snil, .iface 453 (.ptr 26 0)], h5⟩
theorem m14_run : ranTo (evCall (cxX Tryz.prog bad [] [] q0) 1000 60 31 m14.args m14.h) m14.v m14.h' = true := by kernel_rfl
theorem m14_ok {σ : Nat → Int} {W0 : World} (hL : L0 W0) : MemoOk Tryz.prog 59391 σ W0 31 m14 := memo_ok fit (Known2.nil σ) ((q0_ok hL)) m14_run
noncomputable def l2 : List (Memo) := m9 :: m8 :: m7 :: m6 :: m5 :: m14 :: m13 :: m2 :: []
theorem l2_ok {σ : Nat → Int} {W0 : World} (hL : L0 W0) : ∀ x ∈ l2, MemoOk Tryz.prog 59391 σ W0 31 x := all_cons (m9_ok hL) (all_cons (m8_ok hL) (all_cons (m7_ok hL) (all_cons (m6_ok hL) (all_cons (m5_ok hL) (all_cons (m14_ok hL) (all_cons (m13_ok hL) (all_cons (m2_ok hL) (all_nil))))))))
theorem run2 : isTrue (evCall (cxX Tryz.prog bad [] [] ((8, numExtE [(0, 11, .lit 0), (0, 10, .lit 2), (0, 8, .lit 2), (0, 2, .lit 0)]) :: (31, frameFn l2) :: q1)) 1000 60 6 [.int .i64 (.var 0)] (sentH 453 20 errTab)) = true := by kernel_rfl
theorem case2 : CaseS [] [] [(0, 11, .lit 0), (0, 10, .lit 2), (0, 8, .lit 2), (0, 2, .lit 0)] [.int .i64 (.var 0)] := caseS (fun hL hk hT => FnsOk.cons (hT.ok fit) (FnsOk.cons (frame_fn_ok (l2_ok hL)) ((q1_ok hL)))) run2
noncomputable def m15 : Memo := ⟨[.ptr 34 0, .str [98, 111, 111, 116, 32, 45, 49]], h3, .tuple [.snil, .iface 453 (.ptr 33 0)], h4⟩
theorem m15_run : ranTo (evCall (cxX Tryz.prog bad [] [] q0) 1000 60 31 m15.args m15.h) m15.v m15.h' = true := by kernel_rfl
theorem m15_ok {σ : Nat → Int} {W0 : World} (hL : L0 W0) : MemoOk Tryz.prog 59391 σ W0 31 m15 := memo_ok fit (Known2.nil σ) ((q0_ok hL)) m15_run
noncomputable def m16 : Memo := ⟨[.ptr 34 0, .str [107, 101, 121, 115, 32, 48]], h4, .tuple [.snil, .iface 453 (.ptr 26 0)], h5⟩
theorem m16_run : ranTo (evCall (cxX Tryz.prog bad [] [] q0) 1000 60 31 m16.args m16.h) m16.v m16.h' = true := by kernel_rfl
theorem m16_ok {σ : Nat → Int} {W0 : World} (hL : L0 W0) : MemoOk Tryz.prog 59391 σ W0 31 m16 := memo_ok fit (Known2.nil σ) ((q0_ok hL)) m16_run
noncomputable def l3 : List (Memo) := m9 :: m12 :: m7 :: m6 :: m5 :: m16 :: m15 :: m2 :: []
theorem l3_ok {σ : Nat → Int} {W0 : World} (hL : L0 W0) : ∀ x ∈ l3, MemoOk Tryz.prog 59391 σ W0 31 x := all_cons (m9_ok hL) (all_cons (m12_ok hL) (all_cons (m7_ok hL) (all_cons (m6_ok hL) (all_cons (m5_ok hL) (all_cons (m16_ok hL) (all_cons (m15_ok hL) (all_cons (m2_ok hL) (all_nil))))))))
theorem run3 : isTrue (evCall (cxX Tryz.prog bad [] [] ((8, numExtE [(0, 11, .lit 0), (0, 10, .lit 3), (0, 8, .lit 3), (0, 2, .lit 1)]) :: (31, frameFn l3) :: q1)) 1000 60 6 [.int .i64 (.var 0)] (sentH 453 20 errTab)) = true := by kernel_rfl
theorem case3 : CaseS [] [] [(0, 11, .lit 0), (0, 10, .lit 3), (0, 8, .lit 3), (0, 2, .lit 1)] [.int .i64 (.var 0)] := caseS (fun hL hk hT => FnsOk.cons (hT.ok fit) (FnsOk.cons (frame_fn_ok (l3_ok hL)) ((q1_ok hL)))) run3
noncomputable def m17 : Memo := ⟨[.ptr 34 0, .str [100, 111, 109, 97, 105, 110, 32, 49, 120]], h3, .tuple [.snil, .iface 453 (.ptr 33 0)], h4⟩
theorem m17_run : ranTo (evCall (cxX Tryz.prog bad [] [] q0) 1000 60 31 m17.args m17.h) m17.v m17.h' = true := by kernel_rfl
theorem m17_ok {σ : Nat → Int} {W0 : World} (hL : L0 W0) : MemoOk Tryz.prog 59391 σ W0 31 m17 := memo_ok fit (Known2.nil σ) ((q0_ok hL)) m17_run
noncomputable def m18 : Memo := ⟨[.ptr 34 0, .str [102, 105, 108, 108, 32, 48]], h4, .tuple [.snil, .iface 453 (.ptr 26 0)], h5⟩
theorem m18_run : ranTo (evCall (cxX Tryz.prog bad [] [] q0) 1000 60 31 m18.args m18.h) m18.v m18.h' = true := by kernel_rfl
theorem m18_ok {σ : Nat → Int} {W0 : World} (hL : L0 W0) : MemoOk Tryz.prog 59391 σ W0 31 m18 := memo_ok fit (Known2.nil σ) ((q0_ok hL)) m18_run
noncomputable def l4 : List (Memo) := m9 :: m8 :: m7 :: m6 :: m5 :: m18 :: m17 :: m2 :: []
theorem l4_ok {σ : Nat → Int} {W0 : World} (hL : L0 W0) : ∀ x ∈ l4, MemoOk Tryz.prog 59391 σ W0 31 x := all_cons (m9_ok hL) (all_cons (m8_ok hL) (all_cons (m7_ok hL) (all_cons (m6_ok hL) (all_cons (m5_ok hL) (all_cons (m18_ok hL) (all_cons (m17_ok hL) (all_cons (m2_ok hL) (all_nil))))))))
theorem run4 : isTrue (evCall (cxX Tryz.prog bad [] [] ((8, numExtE [(0, 11, .lit 0), (0, 10, .lit 4), (0, 8, .lit 4), (0, 2, .lit 0)]) :: (31, frameFn l4) :: q1)) 1000 60 6 [.int .i64 (.var 0)] (sentH 453 20 errTab)) = true := by kernel_rfl
theorem case4 : CaseS [] [] [(0, 11, .lit 0), (0, 10, .lit 4), (0, 8, .lit 4), (0, 2, .lit 0)] [.int .i64 (.var 0)] := caseS (fun hL hk hT => FnsOk.cons (hT.ok fit) (FnsOk.cons (frame_fn_ok (l4_ok hL)) ((q1_ok hL)))) run4
noncomputable def m19 : Memo := ⟨[.ptr 34 0, .str [115, 116, 101, 112, 32, 49, 32, 43, 50]], h3, .tuple [.snil, .iface 453 (.ptr 33 0)], h4⟩
theorem m19_run : ranTo (evCall (cxX Tryz.prog bad [] [] q0) 1000 60 31 m19.args m19.h) m19.v m19.h' = true := by kernel_rfl
theorem m19_ok {σ : Nat → Int} {W0 : World} (hL : L0 W0) : MemoOk Tryz.prog 59391 σ W0 31 m19 := memo_ok fit (Known2.nil σ) ((q0_ok hL)) m19_run
noncomputable def m20 : Memo := ⟨[.ptr 34 0, .str [101, 110, 100, 32, 49]], h4, .tuple [.snil, .iface 453 (.ptr 26 0)], h5⟩
theorem m20_run : ranTo (evCall (cxX Tryz.prog bad [] [] q0) 1000 60 31 m20.args m20.h) m20.v m20.h' = true := by kernel_rfl
theorem m20_ok {σ : Nat → Int} {W0 : World} (hL : L0 W0) : MemoOk Tryz.prog 59391 σ W0 31 m20 := memo_ok fit (Known2.nil σ) ((q0_ok hL)) m20_run
noncomputable def l5 : List (Memo) := m9 :: m12 :: m7 :: m6 :: m5 :: m20 :: m19 :: m2 :: []
theorem l5_ok {σ : Nat → Int} {W0 : World} (hL : L0 W0) : ∀ x ∈ l5, MemoOk Tryz.prog 59391 σ W0 31 x := all_cons (m9_ok hL) (all_cons (m12_ok hL) (all_cons (m7_ok hL) (all_cons (m6_ok hL) (all_cons (m5_ok hL) (all_cons (m20_ok hL) (all_cons (m19_ok hL) (all_cons (m2_ok hL) (all_nil))))))))
theorem run5 : isTrue (evCall (cxX Tryz.prog bad [] [] ((8, numExtE [(0, 11, .lit 0), (0, 10, .lit 5), (0, 8, .lit 5), (0, 2, .lit 1)]) :: (31, frameFn l5) :: q1)) 1000 60 6 [.int .i64 (.var 0)] (sentH 453 20 errTab)) = true := by kernel_rfl
theorem case5 : CaseS [] [] [(0, 11, .lit 0), (0, 10, .lit 5), (0, 8, .lit 5), (0, 2, .lit 1)] [.int .i64 (.var 0)] := caseS (fun hL hk hT => FnsOk.cons (hT.ok fit) (FnsOk.cons (frame_fn_ok (l5_ok hL)) ((q1_ok hL)))) run5
noncomputable def m21 : Memo := ⟨[.ptr 34 0, .str [112, 114, 111, 103, 114, 97, 109, 32, 53, 32, 49, 32, 97]], h3, .tuple [.snil, .iface 453 (.ptr 33 0)], h4⟩
theorem m21_run : ranTo (evCall (cxX Tryz.prog bad [] [] q0) 1000 60 31 m21.args m21.h) m21.v m21.h' = true := by kernel_rfl
theorem m21_ok {σ : Nat → Int} {W0 : World} (hL : L0 W0) : MemoOk Tryz.prog 59391 σ W0 31 m21 := memo_ok fit (Known2.nil σ) ((q0_ok hL)) m21_run
noncomputable def m22 : Memo := ⟨[.ptr 34 0, .str [116, 121, 112, 101, 32, 53]], h4, .tuple [.snil, .iface 453 (.ptr 26 0)], h5⟩
theorem m22_run : ranTo (evCall (cxX Tryz.prog bad [] [] q0) 1000 60 31 m22.args m22.h) m22.v m22.h' = true := by kernel_rfl
theorem m22_ok {σ : Nat → Int} {W0 : World} (hL : L0 W0) : MemoOk Tryz.prog 59391 σ W0 31 m22 := memo_ok fit (Known2.nil σ) ((q0_ok hL)) m22_run
noncomputable def l6 : List (Memo) := m9 :: m8 :: m7 :: m6 :: m5 :: m22 :: m21 :: m2 :: []
theorem l6_ok {σ : Nat → Int} {W0 : World} (hL : L0 W0) : ∀ x ∈ l6, MemoOk Tryz.prog 59391 σ W0 31 x := all_cons (m9_ok hL) (all_cons (m8_ok hL) (all_cons (m7_ok hL) (all_cons (m6_ok hL) (all_cons (m5_ok hL) (all_cons (m22_ok hL) (all_cons (m21_ok hL) (all_cons (m2_ok hL) (all_nil))))))))
theorem run6 : isTrue (evCall (cxX Tryz.prog bad [] [] ((8, numExtE [(0, 11, .lit 0), (0, 10, .lit 6), (0, 8, .lit 6), (0, 2, .lit 0)]) :: (31, frameFn l6) :: q1)) 1000 60 6 [.int .i64 (.var 0)] (sentH 453 20 errTab)) = true := by kernel_rfl
theorem case6 : CaseS [] [] [(0, 11, .lit 0), (0, 10, .lit 6), (0, 8, .lit 6), (0, 2, .lit 0)] [.int .i64 (.var 0)] := caseS (fun hL hk hT => FnsOk.cons (hT.ok fit) (FnsOk.cons (frame_fn_ok (l6_ok hL)) ((q1_ok hL)))) run6
noncomputable def m23 : Memo := ⟨[.ptr 34 0, .str [116, 121, 112, 101, 32, 49, 32, 50, 32, 48, 51]], h3, .tuple [.snil, .iface 453 (.ptr 33 0)], h4⟩
theorem m23_run : ranTo (evCall (cxX Tryz.prog bad [] [] q0) 1000 60 31 m23.args m23.h) m23.v m23.h' = true := by kernel_rfl
theorem m23_ok {σ : Nat → Int} {W0 : World} (hL : L0 W0) : MemoOk Tryz.prog 59391 σ W0 31 m23 := memo_ok fit (Known2.nil σ) ((q0_ok hL)) m23_run
noncomputable def m24 : Memo := ⟨[.ptr 34 0, .str [99, 111, 100, 101, 32, 104, 97, 108, 116]], h4, .tuple [.snil, .iface 453 (.ptr 26 0)], h5⟩
theorem m24_run : ranTo (evCall (cxX Tryz.prog bad [] [] q0) 1000 60 31 m24.args m24.h) m24.v m24.h' = true := by kernel_rfl
theorem m24_ok {σ : Nat → Int} {W0 : World} (hL : L0 W0) : MemoOk Tryz.prog 59391 σ W0 31 m24 := memo_ok fit (Known2.nil σ) ((q0_ok hL)) m24_run
noncomputable def l7 : List (Memo) := m9 :: m12 :: m7 :: m6 :: m5 :: m24 :: m23 :: m2 :: []
theorem l7_ok {σ : Nat → Int} {W0 : World} (hL : L0 W0) : ∀ x ∈ l7, MemoOk Tryz.prog 59391 σ W0 31 x := all_cons (m9_ok hL) (all_cons (m12_ok hL) (all_cons (m7_ok hL) (all_cons (m6_ok hL) (all_cons (m5_ok hL) (all_cons (m24_ok hL) (all_cons (m23_ok hL) (all_cons (m2_ok hL) (all_nil))))))))
theorem run7 : isTrue (evCall (cxX Tryz.prog bad [] [] ((8, numExtE [(0, 11, .lit 0), (0, 10, .lit 7), (0, 8, .lit 7), (0, 2, .lit 1)]) :: (31, frameFn l7) :: q1)) 1000 60 6 [.int .i64 (.var 0)] (sentH 453 20 errTab)) = true := by kernel_rfl
theorem case7 : CaseS [] [] [(0, 11, .lit 0), (0, 10, .lit 7), (0, 8, .lit 7), (0, 2, .lit 1)] [.int .i64 (.var 0)] := caseS (fun hL hk hT => FnsOk.cons (hT.ok fit) (FnsOk.cons (frame_fn_ok (l7_ok hL)) ((q1_ok hL)))) run7
noncomputable def m25 : Memo := ⟨[.ptr 34 0, .str [98, 97, 110, 107, 32, 49, 50, 51, 52, 53, 54, 55, 56, 57, 48]], h3, .tuple [.snil, .iface 453 (.ptr 33 0)], h4⟩
theorem m25_run : ranTo (evCall (cxX Tryz.prog bad [] [] q0) 1000 60 31 m25.args m25.h) m25.v m25.h' = true := by kernel_rfl
theorem m25_ok {σ : Nat → Int} {W0 : World} (hL : L0 W0) : MemoOk Tryz.prog 59391 σ W0 31 m25 := memo_ok fit (Known2.nil σ) ((q0_ok hL)) m25_run
noncomputable def l8 : List (Memo) := m9 :: m8 :: m7 :: m6 :: m5 :: m4 :: m25 :: m2 :: []
theorem l8_ok {σ : Nat → Int} {W0 : World} (hL : L0 W0) : ∀ x ∈ l8, MemoOk Tryz.prog 59391 σ W0 31 x := all_cons (m9_ok hL) (all_cons (m8_ok hL) (all_cons (m7_ok hL) (all_cons (m6_ok hL) (all_cons (m5_ok hL) (all_cons (m4_ok hL) (all_cons (m25_ok hL) (all_cons (m2_ok hL) (all_nil))))))))
theorem run8 : isTrue (evCall (cxX Tryz.prog bad [] [] ((8, numExtE [(0, 11, .lit 0), (0, 10, .lit 8), (0, 8, .lit 0), (0, 2, .lit 0)]) :: (31, frameFn l8) :: q1)) 1000 60 6 [.int .i64 (.var 0)] (sentH 453 20 errTab)) = true := by kernel_rfl
theorem case8 : CaseS [] [] [(0, 11, .lit 0), (0, 10, .lit 8), (0, 8, .lit 0), (0, 2, .lit 0)] [.int .i64 (.var 0)] := caseS (fun hL hk hT => FnsOk.cons (hT.ok fit) (FnsOk.cons (frame_fn_ok (l8_ok hL)) ((q1_ok hL)))) run8
noncomputable def m26 : Memo := ⟨[.ptr 34 0, .str [107, 101, 121, 115, 32, 107, 49]], h3, .tuple [.snil, .iface 453 (.ptr 33 0)], h4⟩
theorem m26_run : ranTo (evCall (cxX Tryz.prog bad [] [] q0) 1000 60 31 m26.args m26.h) m26.v m26.h' = true := by kernel_rfl
theorem m26_ok {σ : Nat → Int} {W0 : World} (hL : L0 W0) : MemoOk Tryz.prog 59391 σ W0 31 m26 := memo_ok fit (Known2.nil σ) ((q0_ok hL)) m26_run
noncomputable def l9 : List (Memo) := m9 :: m12 :: m7 :: m6 :: m5 :: m11 :: m26 :: m2 :: []
theorem l9_ok {σ : Nat → Int} {W0 : World} (hL : L0 W0) : ∀ x ∈ l9, MemoOk Tryz.prog 59391 σ W0 31 x := all_cons (m9_ok hL) (all_cons (m12_ok hL) (all_cons (m7_ok hL) (all_cons (m6_ok hL) (all_cons (m5_ok hL) (all_cons (m11_ok hL) (all_cons (m26_ok hL) (all_cons (m2_ok hL) (all_nil))))))))
theorem run9 : isTrue (evCall (cxX Tryz.prog bad [] [] ((8, numExtE [(0, 11, .lit 0), (0, 10, .lit 9), (0, 8, .lit 1), (0, 2, .lit 1)]) :: (31, frameFn l9) :: q1)) 1000 60 6 [.int .i64 (.var 0)] (sentH 453 20 errTab)) = true := by kernel_rfl
theorem case9 : CaseS [] [] [(0, 11, .lit 0), (0, 10, .lit 9), (0, 8, .lit 1), (0, 2, .lit 1)] [.int .i64 (.var 0)] := caseS (fun hL hk hT => FnsOk.cons (hT.ok fit) (FnsOk.cons (frame_fn_ok (l9_ok hL)) ((q1_ok hL)))) run9
noncomputable def l10 : List (Memo) := m9 :: m8 :: m7 :: m6 :: m5 :: m14 :: m3 :: m2 :: []
theorem l10_ok {σ : Nat → Int} {W0 : World} (hL : L0 W0) : ∀ x ∈ l10, MemoOk Tryz.prog 59391 σ W0 31 x := all_cons (m9_ok hL) (all_cons (m8_ok hL) (all_cons (m7_ok hL) (all_cons (m6_ok hL) (all_cons (m5_ok hL) (all_cons (m14_ok hL) (all_cons (m3_ok hL) (all_cons (m2_ok hL) (all_nil))))))))
theorem run10 : isTrue (evCall (cxX Tryz.prog bad [] [] ((8, numExtE [(0, 11, .lit 0), (0, 10, .lit 0), (0, 8, .lit 2), (0, 2, .lit 0)]) :: (31, frameFn l10) :: q1)) 1000 60 6 [.int .i64 (.var 0)] (sentH 453 20 errTab)) = true := by kernel_rfl
theorem case10 : CaseS [] [] [(0, 11, .lit 0), (0, 10, .lit 0), (0, 8, .lit 2), (0, 2, .lit 0)] [.int .i64 (.var 0)] := caseS (fun hL hk hT => FnsOk.cons (hT.ok fit) (FnsOk.cons (frame_fn_ok (l10_ok hL)) ((q1_ok hL)))) run10
noncomputable def l11 : List (Memo) := m9 :: m12 :: m7 :: m6 :: m5 :: m16 :: m10 :: m2 :: []
theorem l11_ok {σ : Nat → Int} {W0 : World} (hL : L0 W0) : ∀ x ∈ l11, MemoOk Tryz.prog 59391 σ W0 31 x := all_cons (m9_ok hL) (all_cons (m12_ok hL) (all_cons (m7_ok hL) (all_cons (m6_ok hL) (all_cons (m5_ok hL) (all_cons (m16_ok hL) (all_cons (m10_ok hL) (all_cons (m2_ok hL) (all_nil))))))))
theorem run11 : isTrue (evCall (cxX Tryz.prog bad [] [] ((8, numExtE [(0, 11, .lit 0), (0, 10, .lit 1), (0, 8, .lit 3), (0, 2, .lit 1)]) :: (31, frameFn l11) :: q1)) 1000 60 6 [.int .i64 (.var 0)] (sentH 453 20 errTab)) = true := by kernel_rfl
theorem case11 : CaseS [] [] [(0, 11, .lit 0), (0, 10, .lit 1), (0, 8, .lit 3), (0, 2, .lit 1)] [.int .i64 (.var 0)] := caseS (fun hL hk hT => FnsOk.cons (hT.ok fit) (FnsOk.cons (frame_fn_ok (l11_ok hL)) ((q1_ok hL)))) run11
noncomputable def l12 : List (Memo) := m9 :: m8 :: m7 :: m6 :: m5 :: m18 :: m13 :: m2 :: []
theorem l12_ok {σ : Nat → Int} {W0 : World} (hL : L0 W0) : ∀ x ∈ l12, MemoOk Tryz.prog 59391 σ W0 31 x := all_cons (m9_ok hL) (all_cons (m8_ok hL) (all_cons (m7_ok hL) (all_cons (m6_ok hL) (all_cons (m5_ok hL) (all_cons (m18_ok hL) (all_cons (m13_ok hL) (all_cons (m2_ok hL) (all_nil))))))))
theorem run12 : isTrue (evCall (cxX Tryz.prog bad [] [] ((8, numExtE [(0, 11, .lit 0), (0, 10, .lit 2), (0, 8, .lit 4), (0, 2, .lit 0)]) :: (31, frameFn l12) :: q1)) 1000 60 6 [.int .i64 (.var 0)] (sentH 453 20 errTab)) = true := by kernel_rfl
theorem case12 : CaseS [] [] [(0, 11, .lit 0), (0, 10, .lit 2), (0, 8, .lit 4), (0, 2, .lit 0)] [.int .i64 (.var 0)] := caseS (fun hL hk hT => FnsOk.cons (hT.ok fit) (FnsOk.cons (frame_fn_ok (l12_ok hL)) ((q1_ok hL)))) run12
noncomputable def l13 : List (Memo) := m9 :: m12 :: m7 :: m6 :: m5 :: m20 :: m15 :: m2 :: []
theorem l13_ok {σ : Nat → Int} {W0 : World} (hL : L0 W0) : ∀ x ∈ l13, MemoOk Tryz.prog 59391 σ W0 31 x := all_cons (m9_ok hL) (all_cons (m12_ok hL) (all_cons (m7_ok hL) (all_cons (m6_ok hL) (all_cons (m5_ok hL) (all_cons (m20_ok hL) (all_cons (m15_ok hL) (all_cons (m2_ok hL) (all_nil))))))))
theorem run13 : isTrue (evCall (cxX Tryz.prog bad [] [] ((8, numExtE [(0, 11, .lit 0), (0, 10, .lit 3), (0, 8, .lit 5), (0, 2, .lit 1)]) :: (31, frameFn l13) :: q1)) 1000 60 6 [.int .i64 (.var 0)] (sentH 453 20 errTab)) = true := by kernel_rfl
theorem case13 : CaseS [] [] [(0, 11, .lit 0), (0, 10, .lit 3), (0, 8, .lit 5), (0, 2, .lit 1)] [.int .i64 (.var 0)] := caseS (fun hL hk hT => FnsOk.cons (hT.ok fit) (FnsOk.cons (frame_fn_ok (l13_ok hL)) ((q1_ok hL)))) run13
noncomputable def l14 : List (Memo) := m9 :: m8 :: m7 :: m6 :: m5 :: m22 :: m17 :: m2 :: []
theorem l14_ok {σ : Nat → Int} {W0 : World} (hL : L0 W0) : ∀ x ∈ l14, MemoOk Tryz.prog 59391 σ W0 31 x := all_cons (m9_ok hL) (all_cons (m8_ok hL) (all_cons (m7_ok hL) (all_cons (m6_ok hL) (all_cons (m5_ok hL) (all_cons (m22_ok hL) (all_cons (m17_ok hL) (all_cons (m2_ok hL) (all_nil))))))))
theorem run14 : isTrue (evCall (cxX Tryz.prog bad [] [] ((8, numExtE [(0, 11, .lit 0), (0, 10, .lit 4), (0, 8, .lit 6), (0, 2, .lit 0)]) :: (31, frameFn l14) :: q1)) 1000 60 6 [.int .i64 (.var 0)] (sentH 453 20 errTab)) = true := by kernel_rfl
theorem case14 : CaseS [] [] [(0, 11, .lit 0), (0, 10, .lit 4), (0, 8, .lit 6), (0, 2, .lit 0)] [.int .i64 (.var 0)] := caseS (fun hL hk hT => FnsOk.cons (hT.ok fit) (FnsOk.cons (frame_fn_ok (l14_ok hL)) ((q1_ok hL)))) run14
noncomputable def l15 : List (Memo) := m9 :: m12 :: m7 :: m6 :: m5 :: m24 :: m19 :: m2 :: []
theorem l15_ok {σ : Nat → Int} {W0 : World} (hL : L0 W0) : ∀ x ∈ l15, MemoOk Tryz.prog 59391 σ W0 31 x := all_cons (m9_ok hL) (all_cons (m12_ok hL) (all_cons (m7_ok hL) (all_cons (m6_ok hL) (all_cons (m5_ok hL) (all_cons (m24_ok hL) (all_cons (m19_ok hL) (all_cons (m2_ok hL) (all_nil))))))))
theorem run15 : isTrue (evCall (cxX Tryz.prog bad [] [] ((8, numExtE [(0, 11, .lit 0), (0, 10, .lit 5), (0, 8, .lit 7), (0, 2, .lit 1)]) :: (31, frameFn l15) :: q1)) 1000 60 6 [.int .i64 (.var 0)] (sentH 453 20 errTab)) = true := by kernel_rfl
theorem case15 : CaseS [] [] [(0, 11, .lit 0), (0, 10, .lit 5), (0, 8, .lit 7), (0, 2, .lit 1)] [.int .i64 (.var 0)] := caseS (fun hL hk hT => FnsOk.cons (hT.ok fit) (FnsOk.cons (frame_fn_ok (l15_ok hL)) ((q1_ok hL)))) run15
noncomputable def l16 : List (Memo) := m9 :: m8 :: m7 :: m6 :: m5 :: m4 :: m21 :: m2 :: []
theorem l16_ok {σ : Nat → Int} {W0 : World} (hL : L0 W0) : ∀ x ∈ l16, MemoOk Tryz.prog 59391 σ W0 31 x := all_cons (m9_ok hL) (all_cons (m8_ok hL) (all_cons (m7_ok hL) (all_cons (m6_ok hL) (all_cons (m5_ok hL) (all_cons (m4_ok hL) (all_cons (m21_ok hL) (all_cons (m2_ok hL) (all_nil))))))))
theorem run16 : isTrue (evCall (cxX Tryz.prog bad [] [] ((8, numExtE [(0, 11, .lit 0), (0, 10, .lit 6), (0, 8, .lit 0), (0, 2, .lit 0)]) :: (31, frameFn l16) :: q1)) 1000 60 6 [.int .i64 (.var 0)] (sentH 453 20 errTab)) = true := by kernel_rfl
theorem case16 : CaseS [] [] [(0, 11, .lit 0), (0, 10, .lit 6), (0, 8, .lit 0), (0, 2, .lit 0)] [.int .i64 (.var 0)] := caseS (fun hL hk hT => FnsOk.cons (hT.ok fit) (FnsOk.cons (frame_fn_ok (l16_ok hL)) ((q1_ok hL)))) run16
noncomputable def l17 : List (Memo) := m9 :: m12 :: m7 :: m6 :: m5 :: m11 :: m23 :: m2 :: []
theorem l17_ok {σ : Nat → Int} {W0 : World} (hL : L0 W0) : ∀ x ∈ l17, MemoOk Tryz.prog 59391 σ W0 31 x := all_cons (m9_ok hL) (all_cons (m12_ok hL) (all_cons (m7_ok hL) (all_cons (m6_ok hL) (all_cons (m5_ok hL) (all_cons (m11_ok hL) (all_cons (m23_ok hL) (all_cons (m2_ok hL) (all_nil))))))))
theorem run17 : isTrue (evCall (cxX Tryz.prog bad [] [] ((8, numExtE [(0, 11, .lit 0), (0, 10, .lit 7), (0, 8, .lit 1), (0, 2, .lit 1)]) :: (31, frameFn l17) :: q1)) 1000 60 6 [.int .i64 (.var 0)] (sentH 453 20 errTab)) = true := by kernel_rfl
theorem case17 : CaseS [] [] [(0, 11, .lit 0), (0, 10, .lit 7), (0, 8, .lit 1), (0, 2, .lit 1)] [.int .i64 (.var 0)] := caseS (fun hL hk hT => FnsOk.cons (hT.ok fit) (FnsOk.cons (frame_fn_ok (l17_ok hL)) ((q1_ok hL)))) run17
noncomputable def l18 : List (Memo) := m9 :: m8 :: m7 :: m6 :: m5 :: m14 :: m25 :: m2 :: []
theorem l18_ok {σ : Nat → Int} {W0 : World} (hL : L0 W0) : ∀ x ∈ l18, MemoOk Tryz.prog 59391 σ W0 31 x := all_cons (m9_ok hL) (all_cons (m8_ok hL) (all_cons (m7_ok hL) (all_cons (m6_ok hL) (all_cons (m5_ok hL) (all_cons (m14_ok hL) (all_cons (m25_ok hL) (all_cons (m2_ok hL) (all_nil))))))))
theorem run18 : isTrue (evCall (cxX Tryz.prog bad [] [] ((8, numExtE [(0, 11, .lit 0), (0, 10, .lit 8), (0, 8, .lit 2), (0, 2, .lit 0)]) :: (31, frameFn l18) :: q1)) 1000 60 6 [.int .i64 (.var 0)] (sentH 453 20 errTab)) = true := by kernel_rfl
theorem case18 : CaseS [] [] [(0, 11, .lit 0), (0, 10, .lit 8), (0, 8, .lit 2), (0, 2, .lit 0)] [.int .i64 (.var 0)] := caseS (fun hL hk hT => FnsOk.cons (hT.ok fit) (FnsOk.cons (frame_fn_ok (l18_ok hL)) ((q1_ok hL)))) run18
noncomputable def l19 : List (Memo) := m9 :: m12 :: m7 :: m6 :: m5 :: m16 :: m26 :: m2 :: []
theorem l19_ok {σ : Nat → Int} {W0 : World} (hL : L0 W0) : ∀ x ∈ l19, MemoOk Tryz.prog 59391 σ W0 31 x := all_cons (m9_ok hL) (all_cons (m12_ok hL) (all_cons (m7_ok hL) (all_cons (m6_ok hL) (all_cons (m5_ok hL) (all_cons (m16_ok hL) (all_cons (m26_ok hL) (all_cons (m2_ok hL) (all_nil))))))))
theorem run19 : isTrue (evCall (cxX Tryz.prog bad [] [] ((8, numExtE [(0, 11, .lit 0), (0, 10, .lit 9), (0, 8, .lit 3), (0, 2, .lit 1)]) :: (31, frameFn l19) :: q1)) 1000 60 6 [.int .i64 (.var 0)] (sentH 453 20 errTab)) = true := by kernel_rfl
theorem case19 : CaseS [] [] [(0, 11, .lit 0), (0, 10, .lit 9), (0, 8, .lit 3), (0, 2, .lit 1)] [.int .i64 (.var 0)] := caseS (fun hL hk hT => FnsOk.cons (hT.ok fit) (FnsOk.cons (frame_fn_ok (l19_ok hL)) ((q1_ok hL)))) run19
noncomputable def l20 : List (Memo) := m9 :: m8 :: m7 :: m6 :: m5 :: m18 :: m3 :: m2 :: []
theorem l20_ok {σ : Nat → Int} {W0 : World} (hL : L0 W0) : ∀ x ∈ l20, MemoOk Tryz.prog 59391 σ W0 31 x := all_cons (m9_ok hL) (all_cons (m8_ok hL) (all_cons (m7_ok hL) (all_cons (m6_ok hL) (all_cons (m5_ok hL) (all_cons (m18_ok hL) (all_cons (m3_ok hL) (all_cons (m2_ok hL) (all_nil))))))))
theorem run20 : isTrue (evCall (cxX Tryz.prog bad [] [] ((8, numExtE [(0, 11, .lit 0), (0, 10, .lit 0), (0, 8, .lit 4), (0, 2, .lit 0)]) :: (31, frameFn l20) :: q1)) 1000 60 6 [.int .i64 (.var 0)] (sentH 453 20 errTab)) = true := by kernel_rfl
theorem case20 : CaseS [] [] [(0, 11, .lit 0), (0, 10, .lit 0), (0, 8, .lit 4), (0, 2, .lit 0)] [.int .i64 (.var 0)] := caseS (fun hL hk hT => FnsOk.cons (hT.ok fit) (FnsOk.cons (frame_fn_ok (l20_ok hL)) ((q1_ok hL)))) run20
noncomputable def l21 : List (Memo) := m9 :: m12 :: m7 :: m6 :: m5 :: m20 :: m10 :: m2 :: []
theorem l21_ok {σ : Nat → Int} {W0 : World} (hL : L0 W0) : ∀ x ∈ l21, MemoOk Tryz.prog 59391 σ W0 31 x := all_cons (m9_ok hL) (all_cons (m12_ok hL) (all_cons (m7_ok hL) (all_cons (m6_ok hL) (all_cons (m5_ok hL) (all_cons (m20_ok hL) (all_cons (m10_ok hL) (all_cons (m2_ok hL) (all_nil))))))))
theorem run21 : isTrue (evCall (cxX Tryz.prog bad [] [] ((8, numExtE [(0, 11, .lit 0), (0, 10, .lit 1), (0, 8, .lit 5), (0, 2, .lit 1)]) :: (31, frameFn l21) :: q1)) 1000 60 6 [.int .i64 (.var 0)] (sentH 453 20 errTab)) = true := by kernel_rfl
theorem case21 : CaseS [] [] [(0, 11, .lit 0), (0, 10, .lit 1), (0, 8, .lit 5), (0, 2, .lit 1)] [.int .i64 (.var 0)] := caseS (fun hL hk hT => FnsOk.cons (hT.ok fit) (FnsOk.cons (frame_fn_ok (l21_ok hL)) ((q1_ok hL)))) run21
noncomputable def l22 : List (Memo) := m9 :: m8 :: m7 :: m6 :: m5 :: m22 :: m13 :: m2 :: []
theorem l22_ok {σ : Nat → Int} {W0 : World} (hL : L0 W0) : ∀ x ∈ l22, MemoOk Tryz.prog 59391 σ W0 31 x := all_cons (m9_ok hL) (all_cons (m8_ok hL) (all_cons (m7_ok hL) (all_cons (m6_ok hL) (all_cons (m5_ok hL) (all_cons (m22_ok hL) (all_cons (m13_ok hL) (all_cons (m2_ok hL) (all_nil))))))))
theorem run22 : isTrue (evCall (cxX Tryz.prog bad [] [] ((8, numExtE [(0, 11, .lit 0), (0, 10, .lit 2), (0, 8, .lit 6), (0, 2, .lit 0)]) :: (31, frameFn l22) :: q1)) 1000 60 6 [.int .i64 (.var 0)] (sentH 453 20 errTab)) = true := by kernel_rfl
theorem case22 : CaseS [] [] [(0, 11, .lit 0), (0, 10, .lit 2), (0, 8, .lit 6), (0, 2, .lit 0)] [.int .i64 (.var 0)] := caseS (fun hL hk hT => FnsOk.cons (hT.ok fit) (FnsOk.cons (frame_fn_ok (l22_ok hL)) ((q1_ok hL)))) run22
noncomputable def l23 : List (Memo) := m9 :: m12 :: m7 :: m6 :: m5 :: m24 :: m15 :: m2 :: []
theorem l23_ok {σ : Nat → Int} {W0 : World} (hL : L0 W0) : ∀ x ∈ l23, MemoOk Tryz.prog 59391 σ W0 31 x := all_cons (m9_ok hL) (all_cons (m12_ok hL) (all_cons (m7_ok hL) (all_cons (m6_ok hL) (all_cons (m5_ok hL) (all_cons (m24_ok hL) (all_cons (m15_ok hL) (all_cons (m2_ok hL) (all_nil))))))))
theorem run23 : isTrue (evCall (cxX Tryz.prog bad [] [] ((8, numExtE [(0, 11, .lit 0), (0, 10, .lit 3), (0, 8, .lit 7), (0, 2, .lit 1)]) :: (31, frameFn l23) :: q1)) 1000 60 6 [.int .i64 (.var 0)] (sentH 453 20 errTab)) = true := by kernel_rfl
theorem case23 : CaseS [] [] [(0, 11, .lit 0), (0, 10, .lit 3), (0, 8, .lit 7), (0, 2, .lit 1)] [.int .i64 (.var 0)] := caseS (fun hL hk hT => FnsOk.cons (hT.ok fit) (FnsOk.cons (frame_fn_ok (l23_ok hL)) ((q1_ok hL)))) run23
noncomputable def l24 : List (Memo) := m9 :: m8 :: m7 :: m6 :: m5 :: m4 :: m17 :: m2 :: []
theorem l24_ok {σ : Nat → Int} {W0 : World} (hL : L0 W0) : ∀ x ∈ l24, MemoOk Tryz.prog 59391 σ W0 31 x := all_cons (m9_ok hL) (all_cons (m8_ok hL) (all_cons (m7_ok hL) (all_cons (m6_ok hL) (all_cons (m5_ok hL) (all_cons (m4_ok hL) (all_cons (m17_ok hL) (all_cons (m2_ok hL) (all_nil))))))))
theorem run24 : isTrue (evCall (cxX Tryz.prog bad [] [] ((8, numExtE [(0, 11, .lit 0), (0, 10, .lit 4), (0, 8, .lit 0), (0, 2, .lit 0)]) :: (31, frameFn l24) :: q1)) 1000 60 6 [.int .i64 (.var 0)] (sentH 453 20 errTab)) = true := by kernel_rfl
theorem case24 : CaseS [] [] [(0, 11, .lit 0), (0, 10, .lit 4), (0, 8, .lit 0), (0, 2, .lit 0)] [.int .i64 (.var 0)] := caseS (fun hL hk hT => FnsOk.cons (hT.ok fit) (FnsOk.cons (frame_fn_ok (l24_ok hL)) ((q1_ok hL)))) run24
noncomputable def l25 : List (Memo) := m9 :: m12 :: m7 :: m6 :: m5 :: m11 :: m19 :: m2 :: []
theorem l25_ok {σ : Nat → Int} {W0 : World} (hL : L0 W0) : ∀ x ∈ l25, MemoOk Tryz.prog 59391 σ W0 31 x := all_cons (m9_ok hL) (all_cons (m12_ok hL) (all_cons (m7_ok hL) (all_cons (m6_ok hL) (all_cons (m5_ok hL) (all_cons (m11_ok hL) (all_cons (m19_ok hL) (all_cons (m2_ok hL) (all_nil))))))))
theorem run25 : isTrue (evCall (cxX Tryz.prog bad [] [] ((8, numExtE [(0, 11, .lit 0), (0, 10, .lit 5), (0, 8, .lit 1), (0, 2, .lit 1)]) :: (31, frameFn l25) :: q1)) 1000 60 6 [.int .i64 (.var 0)] (sentH 453 20 errTab)) = true := by kernel_rfl
theorem case25 : CaseS [] [] [(0, 11, .lit 0), (0, 10, .lit 5), (0, 8, .lit 1), (0, 2, .lit 1)] [.int .i64 (.var 0)] := caseS (fun hL hk hT => FnsOk.cons (hT.ok fit) (FnsOk.cons (frame_fn_ok (l25_ok hL)) ((q1_ok hL)))) run25
noncomputable def l26 : List (Memo) := m9 :: m8 :: m7 :: m6 :: m5 :: m14 :: m21 :: m2 :: []
theorem l26_ok {σ : Nat → Int} {W0 : World} (hL : L0 W0) : ∀ x ∈ l26, MemoOk Tryz.prog 59391 σ W0 31 x := all_cons (m9_ok hL) (all_cons (m8_ok hL) (all_cons (m7_ok hL) (all_cons (m6_ok hL) (all_cons (m5_ok hL) (all_cons (m14_ok hL) (all_cons (m21_ok hL) (all_cons (m2_ok hL) (all_nil))))))))
theorem run26 : isTrue (evCall (cxX Tryz.prog bad [] [] ((8, numExtE [(0, 11, .lit 0), (0, 10, .lit 6), (0, 8, .lit 2), (0, 2, .lit 0)]) :: (31, frameFn l26) :: q1)) 1000 60 6 [.int .i64 (.var 0)] (sentH 453 20 errTab)) = true := by kernel_rfl
theorem case26 : CaseS [] [] [(0, 11, .lit 0), (0, 10, .lit 6), (0, 8, .lit 2), (0, 2, .lit 0)] [.int .i64 (.var 0)] := caseS (fun hL hk hT => FnsOk.cons (hT.ok fit) (FnsOk.cons (frame_fn_ok (l26_ok hL)) ((q1_ok hL)))) run26
noncomputable def l27 : List (Memo) := m9 :: m12 :: m7 :: m6 :: m5 :: m16 :: m23 :: m2 :: []
theorem l27_ok {σ : Nat → Int} {W0 : World} (hL : L0 W0) : ∀ x ∈ l27, MemoOk Tryz.prog 59391 σ W0 31 x := all_cons (m9_ok hL) (all_cons (m12_ok hL) (all_cons (m7_ok hL) (all_cons (m6_ok hL) (all_cons (m5_ok hL) (all_cons (m16_ok hL) (all_cons (m23_ok hL) (all_cons (m2_ok hL) (all_nil))))))))
theorem run27 : isTrue (evCall (cxX Tryz.prog bad [] [] ((8, numExtE [(0, 11, .lit 0), (0, 10, .lit 7), (0, 8, .lit 3), (0, 2, .lit 1)]) :: (31, frameFn l27) :: q1)) 1000 60 6 [.int .i64 (.var 0)] (sentH 453 20 errTab)) = true := by kernel_rfl
theorem case27 : CaseS [] [] [(0, 11, .lit 0), (0, 10, .lit 7), (0, 8, .lit 3), (0, 2, .lit 1)] [.int .i64 (.var 0)] := caseS (fun hL hk hT => FnsOk.cons (hT.ok fit) (FnsOk.cons (frame_fn_ok (l27_ok hL)) ((q1_ok hL)))) run27
noncomputable def l28 : List (Memo) := m9 :: m8 :: m7 :: m6 :: m5 :: m18 :: m25 :: m2 :: []
theorem l28_ok {σ : Nat → Int} {W0 : World} (hL : L0 W0) : ∀ x ∈ l28, MemoOk Tryz.prog 59391 σ W0 31 x := all_cons (m9_ok hL) (all_cons (m8_ok hL) (all_cons (m7_ok hL) (all_cons (m6_ok hL) (all_cons (m5_ok hL) (all_cons (m18_ok hL) (all_cons (m25_ok hL) (all_cons (m2_ok hL) (all_nil))))))))
theorem run28 : isTrue (evCall (cxX Tryz.prog bad [] [] ((8, numExtE [(0, 11, .lit 0), (0, 10, .lit 8), (0, 8, .lit 4), (0, 2, .lit 0)]) :: (31, frameFn l28) :: q1)) 1000 60 6 [.int .i64 (.var 0)] (sentH 453 20 errTab)) = true := by kernel_rfl
theorem case28 : CaseS [] [] [(0, 11, .lit 0), (0, 10, .lit 8), (0, 8, .lit 4), (0, 2, .lit 0)] [.int .i64 (.var 0)] := caseS (fun hL hk hT => FnsOk.cons (hT.ok fit) (FnsOk.cons (frame_fn_ok (l28_ok hL)) ((q1_ok hL)))) run28
noncomputable def l29 : List (Memo) := m9 :: m12 :: m7 :: m6 :: m5 :: m20 :: m26 :: m2 :: []
theorem l29_ok {σ : Nat → Int} {W0 : World} (hL : L0 W0) : ∀ x ∈ l29, MemoOk Tryz.prog 59391 σ W0 31 x := all_cons (m9_ok hL) (all_cons (m12_ok hL) (all_cons (m7_ok hL) (all_cons (m6_ok hL) (all_cons (m5_ok hL) (all_cons (m20_ok hL) (all_cons (m26_ok hL) (all_cons (m2_ok hL) (all_nil))))))))
theorem run29 : isTrue (evCall (cxX Tryz.prog bad [] [] ((8, numExtE [(0, 11, .lit 0), (0, 10, .lit 9), (0, 8, .lit 5), (0, 2, .lit 1)]) :: (31, frameFn l29) :: q1)) 1000 60 6 [.int .i64 (.var 0)] (sentH 453 20 errTab)) = true := by kernel_rfl
theorem case29 : CaseS [] [] [(0, 11, .lit 0), (0, 10, .lit 9), (0, 8, .lit 5), (0, 2, .lit 1)] [.int .i64 (.var 0)] := caseS (fun hL hk hT => FnsOk.cons (hT.ok fit) (FnsOk.cons (frame_fn_ok (l29_ok hL)) ((q1_ok hL)))) run29
noncomputable def l30 : List (Memo) := m9 :: m8 :: m7 :: m6 :: m5 :: m22 :: m3 :: m2 :: []
theorem l30_ok {σ : Nat → Int} {W0 : World} (hL : L0 W0) : ∀ x ∈ l30, MemoOk Tryz.prog 59391 σ W0 31 x := all_cons (m9_ok hL) (all_cons (m8_ok hL) (all_cons (m7_ok hL) (all_cons (m6_ok hL) (all_cons (m5_ok hL) (all_cons (m22_ok hL) (all_cons (m3_ok hL) (all_cons (m2_ok hL) (all_nil))))))))
theorem run30 : isTrue (evCall (cxX Tryz.prog bad [] [] ((8, numExtE [(0, 11, .lit 0), (0, 10, .lit 0), (0, 8, .lit 6), (0, 2, .lit 0)]) :: (31, frameFn l30) :: q1)) 1000 60 6 [.int .i64 (.var 0)] (sentH 453 20 errTab)) = true := by kernel_rfl
theorem case30 : CaseS [] [] [(0, 11, .lit 0), (0, 10, .lit 0), (0, 8, .lit 6), (0, 2, .lit 0)] [.int .i64 (.var 0)] := caseS (fun hL hk hT => FnsOk.cons (hT.ok fit) (FnsOk.cons (frame_fn_ok (l30_ok hL)) ((q1_ok hL)))) run30
noncomputable def l31 : List (Memo) := m9 :: m12 :: m7 :: m6 :: m5 :: m24 :: m10 :: m2 :: []
theorem l31_ok {σ : Nat → Int} {W0 : World} (hL : L0 W0) : ∀ x ∈ l31, MemoOk Tryz.prog 59391 σ W0 31 x := all_cons (m9_ok hL) (all_cons (m12_ok hL) (all_cons (m7_ok hL) (all_cons (m6_ok hL) (all_cons (m5_ok hL) (all_cons (m24_ok hL) (all_cons (m10_ok hL) (all_cons (m2_ok hL) (all_nil))))))))
theorem run31 : isTrue (evCall (cxX Tryz.prog bad [] [] ((8, numExtE [(0, 11, .lit 0), (0, 10, .lit 1), (0, 8, .lit 7), (0, 2, .lit 1)]) :: (31, frameFn l31) :: q1)) 1000 60 6 [.int .i64 (.var 0)] (sentH 453 20 errTab)) = true := by kernel_rfl
theorem case31 : CaseS [] [] [(0, 11, .lit 0), (0, 10, .lit 1), (0, 8, .lit 7), (0, 2, .lit 1)] [.int .i64 (.var 0)] := caseS (fun hL hk hT => FnsOk.cons (hT.ok fit) (FnsOk.cons (frame_fn_ok (l31_ok hL)) ((q1_ok hL)))) run31
noncomputable def l32 : List (Memo) := m9 :: m8 :: m7 :: m6 :: m5 :: m4 :: m13 :: m2 :: []
theorem l32_ok {σ : Nat → Int} {W0 : World} (hL : L0 W0) : ∀ x ∈ l32, MemoOk Tryz.prog 59391 σ W0 31 x := all_cons (m9_ok hL) (all_cons (m8_ok hL) (all_cons (m7_ok hL) (all_cons (m6_ok hL) (all_cons (m5_ok hL) (all_cons (m4_ok hL) (all_cons (m13_ok hL) (all_cons (m2_ok hL) (all_nil))))))))
theorem run32 : isTrue (evCall (cxX Tryz.prog bad [] [] ((8, numExtE [(0, 11, .lit 0), (0, 10, .lit 2), (0, 8, .lit 0), (0, 2, .lit 0)]) :: (31, frameFn l32) :: q1)) 1000 60 6 [.int .i64 (.var 0)] (sentH 453 20 errTab)) = true := by kernel_rfl
theorem case32 : CaseS [] [] [(0, 11, .lit 0), (0, 10, .lit 2), (0, 8, .lit 0), (0, 2, .lit 0)] [.int .i64 (.var 0)] := caseS (fun hL hk hT => FnsOk.cons (hT.ok fit) (FnsOk.cons (frame_fn_ok (l32_ok hL)) ((q1_ok hL)))) run32
noncomputable def l33 : List (Memo) := m9 :: m12 :: m7 :: m6 :: m5 :: m11 :: m15 :: m2 :: []
theorem l33_ok {σ : Nat → Int} {W0 : World} (hL : L0 W0) : ∀ x ∈ l33, MemoOk Tryz.prog 59391 σ W0 31 x := all_cons (m9_ok hL) (all_cons (m12_ok hL) (all_cons (m7_ok hL) (all_cons (m6_ok hL) (all_cons (m5_ok hL) (all_cons (m11_ok hL) (all_cons (m15_ok hL) (all_cons (m2_ok hL) (all_nil))))))))
theorem run33 : isTrue (evCall (cxX Tryz.prog bad [] [] ((8, numExtE [(0, 11, .lit 0), (0, 10, .lit 3), (0, 8, .lit 1), (0, 2, .lit 1)]) :: (31, frameFn l33) :: q1)) 1000 60 6 [.int .i64 (.var 0)] (sentH 453 20 errTab)) = true := by kernel_rfl
theorem case33 : CaseS [] [] [(0, 11, .lit 0), (0, 10, .lit 3), (0, 8, .lit 1), (0, 2, .lit 1)] [.int .i64 (.var 0)] := caseS (fun hL hk hT => FnsOk.cons (hT.ok fit) (FnsOk.cons (frame_fn_ok (l33_ok hL)) ((q1_ok hL)))) run33
noncomputable def l34 : List (Memo) := m9 :: m8 :: m7 :: m6 :: m5 :: m14 :: m17 :: m2 :: []
theorem l34_ok {σ : Nat → Int} {W0 : World} (hL : L0 W0) : ∀ x ∈ l34, MemoOk Tryz.prog 59391 σ W0 31 x := all_cons (m9_ok hL) (all_cons (m8_ok hL) (all_cons (m7_ok hL) (all_cons (m6_ok hL) (all_cons (m5_ok hL) (all_cons (m14_ok hL) (all_cons (m17_ok hL) (all_cons (m2_ok hL) (all_nil))))))))
theorem run34 : isTrue (evCall (cxX Tryz.prog bad [] [] ((8, numExtE [(0, 11, .lit 0), (0, 10, .lit 4), (0, 8, .lit 2), (0, 2, .lit 0)]) :: (31, frameFn l34) :: q1)) 1000 60 6 [.int .i64 (.var 0)] (sentH 453 20 errTab)) = true := by kernel_rfl
theorem case34 : CaseS [] [] [(0, 11, .lit 0), (0, 10, .lit 4), (0, 8, .lit 2), (0, 2, .lit 0)] [.int .i64 (.var 0)] := caseS (fun hL hk hT => FnsOk.cons (hT.ok fit) (FnsOk.cons (frame_fn_ok (l34_ok hL)) ((q1_ok hL)))) run34
noncomputable def l35 : List (Memo) := m9 :: m12 :: m7 :: m6 :: m5 :: m16 :: m19 :: m2 :: []
theorem l35_ok {σ : Nat → Int} {W0 : World} (hL : L0 W0) : ∀ x ∈ l35, MemoOk Tryz.prog 59391 σ W0 31 x := all_cons (m9_ok hL) (all_cons (m12_ok hL) (all_cons (m7_ok hL) (all_cons (m6_ok hL) (all_cons (m5_ok hL) (all_cons (m16_ok hL) (all_cons (m19_ok hL) (all_cons (m2_ok hL) (all_nil))))))))
theorem run35 : isTrue (evCall (cxX Tryz.prog bad [] [] ((8, numExtE [(0, 11, .lit 0), (0, 10, .lit 5), (0, 8, .lit 3), (0, 2, .lit 1)]) :: (31, frameFn l35) :: q1)) 1000 60 6 [.int .i64 (.var 0)] (sentH 453 20 errTab)) = true := by kernel_rfl
theorem case35 : CaseS [] [] [(0, 11, .lit 0), (0, 10, .lit 5), (0, 8, .lit 3), (0, 2, .lit 1)] [.int .i64 (.var 0)] := caseS (fun hL hk hT => FnsOk.cons (hT.ok fit) (FnsOk.cons (frame_fn_ok (l35_ok hL)) ((q1_ok hL)))) run35
noncomputable def l36 : List (Memo) := m9 :: m8 :: m7 :: m6 :: m5 :: m18 :: m21 :: m2 :: []
theorem l36_ok {σ : Nat → Int} {W0 : World} (hL : L0 W0) : ∀ x ∈ l36, MemoOk Tryz.prog 59391 σ W0 31 x := all_cons (m9_ok hL) (all_cons (m8_ok hL) (all_cons (m7_ok hL) (all_cons (m6_ok hL) (all_cons (m5_ok hL) (all_cons (m18_ok hL) (all_cons (m21_ok hL) (all_cons (m2_ok hL) (all_nil))))))))
theorem run36 : isTrue (evCall (cxX Tryz.prog bad [] [] ((8, numExtE [(0, 11, .lit 0), (0, 10, .lit 6), (0, 8, .lit 4), (0, 2, .lit 0)]) :: (31, frameFn l36) :: q1)) 1000 60 6 [.int .i64 (.var 0)] (sentH 453 20 errTab)) = true := by kernel_rfl
theorem case36 : CaseS [] [] [(0, 11, .lit 0), (0, 10, .lit 6), (0, 8, .lit 4), (0, 2, .lit 0)] [.int .i64 (.var 0)] := caseS (fun hL hk hT => FnsOk.cons (hT.ok fit) (FnsOk.cons (frame_fn_ok (l36_ok hL)) ((q1_ok hL)))) run36
noncomputable def l37 : List (Memo) := m9 :: m12 :: m7 :: m6 :: m5 :: m20 :: m23 :: m2 :: []
theorem l37_ok {σ : Nat → Int} {W0 : World} (hL : L0 W0) : ∀ x ∈ l37, MemoOk Tryz.prog 59391 σ W0 31 x := all_cons (m9_ok hL) (all_cons (m12_ok hL) (all_cons (m7_ok hL) (all_cons (m6_ok hL) (all_cons (m5_ok hL) (all_cons (m20_ok hL) (all_cons (m23_ok hL) (all_cons (m2_ok hL) (all_nil))))))))
theorem run37 : isTrue (evCall (cxX Tryz.prog bad [] [] ((8, numExtE [(0, 11, .lit 0), (0, 10, .lit 7), (0, 8, .lit 5), (0, 2, .lit 1)]) :: (31, frameFn l37) :: q1)) 1000 60 6 [.int .i64 (.var 0)] (sentH 453 20 errTab)) = true := by kernel_rfl
theorem case37 : CaseS [] [] [(0, 11, .lit 0), (0, 10, .lit 7), (0, 8, .lit 5), (0, 2, .lit 1)] [.int .i64 (.var 0)] := caseS (fun hL hk hT => FnsOk.cons (hT.ok fit) (FnsOk.cons (frame_fn_ok (l37_ok hL)) ((q1_ok hL)))) run37
noncomputable def l38 : List (Memo) := m9 :: m8 :: m7 :: m6 :: m5 :: m22 :: m25 :: m2 :: []
theorem l38_ok {σ : Nat → Int} {W0 : World} (hL : L0 W0) : ∀ x ∈ l38, MemoOk Tryz.prog 59391 σ W0 31 x := all_cons (m9_ok hL) (all_cons (m8_ok hL) (all_cons (m7_ok hL) (all_cons (m6_ok hL) (all_cons (m5_ok hL) (all_cons (m22_ok hL) (all_cons (m25_ok hL) (all_cons (m2_ok hL) (all_nil))))))))
theorem run38 : isTrue (evCall (cxX Tryz.prog bad [] [] ((8, numExtE [(0, 11, .lit 0), (0, 10, .lit 8), (0, 8, .lit 6), (0, 2, .lit 0)]) :: (31, frameFn l38) :: q1)) 1000 60 6 [.int .i64 (.var 0)] (sentH 453 20 errTab)) = true := by kernel_rfl
theorem case38 : CaseS [] [] [(0, 11, .lit 0), (0, 10, .lit 8), (0, 8, .lit 6), (0, 2, .lit 0)] [.int .i64 (.var 0)] := caseS (fun hL hk hT => FnsOk.cons (hT.ok fit) (FnsOk.cons (frame_fn_ok (l38_ok hL)) ((q1_ok hL)))) run38
noncomputable def l39 : List (Memo) := m9 :: m12 :: m7 :: m6 :: m5 :: m24 :: m26 :: m2 :: []
theorem l39_ok {σ : Nat → Int} {W0 : World} (hL : L0 W0) : ∀ x ∈ l39, MemoOk Tryz.prog 59391 σ W0 31 x := all_cons (m9_ok hL) (all_cons (m12_ok hL) (all_cons (m7_ok hL) (all_cons (m6_ok hL) (all_cons (m5_ok hL) (all_cons (m24_ok hL) (all_cons (m26_ok hL) (all_cons (m2_ok hL) (all_nil))))))))
theorem run39 : isTrue (evCall (cxX Tryz.prog bad [] [] ((8, numExtE [(0, 11, .lit 0), (0, 10, .lit 9), (0, 8, .lit 7), (0, 2, .lit 1)]) :: (31, frameFn l39) :: q1)) 1000 60 6 [.int .i64 (.var 0)] (sentH 453 20 errTab)) = true := by kernel_rfl
theorem case39 : CaseS [] [] [(0, 11, .lit 0), (0, 10, .lit 9), (0, 8, .lit 7), (0, 2, .lit 1)] [.int .i64 (.var 0)] := caseS (fun hL hk hT => FnsOk.cons (hT.ok fit) (FnsOk.cons (frame_fn_ok (l39_ok hL)) ((q1_ok hL)))) run39
noncomputable def m27 : Memo := ⟨[.ptr 34 0, .str [112, 114, 111, 103, 114, 97, 109, 32, 49]], h2, .tuple [.snil, .iface 453 (.ptr 32 0)], h3⟩
theorem m27_run : ranTo (evCall (cxX Tryz.prog bad [] [] q0) 1000 60 31 m27.args m27.h) m27.v m27.h' = true := by kernel_rfl
theorem m27_ok {σ : Nat → Int} {W0 : World} (hL : L0 W0) : MemoOk Tryz.prog 59391 σ W0 31 m27 := memo_ok fit (Known2.nil σ) ((q0_ok hL)) m27_run
noncomputable def l40 : List (Memo) := m9 :: m8 :: m7 :: m6 :: m5 :: m4 :: m3 :: m27 :: []
theorem l40_ok {σ : Nat → Int} {W0 : World} (hL : L0 W0) : ∀ x ∈ l40, MemoOk Tryz.prog 59391 σ W0 31 x := all_cons (m9_ok hL) (all_cons (m8_ok hL) (all_cons (m7_ok hL) (all_cons (m6_ok hL) (all_cons (m5_ok hL) (all_cons (m4_ok hL) (all_cons (m3_ok hL) (all_cons (m27_ok hL) (all_nil))))))))
theorem run40 : isTrue (evCall (cxX Tryz.prog bad [] [] ((8, numExtE [(0, 11, .lit 1), (0, 10, .lit 0), (0, 8, .lit 0), (0, 2, .lit 0)]) :: (31, frameFn l40) :: q1)) 1000 60 6 [.int .i64 (.var 0)] (sentH 453 20 errTab)) = true := by kernel_rfl
theorem case40 : CaseS [] [] [(0, 11, .lit 1), (0, 10, .lit 0), (0, 8, .lit 0), (0, 2, .lit 0)] [.int .i64 (.var 0)] := caseS (fun hL hk hT => FnsOk.cons (hT.ok fit) (FnsOk.cons (frame_fn_ok (l40_ok hL)) ((q1_ok hL)))) run40
noncomputable def l41 : List (Memo) := m9 :: m12 :: m7 :: m6 :: m5 :: m11 :: m10 :: m27 :: []
theorem l41_ok {σ : Nat → Int} {W0 : World} (hL : L0 W0) : ∀ x ∈ l41, MemoOk Tryz.prog 59391 σ W0 31 x := all_cons (m9_ok hL) (all_cons (m12_ok hL) (all_cons (m7_ok hL) (all_cons (m6_ok hL) (all_cons (m5_ok hL) (all_cons (m11_ok hL) (all_cons (m10_ok hL) (all_cons (m27_ok hL) (all_nil))))))))
theorem run41 : isTrue (evCall (cxX Tryz.prog bad [] [] ((8, numExtE [(0, 11, .lit 1), (0, 10, .lit 1), (0, 8, .lit 1), (0, 2, .lit 1)]) :: (31, frameFn l41) :: q1)) 1000 60 6 [.int .i64 (.var 0)] (sentH 453 20 errTab)) = true := by kernel_rfl
theorem case41 : CaseS [] [] [(0, 11, .lit 1), (0, 10, .lit 1), (0, 8, .lit 1), (0, 2, .lit 1)] [.int .i64 (.var 0)] := caseS (fun hL hk hT => FnsOk.cons (hT.ok fit) (FnsOk.cons (frame_fn_ok (l41_ok hL)) ((q1_ok hL)))) run41
noncomputable def l42 : List (Memo) := m9 :: m8 :: m7 :: m6 :: m5 :: m14 :: m13 :: m27 :: []
theorem l42_ok {σ : Nat → Int} {W0 : World} (hL : L0 W0) : ∀ x ∈ l42, MemoOk Tryz.prog 59391 σ W0 31 x := all_cons (m9_ok hL) (all_cons (m8_ok hL) (all_cons (m7_ok hL) (all_cons (m6_ok hL) (all_cons (m5_ok hL) (all_cons (m14_ok hL) (all_cons (m13_ok hL) (all_cons (m27_ok hL) (all_nil))))))))
theorem run42 : isTrue (evCall (cxX Tryz.prog bad [] [] ((8, numExtE [(0, 11, .lit 1), (0, 10, .lit 2), (0, 8, .lit 2), (0, 2, .lit 0)]) :: (31, frameFn l42) :: q1)) 1000 60 6 [.int .i64 (.var 0)] (sentH 453 20 errTab)) = true := by kernel_rfl
theorem case42 : CaseS [] [] [(0, 11, .lit 1), (0, 10, .lit 2), (0, 8, .lit 2), (0, 2, .lit 0)] [.int .i64 (.var 0)] := caseS (fun hL hk hT => FnsOk.cons (hT.ok fit) (FnsOk.cons (frame_fn_ok (l42_ok hL)) ((q1_ok hL)))) run42
noncomputable def l43 : List (Memo) := m9 :: m12 :: m7 :: m6 :: m5 :: m16 :: m15 :: m27 :: []
theorem l43_ok {σ : Nat → Int} {W0 : World} (hL : L0 W0) : ∀ x ∈ l43, MemoOk Tryz.prog 59391 σ W0 31 x := all_cons (m9_ok hL) (all_cons (m12_ok hL) (all_cons (m7_ok hL) (all_cons (m6_ok hL) (all_cons (m5_ok hL) (all_cons (m16_ok hL) (all_cons (m15_ok hL) (all_cons (m27_ok hL) (all_nil))))))))
theorem run43 : isTrue (evCall (cxX Tryz.prog bad [] [] ((8, numExtE [(0, 11, .lit 1), (0, 10, .lit 3), (0, 8, .lit 3), (0, 2, .lit 1)]) :: (31, frameFn l43) :: q1)) 1000 60 6 [.int .i64 (.var 0)] (sentH 453 20 errTab)) = true := by kernel_rfl
theorem case43 : CaseS [] [] [(0, 11, .lit 1), (0, 10, .lit 3), (0, 8, .lit 3), (0, 2, .lit 1)] [.int .i64 (.var 0)] := caseS (fun hL hk hT => FnsOk.cons (hT.ok fit) (FnsOk.cons (frame_fn_ok (l43_ok hL)) ((q1_ok hL)))) run43
noncomputable def l44 : List (Memo) := m9 :: m8 :: m7 :: m6 :: m5 :: m18 :: m17 :: m27 :: []
theorem l44_ok {σ : Nat → Int} {W0 : World} (hL : L0 W0) : ∀ x ∈ l44, MemoOk Tryz.prog 59391 σ W0 31 x := all_cons (m9_ok hL) (all_cons (m8_ok hL) (all_cons (m7_ok hL) (all_cons (m6_ok hL) (all_cons (m5_ok hL) (all_cons (m18_ok hL) (all_cons (m17_ok hL) (all_cons (m27_ok hL) (all_nil))))))))
theorem run44 : isTrue (evCall (cxX Tryz.prog bad [] [] ((8, numExtE [(0, 11, .lit 1), (0, 10, .lit 4), (0, 8, .lit 4), (0, 2, .lit 0)]) :: (31, frameFn l44) :: q1)) 1000 60 6 [.int .i64 (.var 0)] (sentH 453 20 errTab)) = true := by kernel_rfl
theorem case44 : CaseS [] [] [(0, 11, .lit 1), (0, 10, .lit 4), (0, 8, .lit 4), (0, 2, .lit 0)] [.int .i64 (.var 0)] := caseS (fun hL hk hT => FnsOk.cons (hT.ok fit) (FnsOk.cons (frame_fn_ok (l44_ok hL)) ((q1_ok hL)))) run44
noncomputable def l45 : List (Memo) := m9 :: m12 :: m7 :: m6 :: m5 :: m20 :: m19 :: m27 :: []
theorem l45_ok {σ : Nat → Int} {W0 : World} (hL : L0 W0) : ∀ x ∈ l45, MemoOk Tryz.prog 59391 σ W0 31 x := all_cons (m9_ok hL) (all_cons (m12_ok hL) (all_cons (m7_ok hL) (all_cons (m6_ok hL) (all_cons (m5_ok hL) (all_cons (m20_ok hL) (all_cons (m19_ok hL) (all_cons (m27_ok hL) (all_nil))))))))
theorem run45 : isTrue (evCall (cxX Tryz.prog bad [] [] ((8, numExtE [(0, 11, .lit 1), (0, 10, .lit 5), (0, 8, .lit 5), (0, 2, .lit 1)]) :: (31, frameFn l45) :: q1)) 1000 60 6 [.int .i64 (.var 0)] (sentH 453 20 errTab)) = true := by kernel_rfl
theorem case45 : CaseS [] [] [(0, 11, .lit 1), (0, 10, .lit 5), (0, 8, .lit 5), (0, 2, .lit 1)] [.int .i64 (.var 0)] := caseS (fun hL hk hT => FnsOk.cons (hT.ok fit) (FnsOk.cons (frame_fn_ok (l45_ok hL)) ((q1_ok hL)))) run45
noncomputable def l46 : List (Memo) := m9 :: m8 :: m7 :: m6 :: m5 :: m22 :: m21 :: m27 :: []
theorem l46_ok {σ : Nat → Int} {W0 : World} (hL : L0 W0) : ∀ x ∈ l46, MemoOk Tryz.prog 59391 σ W0 31 x := all_cons (m9_ok hL) (all_cons (m8_ok hL) (all_cons (m7_ok hL) (all_cons (m6_ok hL) (all_cons (m5_ok hL) (all_cons (m22_ok hL) (all_cons (m21_ok hL) (all_cons (m27_ok hL) (all_nil))))))))
theorem run46 : isTrue (evCall (cxX Tryz.prog bad [] [] ((8, numExtE [(0, 11, .lit 1), (0, 10, .lit 6), (0, 8, .lit 6), (0, 2, .lit 0)]) :: (31, frameFn l46) :: q1)) 1000 60 6 [.int .i64 (.var 0)] (sentH 453 20 errTab)) = true := by kernel_rfl
theorem case46 : CaseS [] [] [(0, 11, .lit 1), (0, 10, .lit 6), (0, 8, .lit 6), (0, 2, .lit 0)] [.int .i64 (.var 0)] := caseS (fun hL hk hT => FnsOk.cons (hT.ok fit) (FnsOk.cons (frame_fn_ok (l46_ok hL)) ((q1_ok hL)))) run46
noncomputable def l47 : List (Memo) := m9 :: m12 :: m7 :: m6 :: m5 :: m24 :: m23 :: m27 :: []
theorem l47_ok {σ : Nat → Int} {W0 : World} (hL : L0 W0) : ∀ x ∈ l47, MemoOk Tryz.prog 59391 σ W0 31 x := all_cons (m9_ok hL) (all_cons (m12_ok hL) (all_cons (m7_ok hL) (all_cons (m6_ok hL) (all_cons (m5_ok hL) (all_cons (m24_ok hL) (all_cons (m23_ok hL) (all_cons (m27_ok hL) (all_nil))))))))
theorem run47 : isTrue (evCall (cxX Tryz.prog bad [] [] ((8, numExtE [(0, 11, .lit 1), (0, 10, .lit 7), (0, 8, .lit 7), (0, 2, .lit 1)]) :: (31, frameFn l47) :: q1)) 1000 60 6 [.int .i64 (.var 0)] (sentH 453 20 errTab)) = true := by kernel_rfl
theorem case47 : CaseS [] [] [(0, 11, .lit 1), (0, 10, .lit 7), (0, 8, .lit 7), (0, 2, .lit 1)] [.int .i64 (.var 0)] := caseS (fun hL hk hT => FnsOk.cons (hT.ok fit) (FnsOk.cons (frame_fn_ok (l47_ok hL)) ((q1_ok hL)))) run47
noncomputable def l48 : List (Memo) := m9 :: m8 :: m7 :: m6 :: m5 :: m4 :: m25 :: m27 :: []
theorem l48_ok {σ : Nat → Int} {W0 : World} (hL : L0 W0) : ∀ x ∈ l48, MemoOk Tryz.prog 59391 σ W0 31 x := all_cons (m9_ok hL) (all_cons (m8_ok hL) (all_cons (m7_ok hL) (all_cons (m6_ok hL) (all_cons (m5_ok hL) (all_cons (m4_ok hL) (all_cons (m25_ok hL) (all_cons (m27_ok hL) (all_nil))))))))
theorem run48 : isTrue (evCall (cxX Tryz.prog bad [] [] ((8, numExtE [(0, 11, .lit 1), (0, 10, .lit 8), (0, 8, .lit 0), (0, 2, .lit 0)]) :: (31, frameFn l48) :: q1)) 1000 60 6 [.int .i64 (.var 0)] (sentH 453 20 errTab)) = true := by kernel_rfl
theorem case48 : CaseS [] [] [(0, 11, .lit 1), (0, 10, .lit 8), (0, 8, .lit 0), (0, 2, .lit 0)] [.int .i64 (.var 0)] := caseS (fun hL hk hT => FnsOk.cons (hT.ok fit) (FnsOk.cons (frame_fn_ok (l48_ok hL)) ((q1_ok hL)))) run48
noncomputable def l49 : List (Memo) := m9 :: m12 :: m7 :: m6 :: m5 :: m11 :: m26 :: m27 :: []
theorem l49_ok {σ : Nat → Int} {W0 : World} (hL : L0 W0) : ∀ x ∈ l49, MemoOk Tryz.prog 59391 σ W0 31 x := all_cons (m9_ok hL) (all_cons (m12_ok hL) (all_cons (m7_ok hL) (all_cons (m6_ok hL) (all_cons (m5_ok hL) (all_cons (m11_ok hL) (all_cons (m26_ok hL) (all_cons (m27_ok hL) (all_nil))))))))
theorem run49 : isTrue (evCall (cxX Tryz.prog bad [] [] ((8, numExtE [(0, 11, .lit 1), (0, 10, .lit 9), (0, 8, .lit 1), (0, 2, .lit 1)]) :: (31, frameFn l49) :: q1)) 1000 60 6 [.int .i64 (.var 0)] (sentH 453 20 errTab)) = true := by kernel_rfl
theorem case49 : CaseS [] [] [(0, 11, .lit 1), (0, 10, .lit 9), (0, 8, .lit 1), (0, 2, .lit 1)] [.int .i64 (.var 0)] := caseS (fun hL hk hT => FnsOk.cons (hT.ok fit) (FnsOk.cons (frame_fn_ok (l49_ok hL)) ((q1_ok hL)))) run49
noncomputable def l50 : List (Memo) := m9 :: m8 :: m7 :: m6 :: m5 :: m14 :: m3 :: m27 :: []
theorem l50_ok {σ : Nat → Int} {W0 : World} (hL : L0 W0) : ∀ x ∈ l50, MemoOk Tryz.prog 59391 σ W0 31 x := all_cons (m9_ok hL) (all_cons (m8_ok hL) (all_cons (m7_ok hL) (all_cons (m6_ok hL) (all_cons (m5_ok hL) (all_cons (m14_ok hL) (all_cons (m3_ok hL) (all_cons (m27_ok hL) (all_nil))))))))
theorem run50 : isTrue (evCall (cxX Tryz.prog bad [] [] ((8, numExtE [(0, 11, .lit 1), (0, 10, .lit 0), (0, 8, .lit 2), (0, 2, .lit 0)]) :: (31, frameFn l50) :: q1)) 1000 60 6 [.int .i64 (.var 0)] (sentH 453 20 errTab)) = true := by kernel_rfl
theorem case50 : CaseS [] [] [(0, 11, .lit 1), (0, 10, .lit 0), (0, 8, .lit 2), (0, 2, .lit 0)] [.int .i64 (.var 0)] := caseS (fun hL hk hT => FnsOk.cons (hT.ok fit) (FnsOk.cons (frame_fn_ok (l50_ok hL)) ((q1_ok hL)))) run50
noncomputable def l51 : List (Memo) := m9 :: m12 :: m7 :: m6 :: m5 :: m16 :: m10 :: m27 :: []
theorem l51_ok {σ : Nat → Int} {W0 : World} (hL : L0 W0) : ∀ x ∈ l51, MemoOk Tryz.prog 59391 σ W0 31 x := all_cons (m9_ok hL) (all_cons (m12_ok hL) (all_cons (m7_ok hL) (all_cons (m6_ok hL) (all_cons (m5_ok hL) (all_cons (m16_ok hL) (all_cons (m10_ok hL) (all_cons (m27_ok hL) (all_nil))))))))
theorem run51 : isTrue (evCall (cxX Tryz.prog bad [] [] ((8, numExtE [(0, 11, .lit 1), (0, 10, .lit 1), (0, 8, .lit 3), (0, 2, .lit 1)]) :: (31, frameFn l51) :: q1)) 1000 60 6 [.int .i64 (.var 0)] (sentH 453 20 errTab)) = true := by kernel_rfl
theorem case51 : CaseS [] [] [(0, 11, .lit 1), (0, 10, .lit 1), (0, 8, .lit 3), (0, 2, .lit 1)] [.int .i64 (.var 0)] := caseS (fun hL hk hT => FnsOk.cons (hT.ok fit) (FnsOk.cons (frame_fn_ok (l51_ok hL)) ((q1_ok hL)))) run51
noncomputable def l52 : List (Memo) := m9 :: m8 :: m7 :: m6 :: m5 :: m18 :: m13 :: m27 :: []
theorem l52_ok {σ : Nat → Int} {W0 : World} (hL : L0 W0) : ∀ x ∈ l52, MemoOk Tryz.prog 59391 σ W0 31 x := all_cons (m9_ok hL) (all_cons (m8_ok hL) (all_cons (m7_ok hL) (all_cons (m6_ok hL) (all_cons (m5_ok hL) (all_cons (m18_ok hL) (all_cons (m13_ok hL) (all_cons (m27_ok hL) (all_nil))))))))
theorem run52 : isTrue (evCall (cxX Tryz.prog bad [] [] ((8, numExtE [(0, 11, .lit 1), (0, 10, .lit 2), (0, 8, .lit 4), (0, 2, .lit 0)]) :: (31, frameFn l52) :: q1)) 1000 60 6 [.int .i64 (.var 0)] (sentH 453 20 errTab)) = true := by kernel_rfl
theorem case52 : CaseS [] [] [(0, 11, .lit 1), (0, 10, .lit 2), (0, 8, .lit 4), (0, 2, .lit 0)] [.int .i64 (.var 0)] := caseS (fun hL hk hT => FnsOk.cons (hT.ok fit) (FnsOk.cons (frame_fn_ok (l52_ok hL)) ((q1_ok hL)))) run52
noncomputable def l53 : List (Memo) := m9 :: m12 :: m7 :: m6 :: m5 :: m20 :: m15 :: m27 :: []
theorem l53_ok {σ : Nat → Int} {W0 : World} (hL : L0 W0) : ∀ x ∈ l53, MemoOk Tryz.prog 59391 σ W0 31 x := all_cons (m9_ok hL) (all_cons (m12_ok hL) (all_cons (m7_ok hL) (all_cons (m6_ok hL) (all_cons (m5_ok hL) (all_cons (m20_ok hL) (all_cons (m15_ok hL) (all_cons (m27_ok hL) (all_nil))))))))
theorem run53 : isTrue (evCall (cxX Tryz.prog bad [] [] ((8, numExtE [(0, 11, .lit 1), (0, 10, .lit 3), (0, 8, .lit 5), (0, 2, .lit 1)]) :: (31, frameFn l53) :: q1)) 1000 60 6 [.int .i64 (.var 0)] (sentH 453 20 errTab)) = true := by kernel_rfl
theorem case53 : CaseS [] [] [(0, 11, .lit 1), (0, 10, .lit 3), (0, 8, .lit 5), (0, 2, .lit 1)] [.int .i64 (.var 0)] := caseS (fun hL hk hT => FnsOk.cons (hT.ok fit) (FnsOk.cons (frame_fn_ok (l53_ok hL)) ((q1_ok hL)))) run53
noncomputable def l54 : List (Memo) := m9 :: m8 :: m7 :: m6 :: m5 :: m22 :: m17 :: m27 :: []
theorem l54_ok {σ : Nat → Int} {W0 : World} (hL : L0 W0) : ∀ x ∈ l54, MemoOk Tryz.prog 59391 σ W0 31 x := all_cons (m9_ok hL) (all_cons (m8_ok hL) (all_cons (m7_ok hL) (all_cons (m6_ok hL) (all_cons (m5_ok hL) (all_cons (m22_ok hL) (all_cons (m17_ok hL) (all_cons (m27_ok hL) (all_nil))))))))
theorem run54 : isTrue (evCall (cxX Tryz.prog bad [] [] ((8, numExtE [(0, 11, .lit 1), (0, 10, .lit 4), (0, 8, .lit 6), (0, 2, .lit 0)]) :: (31, frameFn l54) :: q1)) 1000 60 6 [.int .i64 (.var 0)] (sentH 453 20 errTab)) = true := by kernel_rfl
theorem case54 : CaseS [] [] [(0, 11, .lit 1), (0, 10, .lit 4), (0, 8, .lit 6), (0, 2, .lit 0)] [.int .i64 (.var 0)] := caseS (fun hL hk hT => FnsOk.cons (hT.ok fit) (FnsOk.cons (frame_fn_ok (l54_ok hL)) ((q1_ok hL)))) run54
noncomputable def l55 : List (Memo) := m9 :: m12 :: m7 :: m6 :: m5 :: m24 :: m19 :: m27 :: []
theorem l55_ok {σ : Nat → Int} {W0 : World} (hL : L0 W0) : ∀ x ∈ l55, MemoOk Tryz.prog 59391 σ W0 31 x := all_cons (m9_ok hL) (all_cons (m12_ok hL) (all_cons (m7_ok hL) (all_cons (m6_ok hL) (all_cons (m5_ok hL) (all_cons (m24_ok hL) (all_cons (m19_ok hL) (all_cons (m27_ok hL) (all_nil))))))))
theorem run55 : isTrue (evCall (cxX Tryz.prog bad [] [] ((8, numExtE [(0, 11, .lit 1), (0, 10, .lit 5), (0, 8, .lit 7), (0, 2, .lit 1)]) :: (31, frameFn l55) :: q1)) 1000 60 6 [.int .i64 (.var 0)] (sentH 453 20 errTab)) = true := by kernel_rfl
theorem case55 : CaseS [] [] [(0, 11, .lit 1), (0, 10, .lit 5), (0, 8, .lit 7), (0, 2, .lit 1)] [.int .i64 (.var 0)] := caseS (fun hL hk hT => FnsOk.cons (hT.ok fit) (FnsOk.cons (frame_fn_ok (l55_ok hL)) ((q1_ok hL)))) run55
noncomputable def l56 : List (Memo) := m9 :: m8 :: m7 :: m6 :: m5 :: m4 :: m21 :: m27 :: []
theorem l56_ok {σ : Nat → Int} {W0 : World} (hL : L0 W0) : ∀ x ∈ l56, MemoOk Tryz.prog 59391 σ W0 31 x := all_cons (m9_ok hL) (all_cons (m8_ok hL) (all_cons (m7_ok hL) (all_cons (m6_ok hL) (all_cons (m5_ok hL) (all_cons (m4_ok hL) (all_cons (m21_ok hL) (all_cons (m27_ok hL) (all_nil))))))))
theorem run56 : isTrue (evCall (cxX Tryz.prog bad [] [] ((8, numExtE [(0, 11, .lit 1), (0, 10, .lit 6), (0, 8, .lit 0), (0, 2, .lit 0)]) :: (31, frameFn l56) :: q1)) 1000 60 6 [.int .i64 (.var 0)] (sentH 453 20 errTab)) = true := by kernel_rfl
theorem case56 : CaseS [] [] [(0, 11, .lit 1), (0, 10, .lit 6), (0, 8, .lit 0), (0, 2, .lit 0)] [.int .i64 (.var 0)] := caseS (fun hL hk hT => FnsOk.cons (hT.ok fit) (FnsOk.cons (frame_fn_ok (l56_ok hL)) ((q1_ok hL)))) run56
noncomputable def l57 : List (Memo) := m9 :: m12 :: m7 :: m6 :: m5 :: m11 :: m23 :: m27 :: []
theorem l57_ok {σ : Nat → Int} {W0 : World} (hL : L0 W0) : ∀ x ∈ l57, MemoOk Tryz.prog 59391 σ W0 31 x := all_cons (m9_ok hL) (all_cons (m12_ok hL) (all_cons (m7_ok hL) (all_cons (m6_ok hL) (all_cons (m5_ok hL) (all_cons (m11_ok hL) (all_cons (m23_ok hL) (all_cons (m27_ok hL) (all_nil))))))))
theorem run57 : isTrue (evCall (cxX Tryz.prog bad [] [] ((8, numExtE [(0, 11, .lit 1), (0, 10, .lit 7), (0, 8, .lit 1), (0, 2, .lit 1)]) :: (31, frameFn l57) :: q1)) 1000 60 6 [.int .i64 (.var 0)] (sentH 453 20 errTab)) = true := by kernel_rfl
theorem case57 : CaseS [] [] [(0, 11, .lit 1), (0, 10, .lit 7), (0, 8, .lit 1), (0, 2, .lit 1)] [.int .i64 (.var 0)] := caseS (fun hL hk hT => FnsOk.cons (hT.ok fit) (FnsOk.cons (frame_fn_ok (l57_ok hL)) ((q1_ok hL)))) run57
noncomputable def l58 : List (Memo) := m9 :: m8 :: m7 :: m6 :: m5 :: m14 :: m25 :: m27 :: []
theorem l58_ok {σ : Nat → Int} {W0 : World} (hL : L0 W0) : ∀ x ∈ l58, MemoOk Tryz.prog 59391 σ W0 31 x := all_cons (m9_ok hL) (all_cons (m8_ok hL) (all_cons (m7_ok hL) (all_cons (m6_ok hL) (all_cons (m5_ok hL) (all_cons (m14_ok hL) (all_cons (m25_ok hL) (all_cons (m27_ok hL) (all_nil))))))))
theorem run58 : isTrue (evCall (cxX Tryz.prog bad [] [] ((8, numExtE [(0, 11, .lit 1), (0, 10, .lit 8), (0, 8, .lit 2), (0, 2, .lit 0)]) :: (31, frameFn l58) :: q1)) 1000 60 6 [.int .i64 (.var 0)] (sentH 453 20 errTab)) = true := by kernel_rfl
theorem case58 : CaseS [] [] [(0, 11, .lit 1), (0, 10, .lit 8), (0, 8, .lit 2), (0, 2, .lit 0)] [.int .i64 (.var 0)] := caseS (fun hL hk hT => FnsOk.cons (hT.ok fit) (FnsOk.cons (frame_fn_ok (l58_ok hL)) ((q1_ok hL)))) run58
noncomputable def l59 : List (Memo) := m9 :: m12 :: m7 :: m6 :: m5 :: m16 :: m26 :: m27 :: []
theorem l59_ok {σ : Nat → Int} {W0 : World} (hL : L0 W0) : ∀ x ∈ l59, MemoOk Tryz.prog 59391 σ W0 31 x := all_cons (m9_ok hL) (all_cons (m12_ok hL) (all_cons (m7_ok hL) (all_cons (m6_ok hL) (all_cons (m5_ok hL) (all_cons (m16_ok hL) (all_cons (m26_ok hL) (all_cons (m27_ok hL) (all_nil))))))))
theorem run59 : isTrue (evCall (cxX Tryz.prog bad [] [] ((8, numExtE [(0, 11, .lit 1), (0, 10, .lit 9), (0, 8, .lit 3), (0, 2, .lit 1)]) :: (31, frameFn l59) :: q1)) 1000 60 6 [.int .i64 (.var 0)] (sentH 453 20 errTab)) = true := by kernel_rfl
theorem case59 : CaseS [] [] [(0, 11, .lit 1), (0, 10, .lit 9), (0, 8, .lit 3), (0, 2, .lit 1)] [.int .i64 (.var 0)] := caseS (fun hL hk hT => FnsOk.cons (hT.ok fit) (FnsOk.cons (frame_fn_ok (l59_ok hL)) ((q1_ok hL)))) run59
noncomputable def l60 : List (Memo) := m9 :: m8 :: m7 :: m6 :: m5 :: m18 :: m3 :: m27 :: []
theorem l60_ok {σ : Nat → Int} {W0 : World} (hL : L0 W0) : ∀ x ∈ l60, MemoOk Tryz.prog 59391 σ W0 31 x := all_cons (m9_ok hL) (all_cons (m8_ok hL) (all_cons (m7_ok hL) (all_cons (m6_ok hL) (all_cons (m5_ok hL) (all_cons (m18_ok hL) (all_cons (m3_ok hL) (all_cons (m27_ok hL) (all_nil))))))))
theorem run60 : isTrue (evCall (cxX Tryz.prog bad [] [] ((8, numExtE [(0, 11, .lit 1), (0, 10, .lit 0), (0, 8, .lit 4), (0, 2, .lit 0)]) :: (31, frameFn l60) :: q1)) 1000 60 6 [.int .i64 (.var 0)] (sentH 453 20 errTab)) = true := by kernel_rfl
theorem case60 : CaseS [] [] [(0, 11, .lit 1), (0, 10, .lit 0), (0, 8, .lit 4), (0, 2, .lit 0)] [.int .i64 (.var 0)] := caseS (fun hL hk hT => FnsOk.cons (hT.ok fit) (FnsOk.cons (frame_fn_ok (l60_ok hL)) ((q1_ok hL)))) run60
noncomputable def l61 : List (Memo) := m9 :: m12 :: m7 :: m6 :: m5 :: m20 :: m10 :: m27 :: []
theorem l61_ok {σ : Nat → Int} {W0 : World} (hL : L0 W0) : ∀ x ∈ l61, MemoOk Tryz.prog 59391 σ W0 31 x := all_cons (m9_ok hL) (all_cons (m12_ok hL) (all_cons (m7_ok hL) (all_cons (m6_ok hL) (all_cons (m5_ok hL) (all_cons (m20_ok hL) (all_cons (m10_ok hL) (all_cons (m27_ok hL) (all_nil))))))))
theorem run61 : isTrue (evCall (cxX Tryz.prog bad [] [] ((8, numExtE [(0, 11, .lit 1), (0, 10, .lit 1), (0, 8, .lit 5), (0, 2, .lit 1)]) :: (31, frameFn l61) :: q1)) 1000 60 6 [.int .i64 (.var 0)] (sentH 453 20 errTab)) = true := by kernel_rfl
theorem case61 : CaseS [] [] [(0, 11, .lit 1), (0, 10, .lit 1), (0, 8, .lit 5), (0, 2, .lit 1)] [.int .i64 (.var 0)] := caseS (fun hL hk hT => FnsOk.cons (hT.ok fit) (FnsOk.cons (frame_fn_ok (l61_ok hL)) ((q1_ok hL)))) run61
noncomputable def l62 : List (Memo) := m9 :: m8 :: m7 :: m6 :: m5 :: m22 :: m13 :: m27 :: []
theorem l62_ok {σ : Nat → Int} {W0 : World} (hL : L0 W0) : ∀ x ∈ l62, MemoOk Tryz.prog 59391 σ W0 31 x := all_cons (m9_ok hL) (all_cons (m8_ok hL) (all_cons (m7_ok hL) (all_cons (m6_ok hL) (all_cons (m5_ok hL) (all_cons (m22_ok hL) (all_cons (m13_ok hL) (all_cons (m27_ok hL) (all_nil))))))))
theorem run62 : isTrue (evCall (cxX Tryz.prog bad [] [] ((8, numExtE [(0, 11, .lit 1), (0, 10, .lit 2), (0, 8, .lit 6), (0, 2, .lit 0)]) :: (31, frameFn l62) :: q1)) 1000 60 6 [.int .i64 (.var 0)] (sentH 453 20 errTab)) = true := by kernel_rfl
theorem case62 : CaseS [] [] [(0, 11, .lit 1), (0, 10, .lit 2), (0, 8, .lit 6), (0, 2, .lit 0)] [.int .i64 (.var 0)] := caseS (fun hL hk hT => FnsOk.cons (hT.ok fit) (FnsOk.cons (frame_fn_ok (l62_ok hL)) ((q1_ok hL)))) run62
noncomputable def l63 : List (Memo) := m9 :: m12 :: m7 :: m6 :: m5 :: m24 :: m15 :: m27 :: []
theorem l63_ok {σ : Nat → Int} {W0 : World} (hL : L0 W0) : ∀ x ∈ l63, MemoOk Tryz.prog 59391 σ W0 31 x := all_cons (m9_ok hL) (all_cons (m12_ok hL) (all_cons (m7_ok hL) (all_cons (m6_ok hL) (all_cons (m5_ok hL) (all_cons (m24_ok hL) (all_cons (m15_ok hL) (all_cons (m27_ok hL) (all_nil))))))))
theorem run63 : isTrue (evCall (cxX Tryz.prog bad [] [] ((8, numExtE [(0, 11, .lit 1), (0, 10, .lit 3), (0, 8, .lit 7), (0, 2, .lit 1)]) :: (31, frameFn l63) :: q1)) 1000 60 6 [.int .i64 (.var 0)] (sentH 453 20 errTab)) = true := by kernel_rfl
theorem case63 : CaseS [] [] [(0, 11, .lit 1), (0, 10, .lit 3), (0, 8, .lit 7), (0, 2, .lit 1)] [.int .i64 (.var 0)] := caseS (fun hL hk hT => FnsOk.cons (hT.ok fit) (FnsOk.cons (frame_fn_ok (l63_ok hL)) ((q1_ok hL)))) run63
noncomputable def l64 : List (Memo) := m9 :: m8 :: m7 :: m6 :: m5 :: m4 :: m17 :: m27 :: []
theorem l64_ok {σ : Nat → Int} {W0 : World} (hL : L0 W0) : ∀ x ∈ l64, MemoOk Tryz.prog 59391 σ W0 31 x := all_cons (m9_ok hL) (all_cons (m8_ok hL) (all_cons (m7_ok hL) (all_cons (m6_ok hL) (all_cons (m5_ok hL) (all_cons (m4_ok hL) (all_cons (m17_ok hL) (all_cons (m27_ok hL) (all_nil))))))))
theorem run64 : isTrue (evCall (cxX Tryz.prog bad [] [] ((8, numExtE [(0, 11, .lit 1), (0, 10, .lit 4), (0, 8, .lit 0), (0, 2, .lit 0)]) :: (31, frameFn l64) :: q1)) 1000 60 6 [.int .i64 (.var 0)] (sentH 453 20 errTab)) = true := by kernel_rfl
theorem case64 : CaseS [] [] [(0, 11, .lit 1), (0, 10, .lit 4), (0, 8, .lit 0), (0, 2, .lit 0)] [.int .i64 (.var 0)] := caseS (fun hL hk hT => FnsOk.cons (hT.ok fit) (FnsOk.cons (frame_fn_ok (l64_ok hL)) ((q1_ok hL)))) run64
noncomputable def l65 : List (Memo) := m9 :: m12 :: m7 :: m6 :: m5 :: m11 :: m19 :: m27 :: []
theorem l65_ok {σ : Nat → Int} {W0 : World} (hL : L0 W0) : ∀ x ∈ l65, MemoOk Tryz.prog 59391 σ W0 31 x := all_cons (m9_ok hL) (all_cons (m12_ok hL) (all_cons (m7_ok hL) (all_cons (m6_ok hL) (all_cons (m5_ok hL) (all_cons (m11_ok hL) (all_cons (m19_ok hL) (all_cons (m27_ok hL) (all_nil))))))))
theorem run65 : isTrue (evCall (cxX Tryz.prog bad [] [] ((8, numExtE [(0, 11, .lit 1), (0, 10, .lit 5), (0, 8, .lit 1), (0, 2, .lit 1)]) :: (31, frameFn l65) :: q1)) 1000 60 6 [.int .i64 (.var 0)] (sentH 453 20 errTab)) = true := by kernel_rfl
theorem case65 : CaseS [] [] [(0, 11, .lit 1), (0, 10, .lit 5), (0, 8, .lit 1), (0, 2, .lit 1)] [.int .i64 (.var 0)] := caseS (fun hL hk hT => FnsOk.cons (hT.ok fit) (FnsOk.cons (frame_fn_ok (l65_ok hL)) ((q1_ok hL)))) run65
noncomputable def l66 : List (Memo) := m9 :: m8 :: m7 :: m6 :: m5 :: m14 :: m21 :: m27 :: []
theorem l66_ok {σ : Nat → Int} {W0 : World} (hL : L0 W0) : ∀ x ∈ l66, MemoOk Tryz.prog 59391 σ W0 31 x := all_cons (m9_ok hL) (all_cons (m8_ok hL) (all_cons (m7_ok hL) (all_cons (m6_ok hL) (all_cons (m5_ok hL) (all_cons (m14_ok hL) (all_cons (m21_ok hL) (all_cons (m27_ok hL) (all_nil))))))))
theorem run66 : isTrue (evCall (cxX Tryz.prog bad [] [] ((8, numExtE [(0, 11, .lit 1), (0, 10, .lit 6), (0, 8, .lit 2), (0, 2, .lit 0)]) :: (31, frameFn l66) :: q1)) 1000 60 6 [.int .i64 (.var 0)] (sentH 453 20 errTab)) = true := by kernel_rfl
theorem case66 : CaseS [] [] [(0, 11, .lit 1), (0, 10, .lit 6), (0, 8, .lit 2), (0, 2, .lit 0)] [.int .i64 (.var 0)] := caseS (fun hL hk hT => FnsOk.cons (hT.ok fit) (FnsOk.cons (frame_fn_ok (l66_ok hL)) ((q1_ok hL)))) run66
noncomputable def l67 : List (Memo) := m9 :: m12 :: m7 :: m6 :: m5 :: m16 :: m23 :: m27 :: []
theorem l67_ok {σ : Nat → Int} {W0 : World} (hL : L0 W0) : ∀ x ∈ l67, MemoOk Tryz.prog 59391 σ W0 31 x := all_cons (m9_ok hL) (all_cons (m12_ok hL) (all_cons (m7_ok hL) (all_cons (m6_ok hL) (all_cons (m5_ok hL) (all_cons (m16_ok hL) (all_cons (m23_ok hL) (all_cons (m27_ok hL) (all_nil))))))))
theorem run67 : isTrue (evCall (cxX Tryz.prog bad [] [] ((8, numExtE [(0, 11, .lit 1), (0, 10, .lit 7), (0, 8, .lit 3), (0, 2, .lit 1)]) :: (31, frameFn l67) :: q1)) 1000 60 6 [.int .i64 (.var 0)] (sentH 453 20 errTab)) = true := by kernel_rfl
theorem case67 : CaseS [] [] [(0, 11, .lit 1), (0, 10, .lit 7), (0, 8, .lit 3), (0, 2, .lit 1)] [.int .i64 (.var 0)] := caseS (fun hL hk hT => FnsOk.cons (hT.ok fit) (FnsOk.cons (frame_fn_ok (l67_ok hL)) ((q1_ok hL)))) run67
noncomputable def l68 : List (Memo) := m9 :: m8 :: m7 :: m6 :: m5 :: m18 :: m25 :: m27 :: []
theorem l68_ok {σ : Nat → Int} {W0 : World} (hL : L0 W0) : ∀ x ∈ l68, MemoOk Tryz.prog 59391 σ W0 31 x := all_cons (m9_ok hL) (all_cons (m8_ok hL) (all_cons (m7_ok hL) (all_cons (m6_ok hL) (all_cons (m5_ok hL) (all_cons (m18_ok hL) (all_cons (m25_ok hL) (all_cons (m27_ok hL) (all_nil))))))))
theorem run68 : isTrue (evCall (cxX Tryz.prog bad [] [] ((8, numExtE [(0, 11, .lit 1), (0, 10, .lit 8), (0, 8, .lit 4), (0, 2, .lit 0)]) :: (31, frameFn l68) :: q1)) 1000 60 6 [.int .i64 (.var 0)] (sentH 453 20 errTab)) = true := by kernel_rfl
theorem case68 : CaseS [] [] [(0, 11, .lit 1), (0, 10, .lit 8), (0, 8, .lit 4), (0, 2, .lit 0)] [.int .i64 (.var 0)] := caseS (fun hL hk hT => FnsOk.cons (hT.ok fit) (FnsOk.cons (frame_fn_ok (l68_ok hL)) ((q1_ok hL)))) run68
noncomputable def l69 : List (Memo) := m9 :: m12 :: m7 :: m6 :: m5 :: m20 :: m26 :: m27 :: []
theorem l69_ok {σ : Nat → Int} {W0 : World} (hL : L0 W0) : ∀ x ∈ l69, MemoOk Tryz.prog 59391 σ W0 31 x := all_cons (m9_ok hL) (all_cons (m12_ok hL) (all_cons (m7_ok hL) (all_cons (m6_ok hL) (all_cons (m5_ok hL) (all_cons (m20_ok hL) (all_cons (m26_ok hL) (all_cons (m27_ok hL) (all_nil))))))))
theorem run69 : isTrue (evCall (cxX Tryz.prog bad [] [] ((8, numExtE [(0, 11, .lit 1), (0, 10, .lit 9), (0, 8, .lit 5), (0, 2, .lit 1)]) :: (31, frameFn l69) :: q1)) 1000 60 6 [.int .i64 (.var 0)] (sentH 453 20 errTab)) = true := by kernel_rfl
theorem case69 : CaseS [] [] [(0, 11, .lit 1), (0, 10, .lit 9), (0, 8, .lit 5), (0, 2, .lit 1)] [.int .i64 (.var 0)] := caseS (fun hL hk hT => FnsOk.cons (hT.ok fit) (FnsOk.cons (frame_fn_ok (l69_ok hL)) ((q1_ok hL)))) run69
noncomputable def l70 : List (Memo) := m9 :: m8 :: m7 :: m6 :: m5 :: m22 :: m3 :: m27 :: []
theorem l70_ok {σ : Nat → Int} {W0 : World} (hL : L0 W0) : ∀ x ∈ l70, MemoOk Tryz.prog 59391 σ W0 31 x := all_cons (m9_ok hL) (all_cons (m8_ok hL) (all_cons (m7_ok hL) (all_cons (m6_ok hL) (all_cons (m5_ok hL) (all_cons (m22_ok hL) (all_cons (m3_ok hL) (all_cons (m27_ok hL) (all_nil))))))))
theorem run70 : isTrue (evCall (cxX Tryz.prog bad [] [] ((8, numExtE [(0, 11, .lit 1), (0, 10, .lit 0), (0, 8, .lit 6), (0, 2, .lit 0)]) :: (31, frameFn l70) :: q1)) 1000 60 6 [.int .i64 (.var 0)] (sentH 453 20 errTab)) = true := by kernel_rfl
theorem case70 : CaseS [] [] [(0, 11, .lit 1), (0, 10, .lit 0), (0, 8, .lit 6), (0, 2, .lit 0)] [.int .i64 (.var 0)] := caseS (fun hL hk hT => FnsOk.cons (hT.ok fit) (FnsOk.cons (frame_fn_ok (l70_ok hL)) ((q1_ok hL)))) run70
noncomputable def l71 : List (Memo) := m9 :: m12 :: m7 :: m6 :: m5 :: m24 :: m10 :: m27 :: []
theorem l71_ok {σ : Nat → Int} {W0 : World} (hL : L0 W0) : ∀ x ∈ l71, MemoOk Tryz.prog 59391 σ W0 31 x := all_cons (m9_ok hL) (all_cons (m12_ok hL) (all_cons (m7_ok hL) (all_cons (m6_ok hL) (all_cons (m5_ok hL) (all_cons (m24_ok hL) (all_cons (m10_ok hL) (all_cons (m27_ok hL) (all_nil))))))))
theorem run71 : isTrue (evCall (cxX Tryz.prog bad [] [] ((8, numExtE [(0, 11, .lit 1), (0, 10, .lit 1), (0, 8, .lit 7), (0, 2, .lit 1)]) :: (31, frameFn l71) :: q1)) 1000 60 6 [.int .i64 (.var 0)] (sentH 453 20 errTab)) = true := by kernel_rfl
theorem case71 : CaseS [] [] [(0, 11, .lit 1), (0, 10, .lit 1), (0, 8, .lit 7), (0, 2, .lit 1)] [.int .i64 (.var 0)] := caseS (fun hL hk hT => FnsOk.cons (hT.ok fit) (FnsOk.cons (frame_fn_ok (l71_ok hL)) ((q1_ok hL)))) run71
noncomputable def l72 : List (Memo) := m9 :: m8 :: m7 :: m6 :: m5 :: m4 :: m13 :: m27 :: []
theorem l72_ok {σ : Nat → Int} {W0 : World} (hL : L0 W0) : ∀ x ∈ l72, MemoOk Tryz.prog 59391 σ W0 31 x := all_cons (m9_ok hL) (all_cons (m8_ok hL) (all_cons (m7_ok hL) (all_cons (m6_ok hL) (all_cons (m5_ok hL) (all_cons (m4_ok hL) (all_cons (m13_ok hL) (all_cons (m27_ok hL) (all_nil))))))))
theorem run72 : isTrue (evCall (cxX Tryz.prog bad [] [] ((8, numExtE [(0, 11, .lit 1), (0, 10, .lit 2), (0, 8, .lit 0), (0, 2, .lit 0)]) :: (31, frameFn l72) :: q1)) 1000 60 6 [.int .i64 (.var 0)] (sentH 453 20 errTab)) = true := by kernel_rfl
theorem case72 : CaseS [] [] [(0, 11, .lit 1), (0, 10, .lit 2), (0, 8, .lit 0), (0, 2, .lit 0)] [.int .i64 (.var 0)] := caseS (fun hL hk hT => FnsOk.cons (hT.ok fit) (FnsOk.cons (frame_fn_ok (l72_ok hL)) ((q1_ok hL)))) run72
noncomputable def l73 : List (Memo) := m9 :: m12 :: m7 :: m6 :: m5 :: m11 :: m15 :: m27 :: []
theorem l73_ok {σ : Nat → Int} {W0 : World} (hL : L0 W0) : ∀ x ∈ l73, MemoOk Tryz.prog 59391 σ W0 31 x := all_cons (m9_ok hL) (all_cons (m12_ok hL) (all_cons (m7_ok hL) (all_cons (m6_ok hL) (all_cons (m5_ok hL) (all_cons (m11_ok hL) (all_cons (m15_ok hL) (all_cons (m27_ok hL) (all_nil))))))))
theorem run73 : isTrue (evCall (cxX Tryz.prog bad [] [] ((8, numExtE [(0, 11, .lit 1), (0, 10, .lit 3), (0, 8, .lit 1), (0, 2, .lit 1)]) :: (31, frameFn l73) :: q1)) 1000 60 6 [.int .i64 (.var 0)] (sentH 453 20 errTab)) = true := by kernel_rfl
theorem case73 : CaseS [] [] [(0, 11, .lit 1), (0, 10, .lit 3), (0, 8, .lit 1), (0, 2, .lit 1)] [.int .i64 (.var 0)] := caseS (fun hL hk hT => FnsOk.cons (hT.ok fit) (FnsOk.cons (frame_fn_ok (l73_ok hL)) ((q1_ok hL)))) run73
noncomputable def l74 : List (Memo) := m9 :: m8 :: m7 :: m6 :: m5 :: m14 :: m17 :: m27 :: []
theorem l74_ok {σ : Nat → Int} {W0 : World} (hL : L0 W0) : ∀ x ∈ l74, MemoOk Tryz.prog 59391 σ W0 31 x := all_cons (m9_ok hL) (all_cons (m8_ok hL) (all_cons (m7_ok hL) (all_cons (m6_ok hL) (all_cons (m5_ok hL) (all_cons (m14_ok hL) (all_cons (m17_ok hL) (all_cons (m27_ok hL) (all_nil))))))))
theorem run74 : isTrue (evCall (cxX Tryz.prog bad [] [] ((8, numExtE [(0, 11, .lit 1), (0, 10, .lit 4), (0, 8, .lit 2), (0, 2, .lit 0)]) :: (31, frameFn l74) :: q1)) 1000 60 6 [.int .i64 (.var 0)] (sentH 453 20 errTab)) = true := by kernel_rfl
theorem case74 : CaseS [] [] [(0, 11, .lit 1), (0, 10, .lit 4), (0, 8, .lit 2), (0, 2, .lit 0)] [.int .i64 (.var 0)] := caseS (fun hL hk hT => FnsOk.cons (hT.ok fit) (FnsOk.cons (frame_fn_ok (l74_ok hL)) ((q1_ok hL)))) run74
noncomputable def l75 : List (Memo) := m9 :: m12 :: m7 :: m6 :: m5 :: m16 :: m19 :: m27 :: []
theorem l75_ok {σ : Nat → Int} {W0 : World} (hL : L0 W0) : ∀ x ∈ l75, MemoOk Tryz.prog 59391 σ W0 31 x := all_cons (m9_ok hL) (all_cons (m12_ok hL) (all_cons (m7_ok hL) (all_cons (m6_ok hL) (all_cons (m5_ok hL) (all_cons (m16_ok hL) (all_cons (m19_ok hL) (all_cons (m27_ok hL) (all_nil))))))))
theorem run75 : isTrue (evCall (cxX Tryz.prog bad [] [] ((8, numExtE [(0, 11, .lit 1), (0, 10, .lit 5), (0, 8, .lit 3), (0, 2, .lit 1)]) :: (31, frameFn l75) :: q1)) 1000 60 6 [.int .i64 (.var 0)] (sentH 453 20 errTab)) = true := by kernel_rfl
theorem case75 : CaseS [] [] [(0, 11, .lit 1), (0, 10, .lit 5), (0, 8, .lit 3), (0, 2, .lit 1)] [.int .i64 (.var 0)] := caseS (fun hL hk hT => FnsOk.cons (hT.ok fit) (FnsOk.cons (frame_fn_ok (l75_ok hL)) ((q1_ok hL)))) run75
noncomputable def l76 : List (Memo) := m9 :: m8 :: m7 :: m6 :: m5 :: m18 :: m21 :: m27 :: []
theorem l76_ok {σ : Nat → Int} {W0 : World} (hL : L0 W0) : ∀ x ∈ l76, MemoOk Tryz.prog 59391 σ W0 31 x := all_cons (m9_ok hL) (all_cons (m8_ok hL) (all_cons (m7_ok hL) (all_cons (m6_ok hL) (all_cons (m5_ok hL) (all_cons (m18_ok hL) (all_cons (m21_ok hL) (all_cons (m27_ok hL) (all_nil))))))))
theorem run76 : isTrue (evCall (cxX Tryz.prog bad [] [] ((8, numExtE [(0, 11, .lit 1), (0, 10, .lit 6), (0, 8, .lit 4), (0, 2, .lit 0)]) :: (31, frameFn l76) :: q1)) 1000 60 6 [.int .i64 (.var 0)] (sentH 453 20 errTab)) = true := by kernel_rfl
theorem case76 : CaseS [] [] [(0, 11, .lit 1), (0, 10, .lit 6), (0, 8, .lit 4), (0, 2, .lit 0)] [.int .i64 (.var 0)] := caseS (fun hL hk hT => FnsOk.cons (hT.ok fit) (FnsOk.cons (frame_fn_ok (l76_ok hL)) ((q1_ok hL)))) run76
noncomputable def l77 : List (Memo) := m9 :: m12 :: m7 :: m6 :: m5 :: m20 :: m23 :: m27 :: []
theorem l77_ok {σ : Nat → Int} {W0 : World} (hL : L0 W0) : ∀ x ∈ l77, MemoOk Tryz.prog 59391 σ W0 31 x := all_cons (m9_ok hL) (all_cons (m12_ok hL) (all_cons (m7_ok hL) (all_cons (m6_ok hL) (all_cons (m5_ok hL) (all_cons (m20_ok hL) (all_cons (m23_ok hL) (all_cons (m27_ok hL) (all_nil))))))))
theorem run77 : isTrue (evCall (cxX Tryz.prog bad [] [] ((8, numExtE [(0, 11, .lit 1), (0, 10, .lit 7), (0, 8, .lit 5), (0, 2, .lit 1)]) :: (31, frameFn l77) :: q1)) 1000 60 6 [.int .i64 (.var 0)] (sentH 453 20 errTab)) = true := by kernel_rfl
theorem case77 : CaseS [] [] [(0, 11, .lit 1), (0, 10, .lit 7), (0, 8, .lit 5), (0, 2, .lit 1)] [.int .i64 (.var 0)] := caseS (fun hL hk hT => FnsOk.cons (hT.ok fit) (FnsOk.cons (frame_fn_ok (l77_ok hL)) ((q1_ok hL)))) run77
noncomputable def l78 : List (Memo) := m9 :: m8 :: m7 :: m6 :: m5 :: m22 :: m25 :: m27 :: []
theorem l78_ok {σ : Nat → Int} {W0 : World} (hL : L0 W0) : ∀ x ∈ l78, MemoOk Tryz.prog 59391 σ W0 31 x := all_cons (m9_ok hL) (all_cons (m8_ok hL) (all_cons (m7_ok hL) (all_cons (m6_ok hL) (all_cons (m5_ok hL) (all_cons (m22_ok hL) (all_cons (m25_ok hL) (all_cons (m27_ok hL) (all_nil))))))))
theorem run78 : isTrue (evCall (cxX Tryz.prog bad [] [] ((8, numExtE [(0, 11, .lit 1), (0, 10, .lit 8), (0, 8, .lit 6), (0, 2, .lit 0)]) :: (31, frameFn l78) :: q1)) 1000 60 6 [.int .i64 (.var 0)] (sentH 453 20 errTab)) = true := by kernel_rfl
theorem case78 : CaseS [] [] [(0, 11, .lit 1), (0, 10, .lit 8), (0, 8, .lit 6), (0, 2, .lit 0)] [.int .i64 (.var 0)] := caseS (fun hL hk hT => FnsOk.cons (hT.ok fit) (FnsOk.cons (frame_fn_ok (l78_ok hL)) ((q1_ok hL)))) run78
noncomputable def l79 : List (Memo) := m9 :: m12 :: m7 :: m6 :: m5 :: m24 :: m26 :: m27 :: []
theorem l79_ok {σ : Nat → Int} {W0 : World} (hL : L0 W0) : ∀ x ∈ l79, MemoOk Tryz.prog 59391 σ W0 31 x := all_cons (m9_ok hL) (all_cons (m12_ok hL) (all_cons (m7_ok hL) (all_cons (m6_ok hL) (all_cons (m5_ok hL) (all_cons (m24_ok hL) (all_cons (m26_ok hL) (all_cons (m27_ok hL) (all_nil))))))))
theorem run79 : isTrue (evCall (cxX Tryz.prog bad [] [] ((8, numExtE [(0, 11, .lit 1), (0, 10, .lit 9), (0, 8, .lit 7), (0, 2, .lit 1)]) :: (31, frameFn l79) :: q1)) 1000 60 6 [.int .i64 (.var 0)] (sentH 453 20 errTab)) = true := by kernel_rfl
theorem case79 : CaseS [] [] [(0, 11, .lit 1), (0, 10, .lit 9), (0, 8, .lit 7), (0, 2, .lit 1)] [.int .i64 (.var 0)] := caseS (fun hL hk hT => FnsOk.cons (hT.ok fit) (FnsOk.cons (frame_fn_ok (l79_ok hL)) ((q1_ok hL)))) run79
noncomputable def m28 : Memo := ⟨[.ptr 34 0, .str [98, 111, 111, 116]], h2, .tuple [.snil, .iface 453 (.ptr 32 0)], h3⟩
theorem m28_run : ranTo (evCall (cxX Tryz.prog bad [] [] q0) 1000 60 31 m28.args m28.h) m28.v m28.h' = true := by kernel_rfl
theorem m28_ok {σ : Nat → Int} {W0 : World} (hL : L0 W0) : MemoOk Tryz.prog 59391 σ W0 31 m28 := memo_ok fit (Known2.nil σ) ((q0_ok hL)) m28_run
noncomputable def l80 : List (Memo) := m9 :: m8 :: m7 :: m6 :: m5 :: m4 :: m3 :: m28 :: []
theorem l80_ok {σ : Nat → Int} {W0 : World} (hL : L0 W0) : ∀ x ∈ l80, MemoOk Tryz.prog 59391 σ W0 31 x := all_cons (m9_ok hL) (all_cons (m8_ok hL) (all_cons (m7_ok hL) (all_cons (m6_ok hL) (all_cons (m5_ok hL) (all_cons (m4_ok hL) (all_cons (m3_ok hL) (all_cons (m28_ok hL) (all_nil))))))))
theorem run80 : isTrue (evCall (cxX Tryz.prog bad [] [] ((8, numExtE [(0, 11, .lit 2), (0, 10, .lit 0), (0, 8, .lit 0), (0, 2, .lit 0)]) :: (31, frameFn l80) :: q1)) 1000 60 6 [.int .i64 (.var 0)] (sentH 453 20 errTab)) = true := by kernel_rfl
theorem case80 : CaseS [] [] [(0, 11, .lit 2), (0, 10, .lit 0), (0, 8, .lit 0), (0, 2, .lit 0)] [.int .i64 (.var 0)] := caseS (fun hL hk hT => FnsOk.cons (hT.ok fit) (FnsOk.cons (frame_fn_ok (l80_ok hL)) ((q1_ok hL)))) run80
noncomputable def l81 : List (Memo) := m9 :: m12 :: m7 :: m6 :: m5 :: m11 :: m10 :: m28 :: []
theorem l81_ok {σ : Nat → Int} {W0 : World} (hL : L0 W0) : ∀ x ∈ l81, MemoOk Tryz.prog 59391 σ W0 31 x := all_cons (m9_ok hL) (all_cons (m12_ok hL) (all_cons (m7_ok hL) (all_cons (m6_ok hL) (all_cons (m5_ok hL) (all_cons (m11_ok hL) (all_cons (m10_ok hL) (all_cons (m28_ok hL) (all_nil))))))))
theorem run81 : isTrue (evCall (cxX Tryz.prog bad [] [] ((8, numExtE [(0, 11, .lit 2), (0, 10, .lit 1), (0, 8, .lit 1), (0, 2, .lit 1)]) :: (31, frameFn l81) :: q1)) 1000 60 6 [.int .i64 (.var 0)] (sentH 453 20 errTab)) = true := by kernel_rfl
theorem case81 : CaseS [] [] [(0, 11, .lit 2), (0, 10, .lit 1), (0, 8, .lit 1), (0, 2, .lit 1)] [.int .i64 (.var 0)] := caseS (fun hL hk hT => FnsOk.cons (hT.ok fit) (FnsOk.cons (frame_fn_ok (l81_ok hL)) ((q1_ok hL)))) run81
noncomputable def l82 : List (Memo) := m9 :: m8 :: m7 :: m6 :: m5 :: m14 :: m13 :: m28 :: []
theorem l82_ok {σ : Nat → Int} {W0 : World} (hL : L0 W0) : ∀ x ∈ l82, MemoOk Tryz.prog 59391 σ W0 31 x := all_cons (m9_ok hL) (all_cons (m8_ok hL) (all_cons (m7_ok hL) (all_cons (m6_ok hL) (all_cons (m5_ok hL) (all_cons (m14_ok hL) (all_cons (m13_ok hL) (all_cons (m28_ok hL) (all_nil))))))))
theorem run82 : isTrue (evCall (cxX Tryz.prog bad [] [] ((8, numExtE [(0, 11, .lit 2), (0, 10, .lit 2), (0, 8, .lit 2), (0, 2, .lit 0)]) :: (31, frameFn l82) :: q1)) 1000 60 6 [.int .i64 (.var 0)] (sentH 453 20 errTab)) = true := by kernel_rfl
theorem case82 : CaseS [] [] [(0, 11, .lit 2), (0, 10, .lit 2), (0, 8, .lit 2), (0, 2, .lit 0)] [.int .i64 (.var 0)] := caseS (fun hL hk hT => FnsOk.cons (hT.ok fit) (FnsOk.cons (frame_fn_ok (l82_ok hL)) ((q1_ok hL)))) run82
noncomputable def l83 : List (Memo) := m9 :: m12 :: m7 :: m6 :: m5 :: m16 :: m15 :: m28 :: []
theorem l83_ok {σ : Nat → Int} {W0 : World} (hL : L0 W0) : ∀ x ∈ l83, MemoOk Tryz.prog 59391 σ W0 31 x := all_cons (m9_ok hL) (all_cons (m12_ok hL) (all_cons (m7_ok hL) (all_cons (m6_ok hL) (all_cons (m5_ok hL) (all_cons (m16_ok hL) (all_cons (m15_ok hL) (all_cons (m28_ok hL) (all_nil))))))))
theorem run83 : isTrue (evCall (cxX Tryz.prog bad [] [] ((8, numExtE [(0, 11, .lit 2), (0, 10, .lit 3), (0, 8, .lit 3), (0, 2, .lit 1)]) :: (31, frameFn l83) :: q1)) 1000 60 6 [.int .i64 (.var 0)] (sentH 453 20 errTab)) = true := by kernel_rfl
theorem case83 : CaseS [] [] [(0, 11, .lit 2), (0, 10, .lit 3), (0, 8, .lit 3), (0, 2, .lit 1)] [.int .i64 (.var 0)] := caseS (fun hL hk hT => FnsOk.cons (hT.ok fit) (FnsOk.cons (frame_fn_ok (l83_ok hL)) ((q1_ok hL)))) run83
noncomputable def l84 : List (Memo) := m9 :: m8 :: m7 :: m6 :: m5 :: m18 :: m17 :: m28 :: []
theorem l84_ok {σ : Nat → Int} {W0 : World} (hL : L0 W0) : ∀ x ∈ l84, MemoOk Tryz.prog 59391 σ W0 31 x := all_cons (m9_ok hL) (all_cons (m8_ok hL) (all_cons (m7_ok hL) (all_cons (m6_ok hL) (all_cons (m5_ok hL) (all_cons (m18_ok hL) (all_cons (m17_ok hL) (all_cons (m28_ok hL) (all_nil))))))))
theorem run84 : isTrue (evCall (cxX Tryz.prog bad [] [] ((8, numExtE [(0, 11, .lit 2), (0, 10, .lit 4), (0, 8, .lit 4), (0, 2, .lit 0)]) :: (31, frameFn l84) :: q1)) 1000 60 6 [.int .i64 (.var 0)] (sentH 453 20 errTab)) = true := by kernel_rfl
theorem case84 : CaseS [] [] [(0, 11, .lit 2), (0, 10, .lit 4), (0, 8, .lit 4), (0, 2, .lit 0)] [.int .i64 (.var 0)] := caseS (fun hL hk hT => FnsOk.cons (hT.ok fit) (FnsOk.cons (frame_fn_ok (l84_ok hL)) ((q1_ok hL)))) run84
noncomputable def l85 : List (Memo) := m9 :: m12 :: m7 :: m6 :: m5 :: m20 :: m19 :: m28 :: []
theorem l85_ok {σ : Nat → Int} {W0 : World} (hL : L0 W0) : ∀ x ∈ l85, MemoOk Tryz.prog 59391 σ W0 31 x := all_cons (m9_ok hL) (all_cons (m12_ok hL) (all_cons (m7_ok hL) (all_cons (m6_ok hL) (all_cons (m5_ok hL) (all_cons (m20_ok hL) (all_cons (m19_ok hL) (all_cons (m28_ok hL) (all_nil))))))))
theorem run85 : isTrue (evCall (cxX Tryz.prog bad [] [] ((8, numExtE [(0, 11, .lit 2), (0, 10, .lit 5), (0, 8, .lit 5), (0, 2, .lit 1)]) :: (31, frameFn l85) :: q1)) 1000 60 6 [.int .i64 (.var 0)] (sentH 453 20 errTab)) = true := by kernel_rfl
theorem case85 : CaseS [] [] [(0, 11, .lit 2), (0, 10, .lit 5), (0, 8, .lit 5), (0, 2, .lit 1)] [.int .i64 (.var 0)] := caseS (fun hL hk hT => FnsOk.cons (hT.ok fit) (FnsOk.cons (frame_fn_ok (l85_ok hL)) ((q1_ok hL)))) run85
noncomputable def l86 : List (Memo) := m9 :: m8 :: m7 :: m6 :: m5 :: m22 :: m21 :: m28 :: []
theorem l86_ok {σ : Nat → Int} {W0 : World} (hL : L0 W0) : ∀ x ∈ l86, MemoOk Tryz.prog 59391 σ W0 31 x := all_cons (m9_ok hL) (all_cons (m8_ok hL) (all_cons (m7_ok hL) (all_cons (m6_ok hL) (all_cons (m5_ok hL) (all_cons (m22_ok hL) (all_cons (m21_ok hL) (all_cons (m28_ok hL) (all_nil))))))))
theorem run86 : isTrue (evCall (cxX Tryz.prog bad [] [] ((8, numExtE [(0, 11, .lit 2), (0, 10, .lit 6), (0, 8, .lit 6), (0, 2, .lit 0)]) :: (31, frameFn l86) :: q1)) 1000 60 6 [.int .i64 (.var 0)] (sentH 453 20 errTab)) = true := by kernel_rfl
theorem case86 : CaseS [] [] [(0, 11, .lit 2), (0, 10, .lit 6), (0, 8, .lit 6), (0, 2, .lit 0)] [.int .i64 (.var 0)] := caseS (fun hL hk hT => FnsOk.cons (hT.ok fit) (FnsOk.cons (frame_fn_ok (l86_ok hL)) ((q1_ok hL)))) run86
noncomputable def l87 : List (Memo) := m9 :: m12 :: m7 :: m6 :: m5 :: m24 :: m23 :: m28 :: []
theorem l87_ok {σ : Nat → Int} {W0 : World} (hL : L0 W0) : ∀ x ∈ l87, MemoOk Tryz.prog 59391 σ W0 31 x := all_cons (m9_ok hL) (all_cons (m12_ok hL) (all_cons (m7_ok hL) (all_cons (m6_ok hL) (all_cons (m5_ok hL) (all_cons (m24_ok hL) (all_cons (m23_ok hL) (all_cons (m28_ok hL) (all_nil))))))))
theorem run87 : isTrue (evCall (cxX Tryz.prog bad [] [] ((8, numExtE [(0, 11, .lit 2), (0, 10, .lit 7), (0, 8, .lit 7), (0, 2, .lit 1)]) :: (31, frameFn l87) :: q1)) 1000 60 6 [.int .i64 (.var 0)] (sentH 453 20 errTab)) = true := by kernel_rfl
theorem case87 : CaseS [] [] [(0, 11, .lit 2), (0, 10, .lit 7), (0, 8, .lit 7), (0, 2, .lit 1)] [.int .i64 (.var 0)] := caseS (fun hL hk hT => FnsOk.cons (hT.ok fit) (FnsOk.cons (frame_fn_ok (l87_ok hL)) ((q1_ok hL)))) run87
noncomputable def l88 : List (Memo) := m9 :: m8 :: m7 :: m6 :: m5 :: m4 :: m25 :: m28 :: []
theorem l88_ok {σ : Nat → Int} {W0 : World} (hL : L0 W0) : ∀ x ∈ l88, MemoOk Tryz.prog 59391 σ W0 31 x := all_cons (m9_ok hL) (all_cons (m8_ok hL) (all_cons (m7_ok hL) (all_cons (m6_ok hL) (all_cons (m5_ok hL) (all_cons (m4_ok hL) (all_cons (m25_ok hL) (all_cons (m28_ok hL) (all_nil))))))))
theorem run88 : isTrue (evCall (cxX Tryz.prog bad [] [] ((8, numExtE [(0, 11, .lit 2), (0, 10, .lit 8), (0, 8, .lit 0), (0, 2, .lit 0)]) :: (31, frameFn l88) :: q1)) 1000 60 6 [.int .i64 (.var 0)] (sentH 453 20 errTab)) = true := by kernel_rfl
theorem case88 : CaseS [] [] [(0, 11, .lit 2), (0, 10, .lit 8), (0, 8, .lit 0), (0, 2, .lit 0)] [.int .i64 (.var 0)] := caseS (fun hL hk hT => FnsOk.cons (hT.ok fit) (FnsOk.cons (frame_fn_ok (l88_ok hL)) ((q1_ok hL)))) run88
noncomputable def l89 : List (Memo) := m9 :: m12 :: m7 :: m6 :: m5 :: m11 :: m26 :: m28 :: []
theorem l89_ok {σ : Nat → Int} {W0 : World} (hL : L0 W0) : ∀ x ∈ l89, MemoOk Tryz.prog 59391 σ W0 31 x := all_cons (m9_ok hL) (all_cons (m12_ok hL) (all_cons (m7_ok hL) (all_cons (m6_ok hL) (all_cons (m5_ok hL) (all_cons (m11_ok hL) (all_cons (m26_ok hL) (all_cons (m28_ok hL) (all_nil))))))))
theorem run89 : isTrue (evCall (cxX Tryz.prog bad [] [] ((8, numExtE [(0, 11, .lit 2), (0, 10, .lit 9), (0, 8, .lit 1), (0, 2, .lit 1)]) :: (31, frameFn l89) :: q1)) 1000 60 6 [.int .i64 (.var 0)] (sentH 453 20 errTab)) = true := by kernel_rfl
theorem case89 : CaseS [] [] [(0, 11, .lit 2), (0, 10, .lit 9), (0, 8, .lit 1), (0, 2, .lit 1)] [.int .i64 (.var 0)] := caseS (fun hL hk hT => FnsOk.cons (hT.ok fit) (FnsOk.cons (frame_fn_ok (l89_ok hL)) ((q1_ok hL)))) run89
noncomputable def l90 : List (Memo) := m9 :: m8 :: m7 :: m6 :: m5 :: m14 :: m3 :: m28 :: []
theorem l90_ok {σ : Nat → Int} {W0 : World} (hL : L0 W0) : ∀ x ∈ l90, MemoOk Tryz.prog 59391 σ W0 31 x := all_cons (m9_ok hL) (all_cons (m8_ok hL) (all_cons (m7_ok hL) (all_cons (m6_ok hL) (all_cons (m5_ok hL) (all_cons (m14_ok hL) (all_cons (m3_ok hL) (all_cons (m28_ok hL) (all_nil))))))))
theorem run90 : isTrue (evCall (cxX Tryz.prog bad [] [] ((8, numExtE [(0, 11, .lit 2), (0, 10, .lit 0), (0, 8, .lit 2), (0, 2, .lit 0)]) :: (31, frameFn l90) :: q1)) 1000 60 6 [.int .i64 (.var 0)] (sentH 453 20 errTab)) = true := by kernel_rfl
theorem case90 : CaseS [] [] [(0, 11, .lit 2), (0, 10, .lit 0), (0, 8, .lit 2), (0, 2, .lit 0)] [.int .i64 (.var 0)] := caseS (fun hL hk hT => FnsOk.cons (hT.ok fit) (FnsOk.cons (frame_fn_ok (l90_ok hL)) ((q1_ok hL)))) run90
noncomputable def l91 : List (Memo) := m9 :: m12 :: m7 :: m6 :: m5 :: m16 :: m10 :: m28 :: []
theorem l91_ok {σ : Nat → Int} {W0 : World} (hL : L0 W0) : ∀ x ∈ l91, MemoOk Tryz.prog 59391 σ W0 31 x := all_cons (m9_ok hL) (all_cons (m12_ok hL) (all_cons (m7_ok hL) (all_cons (m6_ok hL) (all_cons (m5_ok hL) (all_cons (m16_ok hL) (all_cons (m10_ok hL) (all_cons (m28_ok hL) (all_nil))))))))
theorem run91 : isTrue (evCall (cxX Tryz.prog bad [] [] ((8, numExtE [(0, 11, .lit 2), (0, 10, .lit 1), (0, 8, .lit 3), (0, 2, .lit 1)]) :: (31, frameFn l91) :: q1)) 1000 60 6 [.int .i64 (.var 0)] (sentH 453 20 errTab)) = true := by kernel_rfl
theorem case91 : CaseS [] [] [(0, 11, .lit 2), (0, 10, .lit 1), (0, 8, .lit 3), (0, 2, .lit 1)] [.int .i64 (.var 0)] := caseS (fun hL hk hT => FnsOk.cons (hT.ok fit) (FnsOk.cons (frame_fn_ok (l91_ok hL)) ((q1_ok hL)))) run91
noncomputable def l92 : List (Memo) := m9 :: m8 :: m7 :: m6 :: m5 :: m18 :: m13 :: m28 :: []
theorem l92_ok {σ : Nat → Int} {W0 : World} (hL : L0 W0) : ∀ x ∈ l92, MemoOk Tryz.prog 59391 σ W0 31 x := all_cons (m9_ok hL) (all_cons (m8_ok hL) (all_cons (m7_ok hL) (all_cons (m6_ok hL) (all_cons (m5_ok hL) (all_cons (m18_ok hL) (all_cons (m13_ok hL) (all_cons (m28_ok hL) (all_nil))))))))
theorem run92 : isTrue (evCall (cxX Tryz.prog bad [] [] ((8, numExtE [(0, 11, .lit 2), (0, 10, .lit 2), (0, 8, .lit 4), (0, 2, .lit 0)]) :: (31, frameFn l92) :: q1)) 1000 60 6 [.int .i64 (.var 0)] (sentH 453 20 errTab)) = true := by kernel_rfl
theorem case92 : CaseS [] [] [(0, 11, .lit 2), (0, 10, .lit 2), (0, 8, .lit 4), (0, 2, .lit 0)] [.int .i64 (.var 0)] := caseS (fun hL hk hT => FnsOk.cons (hT.ok fit) (FnsOk.cons (frame_fn_ok (l92_ok hL)) ((q1_ok hL)))) run92
noncomputable def l93 : List (Memo) := m9 :: m12 :: m7 :: m6 :: m5 :: m20 :: m15 :: m28 :: []
theorem l93_ok {σ : Nat → Int} {W0 : World} (hL : L0 W0) : ∀ x ∈ l93, MemoOk Tryz.prog 59391 σ W0 31 x := all_cons (m9_ok hL) (all_cons (m12_ok hL) (all_cons (m7_ok hL) (all_cons (m6_ok hL) (all_cons (m5_ok hL) (all_cons (m20_ok hL) (all_cons (m15_ok hL) (all_cons (m28_ok hL) (all_nil))))))))
theorem run93 : isTrue (evCall (cxX Tryz.prog bad [] [] ((8, numExtE [(0, 11, .lit 2), (0, 10, .lit 3), (0, 8, .lit 5), (0, 2, .lit 1)]) :: (31, frameFn l93) :: q1)) 1000 60 6 [.int .i64 (.var 0)] (sentH 453 20 errTab)) = true := by kernel_rfl
theorem case93 : CaseS [] [] [(0, 11, .lit 2), (0, 10, .lit 3), (0, 8, .lit 5), (0, 2, .lit 1)] [.int .i64 (.var 0)] := caseS (fun hL hk hT => FnsOk.cons (hT.ok fit) (FnsOk.cons (frame_fn_ok (l93_ok hL)) ((q1_ok hL)))) run93
noncomputable def l94 : List (Memo) := m9 :: m8 :: m7 :: m6 :: m5 :: m22 :: m17 :: m28 :: []
theorem l94_ok {σ : Nat → Int} {W0 : World} (hL : L0 W0) : ∀ x ∈ l94, MemoOk Tryz.prog 59391 σ W0 31 x := all_cons (m9_ok hL) (all_cons (m8_ok hL) (all_cons (m7_ok hL) (all_cons (m6_ok hL) (all_cons (m5_ok hL) (all_cons (m22_ok hL) (all_cons (m17_ok hL) (all_cons (m28_ok hL) (all_nil))))))))
theorem run94 : isTrue (evCall (cxX Tryz.prog bad [] [] ((8, numExtE [(0, 11, .lit 2), (0, 10, .lit 4), (0, 8, .lit 6), (0, 2, .lit 0)]) :: (31, frameFn l94) :: q1)) 1000 60 6 [.int .i64 (.var 0)] (sentH 453 20 errTab)) = true := by kernel_rfl
theorem case94 : CaseS [] [] [(0, 11, .lit 2), (0, 10, .lit 4), (0, 8, .lit 6), (0, 2, .lit 0)] [.int .i64 (.var 0)] := caseS (fun hL hk hT => FnsOk.cons (hT.ok fit) (FnsOk.cons (frame_fn_ok (l94_ok hL)) ((q1_ok hL)))) run94
noncomputable def l95 : List (Memo) := m9 :: m12 :: m7 :: m6 :: m5 :: m24 :: m19 :: m28 :: []
theorem l95_ok {σ : Nat → Int} {W0 : World} (hL : L0 W0) : ∀ x ∈ l95, MemoOk Tryz.prog 59391 σ W0 31 x := all_cons (m9_ok hL) (all_cons (m12_ok hL) (all_cons (m7_ok hL) (all_cons (m6_ok hL) (all_cons (m5_ok hL) (all_cons (m24_ok hL) (all_cons (m19_ok hL) (all_cons (m28_ok hL) (all_nil))))))))
theorem run95 : isTrue (evCall (cxX Tryz.prog bad [] [] ((8, numExtE [(0, 11, .lit 2), (0, 10, .lit 5), (0, 8, .lit 7), (0, 2, .lit 1)]) :: (31, frameFn l95) :: q1)) 1000 60 6 [.int .i64 (.var 0)] (sentH 453 20 errTab)) = true := by kernel_rfl
theorem case95 : CaseS [] [] [(0, 11, .lit 2), (0, 10, .lit 5), (0, 8, .lit 7), (0, 2, .lit 1)] [.int .i64 (.var 0)] := caseS (fun hL hk hT => FnsOk.cons (hT.ok fit) (FnsOk.cons (frame_fn_ok (l95_ok hL)) ((q1_ok hL)))) run95
noncomputable def l96 : List (Memo) := m9 :: m8 :: m7 :: m6 :: m5 :: m4 :: m21 :: m28 :: []
theorem l96_ok {σ : Nat → Int} {W0 : World} (hL : L0 W0) : ∀ x ∈ l96, MemoOk Tryz.prog 59391 σ W0 31 x := all_cons (m9_ok hL) (all_cons (m8_ok hL) (all_cons (m7_ok hL) (all_cons (m6_ok hL) (all_cons (m5_ok hL) (all_cons (m4_ok hL) (all_cons (m21_ok hL) (all_cons (m28_ok hL) (all_nil))))))))
theorem run96 : isTrue (evCall (cxX Tryz.prog bad [] [] ((8, numExtE [(0, 11, .lit 2), (0, 10, .lit 6), (0, 8, .lit 0), (0, 2, .lit 0)]) :: (31, frameFn l96) :: q1)) 1000 60 6 [.int .i64 (.var 0)] (sentH 453 20 errTab)) = true := by kernel_rfl
theorem case96 : CaseS [] [] [(0, 11, .lit 2), (0, 10, .lit 6), (0, 8, .lit 0), (0, 2, .lit 0)] [.int .i64 (.var 0)] := caseS (fun hL hk hT => FnsOk.cons (hT.ok fit) (FnsOk.cons (frame_fn_ok (l96_ok hL)) ((q1_ok hL)))) run96
noncomputable def l97 : List (Memo) := m9 :: m12 :: m7 :: m6 :: m5 :: m11 :: m23 :: m28 :: []
theorem l97_ok {σ : Nat → Int} {W0 : World} (hL : L0 W0) : ∀ x ∈ l97, MemoOk Tryz.prog 59391 σ W0 31 x := all_cons (m9_ok hL) (all_cons (m12_ok hL) (all_cons (m7_ok hL) (all_cons (m6_ok hL) (all_cons (m5_ok hL) (all_cons (m11_ok hL) (all_cons (m23_ok hL) (all_cons (m28_ok hL) (all_nil))))))))
theorem run97 : isTrue (evCall (cxX Tryz.prog bad [] [] ((8, numExtE [(0, 11, .lit 2), (0, 10, .lit 7), (0, 8, .lit 1), (0, 2, .lit 1)]) :: (31, frameFn l97) :: q1)) 1000 60 6 [.int .i64 (.var 0)] (sentH 453 20 errTab)) = true := by kernel_rfl
theorem case97 : CaseS [] [] [(0, 11, .lit 2), (0, 10, .lit 7), (0, 8, .lit 1), (0, 2, .lit 1)] [.int .i64 (.var 0)] := caseS (fun hL hk hT => FnsOk.cons (hT.ok fit) (FnsOk.cons (frame_fn_ok (l97_ok hL)) ((q1_ok hL)))) run97
noncomputable def l98 : List (Memo) := m9 :: m8 :: m7 :: m6 :: m5 :: m14 :: m25 :: m28 :: []
theorem l98_ok {σ : Nat → Int} {W0 : World} (hL : L0 W0) : ∀ x ∈ l98, MemoOk Tryz.prog 59391 σ W0 31 x := all_cons (m9_ok hL) (all_cons (m8_ok hL) (all_cons (m7_ok hL) (all_cons (m6_ok hL) (all_cons (m5_ok hL) (all_cons (m14_ok hL) (all_cons (m25_ok hL) (all_cons (m28_ok hL) (all_nil))))))))
theorem run98 : isTrue (evCall (cxX Tryz.prog bad [] [] ((8, numExtE [(0, 11, .lit 2), (0, 10, .lit 8), (0, 8, .lit 2), (0, 2, .lit 0)]) :: (31, frameFn l98) :: q1)) 1000 60 6 [.int .i64 (.var 0)] (sentH 453 20 errTab)) = true := by kernel_rfl
theorem case98 : CaseS [] [] [(0, 11, .lit 2), (0, 10, .lit 8), (0, 8, .lit 2), (0, 2, .lit 0)] [.int .i64 (.var 0)] := caseS (fun hL hk hT => FnsOk.cons (hT.ok fit) (FnsOk.cons (frame_fn_ok (l98_ok hL)) ((q1_ok hL)))) run98
noncomputable def l99 : List (Memo) := m9 :: m12 :: m7 :: m6 :: m5 :: m16 :: m26 :: m28 :: []
theorem l99_ok {σ : Nat → Int} {W0 : World} (hL : L0 W0) : ∀ x ∈ l99, MemoOk Tryz.prog 59391 σ W0 31 x := all_cons (m9_ok hL) (all_cons (m12_ok hL) (all_cons (m7_ok hL) (all_cons (m6_ok hL) (all_cons (m5_ok hL) (all_cons (m16_ok hL) (all_cons (m26_ok hL) (all_cons (m28_ok hL) (all_nil))))))))
theorem run99 : isTrue (evCall (cxX Tryz.prog bad [] [] ((8, numExtE [(0, 11, .lit 2), (0, 10, .lit 9), (0, 8, .lit 3), (0, 2, .lit 1)]) :: (31, frameFn l99) :: q1)) 1000 60 6 [.int .i64 (.var 0)] (sentH 453 20 errTab)) = true := by kernel_rfl
theorem case99 : CaseS [] [] [(0, 11, .lit 2), (0, 10, .lit 9), (0, 8, .lit 3), (0, 2, .lit 1)] [.int .i64 (.var 0)] := caseS (fun hL hk hT => FnsOk.cons (hT.ok fit) (FnsOk.cons (frame_fn_ok (l99_ok hL)) ((q1_ok hL)))) run99
noncomputable def l100 : List (Memo) := m9 :: m8 :: m7 :: m6 :: m5 :: m18 :: m3 :: m28 :: []
theorem l100_ok {σ : Nat → Int} {W0 : World} (hL : L0 W0) : ∀ x ∈ l100, MemoOk Tryz.prog 59391 σ W0 31 x := all_cons (m9_ok hL) (all_cons (m8_ok hL) (all_cons (m7_ok hL) (all_cons (m6_ok hL) (all_cons (m5_ok hL) (all_cons (m18_ok hL) (all_cons (m3_ok hL) (all_cons (m28_ok hL) (all_nil))))))))
theorem run100 : isTrue (evCall (cxX Tryz.prog bad [] [] ((8, numExtE [(0, 11, .lit 2), (0, 10, .lit 0), (0, 8, .lit 4), (0, 2, .lit 0)]) :: (31, frameFn l100) :: q1)) 1000 60 6 [.int .i64 (.var 0)] (sentH 453 20 errTab)) = true := by kernel_rfl
theorem case100 : CaseS [] [] [(0, 11, .lit 2), (0, 10, .lit 0), (0, 8, .lit 4), (0, 2, .lit 0)] [.int .i64 (.var 0)] := caseS (fun hL hk hT => FnsOk.cons (hT.ok fit) (FnsOk.cons (frame_fn_ok (l100_ok hL)) ((q1_ok hL)))) run100
noncomputable def l101 : List (Memo) := m9 :: m12 :: m7 :: m6 :: m5 :: m20 :: m10 :: m28 :: []
theorem l101_ok {σ : Nat → Int} {W0 : World} (hL : L0 W0) : ∀ x ∈ l101, MemoOk Tryz.prog 59391 σ W0 31 x := all_cons (m9_ok hL) (all_cons (m12_ok hL) (all_cons (m7_ok hL) (all_cons (m6_ok hL) (all_cons (m5_ok hL) (all_cons (m20_ok hL) (all_cons (m10_ok hL) (all_cons (m28_ok hL) (all_nil))))))))
theorem run101 : isTrue (evCall (cxX Tryz.prog bad [] [] ((8, numExtE [(0, 11, .lit 2), (0, 10, .lit 1), (0, 8, .lit 5), (0, 2, .lit 1)]) :: (31, frameFn l101) :: q1)) 1000 60 6 [.int .i64 (.var 0)] (sentH 453 20 errTab)) = true := by kernel_rfl
theorem case101 : CaseS [] [] [(0, 11, .lit 2), (0, 10, .lit 1), (0, 8, .lit 5), (0, 2, .lit 1)] [.int .i64 (.var 0)] := caseS (fun hL hk hT => FnsOk.cons (hT.ok fit) (FnsOk.cons (frame_fn_ok (l101_ok hL)) ((q1_ok hL)))) run101
noncomputable def l102 : List (Memo) := m9 :: m8 :: m7 :: m6 :: m5 :: m22 :: m13 :: m28 :: []
theorem l102_ok {σ : Nat → Int} {W0 : World} (hL : L0 W0) : ∀ x ∈ l102, MemoOk Tryz.prog 59391 σ W0 31 x := all_cons (m9_ok hL) (all_cons (m8_ok hL) (all_cons (m7_ok hL) (all_cons (m6_ok hL) (all_cons (m5_ok hL) (all_cons (m22_ok hL) (all_cons (m13_ok hL) (all_cons (m28_ok hL) (all_nil))))))))
theorem run102 : isTrue (evCall (cxX Tryz.prog bad [] [] ((8, numExtE [(0, 11, .lit 2), (0, 10, .lit 2), (0, 8, .lit 6), (0, 2, .lit 0)]) :: (31, frameFn l102) :: q1)) 1000 60 6 [.int .i64 (.var 0)] (sentH 453 20 errTab)) = true := by kernel_rfl
theorem case102 : CaseS [] [] [(0, 11, .lit 2), (0, 10, .lit 2), (0, 8, .lit 6), (0, 2, .lit 0)] [.int .i64 (.var 0)] := caseS (fun hL hk hT => FnsOk.cons (hT.ok fit) (FnsOk.cons (frame_fn_ok (l102_ok hL)) ((q1_ok hL)))) run102
noncomputable def l103 : List (Memo) := m9 :: m12 :: m7 :: m6 :: m5 :: m24 :: m15 :: m28 :: []
theorem l103_ok {σ : Nat → Int} {W0 : World} (hL : L0 W0) : ∀ x ∈ l103, MemoOk Tryz.prog 59391 σ W0 31 x := all_cons (m9_ok hL) (all_cons (m12_ok hL) (all_cons (m7_ok hL) (all_cons (m6_ok hL) (all_cons (m5_ok hL) (all_cons (m24_ok hL) (all_cons (m15_ok hL) (all_cons (m28_ok hL) (all_nil))))))))
theorem run103 : isTrue (evCall (cxX Tryz.prog bad [] [] ((8, numExtE [(0, 11, .lit 2), (0, 10, .lit 3), (0, 8, .lit 7), (0, 2, .lit 1)]) :: (31, frameFn l103) :: q1)) 1000 60 6 [.int .i64 (.var 0)] (sentH 453 20 errTab)) = true := by kernel_rfl
theorem case103 : CaseS [] [] [(0, 11, .lit 2), (0, 10, .lit 3), (0, 8, .lit 7), (0, 2, .lit 1)] [.int .i64 (.var 0)] := caseS (fun hL hk hT => FnsOk.cons (hT.ok fit) (FnsOk.cons (frame_fn_ok (l103_ok hL)) ((q1_ok hL)))) run103
noncomputable def l104 : List (Memo) := m9 :: m8 :: m7 :: m6 :: m5 :: m4 :: m17 :: m28 :: []
theorem l104_ok {σ : Nat → Int} {W0 : World} (hL : L0 W0) : ∀ x ∈ l104, MemoOk Tryz.prog 59391 σ W0 31 x := all_cons (m9_ok hL) (all_cons (m8_ok hL) (all_cons (m7_ok hL) (all_cons (m6_ok hL) (all_cons (m5_ok hL) (all_cons (m4_ok hL) (all_cons (m17_ok hL) (all_cons (m28_ok hL) (all_nil))))))))
theorem run104 : isTrue (evCall (cxX Tryz.prog bad [] [] ((8, numExtE [(0, 11, .lit 2), (0, 10, .lit 4), (0, 8, .lit 0), (0, 2, .lit 0)]) :: (31, frameFn l104) :: q1)) 1000 60 6 [.int .i64 (.var 0)] (sentH 453 20 errTab)) = true := by kernel_rfl
theorem case104 : CaseS [] [] [(0, 11, .lit 2), (0, 10, .lit 4), (0, 8, .lit 0), (0, 2, .lit 0)] [.int .i64 (.var 0)] := caseS (fun hL hk hT => FnsOk.cons (hT.ok fit) (FnsOk.cons (frame_fn_ok (l104_ok hL)) ((q1_ok hL)))) run104
noncomputable def l105 : List (Memo) := m9 :: m12 :: m7 :: m6 :: m5 :: m11 :: m19 :: m28 :: []
theorem l105_ok {σ : Nat → Int} {W0 : World} (hL : L0 W0) : ∀ x ∈ l105, MemoOk Tryz.prog 59391 σ W0 31 x := all_cons (m9_ok hL) (all_cons (m12_ok hL) (all_cons (m7_ok hL) (all_cons (m6_ok hL) (all_cons (m5_ok hL) (all_cons (m11_ok hL) (all_cons (m19_ok hL) (all_cons (m28_ok hL) (all_nil))))))))
theorem run105 : isTrue (evCall (cxX Tryz.prog bad [] [] ((8, numExtE [(0, 11, .lit 2), (0, 10, .lit 5), (0, 8, .lit 1), (0, 2, .lit 1)]) :: (31, frameFn l105) :: q1)) 1000 60 6 [.int .i64 (.var 0)] (sentH 453 20 errTab)) = true := by kernel_rfl
theorem case105 : CaseS [] [] [(0, 11, .lit 2), (0, 10, .lit 5), (0, 8, .lit 1), (0, 2, .lit 1)] [.int .i64 (.var 0)] := caseS (fun hL hk hT => FnsOk.cons (hT.ok fit) (FnsOk.cons (frame_fn_ok (l105_ok hL)) ((q1_ok hL)))) run105
noncomputable def l106 : List (Memo) := m9 :: m8 :: m7 :: m6 :: m5 :: m14 :: m21 :: m28 :: []
theorem l106_ok {σ : Nat → Int} {W0 : World} (hL : L0 W0) : ∀ x ∈ l106, MemoOk Tryz.prog 59391 σ W0 31 x := all_cons (m9_ok hL) (all_cons (m8_ok hL) (all_cons (m7_ok hL) (all_cons (m6_ok hL) (all_cons (m5_ok hL) (all_cons (m14_ok hL) (all_cons (m21_ok hL) (all_cons (m28_ok hL) (all_nil))))))))
theorem run106 : isTrue (evCall (cxX Tryz.prog bad [] [] ((8, numExtE [(0, 11, .lit 2), (0, 10, .lit 6), (0, 8, .lit 2), (0, 2, .lit 0)]) :: (31, frameFn l106) :: q1)) 1000 60 6 [.int .i64 (.var 0)] (sentH 453 20 errTab)) = true := by kernel_rfl
theorem case106 : CaseS [] [] [(0, 11, .lit 2), (0, 10, .lit 6), (0, 8, .lit 2), (0, 2, .lit 0)] [.int .i64 (.var 0)] := caseS (fun hL hk hT => FnsOk.cons (hT.ok fit) (FnsOk.cons (frame_fn_ok (l106_ok hL)) ((q1_ok hL)))) run106
noncomputable def l107 : List (Memo) := m9 :: m12 :: m7 :: m6 :: m5 :: m16 :: m23 :: m28 :: []
theorem l107_ok {σ : Nat → Int} {W0 : World} (hL : L0 W0) : ∀ x ∈ l107, MemoOk Tryz.prog 59391 σ W0 31 x := all_cons (m9_ok hL) (all_cons (m12_ok hL) (all_cons (m7_ok hL) (all_cons (m6_ok hL) (all_cons (m5_ok hL) (all_cons (m16_ok hL) (all_cons (m23_ok hL) (all_cons (m28_ok hL) (all_nil))))))))
theorem run107 : isTrue (evCall (cxX Tryz.prog bad [] [] ((8, numExtE [(0, 11, .lit 2), (0, 10, .lit 7), (0, 8, .lit 3), (0, 2, .lit 1)]) :: (31, frameFn l107) :: q1)) 1000 60 6 [.int .i64 (.var 0)] (sentH 453 20 errTab)) = true := by kernel_rfl
theorem case107 : CaseS [] [] [(0, 11, .lit 2), (0, 10, .lit 7), (0, 8, .lit 3), (0, 2, .lit 1)] [.int .i64 (.var 0)] := caseS (fun hL hk hT => FnsOk.cons (hT.ok fit) (FnsOk.cons (frame_fn_ok (l107_ok hL)) ((q1_ok hL)))) run107
noncomputable def l108 : List (Memo) := m9 :: m8 :: m7 :: m6 :: m5 :: m18 :: m25 :: m28 :: []
theorem l108_ok {σ : Nat → Int} {W0 : World} (hL : L0 W0) : ∀ x ∈ l108, MemoOk Tryz.prog 59391 σ W0 31 x := all_cons (m9_ok hL) (all_cons (m8_ok hL) (all_cons (m7_ok hL) (all_cons (m6_ok hL) (all_cons (m5_ok hL) (all_cons (m18_ok hL) (all_cons (m25_ok hL) (all_cons (m28_ok hL) (all_nil))))))))
theorem run108 : isTrue (evCall (cxX Tryz.prog bad [] [] ((8, numExtE [(0, 11, .lit 2), (0, 10, .lit 8), (0, 8, .lit 4), (0, 2, .lit 0)]) :: (31, frameFn l108) :: q1)) 1000 60 6 [.int .i64 (.var 0)] (sentH 453 20 errTab)) = true := by kernel_rfl
theorem case108 : CaseS [] [] [(0, 11, .lit 2), (0, 10, .lit 8), (0, 8, .lit 4), (0, 2, .lit 0)] [.int .i64 (.var 0)] := caseS (fun hL hk hT => FnsOk.cons (hT.ok fit) (FnsOk.cons (frame_fn_ok (l108_ok hL)) ((q1_ok hL)))) run108
noncomputable def l109 : List (Memo) := m9 :: m12 :: m7 :: m6 :: m5 :: m20 :: m26 :: m28 :: []
theorem l109_ok {σ : Nat → Int} {W0 : World} (hL : L0 W0) : ∀ x ∈ l109, MemoOk Tryz.prog 59391 σ W0 31 x := all_cons (m9_ok hL) (all_cons (m12_ok hL) (all_cons (m7_ok hL) (all_cons (m6_ok hL) (all_cons (m5_ok hL) (all_cons (m20_ok hL) (all_cons (m26_ok hL) (all_cons (m28_ok hL) (all_nil))))))))
theorem run109 : isTrue (evCall (cxX Tryz.prog bad [] [] ((8, numExtE [(0, 11, .lit 2), (0, 10, .lit 9), (0, 8, .lit 5), (0, 2, .lit 1)]) :: (31, frameFn l109) :: q1)) 1000 60 6 [.int .i64 (.var 0)] (sentH 453 20 errTab)) = true := by kernel_rfl
theorem case109 : CaseS [] [] [(0, 11, .lit 2), (0, 10, .lit 9), (0, 8, .lit 5), (0, 2, .lit 1)] [.int .i64 (.var 0)] := caseS (fun hL hk hT => FnsOk.cons (hT.ok fit) (FnsOk.cons (frame_fn_ok (l109_ok hL)) ((q1_ok hL)))) run109
noncomputable def l110 : List (Memo) := m9 :: m8 :: m7 :: m6 :: m5 :: m22 :: m3 :: m28 :: []
theorem l110_ok {σ : Nat → Int} {W0 : World} (hL : L0 W0) : ∀ x ∈ l110, MemoOk Tryz.prog 59391 σ W0 31 x := all_cons (m9_ok hL) (all_cons (m8_ok hL) (all_cons (m7_ok hL) (all_cons (m6_ok hL) (all_cons (m5_ok hL) (all_cons (m22_ok hL) (all_cons (m3_ok hL) (all_cons (m28_ok hL) (all_nil))))))))
theorem run110 : isTrue (evCall (cxX Tryz.prog bad [] [] ((8, numExtE [(0, 11, .lit 2), (0, 10, .lit 0), (0, 8, .lit 6), (0, 2, .lit 0)]) :: (31, frameFn l110) :: q1)) 1000 60 6 [.int .i64 (.var 0)] (sentH 453 20 errTab)) = true := by kernel_rfl
theorem case110 : CaseS [] [] [(0, 11, .lit 2), (0, 10, .lit 0), (0, 8, .lit 6), (0, 2, .lit 0)] [.int .i64 (.var 0)] := caseS (fun hL hk hT => FnsOk.cons (hT.ok fit) (FnsOk.cons (frame_fn_ok (l110_ok hL)) ((q1_ok hL)))) run110
noncomputable def l111 : List (Memo) := m9 :: m12 :: m7 :: m6 :: m5 :: m24 :: m10 :: m28 :: []
theorem l111_ok {σ : Nat → Int} {W0 : World} (hL : L0 W0) : ∀ x ∈ l111, MemoOk Tryz.prog 59391 σ W0 31 x := all_cons (m9_ok hL) (all_cons (m12_ok hL) (all_cons (m7_ok hL) (all_cons (m6_ok hL) (all_cons (m5_ok hL) (all_cons (m24_ok hL) (all_cons (m10_ok hL) (all_cons (m28_ok hL) (all_nil))))))))
theorem run111 : isTrue (evCall (cxX Tryz.prog bad [] [] ((8, numExtE [(0, 11, .lit 2), (0, 10, .lit 1), (0, 8, .lit 7), (0, 2, .lit 1)]) :: (31, frameFn l111) :: q1)) 1000 60 6 [.int .i64 (.var 0)] (sentH 453 20 errTab)) = true := by kernel_rfl
theorem case111 : CaseS [] [] [(0, 11, .lit 2), (0, 10, .lit 1), (0, 8, .lit 7), (0, 2, .lit 1)] [.int .i64 (.var 0)] := caseS (fun hL hk hT => FnsOk.cons (hT.ok fit) (FnsOk.cons (frame_fn_ok (l111_ok hL)) ((q1_ok hL)))) run111
noncomputable def l112 : List (Memo) := m9 :: m8 :: m7 :: m6 :: m5 :: m4 :: m13 :: m28 :: []
theorem l112_ok {σ : Nat → Int} {W0 : World} (hL : L0 W0) : ∀ x ∈ l112, MemoOk Tryz.prog 59391 σ W0 31 x := all_cons (m9_ok hL) (all_cons (m8_ok hL) (all_cons (m7_ok hL) (all_cons (m6_ok hL) (all_cons (m5_ok hL) (all_cons (m4_ok hL) (all_cons (m13_ok hL) (all_cons (m28_ok hL) (all_nil))))))))
theorem run112 : isTrue (evCall (cxX Tryz.prog bad [] [] ((8, numExtE [(0, 11, .lit 2), (0, 10, .lit 2), (0, 8, .lit 0), (0, 2, .lit 0)]) :: (31, frameFn l112) :: q1)) 1000 60 6 [.int .i64 (.var 0)] (sentH 453 20 errTab)) = true := by kernel_rfl
theorem case112 : CaseS [] [] [(0, 11, .lit 2), (0, 10, .lit 2), (0, 8, .lit 0), (0, 2, .lit 0)] [.int .i64 (.var 0)] := caseS (fun hL hk hT => FnsOk.cons (hT.ok fit) (FnsOk.cons (frame_fn_ok (l112_ok hL)) ((q1_ok hL)))) run112
noncomputable def l113 : List (Memo) := m9 :: m12 :: m7 :: m6 :: m5 :: m11 :: m15 :: m28 :: []
theorem l113_ok {σ : Nat → Int} {W0 : World} (hL : L0 W0) : ∀ x ∈ l113, MemoOk Tryz.prog 59391 σ W0 31 x := all_cons (m9_ok hL) (all_cons (m12_ok hL) (all_cons (m7_ok hL) (all_cons (m6_ok hL) (all_cons (m5_ok hL) (all_cons (m11_ok hL) (all_cons (m15_ok hL) (all_cons (m28_ok hL) (all_nil))))))))
theorem run113 : isTrue (evCall (cxX Tryz.prog bad [] [] ((8, numExtE [(0, 11, .lit 2), (0, 10, .lit 3), (0, 8, .lit 1), (0, 2, .lit 1)]) :: (31, frameFn l113) :: q1)) 1000 60 6 [.int .i64 (.var 0)] (sentH 453 20 errTab)) = true := by kernel_rfl
theorem case113 : CaseS [] [] [(0, 11, .lit 2), (0, 10, .lit 3), (0, 8, .lit 1), (0, 2, .lit 1)] [.int .i64 (.var 0)] := caseS (fun hL hk hT => FnsOk.cons (hT.ok fit) (FnsOk.cons (frame_fn_ok (l113_ok hL)) ((q1_ok hL)))) run113
noncomputable def l114 : List (Memo) := m9 :: m8 :: m7 :: m6 :: m5 :: m14 :: m17 :: m28 :: []
theorem l114_ok {σ : Nat → Int} {W0 : World} (hL : L0 W0) : ∀ x ∈ l114, MemoOk Tryz.prog 59391 σ W0 31 x := all_cons (m9_ok hL) (all_cons (m8_ok hL) (all_cons (m7_ok hL) (all_cons (m6_ok hL) (all_cons (m5_ok hL) (all_cons (m14_ok hL) (all_cons (m17_ok hL) (all_cons (m28_ok hL) (all_nil))))))))
theorem run114 : isTrue (evCall (cxX Tryz.prog bad [] [] ((8, numExtE [(0, 11, .lit 2), (0, 10, .lit 4), (0, 8, .lit 2), (0, 2, .lit 0)]) :: (31, frameFn l114) :: q1)) 1000 60 6 [.int .i64 (.var 0)] (sentH 453 20 errTab)) = true := by kernel_rfl
theorem case114 : CaseS [] [] [(0, 11, .lit 2), (0, 10, .lit 4), (0, 8, .lit 2), (0, 2, .lit 0)] [.int .i64 (.var 0)] := caseS (fun hL hk hT => FnsOk.cons (hT.ok fit) (FnsOk.cons (frame_fn_ok (l114_ok hL)) ((q1_ok hL)))) run114
noncomputable def l115 : List (Memo) := m9 :: m12 :: m7 :: m6 :: m5 :: m16 :: m19 :: m28 :: []
theorem l115_ok {σ : Nat → Int} {W0 : World} (hL : L0 W0) : ∀ x ∈ l115, MemoOk Tryz.prog 59391 σ W0 31 x := all_cons (m9_ok hL) (all_cons (m12_ok hL) (all_cons (m7_ok hL) (all_cons (m6_ok hL) (all_cons (m5_ok hL) (all_cons (m16_ok hL) (all_cons (m19_ok hL) (all_cons (m28_ok hL) (all_nil))))))))
theorem run115 : isTrue (evCall (cxX Tryz.prog bad [] [] ((8, numExtE [(0, 11, .lit 2), (0, 10, .lit 5), (0, 8, .lit 3), (0, 2, .lit 1)]) :: (31, frameFn l115) :: q1)) 1000 60 6 [.int .i64 (.var 0)] (sentH 453 20 errTab)) = true := by kernel_rfl
theorem case115 : CaseS [] [] [(0, 11, .lit 2), (0, 10, .lit 5), (0, 8, .lit 3), (0, 2, .lit 1)] [.int .i64 (.var 0)] := caseS (fun hL hk hT => FnsOk.cons (hT.ok fit) (FnsOk.cons (frame_fn_ok (l115_ok hL)) ((q1_ok hL)))) run115
noncomputable def l116 : List (Memo) := m9 :: m8 :: m7 :: m6 :: m5 :: m18 :: m21 :: m28 :: []
theorem l116_ok {σ : Nat → Int} {W0 : World} (hL : L0 W0) : ∀ x ∈ l116, MemoOk Tryz.prog 59391 σ W0 31 x := all_cons (m9_ok hL) (all_cons (m8_ok hL) (all_cons (m7_ok hL) (all_cons (m6_ok hL) (all_cons (m5_ok hL) (all_cons (m18_ok hL) (all_cons (m21_ok hL) (all_cons (m28_ok hL) (all_nil))))))))
theorem run116 : isTrue (evCall (cxX Tryz.prog bad [] [] ((8, numExtE [(0, 11, .lit 2), (0, 10, .lit 6), (0, 8, .lit 4), (0, 2, .lit 0)]) :: (31, frameFn l116) :: q1)) 1000 60 6 [.int .i64 (.var 0)] (sentH 453 20 errTab)) = true := by kernel_rfl
theorem case116 : CaseS [] [] [(0, 11, .lit 2), (0, 10, .lit 6), (0, 8, .lit 4), (0, 2, .lit 0)] [.int .i64 (.var 0)] := caseS (fun hL hk hT => FnsOk.cons (hT.ok fit) (FnsOk.cons (frame_fn_ok (l116_ok hL)) ((q1_ok hL)))) run116
noncomputable def l117 : List (Memo) := m9 :: m12 :: m7 :: m6 :: m5 :: m20 :: m23 :: m28 :: []
theorem l117_ok {σ : Nat → Int} {W0 : World} (hL : L0 W0) : ∀ x ∈ l117, MemoOk Tryz.prog 59391 σ W0 31 x := all_cons (m9_ok hL) (all_cons (m12_ok hL) (all_cons (m7_ok hL) (all_cons (m6_ok hL) (all_cons (m5_ok hL) (all_cons (m20_ok hL) (all_cons (m23_ok hL) (all_cons (m28_ok hL) (all_nil))))))))
theorem run117 : isTrue (evCall (cxX Tryz.prog bad [] [] ((8, numExtE [(0, 11, .lit 2), (0, 10, .lit 7), (0, 8, .lit 5), (0, 2, .lit 1)]) :: (31, frameFn l117) :: q1)) 1000 60 6 [.int .i64 (.var 0)] (sentH 453 20 errTab)) = true := by kernel_rfl
theorem case117 : CaseS [] [] [(0, 11, .lit 2), (0, 10, .lit 7), (0, 8, .lit 5), (0, 2, .lit 1)] [.int .i64 (.var 0)] := caseS (fun hL hk hT => FnsOk.cons (hT.ok fit) (FnsOk.cons (frame_fn_ok (l117_ok hL)) ((q1_ok hL)))) run117
noncomputable def l118 : List (Memo) := m9 :: m8 :: m7 :: m6 :: m5 :: m22 :: m25 :: m28 :: []
theorem l118_ok {σ : Nat → Int} {W0 : World} (hL : L0 W0) : ∀ x ∈ l118, MemoOk Tryz.prog 59391 σ W0 31 x := all_cons (m9_ok hL) (all_cons (m8_ok hL) (all_cons (m7_ok hL) (all_cons (m6_ok hL) (all_cons (m5_ok hL) (all_cons (m22_ok hL) (all_cons (m25_ok hL) (all_cons (m28_ok hL) (all_nil))))))))
theorem run118 : isTrue (evCall (cxX Tryz.prog bad [] [] ((8, numExtE [(0, 11, .lit 2), (0, 10, .lit 8), (0, 8, .lit 6), (0, 2, .lit 0)]) :: (31, frameFn l118) :: q1)) 1000 60 6 [.int .i64 (.var 0)] (sentH 453 20 errTab)) = true := by kernel_rfl
theorem case118 : CaseS [] [] [(0, 11, .lit 2), (0, 10, .lit 8), (0, 8, .lit 6), (0, 2, .lit 0)] [.int .i64 (.var 0)] := caseS (fun hL hk hT => FnsOk.cons (hT.ok fit) (FnsOk.cons (frame_fn_ok (l118_ok hL)) ((q1_ok hL)))) run118
noncomputable def l119 : List (Memo) := m9 :: m12 :: m7 :: m6 :: m5 :: m24 :: m26 :: m28 :: []
theorem l119_ok {σ : Nat → Int} {W0 : World} (hL : L0 W0) : ∀ x ∈ l119, MemoOk Tryz.prog 59391 σ W0 31 x := all_cons (m9_ok hL) (all_cons (m12_ok hL) (all_cons (m7_ok hL) (all_cons (m6_ok hL) (all_cons (m5_ok hL) (all_cons (m24_ok hL) (all_cons (m26_ok hL) (all_cons (m28_ok hL) (all_nil))))))))
theorem run119 : isTrue (evCall (cxX Tryz.prog bad [] [] ((8, numExtE [(0, 11, .lit 2), (0, 10, .lit 9), (0, 8, .lit 7), (0, 2, .lit 1)]) :: (31, frameFn l119) :: q1)) 1000 60 6 [.int .i64 (.var 0)] (sentH 453 20 errTab)) = true := by kernel_rfl
theorem case119 : CaseS [] [] [(0, 11, .lit 2), (0, 10, .lit 9), (0, 8, .lit 7), (0, 2, .lit 1)] [.int .i64 (.var 0)] := caseS (fun hL hk hT => FnsOk.cons (hT.ok fit) (FnsOk.cons (frame_fn_ok (l119_ok hL)) ((q1_ok hL)))) run119
noncomputable def m29 : Memo := ⟨[.ptr 34 0, .str [98, 111, 111, 116, 32, 49, 32, 50]], h2, .tuple [.snil, .iface 453 (.ptr 32 0)], h3⟩
theorem m29_run : ranTo (evCall (cxX Tryz.prog bad [] [] q0) 1000 60 31 m29.args m29.h) m29.v m29.h' = true := by kernel_rfl
theorem m29_ok {σ : Nat → Int} {W0 : World} (hL : L0 W0) : MemoOk Tryz.prog 59391 σ W0 31 m29 := memo_ok fit (Known2.nil σ) ((q0_ok hL)) m29_run
noncomputable def l120 : List (Memo) := m9 :: m8 :: m7 :: m6 :: m5 :: m4 :: m3 :: m29 :: []
theorem l120_ok {σ : Nat → Int} {W0 : World} (hL : L0 W0) : ∀ x ∈ l120, MemoOk Tryz.prog 59391 σ W0 31 x := all_cons (m9_ok hL) (all_cons (m8_ok hL) (all_cons (m7_ok hL) (all_cons (m6_ok hL) (all_cons (m5_ok hL) (all_cons (m4_ok hL) (all_cons (m3_ok hL) (all_cons (m29_ok hL) (all_nil))))))))
theorem run120 : isTrue (evCall (cxX Tryz.prog bad [] [] ((8, numExtE [(0, 11, .lit 3), (0, 10, .lit 0), (0, 8, .lit 0), (0, 2, .lit 0)]) :: (31, frameFn l120) :: q1)) 1000 60 6 [.int .i64 (.var 0)] (sentH 453 20 errTab)) = true := by kernel_rfl
theorem case120 : CaseS [] [] [(0, 11, .lit 3), (0, 10, .lit 0), (0, 8, .lit 0), (0, 2, .lit 0)] [.int .i64 (.var 0)] := caseS (fun hL hk hT => FnsOk.cons (hT.ok fit) (FnsOk.cons (frame_fn_ok (l120_ok hL)) ((q1_ok hL)))) run120
noncomputable def l121 : List (Memo) := m9 :: m12 :: m7 :: m6 :: m5 :: m11 :: m10 :: m29 :: []
theorem l121_ok {σ : Nat → Int} {W0 : World} (hL : L0 W0) : ∀ x ∈ l121, MemoOk Tryz.prog 59391 σ W0 31 x := all_cons (m9_ok hL) (all_cons (m12_ok hL) (all_cons (m7_ok hL) (all_cons (m6_ok hL) (all_cons (m5_ok hL) (all_cons (m11_ok hL) (all_cons (m10_ok hL) (all_cons (m29_ok hL) (all_nil))))))))
theorem run121 : isTrue (evCall (cxX Tryz.prog bad [] [] ((8, numExtE [(0, 11, .lit 3), (0, 10, .lit 1), (0, 8, .lit 1), (0, 2, .lit 1)]) :: (31, frameFn l121) :: q1)) 1000 60 6 [.int .i64 (.var 0)] (sentH 453 20 errTab)) = true := by kernel_rfl
theorem case121 : CaseS [] [] [(0, 11, .lit 3), (0, 10, .lit 1), (0, 8, .lit 1), (0, 2, .lit 1)] [.int .i64 (.var 0)] := caseS (fun hL hk hT => FnsOk.cons (hT.ok fit) (FnsOk.cons (frame_fn_ok (l121_ok hL)) ((q1_ok hL)))) run121
noncomputable def l122 : List (Memo) := m9 :: m8 :: m7 :: m6 :: m5 :: m14 :: m13 :: m29 :: []
theorem l122_ok {σ : Nat → Int} {W0 : World} (hL : L0 W0) : ∀ x ∈ l122, MemoOk Tryz.prog 59391 σ W0 31 x := all_cons (m9_ok hL) (all_cons (m8_ok hL) (all_cons (m7_ok hL) (all_cons (m6_ok hL) (all_cons (m5_ok hL) (all_cons (m14_ok hL) (all_cons (m13_ok hL) (all_cons (m29_ok hL) (all_nil))))))))
theorem run122 : isTrue (evCall (cxX Tryz.prog bad [] [] ((8, numExtE [(0, 11, .lit 3), (0, 10, .lit 2), (0, 8, .lit 2), (0, 2, .lit 0)]) :: (31, frameFn l122) :: q1)) 1000 60 6 [.int .i64 (.var 0)] (sentH 453 20 errTab)) = true := by kernel_rfl
theorem case122 : CaseS [] [] [(0, 11, .lit 3), (0, 10, .lit 2), (0, 8, .lit 2), (0, 2, .lit 0)] [.int .i64 (.var 0)] := caseS (fun hL hk hT => FnsOk.cons (hT.ok fit) (FnsOk.cons (frame_fn_ok (l122_ok hL)) ((q1_ok hL)))) run122
noncomputable def l123 : List (Memo) := m9 :: m12 :: m7 :: m6 :: m5 :: m16 :: m15 :: m29 :: []
theorem l123_ok {σ : Nat → Int} {W0 : World} (hL : L0 W0) : ∀ x ∈ l123, MemoOk Tryz.prog 59391 σ W0 31 x := all_cons (m9_ok hL) (all_cons (m12_ok hL) (all_cons (m7_ok hL) (all_cons (m6_ok hL) (all_cons (m5_ok hL) (all_cons (m16_ok hL) (all_cons (m15_ok hL) (all_cons (m29_ok hL) (all_nil))))))))
theorem run123 : isTrue (evCall (cxX Tryz.prog bad [] [] ((8, numExtE [(0, 11, .lit 3), (0, 10, .lit 3), (0, 8, .lit 3), (0, 2, .lit 1)]) :: (31, frameFn l123) :: q1)) 1000 60 6 [.int .i64 (.var 0)] (sentH 453 20 errTab)) = true := by kernel_rfl
theorem case123 : CaseS [] [] [(0, 11, .lit 3), (0, 10, .lit 3), (0, 8, .lit 3), (0, 2, .lit 1)] [.int .i64 (.var 0)] := caseS (fun hL hk hT => FnsOk.cons (hT.ok fit) (FnsOk.cons (frame_fn_ok (l123_ok hL)) ((q1_ok hL)))) run123
noncomputable def l124 : List (Memo) := m9 :: m8 :: m7 :: m6 :: m5 :: m18 :: m17 :: m29 :: []
theorem l124_ok {σ : Nat → Int} {W0 : World} (hL : L0 W0) : ∀ x ∈ l124, MemoOk Tryz.prog 59391 σ W0 31 x := all_cons (m9_ok hL) (all_cons (m8_ok hL) (all_cons (m7_ok hL) (all_cons (m6_ok hL) (all_cons (m5_ok hL) (all_cons (m18_ok hL) (all_cons (m17_ok hL) (all_cons (m29_ok hL) (all_nil))))))))
theorem run124 : isTrue (evCall (cxX Tryz.prog bad [] [] ((8, numExtE [(0, 11, .lit 3), (0, 10, .lit 4), (0, 8, .lit 4), (0, 2, .lit 0)]) :: (31, frameFn l124) :: q1)) 1000 60 6 [.int .i64 (.var 0)] (sentH 453 20 errTab)) = true := by kernel_rfl
theorem case124 : CaseS [] [] [(0, 11, .lit 3), (0, 10, .lit 4), (0, 8, .lit 4), (0, 2, .lit 0)] [.int .i64 (.var 0)] := caseS (fun hL hk hT => FnsOk.cons (hT.ok fit) (FnsOk.cons (frame_fn_ok (l124_ok hL)) ((q1_ok hL)))) run124
noncomputable def l125 : List (Memo) := m9 :: m12 :: m7 :: m6 :: m5 :: m20 :: m19 :: m29 :: []
theorem l125_ok {σ : Nat → Int} {W0 : World} (hL : L0 W0) : ∀ x ∈ l125, MemoOk Tryz.prog 59391 σ W0 31 x := all_cons (m9_ok hL) (all_cons (m12_ok hL) (all_cons (m7_ok hL) (all_cons (m6_ok hL) (all_cons (m5_ok hL) (all_cons (m20_ok hL) (all_cons (m19_ok hL) (all_cons (m29_ok hL) (all_nil))))))))
theorem run125 : isTrue (evCall (cxX Tryz.prog bad [] [] ((8, numExtE [(0, 11, .lit 3), (0, 10, .lit 5), (0, 8, .lit 5), (0, 2, .lit 1)]) :: (31, frameFn l125) :: q1)) 1000 60 6 [.int .i64 (.var 0)] (sentH 453 20 errTab)) = true := by kernel_rfl
theorem case125 : CaseS [] [] [(0, 11, .lit 3), (0, 10, .lit 5), (0, 8, .lit 5), (0, 2, .lit 1)] [.int .i64 (.var 0)] := caseS (fun hL hk hT => FnsOk.cons (hT.ok fit) (FnsOk.cons (frame_fn_ok (l125_ok hL)) ((q1_ok hL)))) run125
noncomputable def l126 : List (Memo) := m9 :: m8 :: m7 :: m6 :: m5 :: m22 :: m21 :: m29 :: []
theorem l126_ok {σ : Nat → Int} {W0 : World} (hL : L0 W0) : ∀ x ∈ l126, MemoOk Tryz.prog 59391 σ W0 31 x := all_cons (m9_ok hL) (all_cons (m8_ok hL) (all_cons (m7_ok hL) (all_cons (m6_ok hL) (all_cons (m5_ok hL) (all_cons (m22_ok hL) (all_cons (m21_ok hL) (all_cons (m29_ok hL) (all_nil))))))))
theorem run126 : isTrue (evCall (cxX Tryz.prog bad [] [] ((8, numExtE [(0, 11, .lit 3), (0, 10, .lit 6), (0, 8, .lit 6), (0, 2, .lit 0)]) :: (31, frameFn l126) :: q1)) 1000 60 6 [.int .i64 (.var 0)] (sentH 453 20 errTab)) = true := by kernel_rfl
theorem case126 : CaseS [] [] [(0, 11, .lit 3), (0, 10, .lit 6), (0, 8, .lit 6), (0, 2, .lit 0)] [.int .i64 (.var 0)] := caseS (fun hL hk hT => FnsOk.cons (hT.ok fit) (FnsOk.cons (frame_fn_ok (l126_ok hL)) ((q1_ok hL)))) run126
noncomputable def l127 : List (Memo) := m9 :: m12 :: m7 :: m6 :: m5 :: m24 :: m23 :: m29 :: []
theorem l127_ok {σ : Nat → Int} {W0 : World} (hL : L0 W0) : ∀ x ∈ l127, MemoOk Tryz.prog 59391 σ W0 31 x := all_cons (m9_ok hL) (all_cons (m12_ok hL) (all_cons (m7_ok hL) (all_cons (m6_ok hL) (all_cons (m5_ok hL) (all_cons (m24_ok hL) (all_cons (m23_ok hL) (all_cons (m29_ok hL) (all_nil))))))))
theorem run127 : isTrue (evCall (cxX Tryz.prog bad [] [] ((8, numExtE [(0, 11, .lit 3), (0, 10, .lit 7), (0, 8, .lit 7), (0, 2, .lit 1)]) :: (31, frameFn l127) :: q1)) 1000 60 6 [.int .i64 (.var 0)] (sentH 453 20 errTab)) = true := by kernel_rfl
theorem case127 : CaseS [] [] [(0, 11, .lit 3), (0, 10, .lit 7), (0, 8, .lit 7), (0, 2, .lit 1)] [.int .i64 (.var 0)] := caseS (fun hL hk hT => FnsOk.cons (hT.ok fit) (FnsOk.cons (frame_fn_ok (l127_ok hL)) ((q1_ok hL)))) run127
noncomputable def l128 : List (Memo) := m9 :: m8 :: m7 :: m6 :: m5 :: m4 :: m25 :: m29 :: []
theorem l128_ok {σ : Nat → Int} {W0 : World} (hL : L0 W0) : ∀ x ∈ l128, MemoOk Tryz.prog 59391 σ W0 31 x := all_cons (m9_ok hL) (all_cons (m8_ok hL) (all_cons (m7_ok hL) (all_cons (m6_ok hL) (all_cons (m5_ok hL) (all_cons (m4_ok hL) (all_cons (m25_ok hL) (all_cons (m29_ok hL) (all_nil))))))))
theorem run128 : isTrue (evCall (cxX Tryz.prog bad [] [] ((8, numExtE [(0, 11, .lit 3), (0, 10, .lit 8), (0, 8, .lit 0), (0, 2, .lit 0)]) :: (31, frameFn l128) :: q1)) 1000 60 6 [.int .i64 (.var 0)] (sentH 453 20 errTab)) = true := by kernel_rfl
theorem case128 : CaseS [] [] [(0, 11, .lit 3), (0, 10, .lit 8), (0, 8, .lit 0), (0, 2, .lit 0)] [.int .i64 (.var 0)] := caseS (fun hL hk hT => FnsOk.cons (hT.ok fit) (FnsOk.cons (frame_fn_ok (l128_ok hL)) ((q1_ok hL)))) run128
noncomputable def l129 : List (Memo) := m9 :: m12 :: m7 :: m6 :: m5 :: m11 :: m26 :: m29 :: []
theorem l129_ok {σ : Nat → Int} {W0 : World} (hL : L0 W0) : ∀ x ∈ l129, MemoOk Tryz.prog 59391 σ W0 31 x := all_cons (m9_ok hL) (all_cons (m12_ok hL) (all_cons (m7_ok hL) (all_cons (m6_ok hL) (all_cons (m5_ok hL) (all_cons (m11_ok hL) (all_cons (m26_ok hL) (all_cons (m29_ok hL) (all_nil))))))))
theorem run129 : isTrue (evCall (cxX Tryz.prog bad [] [] ((8, numExtE [(0, 11, .lit 3), (0, 10, .lit 9), (0, 8, .lit 1), (0, 2, .lit 1)]) :: (31, frameFn l129) :: q1)) 1000 60 6 [.int .i64 (.var 0)] (sentH 453 20 errTab)) = true := by kernel_rfl
theorem case129 : CaseS [] [] [(0, 11, .lit 3), (0, 10, .lit 9), (0, 8, .lit 1), (0, 2, .lit 1)] [.int .i64 (.var 0)] := caseS (fun hL hk hT => FnsOk.cons (hT.ok fit) (FnsOk.cons (frame_fn_ok (l129_ok hL)) ((q1_ok hL)))) run129
noncomputable def l130 : List (Memo) := m9 :: m8 :: m7 :: m6 :: m5 :: m14 :: m3 :: m29 :: []
theorem l130_ok {σ : Nat → Int} {W0 : World} (hL : L0 W0) : ∀ x ∈ l130, MemoOk Tryz.prog 59391 σ W0 31 x := all_cons (m9_ok hL) (all_cons (m8_ok hL) (all_cons (m7_ok hL) (all_cons (m6_ok hL) (all_cons (m5_ok hL) (all_cons (m14_ok hL) (all_cons (m3_ok hL) (all_cons (m29_ok hL) (all_nil))))))))
theorem run130 : isTrue (evCall (cxX Tryz.prog bad [] [] ((8, numExtE [(0, 11, .lit 3), (0, 10, .lit 0), (0, 8, .lit 2), (0, 2, .lit 0)]) :: (31, frameFn l130) :: q1)) 1000 60 6 [.int .i64 (.var 0)] (sentH 453 20 errTab)) = true := by kernel_rfl
theorem case130 : CaseS [] [] [(0, 11, .lit 3), (0, 10, .lit 0), (0, 8, .lit 2), (0, 2, .lit 0)] [.int .i64 (.var 0)] := caseS (fun hL hk hT => FnsOk.cons (hT.ok fit) (FnsOk.cons (frame_fn_ok (l130_ok hL)) ((q1_ok hL)))) run130
noncomputable def l131 : List (Memo) := m9 :: m12 :: m7 :: m6 :: m5 :: m16 :: m10 :: m29 :: []
theorem l131_ok {σ : Nat → Int} {W0 : World} (hL : L0 W0) : ∀ x ∈ l131, MemoOk Tryz.prog 59391 σ W0 31 x := all_cons (m9_ok hL) (all_cons (m12_ok hL) (all_cons (m7_ok hL) (all_cons (m6_ok hL) (all_cons (m5_ok hL) (all_cons (m16_ok hL) (all_cons (m10_ok hL) (all_cons (m29_ok hL) (all_nil))))))))
theorem run131 : isTrue (evCall (cxX Tryz.prog bad [] [] ((8, numExtE [(0, 11, .lit 3), (0, 10, .lit 1), (0, 8, .lit 3), (0, 2, .lit 1)]) :: (31, frameFn l131) :: q1)) 1000 60 6 [.int .i64 (.var 0)] (sentH 453 20 errTab)) = true := by kernel_rfl
theorem case131 : CaseS [] [] [(0, 11, .lit 3), (0, 10, .lit 1), (0, 8, .lit 3), (0, 2, .lit 1)] [.int .i64 (.var 0)] := caseS (fun hL hk hT => FnsOk.cons (hT.ok fit) (FnsOk.cons (frame_fn_ok (l131_ok hL)) ((q1_ok hL)))) run131
noncomputable def l132 : List (Memo) := m9 :: m8 :: m7 :: m6 :: m5 :: m18 :: m13 :: m29 :: []
theorem l132_ok {σ : Nat → Int} {W0 : World} (hL : L0 W0) : ∀ x ∈ l132, MemoOk Tryz.prog 59391 σ W0 31 x := all_cons (m9_ok hL) (all_cons (m8_ok hL) (all_cons (m7_ok hL) (all_cons (m6_ok hL) (all_cons (m5_ok hL) (all_cons (m18_ok hL) (all_cons (m13_ok hL) (all_cons (m29_ok hL) (all_nil))))))))
theorem run132 : isTrue (evCall (cxX Tryz.prog bad [] [] ((8, numExtE [(0, 11, .lit 3), (0, 10, .lit 2), (0, 8, .lit 4), (0, 2, .lit 0)]) :: (31, frameFn l132) :: q1)) 1000 60 6 [.int .i64 (.var 0)] (sentH 453 20 errTab)) = true := by kernel_rfl
theorem case132 : CaseS [] [] [(0, 11, .lit 3), (0, 10, .lit 2), (0, 8, .lit 4), (0, 2, .lit 0)] [.int .i64 (.var 0)] := caseS (fun hL hk hT => FnsOk.cons (hT.ok fit) (FnsOk.cons (frame_fn_ok (l132_ok hL)) ((q1_ok hL)))) run132
noncomputable def l133 : List (Memo) := m9 :: m12 :: m7 :: m6 :: m5 :: m20 :: m15 :: m29 :: []
theorem l133_ok {σ : Nat → Int} {W0 : World} (hL : L0 W0) : ∀ x ∈ l133, MemoOk Tryz.prog 59391 σ W0 31 x := all_cons (m9_ok hL) (all_cons (m12_ok hL) (all_cons (m7_ok hL) (all_cons (m6_ok hL) (all_cons (m5_ok hL) (all_cons (m20_ok hL) (all_cons (m15_ok hL) (all_cons (m29_ok hL) (all_nil))))))))
theorem run133 : isTrue (evCall (cxX Tryz.prog bad [] [] ((8, numExtE [(0, 11, .lit 3), (0, 10, .lit 3), (0, 8, .lit 5), (0, 2, .lit 1)]) :: (31, frameFn l133) :: q1)) 1000 60 6 [.int .i64 (.var 0)] (sentH 453 20 errTab)) = true := by kernel_rfl
theorem case133 : CaseS [] [] [(0, 11, .lit 3), (0, 10, .lit 3), (0, 8, .lit 5), (0, 2, .lit 1)] [.int .i64 (.var 0)] := caseS (fun hL hk hT => FnsOk.cons (hT.ok fit) (FnsOk.cons (frame_fn_ok (l133_ok hL)) ((q1_ok hL)))) run133
noncomputable def l134 : List (Memo) := m9 :: m8 :: m7 :: m6 :: m5 :: m22 :: m17 :: m29 :: []
theorem l134_ok {σ : Nat → Int} {W0 : World} (hL : L0 W0) : ∀ x ∈ l134, MemoOk Tryz.prog 59391 σ W0 31 x := all_cons (m9_ok hL) (all_cons (m8_ok hL) (all_cons (m7_ok hL) (all_cons (m6_ok hL) (all_cons (m5_ok hL) (all_cons (m22_ok hL) (all_cons (m17_ok hL) (all_cons (m29_ok hL) (all_nil))))))))
theorem run134 : isTrue (evCall (cxX Tryz.prog bad [] [] ((8, numExtE [(0, 11, .lit 3), (0, 10, .lit 4), (0, 8, .lit 6), (0, 2, .lit 0)]) :: (31, frameFn l134) :: q1)) 1000 60 6 [.int .i64 (.var 0)] (sentH 453 20 errTab)) = true := by kernel_rfl
theorem case134 : CaseS [] [] [(0, 11, .lit 3), (0, 10, .lit 4), (0, 8, .lit 6), (0, 2, .lit 0)] [.int .i64 (.var 0)] := caseS (fun hL hk hT => FnsOk.cons (hT.ok fit) (FnsOk.cons (frame_fn_ok (l134_ok hL)) ((q1_ok hL)))) run134
noncomputable def l135 : List (Memo) := m9 :: m12 :: m7 :: m6 :: m5 :: m24 :: m19 :: m29 :: []
theorem l135_ok {σ : Nat → Int} {W0 : World} (hL : L0 W0) : ∀ x ∈ l135, MemoOk Tryz.prog 59391 σ W0 31 x := all_cons (m9_ok hL) (all_cons (m12_ok hL) (all_cons (m7_ok hL) (all_cons (m6_ok hL) (all_cons (m5_ok hL) (all_cons (m24_ok hL) (all_cons (m19_ok hL) (all_cons (m29_ok hL) (all_nil))))))))
theorem run135 : isTrue (evCall (cxX Tryz.prog bad [] [] ((8, numExtE [(0, 11, .lit 3), (0, 10, .lit 5), (0, 8, .lit 7), (0, 2, .lit 1)]) :: (31, frameFn l135) :: q1)) 1000 60 6 [.int .i64 (.var 0)] (sentH 453 20 errTab)) = true := by kernel_rfl
theorem case135 : CaseS [] [] [(0, 11, .lit 3), (0, 10, .lit 5), (0, 8, .lit 7), (0, 2, .lit 1)] [.int .i64 (.var 0)] := caseS (fun hL hk hT => FnsOk.cons (hT.ok fit) (FnsOk.cons (frame_fn_ok (l135_ok hL)) ((q1_ok hL)))) run135
noncomputable def l136 : List (Memo) := m9 :: m8 :: m7 :: m6 :: m5 :: m4 :: m21 :: m29 :: []
theorem l136_ok {σ : Nat → Int} {W0 : World} (hL : L0 W0) : ∀ x ∈ l136, MemoOk Tryz.prog 59391 σ W0 31 x := all_cons (m9_ok hL) (all_cons (m8_ok hL) (all_cons (m7_ok hL) (all_cons (m6_ok hL) (all_cons (m5_ok hL) (all_cons (m4_ok hL) (all_cons (m21_ok hL) (all_cons (m29_ok hL) (all_nil))))))))
theorem run136 : isTrue (evCall (cxX Tryz.prog bad [] [] ((8, numExtE [(0, 11, .lit 3), (0, 10, .lit 6), (0, 8, .lit 0), (0, 2, .lit 0)]) :: (31, frameFn l136) :: q1)) 1000 60 6 [.int .i64 (.var 0)] (sentH 453 20 errTab)) = true := by kernel_rfl
theorem case136 : CaseS [] [] [(0, 11, .lit 3), (0, 10, .lit 6), (0, 8, .lit 0), (0, 2, .lit 0)] [.int .i64 (.var 0)] := caseS (fun hL hk hT => FnsOk.cons (hT.ok fit) (FnsOk.cons (frame_fn_ok (l136_ok hL)) ((q1_ok hL)))) run136
noncomputable def l137 : List (Memo) := m9 :: m12 :: m7 :: m6 :: m5 :: m11 :: m23 :: m29 :: []
theorem l137_ok {σ : Nat → Int} {W0 : World} (hL : L0 W0) : ∀ x ∈ l137, MemoOk Tryz.prog 59391 σ W0 31 x := all_cons (m9_ok hL) (all_cons (m12_ok hL) (all_cons (m7_ok hL) (all_cons (m6_ok hL) (all_cons (m5_ok hL) (all_cons (m11_ok hL) (all_cons (m23_ok hL) (all_cons (m29_ok hL) (all_nil))))))))
theorem run137 : isTrue (evCall (cxX Tryz.prog bad [] [] ((8, numExtE [(0, 11, .lit 3), (0, 10, .lit 7), (0, 8, .lit 1), (0, 2, .lit 1)]) :: (31, frameFn l137) :: q1)) 1000 60 6 [.int .i64 (.var 0)] (sentH 453 20 errTab)) = true := by kernel_rfl
theorem case137 : CaseS [] [] [(0, 11, .lit 3), (0, 10, .lit 7), (0, 8, .lit 1), (0, 2, .lit 1)] [.int .i64 (.var 0)] := caseS (fun hL hk hT => FnsOk.cons (hT.ok fit) (FnsOk.cons (frame_fn_ok (l137_ok hL)) ((q1_ok hL)))) run137
noncomputable def l138 : List (Memo) := m9 :: m8 :: m7 :: m6 :: m5 :: m14 :: m25 :: m29 :: []
theorem l138_ok {σ : Nat → Int} {W0 : World} (hL : L0 W0) : ∀ x ∈ l138, MemoOk Tryz.prog 59391 σ W0 31 x := all_cons (m9_ok hL) (all_cons (m8_ok hL) (all_cons (m7_ok hL) (all_cons (m6_ok hL) (all_cons (m5_ok hL) (all_cons (m14_ok hL) (all_cons (m25_ok hL) (all_cons (m29_ok hL) (all_nil))))))))
theorem run138 : isTrue (evCall (cxX Tryz.prog bad [] [] ((8, numExtE [(0, 11, .lit 3), (0, 10, .lit 8), (0, 8, .lit 2), (0, 2, .lit 0)]) :: (31, frameFn l138) :: q1)) 1000 60 6 [.int .i64 (.var 0)] (sentH 453 20 errTab)) = true := by kernel_rfl
theorem case138 : CaseS [] [] [(0, 11, .lit 3), (0, 10, .lit 8), (0, 8, .lit 2), (0, 2, .lit 0)] [.int .i64 (.var 0)] := caseS (fun hL hk hT => FnsOk.cons (hT.ok fit) (FnsOk.cons (frame_fn_ok (l138_ok hL)) ((q1_ok hL)))) run138
noncomputable def l139 : List (Memo) := m9 :: m12 :: m7 :: m6 :: m5 :: m16 :: m26 :: m29 :: []
theorem l139_ok {σ : Nat → Int} {W0 : World} (hL : L0 W0) : ∀ x ∈ l139, MemoOk Tryz.prog 59391 σ W0 31 x := all_cons (m9_ok hL) (all_cons (m12_ok hL) (all_cons (m7_ok hL) (all_cons (m6_ok hL) (all_cons (m5_ok hL) (all_cons (m16_ok hL) (all_cons (m26_ok hL) (all_cons (m29_ok hL) (all_nil))))))))
theorem run139 : isTrue (evCall (cxX Tryz.prog bad [] [] ((8, numExtE [(0, 11, .lit 3), (0, 10, .lit 9), (0, 8, .lit 3), (0, 2, .lit 1)]) :: (31, frameFn l139) :: q1)) 1000 60 6 [.int .i64 (.var 0)] (sentH 453 20 errTab)) = true := by kernel_rfl
theorem case139 : CaseS [] [] [(0, 11, .lit 3), (0, 10, .lit 9), (0, 8, .lit 3), (0, 2, .lit 1)] [.int .i64 (.var 0)] := caseS (fun hL hk hT => FnsOk.cons (hT.ok fit) (FnsOk.cons (frame_fn_ok (l139_ok hL)) ((q1_ok hL)))) run139
noncomputable def l140 : List (Memo) := m9 :: m8 :: m7 :: m6 :: m5 :: m18 :: m3 :: m29 :: []
theorem l140_ok {σ : Nat → Int} {W0 : World} (hL : L0 W0) : ∀ x ∈ l140, MemoOk Tryz.prog 59391 σ W0 31 x := all_cons (m9_ok hL) (all_cons (m8_ok hL) (all_cons (m7_ok hL) (all_cons (m6_ok hL) (all_cons (m5_ok hL) (all_cons (m18_ok hL) (all_cons (m3_ok hL) (all_cons (m29_ok hL) (all_nil))))))))
theorem run140 : isTrue (evCall (cxX Tryz.prog bad [] [] ((8, numExtE [(0, 11, .lit 3), (0, 10, .lit 0), (0, 8, .lit 4), (0, 2, .lit 0)]) :: (31, frameFn l140) :: q1)) 1000 60 6 [.int .i64 (.var 0)] (sentH 453 20 errTab)) = true := by kernel_rfl
theorem case140 : CaseS [] [] [(0, 11, .lit 3), (0, 10, .lit 0), (0, 8, .lit 4), (0, 2, .lit 0)] [.int .i64 (.var 0)] := caseS (fun hL hk hT => FnsOk.cons (hT.ok fit) (FnsOk.cons (frame_fn_ok (l140_ok hL)) ((q1_ok hL)))) run140
noncomputable def l141 : List (Memo) := m9 :: m12 :: m7 :: m6 :: m5 :: m20 :: m10 :: m29 :: []
theorem l141_ok {σ : Nat → Int} {W0 : World} (hL : L0 W0) : ∀ x ∈ l141, MemoOk Tryz.prog 59391 σ W0 31 x := all_cons (m9_ok hL) (all_cons (m12_ok hL) (all_cons (m7_ok hL) (all_cons (m6_ok hL) (all_cons (m5_ok hL) (all_cons (m20_ok hL) (all_cons (m10_ok hL) (all_cons (m29_ok hL) (all_nil))))))))
theorem run141 : isTrue (evCall (cxX Tryz.prog bad [] [] ((8, numExtE [(0, 11, .lit 3), (0, 10, .lit 1), (0, 8, .lit 5), (0, 2, .lit 1)]) :: (31, frameFn l141) :: q1)) 1000 60 6 [.int .i64 (.var 0)] (sentH 453 20 errTab)) = true := by kernel_rfl
theorem case141 : CaseS [] [] [(0, 11, .lit 3), (0, 10, .lit 1), (0, 8, .lit 5), (0, 2, .lit 1)] [.int .i64 (.var 0)] := caseS (fun hL hk hT => FnsOk.cons (hT.ok fit) (FnsOk.cons (frame_fn_ok (l141_ok hL)) ((q1_ok hL)))) run141
noncomputable def l142 : List (Memo) := m9 :: m8 :: m7 :: m6 :: m5 :: m22 :: m13 :: m29 :: []
theorem l142_ok {σ : Nat → Int} {W0 : World} (hL : L0 W0) : ∀ x ∈ l142, MemoOk Tryz.prog 59391 σ W0 31 x := all_cons (m9_ok hL) (all_cons (m8_ok hL) (all_cons (m7_ok hL) (all_cons (m6_ok hL) (all_cons (m5_ok hL) (all_cons (m22_ok hL) (all_cons (m13_ok hL) (all_cons (m29_ok hL) (all_nil))))))))
theorem run142 : isTrue (evCall (cxX Tryz.prog bad [] [] ((8, numExtE [(0, 11, .lit 3), (0, 10, .lit 2), (0, 8, .lit 6), (0, 2, .lit 0)]) :: (31, frameFn l142) :: q1)) 1000 60 6 [.int .i64 (.var 0)] (sentH 453 20 errTab)) = true := by kernel_rfl
theorem case142 : CaseS [] [] [(0, 11, .lit 3), (0, 10, .lit 2), (0, 8, .lit 6), (0, 2, .lit 0)] [.int .i64 (.var 0)] := caseS (fun hL hk hT => FnsOk.cons (hT.ok fit) (FnsOk.cons (frame_fn_ok (l142_ok hL)) ((q1_ok hL)))) run142
noncomputable def l143 : List (Memo) := m9 :: m12 :: m7 :: m6 :: m5 :: m24 :: m15 :: m29 :: []
theorem l143_ok {σ : Nat → Int} {W0 : World} (hL : L0 W0) : ∀ x ∈ l143, MemoOk Tryz.prog 59391 σ W0 31 x := all_cons (m9_ok hL) (all_cons (m12_ok hL) (all_cons (m7_ok hL) (all_cons (m6_ok hL) (all_cons (m5_ok hL) (all_cons (m24_ok hL) (all_cons (m15_ok hL) (all_cons (m29_ok hL) (all_nil))))))))
theorem run143 : isTrue (evCall (cxX Tryz.prog bad [] [] ((8, numExtE [(0, 11, .lit 3), (0, 10, .lit 3), (0, 8, .lit 7), (0, 2, .lit 1)]) :: (31, frameFn l143) :: q1)) 1000 60 6 [.int .i64 (.var 0)] (sentH 453 20 errTab)) = true := by kernel_rfl
theorem case143 : CaseS [] [] [(0, 11, .lit 3), (0, 10, .lit 3), (0, 8, .lit 7), (0, 2, .lit 1)] [.int .i64 (.var 0)] := caseS (fun hL hk hT => FnsOk.cons (hT.ok fit) (FnsOk.cons (frame_fn_ok (l143_ok hL)) ((q1_ok hL)))) run143
noncomputable def l144 : List (Memo) := m9 :: m8 :: m7 :: m6 :: m5 :: m4 :: m17 :: m29 :: []
theorem l144_ok {σ : Nat → Int} {W0 : World} (hL : L0 W0) : ∀ x ∈ l144, MemoOk Tryz.prog 59391 σ W0 31 x := all_cons (m9_ok hL) (all_cons (m8_ok hL) (all_cons (m7_ok hL) (all_cons (m6_ok hL) (all_cons (m5_ok hL) (all_cons (m4_ok hL) (all_cons (m17_ok hL) (all_cons (m29_ok hL) (all_nil))))))))
theorem run144 : isTrue (evCall (cxX Tryz.prog bad [] [] ((8, numExtE [(0, 11, .lit 3), (0, 10, .lit 4), (0, 8, .lit 0), (0, 2, .lit 0)]) :: (31, frameFn l144) :: q1)) 1000 60 6 [.int .i64 (.var 0)] (sentH 453 20 errTab)) = true := by kernel_rfl
theorem case144 : CaseS [] [] [(0, 11, .lit 3), (0, 10, .lit 4), (0, 8, .lit 0), (0, 2, .lit 0)] [.int .i64 (.var 0)] := caseS (fun hL hk hT => FnsOk.cons (hT.ok fit) (FnsOk.cons (frame_fn_ok (l144_ok hL)) ((q1_ok hL)))) run144
noncomputable def l145 : List (Memo) := m9 :: m12 :: m7 :: m6 :: m5 :: m11 :: m19 :: m29 :: []
theorem l145_ok {σ : Nat → Int} {W0 : World} (hL : L0 W0) : ∀ x ∈ l145, MemoOk Tryz.prog 59391 σ W0 31 x := all_cons (m9_ok hL) (all_cons (m12_ok hL) (all_cons (m7_ok hL) (all_cons (m6_ok hL) (all_cons (m5_ok hL) (all_cons (m11_ok hL) (all_cons (m19_ok hL) (all_cons (m29_ok hL) (all_nil))))))))
theorem run145 : isTrue (evCall (cxX Tryz.prog bad [] [] ((8, numExtE [(0, 11, .lit 3), (0, 10, .lit 5), (0, 8, .lit 1), (0, 2, .lit 1)]) :: (31, frameFn l145) :: q1)) 1000 60 6 [.int .i64 (.var 0)] (sentH 453 20 errTab)) = true := by kernel_rfl
theorem case145 : CaseS [] [] [(0, 11, .lit 3), (0, 10, .lit 5), (0, 8, .lit 1), (0, 2, .lit 1)] [.int .i64 (.var 0)] := caseS (fun hL hk hT => FnsOk.cons (hT.ok fit) (FnsOk.cons (frame_fn_ok (l145_ok hL)) ((q1_ok hL)))) run145
noncomputable def l146 : List (Memo) := m9 :: m8 :: m7 :: m6 :: m5 :: m14 :: m21 :: m29 :: []
theorem l146_ok {σ : Nat → Int} {W0 : World} (hL : L0 W0) : ∀ x ∈ l146, MemoOk Tryz.prog 59391 σ W0 31 x := all_cons (m9_ok hL) (all_cons (m8_ok hL) (all_cons (m7_ok hL) (all_cons (m6_ok hL) (all_cons (m5_ok hL) (all_cons (m14_ok hL) (all_cons (m21_ok hL) (all_cons (m29_ok hL) (all_nil))))))))
theorem run146 : isTrue (evCall (cxX Tryz.prog bad [] [] ((8, numExtE [(0, 11, .lit 3), (0, 10, .lit 6), (0, 8, .lit 2), (0, 2, .lit 0)]) :: (31, frameFn l146) :: q1)) 1000 60 6 [.int .i64 (.var 0)] (sentH 453 20 errTab)) = true := by kernel_rfl
theorem case146 : CaseS [] [] [(0, 11, .lit 3), (0, 10, .lit 6), (0, 8, .lit 2), (0, 2, .lit 0)] [.int .i64 (.var 0)] := caseS (fun hL hk hT => FnsOk.cons (hT.ok fit) (FnsOk.cons (frame_fn_ok (l146_ok hL)) ((q1_ok hL)))) run146
noncomputable def l147 : List (Memo) := m9 :: m12 :: m7 :: m6 :: m5 :: m16 :: m23 :: m29 :: []
theorem l147_ok {σ : Nat → Int} {W0 : World} (hL : L0 W0) : ∀ x ∈ l147, MemoOk Tryz.prog 59391 σ W0 31 x := all_cons (m9_ok hL) (all_cons (m12_ok hL) (all_cons (m7_ok hL) (all_cons (m6_ok hL) (all_cons (m5_ok hL) (all_cons (m16_ok hL) (all_cons (m23_ok hL) (all_cons (m29_ok hL) (all_nil))))))))
theorem run147 : isTrue (evCall (cxX Tryz.prog bad [] [] ((8, numExtE [(0, 11, .lit 3), (0, 10, .lit 7), (0, 8, .lit 3), (0, 2, .lit 1)]) :: (31, frameFn l147) :: q1)) 1000 60 6 [.int .i64 (.var 0)] (sentH 453 20 errTab)) = true := by kernel_rfl
theorem case147 : CaseS [] [] [(0, 11, .lit 3), (0, 10, .lit 7), (0, 8, .lit 3), (0, 2, .lit 1)] [.int .i64 (.var 0)] := caseS (fun hL hk hT => FnsOk.cons (hT.ok fit) (FnsOk.cons (frame_fn_ok (l147_ok hL)) ((q1_ok hL)))) run147
noncomputable def l148 : List (Memo) := m9 :: m8 :: m7 :: m6 :: m5 :: m18 :: m25 :: m29 :: []
theorem l148_ok {σ : Nat → Int} {W0 : World} (hL : L0 W0) : ∀ x ∈ l148, MemoOk Tryz.prog 59391 σ W0 31 x := all_cons (m9_ok hL) (all_cons (m8_ok hL) (all_cons (m7_ok hL) (all_cons (m6_ok hL) (all_cons (m5_ok hL) (all_cons (m18_ok hL) (all_cons (m25_ok hL) (all_cons (m29_ok hL) (all_nil))))))))
theorem run148 : isTrue (evCall (cxX Tryz.prog bad [] [] ((8, numExtE [(0, 11, .lit 3), (0, 10, .lit 8), (0, 8, .lit 4), (0, 2, .lit 0)]) :: (31, frameFn l148) :: q1)) 1000 60 6 [.int .i64 (.var 0)] (sentH 453 20 errTab)) = true := by kernel_rfl
theorem case148 : CaseS [] [] [(0, 11, .lit 3), (0, 10, .lit 8), (0, 8, .lit 4), (0, 2, .lit 0)] [.int .i64 (.var 0)] := caseS (fun hL hk hT => FnsOk.cons (hT.ok fit) (FnsOk.cons (frame_fn_ok (l148_ok hL)) ((q1_ok hL)))) run148
noncomputable def l149 : List (Memo) := m9 :: m12 :: m7 :: m6 :: m5 :: m20 :: m26 :: m29 :: []
theorem l149_ok {σ : Nat → Int} {W0 : World} (hL : L0 W0) : ∀ x ∈ l149, MemoOk Tryz.prog 59391 σ W0 31 x := all_cons (m9_ok hL) (all_cons (m12_ok hL) (all_cons (m7_ok hL) (all_cons (m6_ok hL) (all_cons (m5_ok hL) (all_cons (m20_ok hL) (all_cons (m26_ok hL) (all_cons (m29_ok hL) (all_nil))))))))
theorem run149 : isTrue (evCall (cxX Tryz.prog bad [] [] ((8, numExtE [(0, 11, .lit 3), (0, 10, .lit 9), (0, 8, .lit 5), (0, 2, .lit 1)]) :: (31, frameFn l149) :: q1)) 1000 60 6 [.int .i64 (.var 0)] (sentH 453 20 errTab)) = true := by kernel_rfl
theorem case149 : CaseS [] [] [(0, 11, .lit 3), (0, 10, .lit 9), (0, 8, .lit 5), (0, 2, .lit 1)] [.int .i64 (.var 0)] := caseS (fun hL hk hT => FnsOk.cons (hT.ok fit) (FnsOk.cons (frame_fn_ok (l149_ok hL)) ((q1_ok hL)))) run149
noncomputable def l150 : List (Memo) := m9 :: m8 :: m7 :: m6 :: m5 :: m22 :: m3 :: m29 :: []
theorem l150_ok {σ : Nat → Int} {W0 : World} (hL : L0 W0) : ∀ x ∈ l150, MemoOk Tryz.prog 59391 σ W0 31 x := all_cons (m9_ok hL) (all_cons (m8_ok hL) (all_cons (m7_ok hL) (all_cons (m6_ok hL) (all_cons (m5_ok hL) (all_cons (m22_ok hL) (all_cons (m3_ok hL) (all_cons (m29_ok hL) (all_nil))))))))
theorem run150 : isTrue (evCall (cxX Tryz.prog bad [] [] ((8, numExtE [(0, 11, .lit 3), (0, 10, .lit 0), (0, 8, .lit 6), (0, 2, .lit 0)]) :: (31, frameFn l150) :: q1)) 1000 60 6 [.int .i64 (.var 0)] (sentH 453 20 errTab)) = true := by kernel_rfl
theorem case150 : CaseS [] [] [(0, 11, .lit 3), (0, 10, .lit 0), (0, 8, .lit 6), (0, 2, .lit 0)] [.int .i64 (.var 0)] := caseS (fun hL hk hT => FnsOk.cons (hT.ok fit) (FnsOk.cons (frame_fn_ok (l150_ok hL)) ((q1_ok hL)))) run150
noncomputable def l151 : List (Memo) := m9 :: m12 :: m7 :: m6 :: m5 :: m24 :: m10 :: m29 :: []
theorem l151_ok {σ : Nat → Int} {W0 : World} (hL : L0 W0) : ∀ x ∈ l151, MemoOk Tryz.prog 59391 σ W0 31 x := all_cons (m9_ok hL) (all_cons (m12_ok hL) (all_cons (m7_ok hL) (all_cons (m6_ok hL) (all_cons (m5_ok hL) (all_cons (m24_ok hL) (all_cons (m10_ok hL) (all_cons (m29_ok hL) (all_nil))))))))
theorem run151 : isTrue (evCall (cxX Tryz.prog bad [] [] ((8, numExtE [(0, 11, .lit 3), (0, 10, .lit 1), (0, 8, .lit 7), (0, 2, .lit 1)]) :: (31, frameFn l151) :: q1)) 1000 60 6 [.int .i64 (.var 0)] (sentH 453 20 errTab)) = true := by kernel_rfl
theorem case151 : CaseS [] [] [(0, 11, .lit 3), (0, 10, .lit 1), (0, 8, .lit 7), (0, 2, .lit 1)] [.int .i64 (.var 0)] := caseS (fun hL hk hT => FnsOk.cons (hT.ok fit) (FnsOk.cons (frame_fn_ok (l151_ok hL)) ((q1_ok hL)))) run151
noncomputable def l152 : List (Memo) := m9 :: m8 :: m7 :: m6 :: m5 :: m4 :: m13 :: m29 :: []
theorem l152_ok {σ : Nat → Int} {W0 : World} (hL : L0 W0) : ∀ x ∈ l152, MemoOk Tryz.prog 59391 σ W0 31 x := all_cons (m9_ok hL) (all_cons (m8_ok hL) (all_cons (m7_ok hL) (all_cons (m6_ok hL) (all_cons (m5_ok hL) (all_cons (m4_ok hL) (all_cons (m13_ok hL) (all_cons (m29_ok hL) (all_nil))))))))
theorem run152 : isTrue (evCall (cxX Tryz.prog bad [] [] ((8, numExtE [(0, 11, .lit 3), (0, 10, .lit 2), (0, 8, .lit 0), (0, 2, .lit 0)]) :: (31, frameFn l152) :: q1)) 1000 60 6 [.int .i64 (.var 0)] (sentH 453 20 errTab)) = true := by kernel_rfl
theorem case152 : CaseS [] [] [(0, 11, .lit 3), (0, 10, .lit 2), (0, 8, .lit 0), (0, 2, .lit 0)] [.int .i64 (.var 0)] := caseS (fun hL hk hT => FnsOk.cons (hT.ok fit) (FnsOk.cons (frame_fn_ok (l152_ok hL)) ((q1_ok hL)))) run152
noncomputable def l153 : List (Memo) := m9 :: m12 :: m7 :: m6 :: m5 :: m11 :: m15 :: m29 :: []
theorem l153_ok {σ : Nat → Int} {W0 : World} (hL : L0 W0) : ∀ x ∈ l153, MemoOk Tryz.prog 59391 σ W0 31 x := all_cons (m9_ok hL) (all_cons (m12_ok hL) (all_cons (m7_ok hL) (all_cons (m6_ok hL) (all_cons (m5_ok hL) (all_cons (m11_ok hL) (all_cons (m15_ok hL) (all_cons (m29_ok hL) (all_nil))))))))
theorem run153 : isTrue (evCall (cxX Tryz.prog bad [] [] ((8, numExtE [(0, 11, .lit 3), (0, 10, .lit 3), (0, 8, .lit 1), (0, 2, .lit 1)]) :: (31, frameFn l153) :: q1)) 1000 60 6 [.int .i64 (.var 0)] (sentH 453 20 errTab)) = true := by kernel_rfl
theorem case153 : CaseS [] [] [(0, 11, .lit 3), (0, 10, .lit 3), (0, 8, .lit 1), (0, 2, .lit 1)] [.int .i64 (.var 0)] := caseS (fun hL hk hT => FnsOk.cons (hT.ok fit) (FnsOk.cons (frame_fn_ok (l153_ok hL)) ((q1_ok hL)))) run153
noncomputable def l154 : List (Memo) := m9 :: m8 :: m7 :: m6 :: m5 :: m14 :: m17 :: m29 :: []
theorem l154_ok {σ : Nat → Int} {W0 : World} (hL : L0 W0) : ∀ x ∈ l154, MemoOk Tryz.prog 59391 σ W0 31 x := all_cons (m9_ok hL) (all_cons (m8_ok hL) (all_cons (m7_ok hL) (all_cons (m6_ok hL) (all_cons (m5_ok hL) (all_cons (m14_ok hL) (all_cons (m17_ok hL) (all_cons (m29_ok hL) (all_nil))))))))
theorem run154 : isTrue (evCall (cxX Tryz.prog bad [] [] ((8, numExtE [(0, 11, .lit 3), (0, 10, .lit 4), (0, 8, .lit 2), (0, 2, .lit 0)]) :: (31, frameFn l154) :: q1)) 1000 60 6 [.int .i64 (.var 0)] (sentH 453 20 errTab)) = true := by kernel_rfl
theorem case154 : CaseS [] [] [(0, 11, .lit 3), (0, 10, .lit 4), (0, 8, .lit 2), (0, 2, .lit 0)] [.int .i64 (.var 0)] := caseS (fun hL hk hT => FnsOk.cons (hT.ok fit) (FnsOk.cons (frame_fn_ok (l154_ok hL)) ((q1_ok hL)))) run154
noncomputable def l155 : List (Memo) := m9 :: m12 :: m7 :: m6 :: m5 :: m16 :: m19 :: m29 :: []
theorem l155_ok {σ : Nat → Int} {W0 : World} (hL : L0 W0) : ∀ x ∈ l155, MemoOk Tryz.prog 59391 σ W0 31 x := all_cons (m9_ok hL) (all_cons (m12_ok hL) (all_cons (m7_ok hL) (all_cons (m6_ok hL) (all_cons (m5_ok hL) (all_cons (m16_ok hL) (all_cons (m19_ok hL) (all_cons (m29_ok hL) (all_nil))))))))
theorem run155 : isTrue (evCall (cxX Tryz.prog bad [] [] ((8, numExtE [(0, 11, .lit 3), (0, 10, .lit 5), (0, 8, .lit 3), (0, 2, .lit 1)]) :: (31, frameFn l155) :: q1)) 1000 60 6 [.int .i64 (.var 0)] (sentH 453 20 errTab)) = true := by kernel_rfl
theorem case155 : CaseS [] [] [(0, 11, .lit 3), (0, 10, .lit 5), (0, 8, .lit 3), (0, 2, .lit 1)] [.int .i64 (.var 0)] := caseS (fun hL hk hT => FnsOk.cons (hT.ok fit) (FnsOk.cons (frame_fn_ok (l155_ok hL)) ((q1_ok hL)))) run155
noncomputable def l156 : List (Memo) := m9 :: m8 :: m7 :: m6 :: m5 :: m18 :: m21 :: m29 :: []
theorem l156_ok {σ : Nat → Int} {W0 : World} (hL : L0 W0) : ∀ x ∈ l156, MemoOk Tryz.prog 59391 σ W0 31 x := all_cons (m9_ok hL) (all_cons (m8_ok hL) (all_cons (m7_ok hL) (all_cons (m6_ok hL) (all_cons (m5_ok hL) (all_cons (m18_ok hL) (all_cons (m21_ok hL) (all_cons (m29_ok hL) (all_nil))))))))
theorem run156 : isTrue (evCall (cxX Tryz.prog bad [] [] ((8, numExtE [(0, 11, .lit 3), (0, 10, .lit 6), (0, 8, .lit 4), (0, 2, .lit 0)]) :: (31, frameFn l156) :: q1)) 1000 60 6 [.int .i64 (.var 0)] (sentH 453 20 errTab)) = true := by kernel_rfl
theorem case156 : CaseS [] [] [(0, 11, .lit 3), (0, 10, .lit 6), (0, 8, .lit 4), (0, 2, .lit 0)] [.int .i64 (.var 0)] := caseS (fun hL hk hT => FnsOk.cons (hT.ok fit) (FnsOk.cons (frame_fn_ok (l156_ok hL)) ((q1_ok hL)))) run156
noncomputable def l157 : List (Memo) := m9 :: m12 :: m7 :: m6 :: m5 :: m20 :: m23 :: m29 :: []
theorem l157_ok {σ : Nat → Int} {W0 : World} (hL : L0 W0) : ∀ x ∈ l157, MemoOk Tryz.prog 59391 σ W0 31 x := all_cons (m9_ok hL) (all_cons (m12_ok hL) (all_cons (m7_ok hL) (all_cons (m6_ok hL) (all_cons (m5_ok hL) (all_cons (m20_ok hL) (all_cons (m23_ok hL) (all_cons (m29_ok hL) (all_nil))))))))
theorem run157 : isTrue (evCall (cxX Tryz.prog bad [] [] ((8, numExtE [(0, 11, .lit 3), (0, 10, .lit 7), (0, 8, .lit 5), (0, 2, .lit 1)]) :: (31, frameFn l157) :: q1)) 1000 60 6 [.int .i64 (.var 0)] (sentH 453 20 errTab)) = true := by kernel_rfl
theorem case157 : CaseS [] [] [(0, 11, .lit 3), (0, 10, .lit 7), (0, 8, .lit 5), (0, 2, .lit 1)] [.int .i64 (.var 0)] := caseS (fun hL hk hT => FnsOk.cons (hT.ok fit) (FnsOk.cons (frame_fn_ok (l157_ok hL)) ((q1_ok hL)))) run157
noncomputable def l158 : List (Memo) := m9 :: m8 :: m7 :: m6 :: m5 :: m22 :: m25 :: m29 :: []
theorem l158_ok {σ : Nat → Int} {W0 : World} (hL : L0 W0) : ∀ x ∈ l158, MemoOk Tryz.prog 59391 σ W0 31 x := all_cons (m9_ok hL) (all_cons (m8_ok hL) (all_cons (m7_ok hL) (all_cons (m6_ok hL) (all_cons (m5_ok hL) (all_cons (m22_ok hL) (all_cons (m25_ok hL) (all_cons (m29_ok hL) (all_nil))))))))
theorem run158 : isTrue (evCall (cxX Tryz.prog bad [] [] ((8, numExtE [(0, 11, .lit 3), (0, 10, .lit 8), (0, 8, .lit 6), (0, 2, .lit 0)]) :: (31, frameFn l158) :: q1)) 1000 60 6 [.int .i64 (.var 0)] (sentH 453 20 errTab)) = true := by kernel_rfl
theorem case158 : CaseS [] [] [(0, 11, .lit 3), (0, 10, .lit 8), (0, 8, .lit 6), (0, 2, .lit 0)] [.int .i64 (.var 0)] := caseS (fun hL hk hT => FnsOk.cons (hT.ok fit) (FnsOk.cons (frame_fn_ok (l158_ok hL)) ((q1_ok hL)))) run158
noncomputable def l159 : List (Memo) := m9 :: m12 :: m7 :: m6 :: m5 :: m24 :: m26 :: m29 :: []
theorem l159_ok {σ : Nat → Int} {W0 : World} (hL : L0 W0) : ∀ x ∈ l159, MemoOk Tryz.prog 59391 σ W0 31 x := all_cons (m9_ok hL) (all_cons (m12_ok hL) (all_cons (m7_ok hL) (all_cons (m6_ok hL) (all_cons (m5_ok hL) (all_cons (m24_ok hL) (all_cons (m26_ok hL) (all_cons (m29_ok hL) (all_nil))))))))
theorem run159 : isTrue (evCall (cxX Tryz.prog bad [] [] ((8, numExtE [(0, 11, .lit 3), (0, 10, .lit 9), (0, 8, .lit 7), (0, 2, .lit 1)]) :: (31, frameFn l159) :: q1)) 1000 60 6 [.int .i64 (.var 0)] (sentH 453 20 errTab)) = true := by kernel_rfl
theorem case159 : CaseS [] [] [(0, 11, .lit 3), (0, 10, .lit 9), (0, 8, .lit 7), (0, 2, .lit 1)] [.int .i64 (.var 0)] := caseS (fun hL hk hT => FnsOk.cons (hT.ok fit) (FnsOk.cons (frame_fn_ok (l159_ok hL)) ((q1_ok hL)))) run159
noncomputable def m30 : Memo := ⟨[.ptr 34 0, .str [100, 111, 109, 97, 105, 110]], h2, .tuple [.snil, .iface 453 (.ptr 32 0)], h3⟩
theorem m30_run : ranTo (evCall (cxX Tryz.prog bad [] [] q0) 1000 60 31 m30.args m30.h) m30.v m30.h' = true := by kernel_rfl
theorem m30_ok {σ : Nat → Int} {W0 : World} (hL : L0 W0) : MemoOk Tryz.prog 59391 σ W0 31 m30 := memo_ok fit (Known2.nil σ) ((q0_ok hL)) m30_run
noncomputable def l160 : List (Memo) := m9 :: m8 :: m7 :: m6 :: m5 :: m4 :: m3 :: m30 :: []
theorem l160_ok {σ : Nat → Int} {W0 : World} (hL : L0 W0) : ∀ x ∈ l160, MemoOk Tryz.prog 59391 σ W0 31 x := all_cons (m9_ok hL) (all_cons (m8_ok hL) (all_cons (m7_ok hL) (all_cons (m6_ok hL) (all_cons (m5_ok hL) (all_cons (m4_ok hL) (all_cons (m3_ok hL) (all_cons (m30_ok hL) (all_nil))))))))
theorem run160 : isTrue (evCall (cxX Tryz.prog bad [] [] ((8, numExtE [(0, 11, .lit 4), (0, 10, .lit 0), (0, 8, .lit 0), (0, 2, .lit 0)]) :: (31, frameFn l160) :: q1)) 1000 60 6 [.int .i64 (.var 0)] (sentH 453 20 errTab)) = true := by kernel_rfl
theorem case160 : CaseS [] [] [(0, 11, .lit 4), (0, 10, .lit 0), (0, 8, .lit 0), (0, 2, .lit 0)] [.int .i64 (.var 0)] := caseS (fun hL hk hT => FnsOk.cons (hT.ok fit) (FnsOk.cons (frame_fn_ok (l160_ok hL)) ((q1_ok hL)))) run160
noncomputable def l161 : List (Memo) := m9 :: m12 :: m7 :: m6 :: m5 :: m11 :: m10 :: m30 :: []
theorem l161_ok {σ : Nat → Int} {W0 : World} (hL : L0 W0) : ∀ x ∈ l161, MemoOk Tryz.prog 59391 σ W0 31 x := all_cons (m9_ok hL) (all_cons (m12_ok hL) (all_cons (m7_ok hL) (all_cons (m6_ok hL) (all_cons (m5_ok hL) (all_cons (m11_ok hL) (all_cons (m10_ok hL) (all_cons (m30_ok hL) (all_nil))))))))
theorem run161 : isTrue (evCall (cxX Tryz.prog bad [] [] ((8, numExtE [(0, 11, .lit 4), (0, 10, .lit 1), (0, 8, .lit 1), (0, 2, .lit 1)]) :: (31, frameFn l161) :: q1)) 1000 60 6 [.int .i64 (.var 0)] (sentH 453 20 errTab)) = true := by kernel_rfl
theorem case161 : CaseS [] [] [(0, 11, .lit 4), (0, 10, .lit 1), (0, 8, .lit 1), (0, 2, .lit 1)] [.int .i64 (.var 0)] := caseS (fun hL hk hT => FnsOk.cons (hT.ok fit) (FnsOk.cons (frame_fn_ok (l161_ok hL)) ((q1_ok hL)))) run161
noncomputable def l162 : List (Memo) := m9 :: m8 :: m7 :: m6 :: m5 :: m14 :: m13 :: m30 :: []
theorem l162_ok {σ : Nat → Int} {W0 : World} (hL : L0 W0) : ∀ x ∈ l162, MemoOk Tryz.prog 59391 σ W0 31 x := all_cons (m9_ok hL) (all_cons (m8_ok hL) (all_cons (m7_ok hL) (all_cons (m6_ok hL) (all_cons (m5_ok hL) (all_cons (m14_ok hL) (all_cons (m13_ok hL) (all_cons (m30_ok hL) (all_nil))))))))
theorem run162 : isTrue (evCall (cxX Tryz.prog bad [] [] ((8, numExtE [(0, 11, .lit 4), (0, 10, .lit 2), (0, 8, .lit 2), (0, 2, .lit 0)]) :: (31, frameFn l162) :: q1)) 1000 60 6 [.int .i64 (.var 0)] (sentH 453 20 errTab)) = true := by kernel_rfl
theorem case162 : CaseS [] [] [(0, 11, .lit 4), (0, 10, .lit 2), (0, 8, .lit 2), (0, 2, .lit 0)] [.int .i64 (.var 0)] := caseS (fun hL hk hT => FnsOk.cons (hT.ok fit) (FnsOk.cons (frame_fn_ok (l162_ok hL)) ((q1_ok hL)))) run162
noncomputable def l163 : List (Memo) := m9 :: m12 :: m7 :: m6 :: m5 :: m16 :: m15 :: m30 :: []
theorem l163_ok {σ : Nat → Int} {W0 : World} (hL : L0 W0) : ∀ x ∈ l163, MemoOk Tryz.prog 59391 σ W0 31 x := all_cons (m9_ok hL) (all_cons (m12_ok hL) (all_cons (m7_ok hL) (all_cons (m6_ok hL) (all_cons (m5_ok hL) (all_cons (m16_ok hL) (all_cons (m15_ok hL) (all_cons (m30_ok hL) (all_nil))))))))
theorem run163 : isTrue (evCall (cxX Tryz.prog bad [] [] ((8, numExtE [(0, 11, .lit 4), (0, 10, .lit 3), (0, 8, .lit 3), (0, 2, .lit 1)]) :: (31, frameFn l163) :: q1)) 1000 60 6 [.int .i64 (.var 0)] (sentH 453 20 errTab)) = true := by kernel_rfl
theorem case163 : CaseS [] [] [(0, 11, .lit 4), (0, 10, .lit 3), (0, 8, .lit 3), (0, 2, .lit 1)] [.int .i64 (.var 0)] := caseS (fun hL hk hT => FnsOk.cons (hT.ok fit) (FnsOk.cons (frame_fn_ok (l163_ok hL)) ((q1_ok hL)))) run163
noncomputable def l164 : List (Memo) := m9 :: m8 :: m7 :: m6 :: m5 :: m18 :: m17 :: m30 :: []
theorem l164_ok {σ : Nat → Int} {W0 : World} (hL : L0 W0) : ∀ x ∈ l164, MemoOk Tryz.prog 59391 σ W0 31 x := all_cons (m9_ok hL) (all_cons (m8_ok hL) (all_cons (m7_ok hL) (all_cons (m6_ok hL) (all_cons (m5_ok hL) (all_cons (m18_ok hL) (all_cons (m17_ok hL) (all_cons (m30_ok hL) (all_nil))))))))
theorem run164 : isTrue (evCall (cxX Tryz.prog bad [] [] ((8, numExtE [(0, 11, .lit 4), (0, 10, .lit 4), (0, 8, .lit 4), (0, 2, .lit 0)]) :: (31, frameFn l164) :: q1)) 1000 60 6 [.int .i64 (.var 0)] (sentH 453 20 errTab)) = true := by kernel_rfl
theorem case164 : CaseS [] [] [(0, 11, .lit 4), (0, 10, .lit 4), (0, 8, .lit 4), (0, 2, .lit 0)] [.int .i64 (.var 0)] := caseS (fun hL hk hT => FnsOk.cons (hT.ok fit) (FnsOk.cons (frame_fn_ok (l164_ok hL)) ((q1_ok hL)))) run164
noncomputable def l165 : List (Memo) := m9 :: m12 :: m7 :: m6 :: m5 :: m20 :: m19 :: m30 :: []
theorem l165_ok {σ : Nat → Int} {W0 : World} (hL : L0 W0) : ∀ x ∈ l165, MemoOk Tryz.prog 59391 σ W0 31 x := all_cons (m9_ok hL) (all_cons (m12_ok hL) (all_cons (m7_ok hL) (all_cons (m6_ok hL) (all_cons (m5_ok hL) (all_cons (m20_ok hL) (all_cons (m19_ok hL) (all_cons (m30_ok hL) (all_nil))))))))
theorem run165 : isTrue (evCall (cxX Tryz.prog bad [] [] ((8, numExtE [(0, 11, .lit 4), (0, 10, .lit 5), (0, 8, .lit 5), (0, 2, .lit 1)]) :: (31, frameFn l165) :: q1)) 1000 60 6 [.int .i64 (.var 0)] (sentH 453 20 errTab)) = true := by kernel_rfl
theorem case165 : CaseS [] [] [(0, 11, .lit 4), (0, 10, .lit 5), (0, 8, .lit 5), (0, 2, .lit 1)] [.int .i64 (.var 0)] := caseS (fun hL hk hT => FnsOk.cons (hT.ok fit) (FnsOk.cons (frame_fn_ok (l165_ok hL)) ((q1_ok hL)))) run165
noncomputable def l166 : List (Memo) := m9 :: m8 :: m7 :: m6 :: m5 :: m22 :: m21 :: m30 :: []
theorem l166_ok {σ : Nat → Int} {W0 : World} (hL : L0 W0) : ∀ x ∈ l166, MemoOk Tryz.prog 59391 σ W0 31 x := all_cons (m9_ok hL) (all_cons (m8_ok hL) (all_cons (m7_ok hL) (all_cons (m6_ok hL) (all_cons (m5_ok hL) (all_cons (m22_ok hL) (all_cons (m21_ok hL) (all_cons (m30_ok hL) (all_nil))))))))
theorem run166 : isTrue (evCall (cxX Tryz.prog bad [] [] ((8, numExtE [(0, 11, .lit 4), (0, 10, .lit 6), (0, 8, .lit 6), (0, 2, .lit 0)]) :: (31, frameFn l166) :: q1)) 1000 60 6 [.int .i64 (.var 0)] (sentH 453 20 errTab)) = true := by kernel_rfl
theorem case166 : CaseS [] [] [(0, 11, .lit 4), (0, 10, .lit 6), (0, 8, .lit 6), (0, 2, .lit 0)] [.int .i64 (.var 0)] := caseS (fun hL hk hT => FnsOk.cons (hT.ok fit) (FnsOk.cons (frame_fn_ok (l166_ok hL)) ((q1_ok hL)))) run166
noncomputable def l167 : List (Memo) := m9 :: m12 :: m7 :: m6 :: m5 :: m24 :: m23 :: m30 :: []
theorem l167_ok {σ : Nat → Int} {W0 : World} (hL : L0 W0) : ∀ x ∈ l167, MemoOk Tryz.prog 59391 σ W0 31 x := all_cons (m9_ok hL) (all_cons (m12_ok hL) (all_cons (m7_ok hL) (all_cons (m6_ok hL) (all_cons (m5_ok hL) (all_cons (m24_ok hL) (all_cons (m23_ok hL) (all_cons (m30_ok hL) (all_nil))))))))
theorem run167 : isTrue (evCall (cxX Tryz.prog bad [] [] ((8, numExtE [(0, 11, .lit 4), (0, 10, .lit 7), (0, 8, .lit 7), (0, 2, .lit 1)]) :: (31, frameFn l167) :: q1)) 1000 60 6 [.int .i64 (.var 0)] (sentH 453 20 errTab)) = true := by kernel_rfl
theorem case167 : CaseS [] [] [(0, 11, .lit 4), (0, 10, .lit 7), (0, 8, .lit 7), (0, 2, .lit 1)] [.int .i64 (.var 0)] := caseS (fun hL hk hT => FnsOk.cons (hT.ok fit) (FnsOk.cons (frame_fn_ok (l167_ok hL)) ((q1_ok hL)))) run167
noncomputable def l168 : List (Memo) := m9 :: m8 :: m7 :: m6 :: m5 :: m4 :: m25 :: m30 :: []
theorem l168_ok {σ : Nat → Int} {W0 : World} (hL : L0 W0) : ∀ x ∈ l168, MemoOk Tryz.prog 59391 σ W0 31 x := all_cons (m9_ok hL) (all_cons (m8_ok hL) (all_cons (m7_ok hL) (all_cons (m6_ok hL) (all_cons (m5_ok hL) (all_cons (m4_ok hL) (all_cons (m25_ok hL) (all_cons (m30_ok hL) (all_nil))))))))
theorem run168 : isTrue (evCall (cxX Tryz.prog bad [] [] ((8, numExtE [(0, 11, .lit 4), (0, 10, .lit 8), (0, 8, .lit 0), (0, 2, .lit 0)]) :: (31, frameFn l168) :: q1)) 1000 60 6 [.int .i64 (.var 0)] (sentH 453 20 errTab)) = true := by kernel_rfl
theorem case168 : CaseS [] [] [(0, 11, .lit 4), (0, 10, .lit 8), (0, 8, .lit 0), (0, 2, .lit 0)] [.int .i64 (.var 0)] := caseS (fun hL hk hT => FnsOk.cons (hT.ok fit) (FnsOk.cons (frame_fn_ok (l168_ok hL)) ((q1_ok hL)))) run168
noncomputable def l169 : List (Memo) := m9 :: m12 :: m7 :: m6 :: m5 :: m11 :: m26 :: m30 :: []
theorem l169_ok {σ : Nat → Int} {W0 : World} (hL : L0 W0) : ∀ x ∈ l169, MemoOk Tryz.prog 59391 σ W0 31 x := all_cons (m9_ok hL) (all_cons (m12_ok hL) (all_cons (m7_ok hL) (all_cons (m6_ok hL) (all_cons (m5_ok hL) (all_cons (m11_ok hL) (all_cons (m26_ok hL) (all_cons (m30_ok hL) (all_nil))))))))
theorem run169 : isTrue (evCall (cxX Tryz.prog bad [] [] ((8, numExtE [(0, 11, .lit 4), (0, 10, .lit 9), (0, 8, .lit 1), (0, 2, .lit 1)]) :: (31, frameFn l169) :: q1)) 1000 60 6 [.int .i64 (.var 0)] (sentH 453 20 errTab)) = true := by kernel_rfl
theorem case169 : CaseS [] [] [(0, 11, .lit 4), (0, 10, .lit 9), (0, 8, .lit 1), (0, 2, .lit 1)] [.int .i64 (.var 0)] := caseS (fun hL hk hT => FnsOk.cons (hT.ok fit) (FnsOk.cons (frame_fn_ok (l169_ok hL)) ((q1_ok hL)))) run169
noncomputable def l170 : List (Memo) := m9 :: m8 :: m7 :: m6 :: m5 :: m14 :: m3 :: m30 :: []
theorem l170_ok {σ : Nat → Int} {W0 : World} (hL : L0 W0) : ∀ x ∈ l170, MemoOk Tryz.prog 59391 σ W0 31 x := all_cons (m9_ok hL) (all_cons (m8_ok hL) (all_cons (m7_ok hL) (all_cons (m6_ok hL) (all_cons (m5_ok hL) (all_cons (m14_ok hL) (all_cons (m3_ok hL) (all_cons (m30_ok hL) (all_nil))))))))
theorem run170 : isTrue (evCall (cxX Tryz.prog bad [] [] ((8, numExtE [(0, 11, .lit 4), (0, 10, .lit 0), (0, 8, .lit 2), (0, 2, .lit 0)]) :: (31, frameFn l170) :: q1)) 1000 60 6 [.int .i64 (.var 0)] (sentH 453 20 errTab)) = true := by kernel_rfl
theorem case170 : CaseS [] [] [(0, 11, .lit 4), (0, 10, .lit 0), (0, 8, .lit 2), (0, 2, .lit 0)] [.int .i64 (.var 0)] := caseS (fun hL hk hT => FnsOk.cons (hT.ok fit) (FnsOk.cons (frame_fn_ok (l170_ok hL)) ((q1_ok hL)))) run170
noncomputable def l171 : List (Memo) := m9 :: m12 :: m7 :: m6 :: m5 :: m16 :: m10 :: m30 :: []
theorem l171_ok {σ : Nat → Int} {W0 : World} (hL : L0 W0) : ∀ x ∈ l171, MemoOk Tryz.prog 59391 σ W0 31 x := all_cons (m9_ok hL) (all_cons (m12_ok hL) (all_cons (m7_ok hL) (all_cons (m6_ok hL) (all_cons (m5_ok hL) (all_cons (m16_ok hL) (all_cons (m10_ok hL) (all_cons (m30_ok hL) (all_nil))))))))
theorem run171 : isTrue (evCall (cxX Tryz.prog bad [] [] ((8, numExtE [(0, 11, .lit 4), (0, 10, .lit 1), (0, 8, .lit 3), (0, 2, .lit 1)]) :: (31, frameFn l171) :: q1)) 1000 60 6 [.int .i64 (.var 0)] (sentH 453 20 errTab)) = true := by kernel_rfl
theorem case171 : CaseS [] [] [(0, 11, .lit 4), (0, 10, .lit 1), (0, 8, .lit 3), (0, 2, .lit 1)] [.int .i64 (.var 0)] := caseS (fun hL hk hT => FnsOk.cons (hT.ok fit) (FnsOk.cons (frame_fn_ok (l171_ok hL)) ((q1_ok hL)))) run171
noncomputable def l172 : List (Memo) := m9 :: m8 :: m7 :: m6 :: m5 :: m18 :: m13 :: m30 :: []
theorem l172_ok {σ : Nat → Int} {W0 : World} (hL : L0 W0) : ∀ x ∈ l172, MemoOk Tryz.prog 59391 σ W0 31 x := all_cons (m9_ok hL) (all_cons (m8_ok hL) (all_cons (m7_ok hL) (all_cons (m6_ok hL) (all_cons (m5_ok hL) (all_cons (m18_ok hL) (all_cons (m13_ok hL) (all_cons (m30_ok hL) (all_nil))))))))
theorem run172 : isTrue (evCall (cxX Tryz.prog bad [] [] ((8, numExtE [(0, 11, .lit 4), (0, 10, .lit 2), (0, 8, .lit 4), (0, 2, .lit 0)]) :: (31, frameFn l172) :: q1)) 1000 60 6 [.int .i64 (.var 0)] (sentH 453 20 errTab)) = true := by kernel_rfl
theorem case172 : CaseS [] [] [(0, 11, .lit 4), (0, 10, .lit 2), (0, 8, .lit 4), (0, 2, .lit 0)] [.int .i64 (.var 0)] := caseS (fun hL hk hT => FnsOk.cons (hT.ok fit) (FnsOk.cons (frame_fn_ok (l172_ok hL)) ((q1_ok hL)))) run172
noncomputable def l173 : List (Memo) := m9 :: m12 :: m7 :: m6 :: m5 :: m20 :: m15 :: m30 :: []
theorem l173_ok {σ : Nat → Int} {W0 : World} (hL : L0 W0) : ∀ x ∈ l173, MemoOk Tryz.prog 59391 σ W0 31 x := all_cons (m9_ok hL) (all_cons (m12_ok hL) (all_cons (m7_ok hL) (all_cons (m6_ok hL) (all_cons (m5_ok hL) (all_cons (m20_ok hL) (all_cons (m15_ok hL) (all_cons (m30_ok hL) (all_nil))))))))
theorem run173 : isTrue (evCall (cxX Tryz.prog bad [] [] ((8, numExtE [(0, 11, .lit 4), (0, 10, .lit 3), (0, 8, .lit 5), (0, 2, .lit 1)]) :: (31, frameFn l173) :: q1)) 1000 60 6 [.int .i64 (.var 0)] (sentH 453 20 errTab)) = true := by kernel_rfl
theorem case173 : CaseS [] [] [(0, 11, .lit 4), (0, 10, .lit 3), (0, 8, .lit 5), (0, 2, .lit 1)] [.int .i64 (.var 0)] := caseS (fun hL hk hT => FnsOk.cons (hT.ok fit) (FnsOk.cons (frame_fn_ok (l173_ok hL)) ((q1_ok hL)))) run173
noncomputable def l174 : List (Memo) := m9 :: m8 :: m7 :: m6 :: m5 :: m22 :: m17 :: m30 :: []
theorem l174_ok {σ : Nat → Int} {W0 : World} (hL : L0 W0) : ∀ x ∈ l174, MemoOk Tryz.prog 59391 σ W0 31 x := all_cons (m9_ok hL) (all_cons (m8_ok hL) (all_cons (m7_ok hL) (all_cons (m6_ok hL) (all_cons (m5_ok hL) (all_cons (m22_ok hL) (all_cons (m17_ok hL) (all_cons (m30_ok hL) (all_nil))))))))
theorem run174 : isTrue (evCall (cxX Tryz.prog bad [] [] ((8, numExtE [(0, 11, .lit 4), (0, 10, .lit 4), (0, 8, .lit 6), (0, 2, .lit 0)]) :: (31, frameFn l174) :: q1)) 1000 60 6 [.int .i64 (.var 0)] (sentH 453 20 errTab)) = true := by kernel_rfl
theorem case174 : CaseS [] [] [(0, 11, .lit 4), (0, 10, .lit 4), (0, 8, .lit 6), (0, 2, .lit 0)] [.int .i64 (.var 0)] := caseS (fun hL hk hT => FnsOk.cons (hT.ok fit) (FnsOk.cons (frame_fn_ok (l174_ok hL)) ((q1_ok hL)))) run174
noncomputable def l175 : List (Memo) := m9 :: m12 :: m7 :: m6 :: m5 :: m24 :: m19 :: m30 :: []
theorem l175_ok {σ : Nat → Int} {W0 : World} (hL : L0 W0) : ∀ x ∈ l175, MemoOk Tryz.prog 59391 σ W0 31 x := all_cons (m9_ok hL) (all_cons (m12_ok hL) (all_cons (m7_ok hL) (all_cons (m6_ok hL) (all_cons (m5_ok hL) (all_cons (m24_ok hL) (all_cons (m19_ok hL) (all_cons (m30_ok hL) (all_nil))))))))
theorem run175 : isTrue (evCall (cxX Tryz.prog bad [] [] ((8, numExtE [(0, 11, .lit 4), (0, 10, .lit 5), (0, 8, .lit 7), (0, 2, .lit 1)]) :: (31, frameFn l175) :: q1)) 1000 60 6 [.int .i64 (.var 0)] (sentH 453 20 errTab)) = true := by kernel_rfl
theorem case175 : CaseS [] [] [(0, 11, .lit 4), (0, 10, .lit 5), (0, 8, .lit 7), (0, 2, .lit 1)] [.int .i64 (.var 0)] := caseS (fun hL hk hT => FnsOk.cons (hT.ok fit) (FnsOk.cons (frame_fn_ok (l175_ok hL)) ((q1_ok hL)))) run175
noncomputable def l176 : List (Memo) := m9 :: m8 :: m7 :: m6 :: m5 :: m4 :: m21 :: m30 :: []
theorem l176_ok {σ : Nat → Int} {W0 : World} (hL : L0 W0) : ∀ x ∈ l176, MemoOk Tryz.prog 59391 σ W0 31 x := all_cons (m9_ok hL) (all_cons (m8_ok hL) (all_cons (m7_ok hL) (all_cons (m6_ok hL) (all_cons (m5_ok hL) (all_cons (m4_ok hL) (all_cons (m21_ok hL) (all_cons (m30_ok hL) (all_nil))))))))
theorem run176 : isTrue (evCall (cxX Tryz.prog bad [] [] ((8, numExtE [(0, 11, .lit 4), (0, 10, .lit 6), (0, 8, .lit 0), (0, 2, .lit 0)]) :: (31, frameFn l176) :: q1)) 1000 60 6 [.int .i64 (.var 0)] (sentH 453 20 errTab)) = true := by kernel_rfl
theorem case176 : CaseS [] [] [(0, 11, .lit 4), (0, 10, .lit 6), (0, 8, .lit 0), (0, 2, .lit 0)] [.int .i64 (.var 0)] := caseS (fun hL hk hT => FnsOk.cons (hT.ok fit) (FnsOk.cons (frame_fn_ok (l176_ok hL)) ((q1_ok hL)))) run176
noncomputable def l177 : List (Memo) := m9 :: m12 :: m7 :: m6 :: m5 :: m11 :: m23 :: m30 :: []
theorem l177_ok {σ : Nat → Int} {W0 : World} (hL : L0 W0) : ∀ x ∈ l177, MemoOk Tryz.prog 59391 σ W0 31 x := all_cons (m9_ok hL) (all_cons (m12_ok hL) (all_cons (m7_ok hL) (all_cons (m6_ok hL) (all_cons (m5_ok hL) (all_cons (m11_ok hL) (all_cons (m23_ok hL) (all_cons (m30_ok hL) (all_nil))))))))
theorem run177 : isTrue (evCall (cxX Tryz.prog bad [] [] ((8, numExtE [(0, 11, .lit 4), (0, 10, .lit 7), (0, 8, .lit 1), (0, 2, .lit 1)]) :: (31, frameFn l177) :: q1)) 1000 60 6 [.int .i64 (.var 0)] (sentH 453 20 errTab)) = true := by kernel_rfl
theorem case177 : CaseS [] [] [(0, 11, .lit 4), (0, 10, .lit 7), (0, 8, .lit 1), (0, 2, .lit 1)] [.int .i64 (.var 0)] := caseS (fun hL hk hT => FnsOk.cons (hT.ok fit) (FnsOk.cons (frame_fn_ok (l177_ok hL)) ((q1_ok hL)))) run177
noncomputable def l178 : List (Memo) := m9 :: m8 :: m7 :: m6 :: m5 :: m14 :: m25 :: m30 :: []
theorem l178_ok {σ : Nat → Int} {W0 : World} (hL : L0 W0) : ∀ x ∈ l178, MemoOk Tryz.prog 59391 σ W0 31 x := all_cons (m9_ok hL) (all_cons (m8_ok hL) (all_cons (m7_ok hL) (all_cons (m6_ok hL) (all_cons (m5_ok hL) (all_cons (m14_ok hL) (all_cons (m25_ok hL) (all_cons (m30_ok hL) (all_nil))))))))
theorem run178 : isTrue (evCall (cxX Tryz.prog bad [] [] ((8, numExtE [(0, 11, .lit 4), (0, 10, .lit 8), (0, 8, .lit 2), (0, 2, .lit 0)]) :: (31, frameFn l178) :: q1)) 1000 60 6 [.int .i64 (.var 0)] (sentH 453 20 errTab)) = true := by kernel_rfl
theorem case178 : CaseS [] [] [(0, 11, .lit 4), (0, 10, .lit 8), (0, 8, .lit 2), (0, 2, .lit 0)] [.int .i64 (.var 0)] := caseS (fun hL hk hT => FnsOk.cons (hT.ok fit) (FnsOk.cons (frame_fn_ok (l178_ok hL)) ((q1_ok hL)))) run178
noncomputable def l179 : List (Memo) := m9 :: m12 :: m7 :: m6 :: m5 :: m16 :: m26 :: m30 :: []
theorem l179_ok {σ : Nat → Int} {W0 : World} (hL : L0 W0) : ∀ x ∈ l179, MemoOk Tryz.prog 59391 σ W0 31 x := all_cons (m9_ok hL) (all_cons (m12_ok hL) (all_cons (m7_ok hL) (all_cons (m6_ok hL) (all_cons (m5_ok hL) (all_cons (m16_ok hL) (all_cons (m26_ok hL) (all_cons (m30_ok hL) (all_nil))))))))
theorem run179 : isTrue (evCall (cxX Tryz.prog bad [] [] ((8, numExtE [(0, 11, .lit 4), (0, 10, .lit 9), (0, 8, .lit 3), (0, 2, .lit 1)]) :: (31, frameFn l179) :: q1)) 1000 60 6 [.int .i64 (.var 0)] (sentH 453 20 errTab)) = true := by kernel_rfl
theorem case179 : CaseS [] [] [(0, 11, .lit 4), (0, 10, .lit 9), (0, 8, .lit 3), (0, 2, .lit 1)] [.int .i64 (.var 0)] := caseS (fun hL hk hT => FnsOk.cons (hT.ok fit) (FnsOk.cons (frame_fn_ok (l179_ok hL)) ((q1_ok hL)))) run179
noncomputable def l180 : List (Memo) := m9 :: m8 :: m7 :: m6 :: m5 :: m18 :: m3 :: m30 :: []
theorem l180_ok {σ : Nat → Int} {W0 : World} (hL : L0 W0) : ∀ x ∈ l180, MemoOk Tryz.prog 59391 σ W0 31 x := all_cons (m9_ok hL) (all_cons (m8_ok hL) (all_cons (m7_ok hL) (all_cons (m6_ok hL) (all_cons (m5_ok hL) (all_cons (m18_ok hL) (all_cons (m3_ok hL) (all_cons (m30_ok hL) (all_nil))))))))
theorem run180 : isTrue (evCall (cxX Tryz.prog bad [] [] ((8, numExtE [(0, 11, .lit 4), (0, 10, .lit 0), (0, 8, .lit 4), (0, 2, .lit 0)]) :: (31, frameFn l180) :: q1)) 1000 60 6 [.int .i64 (.var 0)] (sentH 453 20 errTab)) = true := by kernel_rfl
theorem case180 : CaseS [] [] [(0, 11, .lit 4), (0, 10, .lit 0), (0, 8, .lit 4), (0, 2, .lit 0)] [.int .i64 (.var 0)] := caseS (fun hL hk hT => FnsOk.cons (hT.ok fit) (FnsOk.cons (frame_fn_ok (l180_ok hL)) ((q1_ok hL)))) run180
noncomputable def l181 : List (Memo) := m9 :: m12 :: m7 :: m6 :: m5 :: m20 :: m10 :: m30 :: []
theorem l181_ok {σ : Nat → Int} {W0 : World} (hL : L0 W0) : ∀ x ∈ l181, MemoOk Tryz.prog 59391 σ W0 31 x := all_cons (m9_ok hL) (all_cons (m12_ok hL) (all_cons (m7_ok hL) (all_cons (m6_ok hL) (all_cons (m5_ok hL) (all_cons (m20_ok hL) (all_cons (m10_ok hL) (all_cons (m30_ok hL) (all_nil))))))))
theorem run181 : isTrue (evCall (cxX Tryz.prog bad [] [] ((8, numExtE [(0, 11, .lit 4), (0, 10, .lit 1), (0, 8, .lit 5), (0, 2, .lit 1)]) :: (31, frameFn l181) :: q1)) 1000 60 6 [.int .i64 (.var 0)] (sentH 453 20 errTab)) = true := by kernel_rfl
theorem case181 : CaseS [] [] [(0, 11, .lit 4), (0, 10, .lit 1), (0, 8, .lit 5), (0, 2, .lit 1)] [.int .i64 (.var 0)] := caseS (fun hL hk hT => FnsOk.cons (hT.ok fit) (FnsOk.cons (frame_fn_ok (l181_ok hL)) ((q1_ok hL)))) run181
noncomputable def l182 : List (Memo) := m9 :: m8 :: m7 :: m6 :: m5 :: m22 :: m13 :: m30 :: []
theorem l182_ok {σ : Nat → Int} {W0 : World} (hL : L0 W0) : ∀ x ∈ l182, MemoOk Tryz.prog 59391 σ W0 31 x := all_cons (m9_ok hL) (all_cons (m8_ok hL) (all_cons (m7_ok hL) (all_cons (m6_ok hL) (all_cons (m5_ok hL) (all_cons (m22_ok hL) (all_cons (m13_ok hL) (all_cons (m30_ok hL) (all_nil))))))))
theorem run182 : isTrue (evCall (cxX Tryz.prog bad [] [] ((8, numExtE [(0, 11, .lit 4), (0, 10, .lit 2), (0, 8, .lit 6), (0, 2, .lit 0)]) :: (31, frameFn l182) :: q1)) 1000 60 6 [.int .i64 (.var 0)] (sentH 453 20 errTab)) = true := by kernel_rfl
theorem case182 : CaseS [] [] [(0, 11, .lit 4), (0, 10, .lit 2), (0, 8, .lit 6), (0, 2, .lit 0)] [.int .i64 (.var 0)] := caseS (fun hL hk hT => FnsOk.cons (hT.ok fit) (FnsOk.cons (frame_fn_ok (l182_ok hL)) ((q1_ok hL)))) run182
noncomputable def l183 : List (Memo) := m9 :: m12 :: m7 :: m6 :: m5 :: m24 :: m15 :: m30 :: []
theorem l183_ok {σ : Nat → Int} {W0 : World} (hL : L0 W0) : ∀ x ∈ l183, MemoOk Tryz.prog 59391 σ W0 31 x := all_cons (m9_ok hL) (all_cons (m12_ok hL) (all_cons (m7_ok hL) (all_cons (m6_ok hL) (all_cons (m5_ok hL) (all_cons (m24_ok hL) (all_cons (m15_ok hL) (all_cons (m30_ok hL) (all_nil))))))))
theorem run183 : isTrue (evCall (cxX Tryz.prog bad [] [] ((8, numExtE [(0, 11, .lit 4), (0, 10, .lit 3), (0, 8, .lit 7), (0, 2, .lit 1)]) :: (31, frameFn l183) :: q1)) 1000 60 6 [.int .i64 (.var 0)] (sentH 453 20 errTab)) = true := by kernel_rfl
theorem case183 : CaseS [] [] [(0, 11, .lit 4), (0, 10, .lit 3), (0, 8, .lit 7), (0, 2, .lit 1)] [.int .i64 (.var 0)] := caseS (fun hL hk hT => FnsOk.cons (hT.ok fit) (FnsOk.cons (frame_fn_ok (l183_ok hL)) ((q1_ok hL)))) run183
noncomputable def l184 : List (Memo) := m9 :: m8 :: m7 :: m6 :: m5 :: m4 :: m17 :: m30 :: []
theorem l184_ok {σ : Nat → Int} {W0 : World} (hL : L0 W0) : ∀ x ∈ l184, MemoOk Tryz.prog 59391 σ W0 31 x := all_cons (m9_ok hL) (all_cons (m8_ok hL) (all_cons (m7_ok hL) (all_cons (m6_ok hL) (all_cons (m5_ok hL) (all_cons (m4_ok hL) (all_cons (m17_ok hL) (all_cons (m30_ok hL) (all_nil))))))))
theorem run184 : isTrue (evCall (cxX Tryz.prog bad [] [] ((8, numExtE [(0, 11, .lit 4), (0, 10, .lit 4), (0, 8, .lit 0), (0, 2, .lit 0)]) :: (31, frameFn l184) :: q1)) 1000 60 6 [.int .i64 (.var 0)] (sentH 453 20 errTab)) = true := by kernel_rfl
theorem case184 : CaseS [] [] [(0, 11, .lit 4), (0, 10, .lit 4), (0, 8, .lit 0), (0, 2, .lit 0)] [.int .i64 (.var 0)] := caseS (fun hL hk hT => FnsOk.cons (hT.ok fit) (FnsOk.cons (frame_fn_ok (l184_ok hL)) ((q1_ok hL)))) run184
noncomputable def l185 : List (Memo) := m9 :: m12 :: m7 :: m6 :: m5 :: m11 :: m19 :: m30 :: []
theorem l185_ok {σ : Nat → Int} {W0 : World} (hL : L0 W0) : ∀ x ∈ l185, MemoOk Tryz.prog 59391 σ W0 31 x := all_cons (m9_ok hL) (all_cons (m12_ok hL) (all_cons (m7_ok hL) (all_cons (m6_ok hL) (all_cons (m5_ok hL) (all_cons (m11_ok hL) (all_cons (m19_ok hL) (all_cons (m30_ok hL) (all_nil))))))))
theorem run185 : isTrue (evCall (cxX Tryz.prog bad [] [] ((8, numExtE [(0, 11, .lit 4), (0, 10, .lit 5), (0, 8, .lit 1), (0, 2, .lit 1)]) :: (31, frameFn l185) :: q1)) 1000 60 6 [.int .i64 (.var 0)] (sentH 453 20 errTab)) = true := by kernel_rfl
theorem case185 : CaseS [] [] [(0, 11, .lit 4), (0, 10, .lit 5), (0, 8, .lit 1), (0, 2, .lit 1)] [.int .i64 (.var 0)] := caseS (fun hL hk hT => FnsOk.cons (hT.ok fit) (FnsOk.cons (frame_fn_ok (l185_ok hL)) ((q1_ok hL)))) run185
noncomputable def l186 : List (Memo) := m9 :: m8 :: m7 :: m6 :: m5 :: m14 :: m21 :: m30 :: []
theorem l186_ok {σ : Nat → Int} {W0 : World} (hL : L0 W0) : ∀ x ∈ l186, MemoOk Tryz.prog 59391 σ W0 31 x := all_cons (m9_ok hL) (all_cons (m8_ok hL) (all_cons (m7_ok hL) (all_cons (m6_ok hL) (all_cons (m5_ok hL) (all_cons (m14_ok hL) (all_cons (m21_ok hL) (all_cons (m30_ok hL) (all_nil))))))))
theorem run186 : isTrue (evCall (cxX Tryz.prog bad [] [] ((8, numExtE [(0, 11, .lit 4), (0, 10, .lit 6), (0, 8, .lit 2), (0, 2, .lit 0)]) :: (31, frameFn l186) :: q1)) 1000 60 6 [.int .i64 (.var 0)] (sentH 453 20 errTab)) = true := by kernel_rfl
theorem case186 : CaseS [] [] [(0, 11, .lit 4), (0, 10, .lit 6), (0, 8, .lit 2), (0, 2, .lit 0)] [.int .i64 (.var 0)] := caseS (fun hL hk hT => FnsOk.cons (hT.ok fit) (FnsOk.cons (frame_fn_ok (l186_ok hL)) ((q1_ok hL)))) run186
noncomputable def l187 : List (Memo) := m9 :: m12 :: m7 :: m6 :: m5 :: m16 :: m23 :: m30 :: []
theorem l187_ok {σ : Nat → Int} {W0 : World} (hL : L0 W0) : ∀ x ∈ l187, MemoOk Tryz.prog 59391 σ W0 31 x := all_cons (m9_ok hL) (all_cons (m12_ok hL) (all_cons (m7_ok hL) (all_cons (m6_ok hL) (all_cons (m5_ok hL) (all_cons (m16_ok hL) (all_cons (m23_ok hL) (all_cons (m30_ok hL) (all_nil))))))))
theorem run187 : isTrue (evCall (cxX Tryz.prog bad [] [] ((8, numExtE [(0, 11, .lit 4), (0, 10, .lit 7), (0, 8, .lit 3), (0, 2, .lit 1)]) :: (31, frameFn l187) :: q1)) 1000 60 6 [.int .i64 (.var 0)] (sentH 453 20 errTab)) = true := by kernel_rfl
theorem case187 : CaseS [] [] [(0, 11, .lit 4), (0, 10, .lit 7), (0, 8, .lit 3), (0, 2, .lit 1)] [.int .i64 (.var 0)] := caseS (fun hL hk hT => FnsOk.cons (hT.ok fit) (FnsOk.cons (frame_fn_ok (l187_ok hL)) ((q1_ok hL)))) run187
noncomputable def l188 : List (Memo) := m9 :: m8 :: m7 :: m6 :: m5 :: m18 :: m25 :: m30 :: []
theorem l188_ok {σ : Nat → Int} {W0 : World} (hL : L0 W0) : ∀ x ∈ l188, MemoOk Tryz.prog 59391 σ W0 31 x := all_cons (m9_ok hL) (all_cons (m8_ok hL) (all_cons (m7_ok hL) (all_cons (m6_ok hL) (all_cons (m5_ok hL) (all_cons (m18_ok hL) (all_cons (m25_ok hL) (all_cons (m30_ok hL) (all_nil))))))))
theorem run188 : isTrue (evCall (cxX Tryz.prog bad [] [] ((8, numExtE [(0, 11, .lit 4), (0, 10, .lit 8), (0, 8, .lit 4), (0, 2, .lit 0)]) :: (31, frameFn l188) :: q1)) 1000 60 6 [.int .i64 (.var 0)] (sentH 453 20 errTab)) = true := by kernel_rfl
theorem case188 : CaseS [] [] [(0, 11, .lit 4), (0, 10, .lit 8), (0, 8, .lit 4), (0, 2, .lit 0)] [.int .i64 (.var 0)] := caseS (fun hL hk hT => FnsOk.cons (hT.ok fit) (FnsOk.cons (frame_fn_ok (l188_ok hL)) ((q1_ok hL)))) run188
noncomputable def l189 : List (Memo) := m9 :: m12 :: m7 :: m6 :: m5 :: m20 :: m26 :: m30 :: []
theorem l189_ok {σ : Nat → Int} {W0 : World} (hL : L0 W0) : ∀ x ∈ l189, MemoOk Tryz.prog 59391 σ W0 31 x := all_cons (m9_ok hL) (all_cons (m12_ok hL) (all_cons (m7_ok hL) (all_cons (m6_ok hL) (all_cons (m5_ok hL) (all_cons (m20_ok hL) (all_cons (m26_ok hL) (all_cons (m30_ok hL) (all_nil))))))))
theorem run189 : isTrue (evCall (cxX Tryz.prog bad [] [] ((8, numExtE [(0, 11, .lit 4), (0, 10, .lit 9), (0, 8, .lit 5), (0, 2, .lit 1)]) :: (31, frameFn l189) :: q1)) 1000 60 6 [.int .i64 (.var 0)] (sentH 453 20 errTab)) = true := by kernel_rfl
theorem case189 : CaseS [] [] [(0, 11, .lit 4), (0, 10, .lit 9), (0, 8, .lit 5), (0, 2, .lit 1)] [.int .i64 (.var 0)] := caseS (fun hL hk hT => FnsOk.cons (hT.ok fit) (FnsOk.cons (frame_fn_ok (l189_ok hL)) ((q1_ok hL)))) run189
noncomputable def l190 : List (Memo) := m9 :: m8 :: m7 :: m6 :: m5 :: m22 :: m3 :: m30 :: []
theorem l190_ok {σ : Nat → Int} {W0 : World} (hL : L0 W0) : ∀ x ∈ l190, MemoOk Tryz.prog 59391 σ W0 31 x := all_cons (m9_ok hL) (all_cons (m8_ok hL) (all_cons (m7_ok hL) (all_cons (m6_ok hL) (all_cons (m5_ok hL) (all_cons (m22_ok hL) (all_cons (m3_ok hL) (all_cons (m30_ok hL) (all_nil))))))))
theorem run190 : isTrue (evCall (cxX Tryz.prog bad [] [] ((8, numExtE [(0, 11, .lit 4), (0, 10, .lit 0), (0, 8, .lit 6), (0, 2, .lit 0)]) :: (31, frameFn l190) :: q1)) 1000 60 6 [.int .i64 (.var 0)] (sentH 453 20 errTab)) = true := by kernel_rfl
theorem case190 : CaseS [] [] [(0, 11, .lit 4), (0, 10, .lit 0), (0, 8, .lit 6), (0, 2, .lit 0)] [.int .i64 (.var 0)] := caseS (fun hL hk hT => FnsOk.cons (hT.ok fit) (FnsOk.cons (frame_fn_ok (l190_ok hL)) ((q1_ok hL)))) run190
noncomputable def l191 : List (Memo) := m9 :: m12 :: m7 :: m6 :: m5 :: m24 :: m10 :: m30 :: []
theorem l191_ok {σ : Nat → Int} {W0 : World} (hL : L0 W0) : ∀ x ∈ l191, MemoOk Tryz.prog 59391 σ W0 31 x := all_cons (m9_ok hL) (all_cons (m12_ok hL) (all_cons (m7_ok hL) (all_cons (m6_ok hL) (all_cons (m5_ok hL) (all_cons (m24_ok hL) (all_cons (m10_ok hL) (all_cons (m30_ok hL) (all_nil))))))))
theorem run191 : isTrue (evCall (cxX Tryz.prog bad [] [] ((8, numExtE [(0, 11, .lit 4), (0, 10, .lit 1), (0, 8, .lit 7), (0, 2, .lit 1)]) :: (31, frameFn l191) :: q1)) 1000 60 6 [.int .i64 (.var 0)] (sentH 453 20 errTab)) = true := by kernel_rfl
theorem case191 : CaseS [] [] [(0, 11, .lit 4), (0, 10, .lit 1), (0, 8, .lit 7), (0, 2, .lit 1)] [.int .i64 (.var 0)] := caseS (fun hL hk hT => FnsOk.cons (hT.ok fit) (FnsOk.cons (frame_fn_ok (l191_ok hL)) ((q1_ok hL)))) run191
noncomputable def l192 : List (Memo) := m9 :: m8 :: m7 :: m6 :: m5 :: m4 :: m13 :: m30 :: []
theorem l192_ok {σ : Nat → Int} {W0 : World} (hL : L0 W0) : ∀ x ∈ l192, MemoOk Tryz.prog 59391 σ W0 31 x := all_cons (m9_ok hL) (all_cons (m8_ok hL) (all_cons (m7_ok hL) (all_cons (m6_ok hL) (all_cons (m5_ok hL) (all_cons (m4_ok hL) (all_cons (m13_ok hL) (all_cons (m30_ok hL) (all_nil))))))))
theorem run192 : isTrue (evCall (cxX Tryz.prog bad [] [] ((8, numExtE [(0, 11, .lit 4), (0, 10, .lit 2), (0, 8, .lit 0), (0, 2, .lit 0)]) :: (31, frameFn l192) :: q1)) 1000 60 6 [.int .i64 (.var 0)] (sentH 453 20 errTab)) = true := by kernel_rfl
theorem case192 : CaseS [] [] [(0, 11, .lit 4), (0, 10, .lit 2), (0, 8, .lit 0), (0, 2, .lit 0)] [.int .i64 (.var 0)] := caseS (fun hL hk hT => FnsOk.cons (hT.ok fit) (FnsOk.cons (frame_fn_ok (l192_ok hL)) ((q1_ok hL)))) run192
noncomputable def l193 : List (Memo) := m9 :: m12 :: m7 :: m6 :: m5 :: m11 :: m15 :: m30 :: []
theorem l193_ok {σ : Nat → Int} {W0 : World} (hL : L0 W0) : ∀ x ∈ l193, MemoOk Tryz.prog 59391 σ W0 31 x := all_cons (m9_ok hL) (all_cons (m12_ok hL) (all_cons (m7_ok hL) (all_cons (m6_ok hL) (all_cons (m5_ok hL) (all_cons (m11_ok hL) (all_cons (m15_ok hL) (all_cons (m30_ok hL) (all_nil))))))))
theorem run193 : isTrue (evCall (cxX Tryz.prog bad [] [] ((8, numExtE [(0, 11, .lit 4), (0, 10, .lit 3), (0, 8, .lit 1), (0, 2, .lit 1)]) :: (31, frameFn l193) :: q1)) 1000 60 6 [.int .i64 (.var 0)] (sentH 453 20 errTab)) = true := by kernel_rfl
theorem case193 : CaseS [] [] [(0, 11, .lit 4), (0, 10, .lit 3), (0, 8, .lit 1), (0, 2, .lit 1)] [.int .i64 (.var 0)] := caseS (fun hL hk hT => FnsOk.cons (hT.ok fit) (FnsOk.cons (frame_fn_ok (l193_ok hL)) ((q1_ok hL)))) run193
noncomputable def l194 : List (Memo) := m9 :: m8 :: m7 :: m6 :: m5 :: m14 :: m17 :: m30 :: []
theorem l194_ok {σ : Nat → Int} {W0 : World} (hL : L0 W0) : ∀ x ∈ l194, MemoOk Tryz.prog 59391 σ W0 31 x := all_cons (m9_ok hL) (all_cons (m8_ok hL) (all_cons (m7_ok hL) (all_cons (m6_ok hL) (all_cons (m5_ok hL) (all_cons (m14_ok hL) (all_cons (m17_ok hL) (all_cons (m30_ok hL) (all_nil))))))))
theorem run194 : isTrue (evCall (cxX Tryz.prog bad [] [] ((8, numExtE [(0, 11, .lit 4), (0, 10, .lit 4), (0, 8, .lit 2), (0, 2, .lit 0)]) :: (31, frameFn l194) :: q1)) 1000 60 6 [.int .i64 (.var 0)] (sentH 453 20 errTab)) = true := by kernel_rfl
theorem case194 : CaseS [] [] [(0, 11, .lit 4), (0, 10, .lit 4), (0, 8, .lit 2), (0, 2, .lit 0)] [.int .i64 (.var 0)] := caseS (fun hL hk hT => FnsOk.cons (hT.ok fit) (FnsOk.cons (frame_fn_ok (l194_ok hL)) ((q1_ok hL)))) run194
noncomputable def l195 : List (Memo) := m9 :: m12 :: m7 :: m6 :: m5 :: m16 :: m19 :: m30 :: []
theorem l195_ok {σ : Nat → Int} {W0 : World} (hL : L0 W0) : ∀ x ∈ l195, MemoOk Tryz.prog 59391 σ W0 31 x := all_cons (m9_ok hL) (all_cons (m12_ok hL) (all_cons (m7_ok hL) (all_cons (m6_ok hL) (all_cons (m5_ok hL) (all_cons (m16_ok hL) (all_cons (m19_ok hL) (all_cons (m30_ok hL) (all_nil))))))))
theorem run195 : isTrue (evCall (cxX Tryz.prog bad [] [] ((8, numExtE [(0, 11, .lit 4), (0, 10, .lit 5), (0, 8, .lit 3), (0, 2, .lit 1)]) :: (31, frameFn l195) :: q1)) 1000 60 6 [.int .i64 (.var 0)] (sentH 453 20 errTab)) = true := by kernel_rfl
theorem case195 : CaseS [] [] [(0, 11, .lit 4), (0, 10, .lit 5), (0, 8, .lit 3), (0, 2, .lit 1)] [.int .i64 (.var 0)] := caseS (fun hL hk hT => FnsOk.cons (hT.ok fit) (FnsOk.cons (frame_fn_ok (l195_ok hL)) ((q1_ok hL)))) run195
noncomputable def l196 : List (Memo) := m9 :: m8 :: m7 :: m6 :: m5 :: m18 :: m21 :: m30 :: []
theorem l196_ok {σ : Nat → Int} {W0 : World} (hL : L0 W0) : ∀ x ∈ l196, MemoOk Tryz.prog 59391 σ W0 31 x := all_cons (m9_ok hL) (all_cons (m8_ok hL) (all_cons (m7_ok hL) (all_cons (m6_ok hL) (all_cons (m5_ok hL) (all_cons (m18_ok hL) (all_cons (m21_ok hL) (all_cons (m30_ok hL) (all_nil))))))))
theorem run196 : isTrue (evCall (cxX Tryz.prog bad [] [] ((8, numExtE [(0, 11, .lit 4), (0, 10, .lit 6), (0, 8, .lit 4), (0, 2, .lit 0)]) :: (31, frameFn l196) :: q1)) 1000 60 6 [.int .i64 (.var 0)] (sentH 453 20 errTab)) = true := by kernel_rfl
theorem case196 : CaseS [] [] [(0, 11, .lit 4), (0, 10, .lit 6), (0, 8, .lit 4), (0, 2, .lit 0)] [.int .i64 (.var 0)] := caseS (fun hL hk hT => FnsOk.cons (hT.ok fit) (FnsOk.cons (frame_fn_ok (l196_ok hL)) ((q1_ok hL)))) run196
noncomputable def l197 : List (Memo) := m9 :: m12 :: m7 :: m6 :: m5 :: m20 :: m23 :: m30 :: []
theorem l197_ok {σ : Nat → Int} {W0 : World} (hL : L0 W0) : ∀ x ∈ l197, MemoOk Tryz.prog 59391 σ W0 31 x := all_cons (m9_ok hL) (all_cons (m12_ok hL) (all_cons (m7_ok hL) (all_cons (m6_ok hL) (all_cons (m5_ok hL) (all_cons (m20_ok hL) (all_cons (m23_ok hL) (all_cons (m30_ok hL) (all_nil))))))))
theorem run197 : isTrue (evCall (cxX Tryz.prog bad [] [] ((8, numExtE [(0, 11, .lit 4), (0, 10, .lit 7), (0, 8, .lit 5), (0, 2, .lit 1)]) :: (31, frameFn l197) :: q1)) 1000 60 6 [.int .i64 (.var 0)] (sentH 453 20 errTab)) = true := by kernel_rfl
theorem case197 : CaseS [] [] [(0, 11, .lit 4), (0, 10, .lit 7), (0, 8, .lit 5), (0, 2, .lit 1)] [.int .i64 (.var 0)] := caseS (fun hL hk hT => FnsOk.cons (hT.ok fit) (FnsOk.cons (frame_fn_ok (l197_ok hL)) ((q1_ok hL)))) run197
noncomputable def l198 : List (Memo) := m9 :: m8 :: m7 :: m6 :: m5 :: m22 :: m25 :: m30 :: []
theorem l198_ok {σ : Nat → Int} {W0 : World} (hL : L0 W0) : ∀ x ∈ l198, MemoOk Tryz.prog 59391 σ W0 31 x := all_cons (m9_ok hL) (all_cons (m8_ok hL) (all_cons (m7_ok hL) (all_cons (m6_ok hL) (all_cons (m5_ok hL) (all_cons (m22_ok hL) (all_cons (m25_ok hL) (all_cons (m30_ok hL) (all_nil))))))))
theorem run198 : isTrue (evCall (cxX Tryz.prog bad [] [] ((8, numExtE [(0, 11, .lit 4), (0, 10, .lit 8), (0, 8, .lit 6), (0, 2, .lit 0)]) :: (31, frameFn l198) :: q1)) 1000 60 6 [.int .i64 (.var 0)] (sentH 453 20 errTab)) = true := by kernel_rfl
theorem case198 : CaseS [] [] [(0, 11, .lit 4), (0, 10, .lit 8), (0, 8, .lit 6), (0, 2, .lit 0)] [.int .i64 (.var 0)] := caseS (fun hL hk hT => FnsOk.cons (hT.ok fit) (FnsOk.cons (frame_fn_ok (l198_ok hL)) ((q1_ok hL)))) run198
noncomputable def l199 : List (Memo) := m9 :: m12 :: m7 :: m6 :: m5 :: m24 :: m26 :: m30 :: []
theorem l199_ok {σ : Nat → Int} {W0 : World} (hL : L0 W0) : ∀ x ∈ l199, MemoOk Tryz.prog 59391 σ W0 31 x := all_cons (m9_ok hL) (all_cons (m12_ok hL) (all_cons (m7_ok hL) (all_cons (m6_ok hL) (all_cons (m5_ok hL) (all_cons (m24_ok hL) (all_cons (m26_ok hL) (all_cons (m30_ok hL) (all_nil))))))))
theorem run199 : isTrue (evCall (cxX Tryz.prog bad [] [] ((8, numExtE [(0, 11, .lit 4), (0, 10, .lit 9), (0, 8, .lit 7), (0, 2, .lit 1)]) :: (31, frameFn l199) :: q1)) 1000 60 6 [.int .i64 (.var 0)] (sentH 453 20 errTab)) = true := by kernel_rfl
theorem case199 : CaseS [] [] [(0, 11, .lit 4), (0, 10, .lit 9), (0, 8, .lit 7), (0, 2, .lit 1)] [.int .i64 (.var 0)] := caseS (fun hL hk hT => FnsOk.cons (hT.ok fit) (FnsOk.cons (frame_fn_ok (l199_ok hL)) ((q1_ok hL)))) run199
noncomputable def m31 : Memo := ⟨[.ptr 34 0, .str [98, 97, 110, 107, 32, 49, 32, 50]], h2, .tuple [.snil, .iface 453 (.ptr 32 0)], h3⟩
theorem m31_run : ranTo (evCall (cxX Tryz.prog bad [] [] q0) 1000 60 31 m31.args m31.h) m31.v m31.h' = true := by kernel_rfl
theorem m31_ok {σ : Nat → Int} {W0 : World} (hL : L0 W0) : MemoOk Tryz.prog 59391 σ W0 31 m31 := memo_ok fit (Known2.nil σ) ((q0_ok hL)) m31_run
noncomputable def l200 : List (Memo) := m9 :: m8 :: m7 :: m6 :: m5 :: m4 :: m3 :: m31 :: []
theorem l200_ok {σ : Nat → Int} {W0 : World} (hL : L0 W0) : ∀ x ∈ l200, MemoOk Tryz.prog 59391 σ W0 31 x := all_cons (m9_ok hL) (all_cons (m8_ok hL) (all_cons (m7_ok hL) (all_cons (m6_ok hL) (all_cons (m5_ok hL) (all_cons (m4_ok hL) (all_cons (m3_ok hL) (all_cons (m31_ok hL) (all_nil))))))))
theorem run200 : isTrue (evCall (cxX Tryz.prog bad [] [] ((8, numExtE [(0, 11, .lit 5), (0, 10, .lit 0), (0, 8, .lit 0), (0, 2, .lit 0)]) :: (31, frameFn l200) :: q1)) 1000 60 6 [.int .i64 (.var 0)] (sentH 453 20 errTab)) = true := by kernel_rfl
theorem case200 : CaseS [] [] [(0, 11, .lit 5), (0, 10, .lit 0), (0, 8, .lit 0), (0, 2, .lit 0)] [.int .i64 (.var 0)] := caseS (fun hL hk hT => FnsOk.cons (hT.ok fit) (FnsOk.cons (frame_fn_ok (l200_ok hL)) ((q1_ok hL)))) run200
noncomputable def l201 : List (Memo) := m9 :: m12 :: m7 :: m6 :: m5 :: m11 :: m10 :: m31 :: []
theorem l201_ok {σ : Nat → Int} {W0 : World} (hL : L0 W0) : ∀ x ∈ l201, MemoOk Tryz.prog 59391 σ W0 31 x := all_cons (m9_ok hL) (all_cons (m12_ok hL) (all_cons (m7_ok hL) (all_cons (m6_ok hL) (all_cons (m5_ok hL) (all_cons (m11_ok hL) (all_cons (m10_ok hL) (all_cons (m31_ok hL) (all_nil))))))))
theorem run201 : isTrue (evCall (cxX Tryz.prog bad [] [] ((8, numExtE [(0, 11, .lit 5), (0, 10, .lit 1), (0, 8, .lit 1), (0, 2, .lit 1)]) :: (31, frameFn l201) :: q1)) 1000 60 6 [.int .i64 (.var 0)] (sentH 453 20 errTab)) = true := by kernel_rfl
theorem case201 : CaseS [] [] [(0, 11, .lit 5), (0, 10, .lit 1), (0, 8, .lit 1), (0, 2, .lit 1)] [.int .i64 (.var 0)] := caseS (fun hL hk hT => FnsOk.cons (hT.ok fit) (FnsOk.cons (frame_fn_ok (l201_ok hL)) ((q1_ok hL)))) run201
noncomputable def l202 : List (Memo) := m9 :: m8 :: m7 :: m6 :: m5 :: m14 :: m13 :: m31 :: []
theorem l202_ok {σ : Nat → Int} {W0 : World} (hL : L0 W0) : ∀ x ∈ l202, MemoOk Tryz.prog 59391 σ W0 31 x := all_cons (m9_ok hL) (all_cons (m8_ok hL) (all_cons (m7_ok hL) (all_cons (m6_ok hL) (all_cons (m5_ok hL) (all_cons (m14_ok hL) (all_cons (m13_ok hL) (all_cons (m31_ok hL) (all_nil))))))))
theorem run202 : isTrue (evCall (cxX Tryz.prog bad [] [] ((8, numExtE [(0, 11, .lit 5), (0, 10, .lit 2), (0, 8, .lit 2), (0, 2, .lit 0)]) :: (31, frameFn l202) :: q1)) 1000 60 6 [.int .i64 (.var 0)] (sentH 453 20 errTab)) = true := by kernel_rfl
theorem case202 : CaseS [] [] [(0, 11, .lit 5), (0, 10, .lit 2), (0, 8, .lit 2), (0, 2, .lit 0)] [.int .i64 (.var 0)] := caseS (fun hL hk hT => FnsOk.cons (hT.ok fit) (FnsOk.cons (frame_fn_ok (l202_ok hL)) ((q1_ok hL)))) run202
noncomputable def l203 : List (Memo) := m9 :: m12 :: m7 :: m6 :: m5 :: m16 :: m15 :: m31 :: []
theorem l203_ok {σ : Nat → Int} {W0 : World} (hL : L0 W0) : ∀ x ∈ l203, MemoOk Tryz.prog 59391 σ W0 31 x := all_cons (m9_ok hL) (all_cons (m12_ok hL) (all_cons (m7_ok hL) (all_cons (m6_ok hL) (all_cons (m5_ok hL) (all_cons (m16_ok hL) (all_cons (m15_ok hL) (all_cons (m31_ok hL) (all_nil))))))))
theorem run203 : isTrue (evCall (cxX Tryz.prog bad [] [] ((8, numExtE [(0, 11, .lit 5), (0, 10, .lit 3), (0, 8, .lit 3), (0, 2, .lit 1)]) :: (31, frameFn l203) :: q1)) 1000 60 6 [.int .i64 (.var 0)] (sentH 453 20 errTab)) = true := by kernel_rfl
theorem case203 : CaseS [] [] [(0, 11, .lit 5), (0, 10, .lit 3), (0, 8, .lit 3), (0, 2, .lit 1)] [.int .i64 (.var 0)] := caseS (fun hL hk hT => FnsOk.cons (hT.ok fit) (FnsOk.cons (frame_fn_ok (l203_ok hL)) ((q1_ok hL)))) run203
noncomputable def l204 : List (Memo) := m9 :: m8 :: m7 :: m6 :: m5 :: m18 :: m17 :: m31 :: []
theorem l204_ok {σ : Nat → Int} {W0 : World} (hL : L0 W0) : ∀ x ∈ l204, MemoOk Tryz.prog 59391 σ W0 31 x := all_cons (m9_ok hL) (all_cons (m8_ok hL) (all_cons (m7_ok hL) (all_cons (m6_ok hL) (all_cons (m5_ok hL) (all_cons (m18_ok hL) (all_cons (m17_ok hL) (all_cons (m31_ok hL) (all_nil))))))))
theorem run204 : isTrue (evCall (cxX Tryz.prog bad [] [] ((8, numExtE [(0, 11, .lit 5), (0, 10, .lit 4), (0, 8, .lit 4), (0, 2, .lit 0)]) :: (31, frameFn l204) :: q1)) 1000 60 6 [.int .i64 (.var 0)] (sentH 453 20 errTab)) = true := by kernel_rfl
theorem case204 : CaseS [] [] [(0, 11, .lit 5), (0, 10, .lit 4), (0, 8, .lit 4), (0, 2, .lit 0)] [.int .i64 (.var 0)] := caseS (fun hL hk hT => FnsOk.cons (hT.ok fit) (FnsOk.cons (frame_fn_ok (l204_ok hL)) ((q1_ok hL)))) run204
noncomputable def l205 : List (Memo) := m9 :: m12 :: m7 :: m6 :: m5 :: m20 :: m19 :: m31 :: []
theorem l205_ok {σ : Nat → Int} {W0 : World} (hL : L0 W0) : ∀ x ∈ l205, MemoOk Tryz.prog 59391 σ W0 31 x := all_cons (m9_ok hL) (all_cons (m12_ok hL) (all_cons (m7_ok hL) (all_cons (m6_ok hL) (all_cons (m5_ok hL) (all_cons (m20_ok hL) (all_cons (m19_ok hL) (all_cons (m31_ok hL) (all_nil))))))))
theorem run205 : isTrue (evCall (cxX Tryz.prog bad [] [] ((8, numExtE [(0, 11, .lit 5), (0, 10, .lit 5), (0, 8, .lit 5), (0, 2, .lit 1)]) :: (31, frameFn l205) :: q1)) 1000 60 6 [.int .i64 (.var 0)] (sentH 453 20 errTab)) = true := by kernel_rfl
theorem case205 : CaseS [] [] [(0, 11, .lit 5), (0, 10, .lit 5), (0, 8, .lit 5), (0, 2, .lit 1)] [.int .i64 (.var 0)] := caseS (fun hL hk hT => FnsOk.cons (hT.ok fit) (FnsOk.cons (frame_fn_ok (l205_ok hL)) ((q1_ok hL)))) run205
noncomputable def l206 : List (Memo) := m9 :: m8 :: m7 :: m6 :: m5 :: m22 :: m21 :: m31 :: []
theorem l206_ok {σ : Nat → Int} {W0 : World} (hL : L0 W0) : ∀ x ∈ l206, MemoOk Tryz.prog 59391 σ W0 31 x := all_cons (m9_ok hL) (all_cons (m8_ok hL) (all_cons (m7_ok hL) (all_cons (m6_ok hL) (all_cons (m5_ok hL) (all_cons (m22_ok hL) (all_cons (m21_ok hL) (all_cons (m31_ok hL) (all_nil))))))))
theorem run206 : isTrue (evCall (cxX Tryz.prog bad [] [] ((8, numExtE [(0, 11, .lit 5), (0, 10, .lit 6), (0, 8, .lit 6), (0, 2, .lit 0)]) :: (31, frameFn l206) :: q1)) 1000 60 6 [.int .i64 (.var 0)] (sentH 453 20 errTab)) = true := by kernel_rfl
theorem case206 : CaseS [] [] [(0, 11, .lit 5), (0, 10, .lit 6), (0, 8, .lit 6), (0, 2, .lit 0)] [.int .i64 (.var 0)] := caseS (fun hL hk hT => FnsOk.cons (hT.ok fit) (FnsOk.cons (frame_fn_ok (l206_ok hL)) ((q1_ok hL)))) run206
noncomputable def l207 : List (Memo) := m9 :: m12 :: m7 :: m6 :: m5 :: m24 :: m23 :: m31 :: []
theorem l207_ok {σ : Nat → Int} {W0 : World} (hL : L0 W0) : ∀ x ∈ l207, MemoOk Tryz.prog 59391 σ W0 31 x := all_cons (m9_ok hL) (all_cons (m12_ok hL) (all_cons (m7_ok hL) (all_cons (m6_ok hL) (all_cons (m5_ok hL) (all_cons (m24_ok hL) (all_cons (m23_ok hL) (all_cons (m31_ok hL) (all_nil))))))))
theorem run207 : isTrue (evCall (cxX Tryz.prog bad [] [] ((8, numExtE [(0, 11, .lit 5), (0, 10, .lit 7), (0, 8, .lit 7), (0, 2, .lit 1)]) :: (31, frameFn l207) :: q1)) 1000 60 6 [.int .i64 (.var 0)] (sentH 453 20 errTab)) = true := by kernel_rfl
theorem case207 : CaseS [] [] [(0, 11, .lit 5), (0, 10, .lit 7), (0, 8, .lit 7), (0, 2, .lit 1)] [.int .i64 (.var 0)] := caseS (fun hL hk hT => FnsOk.cons (hT.ok fit) (FnsOk.cons (frame_fn_ok (l207_ok hL)) ((q1_ok hL)))) run207
noncomputable def l208 : List (Memo) := m9 :: m8 :: m7 :: m6 :: m5 :: m4 :: m25 :: m31 :: []
theorem l208_ok {σ : Nat → Int} {W0 : World} (hL : L0 W0) : ∀ x ∈ l208, MemoOk Tryz.prog 59391 σ W0 31 x := all_cons (m9_ok hL) (all_cons (m8_ok hL) (all_cons (m7_ok hL) (all_cons (m6_ok hL) (all_cons (m5_ok hL) (all_cons (m4_ok hL) (all_cons (m25_ok hL) (all_cons (m31_ok hL) (all_nil))))))))
theorem run208 : isTrue (evCall (cxX Tryz.prog bad [] [] ((8, numExtE [(0, 11, .lit 5), (0, 10, .lit 8), (0, 8, .lit 0), (0, 2, .lit 0)]) :: (31, frameFn l208) :: q1)) 1000 60 6 [.int .i64 (.var 0)] (sentH 453 20 errTab)) = true := by kernel_rfl
theorem case208 : CaseS [] [] [(0, 11, .lit 5), (0, 10, .lit 8), (0, 8, .lit 0), (0, 2, .lit 0)] [.int .i64 (.var 0)] := caseS (fun hL hk hT => FnsOk.cons (hT.ok fit) (FnsOk.cons (frame_fn_ok (l208_ok hL)) ((q1_ok hL)))) run208
noncomputable def l209 : List (Memo) := m9 :: m12 :: m7 :: m6 :: m5 :: m11 :: m26 :: m31 :: []
theorem l209_ok {σ : Nat → Int} {W0 : World} (hL : L0 W0) : ∀ x ∈ l209, MemoOk Tryz.prog 59391 σ W0 31 x := all_cons (m9_ok hL) (all_cons (m12_ok hL) (all_cons (m7_ok hL) (all_cons (m6_ok hL) (all_cons (m5_ok hL) (all_cons (m11_ok hL) (all_cons (m26_ok hL) (all_cons (m31_ok hL) (all_nil))))))))
theorem run209 : isTrue (evCall (cxX Tryz.prog bad [] [] ((8, numExtE [(0, 11, .lit 5), (0, 10, .lit 9), (0, 8, .lit 1), (0, 2, .lit 1)]) :: (31, frameFn l209) :: q1)) 1000 60 6 [.int .i64 (.var 0)] (sentH 453 20 errTab)) = true := by kernel_rfl
theorem case209 : CaseS [] [] [(0, 11, .lit 5), (0, 10, .lit 9), (0, 8, .lit 1), (0, 2, .lit 1)] [.int .i64 (.var 0)] := caseS (fun hL hk hT => FnsOk.cons (hT.ok fit) (FnsOk.cons (frame_fn_ok (l209_ok hL)) ((q1_ok hL)))) run209
noncomputable def l210 : List (Memo) := m9 :: m8 :: m7 :: m6 :: m5 :: m14 :: m3 :: m31 :: []
theorem l210_ok {σ : Nat → Int} {W0 : World} (hL : L0 W0) : ∀ x ∈ l210, MemoOk Tryz.prog 59391 σ W0 31 x := all_cons (m9_ok hL) (all_cons (m8_ok hL) (all_cons (m7_ok hL) (all_cons (m6_ok hL) (all_cons (m5_ok hL) (all_cons (m14_ok hL) (all_cons (m3_ok hL) (all_cons (m31_ok hL) (all_nil))))))))
theorem run210 : isTrue (evCall (cxX Tryz.prog bad [] [] ((8, numExtE [(0, 11, .lit 5), (0, 10, .lit 0), (0, 8, .lit 2), (0, 2, .lit 0)]) :: (31, frameFn l210) :: q1)) 1000 60 6 [.int .i64 (.var 0)] (sentH 453 20 errTab)) = true := by kernel_rfl
theorem case210 : CaseS [] [] [(0, 11, .lit 5), (0, 10, .lit 0), (0, 8, .lit 2), (0, 2, .lit 0)] [.int .i64 (.var 0)] := caseS (fun hL hk hT => FnsOk.cons (hT.ok fit) (FnsOk.cons (frame_fn_ok (l210_ok hL)) ((q1_ok hL)))) run210
noncomputable def l211 : List (Memo) := m9 :: m12 :: m7 :: m6 :: m5 :: m16 :: m10 :: m31 :: []
theorem l211_ok {σ : Nat → Int} {W0 : World} (hL : L0 W0) : ∀ x ∈ l211, MemoOk Tryz.prog 59391 σ W0 31 x := all_cons (m9_ok hL) (all_cons (m12_ok hL) (all_cons (m7_ok hL) (all_cons (m6_ok hL) (all_cons (m5_ok hL) (all_cons (m16_ok hL) (all_cons (m10_ok hL) (all_cons (m31_ok hL) (all_nil))))))))
theorem run211 : isTrue (evCall (cxX Tryz.prog bad [] [] ((8, numExtE [(0, 11, .lit 5), (0, 10, .lit 1), (0, 8, .lit 3), (0, 2, .lit 1)]) :: (31, frameFn l211) :: q1)) 1000 60 6 [.int .i64 (.var 0)] (sentH 453 20 errTab)) = true := by kernel_rfl
theorem case211 : CaseS [] [] [(0, 11, .lit 5), (0, 10, .lit 1), (0, 8, .lit 3), (0, 2, .lit 1)] [.int .i64 (.var 0)] := caseS (fun hL hk hT => FnsOk.cons (hT.ok fit) (FnsOk.cons (frame_fn_ok (l211_ok hL)) ((q1_ok hL)))) run211
end Go.Proofs.YtkfhelmjaoepiabGreatDoor.deskErrors
