/- worldFills: calls that are run once, and the runs of the cases (part 1). -/
import Derived.Test.YtkfhelmjaoepiabGreatDoorWfK0
set_option linter.unusedVariables false
set_option maxRecDepth 10000000
namespace Go.Proofs.YtkfhelmjaoepiabGreatDoor.worldFills
open Tk
open Go.RowKit
noncomputable def h431 : H := hUpd h391 4602 [] [] [(214, 1, [I 0, I 1000])]
noncomputable def h432 : H := hUpc h398 4773 [] [] [(182, 0, [I 16, .slice 1110 0 1 1 10 false, I 17]),
  (214, 0, [IZ (-1), I 2147483629]),
  (214, 1, [I 0, I 999])] [(226, 0, 8, I 18)]
noncomputable def m250 : Memo := ⟨[.ptr 226 0, I 0], h431, .agg [I 0, I 1, I 0, U 0, I 0, U 0, IZ (-1), I 0], h432⟩
theorem m250_run : ranTo (evCall (cxX Tryz.prog bad [] [] ((44, pureFn l2) :: q0)) 1000 60 19 m250.args m250.h) m250.v m250.h' = true := by kernel_rfl
theorem m250_ok {σ : Nat → Int} {W0 : World} (hL : L0 W0) : MemoOk Tryz.prog 26623 σ W0 19 m250 := memo_ok fit (Known2.nil σ) (FnsOk.cons (pure_fn_ok (l2_ok hL)) ((q0_ok hL))) m250_run
noncomputable def l33 : List (Memo) := m250 :: m248 :: m247 :: m246 :: m245 :: m244 :: m243 :: m242 :: m241 :: m240 :: m239 :: m238 :: m237 :: m236 :: m235 :: m234 :: m233 :: m232 :: []
theorem l33_ok {σ : Nat → Int} {W0 : World} (hL : L0 W0) : ∀ x ∈ l33, MemoOk Tryz.prog 26623 σ W0 19 x := all_cons (m250_ok hL) (all_cons (m248_ok hL) (all_cons (m247_ok hL) (all_cons (m246_ok hL) (all_cons (m245_ok hL) (all_cons (m244_ok hL) (all_cons (m243_ok hL) (all_cons (m242_ok hL) (all_cons (m241_ok hL) (all_cons (m240_ok hL) (all_cons (m239_ok hL) (all_cons (m238_ok hL) (all_cons (m237_ok hL) (all_cons (m236_ok hL) (all_cons (m235_ok hL) (all_cons (m234_ok hL) (all_cons (m233_ok hL) (all_cons (m232_ok hL) (all_nil))))))))))))))))))
theorem run33 : isTrue (evCall (cxX Tryz.prog bad [] [] ((8, numExtE [(0, 20, .lit 16)]) :: (19, frameFn l33) :: q34)) 1000 60 3 [.int .i64 (.var 0), bT] (sentH 453 20 errTab)) = true := by kernel_rfl
theorem case33 : CaseS [] [] [(0, 20, .lit 16)] [.int .i64 (.var 0), bT] := caseS (fun hL hk hT => FnsOk.cons (hT.ok fit) (FnsOk.cons (frame_fn_ok (l33_ok hL)) ((q34_ok hL)))) run33
noncomputable def m251 : Memo := ⟨[bT, I 18, .snil, .slice 33 0 3 3 1 true], h5, .agg [.slice 157 0 2 2 1 false, I 18, .snil, bT], h6⟩
theorem m251_run : ranTo (evCall (cxX Tryz.prog bad [] [] ((84, frameFn [m1, m2]) :: q0)) 1000 60 9 m251.args m251.h) m251.v m251.h' = true := by kernel_rfl
theorem m251_ok {σ : Nat → Int} {W0 : World} (hL : L0 W0) : MemoOk Tryz.prog 26623 σ W0 9 m251 := memo_ok fit (Known2.nil σ) (FnsOk.cons (frame_fn_ok (all_cons (m1_ok hL) (all_cons (m2_ok hL) (all_nil)))) ((q0_ok hL))) m251_run
noncomputable def h433 : H := hUpc h394 733 [886, 161, 887] [] [(214, 1, [I 0, I 18]),
  (225, 0, [.snil])] [(186, 0, 9, I 1)]
noncomputable def m252 : Memo := ⟨[.ptr 226 0, .agg [.slice 157 0 2 2 1 false, I 18, .snil, bT]], h7, .tuple [I 0, .inil], h433⟩
theorem m252_run : ranTo (evCall (cxX Tryz.prog bad [] [] ((44, pureFn l0) :: q0)) 1000 60 88 m252.args m252.h) m252.v m252.h' = true := by kernel_rfl
theorem m252_ok {σ : Nat → Int} {W0 : World} (hL : L0 W0) : MemoOk Tryz.prog 26623 σ W0 88 m252 := memo_ok fit (Known2.nil σ) (FnsOk.cons (pure_fn_ok (l0_ok hL)) ((q0_ok hL))) m252_run
noncomputable def h434 : H := hUpd h0 170 [] [(157, .cells 1 ([[U 201326592], [U 67108864]]) false),
  (161, .cells 4 ([[.slice 157 0 2 2 1 false, I 18, .snil, bT]]) false)] []
noncomputable def h435 : H := hUpd h395 888 [] [(157, .cells 1 ([[U 201326592], [U 67108864]]) false),
  (161, .cells 4 ([[.slice 157 0 2 2 1 false, I 18, .snil, bT]]) false),
  (887, .cells 2 ([[.ptr 226 0, .snil]]) false)] [(214, 1, [I 0, I 18])]
noncomputable def m253 : Memo := ⟨[.agg [I 16, I 24, I 8, I 12, I 8, I 6, I 60, .slice 161 0 1 1 4 true]], h434, .tuple [.ptr 887 0, .inil], h435⟩
noncomputable def q35 : Fns := [(88, frameFn [m252]), (295, isFn 453), (122, atoiFullFn 384), (123, itoaFullFn), (195, joinFn), (307, countFn), (352, indexFn), (308, cutOf Tryz.prog 26623 bad [(307, countFn), (352, indexFn)] 1000 20 308)]
theorem q35_ok {σ : Nat → Int} {W0 : World} (hL : L0 W0) : FnsOk Tryz.prog 26623 σ W0 q35 := FnsOk.cons (frame_fn_ok (all_cons (m252_ok hL) (all_nil))) (FnsOk.cons (ext_is hL) (FnsOk.cons (ext_atoi hL) (FnsOk.cons (ext_itoa hL) (FnsOk.cons (ext_join hL) (FnsOk.cons (ext_count hL) (FnsOk.cons (ext_index hL) (FnsOk.cons (ext_cut308 hL) (FnsOk.nil))))))))
theorem m253_run : ranTo (evCall (cxX Tryz.prog bad [] [] ((44, pureFn l1) :: q35)) 1000 60 10 m253.args m253.h) m253.v m253.h' = true := by kernel_rfl
theorem m253_ok {σ : Nat → Int} {W0 : World} (hL : L0 W0) : MemoOk Tryz.prog 26623 σ W0 10 m253 := memo_ok fit (Known2.nil σ) (FnsOk.cons (pure_fn_ok (l1_ok hL)) ((q35_ok hL))) m253_run
noncomputable def h436 : H := hUpd h435 891 [157, 161, 887] [] []
noncomputable def h437 : H := hUpd h397 1196 [] [] [(214, 1, [I 0, I 17])]
noncomputable def m254 : Memo := ⟨[.ptr 226 0, I 0], h436, .agg [I 0, I 3, I 0, U 0, I 0, U 0, IZ (-1), I 0], h437⟩
theorem m254_run : ranTo (evCall (cxX Tryz.prog bad [] [] ((44, pureFn l2) :: q0)) 1000 60 19 m254.args m254.h) m254.v m254.h' = true := by kernel_rfl
theorem m254_ok {σ : Nat → Int} {W0 : World} (hL : L0 W0) : MemoOk Tryz.prog 26623 σ W0 19 m254 := memo_ok fit (Known2.nil σ) (FnsOk.cons (pure_fn_ok (l2_ok hL)) ((q0_ok hL))) m254_run
noncomputable def h438 : H := hUpd h437 1233 [] [] []
noncomputable def h439 : H := hUpd h399 1404 [] [] [(214, 1, [I 0, I 16])]
noncomputable def m255 : Memo := ⟨[.ptr 226 0, I 0], h438, .agg [I 0, I 1, I 0, U 0, I 0, U 0, IZ (-1), I 0], h439⟩
theorem m255_run : ranTo (evCall (cxX Tryz.prog bad [] [] ((44, pureFn l2) :: q0)) 1000 60 19 m255.args m255.h) m255.v m255.h' = true := by kernel_rfl
theorem m255_ok {σ : Nat → Int} {W0 : World} (hL : L0 W0) : MemoOk Tryz.prog 26623 σ W0 19 m255 := memo_ok fit (Known2.nil σ) (FnsOk.cons (pure_fn_ok (l2_ok hL)) ((q0_ok hL))) m255_run
noncomputable def h440 : H := hUpd h439 1441 [] [] []
noncomputable def h441 : H := hUpd h401 1612 [] [] [(214, 1, [I 0, I 15])]
noncomputable def m256 : Memo := ⟨[.ptr 226 0, I 0], h440, .agg [I 0, I 3, I 0, U 0, I 0, U 0, IZ (-1), I 0], h441⟩
theorem m256_run : ranTo (evCall (cxX Tryz.prog bad [] [] ((44, pureFn l2) :: q0)) 1000 60 19 m256.args m256.h) m256.v m256.h' = true := by kernel_rfl
theorem m256_ok {σ : Nat → Int} {W0 : World} (hL : L0 W0) : MemoOk Tryz.prog 26623 σ W0 19 m256 := memo_ok fit (Known2.nil σ) (FnsOk.cons (pure_fn_ok (l2_ok hL)) ((q0_ok hL))) m256_run
noncomputable def h442 : H := hUpd h441 1649 [] [] []
noncomputable def h443 : H := hUpd h403 1820 [] [] [(214, 1, [I 0, I 14])]
noncomputable def m257 : Memo := ⟨[.ptr 226 0, I 0], h442, .agg [I 0, I 1, I 0, U 0, I 0, U 0, IZ (-1), I 0], h443⟩
theorem m257_run : ranTo (evCall (cxX Tryz.prog bad [] [] ((44, pureFn l2) :: q0)) 1000 60 19 m257.args m257.h) m257.v m257.h' = true := by kernel_rfl
theorem m257_ok {σ : Nat → Int} {W0 : World} (hL : L0 W0) : MemoOk Tryz.prog 26623 σ W0 19 m257 := memo_ok fit (Known2.nil σ) (FnsOk.cons (pure_fn_ok (l2_ok hL)) ((q0_ok hL))) m257_run
noncomputable def h444 : H := hUpd h443 1857 [] [] []
noncomputable def h445 : H := hUpd h405 2028 [] [] [(214, 1, [I 0, I 13])]
noncomputable def m258 : Memo := ⟨[.ptr 226 0, I 0], h444, .agg [I 0, I 3, I 0, U 0, I 0, U 0, IZ (-1), I 0], h445⟩
theorem m258_run : ranTo (evCall (cxX Tryz.prog bad [] [] ((44, pureFn l2) :: q0)) 1000 60 19 m258.args m258.h) m258.v m258.h' = true := by kernel_rfl
theorem m258_ok {σ : Nat → Int} {W0 : World} (hL : L0 W0) : MemoOk Tryz.prog 26623 σ W0 19 m258 := memo_ok fit (Known2.nil σ) (FnsOk.cons (pure_fn_ok (l2_ok hL)) ((q0_ok hL))) m258_run
noncomputable def h446 : H := hUpd h445 2065 [] [] []
noncomputable def h447 : H := hUpd h407 2236 [] [] [(214, 1, [I 0, I 12])]
noncomputable def m259 : Memo := ⟨[.ptr 226 0, I 0], h446, .agg [I 0, I 1, I 0, U 0, I 0, U 0, IZ (-1), I 0], h447⟩
theorem m259_run : ranTo (evCall (cxX Tryz.prog bad [] [] ((44, pureFn l2) :: q0)) 1000 60 19 m259.args m259.h) m259.v m259.h' = true := by kernel_rfl
theorem m259_ok {σ : Nat → Int} {W0 : World} (hL : L0 W0) : MemoOk Tryz.prog 26623 σ W0 19 m259 := memo_ok fit (Known2.nil σ) (FnsOk.cons (pure_fn_ok (l2_ok hL)) ((q0_ok hL))) m259_run
noncomputable def h448 : H := hUpd h447 2273 [] [] []
noncomputable def h449 : H := hUpd h409 2444 [] [] [(214, 1, [I 0, I 11])]
noncomputable def m260 : Memo := ⟨[.ptr 226 0, I 0], h448, .agg [I 0, I 3, I 0, U 0, I 0, U 0, IZ (-1), I 0], h449⟩
theorem m260_run : ranTo (evCall (cxX Tryz.prog bad [] [] ((44, pureFn l2) :: q0)) 1000 60 19 m260.args m260.h) m260.v m260.h' = true := by kernel_rfl
theorem m260_ok {σ : Nat → Int} {W0 : World} (hL : L0 W0) : MemoOk Tryz.prog 26623 σ W0 19 m260 := memo_ok fit (Known2.nil σ) (FnsOk.cons (pure_fn_ok (l2_ok hL)) ((q0_ok hL))) m260_run
noncomputable def h450 : H := hUpd h449 2481 [] [] []
noncomputable def h451 : H := hUpd h411 2652 [] [] [(214, 1, [I 0, I 10])]
noncomputable def m261 : Memo := ⟨[.ptr 226 0, I 0], h450, .agg [I 0, I 1, I 0, U 0, I 0, U 0, IZ (-1), I 0], h451⟩
theorem m261_run : ranTo (evCall (cxX Tryz.prog bad [] [] ((44, pureFn l2) :: q0)) 1000 60 19 m261.args m261.h) m261.v m261.h' = true := by kernel_rfl
theorem m261_ok {σ : Nat → Int} {W0 : World} (hL : L0 W0) : MemoOk Tryz.prog 26623 σ W0 19 m261 := memo_ok fit (Known2.nil σ) (FnsOk.cons (pure_fn_ok (l2_ok hL)) ((q0_ok hL))) m261_run
noncomputable def h452 : H := hUpd h451 2689 [] [] []
noncomputable def h453 : H := hUpd h413 2860 [] [] [(214, 1, [I 0, I 9])]
noncomputable def m262 : Memo := ⟨[.ptr 226 0, I 0], h452, .agg [I 0, I 3, I 0, U 0, I 0, U 0, IZ (-1), I 0], h453⟩
theorem m262_run : ranTo (evCall (cxX Tryz.prog bad [] [] ((44, pureFn l2) :: q0)) 1000 60 19 m262.args m262.h) m262.v m262.h' = true := by kernel_rfl
theorem m262_ok {σ : Nat → Int} {W0 : World} (hL : L0 W0) : MemoOk Tryz.prog 26623 σ W0 19 m262 := memo_ok fit (Known2.nil σ) (FnsOk.cons (pure_fn_ok (l2_ok hL)) ((q0_ok hL))) m262_run
noncomputable def h454 : H := hUpd h453 2897 [] [] []
noncomputable def h455 : H := hUpd h415 3068 [] [] [(214, 1, [I 0, I 8])]
noncomputable def m263 : Memo := ⟨[.ptr 226 0, I 0], h454, .agg [I 0, I 1, I 0, U 0, I 0, U 0, IZ (-1), I 0], h455⟩
theorem m263_run : ranTo (evCall (cxX Tryz.prog bad [] [] ((44, pureFn l2) :: q0)) 1000 60 19 m263.args m263.h) m263.v m263.h' = true := by kernel_rfl
theorem m263_ok {σ : Nat → Int} {W0 : World} (hL : L0 W0) : MemoOk Tryz.prog 26623 σ W0 19 m263 := memo_ok fit (Known2.nil σ) (FnsOk.cons (pure_fn_ok (l2_ok hL)) ((q0_ok hL))) m263_run
noncomputable def h456 : H := hUpd h455 3105 [] [] []
noncomputable def h457 : H := hUpd h417 3276 [] [] [(214, 1, [I 0, I 7])]
noncomputable def m264 : Memo := ⟨[.ptr 226 0, I 0], h456, .agg [I 0, I 3, I 0, U 0, I 0, U 0, IZ (-1), I 0], h457⟩
theorem m264_run : ranTo (evCall (cxX Tryz.prog bad [] [] ((44, pureFn l2) :: q0)) 1000 60 19 m264.args m264.h) m264.v m264.h' = true := by kernel_rfl
theorem m264_ok {σ : Nat → Int} {W0 : World} (hL : L0 W0) : MemoOk Tryz.prog 26623 σ W0 19 m264 := memo_ok fit (Known2.nil σ) (FnsOk.cons (pure_fn_ok (l2_ok hL)) ((q0_ok hL))) m264_run
noncomputable def h458 : H := hUpd h457 3313 [] [] []
noncomputable def h459 : H := hUpd h419 3484 [] [] [(214, 1, [I 0, I 6])]
noncomputable def m265 : Memo := ⟨[.ptr 226 0, I 0], h458, .agg [I 0, I 1, I 0, U 0, I 0, U 0, IZ (-1), I 0], h459⟩
theorem m265_run : ranTo (evCall (cxX Tryz.prog bad [] [] ((44, pureFn l2) :: q0)) 1000 60 19 m265.args m265.h) m265.v m265.h' = true := by kernel_rfl
theorem m265_ok {σ : Nat → Int} {W0 : World} (hL : L0 W0) : MemoOk Tryz.prog 26623 σ W0 19 m265 := memo_ok fit (Known2.nil σ) (FnsOk.cons (pure_fn_ok (l2_ok hL)) ((q0_ok hL))) m265_run
noncomputable def h460 : H := hUpd h459 3521 [] [] []
noncomputable def h461 : H := hUpd h421 3692 [] [] [(214, 1, [I 0, I 5])]
noncomputable def m266 : Memo := ⟨[.ptr 226 0, I 0], h460, .agg [I 0, I 3, I 0, U 0, I 0, U 0, IZ (-1), I 0], h461⟩
theorem m266_run : ranTo (evCall (cxX Tryz.prog bad [] [] ((44, pureFn l2) :: q0)) 1000 60 19 m266.args m266.h) m266.v m266.h' = true := by kernel_rfl
theorem m266_ok {σ : Nat → Int} {W0 : World} (hL : L0 W0) : MemoOk Tryz.prog 26623 σ W0 19 m266 := memo_ok fit (Known2.nil σ) (FnsOk.cons (pure_fn_ok (l2_ok hL)) ((q0_ok hL))) m266_run
noncomputable def h462 : H := hUpd h461 3729 [] [] []
noncomputable def h463 : H := hUpd h423 3900 [] [] [(214, 1, [I 0, I 4])]
noncomputable def m267 : Memo := ⟨[.ptr 226 0, I 0], h462, .agg [I 0, I 1, I 0, U 0, I 0, U 0, IZ (-1), I 0], h463⟩
theorem m267_run : ranTo (evCall (cxX Tryz.prog bad [] [] ((44, pureFn l2) :: q0)) 1000 60 19 m267.args m267.h) m267.v m267.h' = true := by kernel_rfl
theorem m267_ok {σ : Nat → Int} {W0 : World} (hL : L0 W0) : MemoOk Tryz.prog 26623 σ W0 19 m267 := memo_ok fit (Known2.nil σ) (FnsOk.cons (pure_fn_ok (l2_ok hL)) ((q0_ok hL))) m267_run
noncomputable def h464 : H := hUpd h463 3937 [] [] []
noncomputable def h465 : H := hUpd h425 4108 [] [] [(214, 1, [I 0, I 3])]
noncomputable def m268 : Memo := ⟨[.ptr 226 0, I 0], h464, .agg [I 0, I 3, I 0, U 0, I 0, U 0, IZ (-1), I 0], h465⟩
theorem m268_run : ranTo (evCall (cxX Tryz.prog bad [] [] ((44, pureFn l2) :: q0)) 1000 60 19 m268.args m268.h) m268.v m268.h' = true := by kernel_rfl
theorem m268_ok {σ : Nat → Int} {W0 : World} (hL : L0 W0) : MemoOk Tryz.prog 26623 σ W0 19 m268 := memo_ok fit (Known2.nil σ) (FnsOk.cons (pure_fn_ok (l2_ok hL)) ((q0_ok hL))) m268_run
noncomputable def h466 : H := hUpd h465 4145 [] [] []
noncomputable def h467 : H := hUpd h427 4316 [] [] [(214, 1, [I 0, I 2])]
noncomputable def m269 : Memo := ⟨[.ptr 226 0, I 0], h466, .agg [I 0, I 1, I 0, U 0, I 0, U 0, IZ (-1), I 0], h467⟩
theorem m269_run : ranTo (evCall (cxX Tryz.prog bad [] [] ((44, pureFn l2) :: q0)) 1000 60 19 m269.args m269.h) m269.v m269.h' = true := by kernel_rfl
theorem m269_ok {σ : Nat → Int} {W0 : World} (hL : L0 W0) : MemoOk Tryz.prog 26623 σ W0 19 m269 := memo_ok fit (Known2.nil σ) (FnsOk.cons (pure_fn_ok (l2_ok hL)) ((q0_ok hL))) m269_run
noncomputable def h468 : H := hUpd h467 4353 [] [] []
noncomputable def h469 : H := hUpd h429 4524 [] [] [(214, 1, [I 0, I 1])]
noncomputable def m270 : Memo := ⟨[.ptr 226 0, I 0], h468, .agg [I 0, I 3, I 0, U 0, I 0, U 0, IZ (-1), I 0], h469⟩
theorem m270_run : ranTo (evCall (cxX Tryz.prog bad [] [] ((44, pureFn l2) :: q0)) 1000 60 19 m270.args m270.h) m270.v m270.h' = true := by kernel_rfl
theorem m270_ok {σ : Nat → Int} {W0 : World} (hL : L0 W0) : MemoOk Tryz.prog 26623 σ W0 19 m270 := memo_ok fit (Known2.nil σ) (FnsOk.cons (pure_fn_ok (l2_ok hL)) ((q0_ok hL))) m270_run
noncomputable def h470 : H := hUpd h469 4561 [] [] []
noncomputable def h471 : H := hUpd h432 4732 [] [] [(214, 1, [I 0, I 0])]
noncomputable def m271 : Memo := ⟨[.ptr 226 0, I 0], h470, .agg [I 0, I 1, I 0, U 0, I 0, U 0, IZ (-1), I 0], h471⟩
theorem m271_run : ranTo (evCall (cxX Tryz.prog bad [] [] ((44, pureFn l2) :: q0)) 1000 60 19 m271.args m271.h) m271.v m271.h' = true := by kernel_rfl
theorem m271_ok {σ : Nat → Int} {W0 : World} (hL : L0 W0) : MemoOk Tryz.prog 26623 σ W0 19 m271 := memo_ok fit (Known2.nil σ) (FnsOk.cons (pure_fn_ok (l2_ok hL)) ((q0_ok hL))) m271_run
noncomputable def h472 : H := hUpd h471 4769 [] [] []
noncomputable def h473 : H := hUpc h471 4889 [] [] [(225, 0, [.slice 886 0 0 1 1 false])] [(186, 0, 9, I 4), (186, 0, 10, I 6), (226, 0, 8, I 19)]
noncomputable def m272 : Memo := ⟨[.ptr 226 0, I 0], h472, .agg [I 0, I 5, I 0, U 0, I 0, U 0, IZ (-1), I 6], h473⟩
theorem m272_run : ranTo (evCall (cxX Tryz.prog bad [] [] ((44, pureFn l3) :: q0)) 1000 60 19 m272.args m272.h) m272.v m272.h' = true := by kernel_rfl
theorem m272_ok {σ : Nat → Int} {W0 : World} (hL : L0 W0) : MemoOk Tryz.prog 26623 σ W0 19 m272 := memo_ok fit (Known2.nil σ) (FnsOk.cons (pure_fn_ok (l3_ok hL)) ((q0_ok hL))) m272_run
noncomputable def l34 : List (Memo) := m272 :: m271 :: m270 :: m269 :: m268 :: m267 :: m266 :: m265 :: m264 :: m263 :: m262 :: m261 :: m260 :: m259 :: m258 :: m257 :: m256 :: m255 :: m254 :: []
theorem l34_ok {σ : Nat → Int} {W0 : World} (hL : L0 W0) : ∀ x ∈ l34, MemoOk Tryz.prog 26623 σ W0 19 x := all_cons (m272_ok hL) (all_cons (m271_ok hL) (all_cons (m270_ok hL) (all_cons (m269_ok hL) (all_cons (m268_ok hL) (all_cons (m267_ok hL) (all_cons (m266_ok hL) (all_cons (m265_ok hL) (all_cons (m264_ok hL) (all_cons (m263_ok hL) (all_cons (m262_ok hL) (all_cons (m261_ok hL) (all_cons (m260_ok hL) (all_cons (m259_ok hL) (all_cons (m258_ok hL) (all_cons (m257_ok hL) (all_cons (m256_ok hL) (all_cons (m255_ok hL) (all_cons (m254_ok hL) (all_nil)))))))))))))))))))
noncomputable def q36 : Fns := [(7, pureFn [p0]), (9, frameFn [m251]), (10, frameFn [m253]), (295, isFn 453), (122, atoiFullFn 384), (123, itoaFullFn), (195, joinFn), (307, countFn), (352, indexFn), (308, cutOf Tryz.prog 26623 bad [(307, countFn), (352, indexFn)] 1000 20 308)]
theorem q36_ok {σ : Nat → Int} {W0 : World} (hL : L0 W0) : FnsOk Tryz.prog 26623 σ W0 q36 := FnsOk.cons (pure_fn_ok (all_cons (p0_ok hL) (all_nil))) (FnsOk.cons (frame_fn_ok (all_cons (m251_ok hL) (all_nil))) (FnsOk.cons (frame_fn_ok (all_cons (m253_ok hL) (all_nil))) (FnsOk.cons (ext_is hL) (FnsOk.cons (ext_atoi hL) (FnsOk.cons (ext_itoa hL) (FnsOk.cons (ext_join hL) (FnsOk.cons (ext_count hL) (FnsOk.cons (ext_index hL) (FnsOk.cons (ext_cut308 hL) (FnsOk.nil))))))))))
theorem run34 : isTrue (evCall (cxX Tryz.prog bad [] [] ((8, numExtE [(0, 20, .lit 17)]) :: (19, frameFn l34) :: q36)) 1000 60 3 [.int .i64 (.var 0), bF] (sentH 453 20 errTab)) = true := by kernel_rfl
theorem case34 : CaseS [] [] [(0, 20, .lit 17)] [.int .i64 (.var 0), bF] := caseS (fun hL hk hT => FnsOk.cons (hT.ok fit) (FnsOk.cons (frame_fn_ok (l34_ok hL)) ((q36_ok hL)))) run34
noncomputable def h474 : H := hUpd h471 4810 [] [] [(214, 1, [I 0, I 1000])]
noncomputable def h475 : H := hUpc h437 4981 [] [] [(182, 0, [I 16, .slice 1110 0 1 1 10 false, I 18]),
  (214, 0, [IZ (-1), I 2147483628]),
  (214, 1, [I 0, I 999])] [(226, 0, 8, I 19)]
noncomputable def m273 : Memo := ⟨[.ptr 226 0, I 0], h474, .agg [I 0, I 3, I 0, U 0, I 0, U 0, IZ (-1), I 0], h475⟩
theorem m273_run : ranTo (evCall (cxX Tryz.prog bad [] [] ((44, pureFn l2) :: q0)) 1000 60 19 m273.args m273.h) m273.v m273.h' = true := by kernel_rfl
theorem m273_ok {σ : Nat → Int} {W0 : World} (hL : L0 W0) : MemoOk Tryz.prog 26623 σ W0 19 m273 := memo_ok fit (Known2.nil σ) (FnsOk.cons (pure_fn_ok (l2_ok hL)) ((q0_ok hL))) m273_run
noncomputable def l35 : List (Memo) := m273 :: m271 :: m270 :: m269 :: m268 :: m267 :: m266 :: m265 :: m264 :: m263 :: m262 :: m261 :: m260 :: m259 :: m258 :: m257 :: m256 :: m255 :: m254 :: []
theorem l35_ok {σ : Nat → Int} {W0 : World} (hL : L0 W0) : ∀ x ∈ l35, MemoOk Tryz.prog 26623 σ W0 19 x := all_cons (m273_ok hL) (all_cons (m271_ok hL) (all_cons (m270_ok hL) (all_cons (m269_ok hL) (all_cons (m268_ok hL) (all_cons (m267_ok hL) (all_cons (m266_ok hL) (all_cons (m265_ok hL) (all_cons (m264_ok hL) (all_cons (m263_ok hL) (all_cons (m262_ok hL) (all_cons (m261_ok hL) (all_cons (m260_ok hL) (all_cons (m259_ok hL) (all_cons (m258_ok hL) (all_cons (m257_ok hL) (all_cons (m256_ok hL) (all_cons (m255_ok hL) (all_cons (m254_ok hL) (all_nil)))))))))))))))))))
theorem run35 : isTrue (evCall (cxX Tryz.prog bad [] [] ((8, numExtE [(0, 20, .lit 17)]) :: (19, frameFn l35) :: q36)) 1000 60 3 [.int .i64 (.var 0), bT] (sentH 453 20 errTab)) = true := by kernel_rfl
theorem case35 : CaseS [] [] [(0, 20, .lit 17)] [.int .i64 (.var 0), bT] := caseS (fun hL hk hT => FnsOk.cons (hT.ok fit) (FnsOk.cons (frame_fn_ok (l35_ok hL)) ((q36_ok hL)))) run35
noncomputable def m274 : Memo := ⟨[bT, I 19, .snil, .slice 33 0 3 3 1 true], h5, .agg [.slice 157 0 2 2 1 false, I 19, .snil, bT], h6⟩
theorem m274_run : ranTo (evCall (cxX Tryz.prog bad [] [] ((84, frameFn [m1, m2]) :: q0)) 1000 60 9 m274.args m274.h) m274.v m274.h' = true := by kernel_rfl
theorem m274_ok {σ : Nat → Int} {W0 : World} (hL : L0 W0) : MemoOk Tryz.prog 26623 σ W0 9 m274 := memo_ok fit (Known2.nil σ) (FnsOk.cons (frame_fn_ok (all_cons (m1_ok hL) (all_cons (m2_ok hL) (all_nil)))) ((q0_ok hL))) m274_run
noncomputable def h476 : H := hUpc h436 733 [886] [(157, .cells 1 ([[U 201326592], [U 67108864]]) false)] [(214, 1, [I 0, I 19]),
  (225, 0, [.snil])] [(186, 0, 9, I 1)]
noncomputable def m275 : Memo := ⟨[.ptr 226 0, .agg [.slice 157 0 2 2 1 false, I 19, .snil, bT]], h7, .tuple [I 0, .inil], h476⟩
theorem m275_run : ranTo (evCall (cxX Tryz.prog bad [] [] ((44, pureFn l0) :: q0)) 1000 60 88 m275.args m275.h) m275.v m275.h' = true := by kernel_rfl
theorem m275_ok {σ : Nat → Int} {W0 : World} (hL : L0 W0) : MemoOk Tryz.prog 26623 σ W0 88 m275 := memo_ok fit (Known2.nil σ) (FnsOk.cons (pure_fn_ok (l0_ok hL)) ((q0_ok hL))) m275_run
noncomputable def h477 : H := hUpd h0 170 [] [(157, .cells 1 ([[U 201326592], [U 67108864]]) false),
  (161, .cells 4 ([[.slice 157 0 2 2 1 false, I 19, .snil, bT]]) false)] []
noncomputable def h478 : H := hUpc h476 888 [] [(886, .cells 1 ([[I 0]]) false),
  (161, .cells 4 ([[.slice 157 0 2 2 1 false, I 19, .snil, bT]]) false),
  (887, .cells 2 ([[.ptr 226 0, .snil]]) false)] [(225, 0, [.slice 886 0 1 1 1 false])] [(186, 0, 9, I 3)]
noncomputable def m276 : Memo := ⟨[.agg [I 16, I 24, I 8, I 12, I 8, I 6, I 60, .slice 161 0 1 1 4 true]], h477, .tuple [.ptr 887 0, .inil], h478⟩
noncomputable def q37 : Fns := [(88, frameFn [m275]), (295, isFn 453), (122, atoiFullFn 384), (123, itoaFullFn), (195, joinFn), (307, countFn), (352, indexFn), (308, cutOf Tryz.prog 26623 bad [(307, countFn), (352, indexFn)] 1000 20 308)]
theorem q37_ok {σ : Nat → Int} {W0 : World} (hL : L0 W0) : FnsOk Tryz.prog 26623 σ W0 q37 := FnsOk.cons (frame_fn_ok (all_cons (m275_ok hL) (all_nil))) (FnsOk.cons (ext_is hL) (FnsOk.cons (ext_atoi hL) (FnsOk.cons (ext_itoa hL) (FnsOk.cons (ext_join hL) (FnsOk.cons (ext_count hL) (FnsOk.cons (ext_index hL) (FnsOk.cons (ext_cut308 hL) (FnsOk.nil))))))))
theorem m276_run : ranTo (evCall (cxX Tryz.prog bad [] [] ((44, pureFn l1) :: q37)) 1000 60 10 m276.args m276.h) m276.v m276.h' = true := by kernel_rfl
theorem m276_ok {σ : Nat → Int} {W0 : World} (hL : L0 W0) : MemoOk Tryz.prog 26623 σ W0 10 m276 := memo_ok fit (Known2.nil σ) (FnsOk.cons (pure_fn_ok (l1_ok hL)) ((q37_ok hL))) m276_run
noncomputable def h479 : H := hUpd h478 891 [157, 161, 887] [] []
noncomputable def h480 : H := hUpc h441 1196 [] [] [(182, 0, [I 16, .slice 1110 0 1 1 10 false, I 0]),
  (214, 0, [IZ (-1), I 2147483646]),
  (214, 1, [I 0, I 18])] [(226, 0, 8, I 1)]
noncomputable def m277 : Memo := ⟨[.ptr 226 0, I 0], h479, .agg [I 0, I 3, I 0, U 0, I 0, U 0, IZ (-1), I 0], h480⟩
theorem m277_run : ranTo (evCall (cxX Tryz.prog bad [] [] ((44, pureFn l2) :: q0)) 1000 60 19 m277.args m277.h) m277.v m277.h' = true := by kernel_rfl
theorem m277_ok {σ : Nat → Int} {W0 : World} (hL : L0 W0) : MemoOk Tryz.prog 26623 σ W0 19 m277 := memo_ok fit (Known2.nil σ) (FnsOk.cons (pure_fn_ok (l2_ok hL)) ((q0_ok hL))) m277_run
noncomputable def h481 : H := hUpd h480 1233 [] [] []
noncomputable def h482 : H := hUpc h443 1404 [] [] [(182, 0, [I 16, .slice 1110 0 1 1 10 false, I 1]),
  (214, 0, [IZ (-1), I 2147483645]),
  (214, 1, [I 0, I 17])] [(226, 0, 8, I 2)]
noncomputable def m278 : Memo := ⟨[.ptr 226 0, I 0], h481, .agg [I 0, I 1, I 0, U 0, I 0, U 0, IZ (-1), I 0], h482⟩
theorem m278_run : ranTo (evCall (cxX Tryz.prog bad [] [] ((44, pureFn l2) :: q0)) 1000 60 19 m278.args m278.h) m278.v m278.h' = true := by kernel_rfl
theorem m278_ok {σ : Nat → Int} {W0 : World} (hL : L0 W0) : MemoOk Tryz.prog 26623 σ W0 19 m278 := memo_ok fit (Known2.nil σ) (FnsOk.cons (pure_fn_ok (l2_ok hL)) ((q0_ok hL))) m278_run
noncomputable def h483 : H := hUpd h482 1441 [] [] []
noncomputable def h484 : H := hUpc h445 1612 [] [] [(182, 0, [I 16, .slice 1110 0 1 1 10 false, I 2]),
  (214, 0, [IZ (-1), I 2147483644]),
  (214, 1, [I 0, I 16])] [(226, 0, 8, I 3)]
noncomputable def m279 : Memo := ⟨[.ptr 226 0, I 0], h483, .agg [I 0, I 3, I 0, U 0, I 0, U 0, IZ (-1), I 0], h484⟩
theorem m279_run : ranTo (evCall (cxX Tryz.prog bad [] [] ((44, pureFn l2) :: q0)) 1000 60 19 m279.args m279.h) m279.v m279.h' = true := by kernel_rfl
theorem m279_ok {σ : Nat → Int} {W0 : World} (hL : L0 W0) : MemoOk Tryz.prog 26623 σ W0 19 m279 := memo_ok fit (Known2.nil σ) (FnsOk.cons (pure_fn_ok (l2_ok hL)) ((q0_ok hL))) m279_run
noncomputable def h485 : H := hUpd h484 1649 [] [] []
noncomputable def h486 : H := hUpc h447 1820 [] [] [(182, 0, [I 16, .slice 1110 0 1 1 10 false, I 3]),
  (214, 0, [IZ (-1), I 2147483643]),
  (214, 1, [I 0, I 15])] [(226, 0, 8, I 4)]
noncomputable def m280 : Memo := ⟨[.ptr 226 0, I 0], h485, .agg [I 0, I 1, I 0, U 0, I 0, U 0, IZ (-1), I 0], h486⟩
theorem m280_run : ranTo (evCall (cxX Tryz.prog bad [] [] ((44, pureFn l2) :: q0)) 1000 60 19 m280.args m280.h) m280.v m280.h' = true := by kernel_rfl
theorem m280_ok {σ : Nat → Int} {W0 : World} (hL : L0 W0) : MemoOk Tryz.prog 26623 σ W0 19 m280 := memo_ok fit (Known2.nil σ) (FnsOk.cons (pure_fn_ok (l2_ok hL)) ((q0_ok hL))) m280_run
noncomputable def h487 : H := hUpd h486 1857 [] [] []
noncomputable def h488 : H := hUpc h449 2028 [] [] [(182, 0, [I 16, .slice 1110 0 1 1 10 false, I 4]),
  (214, 0, [IZ (-1), I 2147483642]),
  (214, 1, [I 0, I 14])] [(226, 0, 8, I 5)]
noncomputable def m281 : Memo := ⟨[.ptr 226 0, I 0], h487, .agg [I 0, I 3, I 0, U 0, I 0, U 0, IZ (-1), I 0], h488⟩
theorem m281_run : ranTo (evCall (cxX Tryz.prog bad [] [] ((44, pureFn l2) :: q0)) 1000 60 19 m281.args m281.h) m281.v m281.h' = true := by kernel_rfl
theorem m281_ok {σ : Nat → Int} {W0 : World} (hL : L0 W0) : MemoOk Tryz.prog 26623 σ W0 19 m281 := memo_ok fit (Known2.nil σ) (FnsOk.cons (pure_fn_ok (l2_ok hL)) ((q0_ok hL))) m281_run
noncomputable def h489 : H := hUpd h488 2065 [] [] []
noncomputable def h490 : H := hUpc h451 2236 [] [] [(182, 0, [I 16, .slice 1110 0 1 1 10 false, I 5]),
  (214, 0, [IZ (-1), I 2147483641]),
  (214, 1, [I 0, I 13])] [(226, 0, 8, I 6)]
noncomputable def m282 : Memo := ⟨[.ptr 226 0, I 0], h489, .agg [I 0, I 1, I 0, U 0, I 0, U 0, IZ (-1), I 0], h490⟩
theorem m282_run : ranTo (evCall (cxX Tryz.prog bad [] [] ((44, pureFn l2) :: q0)) 1000 60 19 m282.args m282.h) m282.v m282.h' = true := by kernel_rfl
theorem m282_ok {σ : Nat → Int} {W0 : World} (hL : L0 W0) : MemoOk Tryz.prog 26623 σ W0 19 m282 := memo_ok fit (Known2.nil σ) (FnsOk.cons (pure_fn_ok (l2_ok hL)) ((q0_ok hL))) m282_run
noncomputable def h491 : H := hUpd h490 2273 [] [] []
noncomputable def h492 : H := hUpc h453 2444 [] [] [(182, 0, [I 16, .slice 1110 0 1 1 10 false, I 6]),
  (214, 0, [IZ (-1), I 2147483640]),
  (214, 1, [I 0, I 12])] [(226, 0, 8, I 7)]
noncomputable def m283 : Memo := ⟨[.ptr 226 0, I 0], h491, .agg [I 0, I 3, I 0, U 0, I 0, U 0, IZ (-1), I 0], h492⟩
theorem m283_run : ranTo (evCall (cxX Tryz.prog bad [] [] ((44, pureFn l2) :: q0)) 1000 60 19 m283.args m283.h) m283.v m283.h' = true := by kernel_rfl
theorem m283_ok {σ : Nat → Int} {W0 : World} (hL : L0 W0) : MemoOk Tryz.prog 26623 σ W0 19 m283 := memo_ok fit (Known2.nil σ) (FnsOk.cons (pure_fn_ok (l2_ok hL)) ((q0_ok hL))) m283_run
noncomputable def h493 : H := hUpd h492 2481 [] [] []
noncomputable def h494 : H := hUpc h455 2652 [] [] [(182, 0, [I 16, .slice 1110 0 1 1 10 false, I 7]),
  (214, 0, [IZ (-1), I 2147483639]),
  (214, 1, [I 0, I 11])] [(226, 0, 8, I 8)]
noncomputable def m284 : Memo := ⟨[.ptr 226 0, I 0], h493, .agg [I 0, I 1, I 0, U 0, I 0, U 0, IZ (-1), I 0], h494⟩
theorem m284_run : ranTo (evCall (cxX Tryz.prog bad [] [] ((44, pureFn l2) :: q0)) 1000 60 19 m284.args m284.h) m284.v m284.h' = true := by kernel_rfl
theorem m284_ok {σ : Nat → Int} {W0 : World} (hL : L0 W0) : MemoOk Tryz.prog 26623 σ W0 19 m284 := memo_ok fit (Known2.nil σ) (FnsOk.cons (pure_fn_ok (l2_ok hL)) ((q0_ok hL))) m284_run
noncomputable def h495 : H := hUpd h494 2689 [] [] []
noncomputable def h496 : H := hUpc h457 2860 [] [] [(182, 0, [I 16, .slice 1110 0 1 1 10 false, I 8]),
  (214, 0, [IZ (-1), I 2147483638]),
  (214, 1, [I 0, I 10])] [(226, 0, 8, I 9)]
noncomputable def m285 : Memo := ⟨[.ptr 226 0, I 0], h495, .agg [I 0, I 3, I 0, U 0, I 0, U 0, IZ (-1), I 0], h496⟩
theorem m285_run : ranTo (evCall (cxX Tryz.prog bad [] [] ((44, pureFn l2) :: q0)) 1000 60 19 m285.args m285.h) m285.v m285.h' = true := by kernel_rfl
theorem m285_ok {σ : Nat → Int} {W0 : World} (hL : L0 W0) : MemoOk Tryz.prog 26623 σ W0 19 m285 := memo_ok fit (Known2.nil σ) (FnsOk.cons (pure_fn_ok (l2_ok hL)) ((q0_ok hL))) m285_run
noncomputable def h497 : H := hUpd h496 2897 [] [] []
noncomputable def h498 : H := hUpc h459 3068 [] [] [(182, 0, [I 16, .slice 1110 0 1 1 10 false, I 9]),
  (214, 0, [IZ (-1), I 2147483637]),
  (214, 1, [I 0, I 9])] [(226, 0, 8, I 10)]
noncomputable def m286 : Memo := ⟨[.ptr 226 0, I 0], h497, .agg [I 0, I 1, I 0, U 0, I 0, U 0, IZ (-1), I 0], h498⟩
theorem m286_run : ranTo (evCall (cxX Tryz.prog bad [] [] ((44, pureFn l2) :: q0)) 1000 60 19 m286.args m286.h) m286.v m286.h' = true := by kernel_rfl
theorem m286_ok {σ : Nat → Int} {W0 : World} (hL : L0 W0) : MemoOk Tryz.prog 26623 σ W0 19 m286 := memo_ok fit (Known2.nil σ) (FnsOk.cons (pure_fn_ok (l2_ok hL)) ((q0_ok hL))) m286_run
noncomputable def h499 : H := hUpd h498 3105 [] [] []
noncomputable def h500 : H := hUpc h461 3276 [] [] [(182, 0, [I 16, .slice 1110 0 1 1 10 false, I 10]),
  (214, 0, [IZ (-1), I 2147483636]),
  (214, 1, [I 0, I 8])] [(226, 0, 8, I 11)]
noncomputable def m287 : Memo := ⟨[.ptr 226 0, I 0], h499, .agg [I 0, I 3, I 0, U 0, I 0, U 0, IZ (-1), I 0], h500⟩
theorem m287_run : ranTo (evCall (cxX Tryz.prog bad [] [] ((44, pureFn l2) :: q0)) 1000 60 19 m287.args m287.h) m287.v m287.h' = true := by kernel_rfl
theorem m287_ok {σ : Nat → Int} {W0 : World} (hL : L0 W0) : MemoOk Tryz.prog 26623 σ W0 19 m287 := memo_ok fit (Known2.nil σ) (FnsOk.cons (pure_fn_ok (l2_ok hL)) ((q0_ok hL))) m287_run
noncomputable def h501 : H := hUpd h500 3313 [] [] []
noncomputable def h502 : H := hUpc h463 3484 [] [] [(182, 0, [I 16, .slice 1110 0 1 1 10 false, I 11]),
  (214, 0, [IZ (-1), I 2147483635]),
  (214, 1, [I 0, I 7])] [(226, 0, 8, I 12)]
noncomputable def m288 : Memo := ⟨[.ptr 226 0, I 0], h501, .agg [I 0, I 1, I 0, U 0, I 0, U 0, IZ (-1), I 0], h502⟩
theorem m288_run : ranTo (evCall (cxX Tryz.prog bad [] [] ((44, pureFn l2) :: q0)) 1000 60 19 m288.args m288.h) m288.v m288.h' = true := by kernel_rfl
theorem m288_ok {σ : Nat → Int} {W0 : World} (hL : L0 W0) : MemoOk Tryz.prog 26623 σ W0 19 m288 := memo_ok fit (Known2.nil σ) (FnsOk.cons (pure_fn_ok (l2_ok hL)) ((q0_ok hL))) m288_run
noncomputable def h503 : H := hUpd h502 3521 [] [] []
noncomputable def h504 : H := hUpc h465 3692 [] [] [(182, 0, [I 16, .slice 1110 0 1 1 10 false, I 12]),
  (214, 0, [IZ (-1), I 2147483634]),
  (214, 1, [I 0, I 6])] [(226, 0, 8, I 13)]
noncomputable def m289 : Memo := ⟨[.ptr 226 0, I 0], h503, .agg [I 0, I 3, I 0, U 0, I 0, U 0, IZ (-1), I 0], h504⟩
theorem m289_run : ranTo (evCall (cxX Tryz.prog bad [] [] ((44, pureFn l2) :: q0)) 1000 60 19 m289.args m289.h) m289.v m289.h' = true := by kernel_rfl
theorem m289_ok {σ : Nat → Int} {W0 : World} (hL : L0 W0) : MemoOk Tryz.prog 26623 σ W0 19 m289 := memo_ok fit (Known2.nil σ) (FnsOk.cons (pure_fn_ok (l2_ok hL)) ((q0_ok hL))) m289_run
noncomputable def h505 : H := hUpd h504 3729 [] [] []
noncomputable def h506 : H := hUpc h467 3900 [] [] [(182, 0, [I 16, .slice 1110 0 1 1 10 false, I 13]),
  (214, 0, [IZ (-1), I 2147483633]),
  (214, 1, [I 0, I 5])] [(226, 0, 8, I 14)]
noncomputable def m290 : Memo := ⟨[.ptr 226 0, I 0], h505, .agg [I 0, I 1, I 0, U 0, I 0, U 0, IZ (-1), I 0], h506⟩
theorem m290_run : ranTo (evCall (cxX Tryz.prog bad [] [] ((44, pureFn l2) :: q0)) 1000 60 19 m290.args m290.h) m290.v m290.h' = true := by kernel_rfl
theorem m290_ok {σ : Nat → Int} {W0 : World} (hL : L0 W0) : MemoOk Tryz.prog 26623 σ W0 19 m290 := memo_ok fit (Known2.nil σ) (FnsOk.cons (pure_fn_ok (l2_ok hL)) ((q0_ok hL))) m290_run
noncomputable def h507 : H := hUpd h506 3937 [] [] []
noncomputable def h508 : H := hUpc h469 4108 [] [] [(182, 0, [I 16, .slice 1110 0 1 1 10 false, I 14]),
  (214, 0, [IZ (-1), I 2147483632]),
  (214, 1, [I 0, I 4])] [(226, 0, 8, I 15)]
noncomputable def m291 : Memo := ⟨[.ptr 226 0, I 0], h507, .agg [I 0, I 3, I 0, U 0, I 0, U 0, IZ (-1), I 0], h508⟩
theorem m291_run : ranTo (evCall (cxX Tryz.prog bad [] [] ((44, pureFn l2) :: q0)) 1000 60 19 m291.args m291.h) m291.v m291.h' = true := by kernel_rfl
theorem m291_ok {σ : Nat → Int} {W0 : World} (hL : L0 W0) : MemoOk Tryz.prog 26623 σ W0 19 m291 := memo_ok fit (Known2.nil σ) (FnsOk.cons (pure_fn_ok (l2_ok hL)) ((q0_ok hL))) m291_run
noncomputable def h509 : H := hUpd h508 4145 [] [] []
noncomputable def h510 : H := hUpc h471 4316 [] [] [(182, 0, [I 16, .slice 1110 0 1 1 10 false, I 15]),
  (214, 0, [IZ (-1), I 2147483631]),
  (214, 1, [I 0, I 3])] [(226, 0, 8, I 16)]
noncomputable def m292 : Memo := ⟨[.ptr 226 0, I 0], h509, .agg [I 0, I 1, I 0, U 0, I 0, U 0, IZ (-1), I 0], h510⟩
theorem m292_run : ranTo (evCall (cxX Tryz.prog bad [] [] ((44, pureFn l2) :: q0)) 1000 60 19 m292.args m292.h) m292.v m292.h' = true := by kernel_rfl
theorem m292_ok {σ : Nat → Int} {W0 : World} (hL : L0 W0) : MemoOk Tryz.prog 26623 σ W0 19 m292 := memo_ok fit (Known2.nil σ) (FnsOk.cons (pure_fn_ok (l2_ok hL)) ((q0_ok hL))) m292_run
noncomputable def h511 : H := hUpd h510 4353 [] [] []
noncomputable def h512 : H := hUpc h475 4524 [] [] [(182, 0, [I 16, .slice 1110 0 1 1 10 false, I 16]),
  (214, 0, [IZ (-1), I 2147483630]),
  (214, 1, [I 0, I 2])] [(226, 0, 8, I 17)]
noncomputable def m293 : Memo := ⟨[.ptr 226 0, I 0], h511, .agg [I 0, I 3, I 0, U 0, I 0, U 0, IZ (-1), I 0], h512⟩
theorem m293_run : ranTo (evCall (cxX Tryz.prog bad [] [] ((44, pureFn l2) :: q0)) 1000 60 19 m293.args m293.h) m293.v m293.h' = true := by kernel_rfl
theorem m293_ok {σ : Nat → Int} {W0 : World} (hL : L0 W0) : MemoOk Tryz.prog 26623 σ W0 19 m293 := memo_ok fit (Known2.nil σ) (FnsOk.cons (pure_fn_ok (l2_ok hL)) ((q0_ok hL))) m293_run
noncomputable def h513 : H := hUpd h512 4561 [] [] []
noncomputable def h514 : H := hUpd h474 4732 [] [] [(214, 1, [I 0, I 1])]
noncomputable def m294 : Memo := ⟨[.ptr 226 0, I 0], h513, .agg [I 0, I 1, I 0, U 0, I 0, U 0, IZ (-1), I 0], h514⟩
theorem m294_run : ranTo (evCall (cxX Tryz.prog bad [] [] ((44, pureFn l2) :: q0)) 1000 60 19 m294.args m294.h) m294.v m294.h' = true := by kernel_rfl
theorem m294_ok {σ : Nat → Int} {W0 : World} (hL : L0 W0) : MemoOk Tryz.prog 26623 σ W0 19 m294 := memo_ok fit (Known2.nil σ) (FnsOk.cons (pure_fn_ok (l2_ok hL)) ((q0_ok hL))) m294_run
noncomputable def h515 : H := hUpd h514 4769 [] [] []
noncomputable def h516 : H := hUpc h480 4940 [] [] [(182, 0, [I 16, .slice 1110 0 1 1 10 false, I 18]),
  (214, 0, [IZ (-1), I 2147483628]),
  (214, 1, [I 0, I 0])] [(226, 0, 8, I 19)]
noncomputable def m295 : Memo := ⟨[.ptr 226 0, I 0], h515, .agg [I 0, I 3, I 0, U 0, I 0, U 0, IZ (-1), I 0], h516⟩
theorem m295_run : ranTo (evCall (cxX Tryz.prog bad [] [] ((44, pureFn l2) :: q0)) 1000 60 19 m295.args m295.h) m295.v m295.h' = true := by kernel_rfl
theorem m295_ok {σ : Nat → Int} {W0 : World} (hL : L0 W0) : MemoOk Tryz.prog 26623 σ W0 19 m295 := memo_ok fit (Known2.nil σ) (FnsOk.cons (pure_fn_ok (l2_ok hL)) ((q0_ok hL))) m295_run
noncomputable def h517 : H := hUpd h516 4977 [] [] []
noncomputable def h518 : H := hUpc h516 5097 [] [] [(225, 0, [.slice 886 0 0 1 1 false])] [(186, 0, 9, I 4), (186, 0, 10, I 6), (226, 0, 8, I 20)]
noncomputable def m296 : Memo := ⟨[.ptr 226 0, I 0], h517, .agg [I 0, I 5, I 0, U 0, I 0, U 0, IZ (-1), I 6], h518⟩
theorem m296_run : ranTo (evCall (cxX Tryz.prog bad [] [] ((44, pureFn l3) :: q0)) 1000 60 19 m296.args m296.h) m296.v m296.h' = true := by kernel_rfl
theorem m296_ok {σ : Nat → Int} {W0 : World} (hL : L0 W0) : MemoOk Tryz.prog 26623 σ W0 19 m296 := memo_ok fit (Known2.nil σ) (FnsOk.cons (pure_fn_ok (l3_ok hL)) ((q0_ok hL))) m296_run
noncomputable def l36 : List (Memo) := m296 :: m295 :: m294 :: m293 :: m292 :: m291 :: m290 :: m289 :: m288 :: m287 :: m286 :: m285 :: m284 :: m283 :: m282 :: m281 :: m280 :: m279 :: m278 :: m277 :: []
theorem l36_ok {σ : Nat → Int} {W0 : World} (hL : L0 W0) : ∀ x ∈ l36, MemoOk Tryz.prog 26623 σ W0 19 x := all_cons (m296_ok hL) (all_cons (m295_ok hL) (all_cons (m294_ok hL) (all_cons (m293_ok hL) (all_cons (m292_ok hL) (all_cons (m291_ok hL) (all_cons (m290_ok hL) (all_cons (m289_ok hL) (all_cons (m288_ok hL) (all_cons (m287_ok hL) (all_cons (m286_ok hL) (all_cons (m285_ok hL) (all_cons (m284_ok hL) (all_cons (m283_ok hL) (all_cons (m282_ok hL) (all_cons (m281_ok hL) (all_cons (m280_ok hL) (all_cons (m279_ok hL) (all_cons (m278_ok hL) (all_cons (m277_ok hL) (all_nil))))))))))))))))))))
noncomputable def q38 : Fns := [(7, pureFn [p0]), (9, frameFn [m274]), (10, frameFn [m276]), (295, isFn 453), (122, atoiFullFn 384), (123, itoaFullFn), (195, joinFn), (307, countFn), (352, indexFn), (308, cutOf Tryz.prog 26623 bad [(307, countFn), (352, indexFn)] 1000 20 308)]
theorem q38_ok {σ : Nat → Int} {W0 : World} (hL : L0 W0) : FnsOk Tryz.prog 26623 σ W0 q38 := FnsOk.cons (pure_fn_ok (all_cons (p0_ok hL) (all_nil))) (FnsOk.cons (frame_fn_ok (all_cons (m274_ok hL) (all_nil))) (FnsOk.cons (frame_fn_ok (all_cons (m276_ok hL) (all_nil))) (FnsOk.cons (ext_is hL) (FnsOk.cons (ext_atoi hL) (FnsOk.cons (ext_itoa hL) (FnsOk.cons (ext_join hL) (FnsOk.cons (ext_count hL) (FnsOk.cons (ext_index hL) (FnsOk.cons (ext_cut308 hL) (FnsOk.nil))))))))))
theorem run36 : isTrue (evCall (cxX Tryz.prog bad [] [] ((8, numExtE [(0, 20, .lit 18)]) :: (19, frameFn l36) :: q38)) 1000 60 3 [.int .i64 (.var 0), bF] (sentH 453 20 errTab)) = true := by kernel_rfl
theorem case36 : CaseS [] [] [(0, 20, .lit 18)] [.int .i64 (.var 0), bF] := caseS (fun hL hk hT => FnsOk.cons (hT.ok fit) (FnsOk.cons (frame_fn_ok (l36_ok hL)) ((q38_ok hL)))) run36
noncomputable def h519 : H := hUpd h516 5018 [] [] [(214, 1, [I 0, I 1000])]
noncomputable def h520 : H := hUpc h482 5189 [] [] [(182, 0, [I 16, .slice 1110 0 1 1 10 false, I 19]),
  (214, 0, [IZ (-1), I 2147483627]),
  (214, 1, [I 0, I 999])] [(226, 0, 8, I 20)]
noncomputable def m297 : Memo := ⟨[.ptr 226 0, I 0], h519, .agg [I 0, I 1, I 0, U 0, I 0, U 0, IZ (-1), I 0], h520⟩
theorem m297_run : ranTo (evCall (cxX Tryz.prog bad [] [] ((44, pureFn l2) :: q0)) 1000 60 19 m297.args m297.h) m297.v m297.h' = true := by kernel_rfl
theorem m297_ok {σ : Nat → Int} {W0 : World} (hL : L0 W0) : MemoOk Tryz.prog 26623 σ W0 19 m297 := memo_ok fit (Known2.nil σ) (FnsOk.cons (pure_fn_ok (l2_ok hL)) ((q0_ok hL))) m297_run
noncomputable def l37 : List (Memo) := m297 :: m295 :: m294 :: m293 :: m292 :: m291 :: m290 :: m289 :: m288 :: m287 :: m286 :: m285 :: m284 :: m283 :: m282 :: m281 :: m280 :: m279 :: m278 :: m277 :: []
theorem l37_ok {σ : Nat → Int} {W0 : World} (hL : L0 W0) : ∀ x ∈ l37, MemoOk Tryz.prog 26623 σ W0 19 x := all_cons (m297_ok hL) (all_cons (m295_ok hL) (all_cons (m294_ok hL) (all_cons (m293_ok hL) (all_cons (m292_ok hL) (all_cons (m291_ok hL) (all_cons (m290_ok hL) (all_cons (m289_ok hL) (all_cons (m288_ok hL) (all_cons (m287_ok hL) (all_cons (m286_ok hL) (all_cons (m285_ok hL) (all_cons (m284_ok hL) (all_cons (m283_ok hL) (all_cons (m282_ok hL) (all_cons (m281_ok hL) (all_cons (m280_ok hL) (all_cons (m279_ok hL) (all_cons (m278_ok hL) (all_cons (m277_ok hL) (all_nil))))))))))))))))))))
theorem run37 : isTrue (evCall (cxX Tryz.prog bad [] [] ((8, numExtE [(0, 20, .lit 18)]) :: (19, frameFn l37) :: q38)) 1000 60 3 [.int .i64 (.var 0), bT] (sentH 453 20 errTab)) = true := by kernel_rfl
theorem case37 : CaseS [] [] [(0, 20, .lit 18)] [.int .i64 (.var 0), bT] := caseS (fun hL hk hT => FnsOk.cons (hT.ok fit) (FnsOk.cons (frame_fn_ok (l37_ok hL)) ((q38_ok hL)))) run37
noncomputable def m298 : Memo := ⟨[bT, I 20, .snil, .slice 33 0 3 3 1 true], h5, .agg [.slice 157 0 2 2 1 false, I 20, .snil, bT], h6⟩
theorem m298_run : ranTo (evCall (cxX Tryz.prog bad [] [] ((84, frameFn [m1, m2]) :: q0)) 1000 60 9 m298.args m298.h) m298.v m298.h' = true := by kernel_rfl
theorem m298_ok {σ : Nat → Int} {W0 : World} (hL : L0 W0) : MemoOk Tryz.prog 26623 σ W0 9 m298 := memo_ok fit (Known2.nil σ) (FnsOk.cons (frame_fn_ok (all_cons (m1_ok hL) (all_cons (m2_ok hL) (all_nil)))) ((q0_ok hL))) m298_run
noncomputable def h521 : H := hUpc h482 733 [886, 1110, 1077] [(157, .cells 1 ([[U 201326592], [U 67108864]]) false)] [(182, 0, [I 16, .snil, I 0]),
  (214, 0, [IZ (-1), I 2147483647]),
  (214, 1, [I 0, I 20]),
  (225, 0, [.snil])] [(186, 0, 9, I 1), (226, 0, 8, I 0)]
noncomputable def m299 : Memo := ⟨[.ptr 226 0, .agg [.slice 157 0 2 2 1 false, I 20, .snil, bT]], h7, .tuple [I 0, .inil], h521⟩
theorem m299_run : ranTo (evCall (cxX Tryz.prog bad [] [] ((44, pureFn l0) :: q0)) 1000 60 88 m299.args m299.h) m299.v m299.h' = true := by kernel_rfl
theorem m299_ok {σ : Nat → Int} {W0 : World} (hL : L0 W0) : MemoOk Tryz.prog 26623 σ W0 88 m299 := memo_ok fit (Known2.nil σ) (FnsOk.cons (pure_fn_ok (l0_ok hL)) ((q0_ok hL))) m299_run
noncomputable def h522 : H := hUpd h0 170 [] [(157, .cells 1 ([[U 201326592], [U 67108864]]) false),
  (161, .cells 4 ([[.slice 157 0 2 2 1 false, I 20, .snil, bT]]) false)] []
noncomputable def h523 : H := hUpc h521 888 [] [(886, .cells 1 ([[I 0]]) false),
  (161, .cells 4 ([[.slice 157 0 2 2 1 false, I 20, .snil, bT]]) false),
  (887, .cells 2 ([[.ptr 226 0, .snil]]) false)] [(225, 0, [.slice 886 0 1 1 1 false])] [(186, 0, 9, I 3)]
noncomputable def m300 : Memo := ⟨[.agg [I 16, I 24, I 8, I 12, I 8, I 6, I 60, .slice 161 0 1 1 4 true]], h522, .tuple [.ptr 887 0, .inil], h523⟩
noncomputable def q39 : Fns := [(88, frameFn [m299]), (295, isFn 453), (122, atoiFullFn 384), (123, itoaFullFn), (195, joinFn), (307, countFn), (352, indexFn), (308, cutOf Tryz.prog 26623 bad [(307, countFn), (352, indexFn)] 1000 20 308)]
theorem q39_ok {σ : Nat → Int} {W0 : World} (hL : L0 W0) : FnsOk Tryz.prog 26623 σ W0 q39 := FnsOk.cons (frame_fn_ok (all_cons (m299_ok hL) (all_nil))) (FnsOk.cons (ext_is hL) (FnsOk.cons (ext_atoi hL) (FnsOk.cons (ext_itoa hL) (FnsOk.cons (ext_join hL) (FnsOk.cons (ext_count hL) (FnsOk.cons (ext_index hL) (FnsOk.cons (ext_cut308 hL) (FnsOk.nil))))))))
theorem m300_run : ranTo (evCall (cxX Tryz.prog bad [] [] ((44, pureFn l1) :: q39)) 1000 60 10 m300.args m300.h) m300.v m300.h' = true := by kernel_rfl
theorem m300_ok {σ : Nat → Int} {W0 : World} (hL : L0 W0) : MemoOk Tryz.prog 26623 σ W0 10 m300 := memo_ok fit (Known2.nil σ) (FnsOk.cons (pure_fn_ok (l1_ok hL)) ((q39_ok hL))) m300_run
noncomputable def h524 : H := hUpd h523 891 [157, 161, 887] [] []
noncomputable def h525 : H := hUpc h485 1196 [] [] [(182, 0, [I 16, .slice 1110 0 1 1 10 false, I 0]),
  (214, 0, [IZ (-1), I 2147483646]),
  (214, 1, [I 0, I 19])] [(226, 0, 8, I 1)]
noncomputable def m301 : Memo := ⟨[.ptr 226 0, I 0], h524, .agg [I 0, I 3, I 0, U 0, I 0, U 0, IZ (-1), I 0], h525⟩
theorem m301_run : ranTo (evCall (cxX Tryz.prog bad [] [] ((44, pureFn l2) :: q0)) 1000 60 19 m301.args m301.h) m301.v m301.h' = true := by kernel_rfl
theorem m301_ok {σ : Nat → Int} {W0 : World} (hL : L0 W0) : MemoOk Tryz.prog 26623 σ W0 19 m301 := memo_ok fit (Known2.nil σ) (FnsOk.cons (pure_fn_ok (l2_ok hL)) ((q0_ok hL))) m301_run
noncomputable def h526 : H := hUpd h525 1233 [] [] []
noncomputable def h527 : H := hUpc h487 1404 [] [] [(182, 0, [I 16, .slice 1110 0 1 1 10 false, I 1]),
  (214, 0, [IZ (-1), I 2147483645]),
  (214, 1, [I 0, I 18])] [(226, 0, 8, I 2)]
noncomputable def m302 : Memo := ⟨[.ptr 226 0, I 0], h526, .agg [I 0, I 1, I 0, U 0, I 0, U 0, IZ (-1), I 0], h527⟩
theorem m302_run : ranTo (evCall (cxX Tryz.prog bad [] [] ((44, pureFn l2) :: q0)) 1000 60 19 m302.args m302.h) m302.v m302.h' = true := by kernel_rfl
theorem m302_ok {σ : Nat → Int} {W0 : World} (hL : L0 W0) : MemoOk Tryz.prog 26623 σ W0 19 m302 := memo_ok fit (Known2.nil σ) (FnsOk.cons (pure_fn_ok (l2_ok hL)) ((q0_ok hL))) m302_run
noncomputable def h528 : H := hUpd h527 1441 [] [] []
noncomputable def h529 : H := hUpc h489 1612 [] [] [(182, 0, [I 16, .slice 1110 0 1 1 10 false, I 2]),
  (214, 0, [IZ (-1), I 2147483644]),
  (214, 1, [I 0, I 17])] [(226, 0, 8, I 3)]
noncomputable def m303 : Memo := ⟨[.ptr 226 0, I 0], h528, .agg [I 0, I 3, I 0, U 0, I 0, U 0, IZ (-1), I 0], h529⟩
theorem m303_run : ranTo (evCall (cxX Tryz.prog bad [] [] ((44, pureFn l2) :: q0)) 1000 60 19 m303.args m303.h) m303.v m303.h' = true := by kernel_rfl
theorem m303_ok {σ : Nat → Int} {W0 : World} (hL : L0 W0) : MemoOk Tryz.prog 26623 σ W0 19 m303 := memo_ok fit (Known2.nil σ) (FnsOk.cons (pure_fn_ok (l2_ok hL)) ((q0_ok hL))) m303_run
noncomputable def h530 : H := hUpd h529 1649 [] [] []
noncomputable def h531 : H := hUpc h491 1820 [] [] [(182, 0, [I 16, .slice 1110 0 1 1 10 false, I 3]),
  (214, 0, [IZ (-1), I 2147483643]),
  (214, 1, [I 0, I 16])] [(226, 0, 8, I 4)]
noncomputable def m304 : Memo := ⟨[.ptr 226 0, I 0], h530, .agg [I 0, I 1, I 0, U 0, I 0, U 0, IZ (-1), I 0], h531⟩
theorem m304_run : ranTo (evCall (cxX Tryz.prog bad [] [] ((44, pureFn l2) :: q0)) 1000 60 19 m304.args m304.h) m304.v m304.h' = true := by kernel_rfl
theorem m304_ok {σ : Nat → Int} {W0 : World} (hL : L0 W0) : MemoOk Tryz.prog 26623 σ W0 19 m304 := memo_ok fit (Known2.nil σ) (FnsOk.cons (pure_fn_ok (l2_ok hL)) ((q0_ok hL))) m304_run
noncomputable def h532 : H := hUpd h531 1857 [] [] []
noncomputable def h533 : H := hUpc h493 2028 [] [] [(182, 0, [I 16, .slice 1110 0 1 1 10 false, I 4]),
  (214, 0, [IZ (-1), I 2147483642]),
  (214, 1, [I 0, I 15])] [(226, 0, 8, I 5)]
noncomputable def m305 : Memo := ⟨[.ptr 226 0, I 0], h532, .agg [I 0, I 3, I 0, U 0, I 0, U 0, IZ (-1), I 0], h533⟩
theorem m305_run : ranTo (evCall (cxX Tryz.prog bad [] [] ((44, pureFn l2) :: q0)) 1000 60 19 m305.args m305.h) m305.v m305.h' = true := by kernel_rfl
theorem m305_ok {σ : Nat → Int} {W0 : World} (hL : L0 W0) : MemoOk Tryz.prog 26623 σ W0 19 m305 := memo_ok fit (Known2.nil σ) (FnsOk.cons (pure_fn_ok (l2_ok hL)) ((q0_ok hL))) m305_run
noncomputable def h534 : H := hUpd h533 2065 [] [] []
noncomputable def h535 : H := hUpc h495 2236 [] [] [(182, 0, [I 16, .slice 1110 0 1 1 10 false, I 5]),
  (214, 0, [IZ (-1), I 2147483641]),
  (214, 1, [I 0, I 14])] [(226, 0, 8, I 6)]
noncomputable def m306 : Memo := ⟨[.ptr 226 0, I 0], h534, .agg [I 0, I 1, I 0, U 0, I 0, U 0, IZ (-1), I 0], h535⟩
theorem m306_run : ranTo (evCall (cxX Tryz.prog bad [] [] ((44, pureFn l2) :: q0)) 1000 60 19 m306.args m306.h) m306.v m306.h' = true := by kernel_rfl
theorem m306_ok {σ : Nat → Int} {W0 : World} (hL : L0 W0) : MemoOk Tryz.prog 26623 σ W0 19 m306 := memo_ok fit (Known2.nil σ) (FnsOk.cons (pure_fn_ok (l2_ok hL)) ((q0_ok hL))) m306_run
noncomputable def h536 : H := hUpd h535 2273 [] [] []
noncomputable def h537 : H := hUpc h497 2444 [] [] [(182, 0, [I 16, .slice 1110 0 1 1 10 false, I 6]),
  (214, 0, [IZ (-1), I 2147483640]),
  (214, 1, [I 0, I 13])] [(226, 0, 8, I 7)]
noncomputable def m307 : Memo := ⟨[.ptr 226 0, I 0], h536, .agg [I 0, I 3, I 0, U 0, I 0, U 0, IZ (-1), I 0], h537⟩
theorem m307_run : ranTo (evCall (cxX Tryz.prog bad [] [] ((44, pureFn l2) :: q0)) 1000 60 19 m307.args m307.h) m307.v m307.h' = true := by kernel_rfl
theorem m307_ok {σ : Nat → Int} {W0 : World} (hL : L0 W0) : MemoOk Tryz.prog 26623 σ W0 19 m307 := memo_ok fit (Known2.nil σ) (FnsOk.cons (pure_fn_ok (l2_ok hL)) ((q0_ok hL))) m307_run
noncomputable def h538 : H := hUpd h537 2481 [] [] []
noncomputable def h539 : H := hUpc h499 2652 [] [] [(182, 0, [I 16, .slice 1110 0 1 1 10 false, I 7]),
  (214, 0, [IZ (-1), I 2147483639]),
  (214, 1, [I 0, I 12])] [(226, 0, 8, I 8)]
noncomputable def m308 : Memo := ⟨[.ptr 226 0, I 0], h538, .agg [I 0, I 1, I 0, U 0, I 0, U 0, IZ (-1), I 0], h539⟩
theorem m308_run : ranTo (evCall (cxX Tryz.prog bad [] [] ((44, pureFn l2) :: q0)) 1000 60 19 m308.args m308.h) m308.v m308.h' = true := by kernel_rfl
theorem m308_ok {σ : Nat → Int} {W0 : World} (hL : L0 W0) : MemoOk Tryz.prog 26623 σ W0 19 m308 := memo_ok fit (Known2.nil σ) (FnsOk.cons (pure_fn_ok (l2_ok hL)) ((q0_ok hL))) m308_run
noncomputable def h540 : H := hUpd h539 2689 [] [] []
noncomputable def h541 : H := hUpc h501 2860 [] [] [(182, 0, [I 16, .slice 1110 0 1 1 10 false, I 8]),
  (214, 0, [IZ (-1), I 2147483638]),
  (214, 1, [I 0, I 11])] [(226, 0, 8, I 9)]
noncomputable def m309 : Memo := ⟨[.ptr 226 0, I 0], h540, .agg [I 0, I 3, I 0, U 0, I 0, U 0, IZ (-1), I 0], h541⟩
theorem m309_run : ranTo (evCall (cxX Tryz.prog bad [] [] ((44, pureFn l2) :: q0)) 1000 60 19 m309.args m309.h) m309.v m309.h' = true := by kernel_rfl
theorem m309_ok {σ : Nat → Int} {W0 : World} (hL : L0 W0) : MemoOk Tryz.prog 26623 σ W0 19 m309 := memo_ok fit (Known2.nil σ) (FnsOk.cons (pure_fn_ok (l2_ok hL)) ((q0_ok hL))) m309_run
noncomputable def h542 : H := hUpd h541 2897 [] [] []
noncomputable def h543 : H := hUpc h503 3068 [] [] [(182, 0, [I 16, .slice 1110 0 1 1 10 false, I 9]),
  (214, 0, [IZ (-1), I 2147483637]),
  (214, 1, [I 0, I 10])] [(226, 0, 8, I 10)]
noncomputable def m310 : Memo := ⟨[.ptr 226 0, I 0], h542, .agg [I 0, I 1, I 0, U 0, I 0, U 0, IZ (-1), I 0], h543⟩
theorem m310_run : ranTo (evCall (cxX Tryz.prog bad [] [] ((44, pureFn l2) :: q0)) 1000 60 19 m310.args m310.h) m310.v m310.h' = true := by kernel_rfl
theorem m310_ok {σ : Nat → Int} {W0 : World} (hL : L0 W0) : MemoOk Tryz.prog 26623 σ W0 19 m310 := memo_ok fit (Known2.nil σ) (FnsOk.cons (pure_fn_ok (l2_ok hL)) ((q0_ok hL))) m310_run
noncomputable def h544 : H := hUpd h543 3105 [] [] []
noncomputable def h545 : H := hUpc h505 3276 [] [] [(182, 0, [I 16, .slice 1110 0 1 1 10 false, I 10]),
  (214, 0, [IZ (-1), I 2147483636]),
  (214, 1, [I 0, I 9])] [(226, 0, 8, I 11)]
noncomputable def m311 : Memo := ⟨[.ptr 226 0, I 0], h544, .agg [I 0, I 3, I 0, U 0, I 0, U 0, IZ (-1), I 0], h545⟩
theorem m311_run : ranTo (evCall (cxX Tryz.prog bad [] [] ((44, pureFn l2) :: q0)) 1000 60 19 m311.args m311.h) m311.v m311.h' = true := by kernel_rfl
theorem m311_ok {σ : Nat → Int} {W0 : World} (hL : L0 W0) : MemoOk Tryz.prog 26623 σ W0 19 m311 := memo_ok fit (Known2.nil σ) (FnsOk.cons (pure_fn_ok (l2_ok hL)) ((q0_ok hL))) m311_run
noncomputable def h546 : H := hUpd h545 3313 [] [] []
noncomputable def h547 : H := hUpc h507 3484 [] [] [(182, 0, [I 16, .slice 1110 0 1 1 10 false, I 11]),
  (214, 0, [IZ (-1), I 2147483635]),
  (214, 1, [I 0, I 8])] [(226, 0, 8, I 12)]
noncomputable def m312 : Memo := ⟨[.ptr 226 0, I 0], h546, .agg [I 0, I 1, I 0, U 0, I 0, U 0, IZ (-1), I 0], h547⟩
theorem m312_run : ranTo (evCall (cxX Tryz.prog bad [] [] ((44, pureFn l2) :: q0)) 1000 60 19 m312.args m312.h) m312.v m312.h' = true := by kernel_rfl
theorem m312_ok {σ : Nat → Int} {W0 : World} (hL : L0 W0) : MemoOk Tryz.prog 26623 σ W0 19 m312 := memo_ok fit (Known2.nil σ) (FnsOk.cons (pure_fn_ok (l2_ok hL)) ((q0_ok hL))) m312_run
noncomputable def h548 : H := hUpd h547 3521 [] [] []
noncomputable def h549 : H := hUpc h509 3692 [] [] [(182, 0, [I 16, .slice 1110 0 1 1 10 false, I 12]),
  (214, 0, [IZ (-1), I 2147483634]),
  (214, 1, [I 0, I 7])] [(226, 0, 8, I 13)]
noncomputable def m313 : Memo := ⟨[.ptr 226 0, I 0], h548, .agg [I 0, I 3, I 0, U 0, I 0, U 0, IZ (-1), I 0], h549⟩
theorem m313_run : ranTo (evCall (cxX Tryz.prog bad [] [] ((44, pureFn l2) :: q0)) 1000 60 19 m313.args m313.h) m313.v m313.h' = true := by kernel_rfl
theorem m313_ok {σ : Nat → Int} {W0 : World} (hL : L0 W0) : MemoOk Tryz.prog 26623 σ W0 19 m313 := memo_ok fit (Known2.nil σ) (FnsOk.cons (pure_fn_ok (l2_ok hL)) ((q0_ok hL))) m313_run
noncomputable def h550 : H := hUpd h549 3729 [] [] []
noncomputable def h551 : H := hUpc h511 3900 [] [] [(182, 0, [I 16, .slice 1110 0 1 1 10 false, I 13]),
  (214, 0, [IZ (-1), I 2147483633]),
  (214, 1, [I 0, I 6])] [(226, 0, 8, I 14)]
noncomputable def m314 : Memo := ⟨[.ptr 226 0, I 0], h550, .agg [I 0, I 1, I 0, U 0, I 0, U 0, IZ (-1), I 0], h551⟩
theorem m314_run : ranTo (evCall (cxX Tryz.prog bad [] [] ((44, pureFn l2) :: q0)) 1000 60 19 m314.args m314.h) m314.v m314.h' = true := by kernel_rfl
theorem m314_ok {σ : Nat → Int} {W0 : World} (hL : L0 W0) : MemoOk Tryz.prog 26623 σ W0 19 m314 := memo_ok fit (Known2.nil σ) (FnsOk.cons (pure_fn_ok (l2_ok hL)) ((q0_ok hL))) m314_run
noncomputable def h552 : H := hUpd h551 3937 [] [] []
noncomputable def h553 : H := hUpc h513 4108 [] [] [(182, 0, [I 16, .slice 1110 0 1 1 10 false, I 14]),
  (214, 0, [IZ (-1), I 2147483632]),
  (214, 1, [I 0, I 5])] [(226, 0, 8, I 15)]
noncomputable def m315 : Memo := ⟨[.ptr 226 0, I 0], h552, .agg [I 0, I 3, I 0, U 0, I 0, U 0, IZ (-1), I 0], h553⟩
theorem m315_run : ranTo (evCall (cxX Tryz.prog bad [] [] ((44, pureFn l2) :: q0)) 1000 60 19 m315.args m315.h) m315.v m315.h' = true := by kernel_rfl
theorem m315_ok {σ : Nat → Int} {W0 : World} (hL : L0 W0) : MemoOk Tryz.prog 26623 σ W0 19 m315 := memo_ok fit (Known2.nil σ) (FnsOk.cons (pure_fn_ok (l2_ok hL)) ((q0_ok hL))) m315_run
noncomputable def h554 : H := hUpd h553 4145 [] [] []
noncomputable def h555 : H := hUpc h515 4316 [] [] [(182, 0, [I 16, .slice 1110 0 1 1 10 false, I 15]),
  (214, 0, [IZ (-1), I 2147483631]),
  (214, 1, [I 0, I 4])] [(226, 0, 8, I 16)]
noncomputable def m316 : Memo := ⟨[.ptr 226 0, I 0], h554, .agg [I 0, I 1, I 0, U 0, I 0, U 0, IZ (-1), I 0], h555⟩
theorem m316_run : ranTo (evCall (cxX Tryz.prog bad [] [] ((44, pureFn l2) :: q0)) 1000 60 19 m316.args m316.h) m316.v m316.h' = true := by kernel_rfl
theorem m316_ok {σ : Nat → Int} {W0 : World} (hL : L0 W0) : MemoOk Tryz.prog 26623 σ W0 19 m316 := memo_ok fit (Known2.nil σ) (FnsOk.cons (pure_fn_ok (l2_ok hL)) ((q0_ok hL))) m316_run
noncomputable def h556 : H := hUpd h555 4353 [] [] []
noncomputable def h557 : H := hUpc h517 4524 [] [] [(182, 0, [I 16, .slice 1110 0 1 1 10 false, I 16]),
  (214, 0, [IZ (-1), I 2147483630]),
  (214, 1, [I 0, I 3])] [(226, 0, 8, I 17)]
noncomputable def m317 : Memo := ⟨[.ptr 226 0, I 0], h556, .agg [I 0, I 3, I 0, U 0, I 0, U 0, IZ (-1), I 0], h557⟩
theorem m317_run : ranTo (evCall (cxX Tryz.prog bad [] [] ((44, pureFn l2) :: q0)) 1000 60 19 m317.args m317.h) m317.v m317.h' = true := by kernel_rfl
theorem m317_ok {σ : Nat → Int} {W0 : World} (hL : L0 W0) : MemoOk Tryz.prog 26623 σ W0 19 m317 := memo_ok fit (Known2.nil σ) (FnsOk.cons (pure_fn_ok (l2_ok hL)) ((q0_ok hL))) m317_run
noncomputable def h558 : H := hUpd h557 4561 [] [] []
noncomputable def h559 : H := hUpc h520 4732 [] [] [(182, 0, [I 16, .slice 1110 0 1 1 10 false, I 17]),
  (214, 0, [IZ (-1), I 2147483629]),
  (214, 1, [I 0, I 2])] [(226, 0, 8, I 18)]
noncomputable def m318 : Memo := ⟨[.ptr 226 0, I 0], h558, .agg [I 0, I 1, I 0, U 0, I 0, U 0, IZ (-1), I 0], h559⟩
theorem m318_run : ranTo (evCall (cxX Tryz.prog bad [] [] ((44, pureFn l2) :: q0)) 1000 60 19 m318.args m318.h) m318.v m318.h' = true := by kernel_rfl
theorem m318_ok {σ : Nat → Int} {W0 : World} (hL : L0 W0) : MemoOk Tryz.prog 26623 σ W0 19 m318 := memo_ok fit (Known2.nil σ) (FnsOk.cons (pure_fn_ok (l2_ok hL)) ((q0_ok hL))) m318_run
noncomputable def h560 : H := hUpd h559 4769 [] [] []
noncomputable def h561 : H := hUpc h525 4940 [] [] [(182, 0, [I 16, .slice 1110 0 1 1 10 false, I 18]),
  (214, 0, [IZ (-1), I 2147483628]),
  (214, 1, [I 0, I 1])] [(226, 0, 8, I 19)]
noncomputable def m319 : Memo := ⟨[.ptr 226 0, I 0], h560, .agg [I 0, I 3, I 0, U 0, I 0, U 0, IZ (-1), I 0], h561⟩
theorem m319_run : ranTo (evCall (cxX Tryz.prog bad [] [] ((44, pureFn l2) :: q0)) 1000 60 19 m319.args m319.h) m319.v m319.h' = true := by kernel_rfl
theorem m319_ok {σ : Nat → Int} {W0 : World} (hL : L0 W0) : MemoOk Tryz.prog 26623 σ W0 19 m319 := memo_ok fit (Known2.nil σ) (FnsOk.cons (pure_fn_ok (l2_ok hL)) ((q0_ok hL))) m319_run
noncomputable def h562 : H := hUpd h561 4977 [] [] []
noncomputable def h563 : H := hUpc h527 5148 [] [] [(182, 0, [I 16, .slice 1110 0 1 1 10 false, I 19]),
  (214, 0, [IZ (-1), I 2147483627]),
  (214, 1, [I 0, I 0])] [(226, 0, 8, I 20)]
noncomputable def m320 : Memo := ⟨[.ptr 226 0, I 0], h562, .agg [I 0, I 1, I 0, U 0, I 0, U 0, IZ (-1), I 0], h563⟩
theorem m320_run : ranTo (evCall (cxX Tryz.prog bad [] [] ((44, pureFn l2) :: q0)) 1000 60 19 m320.args m320.h) m320.v m320.h' = true := by kernel_rfl
theorem m320_ok {σ : Nat → Int} {W0 : World} (hL : L0 W0) : MemoOk Tryz.prog 26623 σ W0 19 m320 := memo_ok fit (Known2.nil σ) (FnsOk.cons (pure_fn_ok (l2_ok hL)) ((q0_ok hL))) m320_run
noncomputable def h564 : H := hUpd h563 5185 [] [] []
noncomputable def h565 : H := hUpc h563 5305 [] [] [(225, 0, [.slice 886 0 0 1 1 false])] [(186, 0, 9, I 4), (186, 0, 10, I 6), (226, 0, 8, I 21)]
noncomputable def m321 : Memo := ⟨[.ptr 226 0, I 0], h564, .agg [I 0, I 5, I 0, U 0, I 0, U 0, IZ (-1), I 6], h565⟩
theorem m321_run : ranTo (evCall (cxX Tryz.prog bad [] [] ((44, pureFn l3) :: q0)) 1000 60 19 m321.args m321.h) m321.v m321.h' = true := by kernel_rfl
theorem m321_ok {σ : Nat → Int} {W0 : World} (hL : L0 W0) : MemoOk Tryz.prog 26623 σ W0 19 m321 := memo_ok fit (Known2.nil σ) (FnsOk.cons (pure_fn_ok (l3_ok hL)) ((q0_ok hL))) m321_run
noncomputable def l38 : List (Memo) := m321 :: m320 :: m319 :: m318 :: m317 :: m316 :: m315 :: m314 :: m313 :: m312 :: m311 :: m310 :: m309 :: m308 :: m307 :: m306 :: m305 :: m304 :: m303 :: m302 :: m301 :: []
theorem l38_ok {σ : Nat → Int} {W0 : World} (hL : L0 W0) : ∀ x ∈ l38, MemoOk Tryz.prog 26623 σ W0 19 x := all_cons (m321_ok hL) (all_cons (m320_ok hL) (all_cons (m319_ok hL) (all_cons (m318_ok hL) (all_cons (m317_ok hL) (all_cons (m316_ok hL) (all_cons (m315_ok hL) (all_cons (m314_ok hL) (all_cons (m313_ok hL) (all_cons (m312_ok hL) (all_cons (m311_ok hL) (all_cons (m310_ok hL) (all_cons (m309_ok hL) (all_cons (m308_ok hL) (all_cons (m307_ok hL) (all_cons (m306_ok hL) (all_cons (m305_ok hL) (all_cons (m304_ok hL) (all_cons (m303_ok hL) (all_cons (m302_ok hL) (all_cons (m301_ok hL) (all_nil)))))))))))))))))))))
noncomputable def q40 : Fns := [(7, pureFn [p0]), (9, frameFn [m298]), (10, frameFn [m300]), (295, isFn 453), (122, atoiFullFn 384), (123, itoaFullFn), (195, joinFn), (307, countFn), (352, indexFn), (308, cutOf Tryz.prog 26623 bad [(307, countFn), (352, indexFn)] 1000 20 308)]
theorem q40_ok {σ : Nat → Int} {W0 : World} (hL : L0 W0) : FnsOk Tryz.prog 26623 σ W0 q40 := FnsOk.cons (pure_fn_ok (all_cons (p0_ok hL) (all_nil))) (FnsOk.cons (frame_fn_ok (all_cons (m298_ok hL) (all_nil))) (FnsOk.cons (frame_fn_ok (all_cons (m300_ok hL) (all_nil))) (FnsOk.cons (ext_is hL) (FnsOk.cons (ext_atoi hL) (FnsOk.cons (ext_itoa hL) (FnsOk.cons (ext_join hL) (FnsOk.cons (ext_count hL) (FnsOk.cons (ext_index hL) (FnsOk.cons (ext_cut308 hL) (FnsOk.nil))))))))))
theorem run38 : isTrue (evCall (cxX Tryz.prog bad [] [] ((8, numExtE [(0, 20, .lit 19)]) :: (19, frameFn l38) :: q40)) 1000 60 3 [.int .i64 (.var 0), bF] (sentH 453 20 errTab)) = true := by kernel_rfl
theorem case38 : CaseS [] [] [(0, 20, .lit 19)] [.int .i64 (.var 0), bF] := caseS (fun hL hk hT => FnsOk.cons (hT.ok fit) (FnsOk.cons (frame_fn_ok (l38_ok hL)) ((q40_ok hL)))) run38
noncomputable def h566 : H := hUpd h563 5226 [] [] [(214, 1, [I 0, I 1000])]
noncomputable def h567 : H := hUpc h529 5397 [] [] [(182, 0, [I 16, .slice 1110 0 1 1 10 false, I 20]),
  (214, 0, [IZ (-1), I 2147483626]),
  (214, 1, [I 0, I 999])] [(226, 0, 8, I 21)]
noncomputable def m322 : Memo := ⟨[.ptr 226 0, I 0], h566, .agg [I 0, I 3, I 0, U 0, I 0, U 0, IZ (-1), I 0], h567⟩
theorem m322_run : ranTo (evCall (cxX Tryz.prog bad [] [] ((44, pureFn l2) :: q0)) 1000 60 19 m322.args m322.h) m322.v m322.h' = true := by kernel_rfl
theorem m322_ok {σ : Nat → Int} {W0 : World} (hL : L0 W0) : MemoOk Tryz.prog 26623 σ W0 19 m322 := memo_ok fit (Known2.nil σ) (FnsOk.cons (pure_fn_ok (l2_ok hL)) ((q0_ok hL))) m322_run
noncomputable def l39 : List (Memo) := m322 :: m320 :: m319 :: m318 :: m317 :: m316 :: m315 :: m314 :: m313 :: m312 :: m311 :: m310 :: m309 :: m308 :: m307 :: m306 :: m305 :: m304 :: m303 :: m302 :: m301 :: []
theorem l39_ok {σ : Nat → Int} {W0 : World} (hL : L0 W0) : ∀ x ∈ l39, MemoOk Tryz.prog 26623 σ W0 19 x := all_cons (m322_ok hL) (all_cons (m320_ok hL) (all_cons (m319_ok hL) (all_cons (m318_ok hL) (all_cons (m317_ok hL) (all_cons (m316_ok hL) (all_cons (m315_ok hL) (all_cons (m314_ok hL) (all_cons (m313_ok hL) (all_cons (m312_ok hL) (all_cons (m311_ok hL) (all_cons (m310_ok hL) (all_cons (m309_ok hL) (all_cons (m308_ok hL) (all_cons (m307_ok hL) (all_cons (m306_ok hL) (all_cons (m305_ok hL) (all_cons (m304_ok hL) (all_cons (m303_ok hL) (all_cons (m302_ok hL) (all_cons (m301_ok hL) (all_nil)))))))))))))))))))))
theorem run39 : isTrue (evCall (cxX Tryz.prog bad [] [] ((8, numExtE [(0, 20, .lit 19)]) :: (19, frameFn l39) :: q40)) 1000 60 3 [.int .i64 (.var 0), bT] (sentH 453 20 errTab)) = true := by kernel_rfl
theorem case39 : CaseS [] [] [(0, 20, .lit 19)] [.int .i64 (.var 0), bT] := caseS (fun hL hk hT => FnsOk.cons (hT.ok fit) (FnsOk.cons (frame_fn_ok (l39_ok hL)) ((q40_ok hL)))) run39
end Go.Proofs.YtkfhelmjaoepiabGreatDoor.worldFills
