/- wholeNests: calls that are run once, and the runs of the cases (part 1). -/
import Derived.Test.YtmafpninhndlnaaGreatDoorWnK0
set_option linter.unusedVariables false
set_option maxRecDepth 10000000
namespace Go.Proofs.YtmafpninhndlnaaGreatDoor.wholeNests
open Tk
open Go.RowKit
noncomputable def h75 : H := hUpc h58 81328 [] [(370, .map [(.agg [I 3, I 0], .agg [I 0, I 0], 0), (.agg [I 3, I 1], .agg [I 0, I 0], 1), (.agg [I 2, I 0], .agg [I 0, I 0], 2), (.agg [I 4, I 0], .agg [I 0, I 0], 3), (.agg [I 3, I 2], .agg [I 0, I 0], 4), (.agg [I 3, I 3], .agg [I 0, I 0], 5), (.agg [I 3, I 4], .agg [I 1, I 0], 6), (.agg [I 3, I 5], .agg [I 1, I 0], 7), (.agg [I 2, I 1], .agg [I 1, I 0], 8), (.agg [I 4, I 1], .agg [I 1, I 0], 9), (.agg [I 3, I 6], .agg [I 1, I 0], 10), (.agg [I 3, I 7], .agg [I 1, I 0], 11), (.agg [I 2, I 2], .agg [I 1, I 0], 12), (.agg [I 4, I 2], .agg [I 1, I 0], 13), (.agg [I 3, I 8], .agg [I 1, I 0], 14), (.agg [I 3, I 9], .agg [I 1, I 0], 15), (.agg [I 2, I 3], .agg [I 1, I 0], 16), (.agg [I 4, I 3], .agg [I 1, I 0], 17), (.agg [I 3, I 10], .agg [I 1, I 0], 18), (.agg [I 3, I 11], .agg [I 1, I 0], 19), (.agg [I 2, I 4], .agg [I 1, I 0], 20), (.agg [I 4, I 4], .agg [I 1, I 0], 21)] 22)] [(324, 4, [bT, I 0, bF]),
  (328, 10, [bT, I 0, bF]),
  (328, 11, [bT, I 0, bF]),
  (369, 0, [IZ (-1), I 60, I 22]),
  (369, 1, [I 0, I 16, I 16]),
  (335, 4, [bT, I 0, bF])] [(326, 4, 0, I 3), (326, 4, 1, I 10), (326, 4, 5, I 3), (326, 4, 6, I 11), (330, 10, 0, U 218103808), (337, 4, 9, I 1), (337, 4, 11, I 8), (337, 4, 12, I 1), (337, 4, 16, I 7), (337, 4, 17, I 2), (337, 4, 91, I 2), (337, 4, 92, I 4), (337, 4, 95, U 1), (337, 4, 96, I 7), (337, 4, 97, I 2)]
noncomputable def h76 : H := hUpd h75 83200 [] [(82949, .cells 7 ([[I 2, I 0, I 3, I 0, I 0, I 0, U 0], [I 2, I 0, I 3, I 1, I 0, I 0, U 0], [I 2, I 1, I 3, I 4, I 0, I 0, U 0], [I 2, I 1, I 3, I 5, I 0, I 0, U 0], [I 2, I 2, I 3, I 6, I 0, I 0, U 0], [I 2, I 2, I 3, I 7, I 0, I 0, U 0], [I 2, I 3, I 3, I 8, I 0, I 0, U 0], [I 2, I 3, I 3, I 9, I 0, I 0, U 0], [I 2, I 4, I 3, I 10, I 0, I 0, U 0], [I 2, I 4, I 3, I 11, I 0, I 0, U 0], [I 4, I 0, I 8, I 0, I 0, I 0, U 0], [I 4, I 0, I 7, I 1, I 0, I 0, U 0], [I 4, I 0, I 11, I 0, I 0, I 0, U 0], [I 4, I 0, I 12, I 0, I 0, I 0, U 0], [I 4, I 0, I 13, I 0, I 0, I 0, U 0], [I 4, I 0, I 14, I 0, I 0, I 0, U 0], [I 4, I 0, I 2, I 0, I 0, I 0, U 1], [I 4, I 0, I 7, I 1, I 0, I 0, U 0], [I 4, I 1, I 8, I 1, I 0, I 0, U 0], [I 4, I 1, I 7, I 2, I 0, I 0, U 0], [I 4, I 1, I 9, I 0, I 0, I 0, U 0], [I 4, I 1, I 2, I 1, I 0, I 0, U 1], [I 4, I 1, I 7, I 2, I 0, I 0, U 0], [I 4, I 2, I 8, I 1, I 0, I 0, U 0], [I 4, I 2, I 7, I 2, I 0, I 0, U 0], [I 4, I 2, I 2, I 2, I 0, I 0, U 1], [I 4, I 2, I 7, I 2, I 0, I 0, U 0], [I 4, I 3, I 8, I 1, I 0, I 0, U 0], [I 4, I 3, I 7, I 2, I 0, I 0, U 0], [I 4, I 3, I 2, I 3, I 0, I 0, U 1], [I 4, I 3, I 7, I 2, I 0, I 0, U 0], [I 4, I 4, I 8, I 1, I 0, I 0, U 0], [I 4, I 4, I 7, I 2, I 0, I 0, U 0], [I 4, I 4, I 2, I 4, I 0, I 0, U 1], [I 4, I 4, I 7, I 2, I 0, I 0, U 0], [I 9, I 0, I 3, I 2, I 0, I 5, U 0], [I 9, I 1, I 3, I 3, I 0, I 5, U 0], [I 9, I 1, I 9, I 0, I 0, I 0, U 0]]) false)] []
noncomputable def m67 : Memo := ⟨[.ptr 377 0], h75, .slice 82949 0 38 38 7 false, h76⟩
noncomputable def l15 : List (Pur) := p25 :: p20 :: p65 :: p55 :: p45 :: p39 :: p27 :: p36 :: p35 :: p3 :: p9 :: p8 :: p7 :: p6 :: p5 :: p4 :: p64 :: p63 :: p54 :: p53 :: p44 :: p43 :: p38 :: p37 :: p2 :: p1 :: p0 :: []
theorem l15_ok {σ : Nat → Int} {W0 : World} (hL : L0 W0) : ∀ x ∈ l15, PureOk Tryz.prog 26623 σ W0 70 x := all_cons (p25_ok hL) (all_cons (p20_ok hL) (all_cons (p65_ok hL) (all_cons (p55_ok hL) (all_cons (p45_ok hL) (all_cons (p39_ok hL) (all_cons (p27_ok hL) (all_cons (p36_ok hL) (all_cons (p35_ok hL) (all_cons (p3_ok hL) (all_cons (p9_ok hL) (all_cons (p8_ok hL) (all_cons (p7_ok hL) (all_cons (p6_ok hL) (all_cons (p5_ok hL) (all_cons (p4_ok hL) (all_cons (p64_ok hL) (all_cons (p63_ok hL) (all_cons (p54_ok hL) (all_cons (p53_ok hL) (all_cons (p44_ok hL) (all_cons (p43_ok hL) (all_cons (p38_ok hL) (all_cons (p37_ok hL) (all_cons (p2_ok hL) (all_cons (p1_ok hL) (all_cons (p0_ok hL) (all_nil)))))))))))))))))))))))))))
theorem m67_run : ranTo (evCall (cxX Tryz.prog bad [] [] ((70, pureFn l15) :: q0)) 1000 60 101 m67.args m67.h) m67.v m67.h' = true := by kernel_rfl
theorem m67_ok {σ : Nat → Int} {W0 : World} (hL : L0 W0) : MemoOk Tryz.prog 26623 σ W0 101 m67 := memo_ok fit (Known2.nil σ) (FnsOk.cons (pure_fn_ok (l15_ok hL)) ((q0_ok hL))) m67_run
noncomputable def h77 : H := hUpd h75 81174 [] [] []
noncomputable def h78 : H := hUpd h75 83456 [] [] []
noncomputable def m68 : Memo := ⟨[.ptr 377 0, I 1], h77, .snil, h78⟩
noncomputable def q16 : Fns := [(101, frameFn [m67]), (239, isFn 439), (172, atoiFullFn 393), (105, itoaFullFn), (270, countFn), (312, indexFn), (271, cutOf Tryz.prog 26623 bad [(270, countFn), (312, indexFn)] 1000 20 271)]
theorem q16_ok {σ : Nat → Int} {W0 : World} (hL : L0 W0) : FnsOk Tryz.prog 26623 σ W0 q16 := FnsOk.cons (frame_fn_ok (all_cons (m67_ok hL) (all_nil))) (FnsOk.cons (ext_is hL) (FnsOk.cons (ext_atoi hL) (FnsOk.cons (ext_itoa hL) (FnsOk.cons (ext_count hL) (FnsOk.cons (ext_index hL) (FnsOk.cons (ext_cut271 hL) (FnsOk.nil)))))))
theorem m68_run : ranTo (evCall (cxX Tryz.prog bad [] [] q16) 1000 60 17 m68.args m68.h) m68.v m68.h' = true := by kernel_rfl
theorem m68_ok {σ : Nat → Int} {W0 : World} (hL : L0 W0) : MemoOk Tryz.prog 26623 σ W0 17 m68 := memo_ok fit (Known2.nil σ) ((q16_ok hL)) m68_run
noncomputable def h79 : H := hUpd h75 83464 [] [] []
noncomputable def h80 : H := hUpd h75 84224 [] [(370, .map [(.agg [I 3, I 0], .agg [I 0, I 0], 0), (.agg [I 3, I 1], .agg [I 0, I 0], 1), (.agg [I 2, I 0], .agg [I 0, I 0], 2), (.agg [I 4, I 0], .agg [I 0, I 0], 3), (.agg [I 3, I 2], .agg [I 0, I 0], 4), (.agg [I 3, I 3], .agg [I 0, I 0], 5)] 22)] [(4922, 0, [I 0]),
  (324, 1, [bF, I 1, bF]),
  (324, 2, [bF, I 1, bF]),
  (324, 3, [bF, I 1, bF]),
  (324, 4, [bF, I 1, bF]),
  (376, 0, [.slice 4922 0 0 1 1 false]),
  (328, 4, [bF, I 1, bF]),
  (328, 5, [bF, I 1, bF]),
  (328, 6, [bF, I 1, bF]),
  (328, 7, [bF, I 1, bF]),
  (328, 8, [bF, I 1, bF]),
  (328, 9, [bF, I 1, bF]),
  (328, 10, [bF, I 1, bF]),
  (328, 11, [bF, I 1, bF]),
  (333, 0, [I 16, .snil, I 59]),
  (369, 0, [IZ (-1), I 60, I 6]),
  (369, 1, [I 0, I 16, I 0]),
  (367, 1, [bF, I 1, bF]),
  (335, 1, [bF, I 1, bF]),
  (335, 2, [bF, I 1, bF]),
  (335, 3, [bF, I 1, bF]),
  (335, 4, [bF, I 1, bF])]
noncomputable def m69 : Memo := ⟨[.ptr 377 0, .agg [I 8, I 1, I 0, I 0, U 0], U 4, U 0, .agg [I 0, I 0, I 0, I 0, U 0], .agg [I 0, I 0, I 0, I 0, U 0]], h79, .agg [U 0, U 16, U 0, U 0, I 0, I 0, I 0, I 0, U 0, I 0, I 0, I 0, I 0, U 0, I 0, I 0, I 0, I 0, U 0], h80⟩
theorem m69_run : ranTo (evCall (cxX Tryz.prog bad [] [] ((70, pureFn [p35, p2]) :: q0)) 1000 60 13 m69.args m69.h) m69.v m69.h' = true := by kernel_rfl
theorem m69_ok {σ : Nat → Int} {W0 : World} (hL : L0 W0) : MemoOk Tryz.prog 26623 σ W0 13 m69 := memo_ok fit (Known2.nil σ) (FnsOk.cons (pure_fn_ok (all_cons (p35_ok hL) (all_cons (p2_ok hL) (all_nil)))) ((q0_ok hL))) m69_run
noncomputable def l17 : List (Memo) := m69 :: m62 :: m61 :: m60 :: m59 :: m31 :: m29 :: m28 :: m26 :: m23 :: m22 :: m21 :: m18 :: []
theorem l17_ok {σ : Nat → Int} {W0 : World} (hL : L0 W0) : ∀ x ∈ l17, MemoOk Tryz.prog 26623 σ W0 13 x := all_cons (m69_ok hL) (all_cons (m62_ok hL) (all_cons (m61_ok hL) (all_cons (m60_ok hL) (all_cons (m59_ok hL) (all_cons (m31_ok hL) (all_cons (m29_ok hL) (all_cons (m28_ok hL) (all_cons (m26_ok hL) (all_cons (m23_ok hL) (all_cons (m22_ok hL) (all_cons (m21_ok hL) (all_cons (m18_ok hL) (all_nil)))))))))))))
noncomputable def t20 : Sym := { s20 with names := [32, 33, 34, 39, 42, 53, 69, 73, 41, 55, 70, 35, 45, 38, 40, 44, 54, 51, 64, 30, 22, 14, 26, 10, 6, 28, 20, 24, 8, 4, 2, 29, 21, 13, 25, 9, 5, 27, 19, 23, 31, 7, 3, 1, 0] }
theorem t20_ok {W0 : World} (hL : L0 W0) : SymOk Tryz.prog 26623 W0 15 t20 := ⟨(s20_ok hL).run, fun i o hg => (by have := listed_get (l := t20.names) (t := t20.pre.tr) (off := 0) (st := 1) (by kernel_rfl) i o hg; rwa [Nat.zero_add, Nat.one_mul] at this)⟩
noncomputable def t21 : Sym := { s21 with names := [32, 33, 34, 39, 42, 53, 69, 73, 41, 55, 70, 35, 45, 38, 40, 44, 54, 51, 64, 30, 22, 14, 26, 10, 6, 28, 20, 24, 8, 4, 2, 29, 21, 13, 25, 9, 5, 27, 19, 23, 31, 7, 3, 1, 0] }
theorem t21_ok {W0 : World} (hL : L0 W0) : SymOk Tryz.prog 26623 W0 15 t21 := ⟨(s21_ok hL).run, fun i o hg => (by have := listed_get (l := t21.names) (t := t21.pre.tr) (off := 0) (st := 1) (by kernel_rfl) i o hg; rwa [Nat.zero_add, Nat.one_mul] at this)⟩
noncomputable def t22 : Sym := { s22 with names := [32, 33, 34, 36, 39, 42, 53, 69, 73, 41, 55, 52, 67, 70, 72, 35, 45, 37, 38, 40, 44, 49, 54, 66, 46, 47, 50, 51, 64, 65, 30, 22, 14, 26, 10, 6, 28, 20, 24, 8, 4, 2, 29, 21, 13, 25, 9, 5, 27, 19, 23, 31, 7, 3, 1, 0] }
theorem t22_ok {W0 : World} (hL : L0 W0) : SymOk Tryz.prog 26623 W0 15 t22 := ⟨(s22_ok hL).run, fun i o hg => (by have := listed_get (l := t22.names) (t := t22.pre.tr) (off := 0) (st := 1) (by kernel_rfl) i o hg; rwa [Nat.zero_add, Nat.one_mul] at this)⟩
noncomputable def t0 : Sym := { s0 with names := [32, 34, 42, 33, 39, 52, 66, 70, 35, 45, 38, 40, 41, 44, 53, 54, 67, 68, 69, 51, 63, 71, 30, 22, 14, 26, 10, 6, 28, 20, 24, 8, 4, 2, 29, 21, 13, 25, 9, 5, 27, 19, 23, 31, 7, 3, 1, 0] }
theorem t0_ok {W0 : World} (hL : L0 W0) : SymOk Tryz.prog 26623 W0 15 t0 := ⟨(s0_ok hL).run, fun i o hg => (by have := listed_get (l := t0.names) (t := t0.pre.tr) (off := 0) (st := 1) (by kernel_rfl) i o hg; rwa [Nat.zero_add, Nat.one_mul] at this)⟩
noncomputable def t1 : Sym := { s1 with names := [32, 33, 34, 36, 39, 42, 53, 69, 73, 41, 55, 52, 67, 70, 72, 35, 45, 48, 37, 38, 40, 44, 49, 54, 66, 68, 46, 47, 50, 51, 64, 65, 30, 22, 14, 26, 10, 6, 28, 20, 24, 8, 4, 2, 29, 21, 13, 25, 9, 5, 27, 19, 23, 31, 7, 3, 1, 0] }
theorem t1_ok {W0 : World} (hL : L0 W0) : SymOk Tryz.prog 26623 W0 15 t1 := ⟨(s1_ok hL).run, fun i o hg => (by have := listed_get (l := t1.names) (t := t1.pre.tr) (off := 0) (st := 1) (by kernel_rfl) i o hg; rwa [Nat.zero_add, Nat.one_mul] at this)⟩
noncomputable def t2 : Sym := { s2 with names := [32, 33, 34, 39, 42, 53, 69, 73, 41, 55, 70, 35, 45, 38, 40, 44, 54, 51, 64, 30, 22, 14, 26, 10, 6, 28, 20, 24, 8, 4, 2, 29, 21, 13, 25, 9, 5, 27, 19, 23, 31, 7, 3, 1, 0] }
theorem t2_ok {W0 : World} (hL : L0 W0) : SymOk Tryz.prog 26623 W0 15 t2 := ⟨(s2_ok hL).run, fun i o hg => (by have := listed_get (l := t2.names) (t := t2.pre.tr) (off := 0) (st := 1) (by kernel_rfl) i o hg; rwa [Nat.zero_add, Nat.one_mul] at this)⟩
noncomputable def t3 : Sym := { s3 with names := [32, 33, 34, 39, 42, 53, 69, 73, 41, 55, 70, 35, 45, 38, 40, 44, 54, 51, 64, 30, 22, 14, 26, 10, 6, 28, 20, 24, 8, 4, 2, 29, 21, 13, 25, 9, 5, 27, 19, 23, 31, 7, 3, 1, 0] }
theorem t3_ok {W0 : World} (hL : L0 W0) : SymOk Tryz.prog 26623 W0 15 t3 := ⟨(s3_ok hL).run, fun i o hg => (by have := listed_get (l := t3.names) (t := t3.pre.tr) (off := 0) (st := 1) (by kernel_rfl) i o hg; rwa [Nat.zero_add, Nat.one_mul] at this)⟩
noncomputable def t9 : Sym := { s9 with names := [32, 33, 34, 36, 39, 42, 53, 69, 73, 41, 55, 52, 67, 70, 72, 35, 45, 48, 37, 38, 40, 44, 49, 54, 66, 68, 46, 47, 50, 51, 64, 65, 30, 22, 14, 26, 10, 6, 28, 20, 24, 8, 4, 2, 29, 21, 13, 25, 9, 5, 27, 19, 23, 31, 7, 3, 1, 0] }
theorem t9_ok {W0 : World} (hL : L0 W0) : SymOk Tryz.prog 26623 W0 15 t9 := ⟨(s9_ok hL).run, fun i o hg => (by have := listed_get (l := t9.names) (t := t9.pre.tr) (off := 0) (st := 1) (by kernel_rfl) i o hg; rwa [Nat.zero_add, Nat.one_mul] at this)⟩
noncomputable def t10 : Sym := { s10 with names := [32, 33, 34, 39, 42, 53, 69, 73, 41, 55, 70, 35, 45, 38, 40, 44, 54, 51, 64, 30, 22, 14, 26, 10, 6, 28, 20, 24, 8, 4, 2, 29, 21, 13, 25, 9, 5, 27, 19, 23, 31, 7, 3, 1, 0] }
theorem t10_ok {W0 : World} (hL : L0 W0) : SymOk Tryz.prog 26623 W0 15 t10 := ⟨(s10_ok hL).run, fun i o hg => (by have := listed_get (l := t10.names) (t := t10.pre.tr) (off := 0) (st := 1) (by kernel_rfl) i o hg; rwa [Nat.zero_add, Nat.one_mul] at this)⟩
noncomputable def t11 : Sym := { s11 with names := [32, 33, 34, 39, 42, 53, 69, 73, 41, 55, 70, 35, 45, 38, 40, 44, 54, 51, 64, 30, 22, 14, 26, 10, 6, 28, 20, 24, 8, 4, 2, 29, 21, 13, 25, 9, 5, 27, 19, 23, 31, 7, 3, 1, 0] }
theorem t11_ok {W0 : World} (hL : L0 W0) : SymOk Tryz.prog 26623 W0 15 t11 := ⟨(s11_ok hL).run, fun i o hg => (by have := listed_get (l := t11.names) (t := t11.pre.tr) (off := 0) (st := 1) (by kernel_rfl) i o hg; rwa [Nat.zero_add, Nat.one_mul] at this)⟩
noncomputable def t16 : Sym := { s16 with names := [32, 33, 34, 36, 39, 42, 53, 69, 73, 41, 55, 52, 67, 70, 72, 35, 45, 48, 37, 38, 40, 44, 49, 54, 66, 68, 46, 47, 50, 51, 64, 65, 30, 22, 14, 26, 10, 6, 28, 20, 24, 8, 4, 2, 29, 21, 13, 25, 9, 5, 27, 19, 23, 31, 7, 3, 1, 0] }
theorem t16_ok {W0 : World} (hL : L0 W0) : SymOk Tryz.prog 26623 W0 15 t16 := ⟨(s16_ok hL).run, fun i o hg => (by have := listed_get (l := t16.names) (t := t16.pre.tr) (off := 0) (st := 1) (by kernel_rfl) i o hg; rwa [Nat.zero_add, Nat.one_mul] at this)⟩
noncomputable def t17 : Sym := { s17 with names := [32, 33, 34, 39, 42, 53, 69, 73, 41, 55, 70, 35, 45, 38, 40, 44, 54, 51, 64, 30, 22, 14, 26, 10, 6, 28, 20, 24, 8, 4, 2, 29, 21, 13, 25, 9, 5, 27, 19, 23, 31, 7, 3, 1, 0] }
theorem t17_ok {W0 : World} (hL : L0 W0) : SymOk Tryz.prog 26623 W0 15 t17 := ⟨(s17_ok hL).run, fun i o hg => (by have := listed_get (l := t17.names) (t := t17.pre.tr) (off := 0) (st := 1) (by kernel_rfl) i o hg; rwa [Nat.zero_add, Nat.one_mul] at this)⟩
noncomputable def t18 : Sym := { s18 with names := [32, 33, 34, 39, 42, 53, 69, 73, 41, 55, 70, 35, 45, 38, 40, 44, 54, 51, 64, 30, 22, 14, 26, 10, 6, 28, 20, 24, 8, 4, 2, 29, 21, 13, 25, 9, 5, 27, 19, 23, 31, 7, 3, 1, 0] }
theorem t18_ok {W0 : World} (hL : L0 W0) : SymOk Tryz.prog 26623 W0 15 t18 := ⟨(s18_ok hL).run, fun i o hg => (by have := listed_get (l := t18.names) (t := t18.pre.tr) (off := 0) (st := 1) (by kernel_rfl) i o hg; rwa [Nat.zero_add, Nat.one_mul] at this)⟩
noncomputable def t19 : Sym := { s19 with names := [32, 33, 34, 36, 39, 42, 53, 69, 73, 41, 55, 52, 67, 70, 72, 35, 45, 37, 38, 40, 44, 49, 54, 66, 46, 47, 50, 51, 64, 65, 30, 22, 14, 26, 10, 6, 28, 20, 24, 8, 4, 2, 29, 21, 13, 25, 9, 5, 27, 19, 23, 31, 7, 3, 1, 0] }
theorem t19_ok {W0 : World} (hL : L0 W0) : SymOk Tryz.prog 26623 W0 15 t19 := ⟨(s19_ok hL).run, fun i o hg => (by have := listed_get (l := t19.names) (t := t19.pre.tr) (off := 0) (st := 1) (by kernel_rfl) i o hg; rwa [Nat.zero_add, Nat.one_mul] at this)⟩
noncomputable def t8 : Sym := { s8 with names := [32, 38, 30, 22, 14, 26, 10, 6, 28, 20, 24, 8, 4, 2, 29, 21, 13, 25, 9, 5, 27, 19, 23, 31, 7, 3, 1, 0] }
theorem t8_ok {W0 : World} (hL : L0 W0) : SymOk Tryz.prog 26623 W0 15 t8 := ⟨(s8_ok hL).run, fun i o hg => (by have := listed_get (l := t8.names) (t := t8.pre.tr) (off := 0) (st := 1) (by kernel_rfl) i o hg; rwa [Nat.zero_add, Nat.one_mul] at this)⟩
noncomputable def y18 : List Sym := [t20, t21, t22, t0, t1, t2, t3, t9, t10, t11, t16, t17, t18, t19, t8]
theorem y18_ok {W0 : World} (hL : L0 W0) : ∀ x ∈ y18, SymOk Tryz.prog 26623 W0 15 x := all_cons (t20_ok hL) (all_cons (t21_ok hL) (all_cons (t22_ok hL) (all_cons (t0_ok hL) (all_cons (t1_ok hL) (all_cons (t2_ok hL) (all_cons (t3_ok hL) (all_cons (t9_ok hL) (all_cons (t10_ok hL) (all_cons (t11_ok hL) (all_cons (t16_ok hL) (all_cons (t17_ok hL) (all_cons (t18_ok hL) (all_cons (t19_ok hL) (all_cons (t8_ok hL) (all_nil)))))))))))))))
noncomputable def q19 : Fns := [(7, pureFn [p10]), (10, frameFn [m17]), (17, frameFn [m68]), (239, isFn 439), (172, atoiFullFn 393), (105, itoaFullFn), (270, countFn), (312, indexFn), (271, cutOf Tryz.prog 26623 bad [(270, countFn), (312, indexFn)] 1000 20 271)]
theorem q19_ok {σ : Nat → Int} {W0 : World} (hL : L0 W0) : FnsOk Tryz.prog 26623 σ W0 q19 := FnsOk.cons (pure_fn_ok (all_cons (p10_ok hL) (all_nil))) (FnsOk.cons (frame_fn_ok (all_cons (m17_ok hL) (all_nil))) (FnsOk.cons (frame_fn_ok (all_cons (m68_ok hL) (all_nil))) (FnsOk.cons (ext_is hL) (FnsOk.cons (ext_atoi hL) (FnsOk.cons (ext_itoa hL) (FnsOk.cons (ext_count hL) (FnsOk.cons (ext_index hL) (FnsOk.cons (ext_cut271 hL) (FnsOk.nil)))))))))
theorem run2 : isTrue (evCall (cxX Tryz.prog bad [] [] ((20, numExtE [(0, 3, .lit 2)]) :: (15, symFn (cxX Tryz.prog bad [] [] []) 32 y18) :: (13, frameFn l17) :: (9, frameFn [m14, m16]) :: q19)) 1000 60 3 [.int .i64 (.var 0)] (sentH 439 19 errTab)) = true := by kernel_rfl
theorem case2 : CaseS [] [] [(0, 3, .lit 2)] [.int .i64 (.var 0)] := caseS (fun hL hk hT => FnsOk.cons (hT.ok fit) (FnsOk.cons (sym_fn_ok (Γ := cxX Tryz.prog bad [] [] []) (fix := 32) ⟨hk.rng, hk.facts⟩ (by decide) (y18_ok hL)) (FnsOk.cons (frame_fn_ok (l17_ok hL)) (FnsOk.cons (frame_fn_ok (all_cons (m14_ok hL) (all_cons (m16_ok hL) (all_nil)))) ((q19_ok hL)))))) run2
end Go.Proofs.YtmafpninhndlnaaGreatDoor.wholeNests
