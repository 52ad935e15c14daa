/- worldAsks: calls that are run once, and the runs of the cases (part 2). -/
import Derived.Test.YtphhnhheedbjjaaGreatDoorWaK1
set_option linter.unusedVariables false
set_option maxRecDepth 10000000
namespace Go.Proofs.YtphhnhheedbjjaaGreatDoor.worldAsks
open Tk
open Go.RowKit
noncomputable def h236 : H := hUpc h196 74 [] [] [] [(42, 0, 1, U 25)]
noncomputable def s132 : Sym := ⟨[.ptr 32 0, I 0], h236, nm10, rg13,
  [(true, .bop .rem .u32 (.var 3) (.lit 32), .lit 6, true), (false, .var 5, .lit 1, false), (false, .var 4, .lit 1, false), (true, .bop .quo .u32 (.var 3) (.lit 32), .lit 0, true)],
  .agg [I 0, I 2, I 0, U 1, I 3, U 0, IZ (-1), I 0],
  [.cel 32 0 8 (.int .i64 (.add (.var 0) (.lit 1))),
  .row 40 0 ([I 16, .slice 54 0 1 1 10 false, .int .i64 (.add (.var 1) (.lit 1))]),
  .cel 42 0 0 (U 0),
  .cel 42 0 1 (U 0),
  .cel 42 0 2 (U 0),
  .cel 42 0 8 (.int .u32 (.wrap .u32 (.add (.var 3) (.lit 1)))),
  .cel 42 0 71 (I 0),
  .cel 42 0 72 (I 0),
  .row 45 0 ([IZ (-1), .int .i64 (.sub (.var 4) (.lit 1))]),
  .row 45 1 ([I 0, .int .i64 (.sub (.var 5) (.lit 1))]),
  .cel 70 2 25 (.int .u32 (.var 2))], 691⟩
theorem s132_ok : SO 11 s132 := so f14_ok (by kernel_rfl) (by kernel_rfl)
noncomputable def h237 : H := hUpc h197 74 [] [] [] [(70, 2, 20, U 0), (70, 2, 25, .int .u32 (.var 12))]
noncomputable def s133 : Sym := ⟨[.ptr 32 0, I 0], h237, nm10, rg15,
  [(true, .bop .rem .u32 (.var 4) (.lit 32), .lit 7, true), (false, .var 8, .lit 1, false), (false, .var 7, .lit 1, false), (true, .bop .quo .u32 (.var 4) (.lit 32), .lit 0, true), (false, .var 5, .lit 256, true), (false, .lit 14, .var 6, false), (true, .var 6, .lit 2, false), (true, .var 6, .lit 3, false), (true, .var 6, .lit 4, false), (true, .var 6, .lit 5, false), (true, .var 6, .lit 6, false), (true, .var 6, .lit 7, false), (true, .var 6, .lit 8, false), (true, .var 6, .lit 9, false), (true, .var 6, .lit 10, false), (true, .var 6, .lit 1, false)],
  .agg [I 0, I 1, I 0, U 0, I 0, U 0, IZ (-1), I 0],
  [.cel 32 0 8 (.int .i64 (.add (.var 0) (.lit 1))),
  .row 40 0 ([I 16, .slice 54 0 1 1 10 false, .int .i64 (.add (.var 1) (.lit 1))]),
  .cel 42 0 0 (U 0),
  .cel 42 0 8 (.int .u32 (.wrap .u32 (.add (.var 4) (.lit 1)))),
  .row 45 0 ([IZ (-1), .int .i64 (.sub (.var 7) (.lit 1))]),
  .row 45 1 ([I 0, .int .i64 (.sub (.var 8) (.lit 1))])], 774⟩
theorem s133_ok : SO 11 s133 := so f7_ok (by kernel_rfl) (by kernel_rfl)
noncomputable def s134 : Sym := ⟨[.ptr 32 0, I 0], h237, nm10, rg15,
  [(true, .bop .rem .u32 (.var 4) (.lit 32), .lit 8, true), fs 11 1, (true, .bop .and .i64 (.bop .shr .i64 (.var 11) (.lit 20)) (.lit 15), .lit 1, true), (false, .var 8, .lit 1, false), (false, .var 7, .lit 1, false), (true, .bop .quo .u32 (.var 4) (.lit 32), .lit 0, true), fa 11 16, fa 11 12, (false, .var 5, .lit 256, true), (false, .lit 14, .var 6, false), (true, .var 6, .lit 2, false), (true, .var 6, .lit 3, false), (true, .var 6, .lit 4, false), (true, .var 6, .lit 5, false), (true, .var 6, .lit 6, false), (true, .var 6, .lit 7, false), (true, .var 6, .lit 8, false), (true, .var 6, .lit 9, false), (true, .var 6, .lit 10, false), (true, .var 6, .lit 1, false)],
  .agg [I 0, I 1, I 0, U 0, I 0, U 0, IZ (-1), I 0],
  [.cel 32 0 8 (.int .i64 (.add (.var 0) (.lit 1))),
  .row 40 0 ([I 16, .slice 54 0 1 1 10 false, .int .i64 (.add (.var 1) (.lit 1))]),
  .cel 42 0 1 (.int .u32 (.bop .and .i64 (.var 11) (.lit 4095))),
  .cel 42 0 8 (.int .u32 (.wrap .u32 (.add (.var 4) (.lit 1)))),
  .row 45 0 ([IZ (-1), .int .i64 (.sub (.var 7) (.lit 1))]),
  .row 45 1 ([I 0, .int .i64 (.sub (.var 8) (.lit 1))])], 774⟩
theorem s134_ok : SO 11 s134 := so f7_ok (by kernel_rfl) (by kernel_rfl)
noncomputable def h238 : H := hUpc h198 74 [] [] [] [(70, 2, 20, U 0), (70, 2, 25, .int .u32 (.var 8)), (42, 0, 1, U 25)]
noncomputable def s135 : Sym := ⟨[.ptr 32 0, I 0], h238, nm10, rg16,
  [(true, .bop .rem .u32 (.var 2) (.lit 32), .lit 9, true), (false, .var 4, .lit 1, false), (false, .var 3, .lit 1, false), (true, .bop .quo .u32 (.var 2) (.lit 32), .lit 0, true)],
  .agg [I 0, I 2, I 0, U 0, I 3, U 0, IZ (-1), I 0],
  [.cel 32 0 8 (.int .i64 (.add (.var 0) (.lit 1))),
  .row 40 0 ([I 16, .slice 54 0 1 1 10 false, .int .i64 (.add (.var 1) (.lit 1))]),
  .cel 42 0 1 (.int .u32 (.var 8)),
  .cel 42 0 8 (.int .u32 (.wrap .u32 (.add (.var 2) (.lit 1)))),
  .row 45 0 ([IZ (-1), .int .i64 (.sub (.var 3) (.lit 1))]),
  .row 45 1 ([I 0, .int .i64 (.sub (.var 4) (.lit 1))])], 643⟩
theorem s135_ok : SO 11 s135 := so f14_ok (by kernel_rfl) (by kernel_rfl)
noncomputable def h239 : H := hUpc h199 74 [] [] [] [(70, 2, 20, U 0), (70, 2, 25, .int .u32 (.var 12))]
noncomputable def s136 : Sym := ⟨[.ptr 32 0, I 0], h239, nm17, rg15,
  [(true, .bop .rem .u32 (.var 4) (.lit 32), .lit 10, true), (false, .var 8, .lit 1, false), (false, .var 7, .lit 1, false), (true, .bop .quo .u32 (.var 4) (.lit 32), .lit 0, true), (false, .var 5, .lit 256, true), (false, .lit 14, .var 6, false), (true, .var 6, .lit 2, false), (true, .var 6, .lit 3, false), (true, .var 6, .lit 4, false), (true, .var 6, .lit 5, false), (true, .var 6, .lit 6, false), (true, .var 6, .lit 7, false), (true, .var 6, .lit 8, false), (true, .var 6, .lit 9, false), (true, .var 6, .lit 10, false), (true, .var 6, .lit 1, false)],
  .agg [I 0, I 4, I 0, U 0, I 0, U 0, IZ (-1), I 0],
  [.cel 32 0 8 (.int .i64 (.add (.var 0) (.lit 1))),
  .row 38 0 ([.slice 51 0 0 1 1 false]),
  .row 40 0 ([I 16, .slice 54 0 1 1 10 false, .int .i64 (.add (.var 1) (.lit 1))]),
  .cel 42 0 8 (.int .u32 (.wrap .u32 (.add (.var 4) (.lit 1)))),
  .cel 42 0 9 (I 4),
  .row 45 0 ([IZ (-1), .int .i64 (.sub (.var 7) (.lit 1))]),
  .row 45 1 ([I 0, .int .i64 (.sub (.var 8) (.lit 1))])], 764⟩
theorem s136_ok : SO 11 s136 := so f7_ok (by kernel_rfl) (by kernel_rfl)
noncomputable def h240 : H := hUpd h200 414 [] [] [(78, 2, [.str [50, 54]])]
noncomputable def h241 : H := hUpd h240 475 [] [] []
noncomputable def m77 : Memo := ⟨[.slice 78 0 3 3 1 false, .map 135], h240, .tuple [U 17825818, .inil], h241⟩
theorem m77_run : ranTo (evCall (cxX Tryz.prog bad [] [] q0) 1000 60 40 m77.args m77.h) m77.v m77.h' = true := by kernel_rfl
theorem m77_ok {σ : Nat → Int} {W0 : World} (hL : L0 W0) : MemoOk Tryz.prog 412927 σ W0 40 m77 := memo_ok fit (Known2.nil σ) ((q0_ok hL)) m77_run
noncomputable def h242 : H := hUpd h202 680 [] [] [(116, 2, [.str [50, 54]])]
noncomputable def h243 : H := hUpd h242 741 [] [] []
noncomputable def m78 : Memo := ⟨[.slice 116 0 3 3 1 false, .map 135], h242, .tuple [U 17825818, .inil], h243⟩
theorem m78_run : ranTo (evCall (cxX Tryz.prog bad [] [] q0) 1000 60 40 m78.args m78.h) m78.v m78.h' = true := by kernel_rfl
theorem m78_ok {σ : Nat → Int} {W0 : World} (hL : L0 W0) : MemoOk Tryz.prog 412927 σ W0 40 m78 := memo_ok fit (Known2.nil σ) ((q0_ok hL)) m78_run
noncomputable def h244 : H := hUpc h204 74 [] [] [] [(42, 0, 1, U 26)]
noncomputable def s137 : Sym := ⟨[.ptr 32 0, I 0], h244, nm10, rg13,
  [(true, .bop .rem .u32 (.var 3) (.lit 32), .lit 6, true), (false, .var 5, .lit 1, false), (false, .var 4, .lit 1, false), (true, .bop .quo .u32 (.var 3) (.lit 32), .lit 0, true)],
  .agg [I 0, I 2, I 0, U 1, I 3, U 0, IZ (-1), I 0],
  [.cel 32 0 8 (.int .i64 (.add (.var 0) (.lit 1))),
  .row 40 0 ([I 16, .slice 54 0 1 1 10 false, .int .i64 (.add (.var 1) (.lit 1))]),
  .cel 42 0 0 (U 0),
  .cel 42 0 1 (U 0),
  .cel 42 0 2 (U 0),
  .cel 42 0 8 (.int .u32 (.wrap .u32 (.add (.var 3) (.lit 1)))),
  .cel 42 0 71 (I 0),
  .cel 42 0 72 (I 0),
  .row 45 0 ([IZ (-1), .int .i64 (.sub (.var 4) (.lit 1))]),
  .row 45 1 ([I 0, .int .i64 (.sub (.var 5) (.lit 1))]),
  .cel 70 2 26 (.int .u32 (.var 2))], 691⟩
theorem s137_ok : SO 11 s137 := so f14_ok (by kernel_rfl) (by kernel_rfl)
noncomputable def h245 : H := hUpc h205 74 [] [] [] [(70, 2, 21, U 0), (70, 2, 26, .int .u32 (.var 12))]
noncomputable def s138 : Sym := ⟨[.ptr 32 0, I 0], h245, nm10, rg15,
  [(true, .bop .rem .u32 (.var 4) (.lit 32), .lit 7, true), (false, .var 8, .lit 1, false), (false, .var 7, .lit 1, false), (true, .bop .quo .u32 (.var 4) (.lit 32), .lit 0, true), (false, .var 5, .lit 256, true), (false, .lit 14, .var 6, false), (true, .var 6, .lit 2, false), (true, .var 6, .lit 3, false), (true, .var 6, .lit 4, false), (true, .var 6, .lit 5, false), (true, .var 6, .lit 6, false), (true, .var 6, .lit 7, false), (true, .var 6, .lit 8, false), (true, .var 6, .lit 9, false), (true, .var 6, .lit 10, false), (true, .var 6, .lit 1, false)],
  .agg [I 0, I 1, I 0, U 0, I 0, U 0, IZ (-1), I 0],
  [.cel 32 0 8 (.int .i64 (.add (.var 0) (.lit 1))),
  .row 40 0 ([I 16, .slice 54 0 1 1 10 false, .int .i64 (.add (.var 1) (.lit 1))]),
  .cel 42 0 0 (U 0),
  .cel 42 0 8 (.int .u32 (.wrap .u32 (.add (.var 4) (.lit 1)))),
  .row 45 0 ([IZ (-1), .int .i64 (.sub (.var 7) (.lit 1))]),
  .row 45 1 ([I 0, .int .i64 (.sub (.var 8) (.lit 1))])], 774⟩
theorem s138_ok : SO 11 s138 := so f7_ok (by kernel_rfl) (by kernel_rfl)
noncomputable def s139 : Sym := ⟨[.ptr 32 0, I 0], h245, nm10, rg15,
  [(true, .bop .rem .u32 (.var 4) (.lit 32), .lit 8, true), fs 11 1, (true, .bop .and .i64 (.bop .shr .i64 (.var 11) (.lit 20)) (.lit 15), .lit 1, true), (false, .var 8, .lit 1, false), (false, .var 7, .lit 1, false), (true, .bop .quo .u32 (.var 4) (.lit 32), .lit 0, true), fa 11 16, fa 11 12, (false, .var 5, .lit 256, true), (false, .lit 14, .var 6, false), (true, .var 6, .lit 2, false), (true, .var 6, .lit 3, false), (true, .var 6, .lit 4, false), (true, .var 6, .lit 5, false), (true, .var 6, .lit 6, false), (true, .var 6, .lit 7, false), (true, .var 6, .lit 8, false), (true, .var 6, .lit 9, false), (true, .var 6, .lit 10, false), (true, .var 6, .lit 1, false)],
  .agg [I 0, I 1, I 0, U 0, I 0, U 0, IZ (-1), I 0],
  [.cel 32 0 8 (.int .i64 (.add (.var 0) (.lit 1))),
  .row 40 0 ([I 16, .slice 54 0 1 1 10 false, .int .i64 (.add (.var 1) (.lit 1))]),
  .cel 42 0 1 (.int .u32 (.bop .and .i64 (.var 11) (.lit 4095))),
  .cel 42 0 8 (.int .u32 (.wrap .u32 (.add (.var 4) (.lit 1)))),
  .row 45 0 ([IZ (-1), .int .i64 (.sub (.var 7) (.lit 1))]),
  .row 45 1 ([I 0, .int .i64 (.sub (.var 8) (.lit 1))])], 774⟩
theorem s139_ok : SO 11 s139 := so f7_ok (by kernel_rfl) (by kernel_rfl)
noncomputable def h246 : H := hUpc h206 74 [] [] [] [(70, 2, 21, U 0), (70, 2, 26, .int .u32 (.var 8)), (42, 0, 1, U 26)]
noncomputable def s140 : Sym := ⟨[.ptr 32 0, I 0], h246, nm10, rg16,
  [(true, .bop .rem .u32 (.var 2) (.lit 32), .lit 9, true), (false, .var 4, .lit 1, false), (false, .var 3, .lit 1, false), (true, .bop .quo .u32 (.var 2) (.lit 32), .lit 0, true)],
  .agg [I 0, I 2, I 0, U 0, I 3, U 0, IZ (-1), I 0],
  [.cel 32 0 8 (.int .i64 (.add (.var 0) (.lit 1))),
  .row 40 0 ([I 16, .slice 54 0 1 1 10 false, .int .i64 (.add (.var 1) (.lit 1))]),
  .cel 42 0 1 (.int .u32 (.var 8)),
  .cel 42 0 8 (.int .u32 (.wrap .u32 (.add (.var 2) (.lit 1)))),
  .row 45 0 ([IZ (-1), .int .i64 (.sub (.var 3) (.lit 1))]),
  .row 45 1 ([I 0, .int .i64 (.sub (.var 4) (.lit 1))])], 643⟩
theorem s140_ok : SO 11 s140 := so f14_ok (by kernel_rfl) (by kernel_rfl)
noncomputable def h247 : H := hUpc h207 74 [] [] [] [(70, 2, 21, U 0), (70, 2, 26, .int .u32 (.var 12))]
noncomputable def s141 : Sym := ⟨[.ptr 32 0, I 0], h247, nm17, rg15,
  [(true, .bop .rem .u32 (.var 4) (.lit 32), .lit 10, true), (false, .var 8, .lit 1, false), (false, .var 7, .lit 1, false), (true, .bop .quo .u32 (.var 4) (.lit 32), .lit 0, true), (false, .var 5, .lit 256, true), (false, .lit 14, .var 6, false), (true, .var 6, .lit 2, false), (true, .var 6, .lit 3, false), (true, .var 6, .lit 4, false), (true, .var 6, .lit 5, false), (true, .var 6, .lit 6, false), (true, .var 6, .lit 7, false), (true, .var 6, .lit 8, false), (true, .var 6, .lit 9, false), (true, .var 6, .lit 10, false), (true, .var 6, .lit 1, false)],
  .agg [I 0, I 4, I 0, U 0, I 0, U 0, IZ (-1), I 0],
  [.cel 32 0 8 (.int .i64 (.add (.var 0) (.lit 1))),
  .row 38 0 ([.slice 51 0 0 1 1 false]),
  .row 40 0 ([I 16, .slice 54 0 1 1 10 false, .int .i64 (.add (.var 1) (.lit 1))]),
  .cel 42 0 8 (.int .u32 (.wrap .u32 (.add (.var 4) (.lit 1)))),
  .cel 42 0 9 (I 4),
  .row 45 0 ([IZ (-1), .int .i64 (.sub (.var 7) (.lit 1))]),
  .row 45 1 ([I 0, .int .i64 (.sub (.var 8) (.lit 1))])], 764⟩
theorem s141_ok : SO 11 s141 := so f7_ok (by kernel_rfl) (by kernel_rfl)
noncomputable def h248 : H := hUpd h208 414 [] [] [(78, 2, [.str [50, 55]])]
noncomputable def h249 : H := hUpd h248 475 [] [] []
noncomputable def m79 : Memo := ⟨[.slice 78 0 3 3 1 false, .map 135], h248, .tuple [U 17825819, .inil], h249⟩
theorem m79_run : ranTo (evCall (cxX Tryz.prog bad [] [] q0) 1000 60 40 m79.args m79.h) m79.v m79.h' = true := by kernel_rfl
theorem m79_ok {σ : Nat → Int} {W0 : World} (hL : L0 W0) : MemoOk Tryz.prog 412927 σ W0 40 m79 := memo_ok fit (Known2.nil σ) ((q0_ok hL)) m79_run
noncomputable def h250 : H := hUpd h210 680 [] [] [(116, 2, [.str [50, 55]])]
noncomputable def h251 : H := hUpd h250 741 [] [] []
noncomputable def m80 : Memo := ⟨[.slice 116 0 3 3 1 false, .map 135], h250, .tuple [U 17825819, .inil], h251⟩
theorem m80_run : ranTo (evCall (cxX Tryz.prog bad [] [] q0) 1000 60 40 m80.args m80.h) m80.v m80.h' = true := by kernel_rfl
theorem m80_ok {σ : Nat → Int} {W0 : World} (hL : L0 W0) : MemoOk Tryz.prog 412927 σ W0 40 m80 := memo_ok fit (Known2.nil σ) ((q0_ok hL)) m80_run
noncomputable def h252 : H := hUpc h212 74 [] [] [] [(42, 0, 1, U 27)]
noncomputable def s142 : Sym := ⟨[.ptr 32 0, I 0], h252, nm10, rg13,
  [(true, .bop .rem .u32 (.var 3) (.lit 32), .lit 6, true), (false, .var 5, .lit 1, false), (false, .var 4, .lit 1, false), (true, .bop .quo .u32 (.var 3) (.lit 32), .lit 0, true)],
  .agg [I 0, I 2, I 0, U 1, I 3, U 0, IZ (-1), I 0],
  [.cel 32 0 8 (.int .i64 (.add (.var 0) (.lit 1))),
  .row 40 0 ([I 16, .slice 54 0 1 1 10 false, .int .i64 (.add (.var 1) (.lit 1))]),
  .cel 42 0 0 (U 0),
  .cel 42 0 1 (U 0),
  .cel 42 0 2 (U 0),
  .cel 42 0 8 (.int .u32 (.wrap .u32 (.add (.var 3) (.lit 1)))),
  .cel 42 0 71 (I 0),
  .cel 42 0 72 (I 0),
  .row 45 0 ([IZ (-1), .int .i64 (.sub (.var 4) (.lit 1))]),
  .row 45 1 ([I 0, .int .i64 (.sub (.var 5) (.lit 1))]),
  .cel 70 2 27 (.int .u32 (.var 2))], 691⟩
theorem s142_ok : SO 11 s142 := so f14_ok (by kernel_rfl) (by kernel_rfl)
noncomputable def h253 : H := hUpc h213 74 [] [] [] [(70, 2, 22, U 0), (70, 2, 27, .int .u32 (.var 12))]
noncomputable def s143 : Sym := ⟨[.ptr 32 0, I 0], h253, nm10, rg15,
  [(true, .bop .rem .u32 (.var 4) (.lit 32), .lit 7, true), (false, .var 8, .lit 1, false), (false, .var 7, .lit 1, false), (true, .bop .quo .u32 (.var 4) (.lit 32), .lit 0, true), (false, .var 5, .lit 256, true), (false, .lit 14, .var 6, false), (true, .var 6, .lit 2, false), (true, .var 6, .lit 3, false), (true, .var 6, .lit 4, false), (true, .var 6, .lit 5, false), (true, .var 6, .lit 6, false), (true, .var 6, .lit 7, false), (true, .var 6, .lit 8, false), (true, .var 6, .lit 9, false), (true, .var 6, .lit 10, false), (true, .var 6, .lit 1, false)],
  .agg [I 0, I 1, I 0, U 0, I 0, U 0, IZ (-1), I 0],
  [.cel 32 0 8 (.int .i64 (.add (.var 0) (.lit 1))),
  .row 40 0 ([I 16, .slice 54 0 1 1 10 false, .int .i64 (.add (.var 1) (.lit 1))]),
  .cel 42 0 0 (U 0),
  .cel 42 0 8 (.int .u32 (.wrap .u32 (.add (.var 4) (.lit 1)))),
  .row 45 0 ([IZ (-1), .int .i64 (.sub (.var 7) (.lit 1))]),
  .row 45 1 ([I 0, .int .i64 (.sub (.var 8) (.lit 1))])], 774⟩
theorem s143_ok : SO 11 s143 := so f7_ok (by kernel_rfl) (by kernel_rfl)
noncomputable def s144 : Sym := ⟨[.ptr 32 0, I 0], h253, nm10, rg15,
  [(true, .bop .rem .u32 (.var 4) (.lit 32), .lit 8, true), fs 11 1, (true, .bop .and .i64 (.bop .shr .i64 (.var 11) (.lit 20)) (.lit 15), .lit 1, true), (false, .var 8, .lit 1, false), (false, .var 7, .lit 1, false), (true, .bop .quo .u32 (.var 4) (.lit 32), .lit 0, true), fa 11 16, fa 11 12, (false, .var 5, .lit 256, true), (false, .lit 14, .var 6, false), (true, .var 6, .lit 2, false), (true, .var 6, .lit 3, false), (true, .var 6, .lit 4, false), (true, .var 6, .lit 5, false), (true, .var 6, .lit 6, false), (true, .var 6, .lit 7, false), (true, .var 6, .lit 8, false), (true, .var 6, .lit 9, false), (true, .var 6, .lit 10, false), (true, .var 6, .lit 1, false)],
  .agg [I 0, I 1, I 0, U 0, I 0, U 0, IZ (-1), I 0],
  [.cel 32 0 8 (.int .i64 (.add (.var 0) (.lit 1))),
  .row 40 0 ([I 16, .slice 54 0 1 1 10 false, .int .i64 (.add (.var 1) (.lit 1))]),
  .cel 42 0 1 (.int .u32 (.bop .and .i64 (.var 11) (.lit 4095))),
  .cel 42 0 8 (.int .u32 (.wrap .u32 (.add (.var 4) (.lit 1)))),
  .row 45 0 ([IZ (-1), .int .i64 (.sub (.var 7) (.lit 1))]),
  .row 45 1 ([I 0, .int .i64 (.sub (.var 8) (.lit 1))])], 774⟩
theorem s144_ok : SO 11 s144 := so f7_ok (by kernel_rfl) (by kernel_rfl)
noncomputable def h254 : H := hUpc h214 74 [] [] [] [(70, 2, 22, U 0), (70, 2, 27, .int .u32 (.var 8)), (42, 0, 1, U 27)]
noncomputable def s145 : Sym := ⟨[.ptr 32 0, I 0], h254, nm10, rg16,
  [(true, .bop .rem .u32 (.var 2) (.lit 32), .lit 9, true), (false, .var 4, .lit 1, false), (false, .var 3, .lit 1, false), (true, .bop .quo .u32 (.var 2) (.lit 32), .lit 0, true)],
  .agg [I 0, I 2, I 0, U 0, I 3, U 0, IZ (-1), I 0],
  [.cel 32 0 8 (.int .i64 (.add (.var 0) (.lit 1))),
  .row 40 0 ([I 16, .slice 54 0 1 1 10 false, .int .i64 (.add (.var 1) (.lit 1))]),
  .cel 42 0 1 (.int .u32 (.var 8)),
  .cel 42 0 8 (.int .u32 (.wrap .u32 (.add (.var 2) (.lit 1)))),
  .row 45 0 ([IZ (-1), .int .i64 (.sub (.var 3) (.lit 1))]),
  .row 45 1 ([I 0, .int .i64 (.sub (.var 4) (.lit 1))])], 643⟩
theorem s145_ok : SO 11 s145 := so f14_ok (by kernel_rfl) (by kernel_rfl)
noncomputable def h255 : H := hUpc h215 74 [] [] [] [(70, 2, 22, U 0), (70, 2, 27, .int .u32 (.var 12))]
noncomputable def s146 : Sym := ⟨[.ptr 32 0, I 0], h255, nm17, rg15,
  [(true, .bop .rem .u32 (.var 4) (.lit 32), .lit 10, true), (false, .var 8, .lit 1, false), (false, .var 7, .lit 1, false), (true, .bop .quo .u32 (.var 4) (.lit 32), .lit 0, true), (false, .var 5, .lit 256, true), (false, .lit 14, .var 6, false), (true, .var 6, .lit 2, false), (true, .var 6, .lit 3, false), (true, .var 6, .lit 4, false), (true, .var 6, .lit 5, false), (true, .var 6, .lit 6, false), (true, .var 6, .lit 7, false), (true, .var 6, .lit 8, false), (true, .var 6, .lit 9, false), (true, .var 6, .lit 10, false), (true, .var 6, .lit 1, false)],
  .agg [I 0, I 4, I 0, U 0, I 0, U 0, IZ (-1), I 0],
  [.cel 32 0 8 (.int .i64 (.add (.var 0) (.lit 1))),
  .row 38 0 ([.slice 51 0 0 1 1 false]),
  .row 40 0 ([I 16, .slice 54 0 1 1 10 false, .int .i64 (.add (.var 1) (.lit 1))]),
  .cel 42 0 8 (.int .u32 (.wrap .u32 (.add (.var 4) (.lit 1)))),
  .cel 42 0 9 (I 4),
  .row 45 0 ([IZ (-1), .int .i64 (.sub (.var 7) (.lit 1))]),
  .row 45 1 ([I 0, .int .i64 (.sub (.var 8) (.lit 1))])], 764⟩
theorem s146_ok : SO 11 s146 := so f7_ok (by kernel_rfl) (by kernel_rfl)
noncomputable def h256 : H := hUpd h216 414 [] [] [(78, 2, [.str [50, 56]])]
noncomputable def h257 : H := hUpd h256 475 [] [] []
noncomputable def m81 : Memo := ⟨[.slice 78 0 3 3 1 false, .map 135], h256, .tuple [U 17825820, .inil], h257⟩
theorem m81_run : ranTo (evCall (cxX Tryz.prog bad [] [] q0) 1000 60 40 m81.args m81.h) m81.v m81.h' = true := by kernel_rfl
theorem m81_ok {σ : Nat → Int} {W0 : World} (hL : L0 W0) : MemoOk Tryz.prog 412927 σ W0 40 m81 := memo_ok fit (Known2.nil σ) ((q0_ok hL)) m81_run
noncomputable def h258 : H := hUpd h218 680 [] [] [(116, 2, [.str [50, 56]])]
noncomputable def h259 : H := hUpd h258 741 [] [] []
noncomputable def m82 : Memo := ⟨[.slice 116 0 3 3 1 false, .map 135], h258, .tuple [U 17825820, .inil], h259⟩
theorem m82_run : ranTo (evCall (cxX Tryz.prog bad [] [] q0) 1000 60 40 m82.args m82.h) m82.v m82.h' = true := by kernel_rfl
theorem m82_ok {σ : Nat → Int} {W0 : World} (hL : L0 W0) : MemoOk Tryz.prog 412927 σ W0 40 m82 := memo_ok fit (Known2.nil σ) ((q0_ok hL)) m82_run
noncomputable def h260 : H := hUpc h220 74 [] [] [] [(42, 0, 1, U 28)]
noncomputable def s147 : Sym := ⟨[.ptr 32 0, I 0], h260, nm10, rg13,
  [(true, .bop .rem .u32 (.var 3) (.lit 32), .lit 6, true), (false, .var 5, .lit 1, false), (false, .var 4, .lit 1, false), (true, .bop .quo .u32 (.var 3) (.lit 32), .lit 0, true)],
  .agg [I 0, I 2, I 0, U 1, I 3, U 0, IZ (-1), I 0],
  [.cel 32 0 8 (.int .i64 (.add (.var 0) (.lit 1))),
  .row 40 0 ([I 16, .slice 54 0 1 1 10 false, .int .i64 (.add (.var 1) (.lit 1))]),
  .cel 42 0 0 (U 0),
  .cel 42 0 1 (U 0),
  .cel 42 0 2 (U 0),
  .cel 42 0 8 (.int .u32 (.wrap .u32 (.add (.var 3) (.lit 1)))),
  .cel 42 0 71 (I 0),
  .cel 42 0 72 (I 0),
  .row 45 0 ([IZ (-1), .int .i64 (.sub (.var 4) (.lit 1))]),
  .row 45 1 ([I 0, .int .i64 (.sub (.var 5) (.lit 1))]),
  .cel 70 2 28 (.int .u32 (.var 2))], 691⟩
theorem s147_ok : SO 11 s147 := so f14_ok (by kernel_rfl) (by kernel_rfl)
noncomputable def h261 : H := hUpc h221 74 [] [] [] [(70, 2, 23, U 0), (70, 2, 28, .int .u32 (.var 12))]
noncomputable def s148 : Sym := ⟨[.ptr 32 0, I 0], h261, nm10, rg15,
  [(true, .bop .rem .u32 (.var 4) (.lit 32), .lit 7, true), (false, .var 8, .lit 1, false), (false, .var 7, .lit 1, false), (true, .bop .quo .u32 (.var 4) (.lit 32), .lit 0, true), (false, .var 5, .lit 256, true), (false, .lit 14, .var 6, false), (true, .var 6, .lit 2, false), (true, .var 6, .lit 3, false), (true, .var 6, .lit 4, false), (true, .var 6, .lit 5, false), (true, .var 6, .lit 6, false), (true, .var 6, .lit 7, false), (true, .var 6, .lit 8, false), (true, .var 6, .lit 9, false), (true, .var 6, .lit 10, false), (true, .var 6, .lit 1, false)],
  .agg [I 0, I 1, I 0, U 0, I 0, U 0, IZ (-1), I 0],
  [.cel 32 0 8 (.int .i64 (.add (.var 0) (.lit 1))),
  .row 40 0 ([I 16, .slice 54 0 1 1 10 false, .int .i64 (.add (.var 1) (.lit 1))]),
  .cel 42 0 0 (U 0),
  .cel 42 0 8 (.int .u32 (.wrap .u32 (.add (.var 4) (.lit 1)))),
  .row 45 0 ([IZ (-1), .int .i64 (.sub (.var 7) (.lit 1))]),
  .row 45 1 ([I 0, .int .i64 (.sub (.var 8) (.lit 1))])], 774⟩
theorem s148_ok : SO 11 s148 := so f7_ok (by kernel_rfl) (by kernel_rfl)
noncomputable def s149 : Sym := ⟨[.ptr 32 0, I 0], h261, nm10, rg15,
  [(true, .bop .rem .u32 (.var 4) (.lit 32), .lit 8, true), fs 11 1, (true, .bop .and .i64 (.bop .shr .i64 (.var 11) (.lit 20)) (.lit 15), .lit 1, true), (false, .var 8, .lit 1, false), (false, .var 7, .lit 1, false), (true, .bop .quo .u32 (.var 4) (.lit 32), .lit 0, true), fa 11 16, fa 11 12, (false, .var 5, .lit 256, true), (false, .lit 14, .var 6, false), (true, .var 6, .lit 2, false), (true, .var 6, .lit 3, false), (true, .var 6, .lit 4, false), (true, .var 6, .lit 5, false), (true, .var 6, .lit 6, false), (true, .var 6, .lit 7, false), (true, .var 6, .lit 8, false), (true, .var 6, .lit 9, false), (true, .var 6, .lit 10, false), (true, .var 6, .lit 1, false)],
  .agg [I 0, I 1, I 0, U 0, I 0, U 0, IZ (-1), I 0],
  [.cel 32 0 8 (.int .i64 (.add (.var 0) (.lit 1))),
  .row 40 0 ([I 16, .slice 54 0 1 1 10 false, .int .i64 (.add (.var 1) (.lit 1))]),
  .cel 42 0 1 (.int .u32 (.bop .and .i64 (.var 11) (.lit 4095))),
  .cel 42 0 8 (.int .u32 (.wrap .u32 (.add (.var 4) (.lit 1)))),
  .row 45 0 ([IZ (-1), .int .i64 (.sub (.var 7) (.lit 1))]),
  .row 45 1 ([I 0, .int .i64 (.sub (.var 8) (.lit 1))])], 774⟩
theorem s149_ok : SO 11 s149 := so f7_ok (by kernel_rfl) (by kernel_rfl)
noncomputable def h262 : H := hUpc h222 74 [] [] [] [(70, 2, 23, U 0), (70, 2, 28, .int .u32 (.var 8)), (42, 0, 1, U 28)]
noncomputable def s150 : Sym := ⟨[.ptr 32 0, I 0], h262, nm10, rg16,
  [(true, .bop .rem .u32 (.var 2) (.lit 32), .lit 9, true), (false, .var 4, .lit 1, false), (false, .var 3, .lit 1, false), (true, .bop .quo .u32 (.var 2) (.lit 32), .lit 0, true)],
  .agg [I 0, I 2, I 0, U 0, I 3, U 0, IZ (-1), I 0],
  [.cel 32 0 8 (.int .i64 (.add (.var 0) (.lit 1))),
  .row 40 0 ([I 16, .slice 54 0 1 1 10 false, .int .i64 (.add (.var 1) (.lit 1))]),
  .cel 42 0 1 (.int .u32 (.var 8)),
  .cel 42 0 8 (.int .u32 (.wrap .u32 (.add (.var 2) (.lit 1)))),
  .row 45 0 ([IZ (-1), .int .i64 (.sub (.var 3) (.lit 1))]),
  .row 45 1 ([I 0, .int .i64 (.sub (.var 4) (.lit 1))])], 643⟩
theorem s150_ok : SO 11 s150 := so f14_ok (by kernel_rfl) (by kernel_rfl)
noncomputable def h263 : H := hUpc h223 74 [] [] [] [(70, 2, 23, U 0), (70, 2, 28, .int .u32 (.var 12))]
noncomputable def s151 : Sym := ⟨[.ptr 32 0, I 0], h263, nm17, rg15,
  [(true, .bop .rem .u32 (.var 4) (.lit 32), .lit 10, true), (false, .var 8, .lit 1, false), (false, .var 7, .lit 1, false), (true, .bop .quo .u32 (.var 4) (.lit 32), .lit 0, true), (false, .var 5, .lit 256, true), (false, .lit 14, .var 6, false), (true, .var 6, .lit 2, false), (true, .var 6, .lit 3, false), (true, .var 6, .lit 4, false), (true, .var 6, .lit 5, false), (true, .var 6, .lit 6, false), (true, .var 6, .lit 7, false), (true, .var 6, .lit 8, false), (true, .var 6, .lit 9, false), (true, .var 6, .lit 10, false), (true, .var 6, .lit 1, false)],
  .agg [I 0, I 4, I 0, U 0, I 0, U 0, IZ (-1), I 0],
  [.cel 32 0 8 (.int .i64 (.add (.var 0) (.lit 1))),
  .row 38 0 ([.slice 51 0 0 1 1 false]),
  .row 40 0 ([I 16, .slice 54 0 1 1 10 false, .int .i64 (.add (.var 1) (.lit 1))]),
  .cel 42 0 8 (.int .u32 (.wrap .u32 (.add (.var 4) (.lit 1)))),
  .cel 42 0 9 (I 4),
  .row 45 0 ([IZ (-1), .int .i64 (.sub (.var 7) (.lit 1))]),
  .row 45 1 ([I 0, .int .i64 (.sub (.var 8) (.lit 1))])], 764⟩
theorem s151_ok : SO 11 s151 := so f7_ok (by kernel_rfl) (by kernel_rfl)
noncomputable def h264 : H := hUpd h224 414 [] [] [(78, 2, [.str [50, 57]])]
noncomputable def h265 : H := hUpd h264 475 [] [] []
noncomputable def m83 : Memo := ⟨[.slice 78 0 3 3 1 false, .map 135], h264, .tuple [U 17825821, .inil], h265⟩
theorem m83_run : ranTo (evCall (cxX Tryz.prog bad [] [] q0) 1000 60 40 m83.args m83.h) m83.v m83.h' = true := by kernel_rfl
theorem m83_ok {σ : Nat → Int} {W0 : World} (hL : L0 W0) : MemoOk Tryz.prog 412927 σ W0 40 m83 := memo_ok fit (Known2.nil σ) ((q0_ok hL)) m83_run
noncomputable def h266 : H := hUpd h226 680 [] [] [(116, 2, [.str [50, 57]])]
noncomputable def h267 : H := hUpd h266 741 [] [] []
noncomputable def m84 : Memo := ⟨[.slice 116 0 3 3 1 false, .map 135], h266, .tuple [U 17825821, .inil], h267⟩
theorem m84_run : ranTo (evCall (cxX Tryz.prog bad [] [] q0) 1000 60 40 m84.args m84.h) m84.v m84.h' = true := by kernel_rfl
theorem m84_ok {σ : Nat → Int} {W0 : World} (hL : L0 W0) : MemoOk Tryz.prog 412927 σ W0 40 m84 := memo_ok fit (Known2.nil σ) ((q0_ok hL)) m84_run
noncomputable def h268 : H := hUpc h228 74 [] [] [] [(42, 0, 1, U 29)]
noncomputable def s152 : Sym := ⟨[.ptr 32 0, I 0], h268, nm10, rg13,
  [(true, .bop .rem .u32 (.var 3) (.lit 32), .lit 6, true), (false, .var 5, .lit 1, false), (false, .var 4, .lit 1, false), (true, .bop .quo .u32 (.var 3) (.lit 32), .lit 0, true)],
  .agg [I 0, I 2, I 0, U 1, I 3, U 0, IZ (-1), I 0],
  [.cel 32 0 8 (.int .i64 (.add (.var 0) (.lit 1))),
  .row 40 0 ([I 16, .slice 54 0 1 1 10 false, .int .i64 (.add (.var 1) (.lit 1))]),
  .cel 42 0 0 (U 0),
  .cel 42 0 1 (U 0),
  .cel 42 0 2 (U 0),
  .cel 42 0 8 (.int .u32 (.wrap .u32 (.add (.var 3) (.lit 1)))),
  .cel 42 0 71 (I 0),
  .cel 42 0 72 (I 0),
  .row 45 0 ([IZ (-1), .int .i64 (.sub (.var 4) (.lit 1))]),
  .row 45 1 ([I 0, .int .i64 (.sub (.var 5) (.lit 1))]),
  .cel 70 2 29 (.int .u32 (.var 2))], 691⟩
theorem s152_ok : SO 11 s152 := so f14_ok (by kernel_rfl) (by kernel_rfl)
noncomputable def h269 : H := hUpc h229 74 [] [] [] [(70, 2, 24, U 0), (70, 2, 29, .int .u32 (.var 12))]
noncomputable def s153 : Sym := ⟨[.ptr 32 0, I 0], h269, nm10, rg15,
  [(true, .bop .rem .u32 (.var 4) (.lit 32), .lit 7, true), (false, .var 8, .lit 1, false), (false, .var 7, .lit 1, false), (true, .bop .quo .u32 (.var 4) (.lit 32), .lit 0, true), (false, .var 5, .lit 256, true), (false, .lit 14, .var 6, false), (true, .var 6, .lit 2, false), (true, .var 6, .lit 3, false), (true, .var 6, .lit 4, false), (true, .var 6, .lit 5, false), (true, .var 6, .lit 6, false), (true, .var 6, .lit 7, false), (true, .var 6, .lit 8, false), (true, .var 6, .lit 9, false), (true, .var 6, .lit 10, false), (true, .var 6, .lit 1, false)],
  .agg [I 0, I 1, I 0, U 0, I 0, U 0, IZ (-1), I 0],
  [.cel 32 0 8 (.int .i64 (.add (.var 0) (.lit 1))),
  .row 40 0 ([I 16, .slice 54 0 1 1 10 false, .int .i64 (.add (.var 1) (.lit 1))]),
  .cel 42 0 0 (U 0),
  .cel 42 0 8 (.int .u32 (.wrap .u32 (.add (.var 4) (.lit 1)))),
  .row 45 0 ([IZ (-1), .int .i64 (.sub (.var 7) (.lit 1))]),
  .row 45 1 ([I 0, .int .i64 (.sub (.var 8) (.lit 1))])], 774⟩
theorem s153_ok : SO 11 s153 := so f7_ok (by kernel_rfl) (by kernel_rfl)
noncomputable def s154 : Sym := ⟨[.ptr 32 0, I 0], h269, nm10, rg15,
  [(true, .bop .rem .u32 (.var 4) (.lit 32), .lit 8, true), fs 11 1, (true, .bop .and .i64 (.bop .shr .i64 (.var 11) (.lit 20)) (.lit 15), .lit 1, true), (false, .var 8, .lit 1, false), (false, .var 7, .lit 1, false), (true, .bop .quo .u32 (.var 4) (.lit 32), .lit 0, true), fa 11 16, fa 11 12, (false, .var 5, .lit 256, true), (false, .lit 14, .var 6, false), (true, .var 6, .lit 2, false), (true, .var 6, .lit 3, false), (true, .var 6, .lit 4, false), (true, .var 6, .lit 5, false), (true, .var 6, .lit 6, false), (true, .var 6, .lit 7, false), (true, .var 6, .lit 8, false), (true, .var 6, .lit 9, false), (true, .var 6, .lit 10, false), (true, .var 6, .lit 1, false)],
  .agg [I 0, I 1, I 0, U 0, I 0, U 0, IZ (-1), I 0],
  [.cel 32 0 8 (.int .i64 (.add (.var 0) (.lit 1))),
  .row 40 0 ([I 16, .slice 54 0 1 1 10 false, .int .i64 (.add (.var 1) (.lit 1))]),
  .cel 42 0 1 (.int .u32 (.bop .and .i64 (.var 11) (.lit 4095))),
  .cel 42 0 8 (.int .u32 (.wrap .u32 (.add (.var 4) (.lit 1)))),
  .row 45 0 ([IZ (-1), .int .i64 (.sub (.var 7) (.lit 1))]),
  .row 45 1 ([I 0, .int .i64 (.sub (.var 8) (.lit 1))])], 774⟩
theorem s154_ok : SO 11 s154 := so f7_ok (by kernel_rfl) (by kernel_rfl)
noncomputable def h270 : H := hUpc h230 74 [] [] [] [(70, 2, 24, U 0), (70, 2, 29, .int .u32 (.var 8)), (42, 0, 1, U 29)]
noncomputable def s155 : Sym := ⟨[.ptr 32 0, I 0], h270, nm10, rg16,
  [(true, .bop .rem .u32 (.var 2) (.lit 32), .lit 9, true), (false, .var 4, .lit 1, false), (false, .var 3, .lit 1, false), (true, .bop .quo .u32 (.var 2) (.lit 32), .lit 0, true)],
  .agg [I 0, I 2, I 0, U 0, I 3, U 0, IZ (-1), I 0],
  [.cel 32 0 8 (.int .i64 (.add (.var 0) (.lit 1))),
  .row 40 0 ([I 16, .slice 54 0 1 1 10 false, .int .i64 (.add (.var 1) (.lit 1))]),
  .cel 42 0 1 (.int .u32 (.var 8)),
  .cel 42 0 8 (.int .u32 (.wrap .u32 (.add (.var 2) (.lit 1)))),
  .row 45 0 ([IZ (-1), .int .i64 (.sub (.var 3) (.lit 1))]),
  .row 45 1 ([I 0, .int .i64 (.sub (.var 4) (.lit 1))])], 643⟩
theorem s155_ok : SO 11 s155 := so f14_ok (by kernel_rfl) (by kernel_rfl)
noncomputable def h271 : H := hUpc h231 74 [] [] [] [(70, 2, 24, U 0), (70, 2, 29, .int .u32 (.var 12))]
noncomputable def s156 : Sym := ⟨[.ptr 32 0, I 0], h271, nm17, rg15,
  [(true, .bop .rem .u32 (.var 4) (.lit 32), .lit 10, true), (false, .var 8, .lit 1, false), (false, .var 7, .lit 1, false), (true, .bop .quo .u32 (.var 4) (.lit 32), .lit 0, true), (false, .var 5, .lit 256, true), (false, .lit 14, .var 6, false), (true, .var 6, .lit 2, false), (true, .var 6, .lit 3, false), (true, .var 6, .lit 4, false), (true, .var 6, .lit 5, false), (true, .var 6, .lit 6, false), (true, .var 6, .lit 7, false), (true, .var 6, .lit 8, false), (true, .var 6, .lit 9, false), (true, .var 6, .lit 10, false), (true, .var 6, .lit 1, false)],
  .agg [I 0, I 4, I 0, U 0, I 0, U 0, IZ (-1), I 0],
  [.cel 32 0 8 (.int .i64 (.add (.var 0) (.lit 1))),
  .row 38 0 ([.slice 51 0 0 1 1 false]),
  .row 40 0 ([I 16, .slice 54 0 1 1 10 false, .int .i64 (.add (.var 1) (.lit 1))]),
  .cel 42 0 8 (.int .u32 (.wrap .u32 (.add (.var 4) (.lit 1)))),
  .cel 42 0 9 (I 4),
  .row 45 0 ([IZ (-1), .int .i64 (.sub (.var 7) (.lit 1))]),
  .row 45 1 ([I 0, .int .i64 (.sub (.var 8) (.lit 1))])], 764⟩
theorem s156_ok : SO 11 s156 := so f7_ok (by kernel_rfl) (by kernel_rfl)
noncomputable def h272 : H := hUpd h232 414 [] [] [(78, 2, [.str [51, 48]])]
noncomputable def h273 : H := hUpd h272 475 [] [] []
noncomputable def m85 : Memo := ⟨[.slice 78 0 3 3 1 false, .map 135], h272, .tuple [U 17825822, .inil], h273⟩
theorem m85_run : ranTo (evCall (cxX Tryz.prog bad [] [] q0) 1000 60 40 m85.args m85.h) m85.v m85.h' = true := by kernel_rfl
theorem m85_ok {σ : Nat → Int} {W0 : World} (hL : L0 W0) : MemoOk Tryz.prog 412927 σ W0 40 m85 := memo_ok fit (Known2.nil σ) ((q0_ok hL)) m85_run
noncomputable def h274 : H := hUpd h234 680 [] [] [(116, 2, [.str [51, 48]])]
noncomputable def h275 : H := hUpd h274 741 [] [] []
noncomputable def m86 : Memo := ⟨[.slice 116 0 3 3 1 false, .map 135], h274, .tuple [U 17825822, .inil], h275⟩
theorem m86_run : ranTo (evCall (cxX Tryz.prog bad [] [] q0) 1000 60 40 m86.args m86.h) m86.v m86.h' = true := by kernel_rfl
theorem m86_ok {σ : Nat → Int} {W0 : World} (hL : L0 W0) : MemoOk Tryz.prog 412927 σ W0 40 m86 := memo_ok fit (Known2.nil σ) ((q0_ok hL)) m86_run
noncomputable def h276 : H := hUpc h236 74 [] [] [] [(42, 0, 1, U 30)]
noncomputable def s157 : Sym := ⟨[.ptr 32 0, I 0], h276, nm10, rg13,
  [(true, .bop .rem .u32 (.var 3) (.lit 32), .lit 6, true), (false, .var 5, .lit 1, false), (false, .var 4, .lit 1, false), (true, .bop .quo .u32 (.var 3) (.lit 32), .lit 0, true)],
  .agg [I 0, I 2, I 0, U 1, I 3, U 0, IZ (-1), I 0],
  [.cel 32 0 8 (.int .i64 (.add (.var 0) (.lit 1))),
  .row 40 0 ([I 16, .slice 54 0 1 1 10 false, .int .i64 (.add (.var 1) (.lit 1))]),
  .cel 42 0 0 (U 0),
  .cel 42 0 1 (U 0),
  .cel 42 0 2 (U 0),
  .cel 42 0 8 (.int .u32 (.wrap .u32 (.add (.var 3) (.lit 1)))),
  .cel 42 0 71 (I 0),
  .cel 42 0 72 (I 0),
  .row 45 0 ([IZ (-1), .int .i64 (.sub (.var 4) (.lit 1))]),
  .row 45 1 ([I 0, .int .i64 (.sub (.var 5) (.lit 1))]),
  .cel 70 2 30 (.int .u32 (.var 2))], 691⟩
theorem s157_ok : SO 11 s157 := so f14_ok (by kernel_rfl) (by kernel_rfl)
noncomputable def h277 : H := hUpc h237 74 [] [] [] [(70, 2, 25, U 0), (70, 2, 30, .int .u32 (.var 12))]
noncomputable def s158 : Sym := ⟨[.ptr 32 0, I 0], h277, nm10, rg15,
  [(true, .bop .rem .u32 (.var 4) (.lit 32), .lit 7, true), (false, .var 8, .lit 1, false), (false, .var 7, .lit 1, false), (true, .bop .quo .u32 (.var 4) (.lit 32), .lit 0, true), (false, .var 5, .lit 256, true), (false, .lit 14, .var 6, false), (true, .var 6, .lit 2, false), (true, .var 6, .lit 3, false), (true, .var 6, .lit 4, false), (true, .var 6, .lit 5, false), (true, .var 6, .lit 6, false), (true, .var 6, .lit 7, false), (true, .var 6, .lit 8, false), (true, .var 6, .lit 9, false), (true, .var 6, .lit 10, false), (true, .var 6, .lit 1, false)],
  .agg [I 0, I 1, I 0, U 0, I 0, U 0, IZ (-1), I 0],
  [.cel 32 0 8 (.int .i64 (.add (.var 0) (.lit 1))),
  .row 40 0 ([I 16, .slice 54 0 1 1 10 false, .int .i64 (.add (.var 1) (.lit 1))]),
  .cel 42 0 0 (U 0),
  .cel 42 0 8 (.int .u32 (.wrap .u32 (.add (.var 4) (.lit 1)))),
  .row 45 0 ([IZ (-1), .int .i64 (.sub (.var 7) (.lit 1))]),
  .row 45 1 ([I 0, .int .i64 (.sub (.var 8) (.lit 1))])], 774⟩
theorem s158_ok : SO 11 s158 := so f7_ok (by kernel_rfl) (by kernel_rfl)
noncomputable def s159 : Sym := ⟨[.ptr 32 0, I 0], h277, nm10, rg15,
  [(true, .bop .rem .u32 (.var 4) (.lit 32), .lit 8, true), fs 11 1, (true, .bop .and .i64 (.bop .shr .i64 (.var 11) (.lit 20)) (.lit 15), .lit 1, true), (false, .var 8, .lit 1, false), (false, .var 7, .lit 1, false), (true, .bop .quo .u32 (.var 4) (.lit 32), .lit 0, true), fa 11 16, fa 11 12, (false, .var 5, .lit 256, true), (false, .lit 14, .var 6, false), (true, .var 6, .lit 2, false), (true, .var 6, .lit 3, false), (true, .var 6, .lit 4, false), (true, .var 6, .lit 5, false), (true, .var 6, .lit 6, false), (true, .var 6, .lit 7, false), (true, .var 6, .lit 8, false), (true, .var 6, .lit 9, false), (true, .var 6, .lit 10, false), (true, .var 6, .lit 1, false)],
  .agg [I 0, I 1, I 0, U 0, I 0, U 0, IZ (-1), I 0],
  [.cel 32 0 8 (.int .i64 (.add (.var 0) (.lit 1))),
  .row 40 0 ([I 16, .slice 54 0 1 1 10 false, .int .i64 (.add (.var 1) (.lit 1))]),
  .cel 42 0 1 (.int .u32 (.bop .and .i64 (.var 11) (.lit 4095))),
  .cel 42 0 8 (.int .u32 (.wrap .u32 (.add (.var 4) (.lit 1)))),
  .row 45 0 ([IZ (-1), .int .i64 (.sub (.var 7) (.lit 1))]),
  .row 45 1 ([I 0, .int .i64 (.sub (.var 8) (.lit 1))])], 774⟩
theorem s159_ok : SO 11 s159 := so f7_ok (by kernel_rfl) (by kernel_rfl)
noncomputable def h278 : H := hUpc h238 74 [] [] [] [(70, 2, 25, U 0), (70, 2, 30, .int .u32 (.var 8)), (42, 0, 1, U 30)]
noncomputable def s160 : Sym := ⟨[.ptr 32 0, I 0], h278, nm10, rg16,
  [(true, .bop .rem .u32 (.var 2) (.lit 32), .lit 9, true), (false, .var 4, .lit 1, false), (false, .var 3, .lit 1, false), (true, .bop .quo .u32 (.var 2) (.lit 32), .lit 0, true)],
  .agg [I 0, I 2, I 0, U 0, I 3, U 0, IZ (-1), I 0],
  [.cel 32 0 8 (.int .i64 (.add (.var 0) (.lit 1))),
  .row 40 0 ([I 16, .slice 54 0 1 1 10 false, .int .i64 (.add (.var 1) (.lit 1))]),
  .cel 42 0 1 (.int .u32 (.var 8)),
  .cel 42 0 8 (.int .u32 (.wrap .u32 (.add (.var 2) (.lit 1)))),
  .row 45 0 ([IZ (-1), .int .i64 (.sub (.var 3) (.lit 1))]),
  .row 45 1 ([I 0, .int .i64 (.sub (.var 4) (.lit 1))])], 643⟩
theorem s160_ok : SO 11 s160 := so f14_ok (by kernel_rfl) (by kernel_rfl)
noncomputable def h279 : H := hUpc h239 74 [] [] [] [(70, 2, 25, U 0), (70, 2, 30, .int .u32 (.var 12))]
noncomputable def s161 : Sym := ⟨[.ptr 32 0, I 0], h279, nm17, rg15,
  [(true, .bop .rem .u32 (.var 4) (.lit 32), .lit 10, true), (false, .var 8, .lit 1, false), (false, .var 7, .lit 1, false), (true, .bop .quo .u32 (.var 4) (.lit 32), .lit 0, true), (false, .var 5, .lit 256, true), (false, .lit 14, .var 6, false), (true, .var 6, .lit 2, false), (true, .var 6, .lit 3, false), (true, .var 6, .lit 4, false), (true, .var 6, .lit 5, false), (true, .var 6, .lit 6, false), (true, .var 6, .lit 7, false), (true, .var 6, .lit 8, false), (true, .var 6, .lit 9, false), (true, .var 6, .lit 10, false), (true, .var 6, .lit 1, false)],
  .agg [I 0, I 4, I 0, U 0, I 0, U 0, IZ (-1), I 0],
  [.cel 32 0 8 (.int .i64 (.add (.var 0) (.lit 1))),
  .row 38 0 ([.slice 51 0 0 1 1 false]),
  .row 40 0 ([I 16, .slice 54 0 1 1 10 false, .int .i64 (.add (.var 1) (.lit 1))]),
  .cel 42 0 8 (.int .u32 (.wrap .u32 (.add (.var 4) (.lit 1)))),
  .cel 42 0 9 (I 4),
  .row 45 0 ([IZ (-1), .int .i64 (.sub (.var 7) (.lit 1))]),
  .row 45 1 ([I 0, .int .i64 (.sub (.var 8) (.lit 1))])], 764⟩
theorem s161_ok : SO 11 s161 := so f7_ok (by kernel_rfl) (by kernel_rfl)
noncomputable def h280 : H := hUpd h240 414 [] [] [(78, 2, [.str [51, 49]])]
noncomputable def h281 : H := hUpd h280 475 [] [] []
noncomputable def m87 : Memo := ⟨[.slice 78 0 3 3 1 false, .map 135], h280, .tuple [U 17825823, .inil], h281⟩
theorem m87_run : ranTo (evCall (cxX Tryz.prog bad [] [] q0) 1000 60 40 m87.args m87.h) m87.v m87.h' = true := by kernel_rfl
theorem m87_ok {σ : Nat → Int} {W0 : World} (hL : L0 W0) : MemoOk Tryz.prog 412927 σ W0 40 m87 := memo_ok fit (Known2.nil σ) ((q0_ok hL)) m87_run
noncomputable def h282 : H := hUpd h242 680 [] [] [(116, 2, [.str [51, 49]])]
noncomputable def h283 : H := hUpd h282 741 [] [] []
noncomputable def m88 : Memo := ⟨[.slice 116 0 3 3 1 false, .map 135], h282, .tuple [U 17825823, .inil], h283⟩
theorem m88_run : ranTo (evCall (cxX Tryz.prog bad [] [] q0) 1000 60 40 m88.args m88.h) m88.v m88.h' = true := by kernel_rfl
theorem m88_ok {σ : Nat → Int} {W0 : World} (hL : L0 W0) : MemoOk Tryz.prog 412927 σ W0 40 m88 := memo_ok fit (Known2.nil σ) ((q0_ok hL)) m88_run
noncomputable def h284 : H := hUpc h244 74 [] [] [] [(42, 0, 1, U 31)]
noncomputable def s162 : Sym := ⟨[.ptr 32 0, I 0], h284, nm10, rg13,
  [(true, .bop .rem .u32 (.var 3) (.lit 32), .lit 6, true), (false, .var 5, .lit 1, false), (false, .var 4, .lit 1, false), (true, .bop .quo .u32 (.var 3) (.lit 32), .lit 0, true)],
  .agg [I 0, I 2, I 0, U 1, I 3, U 0, IZ (-1), I 0],
  [.cel 32 0 8 (.int .i64 (.add (.var 0) (.lit 1))),
  .row 40 0 ([I 16, .slice 54 0 1 1 10 false, .int .i64 (.add (.var 1) (.lit 1))]),
  .cel 42 0 0 (U 0),
  .cel 42 0 1 (U 0),
  .cel 42 0 2 (U 0),
  .cel 42 0 8 (.int .u32 (.wrap .u32 (.add (.var 3) (.lit 1)))),
  .cel 42 0 71 (I 0),
  .cel 42 0 72 (I 0),
  .row 45 0 ([IZ (-1), .int .i64 (.sub (.var 4) (.lit 1))]),
  .row 45 1 ([I 0, .int .i64 (.sub (.var 5) (.lit 1))]),
  .cel 70 2 31 (.int .u32 (.var 2))], 691⟩
theorem s162_ok : SO 11 s162 := so f14_ok (by kernel_rfl) (by kernel_rfl)
noncomputable def h285 : H := hUpc h245 74 [] [] [] [(70, 2, 26, U 0), (70, 2, 31, .int .u32 (.var 12))]
noncomputable def s163 : Sym := ⟨[.ptr 32 0, I 0], h285, nm10, rg15,
  [(true, .bop .rem .u32 (.var 4) (.lit 32), .lit 7, true), (false, .var 8, .lit 1, false), (false, .var 7, .lit 1, false), (true, .bop .quo .u32 (.var 4) (.lit 32), .lit 0, true), (false, .var 5, .lit 256, true), (false, .lit 14, .var 6, false), (true, .var 6, .lit 2, false), (true, .var 6, .lit 3, false), (true, .var 6, .lit 4, false), (true, .var 6, .lit 5, false), (true, .var 6, .lit 6, false), (true, .var 6, .lit 7, false), (true, .var 6, .lit 8, false), (true, .var 6, .lit 9, false), (true, .var 6, .lit 10, false), (true, .var 6, .lit 1, false)],
  .agg [I 0, I 1, I 0, U 0, I 0, U 0, IZ (-1), I 0],
  [.cel 32 0 8 (.int .i64 (.add (.var 0) (.lit 1))),
  .row 40 0 ([I 16, .slice 54 0 1 1 10 false, .int .i64 (.add (.var 1) (.lit 1))]),
  .cel 42 0 0 (U 0),
  .cel 42 0 8 (.int .u32 (.wrap .u32 (.add (.var 4) (.lit 1)))),
  .row 45 0 ([IZ (-1), .int .i64 (.sub (.var 7) (.lit 1))]),
  .row 45 1 ([I 0, .int .i64 (.sub (.var 8) (.lit 1))])], 774⟩
theorem s163_ok : SO 11 s163 := so f7_ok (by kernel_rfl) (by kernel_rfl)
noncomputable def s164 : Sym := ⟨[.ptr 32 0, I 0], h285, nm10, rg15,
  [(true, .bop .rem .u32 (.var 4) (.lit 32), .lit 8, true), fs 11 1, (true, .bop .and .i64 (.bop .shr .i64 (.var 11) (.lit 20)) (.lit 15), .lit 1, true), (false, .var 8, .lit 1, false), (false, .var 7, .lit 1, false), (true, .bop .quo .u32 (.var 4) (.lit 32), .lit 0, true), fa 11 16, fa 11 12, (false, .var 5, .lit 256, true), (false, .lit 14, .var 6, false), (true, .var 6, .lit 2, false), (true, .var 6, .lit 3, false), (true, .var 6, .lit 4, false), (true, .var 6, .lit 5, false), (true, .var 6, .lit 6, false), (true, .var 6, .lit 7, false), (true, .var 6, .lit 8, false), (true, .var 6, .lit 9, false), (true, .var 6, .lit 10, false), (true, .var 6, .lit 1, false)],
  .agg [I 0, I 1, I 0, U 0, I 0, U 0, IZ (-1), I 0],
  [.cel 32 0 8 (.int .i64 (.add (.var 0) (.lit 1))),
  .row 40 0 ([I 16, .slice 54 0 1 1 10 false, .int .i64 (.add (.var 1) (.lit 1))]),
  .cel 42 0 1 (.int .u32 (.bop .and .i64 (.var 11) (.lit 4095))),
  .cel 42 0 8 (.int .u32 (.wrap .u32 (.add (.var 4) (.lit 1)))),
  .row 45 0 ([IZ (-1), .int .i64 (.sub (.var 7) (.lit 1))]),
  .row 45 1 ([I 0, .int .i64 (.sub (.var 8) (.lit 1))])], 774⟩
theorem s164_ok : SO 11 s164 := so f7_ok (by kernel_rfl) (by kernel_rfl)
noncomputable def h286 : H := hUpc h246 74 [] [] [] [(70, 2, 26, U 0), (70, 2, 31, .int .u32 (.var 8)), (42, 0, 1, U 31)]
noncomputable def s165 : Sym := ⟨[.ptr 32 0, I 0], h286, nm10, rg16,
  [(true, .bop .rem .u32 (.var 2) (.lit 32), .lit 9, true), (false, .var 4, .lit 1, false), (false, .var 3, .lit 1, false), (true, .bop .quo .u32 (.var 2) (.lit 32), .lit 0, true)],
  .agg [I 0, I 2, I 0, U 0, I 3, U 0, IZ (-1), I 0],
  [.cel 32 0 8 (.int .i64 (.add (.var 0) (.lit 1))),
  .row 40 0 ([I 16, .slice 54 0 1 1 10 false, .int .i64 (.add (.var 1) (.lit 1))]),
  .cel 42 0 1 (.int .u32 (.var 8)),
  .cel 42 0 8 (.int .u32 (.wrap .u32 (.add (.var 2) (.lit 1)))),
  .row 45 0 ([IZ (-1), .int .i64 (.sub (.var 3) (.lit 1))]),
  .row 45 1 ([I 0, .int .i64 (.sub (.var 4) (.lit 1))])], 643⟩
theorem s165_ok : SO 11 s165 := so f14_ok (by kernel_rfl) (by kernel_rfl)
noncomputable def h287 : H := hUpc h247 74 [] [] [] [(70, 2, 26, U 0), (70, 2, 31, .int .u32 (.var 12))]
noncomputable def s166 : Sym := ⟨[.ptr 32 0, I 0], h287, nm17, rg15,
  [(true, .bop .rem .u32 (.var 4) (.lit 32), .lit 10, true), (false, .var 8, .lit 1, false), (false, .var 7, .lit 1, false), (true, .bop .quo .u32 (.var 4) (.lit 32), .lit 0, true), (false, .var 5, .lit 256, true), (false, .lit 14, .var 6, false), (true, .var 6, .lit 2, false), (true, .var 6, .lit 3, false), (true, .var 6, .lit 4, false), (true, .var 6, .lit 5, false), (true, .var 6, .lit 6, false), (true, .var 6, .lit 7, false), (true, .var 6, .lit 8, false), (true, .var 6, .lit 9, false), (true, .var 6, .lit 10, false), (true, .var 6, .lit 1, false)],
  .agg [I 0, I 4, I 0, U 0, I 0, U 0, IZ (-1), I 0],
  [.cel 32 0 8 (.int .i64 (.add (.var 0) (.lit 1))),
  .row 38 0 ([.slice 51 0 0 1 1 false]),
  .row 40 0 ([I 16, .slice 54 0 1 1 10 false, .int .i64 (.add (.var 1) (.lit 1))]),
  .cel 42 0 8 (.int .u32 (.wrap .u32 (.add (.var 4) (.lit 1)))),
  .cel 42 0 9 (I 4),
  .row 45 0 ([IZ (-1), .int .i64 (.sub (.var 7) (.lit 1))]),
  .row 45 1 ([I 0, .int .i64 (.sub (.var 8) (.lit 1))])], 764⟩
theorem s166_ok : SO 11 s166 := so f7_ok (by kernel_rfl) (by kernel_rfl)
abbrev CaseS (rng : Rg) (facts : List (Bool × E × E × Bool)) (tab : NumTabE) (vs : List V) : Prop := ∀ {σ : Nat → Int} {W : World} (hL : L0 W) (hk : Known2 σ rng facts) (hT : TabOk Tryz.prog bad 6 σ tab) {xs : Array Value} (hv : ∀ ρ, VRs σ ρ vs xs.toList), Calls Tryz.prog 3 xs W fun e w' => e = .returned (.bool true) ∧ Below W.heap.size W w'
theorem caseS {rng : Rg} {facts : List (Bool × E × E × Bool)} {tab : NumTabE} {vs : List V} {fs : Fns} (hx : ∀ {σ : Nat → Int} {W : World}, L0 W → Known2 σ rng facts → TabOk Tryz.prog bad 6 σ tab → FnsOk Tryz.prog 412927 σ W fs)
    (run : isTrue (evCall (cxX Tryz.prog bad rng facts fs) 1000 60 3 vs (sentH 373 19 errTab)) = true) : CaseS rng facts tab vs := by
  intro σ W hL hk hT xs hv
  obtain ⟨ads, h1, h2, h3⟩ := errs_sents hL
  exact law_case_x fit h1 h2 h3 errs_all errs_lt (by kernel_rfl) hk (hx hL hk hT) hv ⟨_, Tryz.func3, rfl⟩ run
end Go.Proofs.YtphhnhheedbjjaaGreatDoor.worldAsks
