/- worldAsks: calls that are run once, and the runs of the cases (part 1). -/
import Derived.Test.YtphhnhheedbjjaaGreatDoorWaK0
set_option linter.unusedVariables false
set_option maxRecDepth 10000000
namespace Go.Proofs.YtphhnhheedbjjaaGreatDoor.worldAsks
open Tk
open Go.RowKit
noncomputable def h110 : H := hUpc h70 74 [] [] [] [(70, 2, 4, U 0), (70, 2, 9, .int .u32 (.var 8)), (42, 0, 1, U 9)]
noncomputable def s55 : Sym := ⟨[.ptr 32 0, I 0], h110, nm10, rg16,
  [(true, .bop .rem .u32 (.var 2) (.lit 32), .lit 9, true), (false, .var 4, .lit 1, false), (false, .var 3, .lit 1, false), (true, .bop .quo .u32 (.var 2) (.lit 32), .lit 0, true)],
  .agg [I 0, I 2, I 0, U 0, I 3, U 0, IZ (-1), I 0],
  [.cel 32 0 8 (.int .i64 (.add (.var 0) (.lit 1))),
  .row 40 0 ([I 16, .slice 54 0 1 1 10 false, .int .i64 (.add (.var 1) (.lit 1))]),
  .cel 42 0 1 (.int .u32 (.var 8)),
  .cel 42 0 8 (.int .u32 (.wrap .u32 (.add (.var 2) (.lit 1)))),
  .row 45 0 ([IZ (-1), .int .i64 (.sub (.var 3) (.lit 1))]),
  .row 45 1 ([I 0, .int .i64 (.sub (.var 4) (.lit 1))])], 643⟩
theorem s55_ok : SO 11 s55 := so f14_ok (by kernel_rfl) (by kernel_rfl)
noncomputable def h111 : H := hUpc h71 74 [] [] [] [(70, 2, 4, U 0), (70, 2, 9, .int .u32 (.var 12))]
noncomputable def s56 : Sym := ⟨[.ptr 32 0, I 0], h111, nm17, rg15,
  [(true, .bop .rem .u32 (.var 4) (.lit 32), .lit 10, true), (false, .var 8, .lit 1, false), (false, .var 7, .lit 1, false), (true, .bop .quo .u32 (.var 4) (.lit 32), .lit 0, true), (false, .var 5, .lit 256, true), (false, .lit 14, .var 6, false), (true, .var 6, .lit 2, false), (true, .var 6, .lit 3, false), (true, .var 6, .lit 4, false), (true, .var 6, .lit 5, false), (true, .var 6, .lit 6, false), (true, .var 6, .lit 7, false), (true, .var 6, .lit 8, false), (true, .var 6, .lit 9, false), (true, .var 6, .lit 10, false), (true, .var 6, .lit 1, false)],
  .agg [I 0, I 4, I 0, U 0, I 0, U 0, IZ (-1), I 0],
  [.cel 32 0 8 (.int .i64 (.add (.var 0) (.lit 1))),
  .row 38 0 ([.slice 51 0 0 1 1 false]),
  .row 40 0 ([I 16, .slice 54 0 1 1 10 false, .int .i64 (.add (.var 1) (.lit 1))]),
  .cel 42 0 8 (.int .u32 (.wrap .u32 (.add (.var 4) (.lit 1)))),
  .cel 42 0 9 (I 4),
  .row 45 0 ([IZ (-1), .int .i64 (.sub (.var 7) (.lit 1))]),
  .row 45 1 ([I 0, .int .i64 (.sub (.var 8) (.lit 1))])], 764⟩
theorem s56_ok : SO 11 s56 := so f7_ok (by kernel_rfl) (by kernel_rfl)
noncomputable def h112 : H := hUpd h72 414 [] [] [(78, 2, [.str [49, 48]])]
noncomputable def h113 : H := hUpd h112 475 [] [] []
noncomputable def m45 : Memo := ⟨[.slice 78 0 3 3 1 false, .map 135], h112, .tuple [U 17825802, .inil], h113⟩
theorem m45_run : ranTo (evCall (cxX Tryz.prog bad [] [] q0) 1000 60 40 m45.args m45.h) m45.v m45.h' = true := by kernel_rfl
theorem m45_ok {σ : Nat → Int} {W0 : World} (hL : L0 W0) : MemoOk Tryz.prog 412927 σ W0 40 m45 := memo_ok fit (Known2.nil σ) ((q0_ok hL)) m45_run
noncomputable def h114 : H := hUpd h74 680 [] [] [(116, 2, [.str [49, 48]])]
noncomputable def h115 : H := hUpd h114 741 [] [] []
noncomputable def m46 : Memo := ⟨[.slice 116 0 3 3 1 false, .map 135], h114, .tuple [U 17825802, .inil], h115⟩
theorem m46_run : ranTo (evCall (cxX Tryz.prog bad [] [] q0) 1000 60 40 m46.args m46.h) m46.v m46.h' = true := by kernel_rfl
theorem m46_ok {σ : Nat → Int} {W0 : World} (hL : L0 W0) : MemoOk Tryz.prog 412927 σ W0 40 m46 := memo_ok fit (Known2.nil σ) ((q0_ok hL)) m46_run
noncomputable def h116 : H := hUpc h76 74 [] [] [] [(42, 0, 1, U 10)]
noncomputable def s57 : Sym := ⟨[.ptr 32 0, I 0], h116, nm10, rg13,
  [(true, .bop .rem .u32 (.var 3) (.lit 32), .lit 6, true), (false, .var 5, .lit 1, false), (false, .var 4, .lit 1, false), (true, .bop .quo .u32 (.var 3) (.lit 32), .lit 0, true)],
  .agg [I 0, I 2, I 0, U 1, I 3, U 0, IZ (-1), I 0],
  [.cel 32 0 8 (.int .i64 (.add (.var 0) (.lit 1))),
  .row 40 0 ([I 16, .slice 54 0 1 1 10 false, .int .i64 (.add (.var 1) (.lit 1))]),
  .cel 42 0 0 (U 0),
  .cel 42 0 1 (U 0),
  .cel 42 0 2 (U 0),
  .cel 42 0 8 (.int .u32 (.wrap .u32 (.add (.var 3) (.lit 1)))),
  .cel 42 0 71 (I 0),
  .cel 42 0 72 (I 0),
  .row 45 0 ([IZ (-1), .int .i64 (.sub (.var 4) (.lit 1))]),
  .row 45 1 ([I 0, .int .i64 (.sub (.var 5) (.lit 1))]),
  .cel 70 2 10 (.int .u32 (.var 2))], 691⟩
theorem s57_ok : SO 11 s57 := so f14_ok (by kernel_rfl) (by kernel_rfl)
noncomputable def h117 : H := hUpc h77 74 [] [] [] [(70, 2, 5, U 0), (70, 2, 10, .int .u32 (.var 12))]
noncomputable def s58 : Sym := ⟨[.ptr 32 0, I 0], h117, nm10, rg15,
  [(true, .bop .rem .u32 (.var 4) (.lit 32), .lit 7, true), (false, .var 8, .lit 1, false), (false, .var 7, .lit 1, false), (true, .bop .quo .u32 (.var 4) (.lit 32), .lit 0, true), (false, .var 5, .lit 256, true), (false, .lit 14, .var 6, false), (true, .var 6, .lit 2, false), (true, .var 6, .lit 3, false), (true, .var 6, .lit 4, false), (true, .var 6, .lit 5, false), (true, .var 6, .lit 6, false), (true, .var 6, .lit 7, false), (true, .var 6, .lit 8, false), (true, .var 6, .lit 9, false), (true, .var 6, .lit 10, false), (true, .var 6, .lit 1, false)],
  .agg [I 0, I 1, I 0, U 0, I 0, U 0, IZ (-1), I 0],
  [.cel 32 0 8 (.int .i64 (.add (.var 0) (.lit 1))),
  .row 40 0 ([I 16, .slice 54 0 1 1 10 false, .int .i64 (.add (.var 1) (.lit 1))]),
  .cel 42 0 0 (U 0),
  .cel 42 0 8 (.int .u32 (.wrap .u32 (.add (.var 4) (.lit 1)))),
  .row 45 0 ([IZ (-1), .int .i64 (.sub (.var 7) (.lit 1))]),
  .row 45 1 ([I 0, .int .i64 (.sub (.var 8) (.lit 1))])], 774⟩
theorem s58_ok : SO 11 s58 := so f7_ok (by kernel_rfl) (by kernel_rfl)
noncomputable def s59 : Sym := ⟨[.ptr 32 0, I 0], h117, nm10, rg15,
  [(true, .bop .rem .u32 (.var 4) (.lit 32), .lit 8, true), fs 11 1, (true, .bop .and .i64 (.bop .shr .i64 (.var 11) (.lit 20)) (.lit 15), .lit 1, true), (false, .var 8, .lit 1, false), (false, .var 7, .lit 1, false), (true, .bop .quo .u32 (.var 4) (.lit 32), .lit 0, true), fa 11 16, fa 11 12, (false, .var 5, .lit 256, true), (false, .lit 14, .var 6, false), (true, .var 6, .lit 2, false), (true, .var 6, .lit 3, false), (true, .var 6, .lit 4, false), (true, .var 6, .lit 5, false), (true, .var 6, .lit 6, false), (true, .var 6, .lit 7, false), (true, .var 6, .lit 8, false), (true, .var 6, .lit 9, false), (true, .var 6, .lit 10, false), (true, .var 6, .lit 1, false)],
  .agg [I 0, I 1, I 0, U 0, I 0, U 0, IZ (-1), I 0],
  [.cel 32 0 8 (.int .i64 (.add (.var 0) (.lit 1))),
  .row 40 0 ([I 16, .slice 54 0 1 1 10 false, .int .i64 (.add (.var 1) (.lit 1))]),
  .cel 42 0 1 (.int .u32 (.bop .and .i64 (.var 11) (.lit 4095))),
  .cel 42 0 8 (.int .u32 (.wrap .u32 (.add (.var 4) (.lit 1)))),
  .row 45 0 ([IZ (-1), .int .i64 (.sub (.var 7) (.lit 1))]),
  .row 45 1 ([I 0, .int .i64 (.sub (.var 8) (.lit 1))])], 774⟩
theorem s59_ok : SO 11 s59 := so f7_ok (by kernel_rfl) (by kernel_rfl)
noncomputable def h118 : H := hUpc h78 74 [] [] [] [(70, 2, 5, U 0), (70, 2, 10, .int .u32 (.var 8)), (42, 0, 1, U 10)]
noncomputable def s60 : Sym := ⟨[.ptr 32 0, I 0], h118, nm10, rg16,
  [(true, .bop .rem .u32 (.var 2) (.lit 32), .lit 9, true), (false, .var 4, .lit 1, false), (false, .var 3, .lit 1, false), (true, .bop .quo .u32 (.var 2) (.lit 32), .lit 0, true)],
  .agg [I 0, I 2, I 0, U 0, I 3, U 0, IZ (-1), I 0],
  [.cel 32 0 8 (.int .i64 (.add (.var 0) (.lit 1))),
  .row 40 0 ([I 16, .slice 54 0 1 1 10 false, .int .i64 (.add (.var 1) (.lit 1))]),
  .cel 42 0 1 (.int .u32 (.var 8)),
  .cel 42 0 8 (.int .u32 (.wrap .u32 (.add (.var 2) (.lit 1)))),
  .row 45 0 ([IZ (-1), .int .i64 (.sub (.var 3) (.lit 1))]),
  .row 45 1 ([I 0, .int .i64 (.sub (.var 4) (.lit 1))])], 643⟩
theorem s60_ok : SO 11 s60 := so f14_ok (by kernel_rfl) (by kernel_rfl)
noncomputable def h119 : H := hUpc h79 74 [] [] [] [(70, 2, 5, U 0), (70, 2, 10, .int .u32 (.var 12))]
noncomputable def s61 : Sym := ⟨[.ptr 32 0, I 0], h119, nm17, rg15,
  [(true, .bop .rem .u32 (.var 4) (.lit 32), .lit 10, true), (false, .var 8, .lit 1, false), (false, .var 7, .lit 1, false), (true, .bop .quo .u32 (.var 4) (.lit 32), .lit 0, true), (false, .var 5, .lit 256, true), (false, .lit 14, .var 6, false), (true, .var 6, .lit 2, false), (true, .var 6, .lit 3, false), (true, .var 6, .lit 4, false), (true, .var 6, .lit 5, false), (true, .var 6, .lit 6, false), (true, .var 6, .lit 7, false), (true, .var 6, .lit 8, false), (true, .var 6, .lit 9, false), (true, .var 6, .lit 10, false), (true, .var 6, .lit 1, false)],
  .agg [I 0, I 4, I 0, U 0, I 0, U 0, IZ (-1), I 0],
  [.cel 32 0 8 (.int .i64 (.add (.var 0) (.lit 1))),
  .row 38 0 ([.slice 51 0 0 1 1 false]),
  .row 40 0 ([I 16, .slice 54 0 1 1 10 false, .int .i64 (.add (.var 1) (.lit 1))]),
  .cel 42 0 8 (.int .u32 (.wrap .u32 (.add (.var 4) (.lit 1)))),
  .cel 42 0 9 (I 4),
  .row 45 0 ([IZ (-1), .int .i64 (.sub (.var 7) (.lit 1))]),
  .row 45 1 ([I 0, .int .i64 (.sub (.var 8) (.lit 1))])], 764⟩
theorem s61_ok : SO 11 s61 := so f7_ok (by kernel_rfl) (by kernel_rfl)
noncomputable def h120 : H := hUpd h80 414 [] [] [(78, 2, [.str [49, 49]])]
noncomputable def h121 : H := hUpd h120 475 [] [] []
noncomputable def m47 : Memo := ⟨[.slice 78 0 3 3 1 false, .map 135], h120, .tuple [U 17825803, .inil], h121⟩
theorem m47_run : ranTo (evCall (cxX Tryz.prog bad [] [] q0) 1000 60 40 m47.args m47.h) m47.v m47.h' = true := by kernel_rfl
theorem m47_ok {σ : Nat → Int} {W0 : World} (hL : L0 W0) : MemoOk Tryz.prog 412927 σ W0 40 m47 := memo_ok fit (Known2.nil σ) ((q0_ok hL)) m47_run
noncomputable def h122 : H := hUpd h82 680 [] [] [(116, 2, [.str [49, 49]])]
noncomputable def h123 : H := hUpd h122 741 [] [] []
noncomputable def m48 : Memo := ⟨[.slice 116 0 3 3 1 false, .map 135], h122, .tuple [U 17825803, .inil], h123⟩
theorem m48_run : ranTo (evCall (cxX Tryz.prog bad [] [] q0) 1000 60 40 m48.args m48.h) m48.v m48.h' = true := by kernel_rfl
theorem m48_ok {σ : Nat → Int} {W0 : World} (hL : L0 W0) : MemoOk Tryz.prog 412927 σ W0 40 m48 := memo_ok fit (Known2.nil σ) ((q0_ok hL)) m48_run
noncomputable def h124 : H := hUpc h84 74 [] [] [] [(42, 0, 1, U 11)]
noncomputable def s62 : Sym := ⟨[.ptr 32 0, I 0], h124, nm10, rg13,
  [(true, .bop .rem .u32 (.var 3) (.lit 32), .lit 6, true), (false, .var 5, .lit 1, false), (false, .var 4, .lit 1, false), (true, .bop .quo .u32 (.var 3) (.lit 32), .lit 0, true)],
  .agg [I 0, I 2, I 0, U 1, I 3, U 0, IZ (-1), I 0],
  [.cel 32 0 8 (.int .i64 (.add (.var 0) (.lit 1))),
  .row 40 0 ([I 16, .slice 54 0 1 1 10 false, .int .i64 (.add (.var 1) (.lit 1))]),
  .cel 42 0 0 (U 0),
  .cel 42 0 1 (U 0),
  .cel 42 0 2 (U 0),
  .cel 42 0 8 (.int .u32 (.wrap .u32 (.add (.var 3) (.lit 1)))),
  .cel 42 0 71 (I 0),
  .cel 42 0 72 (I 0),
  .row 45 0 ([IZ (-1), .int .i64 (.sub (.var 4) (.lit 1))]),
  .row 45 1 ([I 0, .int .i64 (.sub (.var 5) (.lit 1))]),
  .cel 70 2 11 (.int .u32 (.var 2))], 691⟩
theorem s62_ok : SO 11 s62 := so f14_ok (by kernel_rfl) (by kernel_rfl)
noncomputable def h125 : H := hUpc h85 74 [] [] [] [(70, 2, 6, U 0), (70, 2, 11, .int .u32 (.var 12))]
noncomputable def s63 : Sym := ⟨[.ptr 32 0, I 0], h125, nm10, rg15,
  [(true, .bop .rem .u32 (.var 4) (.lit 32), .lit 7, true), (false, .var 8, .lit 1, false), (false, .var 7, .lit 1, false), (true, .bop .quo .u32 (.var 4) (.lit 32), .lit 0, true), (false, .var 5, .lit 256, true), (false, .lit 14, .var 6, false), (true, .var 6, .lit 2, false), (true, .var 6, .lit 3, false), (true, .var 6, .lit 4, false), (true, .var 6, .lit 5, false), (true, .var 6, .lit 6, false), (true, .var 6, .lit 7, false), (true, .var 6, .lit 8, false), (true, .var 6, .lit 9, false), (true, .var 6, .lit 10, false), (true, .var 6, .lit 1, false)],
  .agg [I 0, I 1, I 0, U 0, I 0, U 0, IZ (-1), I 0],
  [.cel 32 0 8 (.int .i64 (.add (.var 0) (.lit 1))),
  .row 40 0 ([I 16, .slice 54 0 1 1 10 false, .int .i64 (.add (.var 1) (.lit 1))]),
  .cel 42 0 0 (U 0),
  .cel 42 0 8 (.int .u32 (.wrap .u32 (.add (.var 4) (.lit 1)))),
  .row 45 0 ([IZ (-1), .int .i64 (.sub (.var 7) (.lit 1))]),
  .row 45 1 ([I 0, .int .i64 (.sub (.var 8) (.lit 1))])], 774⟩
theorem s63_ok : SO 11 s63 := so f7_ok (by kernel_rfl) (by kernel_rfl)
noncomputable def s64 : Sym := ⟨[.ptr 32 0, I 0], h125, nm10, rg15,
  [(true, .bop .rem .u32 (.var 4) (.lit 32), .lit 8, true), fs 11 1, (true, .bop .and .i64 (.bop .shr .i64 (.var 11) (.lit 20)) (.lit 15), .lit 1, true), (false, .var 8, .lit 1, false), (false, .var 7, .lit 1, false), (true, .bop .quo .u32 (.var 4) (.lit 32), .lit 0, true), fa 11 16, fa 11 12, (false, .var 5, .lit 256, true), (false, .lit 14, .var 6, false), (true, .var 6, .lit 2, false), (true, .var 6, .lit 3, false), (true, .var 6, .lit 4, false), (true, .var 6, .lit 5, false), (true, .var 6, .lit 6, false), (true, .var 6, .lit 7, false), (true, .var 6, .lit 8, false), (true, .var 6, .lit 9, false), (true, .var 6, .lit 10, false), (true, .var 6, .lit 1, false)],
  .agg [I 0, I 1, I 0, U 0, I 0, U 0, IZ (-1), I 0],
  [.cel 32 0 8 (.int .i64 (.add (.var 0) (.lit 1))),
  .row 40 0 ([I 16, .slice 54 0 1 1 10 false, .int .i64 (.add (.var 1) (.lit 1))]),
  .cel 42 0 1 (.int .u32 (.bop .and .i64 (.var 11) (.lit 4095))),
  .cel 42 0 8 (.int .u32 (.wrap .u32 (.add (.var 4) (.lit 1)))),
  .row 45 0 ([IZ (-1), .int .i64 (.sub (.var 7) (.lit 1))]),
  .row 45 1 ([I 0, .int .i64 (.sub (.var 8) (.lit 1))])], 774⟩
theorem s64_ok : SO 11 s64 := so f7_ok (by kernel_rfl) (by kernel_rfl)
noncomputable def h126 : H := hUpc h86 74 [] [] [] [(70, 2, 6, U 0), (70, 2, 11, .int .u32 (.var 8)), (42, 0, 1, U 11)]
noncomputable def s65 : Sym := ⟨[.ptr 32 0, I 0], h126, nm10, rg16,
  [(true, .bop .rem .u32 (.var 2) (.lit 32), .lit 9, true), (false, .var 4, .lit 1, false), (false, .var 3, .lit 1, false), (true, .bop .quo .u32 (.var 2) (.lit 32), .lit 0, true)],
  .agg [I 0, I 2, I 0, U 0, I 3, U 0, IZ (-1), I 0],
  [.cel 32 0 8 (.int .i64 (.add (.var 0) (.lit 1))),
  .row 40 0 ([I 16, .slice 54 0 1 1 10 false, .int .i64 (.add (.var 1) (.lit 1))]),
  .cel 42 0 1 (.int .u32 (.var 8)),
  .cel 42 0 8 (.int .u32 (.wrap .u32 (.add (.var 2) (.lit 1)))),
  .row 45 0 ([IZ (-1), .int .i64 (.sub (.var 3) (.lit 1))]),
  .row 45 1 ([I 0, .int .i64 (.sub (.var 4) (.lit 1))])], 643⟩
theorem s65_ok : SO 11 s65 := so f14_ok (by kernel_rfl) (by kernel_rfl)
noncomputable def h127 : H := hUpc h87 74 [] [] [] [(70, 2, 6, U 0), (70, 2, 11, .int .u32 (.var 12))]
noncomputable def s66 : Sym := ⟨[.ptr 32 0, I 0], h127, nm17, rg15,
  [(true, .bop .rem .u32 (.var 4) (.lit 32), .lit 10, true), (false, .var 8, .lit 1, false), (false, .var 7, .lit 1, false), (true, .bop .quo .u32 (.var 4) (.lit 32), .lit 0, true), (false, .var 5, .lit 256, true), (false, .lit 14, .var 6, false), (true, .var 6, .lit 2, false), (true, .var 6, .lit 3, false), (true, .var 6, .lit 4, false), (true, .var 6, .lit 5, false), (true, .var 6, .lit 6, false), (true, .var 6, .lit 7, false), (true, .var 6, .lit 8, false), (true, .var 6, .lit 9, false), (true, .var 6, .lit 10, false), (true, .var 6, .lit 1, false)],
  .agg [I 0, I 4, I 0, U 0, I 0, U 0, IZ (-1), I 0],
  [.cel 32 0 8 (.int .i64 (.add (.var 0) (.lit 1))),
  .row 38 0 ([.slice 51 0 0 1 1 false]),
  .row 40 0 ([I 16, .slice 54 0 1 1 10 false, .int .i64 (.add (.var 1) (.lit 1))]),
  .cel 42 0 8 (.int .u32 (.wrap .u32 (.add (.var 4) (.lit 1)))),
  .cel 42 0 9 (I 4),
  .row 45 0 ([IZ (-1), .int .i64 (.sub (.var 7) (.lit 1))]),
  .row 45 1 ([I 0, .int .i64 (.sub (.var 8) (.lit 1))])], 764⟩
theorem s66_ok : SO 11 s66 := so f7_ok (by kernel_rfl) (by kernel_rfl)
noncomputable def h128 : H := hUpd h88 414 [] [] [(78, 2, [.str [49, 50]])]
noncomputable def h129 : H := hUpd h128 475 [] [] []
noncomputable def m49 : Memo := ⟨[.slice 78 0 3 3 1 false, .map 135], h128, .tuple [U 17825804, .inil], h129⟩
theorem m49_run : ranTo (evCall (cxX Tryz.prog bad [] [] q0) 1000 60 40 m49.args m49.h) m49.v m49.h' = true := by kernel_rfl
theorem m49_ok {σ : Nat → Int} {W0 : World} (hL : L0 W0) : MemoOk Tryz.prog 412927 σ W0 40 m49 := memo_ok fit (Known2.nil σ) ((q0_ok hL)) m49_run
noncomputable def h130 : H := hUpd h90 680 [] [] [(116, 2, [.str [49, 50]])]
noncomputable def h131 : H := hUpd h130 741 [] [] []
noncomputable def m50 : Memo := ⟨[.slice 116 0 3 3 1 false, .map 135], h130, .tuple [U 17825804, .inil], h131⟩
theorem m50_run : ranTo (evCall (cxX Tryz.prog bad [] [] q0) 1000 60 40 m50.args m50.h) m50.v m50.h' = true := by kernel_rfl
theorem m50_ok {σ : Nat → Int} {W0 : World} (hL : L0 W0) : MemoOk Tryz.prog 412927 σ W0 40 m50 := memo_ok fit (Known2.nil σ) ((q0_ok hL)) m50_run
noncomputable def h132 : H := hUpc h92 74 [] [] [] [(42, 0, 1, U 12)]
noncomputable def s67 : Sym := ⟨[.ptr 32 0, I 0], h132, nm10, rg13,
  [(true, .bop .rem .u32 (.var 3) (.lit 32), .lit 6, true), (false, .var 5, .lit 1, false), (false, .var 4, .lit 1, false), (true, .bop .quo .u32 (.var 3) (.lit 32), .lit 0, true)],
  .agg [I 0, I 2, I 0, U 1, I 3, U 0, IZ (-1), I 0],
  [.cel 32 0 8 (.int .i64 (.add (.var 0) (.lit 1))),
  .row 40 0 ([I 16, .slice 54 0 1 1 10 false, .int .i64 (.add (.var 1) (.lit 1))]),
  .cel 42 0 0 (U 0),
  .cel 42 0 1 (U 0),
  .cel 42 0 2 (U 0),
  .cel 42 0 8 (.int .u32 (.wrap .u32 (.add (.var 3) (.lit 1)))),
  .cel 42 0 71 (I 0),
  .cel 42 0 72 (I 0),
  .row 45 0 ([IZ (-1), .int .i64 (.sub (.var 4) (.lit 1))]),
  .row 45 1 ([I 0, .int .i64 (.sub (.var 5) (.lit 1))]),
  .cel 70 2 12 (.int .u32 (.var 2))], 691⟩
theorem s67_ok : SO 11 s67 := so f14_ok (by kernel_rfl) (by kernel_rfl)
noncomputable def h133 : H := hUpc h93 74 [] [] [] [(70, 2, 7, U 0), (70, 2, 12, .int .u32 (.var 12))]
noncomputable def s68 : Sym := ⟨[.ptr 32 0, I 0], h133, nm10, rg15,
  [(true, .bop .rem .u32 (.var 4) (.lit 32), .lit 7, true), (false, .var 8, .lit 1, false), (false, .var 7, .lit 1, false), (true, .bop .quo .u32 (.var 4) (.lit 32), .lit 0, true), (false, .var 5, .lit 256, true), (false, .lit 14, .var 6, false), (true, .var 6, .lit 2, false), (true, .var 6, .lit 3, false), (true, .var 6, .lit 4, false), (true, .var 6, .lit 5, false), (true, .var 6, .lit 6, false), (true, .var 6, .lit 7, false), (true, .var 6, .lit 8, false), (true, .var 6, .lit 9, false), (true, .var 6, .lit 10, false), (true, .var 6, .lit 1, false)],
  .agg [I 0, I 1, I 0, U 0, I 0, U 0, IZ (-1), I 0],
  [.cel 32 0 8 (.int .i64 (.add (.var 0) (.lit 1))),
  .row 40 0 ([I 16, .slice 54 0 1 1 10 false, .int .i64 (.add (.var 1) (.lit 1))]),
  .cel 42 0 0 (U 0),
  .cel 42 0 8 (.int .u32 (.wrap .u32 (.add (.var 4) (.lit 1)))),
  .row 45 0 ([IZ (-1), .int .i64 (.sub (.var 7) (.lit 1))]),
  .row 45 1 ([I 0, .int .i64 (.sub (.var 8) (.lit 1))])], 774⟩
theorem s68_ok : SO 11 s68 := so f7_ok (by kernel_rfl) (by kernel_rfl)
noncomputable def s69 : Sym := ⟨[.ptr 32 0, I 0], h133, nm10, rg15,
  [(true, .bop .rem .u32 (.var 4) (.lit 32), .lit 8, true), fs 11 1, (true, .bop .and .i64 (.bop .shr .i64 (.var 11) (.lit 20)) (.lit 15), .lit 1, true), (false, .var 8, .lit 1, false), (false, .var 7, .lit 1, false), (true, .bop .quo .u32 (.var 4) (.lit 32), .lit 0, true), fa 11 16, fa 11 12, (false, .var 5, .lit 256, true), (false, .lit 14, .var 6, false), (true, .var 6, .lit 2, false), (true, .var 6, .lit 3, false), (true, .var 6, .lit 4, false), (true, .var 6, .lit 5, false), (true, .var 6, .lit 6, false), (true, .var 6, .lit 7, false), (true, .var 6, .lit 8, false), (true, .var 6, .lit 9, false), (true, .var 6, .lit 10, false), (true, .var 6, .lit 1, false)],
  .agg [I 0, I 1, I 0, U 0, I 0, U 0, IZ (-1), I 0],
  [.cel 32 0 8 (.int .i64 (.add (.var 0) (.lit 1))),
  .row 40 0 ([I 16, .slice 54 0 1 1 10 false, .int .i64 (.add (.var 1) (.lit 1))]),
  .cel 42 0 1 (.int .u32 (.bop .and .i64 (.var 11) (.lit 4095))),
  .cel 42 0 8 (.int .u32 (.wrap .u32 (.add (.var 4) (.lit 1)))),
  .row 45 0 ([IZ (-1), .int .i64 (.sub (.var 7) (.lit 1))]),
  .row 45 1 ([I 0, .int .i64 (.sub (.var 8) (.lit 1))])], 774⟩
theorem s69_ok : SO 11 s69 := so f7_ok (by kernel_rfl) (by kernel_rfl)
noncomputable def h134 : H := hUpc h94 74 [] [] [] [(70, 2, 7, U 0), (70, 2, 12, .int .u32 (.var 8)), (42, 0, 1, U 12)]
noncomputable def s70 : Sym := ⟨[.ptr 32 0, I 0], h134, nm10, rg16,
  [(true, .bop .rem .u32 (.var 2) (.lit 32), .lit 9, true), (false, .var 4, .lit 1, false), (false, .var 3, .lit 1, false), (true, .bop .quo .u32 (.var 2) (.lit 32), .lit 0, true)],
  .agg [I 0, I 2, I 0, U 0, I 3, U 0, IZ (-1), I 0],
  [.cel 32 0 8 (.int .i64 (.add (.var 0) (.lit 1))),
  .row 40 0 ([I 16, .slice 54 0 1 1 10 false, .int .i64 (.add (.var 1) (.lit 1))]),
  .cel 42 0 1 (.int .u32 (.var 8)),
  .cel 42 0 8 (.int .u32 (.wrap .u32 (.add (.var 2) (.lit 1)))),
  .row 45 0 ([IZ (-1), .int .i64 (.sub (.var 3) (.lit 1))]),
  .row 45 1 ([I 0, .int .i64 (.sub (.var 4) (.lit 1))])], 643⟩
theorem s70_ok : SO 11 s70 := so f14_ok (by kernel_rfl) (by kernel_rfl)
noncomputable def h135 : H := hUpc h95 74 [] [] [] [(70, 2, 7, U 0), (70, 2, 12, .int .u32 (.var 12))]
noncomputable def s71 : Sym := ⟨[.ptr 32 0, I 0], h135, nm17, rg15,
  [(true, .bop .rem .u32 (.var 4) (.lit 32), .lit 10, true), (false, .var 8, .lit 1, false), (false, .var 7, .lit 1, false), (true, .bop .quo .u32 (.var 4) (.lit 32), .lit 0, true), (false, .var 5, .lit 256, true), (false, .lit 14, .var 6, false), (true, .var 6, .lit 2, false), (true, .var 6, .lit 3, false), (true, .var 6, .lit 4, false), (true, .var 6, .lit 5, false), (true, .var 6, .lit 6, false), (true, .var 6, .lit 7, false), (true, .var 6, .lit 8, false), (true, .var 6, .lit 9, false), (true, .var 6, .lit 10, false), (true, .var 6, .lit 1, false)],
  .agg [I 0, I 4, I 0, U 0, I 0, U 0, IZ (-1), I 0],
  [.cel 32 0 8 (.int .i64 (.add (.var 0) (.lit 1))),
  .row 38 0 ([.slice 51 0 0 1 1 false]),
  .row 40 0 ([I 16, .slice 54 0 1 1 10 false, .int .i64 (.add (.var 1) (.lit 1))]),
  .cel 42 0 8 (.int .u32 (.wrap .u32 (.add (.var 4) (.lit 1)))),
  .cel 42 0 9 (I 4),
  .row 45 0 ([IZ (-1), .int .i64 (.sub (.var 7) (.lit 1))]),
  .row 45 1 ([I 0, .int .i64 (.sub (.var 8) (.lit 1))])], 764⟩
theorem s71_ok : SO 11 s71 := so f7_ok (by kernel_rfl) (by kernel_rfl)
noncomputable def h136 : H := hUpd h96 414 [] [] [(78, 2, [.str [49, 51]])]
noncomputable def h137 : H := hUpd h136 475 [] [] []
noncomputable def m51 : Memo := ⟨[.slice 78 0 3 3 1 false, .map 135], h136, .tuple [U 17825805, .inil], h137⟩
theorem m51_run : ranTo (evCall (cxX Tryz.prog bad [] [] q0) 1000 60 40 m51.args m51.h) m51.v m51.h' = true := by kernel_rfl
theorem m51_ok {σ : Nat → Int} {W0 : World} (hL : L0 W0) : MemoOk Tryz.prog 412927 σ W0 40 m51 := memo_ok fit (Known2.nil σ) ((q0_ok hL)) m51_run
noncomputable def h138 : H := hUpd h98 680 [] [] [(116, 2, [.str [49, 51]])]
noncomputable def h139 : H := hUpd h138 741 [] [] []
noncomputable def m52 : Memo := ⟨[.slice 116 0 3 3 1 false, .map 135], h138, .tuple [U 17825805, .inil], h139⟩
theorem m52_run : ranTo (evCall (cxX Tryz.prog bad [] [] q0) 1000 60 40 m52.args m52.h) m52.v m52.h' = true := by kernel_rfl
theorem m52_ok {σ : Nat → Int} {W0 : World} (hL : L0 W0) : MemoOk Tryz.prog 412927 σ W0 40 m52 := memo_ok fit (Known2.nil σ) ((q0_ok hL)) m52_run
noncomputable def h140 : H := hUpc h100 74 [] [] [] [(42, 0, 1, U 13)]
noncomputable def s72 : Sym := ⟨[.ptr 32 0, I 0], h140, nm10, rg13,
  [(true, .bop .rem .u32 (.var 3) (.lit 32), .lit 6, true), (false, .var 5, .lit 1, false), (false, .var 4, .lit 1, false), (true, .bop .quo .u32 (.var 3) (.lit 32), .lit 0, true)],
  .agg [I 0, I 2, I 0, U 1, I 3, U 0, IZ (-1), I 0],
  [.cel 32 0 8 (.int .i64 (.add (.var 0) (.lit 1))),
  .row 40 0 ([I 16, .slice 54 0 1 1 10 false, .int .i64 (.add (.var 1) (.lit 1))]),
  .cel 42 0 0 (U 0),
  .cel 42 0 1 (U 0),
  .cel 42 0 2 (U 0),
  .cel 42 0 8 (.int .u32 (.wrap .u32 (.add (.var 3) (.lit 1)))),
  .cel 42 0 71 (I 0),
  .cel 42 0 72 (I 0),
  .row 45 0 ([IZ (-1), .int .i64 (.sub (.var 4) (.lit 1))]),
  .row 45 1 ([I 0, .int .i64 (.sub (.var 5) (.lit 1))]),
  .cel 70 2 13 (.int .u32 (.var 2))], 691⟩
theorem s72_ok : SO 11 s72 := so f14_ok (by kernel_rfl) (by kernel_rfl)
noncomputable def h141 : H := hUpc h101 74 [] [] [] [(70, 2, 8, U 0), (70, 2, 13, .int .u32 (.var 12))]
noncomputable def s73 : Sym := ⟨[.ptr 32 0, I 0], h141, nm10, rg15,
  [(true, .bop .rem .u32 (.var 4) (.lit 32), .lit 7, true), (false, .var 8, .lit 1, false), (false, .var 7, .lit 1, false), (true, .bop .quo .u32 (.var 4) (.lit 32), .lit 0, true), (false, .var 5, .lit 256, true), (false, .lit 14, .var 6, false), (true, .var 6, .lit 2, false), (true, .var 6, .lit 3, false), (true, .var 6, .lit 4, false), (true, .var 6, .lit 5, false), (true, .var 6, .lit 6, false), (true, .var 6, .lit 7, false), (true, .var 6, .lit 8, false), (true, .var 6, .lit 9, false), (true, .var 6, .lit 10, false), (true, .var 6, .lit 1, false)],
  .agg [I 0, I 1, I 0, U 0, I 0, U 0, IZ (-1), I 0],
  [.cel 32 0 8 (.int .i64 (.add (.var 0) (.lit 1))),
  .row 40 0 ([I 16, .slice 54 0 1 1 10 false, .int .i64 (.add (.var 1) (.lit 1))]),
  .cel 42 0 0 (U 0),
  .cel 42 0 8 (.int .u32 (.wrap .u32 (.add (.var 4) (.lit 1)))),
  .row 45 0 ([IZ (-1), .int .i64 (.sub (.var 7) (.lit 1))]),
  .row 45 1 ([I 0, .int .i64 (.sub (.var 8) (.lit 1))])], 774⟩
theorem s73_ok : SO 11 s73 := so f7_ok (by kernel_rfl) (by kernel_rfl)
noncomputable def s74 : Sym := ⟨[.ptr 32 0, I 0], h141, nm10, rg15,
  [(true, .bop .rem .u32 (.var 4) (.lit 32), .lit 8, true), fs 11 1, (true, .bop .and .i64 (.bop .shr .i64 (.var 11) (.lit 20)) (.lit 15), .lit 1, true), (false, .var 8, .lit 1, false), (false, .var 7, .lit 1, false), (true, .bop .quo .u32 (.var 4) (.lit 32), .lit 0, true), fa 11 16, fa 11 12, (false, .var 5, .lit 256, true), (false, .lit 14, .var 6, false), (true, .var 6, .lit 2, false), (true, .var 6, .lit 3, false), (true, .var 6, .lit 4, false), (true, .var 6, .lit 5, false), (true, .var 6, .lit 6, false), (true, .var 6, .lit 7, false), (true, .var 6, .lit 8, false), (true, .var 6, .lit 9, false), (true, .var 6, .lit 10, false), (true, .var 6, .lit 1, false)],
  .agg [I 0, I 1, I 0, U 0, I 0, U 0, IZ (-1), I 0],
  [.cel 32 0 8 (.int .i64 (.add (.var 0) (.lit 1))),
  .row 40 0 ([I 16, .slice 54 0 1 1 10 false, .int .i64 (.add (.var 1) (.lit 1))]),
  .cel 42 0 1 (.int .u32 (.bop .and .i64 (.var 11) (.lit 4095))),
  .cel 42 0 8 (.int .u32 (.wrap .u32 (.add (.var 4) (.lit 1)))),
  .row 45 0 ([IZ (-1), .int .i64 (.sub (.var 7) (.lit 1))]),
  .row 45 1 ([I 0, .int .i64 (.sub (.var 8) (.lit 1))])], 774⟩
theorem s74_ok : SO 11 s74 := so f7_ok (by kernel_rfl) (by kernel_rfl)
noncomputable def h142 : H := hUpc h102 74 [] [] [] [(70, 2, 8, U 0), (70, 2, 13, .int .u32 (.var 8)), (42, 0, 1, U 13)]
noncomputable def s75 : Sym := ⟨[.ptr 32 0, I 0], h142, nm10, rg16,
  [(true, .bop .rem .u32 (.var 2) (.lit 32), .lit 9, true), (false, .var 4, .lit 1, false), (false, .var 3, .lit 1, false), (true, .bop .quo .u32 (.var 2) (.lit 32), .lit 0, true)],
  .agg [I 0, I 2, I 0, U 0, I 3, U 0, IZ (-1), I 0],
  [.cel 32 0 8 (.int .i64 (.add (.var 0) (.lit 1))),
  .row 40 0 ([I 16, .slice 54 0 1 1 10 false, .int .i64 (.add (.var 1) (.lit 1))]),
  .cel 42 0 1 (.int .u32 (.var 8)),
  .cel 42 0 8 (.int .u32 (.wrap .u32 (.add (.var 2) (.lit 1)))),
  .row 45 0 ([IZ (-1), .int .i64 (.sub (.var 3) (.lit 1))]),
  .row 45 1 ([I 0, .int .i64 (.sub (.var 4) (.lit 1))])], 643⟩
theorem s75_ok : SO 11 s75 := so f14_ok (by kernel_rfl) (by kernel_rfl)
noncomputable def h143 : H := hUpc h103 74 [] [] [] [(70, 2, 8, U 0), (70, 2, 13, .int .u32 (.var 12))]
noncomputable def s76 : Sym := ⟨[.ptr 32 0, I 0], h143, nm17, rg15,
  [(true, .bop .rem .u32 (.var 4) (.lit 32), .lit 10, true), (false, .var 8, .lit 1, false), (false, .var 7, .lit 1, false), (true, .bop .quo .u32 (.var 4) (.lit 32), .lit 0, true), (false, .var 5, .lit 256, true), (false, .lit 14, .var 6, false), (true, .var 6, .lit 2, false), (true, .var 6, .lit 3, false), (true, .var 6, .lit 4, false), (true, .var 6, .lit 5, false), (true, .var 6, .lit 6, false), (true, .var 6, .lit 7, false), (true, .var 6, .lit 8, false), (true, .var 6, .lit 9, false), (true, .var 6, .lit 10, false), (true, .var 6, .lit 1, false)],
  .agg [I 0, I 4, I 0, U 0, I 0, U 0, IZ (-1), I 0],
  [.cel 32 0 8 (.int .i64 (.add (.var 0) (.lit 1))),
  .row 38 0 ([.slice 51 0 0 1 1 false]),
  .row 40 0 ([I 16, .slice 54 0 1 1 10 false, .int .i64 (.add (.var 1) (.lit 1))]),
  .cel 42 0 8 (.int .u32 (.wrap .u32 (.add (.var 4) (.lit 1)))),
  .cel 42 0 9 (I 4),
  .row 45 0 ([IZ (-1), .int .i64 (.sub (.var 7) (.lit 1))]),
  .row 45 1 ([I 0, .int .i64 (.sub (.var 8) (.lit 1))])], 764⟩
theorem s76_ok : SO 11 s76 := so f7_ok (by kernel_rfl) (by kernel_rfl)
noncomputable def h144 : H := hUpd h104 414 [] [] [(78, 2, [.str [49, 52]])]
noncomputable def h145 : H := hUpd h144 475 [] [] []
noncomputable def m53 : Memo := ⟨[.slice 78 0 3 3 1 false, .map 135], h144, .tuple [U 17825806, .inil], h145⟩
theorem m53_run : ranTo (evCall (cxX Tryz.prog bad [] [] q0) 1000 60 40 m53.args m53.h) m53.v m53.h' = true := by kernel_rfl
theorem m53_ok {σ : Nat → Int} {W0 : World} (hL : L0 W0) : MemoOk Tryz.prog 412927 σ W0 40 m53 := memo_ok fit (Known2.nil σ) ((q0_ok hL)) m53_run
noncomputable def h146 : H := hUpd h106 680 [] [] [(116, 2, [.str [49, 52]])]
noncomputable def h147 : H := hUpd h146 741 [] [] []
noncomputable def m54 : Memo := ⟨[.slice 116 0 3 3 1 false, .map 135], h146, .tuple [U 17825806, .inil], h147⟩
theorem m54_run : ranTo (evCall (cxX Tryz.prog bad [] [] q0) 1000 60 40 m54.args m54.h) m54.v m54.h' = true := by kernel_rfl
theorem m54_ok {σ : Nat → Int} {W0 : World} (hL : L0 W0) : MemoOk Tryz.prog 412927 σ W0 40 m54 := memo_ok fit (Known2.nil σ) ((q0_ok hL)) m54_run
noncomputable def h148 : H := hUpc h108 74 [] [] [] [(42, 0, 1, U 14)]
noncomputable def s77 : Sym := ⟨[.ptr 32 0, I 0], h148, nm10, rg13,
  [(true, .bop .rem .u32 (.var 3) (.lit 32), .lit 6, true), (false, .var 5, .lit 1, false), (false, .var 4, .lit 1, false), (true, .bop .quo .u32 (.var 3) (.lit 32), .lit 0, true)],
  .agg [I 0, I 2, I 0, U 1, I 3, U 0, IZ (-1), I 0],
  [.cel 32 0 8 (.int .i64 (.add (.var 0) (.lit 1))),
  .row 40 0 ([I 16, .slice 54 0 1 1 10 false, .int .i64 (.add (.var 1) (.lit 1))]),
  .cel 42 0 0 (U 0),
  .cel 42 0 1 (U 0),
  .cel 42 0 2 (U 0),
  .cel 42 0 8 (.int .u32 (.wrap .u32 (.add (.var 3) (.lit 1)))),
  .cel 42 0 71 (I 0),
  .cel 42 0 72 (I 0),
  .row 45 0 ([IZ (-1), .int .i64 (.sub (.var 4) (.lit 1))]),
  .row 45 1 ([I 0, .int .i64 (.sub (.var 5) (.lit 1))]),
  .cel 70 2 14 (.int .u32 (.var 2))], 691⟩
theorem s77_ok : SO 11 s77 := so f14_ok (by kernel_rfl) (by kernel_rfl)
noncomputable def h149 : H := hUpc h109 74 [] [] [] [(70, 2, 9, U 0), (70, 2, 14, .int .u32 (.var 12))]
noncomputable def s78 : Sym := ⟨[.ptr 32 0, I 0], h149, nm10, rg15,
  [(true, .bop .rem .u32 (.var 4) (.lit 32), .lit 7, true), (false, .var 8, .lit 1, false), (false, .var 7, .lit 1, false), (true, .bop .quo .u32 (.var 4) (.lit 32), .lit 0, true), (false, .var 5, .lit 256, true), (false, .lit 14, .var 6, false), (true, .var 6, .lit 2, false), (true, .var 6, .lit 3, false), (true, .var 6, .lit 4, false), (true, .var 6, .lit 5, false), (true, .var 6, .lit 6, false), (true, .var 6, .lit 7, false), (true, .var 6, .lit 8, false), (true, .var 6, .lit 9, false), (true, .var 6, .lit 10, false), (true, .var 6, .lit 1, false)],
  .agg [I 0, I 1, I 0, U 0, I 0, U 0, IZ (-1), I 0],
  [.cel 32 0 8 (.int .i64 (.add (.var 0) (.lit 1))),
  .row 40 0 ([I 16, .slice 54 0 1 1 10 false, .int .i64 (.add (.var 1) (.lit 1))]),
  .cel 42 0 0 (U 0),
  .cel 42 0 8 (.int .u32 (.wrap .u32 (.add (.var 4) (.lit 1)))),
  .row 45 0 ([IZ (-1), .int .i64 (.sub (.var 7) (.lit 1))]),
  .row 45 1 ([I 0, .int .i64 (.sub (.var 8) (.lit 1))])], 774⟩
theorem s78_ok : SO 11 s78 := so f7_ok (by kernel_rfl) (by kernel_rfl)
noncomputable def s79 : Sym := ⟨[.ptr 32 0, I 0], h149, nm10, rg15,
  [(true, .bop .rem .u32 (.var 4) (.lit 32), .lit 8, true), fs 11 1, (true, .bop .and .i64 (.bop .shr .i64 (.var 11) (.lit 20)) (.lit 15), .lit 1, true), (false, .var 8, .lit 1, false), (false, .var 7, .lit 1, false), (true, .bop .quo .u32 (.var 4) (.lit 32), .lit 0, true), fa 11 16, fa 11 12, (false, .var 5, .lit 256, true), (false, .lit 14, .var 6, false), (true, .var 6, .lit 2, false), (true, .var 6, .lit 3, false), (true, .var 6, .lit 4, false), (true, .var 6, .lit 5, false), (true, .var 6, .lit 6, false), (true, .var 6, .lit 7, false), (true, .var 6, .lit 8, false), (true, .var 6, .lit 9, false), (true, .var 6, .lit 10, false), (true, .var 6, .lit 1, false)],
  .agg [I 0, I 1, I 0, U 0, I 0, U 0, IZ (-1), I 0],
  [.cel 32 0 8 (.int .i64 (.add (.var 0) (.lit 1))),
  .row 40 0 ([I 16, .slice 54 0 1 1 10 false, .int .i64 (.add (.var 1) (.lit 1))]),
  .cel 42 0 1 (.int .u32 (.bop .and .i64 (.var 11) (.lit 4095))),
  .cel 42 0 8 (.int .u32 (.wrap .u32 (.add (.var 4) (.lit 1)))),
  .row 45 0 ([IZ (-1), .int .i64 (.sub (.var 7) (.lit 1))]),
  .row 45 1 ([I 0, .int .i64 (.sub (.var 8) (.lit 1))])], 774⟩
theorem s79_ok : SO 11 s79 := so f7_ok (by kernel_rfl) (by kernel_rfl)
noncomputable def h150 : H := hUpc h110 74 [] [] [] [(70, 2, 9, U 0), (70, 2, 14, .int .u32 (.var 8)), (42, 0, 1, U 14)]
noncomputable def s80 : Sym := ⟨[.ptr 32 0, I 0], h150, nm10, rg16,
  [(true, .bop .rem .u32 (.var 2) (.lit 32), .lit 9, true), (false, .var 4, .lit 1, false), (false, .var 3, .lit 1, false), (true, .bop .quo .u32 (.var 2) (.lit 32), .lit 0, true)],
  .agg [I 0, I 2, I 0, U 0, I 3, U 0, IZ (-1), I 0],
  [.cel 32 0 8 (.int .i64 (.add (.var 0) (.lit 1))),
  .row 40 0 ([I 16, .slice 54 0 1 1 10 false, .int .i64 (.add (.var 1) (.lit 1))]),
  .cel 42 0 1 (.int .u32 (.var 8)),
  .cel 42 0 8 (.int .u32 (.wrap .u32 (.add (.var 2) (.lit 1)))),
  .row 45 0 ([IZ (-1), .int .i64 (.sub (.var 3) (.lit 1))]),
  .row 45 1 ([I 0, .int .i64 (.sub (.var 4) (.lit 1))])], 643⟩
theorem s80_ok : SO 11 s80 := so f14_ok (by kernel_rfl) (by kernel_rfl)
noncomputable def h151 : H := hUpc h111 74 [] [] [] [(70, 2, 9, U 0), (70, 2, 14, .int .u32 (.var 12))]
noncomputable def s81 : Sym := ⟨[.ptr 32 0, I 0], h151, nm17, rg15,
  [(true, .bop .rem .u32 (.var 4) (.lit 32), .lit 10, true), (false, .var 8, .lit 1, false), (false, .var 7, .lit 1, false), (true, .bop .quo .u32 (.var 4) (.lit 32), .lit 0, true), (false, .var 5, .lit 256, true), (false, .lit 14, .var 6, false), (true, .var 6, .lit 2, false), (true, .var 6, .lit 3, false), (true, .var 6, .lit 4, false), (true, .var 6, .lit 5, false), (true, .var 6, .lit 6, false), (true, .var 6, .lit 7, false), (true, .var 6, .lit 8, false), (true, .var 6, .lit 9, false), (true, .var 6, .lit 10, false), (true, .var 6, .lit 1, false)],
  .agg [I 0, I 4, I 0, U 0, I 0, U 0, IZ (-1), I 0],
  [.cel 32 0 8 (.int .i64 (.add (.var 0) (.lit 1))),
  .row 38 0 ([.slice 51 0 0 1 1 false]),
  .row 40 0 ([I 16, .slice 54 0 1 1 10 false, .int .i64 (.add (.var 1) (.lit 1))]),
  .cel 42 0 8 (.int .u32 (.wrap .u32 (.add (.var 4) (.lit 1)))),
  .cel 42 0 9 (I 4),
  .row 45 0 ([IZ (-1), .int .i64 (.sub (.var 7) (.lit 1))]),
  .row 45 1 ([I 0, .int .i64 (.sub (.var 8) (.lit 1))])], 764⟩
theorem s81_ok : SO 11 s81 := so f7_ok (by kernel_rfl) (by kernel_rfl)
noncomputable def h152 : H := hUpd h112 414 [] [] [(78, 2, [.str [49, 53]])]
noncomputable def h153 : H := hUpd h152 475 [] [] []
noncomputable def m55 : Memo := ⟨[.slice 78 0 3 3 1 false, .map 135], h152, .tuple [U 17825807, .inil], h153⟩
theorem m55_run : ranTo (evCall (cxX Tryz.prog bad [] [] q0) 1000 60 40 m55.args m55.h) m55.v m55.h' = true := by kernel_rfl
theorem m55_ok {σ : Nat → Int} {W0 : World} (hL : L0 W0) : MemoOk Tryz.prog 412927 σ W0 40 m55 := memo_ok fit (Known2.nil σ) ((q0_ok hL)) m55_run
noncomputable def h154 : H := hUpd h114 680 [] [] [(116, 2, [.str [49, 53]])]
noncomputable def h155 : H := hUpd h154 741 [] [] []
noncomputable def m56 : Memo := ⟨[.slice 116 0 3 3 1 false, .map 135], h154, .tuple [U 17825807, .inil], h155⟩
theorem m56_run : ranTo (evCall (cxX Tryz.prog bad [] [] q0) 1000 60 40 m56.args m56.h) m56.v m56.h' = true := by kernel_rfl
theorem m56_ok {σ : Nat → Int} {W0 : World} (hL : L0 W0) : MemoOk Tryz.prog 412927 σ W0 40 m56 := memo_ok fit (Known2.nil σ) ((q0_ok hL)) m56_run
noncomputable def h156 : H := hUpc h116 74 [] [] [] [(42, 0, 1, U 15)]
noncomputable def s82 : Sym := ⟨[.ptr 32 0, I 0], h156, nm10, rg13,
  [(true, .bop .rem .u32 (.var 3) (.lit 32), .lit 6, true), (false, .var 5, .lit 1, false), (false, .var 4, .lit 1, false), (true, .bop .quo .u32 (.var 3) (.lit 32), .lit 0, true)],
  .agg [I 0, I 2, I 0, U 1, I 3, U 0, IZ (-1), I 0],
  [.cel 32 0 8 (.int .i64 (.add (.var 0) (.lit 1))),
  .row 40 0 ([I 16, .slice 54 0 1 1 10 false, .int .i64 (.add (.var 1) (.lit 1))]),
  .cel 42 0 0 (U 0),
  .cel 42 0 1 (U 0),
  .cel 42 0 2 (U 0),
  .cel 42 0 8 (.int .u32 (.wrap .u32 (.add (.var 3) (.lit 1)))),
  .cel 42 0 71 (I 0),
  .cel 42 0 72 (I 0),
  .row 45 0 ([IZ (-1), .int .i64 (.sub (.var 4) (.lit 1))]),
  .row 45 1 ([I 0, .int .i64 (.sub (.var 5) (.lit 1))]),
  .cel 70 2 15 (.int .u32 (.var 2))], 691⟩
theorem s82_ok : SO 11 s82 := so f14_ok (by kernel_rfl) (by kernel_rfl)
noncomputable def h157 : H := hUpc h117 74 [] [] [] [(70, 2, 10, U 0), (70, 2, 15, .int .u32 (.var 12))]
noncomputable def s83 : Sym := ⟨[.ptr 32 0, I 0], h157, nm10, rg15,
  [(true, .bop .rem .u32 (.var 4) (.lit 32), .lit 7, true), (false, .var 8, .lit 1, false), (false, .var 7, .lit 1, false), (true, .bop .quo .u32 (.var 4) (.lit 32), .lit 0, true), (false, .var 5, .lit 256, true), (false, .lit 14, .var 6, false), (true, .var 6, .lit 2, false), (true, .var 6, .lit 3, false), (true, .var 6, .lit 4, false), (true, .var 6, .lit 5, false), (true, .var 6, .lit 6, false), (true, .var 6, .lit 7, false), (true, .var 6, .lit 8, false), (true, .var 6, .lit 9, false), (true, .var 6, .lit 10, false), (true, .var 6, .lit 1, false)],
  .agg [I 0, I 1, I 0, U 0, I 0, U 0, IZ (-1), I 0],
  [.cel 32 0 8 (.int .i64 (.add (.var 0) (.lit 1))),
  .row 40 0 ([I 16, .slice 54 0 1 1 10 false, .int .i64 (.add (.var 1) (.lit 1))]),
  .cel 42 0 0 (U 0),
  .cel 42 0 8 (.int .u32 (.wrap .u32 (.add (.var 4) (.lit 1)))),
  .row 45 0 ([IZ (-1), .int .i64 (.sub (.var 7) (.lit 1))]),
  .row 45 1 ([I 0, .int .i64 (.sub (.var 8) (.lit 1))])], 774⟩
theorem s83_ok : SO 11 s83 := so f7_ok (by kernel_rfl) (by kernel_rfl)
noncomputable def s84 : Sym := ⟨[.ptr 32 0, I 0], h157, nm10, rg15,
  [(true, .bop .rem .u32 (.var 4) (.lit 32), .lit 8, true), fs 11 1, (true, .bop .and .i64 (.bop .shr .i64 (.var 11) (.lit 20)) (.lit 15), .lit 1, true), (false, .var 8, .lit 1, false), (false, .var 7, .lit 1, false), (true, .bop .quo .u32 (.var 4) (.lit 32), .lit 0, true), fa 11 16, fa 11 12, (false, .var 5, .lit 256, true), (false, .lit 14, .var 6, false), (true, .var 6, .lit 2, false), (true, .var 6, .lit 3, false), (true, .var 6, .lit 4, false), (true, .var 6, .lit 5, false), (true, .var 6, .lit 6, false), (true, .var 6, .lit 7, false), (true, .var 6, .lit 8, false), (true, .var 6, .lit 9, false), (true, .var 6, .lit 10, false), (true, .var 6, .lit 1, false)],
  .agg [I 0, I 1, I 0, U 0, I 0, U 0, IZ (-1), I 0],
  [.cel 32 0 8 (.int .i64 (.add (.var 0) (.lit 1))),
  .row 40 0 ([I 16, .slice 54 0 1 1 10 false, .int .i64 (.add (.var 1) (.lit 1))]),
  .cel 42 0 1 (.int .u32 (.bop .and .i64 (.var 11) (.lit 4095))),
  .cel 42 0 8 (.int .u32 (.wrap .u32 (.add (.var 4) (.lit 1)))),
  .row 45 0 ([IZ (-1), .int .i64 (.sub (.var 7) (.lit 1))]),
  .row 45 1 ([I 0, .int .i64 (.sub (.var 8) (.lit 1))])], 774⟩
theorem s84_ok : SO 11 s84 := so f7_ok (by kernel_rfl) (by kernel_rfl)
noncomputable def h158 : H := hUpc h118 74 [] [] [] [(70, 2, 10, U 0), (70, 2, 15, .int .u32 (.var 8)), (42, 0, 1, U 15)]
noncomputable def s85 : Sym := ⟨[.ptr 32 0, I 0], h158, nm10, rg16,
  [(true, .bop .rem .u32 (.var 2) (.lit 32), .lit 9, true), (false, .var 4, .lit 1, false), (false, .var 3, .lit 1, false), (true, .bop .quo .u32 (.var 2) (.lit 32), .lit 0, true)],
  .agg [I 0, I 2, I 0, U 0, I 3, U 0, IZ (-1), I 0],
  [.cel 32 0 8 (.int .i64 (.add (.var 0) (.lit 1))),
  .row 40 0 ([I 16, .slice 54 0 1 1 10 false, .int .i64 (.add (.var 1) (.lit 1))]),
  .cel 42 0 1 (.int .u32 (.var 8)),
  .cel 42 0 8 (.int .u32 (.wrap .u32 (.add (.var 2) (.lit 1)))),
  .row 45 0 ([IZ (-1), .int .i64 (.sub (.var 3) (.lit 1))]),
  .row 45 1 ([I 0, .int .i64 (.sub (.var 4) (.lit 1))])], 643⟩
theorem s85_ok : SO 11 s85 := so f14_ok (by kernel_rfl) (by kernel_rfl)
noncomputable def h159 : H := hUpc h119 74 [] [] [] [(70, 2, 10, U 0), (70, 2, 15, .int .u32 (.var 12))]
noncomputable def s86 : Sym := ⟨[.ptr 32 0, I 0], h159, nm17, rg15,
  [(true, .bop .rem .u32 (.var 4) (.lit 32), .lit 10, true), (false, .var 8, .lit 1, false), (false, .var 7, .lit 1, false), (true, .bop .quo .u32 (.var 4) (.lit 32), .lit 0, true), (false, .var 5, .lit 256, true), (false, .lit 14, .var 6, false), (true, .var 6, .lit 2, false), (true, .var 6, .lit 3, false), (true, .var 6, .lit 4, false), (true, .var 6, .lit 5, false), (true, .var 6, .lit 6, false), (true, .var 6, .lit 7, false), (true, .var 6, .lit 8, false), (true, .var 6, .lit 9, false), (true, .var 6, .lit 10, false), (true, .var 6, .lit 1, false)],
  .agg [I 0, I 4, I 0, U 0, I 0, U 0, IZ (-1), I 0],
  [.cel 32 0 8 (.int .i64 (.add (.var 0) (.lit 1))),
  .row 38 0 ([.slice 51 0 0 1 1 false]),
  .row 40 0 ([I 16, .slice 54 0 1 1 10 false, .int .i64 (.add (.var 1) (.lit 1))]),
  .cel 42 0 8 (.int .u32 (.wrap .u32 (.add (.var 4) (.lit 1)))),
  .cel 42 0 9 (I 4),
  .row 45 0 ([IZ (-1), .int .i64 (.sub (.var 7) (.lit 1))]),
  .row 45 1 ([I 0, .int .i64 (.sub (.var 8) (.lit 1))])], 764⟩
theorem s86_ok : SO 11 s86 := so f7_ok (by kernel_rfl) (by kernel_rfl)
noncomputable def h160 : H := hUpd h120 414 [] [] [(78, 2, [.str [49, 54]])]
noncomputable def h161 : H := hUpd h160 475 [] [] []
noncomputable def m57 : Memo := ⟨[.slice 78 0 3 3 1 false, .map 135], h160, .tuple [U 17825808, .inil], h161⟩
theorem m57_run : ranTo (evCall (cxX Tryz.prog bad [] [] q0) 1000 60 40 m57.args m57.h) m57.v m57.h' = true := by kernel_rfl
theorem m57_ok {σ : Nat → Int} {W0 : World} (hL : L0 W0) : MemoOk Tryz.prog 412927 σ W0 40 m57 := memo_ok fit (Known2.nil σ) ((q0_ok hL)) m57_run
noncomputable def h162 : H := hUpd h122 680 [] [] [(116, 2, [.str [49, 54]])]
noncomputable def h163 : H := hUpd h162 741 [] [] []
noncomputable def m58 : Memo := ⟨[.slice 116 0 3 3 1 false, .map 135], h162, .tuple [U 17825808, .inil], h163⟩
theorem m58_run : ranTo (evCall (cxX Tryz.prog bad [] [] q0) 1000 60 40 m58.args m58.h) m58.v m58.h' = true := by kernel_rfl
theorem m58_ok {σ : Nat → Int} {W0 : World} (hL : L0 W0) : MemoOk Tryz.prog 412927 σ W0 40 m58 := memo_ok fit (Known2.nil σ) ((q0_ok hL)) m58_run
noncomputable def h164 : H := hUpc h124 74 [] [] [] [(42, 0, 1, U 16)]
noncomputable def s87 : Sym := ⟨[.ptr 32 0, I 0], h164, nm10, rg13,
  [(true, .bop .rem .u32 (.var 3) (.lit 32), .lit 6, true), (false, .var 5, .lit 1, false), (false, .var 4, .lit 1, false), (true, .bop .quo .u32 (.var 3) (.lit 32), .lit 0, true)],
  .agg [I 0, I 2, I 0, U 1, I 3, U 0, IZ (-1), I 0],
  [.cel 32 0 8 (.int .i64 (.add (.var 0) (.lit 1))),
  .row 40 0 ([I 16, .slice 54 0 1 1 10 false, .int .i64 (.add (.var 1) (.lit 1))]),
  .cel 42 0 0 (U 0),
  .cel 42 0 1 (U 0),
  .cel 42 0 2 (U 0),
  .cel 42 0 8 (.int .u32 (.wrap .u32 (.add (.var 3) (.lit 1)))),
  .cel 42 0 71 (I 0),
  .cel 42 0 72 (I 0),
  .row 45 0 ([IZ (-1), .int .i64 (.sub (.var 4) (.lit 1))]),
  .row 45 1 ([I 0, .int .i64 (.sub (.var 5) (.lit 1))]),
  .cel 70 2 16 (.int .u32 (.var 2))], 691⟩
theorem s87_ok : SO 11 s87 := so f14_ok (by kernel_rfl) (by kernel_rfl)
noncomputable def h165 : H := hUpc h125 74 [] [] [] [(70, 2, 11, U 0), (70, 2, 16, .int .u32 (.var 12))]
noncomputable def s88 : Sym := ⟨[.ptr 32 0, I 0], h165, nm10, rg15,
  [(true, .bop .rem .u32 (.var 4) (.lit 32), .lit 7, true), (false, .var 8, .lit 1, false), (false, .var 7, .lit 1, false), (true, .bop .quo .u32 (.var 4) (.lit 32), .lit 0, true), (false, .var 5, .lit 256, true), (false, .lit 14, .var 6, false), (true, .var 6, .lit 2, false), (true, .var 6, .lit 3, false), (true, .var 6, .lit 4, false), (true, .var 6, .lit 5, false), (true, .var 6, .lit 6, false), (true, .var 6, .lit 7, false), (true, .var 6, .lit 8, false), (true, .var 6, .lit 9, false), (true, .var 6, .lit 10, false), (true, .var 6, .lit 1, false)],
  .agg [I 0, I 1, I 0, U 0, I 0, U 0, IZ (-1), I 0],
  [.cel 32 0 8 (.int .i64 (.add (.var 0) (.lit 1))),
  .row 40 0 ([I 16, .slice 54 0 1 1 10 false, .int .i64 (.add (.var 1) (.lit 1))]),
  .cel 42 0 0 (U 0),
  .cel 42 0 8 (.int .u32 (.wrap .u32 (.add (.var 4) (.lit 1)))),
  .row 45 0 ([IZ (-1), .int .i64 (.sub (.var 7) (.lit 1))]),
  .row 45 1 ([I 0, .int .i64 (.sub (.var 8) (.lit 1))])], 774⟩
theorem s88_ok : SO 11 s88 := so f7_ok (by kernel_rfl) (by kernel_rfl)
noncomputable def s89 : Sym := ⟨[.ptr 32 0, I 0], h165, nm10, rg15,
  [(true, .bop .rem .u32 (.var 4) (.lit 32), .lit 8, true), fs 11 1, (true, .bop .and .i64 (.bop .shr .i64 (.var 11) (.lit 20)) (.lit 15), .lit 1, true), (false, .var 8, .lit 1, false), (false, .var 7, .lit 1, false), (true, .bop .quo .u32 (.var 4) (.lit 32), .lit 0, true), fa 11 16, fa 11 12, (false, .var 5, .lit 256, true), (false, .lit 14, .var 6, false), (true, .var 6, .lit 2, false), (true, .var 6, .lit 3, false), (true, .var 6, .lit 4, false), (true, .var 6, .lit 5, false), (true, .var 6, .lit 6, false), (true, .var 6, .lit 7, false), (true, .var 6, .lit 8, false), (true, .var 6, .lit 9, false), (true, .var 6, .lit 10, false), (true, .var 6, .lit 1, false)],
  .agg [I 0, I 1, I 0, U 0, I 0, U 0, IZ (-1), I 0],
  [.cel 32 0 8 (.int .i64 (.add (.var 0) (.lit 1))),
  .row 40 0 ([I 16, .slice 54 0 1 1 10 false, .int .i64 (.add (.var 1) (.lit 1))]),
  .cel 42 0 1 (.int .u32 (.bop .and .i64 (.var 11) (.lit 4095))),
  .cel 42 0 8 (.int .u32 (.wrap .u32 (.add (.var 4) (.lit 1)))),
  .row 45 0 ([IZ (-1), .int .i64 (.sub (.var 7) (.lit 1))]),
  .row 45 1 ([I 0, .int .i64 (.sub (.var 8) (.lit 1))])], 774⟩
theorem s89_ok : SO 11 s89 := so f7_ok (by kernel_rfl) (by kernel_rfl)
noncomputable def h166 : H := hUpc h126 74 [] [] [] [(70, 2, 11, U 0), (70, 2, 16, .int .u32 (.var 8)), (42, 0, 1, U 16)]
noncomputable def s90 : Sym := ⟨[.ptr 32 0, I 0], h166, nm10, rg16,
  [(true, .bop .rem .u32 (.var 2) (.lit 32), .lit 9, true), (false, .var 4, .lit 1, false), (false, .var 3, .lit 1, false), (true, .bop .quo .u32 (.var 2) (.lit 32), .lit 0, true)],
  .agg [I 0, I 2, I 0, U 0, I 3, U 0, IZ (-1), I 0],
  [.cel 32 0 8 (.int .i64 (.add (.var 0) (.lit 1))),
  .row 40 0 ([I 16, .slice 54 0 1 1 10 false, .int .i64 (.add (.var 1) (.lit 1))]),
  .cel 42 0 1 (.int .u32 (.var 8)),
  .cel 42 0 8 (.int .u32 (.wrap .u32 (.add (.var 2) (.lit 1)))),
  .row 45 0 ([IZ (-1), .int .i64 (.sub (.var 3) (.lit 1))]),
  .row 45 1 ([I 0, .int .i64 (.sub (.var 4) (.lit 1))])], 643⟩
theorem s90_ok : SO 11 s90 := so f14_ok (by kernel_rfl) (by kernel_rfl)
noncomputable def h167 : H := hUpc h127 74 [] [] [] [(70, 2, 11, U 0), (70, 2, 16, .int .u32 (.var 12))]
noncomputable def s91 : Sym := ⟨[.ptr 32 0, I 0], h167, nm17, rg15,
  [(true, .bop .rem .u32 (.var 4) (.lit 32), .lit 10, true), (false, .var 8, .lit 1, false), (false, .var 7, .lit 1, false), (true, .bop .quo .u32 (.var 4) (.lit 32), .lit 0, true), (false, .var 5, .lit 256, true), (false, .lit 14, .var 6, false), (true, .var 6, .lit 2, false), (true, .var 6, .lit 3, false), (true, .var 6, .lit 4, false), (true, .var 6, .lit 5, false), (true, .var 6, .lit 6, false), (true, .var 6, .lit 7, false), (true, .var 6, .lit 8, false), (true, .var 6, .lit 9, false), (true, .var 6, .lit 10, false), (true, .var 6, .lit 1, false)],
  .agg [I 0, I 4, I 0, U 0, I 0, U 0, IZ (-1), I 0],
  [.cel 32 0 8 (.int .i64 (.add (.var 0) (.lit 1))),
  .row 38 0 ([.slice 51 0 0 1 1 false]),
  .row 40 0 ([I 16, .slice 54 0 1 1 10 false, .int .i64 (.add (.var 1) (.lit 1))]),
  .cel 42 0 8 (.int .u32 (.wrap .u32 (.add (.var 4) (.lit 1)))),
  .cel 42 0 9 (I 4),
  .row 45 0 ([IZ (-1), .int .i64 (.sub (.var 7) (.lit 1))]),
  .row 45 1 ([I 0, .int .i64 (.sub (.var 8) (.lit 1))])], 764⟩
theorem s91_ok : SO 11 s91 := so f7_ok (by kernel_rfl) (by kernel_rfl)
noncomputable def h168 : H := hUpd h128 414 [] [] [(78, 2, [.str [49, 55]])]
noncomputable def h169 : H := hUpd h168 475 [] [] []
noncomputable def m59 : Memo := ⟨[.slice 78 0 3 3 1 false, .map 135], h168, .tuple [U 17825809, .inil], h169⟩
theorem m59_run : ranTo (evCall (cxX Tryz.prog bad [] [] q0) 1000 60 40 m59.args m59.h) m59.v m59.h' = true := by kernel_rfl
theorem m59_ok {σ : Nat → Int} {W0 : World} (hL : L0 W0) : MemoOk Tryz.prog 412927 σ W0 40 m59 := memo_ok fit (Known2.nil σ) ((q0_ok hL)) m59_run
noncomputable def h170 : H := hUpd h130 680 [] [] [(116, 2, [.str [49, 55]])]
noncomputable def h171 : H := hUpd h170 741 [] [] []
noncomputable def m60 : Memo := ⟨[.slice 116 0 3 3 1 false, .map 135], h170, .tuple [U 17825809, .inil], h171⟩
theorem m60_run : ranTo (evCall (cxX Tryz.prog bad [] [] q0) 1000 60 40 m60.args m60.h) m60.v m60.h' = true := by kernel_rfl
theorem m60_ok {σ : Nat → Int} {W0 : World} (hL : L0 W0) : MemoOk Tryz.prog 412927 σ W0 40 m60 := memo_ok fit (Known2.nil σ) ((q0_ok hL)) m60_run
noncomputable def h172 : H := hUpc h132 74 [] [] [] [(42, 0, 1, U 17)]
noncomputable def s92 : Sym := ⟨[.ptr 32 0, I 0], h172, nm10, rg13,
  [(true, .bop .rem .u32 (.var 3) (.lit 32), .lit 6, true), (false, .var 5, .lit 1, false), (false, .var 4, .lit 1, false), (true, .bop .quo .u32 (.var 3) (.lit 32), .lit 0, true)],
  .agg [I 0, I 2, I 0, U 1, I 3, U 0, IZ (-1), I 0],
  [.cel 32 0 8 (.int .i64 (.add (.var 0) (.lit 1))),
  .row 40 0 ([I 16, .slice 54 0 1 1 10 false, .int .i64 (.add (.var 1) (.lit 1))]),
  .cel 42 0 0 (U 0),
  .cel 42 0 1 (U 0),
  .cel 42 0 2 (U 0),
  .cel 42 0 8 (.int .u32 (.wrap .u32 (.add (.var 3) (.lit 1)))),
  .cel 42 0 71 (I 0),
  .cel 42 0 72 (I 0),
  .row 45 0 ([IZ (-1), .int .i64 (.sub (.var 4) (.lit 1))]),
  .row 45 1 ([I 0, .int .i64 (.sub (.var 5) (.lit 1))]),
  .cel 70 2 17 (.int .u32 (.var 2))], 691⟩
theorem s92_ok : SO 11 s92 := so f14_ok (by kernel_rfl) (by kernel_rfl)
noncomputable def h173 : H := hUpc h133 74 [] [] [] [(70, 2, 12, U 0), (70, 2, 17, .int .u32 (.var 12))]
noncomputable def s93 : Sym := ⟨[.ptr 32 0, I 0], h173, nm10, rg15,
  [(true, .bop .rem .u32 (.var 4) (.lit 32), .lit 7, true), (false, .var 8, .lit 1, false), (false, .var 7, .lit 1, false), (true, .bop .quo .u32 (.var 4) (.lit 32), .lit 0, true), (false, .var 5, .lit 256, true), (false, .lit 14, .var 6, false), (true, .var 6, .lit 2, false), (true, .var 6, .lit 3, false), (true, .var 6, .lit 4, false), (true, .var 6, .lit 5, false), (true, .var 6, .lit 6, false), (true, .var 6, .lit 7, false), (true, .var 6, .lit 8, false), (true, .var 6, .lit 9, false), (true, .var 6, .lit 10, false), (true, .var 6, .lit 1, false)],
  .agg [I 0, I 1, I 0, U 0, I 0, U 0, IZ (-1), I 0],
  [.cel 32 0 8 (.int .i64 (.add (.var 0) (.lit 1))),
  .row 40 0 ([I 16, .slice 54 0 1 1 10 false, .int .i64 (.add (.var 1) (.lit 1))]),
  .cel 42 0 0 (U 0),
  .cel 42 0 8 (.int .u32 (.wrap .u32 (.add (.var 4) (.lit 1)))),
  .row 45 0 ([IZ (-1), .int .i64 (.sub (.var 7) (.lit 1))]),
  .row 45 1 ([I 0, .int .i64 (.sub (.var 8) (.lit 1))])], 774⟩
theorem s93_ok : SO 11 s93 := so f7_ok (by kernel_rfl) (by kernel_rfl)
noncomputable def s94 : Sym := ⟨[.ptr 32 0, I 0], h173, nm10, rg15,
  [(true, .bop .rem .u32 (.var 4) (.lit 32), .lit 8, true), fs 11 1, (true, .bop .and .i64 (.bop .shr .i64 (.var 11) (.lit 20)) (.lit 15), .lit 1, true), (false, .var 8, .lit 1, false), (false, .var 7, .lit 1, false), (true, .bop .quo .u32 (.var 4) (.lit 32), .lit 0, true), fa 11 16, fa 11 12, (false, .var 5, .lit 256, true), (false, .lit 14, .var 6, false), (true, .var 6, .lit 2, false), (true, .var 6, .lit 3, false), (true, .var 6, .lit 4, false), (true, .var 6, .lit 5, false), (true, .var 6, .lit 6, false), (true, .var 6, .lit 7, false), (true, .var 6, .lit 8, false), (true, .var 6, .lit 9, false), (true, .var 6, .lit 10, false), (true, .var 6, .lit 1, false)],
  .agg [I 0, I 1, I 0, U 0, I 0, U 0, IZ (-1), I 0],
  [.cel 32 0 8 (.int .i64 (.add (.var 0) (.lit 1))),
  .row 40 0 ([I 16, .slice 54 0 1 1 10 false, .int .i64 (.add (.var 1) (.lit 1))]),
  .cel 42 0 1 (.int .u32 (.bop .and .i64 (.var 11) (.lit 4095))),
  .cel 42 0 8 (.int .u32 (.wrap .u32 (.add (.var 4) (.lit 1)))),
  .row 45 0 ([IZ (-1), .int .i64 (.sub (.var 7) (.lit 1))]),
  .row 45 1 ([I 0, .int .i64 (.sub (.var 8) (.lit 1))])], 774⟩
theorem s94_ok : SO 11 s94 := so f7_ok (by kernel_rfl) (by kernel_rfl)
noncomputable def h174 : H := hUpc h134 74 [] [] [] [(70, 2, 12, U 0), (70, 2, 17, .int .u32 (.var 8)), (42, 0, 1, U 17)]
noncomputable def s95 : Sym := ⟨[.ptr 32 0, I 0], h174, nm10, rg16,
  [(true, .bop .rem .u32 (.var 2) (.lit 32), .lit 9, true), (false, .var 4, .lit 1, false), (false, .var 3, .lit 1, false), (true, .bop .quo .u32 (.var 2) (.lit 32), .lit 0, true)],
  .agg [I 0, I 2, I 0, U 0, I 3, U 0, IZ (-1), I 0],
  [.cel 32 0 8 (.int .i64 (.add (.var 0) (.lit 1))),
  .row 40 0 ([I 16, .slice 54 0 1 1 10 false, .int .i64 (.add (.var 1) (.lit 1))]),
  .cel 42 0 1 (.int .u32 (.var 8)),
  .cel 42 0 8 (.int .u32 (.wrap .u32 (.add (.var 2) (.lit 1)))),
  .row 45 0 ([IZ (-1), .int .i64 (.sub (.var 3) (.lit 1))]),
  .row 45 1 ([I 0, .int .i64 (.sub (.var 4) (.lit 1))])], 643⟩
theorem s95_ok : SO 11 s95 := so f14_ok (by kernel_rfl) (by kernel_rfl)
noncomputable def h175 : H := hUpc h135 74 [] [] [] [(70, 2, 12, U 0), (70, 2, 17, .int .u32 (.var 12))]
noncomputable def s96 : Sym := ⟨[.ptr 32 0, I 0], h175, nm17, rg15,
  [(true, .bop .rem .u32 (.var 4) (.lit 32), .lit 10, true), (false, .var 8, .lit 1, false), (false, .var 7, .lit 1, false), (true, .bop .quo .u32 (.var 4) (.lit 32), .lit 0, true), (false, .var 5, .lit 256, true), (false, .lit 14, .var 6, false), (true, .var 6, .lit 2, false), (true, .var 6, .lit 3, false), (true, .var 6, .lit 4, false), (true, .var 6, .lit 5, false), (true, .var 6, .lit 6, false), (true, .var 6, .lit 7, false), (true, .var 6, .lit 8, false), (true, .var 6, .lit 9, false), (true, .var 6, .lit 10, false), (true, .var 6, .lit 1, false)],
  .agg [I 0, I 4, I 0, U 0, I 0, U 0, IZ (-1), I 0],
  [.cel 32 0 8 (.int .i64 (.add (.var 0) (.lit 1))),
  .row 38 0 ([.slice 51 0 0 1 1 false]),
  .row 40 0 ([I 16, .slice 54 0 1 1 10 false, .int .i64 (.add (.var 1) (.lit 1))]),
  .cel 42 0 8 (.int .u32 (.wrap .u32 (.add (.var 4) (.lit 1)))),
  .cel 42 0 9 (I 4),
  .row 45 0 ([IZ (-1), .int .i64 (.sub (.var 7) (.lit 1))]),
  .row 45 1 ([I 0, .int .i64 (.sub (.var 8) (.lit 1))])], 764⟩
theorem s96_ok : SO 11 s96 := so f7_ok (by kernel_rfl) (by kernel_rfl)
noncomputable def h176 : H := hUpd h136 414 [] [] [(78, 2, [.str [49, 56]])]
noncomputable def h177 : H := hUpd h176 475 [] [] []
noncomputable def m61 : Memo := ⟨[.slice 78 0 3 3 1 false, .map 135], h176, .tuple [U 17825810, .inil], h177⟩
theorem m61_run : ranTo (evCall (cxX Tryz.prog bad [] [] q0) 1000 60 40 m61.args m61.h) m61.v m61.h' = true := by kernel_rfl
theorem m61_ok {σ : Nat → Int} {W0 : World} (hL : L0 W0) : MemoOk Tryz.prog 412927 σ W0 40 m61 := memo_ok fit (Known2.nil σ) ((q0_ok hL)) m61_run
noncomputable def h178 : H := hUpd h138 680 [] [] [(116, 2, [.str [49, 56]])]
noncomputable def h179 : H := hUpd h178 741 [] [] []
noncomputable def m62 : Memo := ⟨[.slice 116 0 3 3 1 false, .map 135], h178, .tuple [U 17825810, .inil], h179⟩
theorem m62_run : ranTo (evCall (cxX Tryz.prog bad [] [] q0) 1000 60 40 m62.args m62.h) m62.v m62.h' = true := by kernel_rfl
theorem m62_ok {σ : Nat → Int} {W0 : World} (hL : L0 W0) : MemoOk Tryz.prog 412927 σ W0 40 m62 := memo_ok fit (Known2.nil σ) ((q0_ok hL)) m62_run
noncomputable def h180 : H := hUpc h140 74 [] [] [] [(42, 0, 1, U 18)]
noncomputable def s97 : Sym := ⟨[.ptr 32 0, I 0], h180, nm10, rg13,
  [(true, .bop .rem .u32 (.var 3) (.lit 32), .lit 6, true), (false, .var 5, .lit 1, false), (false, .var 4, .lit 1, false), (true, .bop .quo .u32 (.var 3) (.lit 32), .lit 0, true)],
  .agg [I 0, I 2, I 0, U 1, I 3, U 0, IZ (-1), I 0],
  [.cel 32 0 8 (.int .i64 (.add (.var 0) (.lit 1))),
  .row 40 0 ([I 16, .slice 54 0 1 1 10 false, .int .i64 (.add (.var 1) (.lit 1))]),
  .cel 42 0 0 (U 0),
  .cel 42 0 1 (U 0),
  .cel 42 0 2 (U 0),
  .cel 42 0 8 (.int .u32 (.wrap .u32 (.add (.var 3) (.lit 1)))),
  .cel 42 0 71 (I 0),
  .cel 42 0 72 (I 0),
  .row 45 0 ([IZ (-1), .int .i64 (.sub (.var 4) (.lit 1))]),
  .row 45 1 ([I 0, .int .i64 (.sub (.var 5) (.lit 1))]),
  .cel 70 2 18 (.int .u32 (.var 2))], 691⟩
theorem s97_ok : SO 11 s97 := so f14_ok (by kernel_rfl) (by kernel_rfl)
noncomputable def h181 : H := hUpc h141 74 [] [] [] [(70, 2, 13, U 0), (70, 2, 18, .int .u32 (.var 12))]
noncomputable def s98 : Sym := ⟨[.ptr 32 0, I 0], h181, nm10, rg15,
  [(true, .bop .rem .u32 (.var 4) (.lit 32), .lit 7, true), (false, .var 8, .lit 1, false), (false, .var 7, .lit 1, false), (true, .bop .quo .u32 (.var 4) (.lit 32), .lit 0, true), (false, .var 5, .lit 256, true), (false, .lit 14, .var 6, false), (true, .var 6, .lit 2, false), (true, .var 6, .lit 3, false), (true, .var 6, .lit 4, false), (true, .var 6, .lit 5, false), (true, .var 6, .lit 6, false), (true, .var 6, .lit 7, false), (true, .var 6, .lit 8, false), (true, .var 6, .lit 9, false), (true, .var 6, .lit 10, false), (true, .var 6, .lit 1, false)],
  .agg [I 0, I 1, I 0, U 0, I 0, U 0, IZ (-1), I 0],
  [.cel 32 0 8 (.int .i64 (.add (.var 0) (.lit 1))),
  .row 40 0 ([I 16, .slice 54 0 1 1 10 false, .int .i64 (.add (.var 1) (.lit 1))]),
  .cel 42 0 0 (U 0),
  .cel 42 0 8 (.int .u32 (.wrap .u32 (.add (.var 4) (.lit 1)))),
  .row 45 0 ([IZ (-1), .int .i64 (.sub (.var 7) (.lit 1))]),
  .row 45 1 ([I 0, .int .i64 (.sub (.var 8) (.lit 1))])], 774⟩
theorem s98_ok : SO 11 s98 := so f7_ok (by kernel_rfl) (by kernel_rfl)
noncomputable def s99 : Sym := ⟨[.ptr 32 0, I 0], h181, nm10, rg15,
  [(true, .bop .rem .u32 (.var 4) (.lit 32), .lit 8, true), fs 11 1, (true, .bop .and .i64 (.bop .shr .i64 (.var 11) (.lit 20)) (.lit 15), .lit 1, true), (false, .var 8, .lit 1, false), (false, .var 7, .lit 1, false), (true, .bop .quo .u32 (.var 4) (.lit 32), .lit 0, true), fa 11 16, fa 11 12, (false, .var 5, .lit 256, true), (false, .lit 14, .var 6, false), (true, .var 6, .lit 2, false), (true, .var 6, .lit 3, false), (true, .var 6, .lit 4, false), (true, .var 6, .lit 5, false), (true, .var 6, .lit 6, false), (true, .var 6, .lit 7, false), (true, .var 6, .lit 8, false), (true, .var 6, .lit 9, false), (true, .var 6, .lit 10, false), (true, .var 6, .lit 1, false)],
  .agg [I 0, I 1, I 0, U 0, I 0, U 0, IZ (-1), I 0],
  [.cel 32 0 8 (.int .i64 (.add (.var 0) (.lit 1))),
  .row 40 0 ([I 16, .slice 54 0 1 1 10 false, .int .i64 (.add (.var 1) (.lit 1))]),
  .cel 42 0 1 (.int .u32 (.bop .and .i64 (.var 11) (.lit 4095))),
  .cel 42 0 8 (.int .u32 (.wrap .u32 (.add (.var 4) (.lit 1)))),
  .row 45 0 ([IZ (-1), .int .i64 (.sub (.var 7) (.lit 1))]),
  .row 45 1 ([I 0, .int .i64 (.sub (.var 8) (.lit 1))])], 774⟩
theorem s99_ok : SO 11 s99 := so f7_ok (by kernel_rfl) (by kernel_rfl)
noncomputable def h182 : H := hUpc h142 74 [] [] [] [(70, 2, 13, U 0), (70, 2, 18, .int .u32 (.var 8)), (42, 0, 1, U 18)]
noncomputable def s100 : Sym := ⟨[.ptr 32 0, I 0], h182, nm10, rg16,
  [(true, .bop .rem .u32 (.var 2) (.lit 32), .lit 9, true), (false, .var 4, .lit 1, false), (false, .var 3, .lit 1, false), (true, .bop .quo .u32 (.var 2) (.lit 32), .lit 0, true)],
  .agg [I 0, I 2, I 0, U 0, I 3, U 0, IZ (-1), I 0],
  [.cel 32 0 8 (.int .i64 (.add (.var 0) (.lit 1))),
  .row 40 0 ([I 16, .slice 54 0 1 1 10 false, .int .i64 (.add (.var 1) (.lit 1))]),
  .cel 42 0 1 (.int .u32 (.var 8)),
  .cel 42 0 8 (.int .u32 (.wrap .u32 (.add (.var 2) (.lit 1)))),
  .row 45 0 ([IZ (-1), .int .i64 (.sub (.var 3) (.lit 1))]),
  .row 45 1 ([I 0, .int .i64 (.sub (.var 4) (.lit 1))])], 643⟩
theorem s100_ok : SO 11 s100 := so f14_ok (by kernel_rfl) (by kernel_rfl)
noncomputable def h183 : H := hUpc h143 74 [] [] [] [(70, 2, 13, U 0), (70, 2, 18, .int .u32 (.var 12))]
noncomputable def s101 : Sym := ⟨[.ptr 32 0, I 0], h183, nm17, rg15,
  [(true, .bop .rem .u32 (.var 4) (.lit 32), .lit 10, true), (false, .var 8, .lit 1, false), (false, .var 7, .lit 1, false), (true, .bop .quo .u32 (.var 4) (.lit 32), .lit 0, true), (false, .var 5, .lit 256, true), (false, .lit 14, .var 6, false), (true, .var 6, .lit 2, false), (true, .var 6, .lit 3, false), (true, .var 6, .lit 4, false), (true, .var 6, .lit 5, false), (true, .var 6, .lit 6, false), (true, .var 6, .lit 7, false), (true, .var 6, .lit 8, false), (true, .var 6, .lit 9, false), (true, .var 6, .lit 10, false), (true, .var 6, .lit 1, false)],
  .agg [I 0, I 4, I 0, U 0, I 0, U 0, IZ (-1), I 0],
  [.cel 32 0 8 (.int .i64 (.add (.var 0) (.lit 1))),
  .row 38 0 ([.slice 51 0 0 1 1 false]),
  .row 40 0 ([I 16, .slice 54 0 1 1 10 false, .int .i64 (.add (.var 1) (.lit 1))]),
  .cel 42 0 8 (.int .u32 (.wrap .u32 (.add (.var 4) (.lit 1)))),
  .cel 42 0 9 (I 4),
  .row 45 0 ([IZ (-1), .int .i64 (.sub (.var 7) (.lit 1))]),
  .row 45 1 ([I 0, .int .i64 (.sub (.var 8) (.lit 1))])], 764⟩
theorem s101_ok : SO 11 s101 := so f7_ok (by kernel_rfl) (by kernel_rfl)
noncomputable def h184 : H := hUpd h144 414 [] [] [(78, 2, [.str [49, 57]])]
noncomputable def h185 : H := hUpd h184 475 [] [] []
noncomputable def m63 : Memo := ⟨[.slice 78 0 3 3 1 false, .map 135], h184, .tuple [U 17825811, .inil], h185⟩
theorem m63_run : ranTo (evCall (cxX Tryz.prog bad [] [] q0) 1000 60 40 m63.args m63.h) m63.v m63.h' = true := by kernel_rfl
theorem m63_ok {σ : Nat → Int} {W0 : World} (hL : L0 W0) : MemoOk Tryz.prog 412927 σ W0 40 m63 := memo_ok fit (Known2.nil σ) ((q0_ok hL)) m63_run
noncomputable def h186 : H := hUpd h146 680 [] [] [(116, 2, [.str [49, 57]])]
noncomputable def h187 : H := hUpd h186 741 [] [] []
noncomputable def m64 : Memo := ⟨[.slice 116 0 3 3 1 false, .map 135], h186, .tuple [U 17825811, .inil], h187⟩
theorem m64_run : ranTo (evCall (cxX Tryz.prog bad [] [] q0) 1000 60 40 m64.args m64.h) m64.v m64.h' = true := by kernel_rfl
theorem m64_ok {σ : Nat → Int} {W0 : World} (hL : L0 W0) : MemoOk Tryz.prog 412927 σ W0 40 m64 := memo_ok fit (Known2.nil σ) ((q0_ok hL)) m64_run
noncomputable def h188 : H := hUpc h148 74 [] [] [] [(42, 0, 1, U 19)]
noncomputable def s102 : Sym := ⟨[.ptr 32 0, I 0], h188, nm10, rg13,
  [(true, .bop .rem .u32 (.var 3) (.lit 32), .lit 6, true), (false, .var 5, .lit 1, false), (false, .var 4, .lit 1, false), (true, .bop .quo .u32 (.var 3) (.lit 32), .lit 0, true)],
  .agg [I 0, I 2, I 0, U 1, I 3, U 0, IZ (-1), I 0],
  [.cel 32 0 8 (.int .i64 (.add (.var 0) (.lit 1))),
  .row 40 0 ([I 16, .slice 54 0 1 1 10 false, .int .i64 (.add (.var 1) (.lit 1))]),
  .cel 42 0 0 (U 0),
  .cel 42 0 1 (U 0),
  .cel 42 0 2 (U 0),
  .cel 42 0 8 (.int .u32 (.wrap .u32 (.add (.var 3) (.lit 1)))),
  .cel 42 0 71 (I 0),
  .cel 42 0 72 (I 0),
  .row 45 0 ([IZ (-1), .int .i64 (.sub (.var 4) (.lit 1))]),
  .row 45 1 ([I 0, .int .i64 (.sub (.var 5) (.lit 1))]),
  .cel 70 2 19 (.int .u32 (.var 2))], 691⟩
theorem s102_ok : SO 11 s102 := so f14_ok (by kernel_rfl) (by kernel_rfl)
noncomputable def h189 : H := hUpc h149 74 [] [] [] [(70, 2, 14, U 0), (70, 2, 19, .int .u32 (.var 12))]
noncomputable def s103 : Sym := ⟨[.ptr 32 0, I 0], h189, nm10, rg15,
  [(true, .bop .rem .u32 (.var 4) (.lit 32), .lit 7, true), (false, .var 8, .lit 1, false), (false, .var 7, .lit 1, false), (true, .bop .quo .u32 (.var 4) (.lit 32), .lit 0, true), (false, .var 5, .lit 256, true), (false, .lit 14, .var 6, false), (true, .var 6, .lit 2, false), (true, .var 6, .lit 3, false), (true, .var 6, .lit 4, false), (true, .var 6, .lit 5, false), (true, .var 6, .lit 6, false), (true, .var 6, .lit 7, false), (true, .var 6, .lit 8, false), (true, .var 6, .lit 9, false), (true, .var 6, .lit 10, false), (true, .var 6, .lit 1, false)],
  .agg [I 0, I 1, I 0, U 0, I 0, U 0, IZ (-1), I 0],
  [.cel 32 0 8 (.int .i64 (.add (.var 0) (.lit 1))),
  .row 40 0 ([I 16, .slice 54 0 1 1 10 false, .int .i64 (.add (.var 1) (.lit 1))]),
  .cel 42 0 0 (U 0),
  .cel 42 0 8 (.int .u32 (.wrap .u32 (.add (.var 4) (.lit 1)))),
  .row 45 0 ([IZ (-1), .int .i64 (.sub (.var 7) (.lit 1))]),
  .row 45 1 ([I 0, .int .i64 (.sub (.var 8) (.lit 1))])], 774⟩
theorem s103_ok : SO 11 s103 := so f7_ok (by kernel_rfl) (by kernel_rfl)
noncomputable def s104 : Sym := ⟨[.ptr 32 0, I 0], h189, nm10, rg15,
  [(true, .bop .rem .u32 (.var 4) (.lit 32), .lit 8, true), fs 11 1, (true, .bop .and .i64 (.bop .shr .i64 (.var 11) (.lit 20)) (.lit 15), .lit 1, true), (false, .var 8, .lit 1, false), (false, .var 7, .lit 1, false), (true, .bop .quo .u32 (.var 4) (.lit 32), .lit 0, true), fa 11 16, fa 11 12, (false, .var 5, .lit 256, true), (false, .lit 14, .var 6, false), (true, .var 6, .lit 2, false), (true, .var 6, .lit 3, false), (true, .var 6, .lit 4, false), (true, .var 6, .lit 5, false), (true, .var 6, .lit 6, false), (true, .var 6, .lit 7, false), (true, .var 6, .lit 8, false), (true, .var 6, .lit 9, false), (true, .var 6, .lit 10, false), (true, .var 6, .lit 1, false)],
  .agg [I 0, I 1, I 0, U 0, I 0, U 0, IZ (-1), I 0],
  [.cel 32 0 8 (.int .i64 (.add (.var 0) (.lit 1))),
  .row 40 0 ([I 16, .slice 54 0 1 1 10 false, .int .i64 (.add (.var 1) (.lit 1))]),
  .cel 42 0 1 (.int .u32 (.bop .and .i64 (.var 11) (.lit 4095))),
  .cel 42 0 8 (.int .u32 (.wrap .u32 (.add (.var 4) (.lit 1)))),
  .row 45 0 ([IZ (-1), .int .i64 (.sub (.var 7) (.lit 1))]),
  .row 45 1 ([I 0, .int .i64 (.sub (.var 8) (.lit 1))])], 774⟩
theorem s104_ok : SO 11 s104 := so f7_ok (by kernel_rfl) (by kernel_rfl)
noncomputable def h190 : H := hUpc h150 74 [] [] [] [(70, 2, 14, U 0), (70, 2, 19, .int .u32 (.var 8)), (42, 0, 1, U 19)]
noncomputable def s105 : Sym := ⟨[.ptr 32 0, I 0], h190, nm10, rg16,
  [(true, .bop .rem .u32 (.var 2) (.lit 32), .lit 9, true), (false, .var 4, .lit 1, false), (false, .var 3, .lit 1, false), (true, .bop .quo .u32 (.var 2) (.lit 32), .lit 0, true)],
  .agg [I 0, I 2, I 0, U 0, I 3, U 0, IZ (-1), I 0],
  [.cel 32 0 8 (.int .i64 (.add (.var 0) (.lit 1))),
  .row 40 0 ([I 16, .slice 54 0 1 1 10 false, .int .i64 (.add (.var 1) (.lit 1))]),
  .cel 42 0 1 (.int .u32 (.var 8)),
  .cel 42 0 8 (.int .u32 (.wrap .u32 (.add (.var 2) (.lit 1)))),
  .row 45 0 ([IZ (-1), .int .i64 (.sub (.var 3) (.lit 1))]),
  .row 45 1 ([I 0, .int .i64 (.sub (.var 4) (.lit 1))])], 643⟩
theorem s105_ok : SO 11 s105 := so f14_ok (by kernel_rfl) (by kernel_rfl)
noncomputable def h191 : H := hUpc h151 74 [] [] [] [(70, 2, 14, U 0), (70, 2, 19, .int .u32 (.var 12))]
noncomputable def s106 : Sym := ⟨[.ptr 32 0, I 0], h191, nm17, rg15,
  [(true, .bop .rem .u32 (.var 4) (.lit 32), .lit 10, true), (false, .var 8, .lit 1, false), (false, .var 7, .lit 1, false), (true, .bop .quo .u32 (.var 4) (.lit 32), .lit 0, true), (false, .var 5, .lit 256, true), (false, .lit 14, .var 6, false), (true, .var 6, .lit 2, false), (true, .var 6, .lit 3, false), (true, .var 6, .lit 4, false), (true, .var 6, .lit 5, false), (true, .var 6, .lit 6, false), (true, .var 6, .lit 7, false), (true, .var 6, .lit 8, false), (true, .var 6, .lit 9, false), (true, .var 6, .lit 10, false), (true, .var 6, .lit 1, false)],
  .agg [I 0, I 4, I 0, U 0, I 0, U 0, IZ (-1), I 0],
  [.cel 32 0 8 (.int .i64 (.add (.var 0) (.lit 1))),
  .row 38 0 ([.slice 51 0 0 1 1 false]),
  .row 40 0 ([I 16, .slice 54 0 1 1 10 false, .int .i64 (.add (.var 1) (.lit 1))]),
  .cel 42 0 8 (.int .u32 (.wrap .u32 (.add (.var 4) (.lit 1)))),
  .cel 42 0 9 (I 4),
  .row 45 0 ([IZ (-1), .int .i64 (.sub (.var 7) (.lit 1))]),
  .row 45 1 ([I 0, .int .i64 (.sub (.var 8) (.lit 1))])], 764⟩
theorem s106_ok : SO 11 s106 := so f7_ok (by kernel_rfl) (by kernel_rfl)
noncomputable def h192 : H := hUpd h152 414 [] [] [(78, 2, [.str [50, 48]])]
noncomputable def h193 : H := hUpd h192 475 [] [] []
noncomputable def m65 : Memo := ⟨[.slice 78 0 3 3 1 false, .map 135], h192, .tuple [U 17825812, .inil], h193⟩
theorem m65_run : ranTo (evCall (cxX Tryz.prog bad [] [] q0) 1000 60 40 m65.args m65.h) m65.v m65.h' = true := by kernel_rfl
theorem m65_ok {σ : Nat → Int} {W0 : World} (hL : L0 W0) : MemoOk Tryz.prog 412927 σ W0 40 m65 := memo_ok fit (Known2.nil σ) ((q0_ok hL)) m65_run
noncomputable def h194 : H := hUpd h154 680 [] [] [(116, 2, [.str [50, 48]])]
noncomputable def h195 : H := hUpd h194 741 [] [] []
noncomputable def m66 : Memo := ⟨[.slice 116 0 3 3 1 false, .map 135], h194, .tuple [U 17825812, .inil], h195⟩
theorem m66_run : ranTo (evCall (cxX Tryz.prog bad [] [] q0) 1000 60 40 m66.args m66.h) m66.v m66.h' = true := by kernel_rfl
theorem m66_ok {σ : Nat → Int} {W0 : World} (hL : L0 W0) : MemoOk Tryz.prog 412927 σ W0 40 m66 := memo_ok fit (Known2.nil σ) ((q0_ok hL)) m66_run
noncomputable def h196 : H := hUpc h156 74 [] [] [] [(42, 0, 1, U 20)]
noncomputable def s107 : Sym := ⟨[.ptr 32 0, I 0], h196, nm10, rg13,
  [(true, .bop .rem .u32 (.var 3) (.lit 32), .lit 6, true), (false, .var 5, .lit 1, false), (false, .var 4, .lit 1, false), (true, .bop .quo .u32 (.var 3) (.lit 32), .lit 0, true)],
  .agg [I 0, I 2, I 0, U 1, I 3, U 0, IZ (-1), I 0],
  [.cel 32 0 8 (.int .i64 (.add (.var 0) (.lit 1))),
  .row 40 0 ([I 16, .slice 54 0 1 1 10 false, .int .i64 (.add (.var 1) (.lit 1))]),
  .cel 42 0 0 (U 0),
  .cel 42 0 1 (U 0),
  .cel 42 0 2 (U 0),
  .cel 42 0 8 (.int .u32 (.wrap .u32 (.add (.var 3) (.lit 1)))),
  .cel 42 0 71 (I 0),
  .cel 42 0 72 (I 0),
  .row 45 0 ([IZ (-1), .int .i64 (.sub (.var 4) (.lit 1))]),
  .row 45 1 ([I 0, .int .i64 (.sub (.var 5) (.lit 1))]),
  .cel 70 2 20 (.int .u32 (.var 2))], 691⟩
theorem s107_ok : SO 11 s107 := so f14_ok (by kernel_rfl) (by kernel_rfl)
noncomputable def h197 : H := hUpc h157 74 [] [] [] [(70, 2, 15, U 0), (70, 2, 20, .int .u32 (.var 12))]
noncomputable def s108 : Sym := ⟨[.ptr 32 0, I 0], h197, nm10, rg15,
  [(true, .bop .rem .u32 (.var 4) (.lit 32), .lit 7, true), (false, .var 8, .lit 1, false), (false, .var 7, .lit 1, false), (true, .bop .quo .u32 (.var 4) (.lit 32), .lit 0, true), (false, .var 5, .lit 256, true), (false, .lit 14, .var 6, false), (true, .var 6, .lit 2, false), (true, .var 6, .lit 3, false), (true, .var 6, .lit 4, false), (true, .var 6, .lit 5, false), (true, .var 6, .lit 6, false), (true, .var 6, .lit 7, false), (true, .var 6, .lit 8, false), (true, .var 6, .lit 9, false), (true, .var 6, .lit 10, false), (true, .var 6, .lit 1, false)],
  .agg [I 0, I 1, I 0, U 0, I 0, U 0, IZ (-1), I 0],
  [.cel 32 0 8 (.int .i64 (.add (.var 0) (.lit 1))),
  .row 40 0 ([I 16, .slice 54 0 1 1 10 false, .int .i64 (.add (.var 1) (.lit 1))]),
  .cel 42 0 0 (U 0),
  .cel 42 0 8 (.int .u32 (.wrap .u32 (.add (.var 4) (.lit 1)))),
  .row 45 0 ([IZ (-1), .int .i64 (.sub (.var 7) (.lit 1))]),
  .row 45 1 ([I 0, .int .i64 (.sub (.var 8) (.lit 1))])], 774⟩
theorem s108_ok : SO 11 s108 := so f7_ok (by kernel_rfl) (by kernel_rfl)
noncomputable def s109 : Sym := ⟨[.ptr 32 0, I 0], h197, nm10, rg15,
  [(true, .bop .rem .u32 (.var 4) (.lit 32), .lit 8, true), fs 11 1, (true, .bop .and .i64 (.bop .shr .i64 (.var 11) (.lit 20)) (.lit 15), .lit 1, true), (false, .var 8, .lit 1, false), (false, .var 7, .lit 1, false), (true, .bop .quo .u32 (.var 4) (.lit 32), .lit 0, true), fa 11 16, fa 11 12, (false, .var 5, .lit 256, true), (false, .lit 14, .var 6, false), (true, .var 6, .lit 2, false), (true, .var 6, .lit 3, false), (true, .var 6, .lit 4, false), (true, .var 6, .lit 5, false), (true, .var 6, .lit 6, false), (true, .var 6, .lit 7, false), (true, .var 6, .lit 8, false), (true, .var 6, .lit 9, false), (true, .var 6, .lit 10, false), (true, .var 6, .lit 1, false)],
  .agg [I 0, I 1, I 0, U 0, I 0, U 0, IZ (-1), I 0],
  [.cel 32 0 8 (.int .i64 (.add (.var 0) (.lit 1))),
  .row 40 0 ([I 16, .slice 54 0 1 1 10 false, .int .i64 (.add (.var 1) (.lit 1))]),
  .cel 42 0 1 (.int .u32 (.bop .and .i64 (.var 11) (.lit 4095))),
  .cel 42 0 8 (.int .u32 (.wrap .u32 (.add (.var 4) (.lit 1)))),
  .row 45 0 ([IZ (-1), .int .i64 (.sub (.var 7) (.lit 1))]),
  .row 45 1 ([I 0, .int .i64 (.sub (.var 8) (.lit 1))])], 774⟩
theorem s109_ok : SO 11 s109 := so f7_ok (by kernel_rfl) (by kernel_rfl)
noncomputable def h198 : H := hUpc h158 74 [] [] [] [(70, 2, 15, U 0), (70, 2, 20, .int .u32 (.var 8)), (42, 0, 1, U 20)]
noncomputable def s110 : Sym := ⟨[.ptr 32 0, I 0], h198, nm10, rg16,
  [(true, .bop .rem .u32 (.var 2) (.lit 32), .lit 9, true), (false, .var 4, .lit 1, false), (false, .var 3, .lit 1, false), (true, .bop .quo .u32 (.var 2) (.lit 32), .lit 0, true)],
  .agg [I 0, I 2, I 0, U 0, I 3, U 0, IZ (-1), I 0],
  [.cel 32 0 8 (.int .i64 (.add (.var 0) (.lit 1))),
  .row 40 0 ([I 16, .slice 54 0 1 1 10 false, .int .i64 (.add (.var 1) (.lit 1))]),
  .cel 42 0 1 (.int .u32 (.var 8)),
  .cel 42 0 8 (.int .u32 (.wrap .u32 (.add (.var 2) (.lit 1)))),
  .row 45 0 ([IZ (-1), .int .i64 (.sub (.var 3) (.lit 1))]),
  .row 45 1 ([I 0, .int .i64 (.sub (.var 4) (.lit 1))])], 643⟩
theorem s110_ok : SO 11 s110 := so f14_ok (by kernel_rfl) (by kernel_rfl)
noncomputable def h199 : H := hUpc h159 74 [] [] [] [(70, 2, 15, U 0), (70, 2, 20, .int .u32 (.var 12))]
noncomputable def s111 : Sym := ⟨[.ptr 32 0, I 0], h199, nm17, rg15,
  [(true, .bop .rem .u32 (.var 4) (.lit 32), .lit 10, true), (false, .var 8, .lit 1, false), (false, .var 7, .lit 1, false), (true, .bop .quo .u32 (.var 4) (.lit 32), .lit 0, true), (false, .var 5, .lit 256, true), (false, .lit 14, .var 6, false), (true, .var 6, .lit 2, false), (true, .var 6, .lit 3, false), (true, .var 6, .lit 4, false), (true, .var 6, .lit 5, false), (true, .var 6, .lit 6, false), (true, .var 6, .lit 7, false), (true, .var 6, .lit 8, false), (true, .var 6, .lit 9, false), (true, .var 6, .lit 10, false), (true, .var 6, .lit 1, false)],
  .agg [I 0, I 4, I 0, U 0, I 0, U 0, IZ (-1), I 0],
  [.cel 32 0 8 (.int .i64 (.add (.var 0) (.lit 1))),
  .row 38 0 ([.slice 51 0 0 1 1 false]),
  .row 40 0 ([I 16, .slice 54 0 1 1 10 false, .int .i64 (.add (.var 1) (.lit 1))]),
  .cel 42 0 8 (.int .u32 (.wrap .u32 (.add (.var 4) (.lit 1)))),
  .cel 42 0 9 (I 4),
  .row 45 0 ([IZ (-1), .int .i64 (.sub (.var 7) (.lit 1))]),
  .row 45 1 ([I 0, .int .i64 (.sub (.var 8) (.lit 1))])], 764⟩
theorem s111_ok : SO 11 s111 := so f7_ok (by kernel_rfl) (by kernel_rfl)
noncomputable def h200 : H := hUpd h160 414 [] [] [(78, 2, [.str [50, 49]])]
noncomputable def h201 : H := hUpd h200 475 [] [] []
noncomputable def m67 : Memo := ⟨[.slice 78 0 3 3 1 false, .map 135], h200, .tuple [U 17825813, .inil], h201⟩
theorem m67_run : ranTo (evCall (cxX Tryz.prog bad [] [] q0) 1000 60 40 m67.args m67.h) m67.v m67.h' = true := by kernel_rfl
theorem m67_ok {σ : Nat → Int} {W0 : World} (hL : L0 W0) : MemoOk Tryz.prog 412927 σ W0 40 m67 := memo_ok fit (Known2.nil σ) ((q0_ok hL)) m67_run
noncomputable def h202 : H := hUpd h162 680 [] [] [(116, 2, [.str [50, 49]])]
noncomputable def h203 : H := hUpd h202 741 [] [] []
noncomputable def m68 : Memo := ⟨[.slice 116 0 3 3 1 false, .map 135], h202, .tuple [U 17825813, .inil], h203⟩
theorem m68_run : ranTo (evCall (cxX Tryz.prog bad [] [] q0) 1000 60 40 m68.args m68.h) m68.v m68.h' = true := by kernel_rfl
theorem m68_ok {σ : Nat → Int} {W0 : World} (hL : L0 W0) : MemoOk Tryz.prog 412927 σ W0 40 m68 := memo_ok fit (Known2.nil σ) ((q0_ok hL)) m68_run
noncomputable def h204 : H := hUpc h164 74 [] [] [] [(42, 0, 1, U 21)]
noncomputable def s112 : Sym := ⟨[.ptr 32 0, I 0], h204, nm10, rg13,
  [(true, .bop .rem .u32 (.var 3) (.lit 32), .lit 6, true), (false, .var 5, .lit 1, false), (false, .var 4, .lit 1, false), (true, .bop .quo .u32 (.var 3) (.lit 32), .lit 0, true)],
  .agg [I 0, I 2, I 0, U 1, I 3, U 0, IZ (-1), I 0],
  [.cel 32 0 8 (.int .i64 (.add (.var 0) (.lit 1))),
  .row 40 0 ([I 16, .slice 54 0 1 1 10 false, .int .i64 (.add (.var 1) (.lit 1))]),
  .cel 42 0 0 (U 0),
  .cel 42 0 1 (U 0),
  .cel 42 0 2 (U 0),
  .cel 42 0 8 (.int .u32 (.wrap .u32 (.add (.var 3) (.lit 1)))),
  .cel 42 0 71 (I 0),
  .cel 42 0 72 (I 0),
  .row 45 0 ([IZ (-1), .int .i64 (.sub (.var 4) (.lit 1))]),
  .row 45 1 ([I 0, .int .i64 (.sub (.var 5) (.lit 1))]),
  .cel 70 2 21 (.int .u32 (.var 2))], 691⟩
theorem s112_ok : SO 11 s112 := so f14_ok (by kernel_rfl) (by kernel_rfl)
noncomputable def h205 : H := hUpc h165 74 [] [] [] [(70, 2, 16, U 0), (70, 2, 21, .int .u32 (.var 12))]
noncomputable def s113 : Sym := ⟨[.ptr 32 0, I 0], h205, nm10, rg15,
  [(true, .bop .rem .u32 (.var 4) (.lit 32), .lit 7, true), (false, .var 8, .lit 1, false), (false, .var 7, .lit 1, false), (true, .bop .quo .u32 (.var 4) (.lit 32), .lit 0, true), (false, .var 5, .lit 256, true), (false, .lit 14, .var 6, false), (true, .var 6, .lit 2, false), (true, .var 6, .lit 3, false), (true, .var 6, .lit 4, false), (true, .var 6, .lit 5, false), (true, .var 6, .lit 6, false), (true, .var 6, .lit 7, false), (true, .var 6, .lit 8, false), (true, .var 6, .lit 9, false), (true, .var 6, .lit 10, false), (true, .var 6, .lit 1, false)],
  .agg [I 0, I 1, I 0, U 0, I 0, U 0, IZ (-1), I 0],
  [.cel 32 0 8 (.int .i64 (.add (.var 0) (.lit 1))),
  .row 40 0 ([I 16, .slice 54 0 1 1 10 false, .int .i64 (.add (.var 1) (.lit 1))]),
  .cel 42 0 0 (U 0),
  .cel 42 0 8 (.int .u32 (.wrap .u32 (.add (.var 4) (.lit 1)))),
  .row 45 0 ([IZ (-1), .int .i64 (.sub (.var 7) (.lit 1))]),
  .row 45 1 ([I 0, .int .i64 (.sub (.var 8) (.lit 1))])], 774⟩
theorem s113_ok : SO 11 s113 := so f7_ok (by kernel_rfl) (by kernel_rfl)
noncomputable def s114 : Sym := ⟨[.ptr 32 0, I 0], h205, nm10, rg15,
  [(true, .bop .rem .u32 (.var 4) (.lit 32), .lit 8, true), fs 11 1, (true, .bop .and .i64 (.bop .shr .i64 (.var 11) (.lit 20)) (.lit 15), .lit 1, true), (false, .var 8, .lit 1, false), (false, .var 7, .lit 1, false), (true, .bop .quo .u32 (.var 4) (.lit 32), .lit 0, true), fa 11 16, fa 11 12, (false, .var 5, .lit 256, true), (false, .lit 14, .var 6, false), (true, .var 6, .lit 2, false), (true, .var 6, .lit 3, false), (true, .var 6, .lit 4, false), (true, .var 6, .lit 5, false), (true, .var 6, .lit 6, false), (true, .var 6, .lit 7, false), (true, .var 6, .lit 8, false), (true, .var 6, .lit 9, false), (true, .var 6, .lit 10, false), (true, .var 6, .lit 1, false)],
  .agg [I 0, I 1, I 0, U 0, I 0, U 0, IZ (-1), I 0],
  [.cel 32 0 8 (.int .i64 (.add (.var 0) (.lit 1))),
  .row 40 0 ([I 16, .slice 54 0 1 1 10 false, .int .i64 (.add (.var 1) (.lit 1))]),
  .cel 42 0 1 (.int .u32 (.bop .and .i64 (.var 11) (.lit 4095))),
  .cel 42 0 8 (.int .u32 (.wrap .u32 (.add (.var 4) (.lit 1)))),
  .row 45 0 ([IZ (-1), .int .i64 (.sub (.var 7) (.lit 1))]),
  .row 45 1 ([I 0, .int .i64 (.sub (.var 8) (.lit 1))])], 774⟩
theorem s114_ok : SO 11 s114 := so f7_ok (by kernel_rfl) (by kernel_rfl)
noncomputable def h206 : H := hUpc h166 74 [] [] [] [(70, 2, 16, U 0), (70, 2, 21, .int .u32 (.var 8)), (42, 0, 1, U 21)]
noncomputable def s115 : Sym := ⟨[.ptr 32 0, I 0], h206, nm10, rg16,
  [(true, .bop .rem .u32 (.var 2) (.lit 32), .lit 9, true), (false, .var 4, .lit 1, false), (false, .var 3, .lit 1, false), (true, .bop .quo .u32 (.var 2) (.lit 32), .lit 0, true)],
  .agg [I 0, I 2, I 0, U 0, I 3, U 0, IZ (-1), I 0],
  [.cel 32 0 8 (.int .i64 (.add (.var 0) (.lit 1))),
  .row 40 0 ([I 16, .slice 54 0 1 1 10 false, .int .i64 (.add (.var 1) (.lit 1))]),
  .cel 42 0 1 (.int .u32 (.var 8)),
  .cel 42 0 8 (.int .u32 (.wrap .u32 (.add (.var 2) (.lit 1)))),
  .row 45 0 ([IZ (-1), .int .i64 (.sub (.var 3) (.lit 1))]),
  .row 45 1 ([I 0, .int .i64 (.sub (.var 4) (.lit 1))])], 643⟩
theorem s115_ok : SO 11 s115 := so f14_ok (by kernel_rfl) (by kernel_rfl)
noncomputable def h207 : H := hUpc h167 74 [] [] [] [(70, 2, 16, U 0), (70, 2, 21, .int .u32 (.var 12))]
noncomputable def s116 : Sym := ⟨[.ptr 32 0, I 0], h207, nm17, rg15,
  [(true, .bop .rem .u32 (.var 4) (.lit 32), .lit 10, true), (false, .var 8, .lit 1, false), (false, .var 7, .lit 1, false), (true, .bop .quo .u32 (.var 4) (.lit 32), .lit 0, true), (false, .var 5, .lit 256, true), (false, .lit 14, .var 6, false), (true, .var 6, .lit 2, false), (true, .var 6, .lit 3, false), (true, .var 6, .lit 4, false), (true, .var 6, .lit 5, false), (true, .var 6, .lit 6, false), (true, .var 6, .lit 7, false), (true, .var 6, .lit 8, false), (true, .var 6, .lit 9, false), (true, .var 6, .lit 10, false), (true, .var 6, .lit 1, false)],
  .agg [I 0, I 4, I 0, U 0, I 0, U 0, IZ (-1), I 0],
  [.cel 32 0 8 (.int .i64 (.add (.var 0) (.lit 1))),
  .row 38 0 ([.slice 51 0 0 1 1 false]),
  .row 40 0 ([I 16, .slice 54 0 1 1 10 false, .int .i64 (.add (.var 1) (.lit 1))]),
  .cel 42 0 8 (.int .u32 (.wrap .u32 (.add (.var 4) (.lit 1)))),
  .cel 42 0 9 (I 4),
  .row 45 0 ([IZ (-1), .int .i64 (.sub (.var 7) (.lit 1))]),
  .row 45 1 ([I 0, .int .i64 (.sub (.var 8) (.lit 1))])], 764⟩
theorem s116_ok : SO 11 s116 := so f7_ok (by kernel_rfl) (by kernel_rfl)
noncomputable def h208 : H := hUpd h168 414 [] [] [(78, 2, [.str [50, 50]])]
noncomputable def h209 : H := hUpd h208 475 [] [] []
noncomputable def m69 : Memo := ⟨[.slice 78 0 3 3 1 false, .map 135], h208, .tuple [U 17825814, .inil], h209⟩
theorem m69_run : ranTo (evCall (cxX Tryz.prog bad [] [] q0) 1000 60 40 m69.args m69.h) m69.v m69.h' = true := by kernel_rfl
theorem m69_ok {σ : Nat → Int} {W0 : World} (hL : L0 W0) : MemoOk Tryz.prog 412927 σ W0 40 m69 := memo_ok fit (Known2.nil σ) ((q0_ok hL)) m69_run
noncomputable def h210 : H := hUpd h170 680 [] [] [(116, 2, [.str [50, 50]])]
noncomputable def h211 : H := hUpd h210 741 [] [] []
noncomputable def m70 : Memo := ⟨[.slice 116 0 3 3 1 false, .map 135], h210, .tuple [U 17825814, .inil], h211⟩
theorem m70_run : ranTo (evCall (cxX Tryz.prog bad [] [] q0) 1000 60 40 m70.args m70.h) m70.v m70.h' = true := by kernel_rfl
theorem m70_ok {σ : Nat → Int} {W0 : World} (hL : L0 W0) : MemoOk Tryz.prog 412927 σ W0 40 m70 := memo_ok fit (Known2.nil σ) ((q0_ok hL)) m70_run
noncomputable def h212 : H := hUpc h172 74 [] [] [] [(42, 0, 1, U 22)]
noncomputable def s117 : Sym := ⟨[.ptr 32 0, I 0], h212, nm10, rg13,
  [(true, .bop .rem .u32 (.var 3) (.lit 32), .lit 6, true), (false, .var 5, .lit 1, false), (false, .var 4, .lit 1, false), (true, .bop .quo .u32 (.var 3) (.lit 32), .lit 0, true)],
  .agg [I 0, I 2, I 0, U 1, I 3, U 0, IZ (-1), I 0],
  [.cel 32 0 8 (.int .i64 (.add (.var 0) (.lit 1))),
  .row 40 0 ([I 16, .slice 54 0 1 1 10 false, .int .i64 (.add (.var 1) (.lit 1))]),
  .cel 42 0 0 (U 0),
  .cel 42 0 1 (U 0),
  .cel 42 0 2 (U 0),
  .cel 42 0 8 (.int .u32 (.wrap .u32 (.add (.var 3) (.lit 1)))),
  .cel 42 0 71 (I 0),
  .cel 42 0 72 (I 0),
  .row 45 0 ([IZ (-1), .int .i64 (.sub (.var 4) (.lit 1))]),
  .row 45 1 ([I 0, .int .i64 (.sub (.var 5) (.lit 1))]),
  .cel 70 2 22 (.int .u32 (.var 2))], 691⟩
theorem s117_ok : SO 11 s117 := so f14_ok (by kernel_rfl) (by kernel_rfl)
noncomputable def h213 : H := hUpc h173 74 [] [] [] [(70, 2, 17, U 0), (70, 2, 22, .int .u32 (.var 12))]
noncomputable def s118 : Sym := ⟨[.ptr 32 0, I 0], h213, nm10, rg15,
  [(true, .bop .rem .u32 (.var 4) (.lit 32), .lit 7, true), (false, .var 8, .lit 1, false), (false, .var 7, .lit 1, false), (true, .bop .quo .u32 (.var 4) (.lit 32), .lit 0, true), (false, .var 5, .lit 256, true), (false, .lit 14, .var 6, false), (true, .var 6, .lit 2, false), (true, .var 6, .lit 3, false), (true, .var 6, .lit 4, false), (true, .var 6, .lit 5, false), (true, .var 6, .lit 6, false), (true, .var 6, .lit 7, false), (true, .var 6, .lit 8, false), (true, .var 6, .lit 9, false), (true, .var 6, .lit 10, false), (true, .var 6, .lit 1, false)],
  .agg [I 0, I 1, I 0, U 0, I 0, U 0, IZ (-1), I 0],
  [.cel 32 0 8 (.int .i64 (.add (.var 0) (.lit 1))),
  .row 40 0 ([I 16, .slice 54 0 1 1 10 false, .int .i64 (.add (.var 1) (.lit 1))]),
  .cel 42 0 0 (U 0),
  .cel 42 0 8 (.int .u32 (.wrap .u32 (.add (.var 4) (.lit 1)))),
  .row 45 0 ([IZ (-1), .int .i64 (.sub (.var 7) (.lit 1))]),
  .row 45 1 ([I 0, .int .i64 (.sub (.var 8) (.lit 1))])], 774⟩
theorem s118_ok : SO 11 s118 := so f7_ok (by kernel_rfl) (by kernel_rfl)
noncomputable def s119 : Sym := ⟨[.ptr 32 0, I 0], h213, nm10, rg15,
  [(true, .bop .rem .u32 (.var 4) (.lit 32), .lit 8, true), fs 11 1, (true, .bop .and .i64 (.bop .shr .i64 (.var 11) (.lit 20)) (.lit 15), .lit 1, true), (false, .var 8, .lit 1, false), (false, .var 7, .lit 1, false), (true, .bop .quo .u32 (.var 4) (.lit 32), .lit 0, true), fa 11 16, fa 11 12, (false, .var 5, .lit 256, true), (false, .lit 14, .var 6, false), (true, .var 6, .lit 2, false), (true, .var 6, .lit 3, false), (true, .var 6, .lit 4, false), (true, .var 6, .lit 5, false), (true, .var 6, .lit 6, false), (true, .var 6, .lit 7, false), (true, .var 6, .lit 8, false), (true, .var 6, .lit 9, false), (true, .var 6, .lit 10, false), (true, .var 6, .lit 1, false)],
  .agg [I 0, I 1, I 0, U 0, I 0, U 0, IZ (-1), I 0],
  [.cel 32 0 8 (.int .i64 (.add (.var 0) (.lit 1))),
  .row 40 0 ([I 16, .slice 54 0 1 1 10 false, .int .i64 (.add (.var 1) (.lit 1))]),
  .cel 42 0 1 (.int .u32 (.bop .and .i64 (.var 11) (.lit 4095))),
  .cel 42 0 8 (.int .u32 (.wrap .u32 (.add (.var 4) (.lit 1)))),
  .row 45 0 ([IZ (-1), .int .i64 (.sub (.var 7) (.lit 1))]),
  .row 45 1 ([I 0, .int .i64 (.sub (.var 8) (.lit 1))])], 774⟩
theorem s119_ok : SO 11 s119 := so f7_ok (by kernel_rfl) (by kernel_rfl)
noncomputable def h214 : H := hUpc h174 74 [] [] [] [(70, 2, 17, U 0), (70, 2, 22, .int .u32 (.var 8)), (42, 0, 1, U 22)]
noncomputable def s120 : Sym := ⟨[.ptr 32 0, I 0], h214, nm10, rg16,
  [(true, .bop .rem .u32 (.var 2) (.lit 32), .lit 9, true), (false, .var 4, .lit 1, false), (false, .var 3, .lit 1, false), (true, .bop .quo .u32 (.var 2) (.lit 32), .lit 0, true)],
  .agg [I 0, I 2, I 0, U 0, I 3, U 0, IZ (-1), I 0],
  [.cel 32 0 8 (.int .i64 (.add (.var 0) (.lit 1))),
  .row 40 0 ([I 16, .slice 54 0 1 1 10 false, .int .i64 (.add (.var 1) (.lit 1))]),
  .cel 42 0 1 (.int .u32 (.var 8)),
  .cel 42 0 8 (.int .u32 (.wrap .u32 (.add (.var 2) (.lit 1)))),
  .row 45 0 ([IZ (-1), .int .i64 (.sub (.var 3) (.lit 1))]),
  .row 45 1 ([I 0, .int .i64 (.sub (.var 4) (.lit 1))])], 643⟩
theorem s120_ok : SO 11 s120 := so f14_ok (by kernel_rfl) (by kernel_rfl)
noncomputable def h215 : H := hUpc h175 74 [] [] [] [(70, 2, 17, U 0), (70, 2, 22, .int .u32 (.var 12))]
noncomputable def s121 : Sym := ⟨[.ptr 32 0, I 0], h215, nm17, rg15,
  [(true, .bop .rem .u32 (.var 4) (.lit 32), .lit 10, true), (false, .var 8, .lit 1, false), (false, .var 7, .lit 1, false), (true, .bop .quo .u32 (.var 4) (.lit 32), .lit 0, true), (false, .var 5, .lit 256, true), (false, .lit 14, .var 6, false), (true, .var 6, .lit 2, false), (true, .var 6, .lit 3, false), (true, .var 6, .lit 4, false), (true, .var 6, .lit 5, false), (true, .var 6, .lit 6, false), (true, .var 6, .lit 7, false), (true, .var 6, .lit 8, false), (true, .var 6, .lit 9, false), (true, .var 6, .lit 10, false), (true, .var 6, .lit 1, false)],
  .agg [I 0, I 4, I 0, U 0, I 0, U 0, IZ (-1), I 0],
  [.cel 32 0 8 (.int .i64 (.add (.var 0) (.lit 1))),
  .row 38 0 ([.slice 51 0 0 1 1 false]),
  .row 40 0 ([I 16, .slice 54 0 1 1 10 false, .int .i64 (.add (.var 1) (.lit 1))]),
  .cel 42 0 8 (.int .u32 (.wrap .u32 (.add (.var 4) (.lit 1)))),
  .cel 42 0 9 (I 4),
  .row 45 0 ([IZ (-1), .int .i64 (.sub (.var 7) (.lit 1))]),
  .row 45 1 ([I 0, .int .i64 (.sub (.var 8) (.lit 1))])], 764⟩
theorem s121_ok : SO 11 s121 := so f7_ok (by kernel_rfl) (by kernel_rfl)
noncomputable def h216 : H := hUpd h176 414 [] [] [(78, 2, [.str [50, 51]])]
noncomputable def h217 : H := hUpd h216 475 [] [] []
noncomputable def m71 : Memo := ⟨[.slice 78 0 3 3 1 false, .map 135], h216, .tuple [U 17825815, .inil], h217⟩
theorem m71_run : ranTo (evCall (cxX Tryz.prog bad [] [] q0) 1000 60 40 m71.args m71.h) m71.v m71.h' = true := by kernel_rfl
theorem m71_ok {σ : Nat → Int} {W0 : World} (hL : L0 W0) : MemoOk Tryz.prog 412927 σ W0 40 m71 := memo_ok fit (Known2.nil σ) ((q0_ok hL)) m71_run
noncomputable def h218 : H := hUpd h178 680 [] [] [(116, 2, [.str [50, 51]])]
noncomputable def h219 : H := hUpd h218 741 [] [] []
noncomputable def m72 : Memo := ⟨[.slice 116 0 3 3 1 false, .map 135], h218, .tuple [U 17825815, .inil], h219⟩
theorem m72_run : ranTo (evCall (cxX Tryz.prog bad [] [] q0) 1000 60 40 m72.args m72.h) m72.v m72.h' = true := by kernel_rfl
theorem m72_ok {σ : Nat → Int} {W0 : World} (hL : L0 W0) : MemoOk Tryz.prog 412927 σ W0 40 m72 := memo_ok fit (Known2.nil σ) ((q0_ok hL)) m72_run
noncomputable def h220 : H := hUpc h180 74 [] [] [] [(42, 0, 1, U 23)]
noncomputable def s122 : Sym := ⟨[.ptr 32 0, I 0], h220, nm10, rg13,
  [(true, .bop .rem .u32 (.var 3) (.lit 32), .lit 6, true), (false, .var 5, .lit 1, false), (false, .var 4, .lit 1, false), (true, .bop .quo .u32 (.var 3) (.lit 32), .lit 0, true)],
  .agg [I 0, I 2, I 0, U 1, I 3, U 0, IZ (-1), I 0],
  [.cel 32 0 8 (.int .i64 (.add (.var 0) (.lit 1))),
  .row 40 0 ([I 16, .slice 54 0 1 1 10 false, .int .i64 (.add (.var 1) (.lit 1))]),
  .cel 42 0 0 (U 0),
  .cel 42 0 1 (U 0),
  .cel 42 0 2 (U 0),
  .cel 42 0 8 (.int .u32 (.wrap .u32 (.add (.var 3) (.lit 1)))),
  .cel 42 0 71 (I 0),
  .cel 42 0 72 (I 0),
  .row 45 0 ([IZ (-1), .int .i64 (.sub (.var 4) (.lit 1))]),
  .row 45 1 ([I 0, .int .i64 (.sub (.var 5) (.lit 1))]),
  .cel 70 2 23 (.int .u32 (.var 2))], 691⟩
theorem s122_ok : SO 11 s122 := so f14_ok (by kernel_rfl) (by kernel_rfl)
noncomputable def h221 : H := hUpc h181 74 [] [] [] [(70, 2, 18, U 0), (70, 2, 23, .int .u32 (.var 12))]
noncomputable def s123 : Sym := ⟨[.ptr 32 0, I 0], h221, nm10, rg15,
  [(true, .bop .rem .u32 (.var 4) (.lit 32), .lit 7, true), (false, .var 8, .lit 1, false), (false, .var 7, .lit 1, false), (true, .bop .quo .u32 (.var 4) (.lit 32), .lit 0, true), (false, .var 5, .lit 256, true), (false, .lit 14, .var 6, false), (true, .var 6, .lit 2, false), (true, .var 6, .lit 3, false), (true, .var 6, .lit 4, false), (true, .var 6, .lit 5, false), (true, .var 6, .lit 6, false), (true, .var 6, .lit 7, false), (true, .var 6, .lit 8, false), (true, .var 6, .lit 9, false), (true, .var 6, .lit 10, false), (true, .var 6, .lit 1, false)],
  .agg [I 0, I 1, I 0, U 0, I 0, U 0, IZ (-1), I 0],
  [.cel 32 0 8 (.int .i64 (.add (.var 0) (.lit 1))),
  .row 40 0 ([I 16, .slice 54 0 1 1 10 false, .int .i64 (.add (.var 1) (.lit 1))]),
  .cel 42 0 0 (U 0),
  .cel 42 0 8 (.int .u32 (.wrap .u32 (.add (.var 4) (.lit 1)))),
  .row 45 0 ([IZ (-1), .int .i64 (.sub (.var 7) (.lit 1))]),
  .row 45 1 ([I 0, .int .i64 (.sub (.var 8) (.lit 1))])], 774⟩
theorem s123_ok : SO 11 s123 := so f7_ok (by kernel_rfl) (by kernel_rfl)
noncomputable def s124 : Sym := ⟨[.ptr 32 0, I 0], h221, nm10, rg15,
  [(true, .bop .rem .u32 (.var 4) (.lit 32), .lit 8, true), fs 11 1, (true, .bop .and .i64 (.bop .shr .i64 (.var 11) (.lit 20)) (.lit 15), .lit 1, true), (false, .var 8, .lit 1, false), (false, .var 7, .lit 1, false), (true, .bop .quo .u32 (.var 4) (.lit 32), .lit 0, true), fa 11 16, fa 11 12, (false, .var 5, .lit 256, true), (false, .lit 14, .var 6, false), (true, .var 6, .lit 2, false), (true, .var 6, .lit 3, false), (true, .var 6, .lit 4, false), (true, .var 6, .lit 5, false), (true, .var 6, .lit 6, false), (true, .var 6, .lit 7, false), (true, .var 6, .lit 8, false), (true, .var 6, .lit 9, false), (true, .var 6, .lit 10, false), (true, .var 6, .lit 1, false)],
  .agg [I 0, I 1, I 0, U 0, I 0, U 0, IZ (-1), I 0],
  [.cel 32 0 8 (.int .i64 (.add (.var 0) (.lit 1))),
  .row 40 0 ([I 16, .slice 54 0 1 1 10 false, .int .i64 (.add (.var 1) (.lit 1))]),
  .cel 42 0 1 (.int .u32 (.bop .and .i64 (.var 11) (.lit 4095))),
  .cel 42 0 8 (.int .u32 (.wrap .u32 (.add (.var 4) (.lit 1)))),
  .row 45 0 ([IZ (-1), .int .i64 (.sub (.var 7) (.lit 1))]),
  .row 45 1 ([I 0, .int .i64 (.sub (.var 8) (.lit 1))])], 774⟩
theorem s124_ok : SO 11 s124 := so f7_ok (by kernel_rfl) (by kernel_rfl)
noncomputable def h222 : H := hUpc h182 74 [] [] [] [(70, 2, 18, U 0), (70, 2, 23, .int .u32 (.var 8)), (42, 0, 1, U 23)]
noncomputable def s125 : Sym := ⟨[.ptr 32 0, I 0], h222, nm10, rg16,
  [(true, .bop .rem .u32 (.var 2) (.lit 32), .lit 9, true), (false, .var 4, .lit 1, false), (false, .var 3, .lit 1, false), (true, .bop .quo .u32 (.var 2) (.lit 32), .lit 0, true)],
  .agg [I 0, I 2, I 0, U 0, I 3, U 0, IZ (-1), I 0],
  [.cel 32 0 8 (.int .i64 (.add (.var 0) (.lit 1))),
  .row 40 0 ([I 16, .slice 54 0 1 1 10 false, .int .i64 (.add (.var 1) (.lit 1))]),
  .cel 42 0 1 (.int .u32 (.var 8)),
  .cel 42 0 8 (.int .u32 (.wrap .u32 (.add (.var 2) (.lit 1)))),
  .row 45 0 ([IZ (-1), .int .i64 (.sub (.var 3) (.lit 1))]),
  .row 45 1 ([I 0, .int .i64 (.sub (.var 4) (.lit 1))])], 643⟩
theorem s125_ok : SO 11 s125 := so f14_ok (by kernel_rfl) (by kernel_rfl)
noncomputable def h223 : H := hUpc h183 74 [] [] [] [(70, 2, 18, U 0), (70, 2, 23, .int .u32 (.var 12))]
noncomputable def s126 : Sym := ⟨[.ptr 32 0, I 0], h223, nm17, rg15,
  [(true, .bop .rem .u32 (.var 4) (.lit 32), .lit 10, true), (false, .var 8, .lit 1, false), (false, .var 7, .lit 1, false), (true, .bop .quo .u32 (.var 4) (.lit 32), .lit 0, true), (false, .var 5, .lit 256, true), (false, .lit 14, .var 6, false), (true, .var 6, .lit 2, false), (true, .var 6, .lit 3, false), (true, .var 6, .lit 4, false), (true, .var 6, .lit 5, false), (true, .var 6, .lit 6, false), (true, .var 6, .lit 7, false), (true, .var 6, .lit 8, false), (true, .var 6, .lit 9, false), (true, .var 6, .lit 10, false), (true, .var 6, .lit 1, false)],
  .agg [I 0, I 4, I 0, U 0, I 0, U 0, IZ (-1), I 0],
  [.cel 32 0 8 (.int .i64 (.add (.var 0) (.lit 1))),
  .row 38 0 ([.slice 51 0 0 1 1 false]),
  .row 40 0 ([I 16, .slice 54 0 1 1 10 false, .int .i64 (.add (.var 1) (.lit 1))]),
  .cel 42 0 8 (.int .u32 (.wrap .u32 (.add (.var 4) (.lit 1)))),
  .cel 42 0 9 (I 4),
  .row 45 0 ([IZ (-1), .int .i64 (.sub (.var 7) (.lit 1))]),
  .row 45 1 ([I 0, .int .i64 (.sub (.var 8) (.lit 1))])], 764⟩
theorem s126_ok : SO 11 s126 := so f7_ok (by kernel_rfl) (by kernel_rfl)
noncomputable def h224 : H := hUpd h184 414 [] [] [(78, 2, [.str [50, 52]])]
noncomputable def h225 : H := hUpd h224 475 [] [] []
noncomputable def m73 : Memo := ⟨[.slice 78 0 3 3 1 false, .map 135], h224, .tuple [U 17825816, .inil], h225⟩
theorem m73_run : ranTo (evCall (cxX Tryz.prog bad [] [] q0) 1000 60 40 m73.args m73.h) m73.v m73.h' = true := by kernel_rfl
theorem m73_ok {σ : Nat → Int} {W0 : World} (hL : L0 W0) : MemoOk Tryz.prog 412927 σ W0 40 m73 := memo_ok fit (Known2.nil σ) ((q0_ok hL)) m73_run
noncomputable def h226 : H := hUpd h186 680 [] [] [(116, 2, [.str [50, 52]])]
noncomputable def h227 : H := hUpd h226 741 [] [] []
noncomputable def m74 : Memo := ⟨[.slice 116 0 3 3 1 false, .map 135], h226, .tuple [U 17825816, .inil], h227⟩
theorem m74_run : ranTo (evCall (cxX Tryz.prog bad [] [] q0) 1000 60 40 m74.args m74.h) m74.v m74.h' = true := by kernel_rfl
theorem m74_ok {σ : Nat → Int} {W0 : World} (hL : L0 W0) : MemoOk Tryz.prog 412927 σ W0 40 m74 := memo_ok fit (Known2.nil σ) ((q0_ok hL)) m74_run
noncomputable def h228 : H := hUpc h188 74 [] [] [] [(42, 0, 1, U 24)]
noncomputable def s127 : Sym := ⟨[.ptr 32 0, I 0], h228, nm10, rg13,
  [(true, .bop .rem .u32 (.var 3) (.lit 32), .lit 6, true), (false, .var 5, .lit 1, false), (false, .var 4, .lit 1, false), (true, .bop .quo .u32 (.var 3) (.lit 32), .lit 0, true)],
  .agg [I 0, I 2, I 0, U 1, I 3, U 0, IZ (-1), I 0],
  [.cel 32 0 8 (.int .i64 (.add (.var 0) (.lit 1))),
  .row 40 0 ([I 16, .slice 54 0 1 1 10 false, .int .i64 (.add (.var 1) (.lit 1))]),
  .cel 42 0 0 (U 0),
  .cel 42 0 1 (U 0),
  .cel 42 0 2 (U 0),
  .cel 42 0 8 (.int .u32 (.wrap .u32 (.add (.var 3) (.lit 1)))),
  .cel 42 0 71 (I 0),
  .cel 42 0 72 (I 0),
  .row 45 0 ([IZ (-1), .int .i64 (.sub (.var 4) (.lit 1))]),
  .row 45 1 ([I 0, .int .i64 (.sub (.var 5) (.lit 1))]),
  .cel 70 2 24 (.int .u32 (.var 2))], 691⟩
theorem s127_ok : SO 11 s127 := so f14_ok (by kernel_rfl) (by kernel_rfl)
noncomputable def h229 : H := hUpc h189 74 [] [] [] [(70, 2, 19, U 0), (70, 2, 24, .int .u32 (.var 12))]
noncomputable def s128 : Sym := ⟨[.ptr 32 0, I 0], h229, nm10, rg15,
  [(true, .bop .rem .u32 (.var 4) (.lit 32), .lit 7, true), (false, .var 8, .lit 1, false), (false, .var 7, .lit 1, false), (true, .bop .quo .u32 (.var 4) (.lit 32), .lit 0, true), (false, .var 5, .lit 256, true), (false, .lit 14, .var 6, false), (true, .var 6, .lit 2, false), (true, .var 6, .lit 3, false), (true, .var 6, .lit 4, false), (true, .var 6, .lit 5, false), (true, .var 6, .lit 6, false), (true, .var 6, .lit 7, false), (true, .var 6, .lit 8, false), (true, .var 6, .lit 9, false), (true, .var 6, .lit 10, false), (true, .var 6, .lit 1, false)],
  .agg [I 0, I 1, I 0, U 0, I 0, U 0, IZ (-1), I 0],
  [.cel 32 0 8 (.int .i64 (.add (.var 0) (.lit 1))),
  .row 40 0 ([I 16, .slice 54 0 1 1 10 false, .int .i64 (.add (.var 1) (.lit 1))]),
  .cel 42 0 0 (U 0),
  .cel 42 0 8 (.int .u32 (.wrap .u32 (.add (.var 4) (.lit 1)))),
  .row 45 0 ([IZ (-1), .int .i64 (.sub (.var 7) (.lit 1))]),
  .row 45 1 ([I 0, .int .i64 (.sub (.var 8) (.lit 1))])], 774⟩
theorem s128_ok : SO 11 s128 := so f7_ok (by kernel_rfl) (by kernel_rfl)
noncomputable def s129 : Sym := ⟨[.ptr 32 0, I 0], h229, nm10, rg15,
  [(true, .bop .rem .u32 (.var 4) (.lit 32), .lit 8, true), fs 11 1, (true, .bop .and .i64 (.bop .shr .i64 (.var 11) (.lit 20)) (.lit 15), .lit 1, true), (false, .var 8, .lit 1, false), (false, .var 7, .lit 1, false), (true, .bop .quo .u32 (.var 4) (.lit 32), .lit 0, true), fa 11 16, fa 11 12, (false, .var 5, .lit 256, true), (false, .lit 14, .var 6, false), (true, .var 6, .lit 2, false), (true, .var 6, .lit 3, false), (true, .var 6, .lit 4, false), (true, .var 6, .lit 5, false), (true, .var 6, .lit 6, false), (true, .var 6, .lit 7, false), (true, .var 6, .lit 8, false), (true, .var 6, .lit 9, false), (true, .var 6, .lit 10, false), (true, .var 6, .lit 1, false)],
  .agg [I 0, I 1, I 0, U 0, I 0, U 0, IZ (-1), I 0],
  [.cel 32 0 8 (.int .i64 (.add (.var 0) (.lit 1))),
  .row 40 0 ([I 16, .slice 54 0 1 1 10 false, .int .i64 (.add (.var 1) (.lit 1))]),
  .cel 42 0 1 (.int .u32 (.bop .and .i64 (.var 11) (.lit 4095))),
  .cel 42 0 8 (.int .u32 (.wrap .u32 (.add (.var 4) (.lit 1)))),
  .row 45 0 ([IZ (-1), .int .i64 (.sub (.var 7) (.lit 1))]),
  .row 45 1 ([I 0, .int .i64 (.sub (.var 8) (.lit 1))])], 774⟩
theorem s129_ok : SO 11 s129 := so f7_ok (by kernel_rfl) (by kernel_rfl)
noncomputable def h230 : H := hUpc h190 74 [] [] [] [(70, 2, 19, U 0), (70, 2, 24, .int .u32 (.var 8)), (42, 0, 1, U 24)]
noncomputable def s130 : Sym := ⟨[.ptr 32 0, I 0], h230, nm10, rg16,
  [(true, .bop .rem .u32 (.var 2) (.lit 32), .lit 9, true), (false, .var 4, .lit 1, false), (false, .var 3, .lit 1, false), (true, .bop .quo .u32 (.var 2) (.lit 32), .lit 0, true)],
  .agg [I 0, I 2, I 0, U 0, I 3, U 0, IZ (-1), I 0],
  [.cel 32 0 8 (.int .i64 (.add (.var 0) (.lit 1))),
  .row 40 0 ([I 16, .slice 54 0 1 1 10 false, .int .i64 (.add (.var 1) (.lit 1))]),
  .cel 42 0 1 (.int .u32 (.var 8)),
  .cel 42 0 8 (.int .u32 (.wrap .u32 (.add (.var 2) (.lit 1)))),
  .row 45 0 ([IZ (-1), .int .i64 (.sub (.var 3) (.lit 1))]),
  .row 45 1 ([I 0, .int .i64 (.sub (.var 4) (.lit 1))])], 643⟩
theorem s130_ok : SO 11 s130 := so f14_ok (by kernel_rfl) (by kernel_rfl)
noncomputable def h231 : H := hUpc h191 74 [] [] [] [(70, 2, 19, U 0), (70, 2, 24, .int .u32 (.var 12))]
noncomputable def s131 : Sym := ⟨[.ptr 32 0, I 0], h231, nm17, rg15,
  [(true, .bop .rem .u32 (.var 4) (.lit 32), .lit 10, true), (false, .var 8, .lit 1, false), (false, .var 7, .lit 1, false), (true, .bop .quo .u32 (.var 4) (.lit 32), .lit 0, true), (false, .var 5, .lit 256, true), (false, .lit 14, .var 6, false), (true, .var 6, .lit 2, false), (true, .var 6, .lit 3, false), (true, .var 6, .lit 4, false), (true, .var 6, .lit 5, false), (true, .var 6, .lit 6, false), (true, .var 6, .lit 7, false), (true, .var 6, .lit 8, false), (true, .var 6, .lit 9, false), (true, .var 6, .lit 10, false), (true, .var 6, .lit 1, false)],
  .agg [I 0, I 4, I 0, U 0, I 0, U 0, IZ (-1), I 0],
  [.cel 32 0 8 (.int .i64 (.add (.var 0) (.lit 1))),
  .row 38 0 ([.slice 51 0 0 1 1 false]),
  .row 40 0 ([I 16, .slice 54 0 1 1 10 false, .int .i64 (.add (.var 1) (.lit 1))]),
  .cel 42 0 8 (.int .u32 (.wrap .u32 (.add (.var 4) (.lit 1)))),
  .cel 42 0 9 (I 4),
  .row 45 0 ([IZ (-1), .int .i64 (.sub (.var 7) (.lit 1))]),
  .row 45 1 ([I 0, .int .i64 (.sub (.var 8) (.lit 1))])], 764⟩
theorem s131_ok : SO 11 s131 := so f7_ok (by kernel_rfl) (by kernel_rfl)
noncomputable def h232 : H := hUpd h192 414 [] [] [(78, 2, [.str [50, 53]])]
noncomputable def h233 : H := hUpd h232 475 [] [] []
noncomputable def m75 : Memo := ⟨[.slice 78 0 3 3 1 false, .map 135], h232, .tuple [U 17825817, .inil], h233⟩
theorem m75_run : ranTo (evCall (cxX Tryz.prog bad [] [] q0) 1000 60 40 m75.args m75.h) m75.v m75.h' = true := by kernel_rfl
theorem m75_ok {σ : Nat → Int} {W0 : World} (hL : L0 W0) : MemoOk Tryz.prog 412927 σ W0 40 m75 := memo_ok fit (Known2.nil σ) ((q0_ok hL)) m75_run
noncomputable def h234 : H := hUpd h194 680 [] [] [(116, 2, [.str [50, 53]])]
noncomputable def h235 : H := hUpd h234 741 [] [] []
noncomputable def m76 : Memo := ⟨[.slice 116 0 3 3 1 false, .map 135], h234, .tuple [U 17825817, .inil], h235⟩
theorem m76_run : ranTo (evCall (cxX Tryz.prog bad [] [] q0) 1000 60 40 m76.args m76.h) m76.v m76.h' = true := by kernel_rfl
theorem m76_ok {σ : Nat → Int} {W0 : World} (hL : L0 W0) : MemoOk Tryz.prog 412927 σ W0 40 m76 := memo_ok fit (Known2.nil σ) ((q0_ok hL)) m76_run
end Go.Proofs.YtphhnhheedbjjaaGreatDoor.worldAsks
