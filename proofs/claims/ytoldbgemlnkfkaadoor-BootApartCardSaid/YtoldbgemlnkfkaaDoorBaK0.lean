/- bootApart: calls that are run once, and the runs of the cases (part 0). -/
import Derived.Test.YtoldbgemlnkfkaaDoorEvBaF
set_option linter.unusedVariables false
set_option maxRecDepth 10000000
namespace Go.Proofs.YtoldbgemlnkfkaaDoor.bootApart
open Tk
open Go.RowKit
noncomputable def h0 : H := sentH 225 12 errTab
noncomputable def p0 : Pur := ([], bT, 1048576)
theorem p0_run : ranPure (evCall (cxX Tryd.prog bad [] [] []) 1000 60 10 p0.1 ⟨.lf, p0.2.2⟩) p0.2.1 = true := by kernel_rfl
theorem p0_ok {σ : Nat → Int} {W0 : World} (hL : L0 W0) : PureOk Tryd.prog 95 σ W0 10 p0 := pure_ok fit (Known2.nil σ) (FnsOk.nil) p0_run
noncomputable def h1 : H := hUpd h0 25 [] [] []
noncomputable def h2 : H := hUpd h0 80 [] [(62, .cells 1 ([[.snil]]) false),
  (78, .cells 1 ([[.snil]]) false),
  (30, .cells 3 (rp 24 ([bF, I 0, bF]) ([])) false),
  (70, .cells 1 ([[.slice 69 0 8 8 3 true]]) false),
  (38, .cells 1 ([[.slice 37 0 8 8 3 true]]) false),
  (74, .cells 3 (rp 6 ([bF, I 0, bF]) ([])) false),
  (26, .cells 3 (rp 16 ([bF, I 0, bF]) ([])) false),
  (50, .cells 1 ([[.snil]]) false),
  (66, .cells 1 ([[.slice 65 0 12 12 3 true]]) false),
  (34, .cells 2 ([[.ptr 29 0, .ptr 33 0]]) false),
  (76, .cells 31 (rp 6 ((bF) :: rp 4 (I 0) ((U 0) :: rp 4 (I 0) ((U 0) :: rp 4 (I 0) ((U 0) :: rp 4 (I 0) ((U 0) :: rp 4 (I 0) ((U 0) :: rp 4 (I 0) ([U 0]))))))) ([])) false),
  (44, .cells 1 ([[.snil]]) false),
  (28, .cells 80 (rp 16 (rp 4 (I 0) ((U 0) :: rp 4 (I 0) ((U 0) :: rp 4 (I 0) ((U 0) :: rp 4 (I 0) ((U 0) :: rp 4 (I 0) ((U 0) :: rp 4 (I 0) ((U 0) :: rp 4 (I 0) ((U 0) :: rp 4 (I 0) ((U 0) :: rp 4 (I 0) ((U 0) :: rp 4 (I 0) ((U 0) :: rp 4 (I 0) ((U 0) :: rp 4 (I 0) ((U 0) :: rp 4 (I 0) ((U 0) :: rp 4 (I 0) ((U 0) :: rp 4 (I 0) ((U 0) :: rp 4 (I 0) ([U 0]))))))))))))))))) ([])) false),
  (68, .cells 2 ([[.ptr 66 0, .slice 67 0 12 12 2 true]]) false),
  (36, .cells 3 ([[.ptr 34 0, I 16, .ptr 35 0]]) false),
  (56, .cells 1 ([[.snil]]) false),
  (72, .map [] 0),
  (40, .cells 3 ([[.ptr 38 0, .slice 39 0 8 8 107 true, .slice 64 0 8 8 1 false]]) false),
  (64, .cells 1 ([[.ptr 41 0], [.ptr 44 0], [.ptr 47 0], [.ptr 50 0], [.ptr 53 0], [.ptr 56 0], [.ptr 59 0], [.ptr 62 0]]) false),
  (32, .cells 32 (rp 24 (rp 32 (U 0) ([])) ([])) false),
  (77, .cells 2 ([[.ptr 75 0, .slice 76 0 6 6 31 true]]) false),
  (29, .cells 2 ([[.ptr 27 0, .slice 28 0 16 16 80 true]]) false),
  (53, .cells 1 ([[.snil]]) false),
  (69, .cells 3 (rp 8 ([bF, I 0, bF]) ([])) false),
  (37, .cells 3 (rp 8 ([bF, I 0, bF]) ([])) false),
  (73, .cells 5 ([[.ptr 70 0, .slice 71 0 8 8 3 true, .map 72, .ptr 36 0, .ptr 40 0]]) false),
  (41, .cells 1 ([[.snil]]) false),
  (65, .cells 3 (rp 12 ([bF, I 0, bF]) ([])) false),
  (33, .cells 2 ([[.ptr 31 0, .slice 32 0 24 24 32 true]]) false),
  (59, .cells 1 ([[.snil]]) false),
  (75, .cells 1 ([[.slice 74 0 6 6 3 true]]) false),
  (27, .cells 1 ([[.slice 26 0 16 16 3 true]]) false),
  (67, .cells 2 (rp 12 ([I 0, I 0]) ([])) false),
  (35, .cells 3 ([[I 16, .snil, I 0]]) false),
  (71, .cells 3 (rp 8 ([I 0, I 0, I 0]) ([])) false),
  (39, .cells 107 (rp 8 (rp 9 (U 0) (rp 6 (I 0) ((U 0) :: rp 4 (I 0) ((U 0) :: rp 4 (I 0) ((U 0) :: rp 4 (I 0) ((U 0) :: rp 4 (I 0) ((U 0) :: rp 4 (I 0) ((U 0) :: rp 4 (I 0) ((U 0) :: rp 4 (I 0) ((U 0) :: rp 4 (I 0) ((U 0) :: rp 4 (I 0) ((U 0) :: rp 4 (I 0) ((U 0) :: rp 4 (I 0) ((U 0) :: rp 4 (I 0) ((U 0) :: rp 4 (I 0) ((U 0) :: rp 4 (I 0) ((U 0) :: rp 4 (I 0) ((U 0) :: rp 4 (I 0) ((U 0) :: rp 4 (I 0) ((U 0) :: rp 4 (I 0) ([U 0, I 0]))))))))))))))))))))) ([])) false),
  (79, .cells 9 ([[.ptr 36 0, .ptr 40 0, .ptr 68 0, .ptr 73 0, .ptr 77 0, .ptr 78 0, .snil, .snil, I 0]]) false),
  (47, .cells 1 ([[.snil]]) false),
  (31, .cells 1 ([[.slice 30 0 24 24 3 true]]) false)] []
noncomputable def m1 : Memo := ⟨[.agg [I 16, I 24, I 8, I 12, I 8, I 6]], h1, .tuple [.ptr 79 0, .inil], h2⟩
theorem m1_run : ranTo (evCall (cxX Tryd.prog bad [] [] []) 1000 60 6 m1.args m1.h) m1.v m1.h' = true := by kernel_rfl
theorem m1_ok {σ : Nat → Int} {W0 : World} (hL : L0 W0) : MemoOk Tryd.prog 95 σ W0 6 m1 := memo_ok fit (Known2.nil σ) (FnsOk.nil) m1_run
noncomputable def p2 : Pur := ([.agg [I 3, I 0, I 0, I 0, U 0]], .inil, 1048576)
theorem p2_run : ranPure (evCall (cxX Tryd.prog bad [] [] []) 1000 60 65 p2.1 ⟨.lf, p2.2.2⟩) p2.2.1 = true := by kernel_rfl
theorem p2_ok {σ : Nat → Int} {W0 : World} (hL : L0 W0) : PureOk Tryd.prog 95 σ W0 65 p2 := pure_ok fit (Known2.nil σ) (FnsOk.nil) p2_run
noncomputable def p3 : Pur := ([.agg [I 3, I 1, I 0, I 0, U 0]], .inil, 1048576)
theorem p3_run : ranPure (evCall (cxX Tryd.prog bad [] [] []) 1000 60 65 p3.1 ⟨.lf, p3.2.2⟩) p3.2.1 = true := by kernel_rfl
theorem p3_ok {σ : Nat → Int} {W0 : World} (hL : L0 W0) : PureOk Tryd.prog 95 σ W0 65 p3 := pure_ok fit (Known2.nil σ) (FnsOk.nil) p3_run
noncomputable def p4 : Pur := ([.agg [I 0, I 0, I 0, I 0, U 0]], .inil, 1048576)
theorem p4_run : ranPure (evCall (cxX Tryd.prog bad [] [] []) 1000 60 65 p4.1 ⟨.lf, p4.2.2⟩) p4.2.1 = true := by kernel_rfl
theorem p4_ok {σ : Nat → Int} {W0 : World} (hL : L0 W0) : PureOk Tryd.prog 95 σ W0 65 p4 := pure_ok fit (Known2.nil σ) (FnsOk.nil) p4_run
noncomputable def p5 : Pur := ([.agg [I 2, I 0, I 0, I 0, U 1]], .inil, 1048576)
theorem p5_run : ranPure (evCall (cxX Tryd.prog bad [] [] []) 1000 60 65 p5.1 ⟨.lf, p5.2.2⟩) p5.2.1 = true := by kernel_rfl
theorem p5_ok {σ : Nat → Int} {W0 : World} (hL : L0 W0) : PureOk Tryd.prog 95 σ W0 65 p5 := pure_ok fit (Known2.nil σ) (FnsOk.nil) p5_run
noncomputable def p6 : Pur := ([.agg [I 8, I 0, I 0, I 0, U 0]], .inil, 1048576)
theorem p6_run : ranPure (evCall (cxX Tryd.prog bad [] [] []) 1000 60 65 p6.1 ⟨.lf, p6.2.2⟩) p6.2.1 = true := by kernel_rfl
theorem p6_ok {σ : Nat → Int} {W0 : World} (hL : L0 W0) : PureOk Tryd.prog 95 σ W0 65 p6 := pure_ok fit (Known2.nil σ) (FnsOk.nil) p6_run
noncomputable def p7 : Pur := ([.agg [I 7, I 1, I 0, I 0, U 0]], .inil, 1048576)
theorem p7_run : ranPure (evCall (cxX Tryd.prog bad [] [] []) 1000 60 65 p7.1 ⟨.lf, p7.2.2⟩) p7.2.1 = true := by kernel_rfl
theorem p7_ok {σ : Nat → Int} {W0 : World} (hL : L0 W0) : PureOk Tryd.prog 95 σ W0 65 p7 := pure_ok fit (Known2.nil σ) (FnsOk.nil) p7_run
noncomputable def p8 : Pur := ([.agg [I 11, I 0, I 0, I 0, U 0]], .inil, 1048576)
theorem p8_run : ranPure (evCall (cxX Tryd.prog bad [] [] []) 1000 60 65 p8.1 ⟨.lf, p8.2.2⟩) p8.2.1 = true := by kernel_rfl
theorem p8_ok {σ : Nat → Int} {W0 : World} (hL : L0 W0) : PureOk Tryd.prog 95 σ W0 65 p8 := pure_ok fit (Known2.nil σ) (FnsOk.nil) p8_run
noncomputable def p9 : Pur := ([.agg [I 12, I 0, I 0, I 0, U 0]], .inil, 1048576)
theorem p9_run : ranPure (evCall (cxX Tryd.prog bad [] [] []) 1000 60 65 p9.1 ⟨.lf, p9.2.2⟩) p9.2.1 = true := by kernel_rfl
theorem p9_ok {σ : Nat → Int} {W0 : World} (hL : L0 W0) : PureOk Tryd.prog 95 σ W0 65 p9 := pure_ok fit (Known2.nil σ) (FnsOk.nil) p9_run
noncomputable def p10 : Pur := ([.agg [I 13, I 0, I 0, I 0, U 0]], .inil, 1048576)
theorem p10_run : ranPure (evCall (cxX Tryd.prog bad [] [] []) 1000 60 65 p10.1 ⟨.lf, p10.2.2⟩) p10.2.1 = true := by kernel_rfl
theorem p10_ok {σ : Nat → Int} {W0 : World} (hL : L0 W0) : PureOk Tryd.prog 95 σ W0 65 p10 := pure_ok fit (Known2.nil σ) (FnsOk.nil) p10_run
noncomputable def p11 : Pur := ([.agg [I 14, I 0, I 0, I 0, U 0]], .inil, 1048576)
theorem p11_run : ranPure (evCall (cxX Tryd.prog bad [] [] []) 1000 60 65 p11.1 ⟨.lf, p11.2.2⟩) p11.2.1 = true := by kernel_rfl
theorem p11_ok {σ : Nat → Int} {W0 : World} (hL : L0 W0) : PureOk Tryd.prog 95 σ W0 65 p11 := pure_ok fit (Known2.nil σ) (FnsOk.nil) p11_run
noncomputable def h3 : H := hUpd h0 58 [] [(54, .cells 1 ([[.slice 57 0 24 24 3 true]]) false),
  (38, .cells 2 ([[.ptr 52 0, .slice 53 0 16 16 80 true]]) false),
  (22, .cells 2 ([[.ptr 31 0, .slice 32 0 12 12 2 true]]) false),
  (26, .cells 2 ([[.ptr 38 0, .ptr 39 0]]) false),
  (50, .cells 3 ([bT, I 0, bF] :: rp 7 ([bF, I 0, bF]) ([])) false),
  (34, .cells 3 ([IZ (-1), I 60, .int .i64 (.var 56)] :: rp 7 ([I 0, I 0, I 0]) ([])) false),
  (18, .cells 9 ([[.ptr 20 0, .ptr 21 0, .ptr 22 0, .ptr 23 0, .ptr 24 0, .ptr 25 0, .snil, .snil, I 0]]) false),
  (28, .cells 1 ([[.slice 40 0 8 8 3 true]]) false),
  (52, .cells 1 ([[.slice 56 0 16 16 3 true]]) false),
  (20, .cells 3 ([[.ptr 26 0, I 16, .ptr 27 0]]) false),
  (56, .cells 3 (rp 16 ([bF, I 0, bF]) ([])) false),
  (40, .cells 3 (rp 8 ([bF, I 0, bF]) ([])) false),
  (32, .cells 2 ([IZ (-1), I 2147483647] :: [I 0, .int .i64 (.var 52)] :: [I 0, .int .i64 (.var 53)] :: [I 0, .int .i64 (.var 54)] :: [I 0, .int .i64 (.var 55)] :: rp 7 ([I 0, I 0]) ([])) false),
  (29, .cells 107 ((rp 9 (U 0) ((.int .i64 (.var 1)) :: (I 0) :: (.int .i64 (.var 2)) :: (I 0) :: (I 0) :: (I 0) :: (U 0) :: (.int .i64 (.var 3)) :: (.int .i64 (.var 4)) :: (I 0) :: (I 0) :: (U 0) :: (.int .i64 (.var 5)) :: (I 0) :: (I 0) :: (I 0) :: (U 0) :: (.int .i64 (.var 6)) :: (I 0) :: (I 0) :: (I 0) :: (U 0) :: (.int .i64 (.var 7)) :: (I 0) :: (I 0) :: (I 0) :: (U 0) :: (.int .i64 (.var 8)) :: (I 0) :: (I 0) :: (I 0) :: (U 0) :: rp 4 (I 0) ((U 0) :: rp 4 (I 0) ((U 0) :: rp 4 (I 0) ((U 0) :: rp 4 (I 0) ((U 0) :: rp 4 (I 0) ((U 0) :: rp 4 (I 0) ((U 0) :: rp 4 (I 0) ((U 0) :: rp 4 (I 0) ((U 0) :: rp 4 (I 0) ((U 0) :: rp 4 (I 0) ((U 0) :: (.int .i64 (.var 9)) :: (I 0) :: (I 0) :: (I 0) :: (.int .u32 (.var 10)) :: (.int .i64 (.var 11)) :: (.int .i64 (.var 12)) :: (I 0) :: (I 0) :: (U 0) :: rp 4 (I 0) ([U 0, I 0]))))))))))))) :: (rp 9 (U 0) ((.int .i64 (.var 13)) :: (I 0) :: (.int .i64 (.var 14)) :: (I 0) :: (I 0) :: (I 0) :: (U 0) :: (.int .i64 (.var 15)) :: (.int .i64 (.var 16)) :: (I 0) :: (I 0) :: (U 0) :: (.int .i64 (.var 17)) :: (I 0) :: (I 0) :: (I 0) :: (U 0) :: (.int .i64 (.var 18)) :: (I 0) :: (I 0) :: (I 0) :: (U 0) :: (.int .i64 (.var 19)) :: (I 0) :: (I 0) :: (I 0) :: (U 0) :: (.int .i64 (.var 20)) :: (I 0) :: (I 0) :: (I 0) :: (U 0) :: rp 4 (I 0) ((U 0) :: rp 4 (I 0) ((U 0) :: rp 4 (I 0) ((U 0) :: rp 4 (I 0) ((U 0) :: rp 4 (I 0) ((U 0) :: rp 4 (I 0) ((U 0) :: rp 4 (I 0) ((U 0) :: rp 4 (I 0) ((U 0) :: rp 4 (I 0) ((U 0) :: rp 4 (I 0) ((U 0) :: (.int .i64 (.var 21)) :: (.int .i64 (.var 22)) :: (I 0) :: (I 0) :: (.int .u32 (.var 23)) :: (.int .i64 (.var 24)) :: (.int .i64 (.var 25)) :: (I 0) :: (I 0) :: (U 0) :: rp 4 (I 0) ([U 0, I 0]))))))))))))) :: (rp 9 (U 0) ((.int .i64 (.var 26)) :: (I 0) :: (.int .i64 (.var 27)) :: (I 0) :: (I 0) :: (I 0) :: (U 0) :: (.int .i64 (.var 28)) :: (.int .i64 (.var 29)) :: (I 0) :: (I 0) :: (U 0) :: (.int .i64 (.var 30)) :: (I 0) :: (I 0) :: (I 0) :: (U 0) :: (.int .i64 (.var 31)) :: (I 0) :: (I 0) :: (I 0) :: (U 0) :: (.int .i64 (.var 32)) :: (I 0) :: (I 0) :: (I 0) :: (U 0) :: (.int .i64 (.var 33)) :: (I 0) :: (I 0) :: (I 0) :: (U 0) :: rp 4 (I 0) ((U 0) :: rp 4 (I 0) ((U 0) :: rp 4 (I 0) ((U 0) :: rp 4 (I 0) ((U 0) :: rp 4 (I 0) ((U 0) :: rp 4 (I 0) ((U 0) :: rp 4 (I 0) ((U 0) :: rp 4 (I 0) ((U 0) :: rp 4 (I 0) ((U 0) :: rp 4 (I 0) ((U 0) :: (.int .i64 (.var 34)) :: (.int .i64 (.var 35)) :: (I 0) :: (I 0) :: (.int .u32 (.var 36)) :: (.int .i64 (.var 37)) :: (.int .i64 (.var 38)) :: (I 0) :: (I 0) :: (U 0) :: rp 4 (I 0) ([U 0, I 0]))))))))))))) :: (rp 9 (U 0) ((.int .i64 (.var 39)) :: (I 0) :: (.int .i64 (.var 40)) :: (I 0) :: (I 0) :: (I 0) :: (U 0) :: (.int .i64 (.var 41)) :: (.int .i64 (.var 42)) :: (I 0) :: (I 0) :: (U 0) :: (.int .i64 (.var 43)) :: (I 0) :: (I 0) :: (I 0) :: (U 0) :: (.int .i64 (.var 44)) :: (I 0) :: (I 0) :: (I 0) :: (U 0) :: (.int .i64 (.var 45)) :: (I 0) :: (I 0) :: (I 0) :: (U 0) :: (.int .i64 (.var 46)) :: (I 0) :: (I 0) :: (I 0) :: (U 0) :: rp 4 (I 0) ((U 0) :: rp 4 (I 0) ((U 0) :: rp 4 (I 0) ((U 0) :: rp 4 (I 0) ((U 0) :: rp 4 (I 0) ((U 0) :: rp 4 (I 0) ((U 0) :: rp 4 (I 0) ((U 0) :: rp 4 (I 0) ((U 0) :: rp 4 (I 0) ((U 0) :: rp 4 (I 0) ((U 0) :: (.int .i64 (.var 47)) :: (.int .i64 (.var 48)) :: (I 0) :: (I 0) :: (.int .u32 (.var 49)) :: (.int .i64 (.var 50)) :: (.int .i64 (.var 51)) :: (I 0) :: (I 0) :: (U 0) :: rp 4 (I 0) ([U 0, I 0]))))))))))))) :: rp 4 (rp 9 (U 0) (rp 6 (I 0) ((U 0) :: rp 4 (I 0) ((U 0) :: rp 4 (I 0) ((U 0) :: rp 4 (I 0) ((U 0) :: rp 4 (I 0) ((U 0) :: rp 4 (I 0) ((U 0) :: rp 4 (I 0) ((U 0) :: rp 4 (I 0) ((U 0) :: rp 4 (I 0) ((U 0) :: rp 4 (I 0) ((U 0) :: rp 4 (I 0) ((U 0) :: rp 4 (I 0) ((U 0) :: rp 4 (I 0) ((U 0) :: rp 4 (I 0) ((U 0) :: rp 4 (I 0) ((U 0) :: rp 4 (I 0) ((U 0) :: rp 4 (I 0) ((U 0) :: rp 4 (I 0) ((U 0) :: rp 4 (I 0) ([U 0, I 0]))))))))))))))))))))) ([])) false),
  (53, .cells 80 (((.int .i64 (.var 57)) :: (I 0) :: (I 0) :: (I 0) :: (U 0) :: (.int .i64 (.var 58)) :: (.int .i64 (.var 59)) :: (I 0) :: (I 0) :: (U 0) :: rp 4 (I 0) ((U 0) :: rp 4 (I 0) ((U 0) :: rp 4 (I 0) ((U 0) :: rp 4 (I 0) ((U 0) :: rp 4 (I 0) ((U 0) :: rp 4 (I 0) ((U 0) :: rp 4 (I 0) ((U 0) :: rp 4 (I 0) ((U 0) :: rp 4 (I 0) ((U 0) :: rp 4 (I 0) ((U 0) :: rp 4 (I 0) ((U 0) :: rp 4 (I 0) ((U 0) :: rp 4 (I 0) ((U 0) :: rp 4 (I 0) ([U 0]))))))))))))))) :: ((.int .i64 (.var 60)) :: (.int .i64 (.var 61)) :: (I 0) :: (I 0) :: (U 0) :: (.int .i64 (.var 62)) :: (.int .i64 (.var 63)) :: (I 0) :: (I 0) :: (U 0) :: rp 4 (I 0) ((U 0) :: rp 4 (I 0) ((U 0) :: rp 4 (I 0) ((U 0) :: rp 4 (I 0) ((U 0) :: rp 4 (I 0) ((U 0) :: rp 4 (I 0) ((U 0) :: rp 4 (I 0) ((U 0) :: rp 4 (I 0) ((U 0) :: rp 4 (I 0) ((U 0) :: rp 4 (I 0) ((U 0) :: rp 4 (I 0) ((U 0) :: rp 4 (I 0) ((U 0) :: rp 4 (I 0) ((U 0) :: rp 4 (I 0) ([U 0]))))))))))))))) :: ((.int .i64 (.var 64)) :: (.int .i64 (.var 65)) :: (I 0) :: (I 0) :: (U 0) :: (.int .i64 (.var 66)) :: (.int .i64 (.var 67)) :: (I 0) :: (I 0) :: (U 0) :: rp 4 (I 0) ((U 0) :: rp 4 (I 0) ((U 0) :: rp 4 (I 0) ((U 0) :: rp 4 (I 0) ((U 0) :: rp 4 (I 0) ((U 0) :: rp 4 (I 0) ((U 0) :: rp 4 (I 0) ((U 0) :: rp 4 (I 0) ((U 0) :: rp 4 (I 0) ((U 0) :: rp 4 (I 0) ((U 0) :: rp 4 (I 0) ((U 0) :: rp 4 (I 0) ((U 0) :: rp 4 (I 0) ((U 0) :: rp 4 (I 0) ([U 0]))))))))))))))) :: ((.int .i64 (.var 68)) :: (.int .i64 (.var 69)) :: (I 0) :: (I 0) :: (U 0) :: (.int .i64 (.var 70)) :: (.int .i64 (.var 71)) :: (I 0) :: (I 0) :: (U 0) :: rp 4 (I 0) ((U 0) :: rp 4 (I 0) ((U 0) :: rp 4 (I 0) ((U 0) :: rp 4 (I 0) ((U 0) :: rp 4 (I 0) ((U 0) :: rp 4 (I 0) ((U 0) :: rp 4 (I 0) ((U 0) :: rp 4 (I 0) ((U 0) :: rp 4 (I 0) ((U 0) :: rp 4 (I 0) ((U 0) :: rp 4 (I 0) ((U 0) :: rp 4 (I 0) ((U 0) :: rp 4 (I 0) ((U 0) :: rp 4 (I 0) ([U 0]))))))))))))))) :: rp 12 (rp 4 (I 0) ((U 0) :: rp 4 (I 0) ((U 0) :: rp 4 (I 0) ((U 0) :: rp 4 (I 0) ((U 0) :: rp 4 (I 0) ((U 0) :: rp 4 (I 0) ((U 0) :: rp 4 (I 0) ((U 0) :: rp 4 (I 0) ((U 0) :: rp 4 (I 0) ((U 0) :: rp 4 (I 0) ((U 0) :: rp 4 (I 0) ((U 0) :: rp 4 (I 0) ((U 0) :: rp 4 (I 0) ((U 0) :: rp 4 (I 0) ((U 0) :: rp 4 (I 0) ((U 0) :: rp 4 (I 0) ([U 0]))))))))))))))))) ([])) false),
  (21, .cells 3 ([[.ptr 28 0, .slice 29 0 8 8 107 true, .slice 30 0 8 8 1 false]]) false),
  (57, .cells 3 (rp 24 ([bF, I 0, bF]) ([])) false),
  (49, .cells 3 ([bT, I 0, bF] :: rp 11 ([bF, I 0, bF]) ([])) false),
  (33, .cells 1 ([[.slice 50 0 8 8 3 true]]) false),
  (35, .map [] 0),
  (19, .cells 1 ([[.int .u32 (.var 0)]]) false),
  (55, .cells 32 (rp 24 (rp 32 (U 0) ([])) ([])) false),
  (39, .cells 2 ([[.ptr 54 0, .slice 55 0 24 24 32 true]]) false),
  (23, .cells 5 ([[.ptr 33 0, .slice 34 0 8 8 3 true, .map 35, .ptr 20 0, .ptr 21 0]]) false),
  (31, .cells 1 ([[.slice 49 0 12 12 3 true]]) false)] []
noncomputable def l0 : List (Pur) := p11 :: p10 :: p9 :: p8 :: p7 :: p6 :: p5 :: p4 :: p3 :: p2 :: []
theorem l0_ok {σ : Nat → Int} {W0 : World} (hL : L0 W0) : ∀ x ∈ l0, PureOk Tryd.prog 95 σ W0 65 x := all_cons (p11_ok hL) (all_cons (p10_ok hL) (all_cons (p9_ok hL) (all_cons (p8_ok hL) (all_cons (p7_ok hL) (all_cons (p6_ok hL) (all_cons (p5_ok hL) (all_cons (p4_ok hL) (all_cons (p3_ok hL) (all_cons (p2_ok hL) (all_nil))))))))))
noncomputable def s0 : Sym := ⟨[.ptr 18 0, .agg [.slice 19 0 1 1 1 true, I 10, .snil, bT]], h3, [18, 20, 26, 38, 39, 52, 54, 56, 57, 21, 23, 28, 33, 35, 40, 50, 55, 22, 31, 49, 29, 32, 34, 53, 19, 14, 6, 12, 16, 4, 2, 13, 17, 15, 3, 1, 0], [(0, 4294967295), (0, 1099511627775), (0, 1099511627775), (0, 1099511627775), (0, 1099511627775), (0, 1099511627775), (0, 1099511627775), (0, 1099511627775), (0, 1099511627775), (0, 1099511627775), (0, 4294967295), (0, 1099511627775), (0, 1099511627775), (0, 1099511627775), (0, 1099511627775), (0, 1099511627775), (0, 1099511627775), (0, 1099511627775), (0, 1099511627775), (0, 1099511627775), (0, 1099511627775), (0, 1099511627775), (0, 1099511627775), (0, 4294967295), (0, 1099511627775), (0, 1099511627775), (0, 1099511627775), (0, 1099511627775), (0, 1099511627775), (0, 1099511627775), (0, 1099511627775), (0, 1099511627775), (0, 1099511627775), (0, 1099511627775), (0, 1099511627775), (0, 1099511627775), (0, 4294967295), (0, 1099511627775), (0, 1099511627775), (0, 1099511627775), (0, 1099511627775), (0, 1099511627775), (0, 1099511627775), (0, 1099511627775), (0, 1099511627775), (0, 1099511627775), (0, 1099511627775), (0, 1099511627775), (0, 1099511627775), (0, 4294967295), (0, 1099511627775), (0, 1099511627775), (0, 1099511627775), (0, 1099511627775), (0, 1099511627775), (0, 1099511627775), (0, 1099511627775), (0, 1099511627775), (0, 1099511627775), (0, 1099511627775), (0, 1099511627775), (0, 1099511627775), (0, 1099511627775), (0, 1099511627775), (0, 1099511627775), (0, 1099511627775), (0, 1099511627775), (0, 1099511627775), (0, 1099511627775), (0, 1099511627775), (0, 1099511627775), (0, 1099511627775)],
  [(false, .sub (.lit 60) (.var 56), .lit 1, false), (false, .sub (.lit 60) (.add (.var 56) (.lit 1)), .lit 1, false), (false, .sub (.lit 60) (.add (.var 56) (.lit 2)), .lit 1, false), (false, .sub (.lit 60) (.add (.var 56) (.lit 3)), .lit 1, false)],
  .tuple [I 0, .inil],
  [.cel 29 0 9 (I 1),
  .cel 29 0 11 (I 8),
  .cel 29 0 16 (I 7),
  .cel 29 0 17 (I 1),
  .cel 29 0 21 (I 11),
  .cel 29 0 26 (I 12),
  .cel 29 0 31 (I 13),
  .cel 29 0 36 (I 14),
  .cel 29 0 91 (I 2),
  .cel 29 0 95 (U 1),
  .cel 29 0 96 (I 7),
  .cel 29 0 97 (I 1),
  .row 32 1 ([I 0, I 10]),
  .row 34 0 ([IZ (-1), I 60, .int .i64 (.add (.var 56) (.lit 4))]),
  .set 35 (.map [(.agg [I 3, I 0], .agg [I 0, I 0], 0), (.agg [I 3, I 1], .agg [I 0, I 0], 1), (.agg [I 2, I 0], .agg [I 0, I 0], 2), (.agg [I 4, I 0], .agg [I 0, I 0], 3)] 4),
  .row 40 0 ([bT, I 0, bF]),
  .row 49 1 ([bT, I 0, bF]),
  .cel 53 0 0 (I 3),
  .cel 53 0 5 (I 3),
  .cel 53 0 6 (I 1),
  .cel 55 0 0 (.int .u32 (.var 0)),
  .row 56 0 ([bT, I 0, bF]),
  .row 57 0 ([bT, I 0, bF]),
  .row 57 1 ([bT, I 0, bF])], 533⟩
theorem s0_run : ranTo (evCall (cxX Tryd.prog bad s0.rng s0.facts [(65, pureFn l0)]) 1000 60 47 s0.args s0.pre) s0.v s0.post = true := by kernel_rfl
theorem s0_ok {W0 : World} (hL : L0 W0) : SymOk Tryd.prog 95 W0 47 s0 := sym_ok fit (fun σ hk => FnsOk.cons (pure_fn_ok (l0_ok hL)) (FnsOk.nil)) s0_run (by kernel_rfl)
noncomputable def l1 : List (Pur) := p5 :: p4 :: p11 :: p10 :: p9 :: p8 :: p7 :: p6 :: []
theorem l1_ok {σ : Nat → Int} {W0 : World} (hL : L0 W0) : ∀ x ∈ l1, PureOk Tryd.prog 95 σ W0 65 x := all_cons (p5_ok hL) (all_cons (p4_ok hL) (all_cons (p11_ok hL) (all_cons (p10_ok hL) (all_cons (p9_ok hL) (all_cons (p8_ok hL) (all_cons (p7_ok hL) (all_cons (p6_ok hL) (all_nil))))))))
noncomputable def y2 : List Sym := [s0]
theorem y2_ok {W0 : World} (hL : L0 W0) : ∀ x ∈ y2, SymOk Tryd.prog 95 W0 47 x := all_cons (s0_ok hL) (all_nil)
noncomputable def q3 : Fns := [(10, pureFn [p0]), (6, frameFn [m1])]
theorem q3_ok {σ : Nat → Int} {W0 : World} (hL : L0 W0) : FnsOk Tryd.prog 95 σ W0 q3 := FnsOk.cons (pure_fn_ok (all_cons (p0_ok hL) (all_nil))) (FnsOk.cons (frame_fn_ok (all_cons (m1_ok hL) (all_nil))) (FnsOk.nil))
abbrev Fx := List (Bool × E × E × Bool)
abbrev CaseR (h : H) (rng : Rg) (facts : Fx) (tab : NumTabE) (vs : List V) : Prop := ∀ {σ : Nat → Int} {W : World} {ρ : Inj}, L0 W → Known2 σ rng facts → TabOk Tryd.prog bad 11 σ tab → Rel σ W ρ h W → Glob 95 ρ → ∀ {xs : Array Value}, VRs σ ρ vs xs.toList → Calls Tryd.prog 4 xs W fun e w' => e = .returned (.bool true) ∧ Below W.heap.size W w'
theorem caseR {h : H} {rng : Rg} {facts : Fx} {tab : NumTabE} {vs : List V} {fs : Fns} (hx : ∀ {σ : Nat → Int} {W : World}, L0 W → Known2 σ rng facts → TabOk Tryd.prog bad 11 σ tab → FnsOk Tryd.prog 95 σ W fs)
    (run : isTrue (evCall (cxX Tryd.prog bad rng facts fs) 1000 60 4 vs h) = true) : CaseR h rng facts tab vs := by
  intro σ W ρ hL hk hT R g xs hv
  exact law_case_r fit (by kernel_rfl) hk (hx hL hk hT) R g hv ⟨_, Tryd.func4, rfl⟩ run
theorem caseW {h : H} {rng : Rg} {facts : Fx} {vs : List V} {fns : Fx → Fns} {w : Tk.Way} (hx : ∀ {σ : Nat → Int} {W : World}, L0 W → ∀ ws, Known2 σ rng ws → FnsOk Tryd.prog 95 σ W (fns ws))
    (run : lawWays Tryd.prog bad fns 1000 60 4 vs rng h w facts = true) : CaseR h rng facts [] vs := by
  intro σ W ρ hL hk hT R g xs hv
  exact law_ways_r fit (by kernel_rfl) (hx hL) R g hv ⟨_, Tryd.func4, rfl⟩ hk run
theorem caseBy {h : H} {rng : Rg} {facts : Fx} {tab : NumTabE} {vs : List V} (q : Bool) (x y : E) (a : CaseR h rng ((q, x, y, true) :: facts) tab vs) (b : CaseR h rng ((q, x, y, false) :: facts) tab vs) : CaseR h rng facts tab vs := by
  intro σ W ρ hL hk hT R g xs hv
  exact hk.by_ q x y (fun k => a hL k hT R g hv) (fun k => b hL k hT R g hv)
noncomputable def fk2 (b : E) (x y : Tk.Way) : Tk.Way := .fork true b (.lit 0) x (.fork true b (.lit 1) y (.gone b 0 2))
abbrev a0 (b : E) (l : Fx) : Fx := (true, b, .lit 0, true) :: l
abbrev n0 (b : E) (l : Fx) : Fx := (true, b, .lit 0, false) :: l
abbrev a1 (b : E) (l : Fx) : Fx := (true, b, .lit 1, true) :: l
abbrev n1 (b : E) (l : Fx) : Fx := (true, b, .lit 1, false) :: l
theorem case0 : CaseR (nameH (sentH 225 12 errTab)) [((-9223372036854775808), 9223372036854775807), (0, 4294967295), (0, 0), (0, 0), (0, 0), (0, 0), (0, 0), (0, 0)] [] [(0, 5, .lit 0)] [.int .i64 (.var 0), .snil, .int .u32 (.var 1)] := caseR (fun hL hk hT => FnsOk.cons (hT.ok fit) (FnsOk.cons (sym_fn_ok (Γ := cxX Tryd.prog bad [((-9223372036854775808), 9223372036854775807), (0, 4294967295), (0, 0), (0, 0), (0, 0), (0, 0), (0, 0), (0, 0)] [] []) (fix := 18) ⟨hk.rng, hk.facts⟩ (by decide) (y2_ok hL)) (FnsOk.cons (pure_fn_ok (l1_ok hL)) ((q3_ok hL))))) (by kernel_rfl : isTrue (evCall (cxX Tryd.prog bad [((-9223372036854775808), 9223372036854775807), (0, 4294967295), (0, 0), (0, 0), (0, 0), (0, 0), (0, 0), (0, 0)] [] ((11, numExtE [(0, 5, .lit 0)]) :: (47, symFn (cxX Tryd.prog bad [((-9223372036854775808), 9223372036854775807), (0, 4294967295), (0, 0), (0, 0), (0, 0), (0, 0), (0, 0), (0, 0)] [] []) 18 y2) :: (65, pureFn l1) :: q3)) 1000 60 4 [.int .i64 (.var 0), .snil, .int .u32 (.var 1)] (nameH (sentH 225 12 errTab))) = true)
theorem case1 : CaseR (nameH (sentH 225 12 errTab)) [((-9223372036854775808), 9223372036854775807), (0, 4294967295), (0, 0), (0, 0), (0, 0), (0, 0), (0, 0), (0, 0)] [] [(0, 5, .lit 0)] [.int .i64 (.var 0), .eslice false, .int .u32 (.var 1)] := caseR (fun hL hk hT => FnsOk.cons (hT.ok fit) (FnsOk.cons (sym_fn_ok (Γ := cxX Tryd.prog bad [((-9223372036854775808), 9223372036854775807), (0, 4294967295), (0, 0), (0, 0), (0, 0), (0, 0), (0, 0), (0, 0)] [] []) (fix := 18) ⟨hk.rng, hk.facts⟩ (by decide) (y2_ok hL)) (FnsOk.cons (pure_fn_ok (l1_ok hL)) ((q3_ok hL))))) (by kernel_rfl : isTrue (evCall (cxX Tryd.prog bad [((-9223372036854775808), 9223372036854775807), (0, 4294967295), (0, 0), (0, 0), (0, 0), (0, 0), (0, 0), (0, 0)] [] ((11, numExtE [(0, 5, .lit 0)]) :: (47, symFn (cxX Tryd.prog bad [((-9223372036854775808), 9223372036854775807), (0, 4294967295), (0, 0), (0, 0), (0, 0), (0, 0), (0, 0), (0, 0)] [] []) 18 y2) :: (65, pureFn l1) :: q3)) 1000 60 4 [.int .i64 (.var 0), .eslice false, .int .u32 (.var 1)] (nameH (sentH 225 12 errTab))) = true)
noncomputable def h4 : H := hUpd h0 38 [] [(18, .cells 1099511627776 ([[.int .i64 (.var 8)]]) true)] []
noncomputable def h5 : H := hUpd h4 93 [] [(78, .cells 3 (rp 12 ([bF, I 0, bF]) ([])) false),
  (46, .cells 2 ([[.ptr 44 0, .slice 45 0 24 24 32 true]]) false),
  (86, .cells 5 ([[.ptr 83 0, .slice 84 0 8 8 3 true, .map 85, .ptr 49 0, .ptr 53 0]]) false),
  (54, .cells 1 ([[.snil]]) false),
  (90, .cells 2 ([[.ptr 88 0, .slice 89 0 6 6 31 true]]) false),
  (42, .cells 2 ([[.ptr 40 0, .slice 41 0 16 16 80 true]]) false),
  (82, .cells 3 (rp 8 ([bF, I 0, bF]) ([])) false),
  (50, .cells 3 (rp 8 ([bF, I 0, bF]) ([])) false),
  (66, .cells 1 ([[.snil]]) false),
  (92, .cells 9 ([[.ptr 49 0, .ptr 53 0, .ptr 81 0, .ptr 86 0, .ptr 90 0, .ptr 91 0, .snil, .snil, I 0]]) false),
  (60, .cells 1 ([[.snil]]) false),
  (44, .cells 1 ([[.slice 43 0 24 24 3 true]]) false),
  (84, .cells 3 (rp 8 ([I 0, I 0, I 0]) ([])) false),
  (52, .cells 107 (rp 8 (rp 9 (U 0) (rp 6 (I 0) ((U 0) :: rp 4 (I 0) ((U 0) :: rp 4 (I 0) ((U 0) :: rp 4 (I 0) ((U 0) :: rp 4 (I 0) ((U 0) :: rp 4 (I 0) ((U 0) :: rp 4 (I 0) ((U 0) :: rp 4 (I 0) ((U 0) :: rp 4 (I 0) ((U 0) :: rp 4 (I 0) ((U 0) :: rp 4 (I 0) ((U 0) :: rp 4 (I 0) ((U 0) :: rp 4 (I 0) ((U 0) :: rp 4 (I 0) ((U 0) :: rp 4 (I 0) ((U 0) :: rp 4 (I 0) ((U 0) :: rp 4 (I 0) ((U 0) :: rp 4 (I 0) ((U 0) :: rp 4 (I 0) ([U 0, I 0]))))))))))))))))))))) ([])) false),
  (88, .cells 1 ([[.slice 87 0 6 6 3 true]]) false),
  (72, .cells 1 ([[.snil]]) false),
  (40, .cells 1 ([[.slice 39 0 16 16 3 true]]) false),
  (80, .cells 2 (rp 12 ([I 0, I 0]) ([])) false),
  (48, .cells 3 ([[I 16, .snil, I 0]]) false),
  (77, .cells 1 ([[.ptr 54 0], [.ptr 57 0], [.ptr 60 0], [.ptr 63 0], [.ptr 66 0], [.ptr 69 0], [.ptr 72 0], [.ptr 75 0]]) false),
  (45, .cells 32 (rp 24 (rp 32 (U 0) ([])) ([])) false),
  (85, .map [] 0),
  (53, .cells 3 ([[.ptr 51 0, .slice 52 0 8 8 107 true, .slice 77 0 8 8 1 false]]) false),
  (69, .cells 1 ([[.snil]]) false),
  (89, .cells 31 (rp 6 ((bF) :: rp 4 (I 0) ((U 0) :: rp 4 (I 0) ((U 0) :: rp 4 (I 0) ((U 0) :: rp 4 (I 0) ((U 0) :: rp 4 (I 0) ((U 0) :: rp 4 (I 0) ([U 0]))))))) ([])) false),
  (57, .cells 1 ([[.snil]]) false),
  (41, .cells 80 (rp 16 (rp 4 (I 0) ((U 0) :: rp 4 (I 0) ((U 0) :: rp 4 (I 0) ((U 0) :: rp 4 (I 0) ((U 0) :: rp 4 (I 0) ((U 0) :: rp 4 (I 0) ((U 0) :: rp 4 (I 0) ((U 0) :: rp 4 (I 0) ((U 0) :: rp 4 (I 0) ((U 0) :: rp 4 (I 0) ((U 0) :: rp 4 (I 0) ((U 0) :: rp 4 (I 0) ((U 0) :: rp 4 (I 0) ((U 0) :: rp 4 (I 0) ((U 0) :: rp 4 (I 0) ((U 0) :: rp 4 (I 0) ([U 0]))))))))))))))))) ([])) false),
  (81, .cells 2 ([[.ptr 79 0, .slice 80 0 12 12 2 true]]) false),
  (49, .cells 3 ([[.ptr 47 0, I 16, .ptr 48 0]]) false),
  (91, .cells 1 ([[.snil]]) false),
  (75, .cells 1 ([[.snil]]) false),
  (43, .cells 3 (rp 24 ([bF, I 0, bF]) ([])) false),
  (83, .cells 1 ([[.slice 82 0 8 8 3 true]]) false),
  (51, .cells 1 ([[.slice 50 0 8 8 3 true]]) false),
  (87, .cells 3 (rp 6 ([bF, I 0, bF]) ([])) false),
  (39, .cells 3 (rp 16 ([bF, I 0, bF]) ([])) false),
  (79, .cells 1 ([[.slice 78 0 12 12 3 true]]) false),
  (47, .cells 2 ([[.ptr 42 0, .ptr 46 0]]) false),
  (63, .cells 1 ([[.snil]]) false)] []
noncomputable def m12 : Memo := ⟨[.agg [I 16, I 24, I 8, I 12, I 8, I 6]], h4, .tuple [.ptr 92 0, .inil], h5⟩
theorem m12_run : ranTo (evCall (cxX Tryd.prog bad [] [] []) 1000 60 6 m12.args m12.h) m12.v m12.h' = true := by kernel_rfl
theorem m12_ok {σ : Nat → Int} {W0 : World} (hL : L0 W0) : MemoOk Tryd.prog 95 σ W0 6 m12 := memo_ok fit (Known2.nil σ) (FnsOk.nil) m12_run
noncomputable def h6 : H := hUpd h3 59 [38, 26, 28, 52, 20, 49, 31] [(30, .cells 107 ((rp 9 (U 0) ((.int .i64 (.var 1)) :: (I 0) :: (.int .i64 (.var 2)) :: (I 0) :: (I 0) :: (I 0) :: (U 0) :: (.int .i64 (.var 3)) :: (.int .i64 (.var 4)) :: (I 0) :: (I 0) :: (U 0) :: (.int .i64 (.var 5)) :: (I 0) :: (I 0) :: (I 0) :: (U 0) :: (.int .i64 (.var 6)) :: (I 0) :: (I 0) :: (I 0) :: (U 0) :: (.int .i64 (.var 7)) :: (I 0) :: (I 0) :: (I 0) :: (U 0) :: (.int .i64 (.var 8)) :: (I 0) :: (I 0) :: (I 0) :: (U 0) :: rp 4 (I 0) ((U 0) :: rp 4 (I 0) ((U 0) :: rp 4 (I 0) ((U 0) :: rp 4 (I 0) ((U 0) :: rp 4 (I 0) ((U 0) :: rp 4 (I 0) ((U 0) :: rp 4 (I 0) ((U 0) :: rp 4 (I 0) ((U 0) :: rp 4 (I 0) ((U 0) :: rp 4 (I 0) ((U 0) :: (.int .i64 (.var 9)) :: (I 0) :: (I 0) :: (I 0) :: (.int .u32 (.var 10)) :: (.int .i64 (.var 11)) :: (.int .i64 (.var 12)) :: (I 0) :: (I 0) :: (U 0) :: rp 4 (I 0) ([U 0, I 0]))))))))))))) :: (rp 9 (U 0) ((.int .i64 (.var 13)) :: (I 0) :: (.int .i64 (.var 14)) :: (I 0) :: (I 0) :: (I 0) :: (U 0) :: (.int .i64 (.var 15)) :: (.int .i64 (.var 16)) :: (I 0) :: (I 0) :: (U 0) :: (.int .i64 (.var 17)) :: (I 0) :: (I 0) :: (I 0) :: (U 0) :: (.int .i64 (.var 18)) :: (I 0) :: (I 0) :: (I 0) :: (U 0) :: (.int .i64 (.var 19)) :: (I 0) :: (I 0) :: (I 0) :: (U 0) :: (.int .i64 (.var 20)) :: (I 0) :: (I 0) :: (I 0) :: (U 0) :: rp 4 (I 0) ((U 0) :: rp 4 (I 0) ((U 0) :: rp 4 (I 0) ((U 0) :: rp 4 (I 0) ((U 0) :: rp 4 (I 0) ((U 0) :: rp 4 (I 0) ((U 0) :: rp 4 (I 0) ((U 0) :: rp 4 (I 0) ((U 0) :: rp 4 (I 0) ((U 0) :: rp 4 (I 0) ((U 0) :: (.int .i64 (.var 21)) :: (.int .i64 (.var 22)) :: (I 0) :: (I 0) :: (.int .u32 (.var 23)) :: (.int .i64 (.var 24)) :: (.int .i64 (.var 25)) :: (I 0) :: (I 0) :: (U 0) :: rp 4 (I 0) ([U 0, I 0]))))))))))))) :: (rp 9 (U 0) ((.int .i64 (.var 26)) :: (I 0) :: (.int .i64 (.var 27)) :: (I 0) :: (I 0) :: (I 0) :: (U 0) :: (.int .i64 (.var 28)) :: (.int .i64 (.var 29)) :: (I 0) :: (I 0) :: (U 0) :: (.int .i64 (.var 30)) :: (I 0) :: (I 0) :: (I 0) :: (U 0) :: (.int .i64 (.var 31)) :: (I 0) :: (I 0) :: (I 0) :: (U 0) :: (.int .i64 (.var 32)) :: (I 0) :: (I 0) :: (I 0) :: (U 0) :: (.int .i64 (.var 33)) :: (I 0) :: (I 0) :: (I 0) :: (U 0) :: rp 4 (I 0) ((U 0) :: rp 4 (I 0) ((U 0) :: rp 4 (I 0) ((U 0) :: rp 4 (I 0) ((U 0) :: rp 4 (I 0) ((U 0) :: rp 4 (I 0) ((U 0) :: rp 4 (I 0) ((U 0) :: rp 4 (I 0) ((U 0) :: rp 4 (I 0) ((U 0) :: rp 4 (I 0) ((U 0) :: (.int .i64 (.var 34)) :: (.int .i64 (.var 35)) :: (I 0) :: (I 0) :: (.int .u32 (.var 36)) :: (.int .i64 (.var 37)) :: (.int .i64 (.var 38)) :: (I 0) :: (I 0) :: (U 0) :: rp 4 (I 0) ([U 0, I 0]))))))))))))) :: (rp 9 (U 0) ((.int .i64 (.var 39)) :: (I 0) :: (.int .i64 (.var 40)) :: (I 0) :: (I 0) :: (I 0) :: (U 0) :: (.int .i64 (.var 41)) :: (.int .i64 (.var 42)) :: (I 0) :: (I 0) :: (U 0) :: (.int .i64 (.var 43)) :: (I 0) :: (I 0) :: (I 0) :: (U 0) :: (.int .i64 (.var 44)) :: (I 0) :: (I 0) :: (I 0) :: (U 0) :: (.int .i64 (.var 45)) :: (I 0) :: (I 0) :: (I 0) :: (U 0) :: (.int .i64 (.var 46)) :: (I 0) :: (I 0) :: (I 0) :: (U 0) :: rp 4 (I 0) ((U 0) :: rp 4 (I 0) ((U 0) :: rp 4 (I 0) ((U 0) :: rp 4 (I 0) ((U 0) :: rp 4 (I 0) ((U 0) :: rp 4 (I 0) ((U 0) :: rp 4 (I 0) ((U 0) :: rp 4 (I 0) ((U 0) :: rp 4 (I 0) ((U 0) :: rp 4 (I 0) ((U 0) :: (.int .i64 (.var 47)) :: (.int .i64 (.var 48)) :: (I 0) :: (I 0) :: (.int .u32 (.var 49)) :: (.int .i64 (.var 50)) :: (.int .i64 (.var 51)) :: (I 0) :: (I 0) :: (U 0) :: rp 4 (I 0) ([U 0, I 0]))))))))))))) :: rp 4 (rp 9 (U 0) (rp 6 (I 0) ((U 0) :: rp 4 (I 0) ((U 0) :: rp 4 (I 0) ((U 0) :: rp 4 (I 0) ((U 0) :: rp 4 (I 0) ((U 0) :: rp 4 (I 0) ((U 0) :: rp 4 (I 0) ((U 0) :: rp 4 (I 0) ((U 0) :: rp 4 (I 0) ((U 0) :: rp 4 (I 0) ((U 0) :: rp 4 (I 0) ((U 0) :: rp 4 (I 0) ((U 0) :: rp 4 (I 0) ((U 0) :: rp 4 (I 0) ((U 0) :: rp 4 (I 0) ((U 0) :: rp 4 (I 0) ((U 0) :: rp 4 (I 0) ((U 0) :: rp 4 (I 0) ((U 0) :: rp 4 (I 0) ([U 0, I 0]))))))))))))))))))))) ([])) false),
  (54, .cells 80 (((.int .i64 (.var 57)) :: (I 0) :: (I 0) :: (I 0) :: (U 0) :: (.int .i64 (.var 58)) :: (.int .i64 (.var 59)) :: (I 0) :: (I 0) :: (U 0) :: rp 4 (I 0) ((U 0) :: rp 4 (I 0) ((U 0) :: rp 4 (I 0) ((U 0) :: rp 4 (I 0) ((U 0) :: rp 4 (I 0) ((U 0) :: rp 4 (I 0) ((U 0) :: rp 4 (I 0) ((U 0) :: rp 4 (I 0) ((U 0) :: rp 4 (I 0) ((U 0) :: rp 4 (I 0) ((U 0) :: rp 4 (I 0) ((U 0) :: rp 4 (I 0) ((U 0) :: rp 4 (I 0) ((U 0) :: rp 4 (I 0) ([U 0]))))))))))))))) :: ((.int .i64 (.var 60)) :: (.int .i64 (.var 61)) :: (I 0) :: (I 0) :: (U 0) :: (.int .i64 (.var 62)) :: (.int .i64 (.var 63)) :: (I 0) :: (I 0) :: (U 0) :: rp 4 (I 0) ((U 0) :: rp 4 (I 0) ((U 0) :: rp 4 (I 0) ((U 0) :: rp 4 (I 0) ((U 0) :: rp 4 (I 0) ((U 0) :: rp 4 (I 0) ((U 0) :: rp 4 (I 0) ((U 0) :: rp 4 (I 0) ((U 0) :: rp 4 (I 0) ((U 0) :: rp 4 (I 0) ((U 0) :: rp 4 (I 0) ((U 0) :: rp 4 (I 0) ((U 0) :: rp 4 (I 0) ((U 0) :: rp 4 (I 0) ([U 0]))))))))))))))) :: ((.int .i64 (.var 64)) :: (.int .i64 (.var 65)) :: (I 0) :: (I 0) :: (U 0) :: (.int .i64 (.var 66)) :: (.int .i64 (.var 67)) :: (I 0) :: (I 0) :: (U 0) :: rp 4 (I 0) ((U 0) :: rp 4 (I 0) ((U 0) :: rp 4 (I 0) ((U 0) :: rp 4 (I 0) ((U 0) :: rp 4 (I 0) ((U 0) :: rp 4 (I 0) ((U 0) :: rp 4 (I 0) ((U 0) :: rp 4 (I 0) ((U 0) :: rp 4 (I 0) ((U 0) :: rp 4 (I 0) ((U 0) :: rp 4 (I 0) ((U 0) :: rp 4 (I 0) ((U 0) :: rp 4 (I 0) ((U 0) :: rp 4 (I 0) ([U 0]))))))))))))))) :: ((.int .i64 (.var 68)) :: (.int .i64 (.var 69)) :: (I 0) :: (I 0) :: (U 0) :: (.int .i64 (.var 70)) :: (.int .i64 (.var 71)) :: (I 0) :: (I 0) :: (U 0) :: rp 4 (I 0) ((U 0) :: rp 4 (I 0) ((U 0) :: rp 4 (I 0) ((U 0) :: rp 4 (I 0) ((U 0) :: rp 4 (I 0) ((U 0) :: rp 4 (I 0) ((U 0) :: rp 4 (I 0) ((U 0) :: rp 4 (I 0) ((U 0) :: rp 4 (I 0) ((U 0) :: rp 4 (I 0) ((U 0) :: rp 4 (I 0) ((U 0) :: rp 4 (I 0) ((U 0) :: rp 4 (I 0) ((U 0) :: rp 4 (I 0) ([U 0]))))))))))))))) :: rp 12 (rp 4 (I 0) ((U 0) :: rp 4 (I 0) ((U 0) :: rp 4 (I 0) ((U 0) :: rp 4 (I 0) ((U 0) :: rp 4 (I 0) ((U 0) :: rp 4 (I 0) ((U 0) :: rp 4 (I 0) ((U 0) :: rp 4 (I 0) ((U 0) :: rp 4 (I 0) ((U 0) :: rp 4 (I 0) ((U 0) :: rp 4 (I 0) ((U 0) :: rp 4 (I 0) ((U 0) :: rp 4 (I 0) ((U 0) :: rp 4 (I 0) ((U 0) :: rp 4 (I 0) ((U 0) :: rp 4 (I 0) ([U 0]))))))))))))))))) ([])) false),
  (22, .cells 3 ([[.ptr 29 0, .slice 30 0 8 8 107 true, .slice 31 0 8 8 1 false]]) false),
  (58, .cells 3 (rp 24 ([bF, I 0, bF]) ([])) false),
  (50, .cells 3 ([bT, I 0, bF] :: rp 11 ([bF, I 0, bF]) ([])) false),
  (34, .cells 1 ([[.slice 51 0 8 8 3 true]]) false),
  (36, .map [] 0),
  (56, .cells 32 (rp 24 (rp 32 (U 0) ([])) ([])) false),
  (40, .cells 2 ([[.ptr 55 0, .slice 56 0 24 24 32 true]]) false),
  (24, .cells 5 ([[.ptr 34 0, .slice 35 0 8 8 3 true, .map 36, .ptr 21 0, .ptr 22 0]]) false),
  (32, .cells 1 ([[.slice 50 0 12 12 3 true]]) false),
  (29, .cells 1 ([[.slice 41 0 8 8 3 true]]) false),
  (53, .cells 1 ([[.slice 57 0 16 16 3 true]]) false),
  (57, .cells 3 (rp 16 ([bF, I 0, bF]) ([])) false),
  (41, .cells 3 (rp 8 ([bF, I 0, bF]) ([])) false),
  (33, .cells 2 ([IZ (-1), I 2147483647] :: [I 0, .int .i64 (.var 52)] :: [I 0, .int .i64 (.var 53)] :: [I 0, .int .i64 (.var 54)] :: [I 0, .int .i64 (.var 55)] :: rp 7 ([I 0, I 0]) ([])) false),
  (27, .cells 2 ([[.ptr 39 0, .ptr 40 0]]) false),
  (51, .cells 3 ([bT, I 0, bF] :: rp 7 ([bF, I 0, bF]) ([])) false),
  (35, .cells 3 ([IZ (-1), I 60, .int .i64 (.var 56)] :: rp 7 ([I 0, I 0, I 0]) ([])) false),
  (55, .cells 1 ([[.slice 58 0 24 24 3 true]]) false),
  (23, .cells 2 ([[.ptr 32 0, .slice 33 0 12 12 2 true]]) false)] [(18, 0, [.ptr 21 0, .ptr 22 0, .ptr 23 0, .ptr 24 0, .ptr 25 0, .ptr 26 0, .snil, .snil, I 0]),
  (21, 0, [.ptr 27 0, I 16, .ptr 28 0]),
  (39, 0, [.ptr 53 0, .slice 54 0 16 16 80 true])]
noncomputable def s1 : Sym := ⟨[.ptr 18 0, .agg [.slice 19 0 1 1 1 true, I 10, .slice 20 0 1 1 1 false, bT]], h6, [18, 21, 24, 27, 39, 40, 53, 56, 57, 23, 32, 35, 50, 55, 22, 29, 36, 41, 58, 33, 34, 54, 19, 30, 51, 14, 6, 12, 16, 4, 2, 13, 17, 15, 3, 1, 0], [(0, 4294967295), (0, 1099511627775), (0, 1099511627775), (0, 1099511627775), (0, 1099511627775), (0, 1099511627775), (0, 1099511627775), (0, 1099511627775), (0, 1099511627775), (0, 1099511627775), (0, 4294967295), (0, 1099511627775), (0, 1099511627775), (0, 1099511627775), (0, 1099511627775), (0, 1099511627775), (0, 1099511627775), (0, 1099511627775), (0, 1099511627775), (0, 1099511627775), (0, 1099511627775), (0, 1099511627775), (0, 1099511627775), (0, 4294967295), (0, 1099511627775), (0, 1099511627775), (0, 1099511627775), (0, 1099511627775), (0, 1099511627775), (0, 1099511627775), (0, 1099511627775), (0, 1099511627775), (0, 1099511627775), (0, 1099511627775), (0, 1099511627775), (0, 1099511627775), (0, 4294967295), (0, 1099511627775), (0, 1099511627775), (0, 1099511627775), (0, 1099511627775), (0, 1099511627775), (0, 1099511627775), (0, 1099511627775), (0, 1099511627775), (0, 1099511627775), (0, 1099511627775), (0, 1099511627775), (0, 1099511627775), (0, 4294967295), (0, 1099511627775), (0, 1099511627775), (0, 1099511627775), (0, 1099511627775), (0, 1099511627775), (0, 1099511627775), (0, 1099511627775), (0, 1099511627775), (0, 1099511627775), (0, 1099511627775), (0, 1099511627775), (0, 1099511627775), (0, 1099511627775), (0, 1099511627775), (0, 1099511627775), (0, 1099511627775), (0, 1099511627775), (0, 1099511627775), (0, 1099511627775), (0, 1099511627775), (0, 1099511627775), (0, 1099511627775)],
  [(false, .sub (.lit 60) (.var 56), .lit 1, false), (false, .sub (.lit 60) (.add (.var 56) (.lit 1)), .lit 1, false), (false, .sub (.lit 60) (.add (.var 56) (.lit 2)), .lit 1, false), (false, .sub (.lit 60) (.add (.var 56) (.lit 3)), .lit 1, false)],
  .tuple [I 0, .inil],
  [.cel 30 0 9 (I 1),
  .cel 30 0 11 (I 8),
  .cel 30 0 16 (I 7),
  .cel 30 0 17 (I 1),
  .cel 30 0 21 (I 11),
  .cel 30 0 26 (I 12),
  .cel 30 0 31 (I 13),
  .cel 30 0 36 (I 14),
  .cel 30 0 91 (I 2),
  .cel 30 0 95 (U 1),
  .cel 30 0 96 (I 7),
  .cel 30 0 97 (I 1),
  .row 33 1 ([I 0, I 10]),
  .row 35 0 ([IZ (-1), I 60, .int .i64 (.add (.var 56) (.lit 4))]),
  .set 36 (.map [(.agg [I 3, I 0], .agg [I 0, I 0], 0), (.agg [I 3, I 1], .agg [I 0, I 0], 1), (.agg [I 2, I 0], .agg [I 0, I 0], 2), (.agg [I 4, I 0], .agg [I 0, I 0], 3)] 4),
  .row 41 0 ([bT, I 0, bF]),
  .row 50 1 ([bT, I 0, bF]),
  .cel 54 0 0 (I 3),
  .cel 54 0 5 (I 3),
  .cel 54 0 6 (I 1),
  .cel 56 0 0 (.int .u32 (.var 0)),
  .row 57 0 ([bT, I 0, bF]),
  .row 58 0 ([bT, I 0, bF]),
  .row 58 1 ([bT, I 0, bF])], 534⟩
theorem s1_run : ranTo (evCall (cxX Tryd.prog bad s1.rng s1.facts [(65, pureFn l0)]) 1000 60 47 s1.args s1.pre) s1.v s1.post = true := by kernel_rfl
theorem s1_ok {W0 : World} (hL : L0 W0) : SymOk Tryd.prog 95 W0 47 s1 := sym_ok fit (fun σ hk => FnsOk.cons (pure_fn_ok (l0_ok hL)) (FnsOk.nil)) s1_run (by kernel_rfl)
noncomputable def p13 : Pur := ([.agg [I 5, I 0, I 0, I 0, U 0]], .inil, 1048576)
theorem p13_run : ranPure (evCall (cxX Tryd.prog bad [] [] []) 1000 60 65 p13.1 ⟨.lf, p13.2.2⟩) p13.2.1 = true := by kernel_rfl
theorem p13_ok {σ : Nat → Int} {W0 : World} (hL : L0 W0) : PureOk Tryd.prog 95 σ W0 65 p13 := pure_ok fit (Known2.nil σ) (FnsOk.nil) p13_run
noncomputable def l4 : List (Pur) := p5 :: p4 :: p13 :: p11 :: p10 :: p9 :: p8 :: p7 :: p6 :: []
theorem l4_ok {σ : Nat → Int} {W0 : World} (hL : L0 W0) : ∀ x ∈ l4, PureOk Tryd.prog 95 σ W0 65 x := all_cons (p5_ok hL) (all_cons (p4_ok hL) (all_cons (p13_ok hL) (all_cons (p11_ok hL) (all_cons (p10_ok hL) (all_cons (p9_ok hL) (all_cons (p8_ok hL) (all_cons (p7_ok hL) (all_cons (p6_ok hL) (all_nil)))))))))
noncomputable def y5 : List Sym := [s0, s1]
theorem y5_ok {W0 : World} (hL : L0 W0) : ∀ x ∈ y5, SymOk Tryd.prog 95 W0 47 x := all_cons (s0_ok hL) (all_cons (s1_ok hL) (all_nil))
noncomputable def q6 : Fns := [(10, pureFn [p0]), (6, frameFn [m12])]
theorem q6_ok {σ : Nat → Int} {W0 : World} (hL : L0 W0) : FnsOk Tryd.prog 95 σ W0 q6 := FnsOk.cons (pure_fn_ok (all_cons (p0_ok hL) (all_nil))) (FnsOk.cons (frame_fn_ok (all_cons (m12_ok hL) (all_nil))) (FnsOk.nil))
theorem case2 : CaseR (rowH (sentH 225 12 errTab) [.int .i64 (.var 8)]) [((-9223372036854775808), 9223372036854775807), (0, 4294967295), (0, 0), (0, 0), (0, 0), (0, 0), (0, 0), (0, 0), ((-9223372036854775808), 9223372036854775807)] [] [(0, 5, .lit 0), (8, 1, .var 2)] [.int .i64 (.var 0), .slice 18 0 1 1 1 false, .int .u32 (.var 1)] := caseR (fun hL hk hT => FnsOk.cons (hT.ok fit) (FnsOk.cons (sym_fn_ok (Γ := cxX Tryd.prog bad [((-9223372036854775808), 9223372036854775807), (0, 4294967295), (0, 0), (0, 0), (0, 0), (0, 0), (0, 0), (0, 0), ((-9223372036854775808), 9223372036854775807)] [] []) (fix := 18) ⟨hk.rng, hk.facts⟩ (by decide) (y5_ok hL)) (FnsOk.cons (pure_fn_ok (l4_ok hL)) ((q6_ok hL))))) (by kernel_rfl : isTrue (evCall (cxX Tryd.prog bad [((-9223372036854775808), 9223372036854775807), (0, 4294967295), (0, 0), (0, 0), (0, 0), (0, 0), (0, 0), (0, 0), ((-9223372036854775808), 9223372036854775807)] [] ((11, numExtE [(0, 5, .lit 0), (8, 1, .var 2)]) :: (47, symFn (cxX Tryd.prog bad [((-9223372036854775808), 9223372036854775807), (0, 4294967295), (0, 0), (0, 0), (0, 0), (0, 0), (0, 0), (0, 0), ((-9223372036854775808), 9223372036854775807)] [] []) 18 y5) :: (65, pureFn l4) :: q6)) 1000 60 4 [.int .i64 (.var 0), .slice 18 0 1 1 1 false, .int .u32 (.var 1)] (rowH (sentH 225 12 errTab) [.int .i64 (.var 8)])) = true)
noncomputable def h7 : H := hUpd h4 51 [] [] [(18, 0, [.int .i64 (.var 8), .int .i64 (.var 9)])]
noncomputable def h8 : H := hUpd h7 106 [] [(94, .cells 2 ([[.ptr 92 0, .slice 93 0 12 12 2 true]]) false),
  (62, .cells 3 ([[.ptr 60 0, I 16, .ptr 61 0]]) false),
  (54, .cells 80 (rp 16 (rp 4 (I 0) ((U 0) :: rp 4 (I 0) ((U 0) :: rp 4 (I 0) ((U 0) :: rp 4 (I 0) ((U 0) :: rp 4 (I 0) ((U 0) :: rp 4 (I 0) ((U 0) :: rp 4 (I 0) ((U 0) :: rp 4 (I 0) ((U 0) :: rp 4 (I 0) ((U 0) :: rp 4 (I 0) ((U 0) :: rp 4 (I 0) ((U 0) :: rp 4 (I 0) ((U 0) :: rp 4 (I 0) ((U 0) :: rp 4 (I 0) ((U 0) :: rp 4 (I 0) ((U 0) :: rp 4 (I 0) ([U 0]))))))))))))))))) ([])) false),
  (102, .cells 31 (rp 6 ((bF) :: rp 4 (I 0) ((U 0) :: rp 4 (I 0) ((U 0) :: rp 4 (I 0) ((U 0) :: rp 4 (I 0) ((U 0) :: rp 4 (I 0) ((U 0) :: rp 4 (I 0) ([U 0]))))))) ([])) false),
  (70, .cells 1 ([[.snil]]) false),
  (90, .cells 1 ([[.ptr 67 0], [.ptr 70 0], [.ptr 73 0], [.ptr 76 0], [.ptr 79 0], [.ptr 82 0], [.ptr 85 0], [.ptr 88 0]]) false),
  (58, .cells 32 (rp 24 (rp 32 (U 0) ([])) ([])) false),
  (82, .cells 1 ([[.snil]]) false),
  (98, .map [] 0),
  (66, .cells 3 ([[.ptr 64 0, .slice 65 0 8 8 107 true, .slice 90 0 8 8 1 false]]) false),
  (92, .cells 1 ([[.slice 91 0 12 12 3 true]]) false),
  (60, .cells 2 ([[.ptr 55 0, .ptr 59 0]]) false),
  (76, .cells 1 ([[.snil]]) false),
  (52, .cells 3 (rp 16 ([bF, I 0, bF]) ([])) false),
  (100, .cells 3 (rp 6 ([bF, I 0, bF]) ([])) false),
  (88, .cells 1 ([[.snil]]) false),
  (56, .cells 3 (rp 24 ([bF, I 0, bF]) ([])) false),
  (104, .cells 1 ([[.snil]]) false),
  (96, .cells 1 ([[.slice 95 0 8 8 3 true]]) false),
  (64, .cells 1 ([[.slice 63 0 8 8 3 true]]) false),
  (93, .cells 2 (rp 12 ([I 0, I 0]) ([])) false),
  (61, .cells 3 ([[I 16, .snil, I 0]]) false),
  (85, .cells 1 ([[.snil]]) false),
  (53, .cells 1 ([[.slice 52 0 16 16 3 true]]) false),
  (101, .cells 1 ([[.slice 100 0 6 6 3 true]]) false),
  (57, .cells 1 ([[.slice 56 0 24 24 3 true]]) false),
  (105, .cells 9 ([[.ptr 62 0, .ptr 66 0, .ptr 94 0, .ptr 99 0, .ptr 103 0, .ptr 104 0, .snil, .snil, I 0]]) false),
  (73, .cells 1 ([[.snil]]) false),
  (97, .cells 3 (rp 8 ([I 0, I 0, I 0]) ([])) false),
  (65, .cells 107 (rp 8 (rp 9 (U 0) (rp 6 (I 0) ((U 0) :: rp 4 (I 0) ((U 0) :: rp 4 (I 0) ((U 0) :: rp 4 (I 0) ((U 0) :: rp 4 (I 0) ((U 0) :: rp 4 (I 0) ((U 0) :: rp 4 (I 0) ((U 0) :: rp 4 (I 0) ((U 0) :: rp 4 (I 0) ((U 0) :: rp 4 (I 0) ((U 0) :: rp 4 (I 0) ((U 0) :: rp 4 (I 0) ((U 0) :: rp 4 (I 0) ((U 0) :: rp 4 (I 0) ((U 0) :: rp 4 (I 0) ((U 0) :: rp 4 (I 0) ((U 0) :: rp 4 (I 0) ((U 0) :: rp 4 (I 0) ((U 0) :: rp 4 (I 0) ([U 0, I 0]))))))))))))))))))))) ([])) false),
  (91, .cells 3 (rp 12 ([bF, I 0, bF]) ([])) false),
  (59, .cells 2 ([[.ptr 57 0, .slice 58 0 24 24 32 true]]) false),
  (99, .cells 5 ([[.ptr 96 0, .slice 97 0 8 8 3 true, .map 98, .ptr 62 0, .ptr 66 0]]) false),
  (67, .cells 1 ([[.snil]]) false),
  (55, .cells 2 ([[.ptr 53 0, .slice 54 0 16 16 80 true]]) false),
  (103, .cells 2 ([[.ptr 101 0, .slice 102 0 6 6 31 true]]) false),
  (79, .cells 1 ([[.snil]]) false),
  (95, .cells 3 (rp 8 ([bF, I 0, bF]) ([])) false),
  (63, .cells 3 (rp 8 ([bF, I 0, bF]) ([])) false)] []
noncomputable def m14 : Memo := ⟨[.agg [I 16, I 24, I 8, I 12, I 8, I 6]], h7, .tuple [.ptr 105 0, .inil], h8⟩
theorem m14_run : ranTo (evCall (cxX Tryd.prog bad [] [] []) 1000 60 6 m14.args m14.h) m14.v m14.h' = true := by kernel_rfl
theorem m14_ok {σ : Nat → Int} {W0 : World} (hL : L0 W0) : MemoOk Tryd.prog 95 σ W0 6 m14 := memo_ok fit (Known2.nil σ) (FnsOk.nil) m14_run
noncomputable def s2 : Sym := ⟨[.ptr 18 0, .agg [.slice 19 0 1 1 1 true, I 10, .slice 20 0 2 2 1 false, bT]], h6, [18, 21, 24, 27, 39, 40, 53, 56, 57, 23, 32, 35, 50, 55, 22, 29, 36, 41, 58, 33, 34, 54, 19, 30, 51, 14, 6, 12, 16, 4, 2, 13, 17, 15, 3, 1, 0], [(0, 4294967295), (0, 1099511627775), (0, 1099511627775), (0, 1099511627775), (0, 1099511627775), (0, 1099511627775), (0, 1099511627775), (0, 1099511627775), (0, 1099511627775), (0, 1099511627775), (0, 4294967295), (0, 1099511627775), (0, 1099511627775), (0, 1099511627775), (0, 1099511627775), (0, 1099511627775), (0, 1099511627775), (0, 1099511627775), (0, 1099511627775), (0, 1099511627775), (0, 1099511627775), (0, 1099511627775), (0, 1099511627775), (0, 4294967295), (0, 1099511627775), (0, 1099511627775), (0, 1099511627775), (0, 1099511627775), (0, 1099511627775), (0, 1099511627775), (0, 1099511627775), (0, 1099511627775), (0, 1099511627775), (0, 1099511627775), (0, 1099511627775), (0, 1099511627775), (0, 4294967295), (0, 1099511627775), (0, 1099511627775), (0, 1099511627775), (0, 1099511627775), (0, 1099511627775), (0, 1099511627775), (0, 1099511627775), (0, 1099511627775), (0, 1099511627775), (0, 1099511627775), (0, 1099511627775), (0, 1099511627775), (0, 4294967295), (0, 1099511627775), (0, 1099511627775), (0, 1099511627775), (0, 1099511627775), (0, 1099511627775), (0, 1099511627775), (0, 1099511627775), (0, 1099511627775), (0, 1099511627775), (0, 1099511627775), (0, 1099511627775), (0, 1099511627775), (0, 1099511627775), (0, 1099511627775), (0, 1099511627775), (0, 1099511627775), (0, 1099511627775), (0, 1099511627775), (0, 1099511627775), (0, 1099511627775), (0, 1099511627775), (0, 1099511627775)],
  [(false, .sub (.lit 60) (.var 56), .lit 1, false), (false, .sub (.lit 60) (.add (.var 56) (.lit 1)), .lit 1, false), (false, .sub (.lit 60) (.add (.var 56) (.lit 2)), .lit 1, false), (false, .sub (.lit 60) (.add (.var 56) (.lit 3)), .lit 1, false)],
  .tuple [I 0, .inil],
  [.cel 30 0 9 (I 1),
  .cel 30 0 11 (I 8),
  .cel 30 0 16 (I 7),
  .cel 30 0 17 (I 1),
  .cel 30 0 21 (I 11),
  .cel 30 0 26 (I 12),
  .cel 30 0 31 (I 13),
  .cel 30 0 36 (I 14),
  .cel 30 0 91 (I 2),
  .cel 30 0 95 (U 1),
  .cel 30 0 96 (I 7),
  .cel 30 0 97 (I 1),
  .row 33 1 ([I 0, I 10]),
  .row 35 0 ([IZ (-1), I 60, .int .i64 (.add (.var 56) (.lit 4))]),
  .set 36 (.map [(.agg [I 3, I 0], .agg [I 0, I 0], 0), (.agg [I 3, I 1], .agg [I 0, I 0], 1), (.agg [I 2, I 0], .agg [I 0, I 0], 2), (.agg [I 4, I 0], .agg [I 0, I 0], 3)] 4),
  .row 41 0 ([bT, I 0, bF]),
  .row 50 1 ([bT, I 0, bF]),
  .cel 54 0 0 (I 3),
  .cel 54 0 5 (I 3),
  .cel 54 0 6 (I 1),
  .cel 56 0 0 (.int .u32 (.var 0)),
  .row 57 0 ([bT, I 0, bF]),
  .row 58 0 ([bT, I 0, bF]),
  .row 58 1 ([bT, I 0, bF])], 534⟩
theorem s2_run : ranTo (evCall (cxX Tryd.prog bad s2.rng s2.facts [(65, pureFn l0)]) 1000 60 47 s2.args s2.pre) s2.v s2.post = true := by kernel_rfl
theorem s2_ok {W0 : World} (hL : L0 W0) : SymOk Tryd.prog 95 W0 47 s2 := sym_ok fit (fun σ hk => FnsOk.cons (pure_fn_ok (l0_ok hL)) (FnsOk.nil)) s2_run (by kernel_rfl)
noncomputable def y7 : List Sym := [s0, s1, s2]
theorem y7_ok {W0 : World} (hL : L0 W0) : ∀ x ∈ y7, SymOk Tryd.prog 95 W0 47 x := all_cons (s0_ok hL) (all_cons (s1_ok hL) (all_cons (s2_ok hL) (all_nil)))
noncomputable def q8 : Fns := [(10, pureFn [p0]), (6, frameFn [m14])]
theorem q8_ok {σ : Nat → Int} {W0 : World} (hL : L0 W0) : FnsOk Tryd.prog 95 σ W0 q8 := FnsOk.cons (pure_fn_ok (all_cons (p0_ok hL) (all_nil))) (FnsOk.cons (frame_fn_ok (all_cons (m14_ok hL) (all_nil))) (FnsOk.nil))
theorem case3 : CaseR (rowH (sentH 225 12 errTab) [.int .i64 (.var 8), .int .i64 (.var 9)]) [((-9223372036854775808), 9223372036854775807), (0, 4294967295), (0, 0), (0, 0), (0, 0), (0, 0), (0, 0), (0, 0), ((-9223372036854775808), 9223372036854775807), ((-9223372036854775808), 9223372036854775807)] [] [(0, 5, .lit 0), (8, 1, .var 2), (9, 1, .var 3)] [.int .i64 (.var 0), .slice 18 0 2 2 1 false, .int .u32 (.var 1)] := caseR (fun hL hk hT => FnsOk.cons (hT.ok fit) (FnsOk.cons (sym_fn_ok (Γ := cxX Tryd.prog bad [((-9223372036854775808), 9223372036854775807), (0, 4294967295), (0, 0), (0, 0), (0, 0), (0, 0), (0, 0), (0, 0), ((-9223372036854775808), 9223372036854775807), ((-9223372036854775808), 9223372036854775807)] [] []) (fix := 18) ⟨hk.rng, hk.facts⟩ (by decide) (y7_ok hL)) (FnsOk.cons (pure_fn_ok (l4_ok hL)) ((q8_ok hL))))) (by kernel_rfl : isTrue (evCall (cxX Tryd.prog bad [((-9223372036854775808), 9223372036854775807), (0, 4294967295), (0, 0), (0, 0), (0, 0), (0, 0), (0, 0), (0, 0), ((-9223372036854775808), 9223372036854775807), ((-9223372036854775808), 9223372036854775807)] [] ((11, numExtE [(0, 5, .lit 0), (8, 1, .var 2), (9, 1, .var 3)]) :: (47, symFn (cxX Tryd.prog bad [((-9223372036854775808), 9223372036854775807), (0, 4294967295), (0, 0), (0, 0), (0, 0), (0, 0), (0, 0), (0, 0), ((-9223372036854775808), 9223372036854775807), ((-9223372036854775808), 9223372036854775807)] [] []) 18 y7) :: (65, pureFn l4) :: q8)) 1000 60 4 [.int .i64 (.var 0), .slice 18 0 2 2 1 false, .int .u32 (.var 1)] (rowH (sentH 225 12 errTab) [.int .i64 (.var 8), .int .i64 (.var 9)])) = true)
noncomputable def h9 : H := hUpd h4 64 [] [] [(18, 0, [.int .i64 (.var 8), .int .i64 (.var 9), .int .i64 (.var 10)])]
noncomputable def h10 : H := hUpd h9 119 [] [(110, .cells 3 (rp 8 ([I 0, I 0, I 0]) ([])) false),
  (78, .cells 107 (rp 8 (rp 9 (U 0) (rp 6 (I 0) ((U 0) :: rp 4 (I 0) ((U 0) :: rp 4 (I 0) ((U 0) :: rp 4 (I 0) ((U 0) :: rp 4 (I 0) ((U 0) :: rp 4 (I 0) ((U 0) :: rp 4 (I 0) ((U 0) :: rp 4 (I 0) ((U 0) :: rp 4 (I 0) ((U 0) :: rp 4 (I 0) ((U 0) :: rp 4 (I 0) ((U 0) :: rp 4 (I 0) ((U 0) :: rp 4 (I 0) ((U 0) :: rp 4 (I 0) ((U 0) :: rp 4 (I 0) ((U 0) :: rp 4 (I 0) ((U 0) :: rp 4 (I 0) ((U 0) :: rp 4 (I 0) ((U 0) :: rp 4 (I 0) ([U 0, I 0]))))))))))))))))))))) ([])) false),
  (118, .cells 9 ([[.ptr 75 0, .ptr 79 0, .ptr 107 0, .ptr 112 0, .ptr 116 0, .ptr 117 0, .snil, .snil, I 0]]) false),
  (86, .cells 1 ([[.snil]]) false),
  (70, .cells 1 ([[.slice 69 0 24 24 3 true]]) false),
  (106, .cells 2 (rp 12 ([I 0, I 0]) ([])) false),
  (74, .cells 3 ([[I 16, .snil, I 0]]) false),
  (114, .cells 1 ([[.slice 113 0 6 6 3 true]]) false),
  (98, .cells 1 ([[.snil]]) false),
  (66, .cells 1 ([[.slice 65 0 16 16 3 true]]) false),
  (92, .cells 1 ([[.snil]]) false),
  (108, .cells 3 (rp 8 ([bF, I 0, bF]) ([])) false),
  (76, .cells 3 (rp 8 ([bF, I 0, bF]) ([])) false),
  (116, .cells 2 ([[.ptr 114 0, .slice 115 0 6 6 31 true]]) false),
  (68, .cells 2 ([[.ptr 66 0, .slice 67 0 16 16 80 true]]) false),
  (104, .cells 3 (rp 12 ([bF, I 0, bF]) ([])) false),
  (72, .cells 2 ([[.ptr 70 0, .slice 71 0 24 24 32 true]]) false),
  (112, .cells 5 ([[.ptr 109 0, .slice 110 0 8 8 3 true, .map 111, .ptr 75 0, .ptr 79 0]]) false),
  (80, .cells 1 ([[.snil]]) false),
  (109, .cells 1 ([[.slice 108 0 8 8 3 true]]) false),
  (77, .cells 1 ([[.slice 76 0 8 8 3 true]]) false),
  (117, .cells 1 ([[.snil]]) false),
  (101, .cells 1 ([[.snil]]) false),
  (69, .cells 3 (rp 24 ([bF, I 0, bF]) ([])) false),
  (89, .cells 1 ([[.snil]]) false),
  (105, .cells 1 ([[.slice 104 0 12 12 3 true]]) false),
  (73, .cells 2 ([[.ptr 68 0, .ptr 72 0]]) false),
  (113, .cells 3 (rp 6 ([bF, I 0, bF]) ([])) false),
  (65, .cells 3 (rp 16 ([bF, I 0, bF]) ([])) false),
  (107, .cells 2 ([[.ptr 105 0, .slice 106 0 12 12 2 true]]) false),
  (75, .cells 3 ([[.ptr 73 0, I 16, .ptr 74 0]]) false),
  (115, .cells 31 (rp 6 ((bF) :: rp 4 (I 0) ((U 0) :: rp 4 (I 0) ((U 0) :: rp 4 (I 0) ((U 0) :: rp 4 (I 0) ((U 0) :: rp 4 (I 0) ((U 0) :: rp 4 (I 0) ([U 0]))))))) ([])) false),
  (83, .cells 1 ([[.snil]]) false),
  (67, .cells 80 (rp 16 (rp 4 (I 0) ((U 0) :: rp 4 (I 0) ((U 0) :: rp 4 (I 0) ((U 0) :: rp 4 (I 0) ((U 0) :: rp 4 (I 0) ((U 0) :: rp 4 (I 0) ((U 0) :: rp 4 (I 0) ((U 0) :: rp 4 (I 0) ((U 0) :: rp 4 (I 0) ((U 0) :: rp 4 (I 0) ((U 0) :: rp 4 (I 0) ((U 0) :: rp 4 (I 0) ((U 0) :: rp 4 (I 0) ((U 0) :: rp 4 (I 0) ((U 0) :: rp 4 (I 0) ((U 0) :: rp 4 (I 0) ([U 0]))))))))))))))))) ([])) false),
  (103, .cells 1 ([[.ptr 80 0], [.ptr 83 0], [.ptr 86 0], [.ptr 89 0], [.ptr 92 0], [.ptr 95 0], [.ptr 98 0], [.ptr 101 0]]) false),
  (71, .cells 32 (rp 24 (rp 32 (U 0) ([])) ([])) false),
  (111, .map [] 0),
  (79, .cells 3 ([[.ptr 77 0, .slice 78 0 8 8 107 true, .slice 103 0 8 8 1 false]]) false),
  (95, .cells 1 ([[.snil]]) false)] []
noncomputable def m15 : Memo := ⟨[.agg [I 16, I 24, I 8, I 12, I 8, I 6]], h9, .tuple [.ptr 118 0, .inil], h10⟩
theorem m15_run : ranTo (evCall (cxX Tryd.prog bad [] [] []) 1000 60 6 m15.args m15.h) m15.v m15.h' = true := by kernel_rfl
theorem m15_ok {σ : Nat → Int} {W0 : World} (hL : L0 W0) : MemoOk Tryd.prog 95 σ W0 6 m15 := memo_ok fit (Known2.nil σ) (FnsOk.nil) m15_run
noncomputable def s3 : Sym := ⟨[.ptr 18 0, .agg [.slice 19 0 1 1 1 true, I 10, .slice 20 0 3 3 1 false, bT]], h6, [18, 21, 24, 27, 39, 40, 53, 56, 57, 23, 32, 35, 50, 55, 22, 29, 36, 41, 58, 33, 34, 54, 19, 30, 51, 14, 6, 12, 16, 4, 2, 13, 17, 15, 3, 1, 0], [(0, 4294967295), (0, 1099511627775), (0, 1099511627775), (0, 1099511627775), (0, 1099511627775), (0, 1099511627775), (0, 1099511627775), (0, 1099511627775), (0, 1099511627775), (0, 1099511627775), (0, 4294967295), (0, 1099511627775), (0, 1099511627775), (0, 1099511627775), (0, 1099511627775), (0, 1099511627775), (0, 1099511627775), (0, 1099511627775), (0, 1099511627775), (0, 1099511627775), (0, 1099511627775), (0, 1099511627775), (0, 1099511627775), (0, 4294967295), (0, 1099511627775), (0, 1099511627775), (0, 1099511627775), (0, 1099511627775), (0, 1099511627775), (0, 1099511627775), (0, 1099511627775), (0, 1099511627775), (0, 1099511627775), (0, 1099511627775), (0, 1099511627775), (0, 1099511627775), (0, 4294967295), (0, 1099511627775), (0, 1099511627775), (0, 1099511627775), (0, 1099511627775), (0, 1099511627775), (0, 1099511627775), (0, 1099511627775), (0, 1099511627775), (0, 1099511627775), (0, 1099511627775), (0, 1099511627775), (0, 1099511627775), (0, 4294967295), (0, 1099511627775), (0, 1099511627775), (0, 1099511627775), (0, 1099511627775), (0, 1099511627775), (0, 1099511627775), (0, 1099511627775), (0, 1099511627775), (0, 1099511627775), (0, 1099511627775), (0, 1099511627775), (0, 1099511627775), (0, 1099511627775), (0, 1099511627775), (0, 1099511627775), (0, 1099511627775), (0, 1099511627775), (0, 1099511627775), (0, 1099511627775), (0, 1099511627775), (0, 1099511627775), (0, 1099511627775)],
  [(false, .sub (.lit 60) (.var 56), .lit 1, false), (false, .sub (.lit 60) (.add (.var 56) (.lit 1)), .lit 1, false), (false, .sub (.lit 60) (.add (.var 56) (.lit 2)), .lit 1, false), (false, .sub (.lit 60) (.add (.var 56) (.lit 3)), .lit 1, false)],
  .tuple [I 0, .inil],
  [.cel 30 0 9 (I 1),
  .cel 30 0 11 (I 8),
  .cel 30 0 16 (I 7),
  .cel 30 0 17 (I 1),
  .cel 30 0 21 (I 11),
  .cel 30 0 26 (I 12),
  .cel 30 0 31 (I 13),
  .cel 30 0 36 (I 14),
  .cel 30 0 91 (I 2),
  .cel 30 0 95 (U 1),
  .cel 30 0 96 (I 7),
  .cel 30 0 97 (I 1),
  .row 33 1 ([I 0, I 10]),
  .row 35 0 ([IZ (-1), I 60, .int .i64 (.add (.var 56) (.lit 4))]),
  .set 36 (.map [(.agg [I 3, I 0], .agg [I 0, I 0], 0), (.agg [I 3, I 1], .agg [I 0, I 0], 1), (.agg [I 2, I 0], .agg [I 0, I 0], 2), (.agg [I 4, I 0], .agg [I 0, I 0], 3)] 4),
  .row 41 0 ([bT, I 0, bF]),
  .row 50 1 ([bT, I 0, bF]),
  .cel 54 0 0 (I 3),
  .cel 54 0 5 (I 3),
  .cel 54 0 6 (I 1),
  .cel 56 0 0 (.int .u32 (.var 0)),
  .row 57 0 ([bT, I 0, bF]),
  .row 58 0 ([bT, I 0, bF]),
  .row 58 1 ([bT, I 0, bF])], 534⟩
theorem s3_run : ranTo (evCall (cxX Tryd.prog bad s3.rng s3.facts [(65, pureFn l0)]) 1000 60 47 s3.args s3.pre) s3.v s3.post = true := by kernel_rfl
theorem s3_ok {W0 : World} (hL : L0 W0) : SymOk Tryd.prog 95 W0 47 s3 := sym_ok fit (fun σ hk => FnsOk.cons (pure_fn_ok (l0_ok hL)) (FnsOk.nil)) s3_run (by kernel_rfl)
noncomputable def y9 : List Sym := [s0, s1, s2, s3]
theorem y9_ok {W0 : World} (hL : L0 W0) : ∀ x ∈ y9, SymOk Tryd.prog 95 W0 47 x := all_cons (s0_ok hL) (all_cons (s1_ok hL) (all_cons (s2_ok hL) (all_cons (s3_ok hL) (all_nil))))
noncomputable def q10 : Fns := [(10, pureFn [p0]), (6, frameFn [m15])]
theorem q10_ok {σ : Nat → Int} {W0 : World} (hL : L0 W0) : FnsOk Tryd.prog 95 σ W0 q10 := FnsOk.cons (pure_fn_ok (all_cons (p0_ok hL) (all_nil))) (FnsOk.cons (frame_fn_ok (all_cons (m15_ok hL) (all_nil))) (FnsOk.nil))
theorem case4 : CaseR (rowH (sentH 225 12 errTab) [.int .i64 (.var 8), .int .i64 (.var 9), .int .i64 (.var 10)]) [((-9223372036854775808), 9223372036854775807), (0, 4294967295), (0, 0), (0, 0), (0, 0), (0, 0), (0, 0), (0, 0), ((-9223372036854775808), 9223372036854775807), ((-9223372036854775808), 9223372036854775807), ((-9223372036854775808), 9223372036854775807)] [] [(0, 5, .lit 0), (8, 1, .var 2), (9, 1, .var 3), (10, 1, .var 4)] [.int .i64 (.var 0), .slice 18 0 3 3 1 false, .int .u32 (.var 1)] := caseR (fun hL hk hT => FnsOk.cons (hT.ok fit) (FnsOk.cons (sym_fn_ok (Γ := cxX Tryd.prog bad [((-9223372036854775808), 9223372036854775807), (0, 4294967295), (0, 0), (0, 0), (0, 0), (0, 0), (0, 0), (0, 0), ((-9223372036854775808), 9223372036854775807), ((-9223372036854775808), 9223372036854775807), ((-9223372036854775808), 9223372036854775807)] [] []) (fix := 18) ⟨hk.rng, hk.facts⟩ (by decide) (y9_ok hL)) (FnsOk.cons (pure_fn_ok (l4_ok hL)) ((q10_ok hL))))) (by kernel_rfl : isTrue (evCall (cxX Tryd.prog bad [((-9223372036854775808), 9223372036854775807), (0, 4294967295), (0, 0), (0, 0), (0, 0), (0, 0), (0, 0), (0, 0), ((-9223372036854775808), 9223372036854775807), ((-9223372036854775808), 9223372036854775807), ((-9223372036854775808), 9223372036854775807)] [] ((11, numExtE [(0, 5, .lit 0), (8, 1, .var 2), (9, 1, .var 3), (10, 1, .var 4)]) :: (47, symFn (cxX Tryd.prog bad [((-9223372036854775808), 9223372036854775807), (0, 4294967295), (0, 0), (0, 0), (0, 0), (0, 0), (0, 0), (0, 0), ((-9223372036854775808), 9223372036854775807), ((-9223372036854775808), 9223372036854775807), ((-9223372036854775808), 9223372036854775807)] [] []) 18 y9) :: (65, pureFn l4) :: q10)) 1000 60 4 [.int .i64 (.var 0), .slice 18 0 3 3 1 false, .int .u32 (.var 1)] (rowH (sentH 225 12 errTab) [.int .i64 (.var 8), .int .i64 (.var 9), .int .i64 (.var 10)])) = true)
noncomputable def h11 : H := hUpd h4 77 [] [] [(18, 0, [.int .i64 (.var 8), .int .i64 (.var 9), .int .i64 (.var 10), .int .i64 (.var 11)])]
noncomputable def h12 : H := hUpd h11 132 [] [(126, .cells 3 (rp 6 ([bF, I 0, bF]) ([])) false),
  (78, .cells 3 (rp 16 ([bF, I 0, bF]) ([])) false),
  (118, .cells 1 ([[.slice 117 0 12 12 3 true]]) false),
  (86, .cells 2 ([[.ptr 81 0, .ptr 85 0]]) false),
  (102, .cells 1 ([[.snil]]) false),
  (122, .cells 1 ([[.slice 121 0 8 8 3 true]]) false),
  (90, .cells 1 ([[.slice 89 0 8 8 3 true]]) false),
  (114, .cells 1 ([[.snil]]) false),
  (82, .cells 3 (rp 24 ([bF, I 0, bF]) ([])) false),
  (130, .cells 1 ([[.snil]]) false),
  (124, .map [] 0),
  (92, .cells 3 ([[.ptr 90 0, .slice 91 0 8 8 107 true, .slice 116 0 8 8 1 false]]) false),
  (108, .cells 1 ([[.snil]]) false),
  (116, .cells 1 ([[.ptr 93 0], [.ptr 96 0], [.ptr 99 0], [.ptr 102 0], [.ptr 105 0], [.ptr 108 0], [.ptr 111 0], [.ptr 114 0]]) false),
  (84, .cells 32 (rp 24 (rp 32 (U 0) ([])) ([])) false),
  (120, .cells 2 ([[.ptr 118 0, .slice 119 0 12 12 2 true]]) false),
  (88, .cells 3 ([[.ptr 86 0, I 16, .ptr 87 0]]) false),
  (80, .cells 80 (rp 16 (rp 4 (I 0) ((U 0) :: rp 4 (I 0) ((U 0) :: rp 4 (I 0) ((U 0) :: rp 4 (I 0) ((U 0) :: rp 4 (I 0) ((U 0) :: rp 4 (I 0) ((U 0) :: rp 4 (I 0) ((U 0) :: rp 4 (I 0) ((U 0) :: rp 4 (I 0) ((U 0) :: rp 4 (I 0) ((U 0) :: rp 4 (I 0) ((U 0) :: rp 4 (I 0) ((U 0) :: rp 4 (I 0) ((U 0) :: rp 4 (I 0) ((U 0) :: rp 4 (I 0) ((U 0) :: rp 4 (I 0) ([U 0]))))))))))))))))) ([])) false),
  (96, .cells 1 ([[.snil]]) false),
  (128, .cells 31 (rp 6 ((bF) :: rp 4 (I 0) ((U 0) :: rp 4 (I 0) ((U 0) :: rp 4 (I 0) ((U 0) :: rp 4 (I 0) ((U 0) :: rp 4 (I 0) ((U 0) :: rp 4 (I 0) ([U 0]))))))) ([])) false),
  (125, .cells 5 ([[.ptr 122 0, .slice 123 0 8 8 3 true, .map 124, .ptr 88 0, .ptr 92 0]]) false),
  (93, .cells 1 ([[.snil]]) false),
  (117, .cells 3 (rp 12 ([bF, I 0, bF]) ([])) false),
  (85, .cells 2 ([[.ptr 83 0, .slice 84 0 24 24 32 true]]) false),
  (121, .cells 3 (rp 8 ([bF, I 0, bF]) ([])) false),
  (89, .cells 3 (rp 8 ([bF, I 0, bF]) ([])) false),
  (105, .cells 1 ([[.snil]]) false),
  (81, .cells 2 ([[.ptr 79 0, .slice 80 0 16 16 80 true]]) false),
  (129, .cells 2 ([[.ptr 127 0, .slice 128 0 6 6 31 true]]) false),
  (123, .cells 3 (rp 8 ([I 0, I 0, I 0]) ([])) false),
  (91, .cells 107 (rp 8 (rp 9 (U 0) (rp 6 (I 0) ((U 0) :: rp 4 (I 0) ((U 0) :: rp 4 (I 0) ((U 0) :: rp 4 (I 0) ((U 0) :: rp 4 (I 0) ((U 0) :: rp 4 (I 0) ((U 0) :: rp 4 (I 0) ((U 0) :: rp 4 (I 0) ((U 0) :: rp 4 (I 0) ((U 0) :: rp 4 (I 0) ((U 0) :: rp 4 (I 0) ((U 0) :: rp 4 (I 0) ((U 0) :: rp 4 (I 0) ((U 0) :: rp 4 (I 0) ((U 0) :: rp 4 (I 0) ((U 0) :: rp 4 (I 0) ((U 0) :: rp 4 (I 0) ((U 0) :: rp 4 (I 0) ((U 0) :: rp 4 (I 0) ([U 0, I 0]))))))))))))))))))))) ([])) false),
  (83, .cells 1 ([[.slice 82 0 24 24 3 true]]) false),
  (99, .cells 1 ([[.snil]]) false),
  (131, .cells 9 ([[.ptr 88 0, .ptr 92 0, .ptr 120 0, .ptr 125 0, .ptr 129 0, .ptr 130 0, .snil, .snil, I 0]]) false),
  (119, .cells 2 (rp 12 ([I 0, I 0]) ([])) false),
  (87, .cells 3 ([[I 16, .snil, I 0]]) false),
  (111, .cells 1 ([[.snil]]) false),
  (79, .cells 1 ([[.slice 78 0 16 16 3 true]]) false),
  (127, .cells 1 ([[.slice 126 0 6 6 3 true]]) false)] []
noncomputable def m16 : Memo := ⟨[.agg [I 16, I 24, I 8, I 12, I 8, I 6]], h11, .tuple [.ptr 131 0, .inil], h12⟩
theorem m16_run : ranTo (evCall (cxX Tryd.prog bad [] [] []) 1000 60 6 m16.args m16.h) m16.v m16.h' = true := by kernel_rfl
theorem m16_ok {σ : Nat → Int} {W0 : World} (hL : L0 W0) : MemoOk Tryd.prog 95 σ W0 6 m16 := memo_ok fit (Known2.nil σ) (FnsOk.nil) m16_run
noncomputable def s4 : Sym := ⟨[.ptr 18 0, .agg [.slice 19 0 1 1 1 true, I 10, .slice 20 0 4 4 1 false, bT]], h6, [18, 21, 24, 27, 39, 40, 53, 56, 57, 23, 32, 35, 50, 55, 22, 29, 36, 41, 58, 33, 34, 54, 19, 30, 51, 14, 6, 12, 16, 4, 2, 13, 17, 15, 3, 1, 0], [(0, 4294967295), (0, 1099511627775), (0, 1099511627775), (0, 1099511627775), (0, 1099511627775), (0, 1099511627775), (0, 1099511627775), (0, 1099511627775), (0, 1099511627775), (0, 1099511627775), (0, 4294967295), (0, 1099511627775), (0, 1099511627775), (0, 1099511627775), (0, 1099511627775), (0, 1099511627775), (0, 1099511627775), (0, 1099511627775), (0, 1099511627775), (0, 1099511627775), (0, 1099511627775), (0, 1099511627775), (0, 1099511627775), (0, 4294967295), (0, 1099511627775), (0, 1099511627775), (0, 1099511627775), (0, 1099511627775), (0, 1099511627775), (0, 1099511627775), (0, 1099511627775), (0, 1099511627775), (0, 1099511627775), (0, 1099511627775), (0, 1099511627775), (0, 1099511627775), (0, 4294967295), (0, 1099511627775), (0, 1099511627775), (0, 1099511627775), (0, 1099511627775), (0, 1099511627775), (0, 1099511627775), (0, 1099511627775), (0, 1099511627775), (0, 1099511627775), (0, 1099511627775), (0, 1099511627775), (0, 1099511627775), (0, 4294967295), (0, 1099511627775), (0, 1099511627775), (0, 1099511627775), (0, 1099511627775), (0, 1099511627775), (0, 1099511627775), (0, 1099511627775), (0, 1099511627775), (0, 1099511627775), (0, 1099511627775), (0, 1099511627775), (0, 1099511627775), (0, 1099511627775), (0, 1099511627775), (0, 1099511627775), (0, 1099511627775), (0, 1099511627775), (0, 1099511627775), (0, 1099511627775), (0, 1099511627775), (0, 1099511627775), (0, 1099511627775)],
  [(false, .sub (.lit 60) (.var 56), .lit 1, false), (false, .sub (.lit 60) (.add (.var 56) (.lit 1)), .lit 1, false), (false, .sub (.lit 60) (.add (.var 56) (.lit 2)), .lit 1, false), (false, .sub (.lit 60) (.add (.var 56) (.lit 3)), .lit 1, false)],
  .tuple [I 0, .inil],
  [.cel 30 0 9 (I 1),
  .cel 30 0 11 (I 8),
  .cel 30 0 16 (I 7),
  .cel 30 0 17 (I 1),
  .cel 30 0 21 (I 11),
  .cel 30 0 26 (I 12),
  .cel 30 0 31 (I 13),
  .cel 30 0 36 (I 14),
  .cel 30 0 91 (I 2),
  .cel 30 0 95 (U 1),
  .cel 30 0 96 (I 7),
  .cel 30 0 97 (I 1),
  .row 33 1 ([I 0, I 10]),
  .row 35 0 ([IZ (-1), I 60, .int .i64 (.add (.var 56) (.lit 4))]),
  .set 36 (.map [(.agg [I 3, I 0], .agg [I 0, I 0], 0), (.agg [I 3, I 1], .agg [I 0, I 0], 1), (.agg [I 2, I 0], .agg [I 0, I 0], 2), (.agg [I 4, I 0], .agg [I 0, I 0], 3)] 4),
  .row 41 0 ([bT, I 0, bF]),
  .row 50 1 ([bT, I 0, bF]),
  .cel 54 0 0 (I 3),
  .cel 54 0 5 (I 3),
  .cel 54 0 6 (I 1),
  .cel 56 0 0 (.int .u32 (.var 0)),
  .row 57 0 ([bT, I 0, bF]),
  .row 58 0 ([bT, I 0, bF]),
  .row 58 1 ([bT, I 0, bF])], 534⟩
theorem s4_run : ranTo (evCall (cxX Tryd.prog bad s4.rng s4.facts [(65, pureFn l0)]) 1000 60 47 s4.args s4.pre) s4.v s4.post = true := by kernel_rfl
theorem s4_ok {W0 : World} (hL : L0 W0) : SymOk Tryd.prog 95 W0 47 s4 := sym_ok fit (fun σ hk => FnsOk.cons (pure_fn_ok (l0_ok hL)) (FnsOk.nil)) s4_run (by kernel_rfl)
noncomputable def y11 : List Sym := [s0, s1, s2, s3, s4]
theorem y11_ok {W0 : World} (hL : L0 W0) : ∀ x ∈ y11, SymOk Tryd.prog 95 W0 47 x := all_cons (s0_ok hL) (all_cons (s1_ok hL) (all_cons (s2_ok hL) (all_cons (s3_ok hL) (all_cons (s4_ok hL) (all_nil)))))
noncomputable def q12 : Fns := [(10, pureFn [p0]), (6, frameFn [m16])]
theorem q12_ok {σ : Nat → Int} {W0 : World} (hL : L0 W0) : FnsOk Tryd.prog 95 σ W0 q12 := FnsOk.cons (pure_fn_ok (all_cons (p0_ok hL) (all_nil))) (FnsOk.cons (frame_fn_ok (all_cons (m16_ok hL) (all_nil))) (FnsOk.nil))
theorem case5 : CaseR (rowH (sentH 225 12 errTab) [.int .i64 (.var 8), .int .i64 (.var 9), .int .i64 (.var 10), .int .i64 (.var 11)]) [((-9223372036854775808), 9223372036854775807), (0, 4294967295), (0, 0), (0, 0), (0, 0), (0, 0), (0, 0), (0, 0), ((-9223372036854775808), 9223372036854775807), ((-9223372036854775808), 9223372036854775807), ((-9223372036854775808), 9223372036854775807), ((-9223372036854775808), 9223372036854775807)] [] [(0, 5, .lit 0), (8, 1, .var 2), (9, 1, .var 3), (10, 1, .var 4), (11, 1, .var 5)] [.int .i64 (.var 0), .slice 18 0 4 4 1 false, .int .u32 (.var 1)] := caseR (fun hL hk hT => FnsOk.cons (hT.ok fit) (FnsOk.cons (sym_fn_ok (Γ := cxX Tryd.prog bad [((-9223372036854775808), 9223372036854775807), (0, 4294967295), (0, 0), (0, 0), (0, 0), (0, 0), (0, 0), (0, 0), ((-9223372036854775808), 9223372036854775807), ((-9223372036854775808), 9223372036854775807), ((-9223372036854775808), 9223372036854775807), ((-9223372036854775808), 9223372036854775807)] [] []) (fix := 18) ⟨hk.rng, hk.facts⟩ (by decide) (y11_ok hL)) (FnsOk.cons (pure_fn_ok (l4_ok hL)) ((q12_ok hL))))) (by kernel_rfl : isTrue (evCall (cxX Tryd.prog bad [((-9223372036854775808), 9223372036854775807), (0, 4294967295), (0, 0), (0, 0), (0, 0), (0, 0), (0, 0), (0, 0), ((-9223372036854775808), 9223372036854775807), ((-9223372036854775808), 9223372036854775807), ((-9223372036854775808), 9223372036854775807), ((-9223372036854775808), 9223372036854775807)] [] ((11, numExtE [(0, 5, .lit 0), (8, 1, .var 2), (9, 1, .var 3), (10, 1, .var 4), (11, 1, .var 5)]) :: (47, symFn (cxX Tryd.prog bad [((-9223372036854775808), 9223372036854775807), (0, 4294967295), (0, 0), (0, 0), (0, 0), (0, 0), (0, 0), (0, 0), ((-9223372036854775808), 9223372036854775807), ((-9223372036854775808), 9223372036854775807), ((-9223372036854775808), 9223372036854775807), ((-9223372036854775808), 9223372036854775807)] [] []) 18 y11) :: (65, pureFn l4) :: q12)) 1000 60 4 [.int .i64 (.var 0), .slice 18 0 4 4 1 false, .int .u32 (.var 1)] (rowH (sentH 225 12 errTab) [.int .i64 (.var 8), .int .i64 (.var 9), .int .i64 (.var 10), .int .i64 (.var 11)])) = true)
noncomputable def h13 : H := hUpd h4 90 [] [] [(18, 0, [.int .i64 (.var 8), .int .i64 (.var 9), .int .i64 (.var 10), .int .i64 (.var 11), .int .i64 (.var 12)])]
noncomputable def h14 : H := hUpd h13 145 [] [(94, .cells 2 ([[.ptr 92 0, .slice 93 0 16 16 80 true]]) false),
  (142, .cells 2 ([[.ptr 140 0, .slice 141 0 6 6 31 true]]) false),
  (118, .cells 1 ([[.snil]]) false),
  (102, .cells 3 (rp 8 ([bF, I 0, bF]) ([])) false),
  (134, .cells 3 (rp 8 ([bF, I 0, bF]) ([])) false),
  (106, .cells 1 ([[.snil]]) false),
  (138, .cells 5 ([[.ptr 135 0, .slice 136 0 8 8 3 true, .map 137, .ptr 101 0, .ptr 105 0]]) false),
  (98, .cells 2 ([[.ptr 96 0, .slice 97 0 24 24 32 true]]) false),
  (130, .cells 3 (rp 12 ([bF, I 0, bF]) ([])) false),
  (124, .cells 1 ([[.snil]]) false),
  (92, .cells 1 ([[.slice 91 0 16 16 3 true]]) false),
  (140, .cells 1 ([[.slice 139 0 6 6 3 true]]) false),
  (100, .cells 3 ([[I 16, .snil, I 0]]) false),
  (132, .cells 2 (rp 12 ([I 0, I 0]) ([])) false),
  (104, .cells 107 (rp 8 (rp 9 (U 0) (rp 6 (I 0) ((U 0) :: rp 4 (I 0) ((U 0) :: rp 4 (I 0) ((U 0) :: rp 4 (I 0) ((U 0) :: rp 4 (I 0) ((U 0) :: rp 4 (I 0) ((U 0) :: rp 4 (I 0) ((U 0) :: rp 4 (I 0) ((U 0) :: rp 4 (I 0) ((U 0) :: rp 4 (I 0) ((U 0) :: rp 4 (I 0) ((U 0) :: rp 4 (I 0) ((U 0) :: rp 4 (I 0) ((U 0) :: rp 4 (I 0) ((U 0) :: rp 4 (I 0) ((U 0) :: rp 4 (I 0) ((U 0) :: rp 4 (I 0) ((U 0) :: rp 4 (I 0) ((U 0) :: rp 4 (I 0) ([U 0, I 0]))))))))))))))))))))) ([])) false),
  (136, .cells 3 (rp 8 ([I 0, I 0, I 0]) ([])) false),
  (112, .cells 1 ([[.snil]]) false),
  (144, .cells 9 ([[.ptr 101 0, .ptr 105 0, .ptr 133 0, .ptr 138 0, .ptr 142 0, .ptr 143 0, .snil, .snil, I 0]]) false),
  (96, .cells 1 ([[.slice 95 0 24 24 3 true]]) false),
  (93, .cells 80 (rp 16 (rp 4 (I 0) ((U 0) :: rp 4 (I 0) ((U 0) :: rp 4 (I 0) ((U 0) :: rp 4 (I 0) ((U 0) :: rp 4 (I 0) ((U 0) :: rp 4 (I 0) ((U 0) :: rp 4 (I 0) ((U 0) :: rp 4 (I 0) ((U 0) :: rp 4 (I 0) ((U 0) :: rp 4 (I 0) ((U 0) :: rp 4 (I 0) ((U 0) :: rp 4 (I 0) ((U 0) :: rp 4 (I 0) ((U 0) :: rp 4 (I 0) ((U 0) :: rp 4 (I 0) ((U 0) :: rp 4 (I 0) ([U 0]))))))))))))))))) ([])) false),
  (109, .cells 1 ([[.snil]]) false),
  (141, .cells 31 (rp 6 ((bF) :: rp 4 (I 0) ((U 0) :: rp 4 (I 0) ((U 0) :: rp 4 (I 0) ((U 0) :: rp 4 (I 0) ((U 0) :: rp 4 (I 0) ((U 0) :: rp 4 (I 0) ([U 0]))))))) ([])) false),
  (101, .cells 3 ([[.ptr 99 0, I 16, .ptr 100 0]]) false),
  (133, .cells 2 ([[.ptr 131 0, .slice 132 0 12 12 2 true]]) false),
  (121, .cells 1 ([[.snil]]) false),
  (105, .cells 3 ([[.ptr 103 0, .slice 104 0 8 8 107 true, .slice 129 0 8 8 1 false]]) false),
  (137, .map [] 0),
  (97, .cells 32 (rp 24 (rp 32 (U 0) ([])) ([])) false),
  (129, .cells 1 ([[.ptr 106 0], [.ptr 109 0], [.ptr 112 0], [.ptr 115 0], [.ptr 118 0], [.ptr 121 0], [.ptr 124 0], [.ptr 127 0]]) false),
  (91, .cells 3 (rp 16 ([bF, I 0, bF]) ([])) false),
  (139, .cells 3 (rp 6 ([bF, I 0, bF]) ([])) false),
  (115, .cells 1 ([[.snil]]) false),
  (99, .cells 2 ([[.ptr 94 0, .ptr 98 0]]) false),
  (131, .cells 1 ([[.slice 130 0 12 12 3 true]]) false),
  (103, .cells 1 ([[.slice 102 0 8 8 3 true]]) false),
  (135, .cells 1 ([[.slice 134 0 8 8 3 true]]) false),
  (143, .cells 1 ([[.snil]]) false),
  (95, .cells 3 (rp 24 ([bF, I 0, bF]) ([])) false),
  (127, .cells 1 ([[.snil]]) false)] []
noncomputable def m17 : Memo := ⟨[.agg [I 16, I 24, I 8, I 12, I 8, I 6]], h13, .tuple [.ptr 144 0, .inil], h14⟩
theorem m17_run : ranTo (evCall (cxX Tryd.prog bad [] [] []) 1000 60 6 m17.args m17.h) m17.v m17.h' = true := by kernel_rfl
theorem m17_ok {σ : Nat → Int} {W0 : World} (hL : L0 W0) : MemoOk Tryd.prog 95 σ W0 6 m17 := memo_ok fit (Known2.nil σ) (FnsOk.nil) m17_run
noncomputable def s5 : Sym := ⟨[.ptr 18 0, .agg [.slice 19 0 1 1 1 true, I 10, .slice 20 0 5 5 1 false, bT]], h6, [18, 21, 24, 27, 39, 40, 53, 56, 57, 23, 32, 35, 50, 55, 22, 29, 36, 41, 58, 33, 34, 54, 19, 30, 51, 14, 6, 12, 16, 4, 2, 13, 17, 15, 3, 1, 0], [(0, 4294967295), (0, 1099511627775), (0, 1099511627775), (0, 1099511627775), (0, 1099511627775), (0, 1099511627775), (0, 1099511627775), (0, 1099511627775), (0, 1099511627775), (0, 1099511627775), (0, 4294967295), (0, 1099511627775), (0, 1099511627775), (0, 1099511627775), (0, 1099511627775), (0, 1099511627775), (0, 1099511627775), (0, 1099511627775), (0, 1099511627775), (0, 1099511627775), (0, 1099511627775), (0, 1099511627775), (0, 1099511627775), (0, 4294967295), (0, 1099511627775), (0, 1099511627775), (0, 1099511627775), (0, 1099511627775), (0, 1099511627775), (0, 1099511627775), (0, 1099511627775), (0, 1099511627775), (0, 1099511627775), (0, 1099511627775), (0, 1099511627775), (0, 1099511627775), (0, 4294967295), (0, 1099511627775), (0, 1099511627775), (0, 1099511627775), (0, 1099511627775), (0, 1099511627775), (0, 1099511627775), (0, 1099511627775), (0, 1099511627775), (0, 1099511627775), (0, 1099511627775), (0, 1099511627775), (0, 1099511627775), (0, 4294967295), (0, 1099511627775), (0, 1099511627775), (0, 1099511627775), (0, 1099511627775), (0, 1099511627775), (0, 1099511627775), (0, 1099511627775), (0, 1099511627775), (0, 1099511627775), (0, 1099511627775), (0, 1099511627775), (0, 1099511627775), (0, 1099511627775), (0, 1099511627775), (0, 1099511627775), (0, 1099511627775), (0, 1099511627775), (0, 1099511627775), (0, 1099511627775), (0, 1099511627775), (0, 1099511627775), (0, 1099511627775)],
  [(false, .sub (.lit 60) (.var 56), .lit 1, false), (false, .sub (.lit 60) (.add (.var 56) (.lit 1)), .lit 1, false), (false, .sub (.lit 60) (.add (.var 56) (.lit 2)), .lit 1, false), (false, .sub (.lit 60) (.add (.var 56) (.lit 3)), .lit 1, false)],
  .tuple [I 0, .inil],
  [.cel 30 0 9 (I 1),
  .cel 30 0 11 (I 8),
  .cel 30 0 16 (I 7),
  .cel 30 0 17 (I 1),
  .cel 30 0 21 (I 11),
  .cel 30 0 26 (I 12),
  .cel 30 0 31 (I 13),
  .cel 30 0 36 (I 14),
  .cel 30 0 91 (I 2),
  .cel 30 0 95 (U 1),
  .cel 30 0 96 (I 7),
  .cel 30 0 97 (I 1),
  .row 33 1 ([I 0, I 10]),
  .row 35 0 ([IZ (-1), I 60, .int .i64 (.add (.var 56) (.lit 4))]),
  .set 36 (.map [(.agg [I 3, I 0], .agg [I 0, I 0], 0), (.agg [I 3, I 1], .agg [I 0, I 0], 1), (.agg [I 2, I 0], .agg [I 0, I 0], 2), (.agg [I 4, I 0], .agg [I 0, I 0], 3)] 4),
  .row 41 0 ([bT, I 0, bF]),
  .row 50 1 ([bT, I 0, bF]),
  .cel 54 0 0 (I 3),
  .cel 54 0 5 (I 3),
  .cel 54 0 6 (I 1),
  .cel 56 0 0 (.int .u32 (.var 0)),
  .row 57 0 ([bT, I 0, bF]),
  .row 58 0 ([bT, I 0, bF]),
  .row 58 1 ([bT, I 0, bF])], 534⟩
theorem s5_run : ranTo (evCall (cxX Tryd.prog bad s5.rng s5.facts [(65, pureFn l0)]) 1000 60 47 s5.args s5.pre) s5.v s5.post = true := by kernel_rfl
theorem s5_ok {W0 : World} (hL : L0 W0) : SymOk Tryd.prog 95 W0 47 s5 := sym_ok fit (fun σ hk => FnsOk.cons (pure_fn_ok (l0_ok hL)) (FnsOk.nil)) s5_run (by kernel_rfl)
noncomputable def y13 : List Sym := [s0, s1, s2, s3, s4, s5]
theorem y13_ok {W0 : World} (hL : L0 W0) : ∀ x ∈ y13, SymOk Tryd.prog 95 W0 47 x := all_cons (s0_ok hL) (all_cons (s1_ok hL) (all_cons (s2_ok hL) (all_cons (s3_ok hL) (all_cons (s4_ok hL) (all_cons (s5_ok hL) (all_nil))))))
noncomputable def q14 : Fns := [(10, pureFn [p0]), (6, frameFn [m17])]
theorem q14_ok {σ : Nat → Int} {W0 : World} (hL : L0 W0) : FnsOk Tryd.prog 95 σ W0 q14 := FnsOk.cons (pure_fn_ok (all_cons (p0_ok hL) (all_nil))) (FnsOk.cons (frame_fn_ok (all_cons (m17_ok hL) (all_nil))) (FnsOk.nil))
theorem case6 : CaseR (rowH (sentH 225 12 errTab) [.int .i64 (.var 8), .int .i64 (.var 9), .int .i64 (.var 10), .int .i64 (.var 11), .int .i64 (.var 12)]) [((-9223372036854775808), 9223372036854775807), (0, 4294967295), (0, 0), (0, 0), (0, 0), (0, 0), (0, 0), (0, 0), ((-9223372036854775808), 9223372036854775807), ((-9223372036854775808), 9223372036854775807), ((-9223372036854775808), 9223372036854775807), ((-9223372036854775808), 9223372036854775807), ((-9223372036854775808), 9223372036854775807)] [] [(0, 5, .lit 0), (8, 1, .var 2), (9, 1, .var 3), (10, 1, .var 4), (11, 1, .var 5), (12, 1, .var 6)] [.int .i64 (.var 0), .slice 18 0 5 5 1 false, .int .u32 (.var 1)] := caseR (fun hL hk hT => FnsOk.cons (hT.ok fit) (FnsOk.cons (sym_fn_ok (Γ := cxX Tryd.prog bad [((-9223372036854775808), 9223372036854775807), (0, 4294967295), (0, 0), (0, 0), (0, 0), (0, 0), (0, 0), (0, 0), ((-9223372036854775808), 9223372036854775807), ((-9223372036854775808), 9223372036854775807), ((-9223372036854775808), 9223372036854775807), ((-9223372036854775808), 9223372036854775807), ((-9223372036854775808), 9223372036854775807)] [] []) (fix := 18) ⟨hk.rng, hk.facts⟩ (by decide) (y13_ok hL)) (FnsOk.cons (pure_fn_ok (l4_ok hL)) ((q14_ok hL))))) (by kernel_rfl : isTrue (evCall (cxX Tryd.prog bad [((-9223372036854775808), 9223372036854775807), (0, 4294967295), (0, 0), (0, 0), (0, 0), (0, 0), (0, 0), (0, 0), ((-9223372036854775808), 9223372036854775807), ((-9223372036854775808), 9223372036854775807), ((-9223372036854775808), 9223372036854775807), ((-9223372036854775808), 9223372036854775807), ((-9223372036854775808), 9223372036854775807)] [] ((11, numExtE [(0, 5, .lit 0), (8, 1, .var 2), (9, 1, .var 3), (10, 1, .var 4), (11, 1, .var 5), (12, 1, .var 6)]) :: (47, symFn (cxX Tryd.prog bad [((-9223372036854775808), 9223372036854775807), (0, 4294967295), (0, 0), (0, 0), (0, 0), (0, 0), (0, 0), (0, 0), ((-9223372036854775808), 9223372036854775807), ((-9223372036854775808), 9223372036854775807), ((-9223372036854775808), 9223372036854775807), ((-9223372036854775808), 9223372036854775807), ((-9223372036854775808), 9223372036854775807)] [] []) 18 y13) :: (65, pureFn l4) :: q14)) 1000 60 4 [.int .i64 (.var 0), .slice 18 0 5 5 1 false, .int .u32 (.var 1)] (rowH (sentH 225 12 errTab) [.int .i64 (.var 8), .int .i64 (.var 9), .int .i64 (.var 10), .int .i64 (.var 11), .int .i64 (.var 12)])) = true)
noncomputable def h15 : H := hUpd h4 103 [] [] [(18, 0, [.int .i64 (.var 8), .int .i64 (.var 9), .int .i64 (.var 10), .int .i64 (.var 11), .int .i64 (.var 12), .int .i64 (.var 13)])]
noncomputable def h16 : H := hUpd h15 158 [] [(110, .cells 32 (rp 24 (rp 32 (U 0) ([])) ([])) false),
  (142, .cells 1 ([[.ptr 119 0], [.ptr 122 0], [.ptr 125 0], [.ptr 128 0], [.ptr 131 0], [.ptr 134 0], [.ptr 137 0], [.ptr 140 0]]) false),
  (118, .cells 3 ([[.ptr 116 0, .slice 117 0 8 8 107 true, .slice 142 0 8 8 1 false]]) false),
  (150, .map [] 0),
  (134, .cells 1 ([[.snil]]) false),
  (122, .cells 1 ([[.snil]]) false),
  (154, .cells 31 (rp 6 ((bF) :: rp 4 (I 0) ((U 0) :: rp 4 (I 0) ((U 0) :: rp 4 (I 0) ((U 0) :: rp 4 (I 0) ((U 0) :: rp 4 (I 0) ((U 0) :: rp 4 (I 0) ([U 0]))))))) ([])) false),
  (106, .cells 80 (rp 16 (rp 4 (I 0) ((U 0) :: rp 4 (I 0) ((U 0) :: rp 4 (I 0) ((U 0) :: rp 4 (I 0) ((U 0) :: rp 4 (I 0) ((U 0) :: rp 4 (I 0) ((U 0) :: rp 4 (I 0) ((U 0) :: rp 4 (I 0) ((U 0) :: rp 4 (I 0) ((U 0) :: rp 4 (I 0) ((U 0) :: rp 4 (I 0) ((U 0) :: rp 4 (I 0) ((U 0) :: rp 4 (I 0) ((U 0) :: rp 4 (I 0) ((U 0) :: rp 4 (I 0) ((U 0) :: rp 4 (I 0) ([U 0]))))))))))))))))) ([])) false),
  (114, .cells 3 ([[.ptr 112 0, I 16, .ptr 113 0]]) false),
  (146, .cells 2 ([[.ptr 144 0, .slice 145 0 12 12 2 true]]) false),
  (156, .cells 1 ([[.snil]]) false),
  (108, .cells 3 (rp 24 ([bF, I 0, bF]) ([])) false),
  (140, .cells 1 ([[.snil]]) false),
  (116, .cells 1 ([[.slice 115 0 8 8 3 true]]) false),
  (148, .cells 1 ([[.slice 147 0 8 8 3 true]]) false),
  (152, .cells 3 (rp 6 ([bF, I 0, bF]) ([])) false),
  (104, .cells 3 (rp 16 ([bF, I 0, bF]) ([])) false),
  (112, .cells 2 ([[.ptr 107 0, .ptr 111 0]]) false),
  (144, .cells 1 ([[.slice 143 0 12 12 3 true]]) false),
  (128, .cells 1 ([[.snil]]) false),
  (125, .cells 1 ([[.snil]]) false),
  (157, .cells 9 ([[.ptr 114 0, .ptr 118 0, .ptr 146 0, .ptr 151 0, .ptr 155 0, .ptr 156 0, .snil, .snil, I 0]]) false),
  (109, .cells 1 ([[.slice 108 0 24 24 3 true]]) false),
  (117, .cells 107 (rp 8 (rp 9 (U 0) (rp 6 (I 0) ((U 0) :: rp 4 (I 0) ((U 0) :: rp 4 (I 0) ((U 0) :: rp 4 (I 0) ((U 0) :: rp 4 (I 0) ((U 0) :: rp 4 (I 0) ((U 0) :: rp 4 (I 0) ((U 0) :: rp 4 (I 0) ((U 0) :: rp 4 (I 0) ((U 0) :: rp 4 (I 0) ((U 0) :: rp 4 (I 0) ((U 0) :: rp 4 (I 0) ((U 0) :: rp 4 (I 0) ((U 0) :: rp 4 (I 0) ((U 0) :: rp 4 (I 0) ((U 0) :: rp 4 (I 0) ((U 0) :: rp 4 (I 0) ((U 0) :: rp 4 (I 0) ((U 0) :: rp 4 (I 0) ([U 0, I 0]))))))))))))))))))))) ([])) false),
  (149, .cells 3 (rp 8 ([I 0, I 0, I 0]) ([])) false),
  (153, .cells 1 ([[.slice 152 0 6 6 3 true]]) false),
  (105, .cells 1 ([[.slice 104 0 16 16 3 true]]) false),
  (137, .cells 1 ([[.snil]]) false),
  (113, .cells 3 ([[I 16, .snil, I 0]]) false),
  (145, .cells 2 (rp 12 ([I 0, I 0]) ([])) false),
  (155, .cells 2 ([[.ptr 153 0, .slice 154 0 6 6 31 true]]) false),
  (107, .cells 2 ([[.ptr 105 0, .slice 106 0 16 16 80 true]]) false),
  (115, .cells 3 (rp 8 ([bF, I 0, bF]) ([])) false),
  (147, .cells 3 (rp 8 ([bF, I 0, bF]) ([])) false),
  (131, .cells 1 ([[.snil]]) false),
  (119, .cells 1 ([[.snil]]) false),
  (151, .cells 5 ([[.ptr 148 0, .slice 149 0 8 8 3 true, .map 150, .ptr 114 0, .ptr 118 0]]) false),
  (111, .cells 2 ([[.ptr 109 0, .slice 110 0 24 24 32 true]]) false),
  (143, .cells 3 (rp 12 ([bF, I 0, bF]) ([])) false)] []
noncomputable def m18 : Memo := ⟨[.agg [I 16, I 24, I 8, I 12, I 8, I 6]], h15, .tuple [.ptr 157 0, .inil], h16⟩
theorem m18_run : ranTo (evCall (cxX Tryd.prog bad [] [] []) 1000 60 6 m18.args m18.h) m18.v m18.h' = true := by kernel_rfl
theorem m18_ok {σ : Nat → Int} {W0 : World} (hL : L0 W0) : MemoOk Tryd.prog 95 σ W0 6 m18 := memo_ok fit (Known2.nil σ) (FnsOk.nil) m18_run
noncomputable def s6 : Sym := ⟨[.ptr 18 0, .agg [.slice 19 0 1 1 1 true, I 10, .slice 20 0 6 6 1 false, bT]], h6, [18, 21, 24, 27, 39, 40, 53, 56, 57, 23, 32, 35, 50, 55, 22, 29, 36, 41, 58, 33, 34, 54, 19, 30, 51, 14, 6, 12, 16, 4, 2, 13, 17, 15, 3, 1, 0], [(0, 4294967295), (0, 1099511627775), (0, 1099511627775), (0, 1099511627775), (0, 1099511627775), (0, 1099511627775), (0, 1099511627775), (0, 1099511627775), (0, 1099511627775), (0, 1099511627775), (0, 4294967295), (0, 1099511627775), (0, 1099511627775), (0, 1099511627775), (0, 1099511627775), (0, 1099511627775), (0, 1099511627775), (0, 1099511627775), (0, 1099511627775), (0, 1099511627775), (0, 1099511627775), (0, 1099511627775), (0, 1099511627775), (0, 4294967295), (0, 1099511627775), (0, 1099511627775), (0, 1099511627775), (0, 1099511627775), (0, 1099511627775), (0, 1099511627775), (0, 1099511627775), (0, 1099511627775), (0, 1099511627775), (0, 1099511627775), (0, 1099511627775), (0, 1099511627775), (0, 4294967295), (0, 1099511627775), (0, 1099511627775), (0, 1099511627775), (0, 1099511627775), (0, 1099511627775), (0, 1099511627775), (0, 1099511627775), (0, 1099511627775), (0, 1099511627775), (0, 1099511627775), (0, 1099511627775), (0, 1099511627775), (0, 4294967295), (0, 1099511627775), (0, 1099511627775), (0, 1099511627775), (0, 1099511627775), (0, 1099511627775), (0, 1099511627775), (0, 1099511627775), (0, 1099511627775), (0, 1099511627775), (0, 1099511627775), (0, 1099511627775), (0, 1099511627775), (0, 1099511627775), (0, 1099511627775), (0, 1099511627775), (0, 1099511627775), (0, 1099511627775), (0, 1099511627775), (0, 1099511627775), (0, 1099511627775), (0, 1099511627775), (0, 1099511627775)],
  [(false, .sub (.lit 60) (.var 56), .lit 1, false), (false, .sub (.lit 60) (.add (.var 56) (.lit 1)), .lit 1, false), (false, .sub (.lit 60) (.add (.var 56) (.lit 2)), .lit 1, false), (false, .sub (.lit 60) (.add (.var 56) (.lit 3)), .lit 1, false)],
  .tuple [I 0, .inil],
  [.cel 30 0 9 (I 1),
  .cel 30 0 11 (I 8),
  .cel 30 0 16 (I 7),
  .cel 30 0 17 (I 1),
  .cel 30 0 21 (I 11),
  .cel 30 0 26 (I 12),
  .cel 30 0 31 (I 13),
  .cel 30 0 36 (I 14),
  .cel 30 0 91 (I 2),
  .cel 30 0 95 (U 1),
  .cel 30 0 96 (I 7),
  .cel 30 0 97 (I 1),
  .row 33 1 ([I 0, I 10]),
  .row 35 0 ([IZ (-1), I 60, .int .i64 (.add (.var 56) (.lit 4))]),
  .set 36 (.map [(.agg [I 3, I 0], .agg [I 0, I 0], 0), (.agg [I 3, I 1], .agg [I 0, I 0], 1), (.agg [I 2, I 0], .agg [I 0, I 0], 2), (.agg [I 4, I 0], .agg [I 0, I 0], 3)] 4),
  .row 41 0 ([bT, I 0, bF]),
  .row 50 1 ([bT, I 0, bF]),
  .cel 54 0 0 (I 3),
  .cel 54 0 5 (I 3),
  .cel 54 0 6 (I 1),
  .cel 56 0 0 (.int .u32 (.var 0)),
  .row 57 0 ([bT, I 0, bF]),
  .row 58 0 ([bT, I 0, bF]),
  .row 58 1 ([bT, I 0, bF])], 534⟩
theorem s6_run : ranTo (evCall (cxX Tryd.prog bad s6.rng s6.facts [(65, pureFn l0)]) 1000 60 47 s6.args s6.pre) s6.v s6.post = true := by kernel_rfl
theorem s6_ok {W0 : World} (hL : L0 W0) : SymOk Tryd.prog 95 W0 47 s6 := sym_ok fit (fun σ hk => FnsOk.cons (pure_fn_ok (l0_ok hL)) (FnsOk.nil)) s6_run (by kernel_rfl)
noncomputable def y15 : List Sym := [s0, s1, s2, s3, s4, s5, s6]
theorem y15_ok {W0 : World} (hL : L0 W0) : ∀ x ∈ y15, SymOk Tryd.prog 95 W0 47 x := all_cons (s0_ok hL) (all_cons (s1_ok hL) (all_cons (s2_ok hL) (all_cons (s3_ok hL) (all_cons (s4_ok hL) (all_cons (s5_ok hL) (all_cons (s6_ok hL) (all_nil)))))))
noncomputable def q16 : Fns := [(10, pureFn [p0]), (6, frameFn [m18])]
theorem q16_ok {σ : Nat → Int} {W0 : World} (hL : L0 W0) : FnsOk Tryd.prog 95 σ W0 q16 := FnsOk.cons (pure_fn_ok (all_cons (p0_ok hL) (all_nil))) (FnsOk.cons (frame_fn_ok (all_cons (m18_ok hL) (all_nil))) (FnsOk.nil))
theorem case7 : CaseR (rowH (sentH 225 12 errTab) [.int .i64 (.var 8), .int .i64 (.var 9), .int .i64 (.var 10), .int .i64 (.var 11), .int .i64 (.var 12), .int .i64 (.var 13)]) [((-9223372036854775808), 9223372036854775807), (0, 4294967295), (0, 0), (0, 0), (0, 0), (0, 0), (0, 0), (0, 0), ((-9223372036854775808), 9223372036854775807), ((-9223372036854775808), 9223372036854775807), ((-9223372036854775808), 9223372036854775807), ((-9223372036854775808), 9223372036854775807), ((-9223372036854775808), 9223372036854775807), ((-9223372036854775808), 9223372036854775807)] [] [(0, 5, .lit 0), (8, 1, .var 2), (9, 1, .var 3), (10, 1, .var 4), (11, 1, .var 5), (12, 1, .var 6), (13, 1, .var 7)] [.int .i64 (.var 0), .slice 18 0 6 6 1 false, .int .u32 (.var 1)] := caseR (fun hL hk hT => FnsOk.cons (hT.ok fit) (FnsOk.cons (sym_fn_ok (Γ := cxX Tryd.prog bad [((-9223372036854775808), 9223372036854775807), (0, 4294967295), (0, 0), (0, 0), (0, 0), (0, 0), (0, 0), (0, 0), ((-9223372036854775808), 9223372036854775807), ((-9223372036854775808), 9223372036854775807), ((-9223372036854775808), 9223372036854775807), ((-9223372036854775808), 9223372036854775807), ((-9223372036854775808), 9223372036854775807), ((-9223372036854775808), 9223372036854775807)] [] []) (fix := 18) ⟨hk.rng, hk.facts⟩ (by decide) (y15_ok hL)) (FnsOk.cons (pure_fn_ok (l4_ok hL)) ((q16_ok hL))))) (by kernel_rfl : isTrue (evCall (cxX Tryd.prog bad [((-9223372036854775808), 9223372036854775807), (0, 4294967295), (0, 0), (0, 0), (0, 0), (0, 0), (0, 0), (0, 0), ((-9223372036854775808), 9223372036854775807), ((-9223372036854775808), 9223372036854775807), ((-9223372036854775808), 9223372036854775807), ((-9223372036854775808), 9223372036854775807), ((-9223372036854775808), 9223372036854775807), ((-9223372036854775808), 9223372036854775807)] [] ((11, numExtE [(0, 5, .lit 0), (8, 1, .var 2), (9, 1, .var 3), (10, 1, .var 4), (11, 1, .var 5), (12, 1, .var 6), (13, 1, .var 7)]) :: (47, symFn (cxX Tryd.prog bad [((-9223372036854775808), 9223372036854775807), (0, 4294967295), (0, 0), (0, 0), (0, 0), (0, 0), (0, 0), (0, 0), ((-9223372036854775808), 9223372036854775807), ((-9223372036854775808), 9223372036854775807), ((-9223372036854775808), 9223372036854775807), ((-9223372036854775808), 9223372036854775807), ((-9223372036854775808), 9223372036854775807), ((-9223372036854775808), 9223372036854775807)] [] []) 18 y15) :: (65, pureFn l4) :: q16)) 1000 60 4 [.int .i64 (.var 0), .slice 18 0 6 6 1 false, .int .u32 (.var 1)] (rowH (sentH 225 12 errTab) [.int .i64 (.var 8), .int .i64 (.var 9), .int .i64 (.var 10), .int .i64 (.var 11), .int .i64 (.var 12), .int .i64 (.var 13)])) = true)
theorem case8 (m : Nat) : CaseR (nameH (sentH 225 12 errTab)) [] [] [(0, 5, .lit 0)] [.int .i64 (.var 0), .slice 18 0 (m + 7) (m + 7) 1 false, .int .u32 (.var 1)] := caseR (fun hL hk hT => FnsOk.cons (hT.ok fit) (FnsOk.cons (pure_fn_ok (all_cons (p0_ok hL) (all_nil))) (FnsOk.nil))) (by kernel_rfl : isTrue (evCall (cxX Tryd.prog bad [] [] [(11, numExtE [(0, 5, .lit 0)]), (10, pureFn [p0])]) 1000 60 4 [.int .i64 (.var 0), .slice 18 0 (m + 7) (m + 7) 1 false, .int .u32 (.var 1)] (nameH (sentH 225 12 errTab))) = true)
noncomputable def h17 : H := hUpd h0 29 [] [] []
noncomputable def h18 : H := hUpd h5 84 [46, 86, 90, 50, 18, 92, 84, 52, 88, 85, 53, 89, 49, 91, 87, 47] [(78, .cells 3 (rp 6 ([bF, I 0, bF]) ([])) false),
  (30, .cells 3 (rp 16 ([bF, I 0, bF]) ([])) false),
  (70, .cells 1 ([[.slice 69 0 12 12 3 true]]) false),
  (38, .cells 2 ([[.ptr 33 0, .ptr 37 0]]) false),
  (74, .cells 1 ([[.slice 73 0 8 8 3 true]]) false),
  (42, .cells 1 ([[.slice 41 0 8 8 3 true]]) false),
  (82, .cells 1 ([[.snil]]) false),
  (34, .cells 3 (rp 24 ([bF, I 0, bF]) ([])) false),
  (76, .map [] 0),
  (44, .cells 3 ([[.ptr 42 0, .slice 43 0 8 8 107 true, .slice 68 0 8 8 1 false]]) false),
  (68, .cells 1 ([[.ptr 45 0], [.ptr 48 0], [.ptr 51 0], [.ptr 54 0], [.ptr 57 0], [.ptr 60 0], [.ptr 63 0], [.ptr 66 0]]) false),
  (36, .cells 32 (rp 24 (rp 32 (U 0) ([])) ([])) false),
  (72, .cells 2 ([[.ptr 70 0, .slice 71 0 12 12 2 true]]) false),
  (40, .cells 3 ([[.ptr 38 0, I 16, .ptr 39 0]]) false),
  (80, .cells 31 (rp 6 ((bF) :: rp 4 (I 0) ((U 0) :: rp 4 (I 0) ((U 0) :: rp 4 (I 0) ((U 0) :: rp 4 (I 0) ((U 0) :: rp 4 (I 0) ((U 0) :: rp 4 (I 0) ([U 0]))))))) ([])) false),
  (48, .cells 1 ([[.snil]]) false),
  (32, .cells 80 (rp 16 (rp 4 (I 0) ((U 0) :: rp 4 (I 0) ((U 0) :: rp 4 (I 0) ((U 0) :: rp 4 (I 0) ((U 0) :: rp 4 (I 0) ((U 0) :: rp 4 (I 0) ((U 0) :: rp 4 (I 0) ((U 0) :: rp 4 (I 0) ((U 0) :: rp 4 (I 0) ((U 0) :: rp 4 (I 0) ((U 0) :: rp 4 (I 0) ((U 0) :: rp 4 (I 0) ((U 0) :: rp 4 (I 0) ((U 0) :: rp 4 (I 0) ((U 0) :: rp 4 (I 0) ((U 0) :: rp 4 (I 0) ([U 0]))))))))))))))))) ([])) false),
  (77, .cells 5 ([[.ptr 74 0, .slice 75 0 8 8 3 true, .map 76, .ptr 40 0, .ptr 44 0]]) false),
  (45, .cells 1 ([[.snil]]) false),
  (69, .cells 3 (rp 12 ([bF, I 0, bF]) ([])) false),
  (37, .cells 2 ([[.ptr 35 0, .slice 36 0 24 24 32 true]]) false),
  (73, .cells 3 (rp 8 ([bF, I 0, bF]) ([])) false),
  (41, .cells 3 (rp 8 ([bF, I 0, bF]) ([])) false),
  (33, .cells 2 ([[.ptr 31 0, .slice 32 0 16 16 80 true]]) false),
  (75, .cells 3 (rp 8 ([I 0, I 0, I 0]) ([])) false),
  (43, .cells 107 (rp 8 (rp 9 (U 0) (rp 6 (I 0) ((U 0) :: rp 4 (I 0) ((U 0) :: rp 4 (I 0) ((U 0) :: rp 4 (I 0) ((U 0) :: rp 4 (I 0) ((U 0) :: rp 4 (I 0) ((U 0) :: rp 4 (I 0) ((U 0) :: rp 4 (I 0) ((U 0) :: rp 4 (I 0) ((U 0) :: rp 4 (I 0) ((U 0) :: rp 4 (I 0) ((U 0) :: rp 4 (I 0) ((U 0) :: rp 4 (I 0) ((U 0) :: rp 4 (I 0) ((U 0) :: rp 4 (I 0) ((U 0) :: rp 4 (I 0) ((U 0) :: rp 4 (I 0) ((U 0) :: rp 4 (I 0) ((U 0) :: rp 4 (I 0) ([U 0, I 0]))))))))))))))))))))) ([])) false),
  (83, .cells 9 ([[.ptr 40 0, .ptr 44 0, .ptr 72 0, .ptr 77 0, .ptr 81 0, .ptr 82 0, .snil, .snil, I 0]]) false),
  (35, .cells 1 ([[.slice 34 0 24 24 3 true]]) false),
  (71, .cells 2 (rp 12 ([I 0, I 0]) ([])) false),
  (39, .cells 3 ([[I 16, .snil, I 0]]) false),
  (31, .cells 1 ([[.slice 30 0 16 16 3 true]]) false)] [(81, 0, [.ptr 79 0, .slice 80 0 6 6 31 true]),
  (51, 0, [.snil]),
  (79, 0, [.slice 78 0 6 6 3 true])]
noncomputable def m19 : Memo := ⟨[.agg [I 16, I 24, I 8, I 12, I 8, I 6]], h17, .tuple [.ptr 83 0, .inil], h18⟩
theorem m19_run : ranTo (evCall (cxX Tryd.prog bad [] [] []) 1000 60 6 m19.args m19.h) m19.v m19.h' = true := by kernel_rfl
theorem m19_ok {σ : Nat → Int} {W0 : World} (hL : L0 W0) : MemoOk Tryd.prog 95 σ W0 6 m19 := memo_ok fit (Known2.nil σ) (FnsOk.nil) m19_run
noncomputable def p20 : Pur := ([.agg [I 3, I 2, I 0, I 0, U 0]], .inil, 1048576)
theorem p20_run : ranPure (evCall (cxX Tryd.prog bad [] [] []) 1000 60 65 p20.1 ⟨.lf, p20.2.2⟩) p20.2.1 = true := by kernel_rfl
theorem p20_ok {σ : Nat → Int} {W0 : World} (hL : L0 W0) : PureOk Tryd.prog 95 σ W0 65 p20 := pure_ok fit (Known2.nil σ) (FnsOk.nil) p20_run
noncomputable def p21 : Pur := ([.agg [I 3, I 3, I 0, I 0, U 0]], .inil, 1048576)
theorem p21_run : ranPure (evCall (cxX Tryd.prog bad [] [] []) 1000 60 65 p21.1 ⟨.lf, p21.2.2⟩) p21.2.1 = true := by kernel_rfl
theorem p21_ok {σ : Nat → Int} {W0 : World} (hL : L0 W0) : PureOk Tryd.prog 95 σ W0 65 p21 := pure_ok fit (Known2.nil σ) (FnsOk.nil) p21_run
noncomputable def p22 : Pur := ([.agg [I 2, I 1, I 0, I 0, U 1]], .inil, 1048576)
theorem p22_run : ranPure (evCall (cxX Tryd.prog bad [] [] []) 1000 60 65 p22.1 ⟨.lf, p22.2.2⟩) p22.2.1 = true := by kernel_rfl
theorem p22_ok {σ : Nat → Int} {W0 : World} (hL : L0 W0) : PureOk Tryd.prog 95 σ W0 65 p22 := pure_ok fit (Known2.nil σ) (FnsOk.nil) p22_run
noncomputable def p23 : Pur := ([.agg [I 7, I 2, I 0, I 0, U 0]], .inil, 1048576)
theorem p23_run : ranPure (evCall (cxX Tryd.prog bad [] [] []) 1000 60 65 p23.1 ⟨.lf, p23.2.2⟩) p23.2.1 = true := by kernel_rfl
theorem p23_ok {σ : Nat → Int} {W0 : World} (hL : L0 W0) : PureOk Tryd.prog 95 σ W0 65 p23 := pure_ok fit (Known2.nil σ) (FnsOk.nil) p23_run
noncomputable def h19 : H := hUpc h3 58 [] [(35, .map [(.agg [I 3, I 0], .agg [I 0, I 0], 0), (.agg [I 3, I 1], .agg [I 0, I 0], 1), (.agg [I 2, I 0], .agg [I 0, I 0], 2), (.agg [I 4, I 0], .agg [I 0, I 0], 3)] 4)] [(56, 0, [bT, I 0, bF]),
  (40, 0, [bT, I 0, bF]),
  (57, 0, [bT, I 0, bF]),
  (57, 1, [bT, I 0, bF]),
  (49, 1, [bT, I 0, bF])] [(55, 0, 0, .int .u32 (.var 72))]
noncomputable def l17 : List (Pur) := p11 :: p10 :: p9 :: p8 :: p23 :: p6 :: p22 :: p4 :: p21 :: p20 :: []
theorem l17_ok {σ : Nat → Int} {W0 : World} (hL : L0 W0) : ∀ x ∈ l17, PureOk Tryd.prog 95 σ W0 65 x := all_cons (p11_ok hL) (all_cons (p10_ok hL) (all_cons (p9_ok hL) (all_cons (p8_ok hL) (all_cons (p23_ok hL) (all_cons (p6_ok hL) (all_cons (p22_ok hL) (all_cons (p4_ok hL) (all_cons (p21_ok hL) (all_cons (p20_ok hL) (all_nil))))))))))
noncomputable def s7 : Sym := ⟨[.ptr 18 0, .agg [.slice 19 0 1 1 1 true, I 11, .snil, bF]], h19, [18, 20, 26, 38, 39, 52, 54, 56, 57, 21, 23, 28, 33, 35, 40, 50, 55, 22, 31, 49, 29, 32, 34, 53, 19, 14, 6, 12, 16, 4, 2, 13, 17, 15, 3, 1, 0], [(0, 4294967295), (0, 1099511627775), (0, 1099511627775), (0, 1099511627775), (0, 1099511627775), (0, 1099511627775), (0, 1099511627775), (0, 1099511627775), (0, 1099511627775), (0, 1099511627775), (0, 4294967295), (0, 1099511627775), (0, 1099511627775), (0, 1099511627775), (0, 1099511627775), (0, 1099511627775), (0, 1099511627775), (0, 1099511627775), (0, 1099511627775), (0, 1099511627775), (0, 1099511627775), (0, 1099511627775), (0, 1099511627775), (0, 4294967295), (0, 1099511627775), (0, 1099511627775), (0, 1099511627775), (0, 1099511627775), (0, 1099511627775), (0, 1099511627775), (0, 1099511627775), (0, 1099511627775), (0, 1099511627775), (0, 1099511627775), (0, 1099511627775), (0, 1099511627775), (0, 4294967295), (0, 1099511627775), (0, 1099511627775), (0, 1099511627775), (0, 1099511627775), (0, 1099511627775), (0, 1099511627775), (0, 1099511627775), (0, 1099511627775), (0, 1099511627775), (0, 1099511627775), (0, 1099511627775), (0, 1099511627775), (0, 4294967295), (0, 1099511627775), (0, 1099511627775), (0, 1099511627775), (0, 1099511627775), (0, 1099511627775), (0, 1099511627775), (0, 1099511627775), (0, 1099511627775), (0, 1099511627775), (0, 1099511627775), (0, 1099511627775), (0, 1099511627775), (0, 1099511627775), (0, 1099511627775), (0, 1099511627775), (0, 1099511627775), (0, 1099511627775), (0, 1099511627775), (0, 1099511627775), (0, 1099511627775), (0, 1099511627775), (0, 1099511627775), (0, 4294967295)],
  [(false, .sub (.lit 60) (.var 56), .lit 1, false), (false, .sub (.lit 60) (.add (.var 56) (.lit 1)), .lit 1, false), (false, .sub (.lit 60) (.add (.var 56) (.lit 2)), .lit 1, false), (false, .sub (.lit 60) (.add (.var 56) (.lit 3)), .lit 1, false)],
  .tuple [I 1, .inil],
  [.cel 29 1 9 (I 1),
  .cel 29 1 11 (I 8),
  .cel 29 1 16 (I 7),
  .cel 29 1 17 (I 2),
  .cel 29 1 21 (I 11),
  .cel 29 1 26 (I 12),
  .cel 29 1 31 (I 13),
  .cel 29 1 36 (I 14),
  .cel 29 1 91 (I 2),
  .cel 29 1 92 (I 1),
  .cel 29 1 95 (U 1),
  .cel 29 1 96 (I 7),
  .cel 29 1 97 (I 2),
  .row 32 2 ([I 0, I 11]),
  .row 34 0 ([IZ (-1), I 60, .int .i64 (.add (.var 56) (.lit 4))]),
  .set 35 (.map [(.agg [I 3, I 0], .agg [I 0, I 0], 0), (.agg [I 3, I 1], .agg [I 0, I 0], 1), (.agg [I 2, I 0], .agg [I 0, I 0], 2), (.agg [I 4, I 0], .agg [I 0, I 0], 3), (.agg [I 3, I 2], .agg [I 0, I 0], 4), (.agg [I 3, I 3], .agg [I 0, I 0], 5), (.agg [I 2, I 1], .agg [I 0, I 0], 6), (.agg [I 4, I 1], .agg [I 0, I 0], 7)] 8),
  .row 40 1 ([bT, I 0, bF]),
  .row 49 2 ([bT, I 0, bF]),
  .cel 53 1 0 (I 3),
  .cel 53 1 1 (I 2),
  .cel 53 1 5 (I 3),
  .cel 53 1 6 (I 3),
  .cel 55 2 0 (.int .u32 (.var 0)),
  .row 56 1 ([bT, I 0, bF]),
  .row 57 2 ([bT, I 0, bF]),
  .row 57 3 ([bT, I 0, bF])], 533⟩
theorem s7_run : ranTo (evCall (cxX Tryd.prog bad s7.rng s7.facts [(65, pureFn l17)]) 1000 60 47 s7.args s7.pre) s7.v s7.post = true := by kernel_rfl
theorem s7_ok {W0 : World} (hL : L0 W0) : SymOk Tryd.prog 95 W0 47 s7 := sym_ok fit (fun σ hk => FnsOk.cons (pure_fn_ok (l17_ok hL)) (FnsOk.nil)) s7_run (by kernel_rfl)
noncomputable def l18 : List (Pur) := p22 :: p23 :: l1
theorem l18_ok {σ : Nat → Int} {W0 : World} (hL : L0 W0) : ∀ x ∈ l18, PureOk Tryd.prog 95 σ W0 65 x := all_cons (p22_ok hL) (all_cons (p23_ok hL) ((l1_ok hL)))
noncomputable def y19 : List Sym := [s0, s7, s1, s2, s3, s4, s5, s6]
theorem y19_ok {W0 : World} (hL : L0 W0) : ∀ x ∈ y19, SymOk Tryd.prog 95 W0 47 x := all_cons (s0_ok hL) (all_cons (s7_ok hL) (all_cons (s1_ok hL) (all_cons (s2_ok hL) (all_cons (s3_ok hL) (all_cons (s4_ok hL) (all_cons (s5_ok hL) (all_cons (s6_ok hL) (all_nil))))))))
noncomputable def q20 : Fns := [(10, pureFn [p0]), (6, frameFn [m19])]
theorem q20_ok {σ : Nat → Int} {W0 : World} (hL : L0 W0) : FnsOk Tryd.prog 95 σ W0 q20 := FnsOk.cons (pure_fn_ok (all_cons (p0_ok hL) (all_nil))) (FnsOk.cons (frame_fn_ok (all_cons (m19_ok hL) (all_nil))) (FnsOk.nil))
theorem case9 : CaseR (nameH (sentH 225 12 errTab)) [((-9223372036854775808), 9223372036854775807), (0, 4294967295), (0, 1), (0, 1), (0, 1), (0, 1), (0, 1), (0, 1)] [] [(0, 5, .lit 1)] [.int .i64 (.var 0), .snil, .int .u32 (.var 1)] := caseR (fun hL hk hT => FnsOk.cons (hT.ok fit) (FnsOk.cons (sym_fn_ok (Γ := cxX Tryd.prog bad [((-9223372036854775808), 9223372036854775807), (0, 4294967295), (0, 1), (0, 1), (0, 1), (0, 1), (0, 1), (0, 1)] [] []) (fix := 18) ⟨hk.rng, hk.facts⟩ (by decide) (y19_ok hL)) (FnsOk.cons (pure_fn_ok (l18_ok hL)) ((q20_ok hL))))) (by kernel_rfl : isTrue (evCall (cxX Tryd.prog bad [((-9223372036854775808), 9223372036854775807), (0, 4294967295), (0, 1), (0, 1), (0, 1), (0, 1), (0, 1), (0, 1)] [] ((11, numExtE [(0, 5, .lit 1)]) :: (47, symFn (cxX Tryd.prog bad [((-9223372036854775808), 9223372036854775807), (0, 4294967295), (0, 1), (0, 1), (0, 1), (0, 1), (0, 1), (0, 1)] [] []) 18 y19) :: (65, pureFn l18) :: q20)) 1000 60 4 [.int .i64 (.var 0), .snil, .int .u32 (.var 1)] (nameH (sentH 225 12 errTab))) = true)
theorem case10 : CaseR (nameH (sentH 225 12 errTab)) [((-9223372036854775808), 9223372036854775807), (0, 4294967295), (0, 1), (0, 1), (0, 1), (0, 1), (0, 1), (0, 1)] [] [(0, 5, .lit 1)] [.int .i64 (.var 0), .eslice false, .int .u32 (.var 1)] := caseR (fun hL hk hT => FnsOk.cons (hT.ok fit) (FnsOk.cons (sym_fn_ok (Γ := cxX Tryd.prog bad [((-9223372036854775808), 9223372036854775807), (0, 4294967295), (0, 1), (0, 1), (0, 1), (0, 1), (0, 1), (0, 1)] [] []) (fix := 18) ⟨hk.rng, hk.facts⟩ (by decide) (y19_ok hL)) (FnsOk.cons (pure_fn_ok (l18_ok hL)) ((q20_ok hL))))) (by kernel_rfl : isTrue (evCall (cxX Tryd.prog bad [((-9223372036854775808), 9223372036854775807), (0, 4294967295), (0, 1), (0, 1), (0, 1), (0, 1), (0, 1), (0, 1)] [] ((11, numExtE [(0, 5, .lit 1)]) :: (47, symFn (cxX Tryd.prog bad [((-9223372036854775808), 9223372036854775807), (0, 4294967295), (0, 1), (0, 1), (0, 1), (0, 1), (0, 1), (0, 1)] [] []) 18 y19) :: (65, pureFn l18) :: q20)) 1000 60 4 [.int .i64 (.var 0), .eslice false, .int .u32 (.var 1)] (nameH (sentH 225 12 errTab))) = true)
noncomputable def h20 : H := hUpd h4 55 [] [] []
noncomputable def h21 : H := hUpd h10 110 [110, 78, 118, 114, 76, 116, 72, 112, 117, 73, 113, 75, 115, 111, 79] [(94, .cells 1 ([[.ptr 71 0], [.ptr 74 0], [.ptr 77 0], [.ptr 80 0], [.ptr 83 0], [.ptr 86 0], [.ptr 89 0], [.ptr 92 0]]) false),
  (62, .cells 32 (rp 24 (rp 32 (U 0) ([])) ([])) false),
  (102, .map [] 0),
  (70, .cells 3 ([[.ptr 68 0, .slice 69 0 8 8 107 true, .slice 94 0 8 8 1 false]]) false),
  (58, .cells 80 (rp 16 (rp 4 (I 0) ((U 0) :: rp 4 (I 0) ((U 0) :: rp 4 (I 0) ((U 0) :: rp 4 (I 0) ((U 0) :: rp 4 (I 0) ((U 0) :: rp 4 (I 0) ((U 0) :: rp 4 (I 0) ((U 0) :: rp 4 (I 0) ((U 0) :: rp 4 (I 0) ((U 0) :: rp 4 (I 0) ((U 0) :: rp 4 (I 0) ((U 0) :: rp 4 (I 0) ((U 0) :: rp 4 (I 0) ((U 0) :: rp 4 (I 0) ((U 0) :: rp 4 (I 0) ((U 0) :: rp 4 (I 0) ([U 0]))))))))))))))))) ([])) false),
  (106, .cells 31 (rp 6 ((bF) :: rp 4 (I 0) ((U 0) :: rp 4 (I 0) ((U 0) :: rp 4 (I 0) ((U 0) :: rp 4 (I 0) ((U 0) :: rp 4 (I 0) ((U 0) :: rp 4 (I 0) ([U 0]))))))) ([])) false),
  (74, .cells 1 ([[.snil]]) false),
  (98, .cells 2 ([[.ptr 96 0, .slice 97 0 12 12 2 true]]) false),
  (66, .cells 3 ([[.ptr 64 0, I 16, .ptr 65 0]]) false),
  (60, .cells 3 (rp 24 ([bF, I 0, bF]) ([])) false),
  (108, .cells 1 ([[.snil]]) false),
  (100, .cells 1 ([[.slice 99 0 8 8 3 true]]) false),
  (68, .cells 1 ([[.slice 67 0 8 8 3 true]]) false),
  (56, .cells 3 (rp 16 ([bF, I 0, bF]) ([])) false),
  (104, .cells 3 (rp 6 ([bF, I 0, bF]) ([])) false),
  (96, .cells 1 ([[.slice 95 0 12 12 3 true]]) false),
  (64, .cells 2 ([[.ptr 59 0, .ptr 63 0]]) false),
  (61, .cells 1 ([[.slice 60 0 24 24 3 true]]) false),
  (109, .cells 9 ([[.ptr 66 0, .ptr 70 0, .ptr 98 0, .ptr 103 0, .ptr 107 0, .ptr 108 0, .snil, .snil, I 0]]) false),
  (101, .cells 3 (rp 8 ([I 0, I 0, I 0]) ([])) false),
  (69, .cells 107 (rp 8 (rp 9 (U 0) (rp 6 (I 0) ((U 0) :: rp 4 (I 0) ((U 0) :: rp 4 (I 0) ((U 0) :: rp 4 (I 0) ((U 0) :: rp 4 (I 0) ((U 0) :: rp 4 (I 0) ((U 0) :: rp 4 (I 0) ((U 0) :: rp 4 (I 0) ((U 0) :: rp 4 (I 0) ((U 0) :: rp 4 (I 0) ((U 0) :: rp 4 (I 0) ((U 0) :: rp 4 (I 0) ((U 0) :: rp 4 (I 0) ((U 0) :: rp 4 (I 0) ((U 0) :: rp 4 (I 0) ((U 0) :: rp 4 (I 0) ((U 0) :: rp 4 (I 0) ((U 0) :: rp 4 (I 0) ((U 0) :: rp 4 (I 0) ([U 0, I 0]))))))))))))))))))))) ([])) false),
  (57, .cells 1 ([[.slice 56 0 16 16 3 true]]) false),
  (97, .cells 2 (rp 12 ([I 0, I 0]) ([])) false),
  (65, .cells 3 ([[I 16, .snil, I 0]]) false),
  (59, .cells 2 ([[.ptr 57 0, .slice 58 0 16 16 80 true]]) false),
  (99, .cells 3 (rp 8 ([bF, I 0, bF]) ([])) false),
  (67, .cells 3 (rp 8 ([bF, I 0, bF]) ([])) false),
  (103, .cells 5 ([[.ptr 100 0, .slice 101 0 8 8 3 true, .map 102, .ptr 66 0, .ptr 70 0]]) false),
  (71, .cells 1 ([[.snil]]) false),
  (95, .cells 3 (rp 12 ([bF, I 0, bF]) ([])) false),
  (63, .cells 2 ([[.ptr 61 0, .slice 62 0 24 24 32 true]]) false)] [(18, 0, [.int .i64 (.var 8)]),
  (77, 0, [.snil]),
  (105, 0, [.slice 104 0 6 6 3 true]),
  (107, 0, [.ptr 105 0, .slice 106 0 6 6 31 true])]
noncomputable def m24 : Memo := ⟨[.agg [I 16, I 24, I 8, I 12, I 8, I 6]], h20, .tuple [.ptr 109 0, .inil], h21⟩
theorem m24_run : ranTo (evCall (cxX Tryd.prog bad [] [] []) 1000 60 6 m24.args m24.h) m24.v m24.h' = true := by kernel_rfl
theorem m24_ok {σ : Nat → Int} {W0 : World} (hL : L0 W0) : MemoOk Tryd.prog 95 σ W0 6 m24 := memo_ok fit (Known2.nil σ) (FnsOk.nil) m24_run
noncomputable def h22 : H := hUpc h6 59 [] [(36, .map [(.agg [I 3, I 0], .agg [I 0, I 0], 0), (.agg [I 3, I 1], .agg [I 0, I 0], 1), (.agg [I 2, I 0], .agg [I 0, I 0], 2), (.agg [I 4, I 0], .agg [I 0, I 0], 3)] 4)] [(58, 0, [bT, I 0, bF]),
  (58, 1, [bT, I 0, bF]),
  (50, 1, [bT, I 0, bF]),
  (57, 0, [bT, I 0, bF]),
  (41, 0, [bT, I 0, bF])] [(56, 0, 0, .int .u32 (.var 72))]
noncomputable def s8 : Sym := ⟨[.ptr 18 0, .agg [.slice 19 0 1 1 1 true, I 11, .slice 20 0 1 1 1 false, bF]], h22, [18, 21, 24, 27, 39, 40, 53, 56, 57, 23, 32, 35, 50, 55, 22, 29, 36, 41, 58, 33, 34, 54, 19, 30, 51, 14, 6, 12, 16, 4, 2, 13, 17, 15, 3, 1, 0], [(0, 4294967295), (0, 1099511627775), (0, 1099511627775), (0, 1099511627775), (0, 1099511627775), (0, 1099511627775), (0, 1099511627775), (0, 1099511627775), (0, 1099511627775), (0, 1099511627775), (0, 4294967295), (0, 1099511627775), (0, 1099511627775), (0, 1099511627775), (0, 1099511627775), (0, 1099511627775), (0, 1099511627775), (0, 1099511627775), (0, 1099511627775), (0, 1099511627775), (0, 1099511627775), (0, 1099511627775), (0, 1099511627775), (0, 4294967295), (0, 1099511627775), (0, 1099511627775), (0, 1099511627775), (0, 1099511627775), (0, 1099511627775), (0, 1099511627775), (0, 1099511627775), (0, 1099511627775), (0, 1099511627775), (0, 1099511627775), (0, 1099511627775), (0, 1099511627775), (0, 4294967295), (0, 1099511627775), (0, 1099511627775), (0, 1099511627775), (0, 1099511627775), (0, 1099511627775), (0, 1099511627775), (0, 1099511627775), (0, 1099511627775), (0, 1099511627775), (0, 1099511627775), (0, 1099511627775), (0, 1099511627775), (0, 4294967295), (0, 1099511627775), (0, 1099511627775), (0, 1099511627775), (0, 1099511627775), (0, 1099511627775), (0, 1099511627775), (0, 1099511627775), (0, 1099511627775), (0, 1099511627775), (0, 1099511627775), (0, 1099511627775), (0, 1099511627775), (0, 1099511627775), (0, 1099511627775), (0, 1099511627775), (0, 1099511627775), (0, 1099511627775), (0, 1099511627775), (0, 1099511627775), (0, 1099511627775), (0, 1099511627775), (0, 1099511627775), (0, 4294967295)],
  [(false, .sub (.lit 60) (.var 56), .lit 1, false), (false, .sub (.lit 60) (.add (.var 56) (.lit 1)), .lit 1, false), (false, .sub (.lit 60) (.add (.var 56) (.lit 2)), .lit 1, false), (false, .sub (.lit 60) (.add (.var 56) (.lit 3)), .lit 1, false)],
  .tuple [I 1, .inil],
  [.cel 30 1 9 (I 1),
  .cel 30 1 11 (I 8),
  .cel 30 1 16 (I 7),
  .cel 30 1 17 (I 2),
  .cel 30 1 21 (I 11),
  .cel 30 1 26 (I 12),
  .cel 30 1 31 (I 13),
  .cel 30 1 36 (I 14),
  .cel 30 1 91 (I 2),
  .cel 30 1 92 (I 1),
  .cel 30 1 95 (U 1),
  .cel 30 1 96 (I 7),
  .cel 30 1 97 (I 2),
  .row 33 2 ([I 0, I 11]),
  .row 35 0 ([IZ (-1), I 60, .int .i64 (.add (.var 56) (.lit 4))]),
  .set 36 (.map [(.agg [I 3, I 0], .agg [I 0, I 0], 0), (.agg [I 3, I 1], .agg [I 0, I 0], 1), (.agg [I 2, I 0], .agg [I 0, I 0], 2), (.agg [I 4, I 0], .agg [I 0, I 0], 3), (.agg [I 3, I 2], .agg [I 0, I 0], 4), (.agg [I 3, I 3], .agg [I 0, I 0], 5), (.agg [I 2, I 1], .agg [I 0, I 0], 6), (.agg [I 4, I 1], .agg [I 0, I 0], 7)] 8),
  .row 41 1 ([bT, I 0, bF]),
  .row 50 2 ([bT, I 0, bF]),
  .cel 54 1 0 (I 3),
  .cel 54 1 1 (I 2),
  .cel 54 1 5 (I 3),
  .cel 54 1 6 (I 3),
  .cel 56 2 0 (.int .u32 (.var 0)),
  .row 57 1 ([bT, I 0, bF]),
  .row 58 2 ([bT, I 0, bF]),
  .row 58 3 ([bT, I 0, bF])], 534⟩
theorem s8_run : ranTo (evCall (cxX Tryd.prog bad s8.rng s8.facts [(65, pureFn l17)]) 1000 60 47 s8.args s8.pre) s8.v s8.post = true := by kernel_rfl
theorem s8_ok {W0 : World} (hL : L0 W0) : SymOk Tryd.prog 95 W0 47 s8 := sym_ok fit (fun σ hk => FnsOk.cons (pure_fn_ok (l17_ok hL)) (FnsOk.nil)) s8_run (by kernel_rfl)
noncomputable def p25 : Pur := ([.agg [I 5, .int .i64 (.var 2), I 0, I 0, U 0]], .inil, 1048576)
theorem p25_run : ranPure (evCall (cxX Tryd.prog bad [((-9223372036854775808), 9223372036854775807), (0, 4294967295), (0, 1), (0, 1), (0, 1), (0, 1), (0, 1), (0, 1), ((-9223372036854775808), 9223372036854775807)] [] []) 1000 60 65 p25.1 ⟨.lf, p25.2.2⟩) p25.2.1 = true := by kernel_rfl
theorem p25_ok {σ : Nat → Int} {W0 : World} (hL : L0 W0) (hk : Known2 σ [((-9223372036854775808), 9223372036854775807), (0, 4294967295), (0, 1), (0, 1), (0, 1), (0, 1), (0, 1), (0, 1), ((-9223372036854775808), 9223372036854775807)] []) : PureOk Tryd.prog 95 σ W0 65 p25 := pure_ok fit hk (FnsOk.nil) p25_run
noncomputable def p26 : Pur := ([.agg [I 5, .int .i64 (.var 2), I 0, I 0, U 1]], .inil, 1048576)
theorem p26_run : ranPure (evCall (cxX Tryd.prog bad [((-9223372036854775808), 9223372036854775807), (0, 4294967295), (0, 1), (0, 1), (0, 1), (0, 1), (0, 1), (0, 1), ((-9223372036854775808), 9223372036854775807)] [] []) 1000 60 65 p26.1 ⟨.lf, p26.2.2⟩) p26.2.1 = true := by kernel_rfl
theorem p26_ok {σ : Nat → Int} {W0 : World} (hL : L0 W0) (hk : Known2 σ [((-9223372036854775808), 9223372036854775807), (0, 4294967295), (0, 1), (0, 1), (0, 1), (0, 1), (0, 1), (0, 1), ((-9223372036854775808), 9223372036854775807)] []) : PureOk Tryd.prog 95 σ W0 65 p26 := pure_ok fit hk (FnsOk.nil) p26_run
noncomputable def y21 : List Sym := [s0, s7, s1, s2, s3, s4, s5, s6, s8]
theorem y21_ok {W0 : World} (hL : L0 W0) : ∀ x ∈ y21, SymOk Tryd.prog 95 W0 47 x := all_cons (s0_ok hL) (all_cons (s7_ok hL) (all_cons (s1_ok hL) (all_cons (s2_ok hL) (all_cons (s3_ok hL) (all_cons (s4_ok hL) (all_cons (s5_ok hL) (all_cons (s6_ok hL) (all_cons (s8_ok hL) (all_nil)))))))))
noncomputable def q22 : Fns := [(10, pureFn [p0]), (6, frameFn [m24])]
theorem q22_ok {σ : Nat → Int} {W0 : World} (hL : L0 W0) : FnsOk Tryd.prog 95 σ W0 q22 := FnsOk.cons (pure_fn_ok (all_cons (p0_ok hL) (all_nil))) (FnsOk.cons (frame_fn_ok (all_cons (m24_ok hL) (all_nil))) (FnsOk.nil))
theorem case11 : CaseR (rowH (sentH 225 12 errTab) [.int .i64 (.var 8)]) [((-9223372036854775808), 9223372036854775807), (0, 4294967295), (0, 1), (0, 1), (0, 1), (0, 1), (0, 1), (0, 1), ((-9223372036854775808), 9223372036854775807)] [] [(0, 5, .lit 1), (8, 2, .var 2)] [.int .i64 (.var 0), .slice 18 0 1 1 1 false, .int .u32 (.var 1)] := caseR (fun hL hk hT => FnsOk.cons (hT.ok fit) (FnsOk.cons (pure_fn_ok (all_cons (p6_ok hL) (all_cons (p7_ok hL) (all_cons (p8_ok hL) (all_cons (p9_ok hL) (all_cons (p10_ok hL) (all_cons (p11_ok hL) (all_cons (p25_ok hL hk) (all_cons (p4_ok hL) (all_cons (p5_ok hL) (all_cons (p23_ok hL) (all_cons (p26_ok hL hk) (all_cons (p22_ok hL) (all_nil)))))))))))))) (FnsOk.cons (sym_fn_ok (Γ := cxX Tryd.prog bad [((-9223372036854775808), 9223372036854775807), (0, 4294967295), (0, 1), (0, 1), (0, 1), (0, 1), (0, 1), (0, 1), ((-9223372036854775808), 9223372036854775807)] [] []) (fix := 18) ⟨hk.rng, hk.facts⟩ (by decide) (y21_ok hL)) ((q22_ok hL))))) (by kernel_rfl : isTrue (evCall (cxX Tryd.prog bad [((-9223372036854775808), 9223372036854775807), (0, 4294967295), (0, 1), (0, 1), (0, 1), (0, 1), (0, 1), (0, 1), ((-9223372036854775808), 9223372036854775807)] [] ((11, numExtE [(0, 5, .lit 1), (8, 2, .var 2)]) :: (65, pureFn [p6, p7, p8, p9, p10, p11, p25, p4, p5, p23, p26, p22]) :: (47, symFn (cxX Tryd.prog bad [((-9223372036854775808), 9223372036854775807), (0, 4294967295), (0, 1), (0, 1), (0, 1), (0, 1), (0, 1), (0, 1), ((-9223372036854775808), 9223372036854775807)] [] []) 18 y21) :: q22)) 1000 60 4 [.int .i64 (.var 0), .slice 18 0 1 1 1 false, .int .u32 (.var 1)] (rowH (sentH 225 12 errTab) [.int .i64 (.var 8)])) = true)
noncomputable def h23 : H := hUpd h7 81 [] [] []
noncomputable def h24 : H := hUpd h14 136 [142, 102, 138, 98, 140, 104, 136, 144, 141, 101, 105, 137, 139, 99, 143] [(126, .cells 1 ([[.slice 125 0 8 8 3 true]]) false),
  (94, .cells 1 ([[.slice 93 0 8 8 3 true]]) false),
  (86, .cells 3 (rp 24 ([bF, I 0, bF]) ([])) false),
  (134, .cells 1 ([[.snil]]) false),
  (122, .cells 1 ([[.slice 121 0 12 12 3 true]]) false),
  (90, .cells 2 ([[.ptr 85 0, .ptr 89 0]]) false),
  (82, .cells 3 (rp 16 ([bF, I 0, bF]) ([])) false),
  (130, .cells 3 (rp 6 ([bF, I 0, bF]) ([])) false),
  (124, .cells 2 ([[.ptr 122 0, .slice 123 0 12 12 2 true]]) false),
  (92, .cells 3 ([[.ptr 90 0, I 16, .ptr 91 0]]) false),
  (84, .cells 80 (rp 16 (rp 4 (I 0) ((U 0) :: rp 4 (I 0) ((U 0) :: rp 4 (I 0) ((U 0) :: rp 4 (I 0) ((U 0) :: rp 4 (I 0) ((U 0) :: rp 4 (I 0) ((U 0) :: rp 4 (I 0) ((U 0) :: rp 4 (I 0) ((U 0) :: rp 4 (I 0) ((U 0) :: rp 4 (I 0) ((U 0) :: rp 4 (I 0) ((U 0) :: rp 4 (I 0) ((U 0) :: rp 4 (I 0) ((U 0) :: rp 4 (I 0) ((U 0) :: rp 4 (I 0) ((U 0) :: rp 4 (I 0) ([U 0]))))))))))))))))) ([])) false),
  (100, .cells 1 ([[.snil]]) false),
  (132, .cells 31 (rp 6 ((bF) :: rp 4 (I 0) ((U 0) :: rp 4 (I 0) ((U 0) :: rp 4 (I 0) ((U 0) :: rp 4 (I 0) ((U 0) :: rp 4 (I 0) ((U 0) :: rp 4 (I 0) ([U 0]))))))) ([])) false),
  (120, .cells 1 ([[.ptr 97 0], [.ptr 100 0], [.ptr 103 0], [.ptr 106 0], [.ptr 109 0], [.ptr 112 0], [.ptr 115 0], [.ptr 118 0]]) false),
  (88, .cells 32 (rp 24 (rp 32 (U 0) ([])) ([])) false),
  (96, .cells 3 ([[.ptr 94 0, .slice 95 0 8 8 107 true, .slice 120 0 8 8 1 false]]) false),
  (128, .map [] 0),
  (125, .cells 3 (rp 8 ([bF, I 0, bF]) ([])) false),
  (93, .cells 3 (rp 8 ([bF, I 0, bF]) ([])) false),
  (85, .cells 2 ([[.ptr 83 0, .slice 84 0 16 16 80 true]]) false),
  (121, .cells 3 (rp 12 ([bF, I 0, bF]) ([])) false),
  (89, .cells 2 ([[.ptr 87 0, .slice 88 0 24 24 32 true]]) false),
  (97, .cells 1 ([[.snil]]) false),
  (129, .cells 5 ([[.ptr 126 0, .slice 127 0 8 8 3 true, .map 128, .ptr 92 0, .ptr 96 0]]) false),
  (123, .cells 2 (rp 12 ([I 0, I 0]) ([])) false),
  (91, .cells 3 ([[I 16, .snil, I 0]]) false),
  (83, .cells 1 ([[.slice 82 0 16 16 3 true]]) false),
  (87, .cells 1 ([[.slice 86 0 24 24 3 true]]) false),
  (135, .cells 9 ([[.ptr 92 0, .ptr 96 0, .ptr 124 0, .ptr 129 0, .ptr 133 0, .ptr 134 0, .snil, .snil, I 0]]) false),
  (95, .cells 107 (rp 8 (rp 9 (U 0) (rp 6 (I 0) ((U 0) :: rp 4 (I 0) ((U 0) :: rp 4 (I 0) ((U 0) :: rp 4 (I 0) ((U 0) :: rp 4 (I 0) ((U 0) :: rp 4 (I 0) ((U 0) :: rp 4 (I 0) ((U 0) :: rp 4 (I 0) ((U 0) :: rp 4 (I 0) ((U 0) :: rp 4 (I 0) ((U 0) :: rp 4 (I 0) ((U 0) :: rp 4 (I 0) ((U 0) :: rp 4 (I 0) ((U 0) :: rp 4 (I 0) ((U 0) :: rp 4 (I 0) ((U 0) :: rp 4 (I 0) ((U 0) :: rp 4 (I 0) ((U 0) :: rp 4 (I 0) ((U 0) :: rp 4 (I 0) ([U 0, I 0]))))))))))))))))))))) ([])) false),
  (127, .cells 3 (rp 8 ([I 0, I 0, I 0]) ([])) false)] [(18, 0, [.int .i64 (.var 8), .int .i64 (.var 9)]),
  (133, 0, [.ptr 131 0, .slice 132 0 6 6 31 true]),
  (131, 0, [.slice 130 0 6 6 3 true]),
  (103, 0, [.snil])]
noncomputable def m27 : Memo := ⟨[.agg [I 16, I 24, I 8, I 12, I 8, I 6]], h23, .tuple [.ptr 135 0, .inil], h24⟩
theorem m27_run : ranTo (evCall (cxX Tryd.prog bad [] [] []) 1000 60 6 m27.args m27.h) m27.v m27.h' = true := by kernel_rfl
theorem m27_ok {σ : Nat → Int} {W0 : World} (hL : L0 W0) : MemoOk Tryd.prog 95 σ W0 6 m27 := memo_ok fit (Known2.nil σ) (FnsOk.nil) m27_run
noncomputable def s9 : Sym := ⟨[.ptr 18 0, .agg [.slice 19 0 1 1 1 true, I 11, .slice 20 0 2 2 1 false, bF]], h22, [18, 21, 24, 27, 39, 40, 53, 56, 57, 23, 32, 35, 50, 55, 22, 29, 36, 41, 58, 33, 34, 54, 19, 30, 51, 14, 6, 12, 16, 4, 2, 13, 17, 15, 3, 1, 0], [(0, 4294967295), (0, 1099511627775), (0, 1099511627775), (0, 1099511627775), (0, 1099511627775), (0, 1099511627775), (0, 1099511627775), (0, 1099511627775), (0, 1099511627775), (0, 1099511627775), (0, 4294967295), (0, 1099511627775), (0, 1099511627775), (0, 1099511627775), (0, 1099511627775), (0, 1099511627775), (0, 1099511627775), (0, 1099511627775), (0, 1099511627775), (0, 1099511627775), (0, 1099511627775), (0, 1099511627775), (0, 1099511627775), (0, 4294967295), (0, 1099511627775), (0, 1099511627775), (0, 1099511627775), (0, 1099511627775), (0, 1099511627775), (0, 1099511627775), (0, 1099511627775), (0, 1099511627775), (0, 1099511627775), (0, 1099511627775), (0, 1099511627775), (0, 1099511627775), (0, 4294967295), (0, 1099511627775), (0, 1099511627775), (0, 1099511627775), (0, 1099511627775), (0, 1099511627775), (0, 1099511627775), (0, 1099511627775), (0, 1099511627775), (0, 1099511627775), (0, 1099511627775), (0, 1099511627775), (0, 1099511627775), (0, 4294967295), (0, 1099511627775), (0, 1099511627775), (0, 1099511627775), (0, 1099511627775), (0, 1099511627775), (0, 1099511627775), (0, 1099511627775), (0, 1099511627775), (0, 1099511627775), (0, 1099511627775), (0, 1099511627775), (0, 1099511627775), (0, 1099511627775), (0, 1099511627775), (0, 1099511627775), (0, 1099511627775), (0, 1099511627775), (0, 1099511627775), (0, 1099511627775), (0, 1099511627775), (0, 1099511627775), (0, 1099511627775), (0, 4294967295)],
  [(false, .sub (.lit 60) (.var 56), .lit 1, false), (false, .sub (.lit 60) (.add (.var 56) (.lit 1)), .lit 1, false), (false, .sub (.lit 60) (.add (.var 56) (.lit 2)), .lit 1, false), (false, .sub (.lit 60) (.add (.var 56) (.lit 3)), .lit 1, false)],
  .tuple [I 1, .inil],
  [.cel 30 1 9 (I 1),
  .cel 30 1 11 (I 8),
  .cel 30 1 16 (I 7),
  .cel 30 1 17 (I 2),
  .cel 30 1 21 (I 11),
  .cel 30 1 26 (I 12),
  .cel 30 1 31 (I 13),
  .cel 30 1 36 (I 14),
  .cel 30 1 91 (I 2),
  .cel 30 1 92 (I 1),
  .cel 30 1 95 (U 1),
  .cel 30 1 96 (I 7),
  .cel 30 1 97 (I 2),
  .row 33 2 ([I 0, I 11]),
  .row 35 0 ([IZ (-1), I 60, .int .i64 (.add (.var 56) (.lit 4))]),
  .set 36 (.map [(.agg [I 3, I 0], .agg [I 0, I 0], 0), (.agg [I 3, I 1], .agg [I 0, I 0], 1), (.agg [I 2, I 0], .agg [I 0, I 0], 2), (.agg [I 4, I 0], .agg [I 0, I 0], 3), (.agg [I 3, I 2], .agg [I 0, I 0], 4), (.agg [I 3, I 3], .agg [I 0, I 0], 5), (.agg [I 2, I 1], .agg [I 0, I 0], 6), (.agg [I 4, I 1], .agg [I 0, I 0], 7)] 8),
  .row 41 1 ([bT, I 0, bF]),
  .row 50 2 ([bT, I 0, bF]),
  .cel 54 1 0 (I 3),
  .cel 54 1 1 (I 2),
  .cel 54 1 5 (I 3),
  .cel 54 1 6 (I 3),
  .cel 56 2 0 (.int .u32 (.var 0)),
  .row 57 1 ([bT, I 0, bF]),
  .row 58 2 ([bT, I 0, bF]),
  .row 58 3 ([bT, I 0, bF])], 534⟩
theorem s9_run : ranTo (evCall (cxX Tryd.prog bad s9.rng s9.facts [(65, pureFn l17)]) 1000 60 47 s9.args s9.pre) s9.v s9.post = true := by kernel_rfl
theorem s9_ok {W0 : World} (hL : L0 W0) : SymOk Tryd.prog 95 W0 47 s9 := sym_ok fit (fun σ hk => FnsOk.cons (pure_fn_ok (l17_ok hL)) (FnsOk.nil)) s9_run (by kernel_rfl)
noncomputable def p28 : Pur := ([.agg [I 5, .int .i64 (.var 2), I 0, I 0, U 0]], .inil, 1048576)
theorem p28_run : ranPure (evCall (cxX Tryd.prog bad [((-9223372036854775808), 9223372036854775807), (0, 4294967295), (0, 1), (0, 1), (0, 1), (0, 1), (0, 1), (0, 1), ((-9223372036854775808), 9223372036854775807), ((-9223372036854775808), 9223372036854775807)] [] []) 1000 60 65 p28.1 ⟨.lf, p28.2.2⟩) p28.2.1 = true := by kernel_rfl
theorem p28_ok {σ : Nat → Int} {W0 : World} (hL : L0 W0) (hk : Known2 σ [((-9223372036854775808), 9223372036854775807), (0, 4294967295), (0, 1), (0, 1), (0, 1), (0, 1), (0, 1), (0, 1), ((-9223372036854775808), 9223372036854775807), ((-9223372036854775808), 9223372036854775807)] []) : PureOk Tryd.prog 95 σ W0 65 p28 := pure_ok fit hk (FnsOk.nil) p28_run
noncomputable def p29 : Pur := ([.agg [I 5, .int .i64 (.var 3), I 0, I 0, U 0]], .inil, 1048576)
theorem p29_run : ranPure (evCall (cxX Tryd.prog bad [((-9223372036854775808), 9223372036854775807), (0, 4294967295), (0, 1), (0, 1), (0, 1), (0, 1), (0, 1), (0, 1), ((-9223372036854775808), 9223372036854775807), ((-9223372036854775808), 9223372036854775807)] [] []) 1000 60 65 p29.1 ⟨.lf, p29.2.2⟩) p29.2.1 = true := by kernel_rfl
theorem p29_ok {σ : Nat → Int} {W0 : World} (hL : L0 W0) (hk : Known2 σ [((-9223372036854775808), 9223372036854775807), (0, 4294967295), (0, 1), (0, 1), (0, 1), (0, 1), (0, 1), (0, 1), ((-9223372036854775808), 9223372036854775807), ((-9223372036854775808), 9223372036854775807)] []) : PureOk Tryd.prog 95 σ W0 65 p29 := pure_ok fit hk (FnsOk.nil) p29_run
noncomputable def p30 : Pur := ([.agg [I 5, .int .i64 (.var 2), I 0, I 0, U 1]], .inil, 1048576)
theorem p30_run : ranPure (evCall (cxX Tryd.prog bad [((-9223372036854775808), 9223372036854775807), (0, 4294967295), (0, 1), (0, 1), (0, 1), (0, 1), (0, 1), (0, 1), ((-9223372036854775808), 9223372036854775807), ((-9223372036854775808), 9223372036854775807)] [] []) 1000 60 65 p30.1 ⟨.lf, p30.2.2⟩) p30.2.1 = true := by kernel_rfl
theorem p30_ok {σ : Nat → Int} {W0 : World} (hL : L0 W0) (hk : Known2 σ [((-9223372036854775808), 9223372036854775807), (0, 4294967295), (0, 1), (0, 1), (0, 1), (0, 1), (0, 1), (0, 1), ((-9223372036854775808), 9223372036854775807), ((-9223372036854775808), 9223372036854775807)] []) : PureOk Tryd.prog 95 σ W0 65 p30 := pure_ok fit hk (FnsOk.nil) p30_run
noncomputable def p31 : Pur := ([.agg [I 5, .int .i64 (.var 3), I 0, I 0, U 1]], .inil, 1048576)
theorem p31_run : ranPure (evCall (cxX Tryd.prog bad [((-9223372036854775808), 9223372036854775807), (0, 4294967295), (0, 1), (0, 1), (0, 1), (0, 1), (0, 1), (0, 1), ((-9223372036854775808), 9223372036854775807), ((-9223372036854775808), 9223372036854775807)] [] []) 1000 60 65 p31.1 ⟨.lf, p31.2.2⟩) p31.2.1 = true := by kernel_rfl
theorem p31_ok {σ : Nat → Int} {W0 : World} (hL : L0 W0) (hk : Known2 σ [((-9223372036854775808), 9223372036854775807), (0, 4294967295), (0, 1), (0, 1), (0, 1), (0, 1), (0, 1), (0, 1), ((-9223372036854775808), 9223372036854775807), ((-9223372036854775808), 9223372036854775807)] []) : PureOk Tryd.prog 95 σ W0 65 p31 := pure_ok fit hk (FnsOk.nil) p31_run
noncomputable def y23 : List Sym := [s0, s7, s1, s2, s3, s4, s5, s6, s8, s9]
theorem y23_ok {W0 : World} (hL : L0 W0) : ∀ x ∈ y23, SymOk Tryd.prog 95 W0 47 x := all_cons (s0_ok hL) (all_cons (s7_ok hL) (all_cons (s1_ok hL) (all_cons (s2_ok hL) (all_cons (s3_ok hL) (all_cons (s4_ok hL) (all_cons (s5_ok hL) (all_cons (s6_ok hL) (all_cons (s8_ok hL) (all_cons (s9_ok hL) (all_nil))))))))))
noncomputable def q24 : Fns := [(10, pureFn [p0]), (6, frameFn [m27])]
theorem q24_ok {σ : Nat → Int} {W0 : World} (hL : L0 W0) : FnsOk Tryd.prog 95 σ W0 q24 := FnsOk.cons (pure_fn_ok (all_cons (p0_ok hL) (all_nil))) (FnsOk.cons (frame_fn_ok (all_cons (m27_ok hL) (all_nil))) (FnsOk.nil))
theorem case12 : CaseR (rowH (sentH 225 12 errTab) [.int .i64 (.var 8), .int .i64 (.var 9)]) [((-9223372036854775808), 9223372036854775807), (0, 4294967295), (0, 1), (0, 1), (0, 1), (0, 1), (0, 1), (0, 1), ((-9223372036854775808), 9223372036854775807), ((-9223372036854775808), 9223372036854775807)] [] [(0, 5, .lit 1), (8, 2, .var 2), (9, 2, .var 3)] [.int .i64 (.var 0), .slice 18 0 2 2 1 false, .int .u32 (.var 1)] := caseR (fun hL hk hT => FnsOk.cons (hT.ok fit) (FnsOk.cons (pure_fn_ok (all_cons (p6_ok hL) (all_cons (p7_ok hL) (all_cons (p8_ok hL) (all_cons (p9_ok hL) (all_cons (p10_ok hL) (all_cons (p11_ok hL) (all_cons (p28_ok hL hk) (all_cons (p29_ok hL hk) (all_cons (p4_ok hL) (all_cons (p5_ok hL) (all_cons (p23_ok hL) (all_cons (p30_ok hL hk) (all_cons (p31_ok hL hk) (all_cons (p22_ok hL) (all_nil)))))))))))))))) (FnsOk.cons (sym_fn_ok (Γ := cxX Tryd.prog bad [((-9223372036854775808), 9223372036854775807), (0, 4294967295), (0, 1), (0, 1), (0, 1), (0, 1), (0, 1), (0, 1), ((-9223372036854775808), 9223372036854775807), ((-9223372036854775808), 9223372036854775807)] [] []) (fix := 18) ⟨hk.rng, hk.facts⟩ (by decide) (y23_ok hL)) ((q24_ok hL))))) (by kernel_rfl : isTrue (evCall (cxX Tryd.prog bad [((-9223372036854775808), 9223372036854775807), (0, 4294967295), (0, 1), (0, 1), (0, 1), (0, 1), (0, 1), (0, 1), ((-9223372036854775808), 9223372036854775807), ((-9223372036854775808), 9223372036854775807)] [] ((11, numExtE [(0, 5, .lit 1), (8, 2, .var 2), (9, 2, .var 3)]) :: (65, pureFn [p6, p7, p8, p9, p10, p11, p28, p29, p4, p5, p23, p30, p31, p22]) :: (47, symFn (cxX Tryd.prog bad [((-9223372036854775808), 9223372036854775807), (0, 4294967295), (0, 1), (0, 1), (0, 1), (0, 1), (0, 1), (0, 1), ((-9223372036854775808), 9223372036854775807), ((-9223372036854775808), 9223372036854775807)] [] []) 18 y23) :: q24)) 1000 60 4 [.int .i64 (.var 0), .slice 18 0 2 2 1 false, .int .u32 (.var 1)] (rowH (sentH 225 12 errTab) [.int .i64 (.var 8), .int .i64 (.var 9)])) = true)
noncomputable def h25 : H := hUpd h9 107 [] [] []
noncomputable def h26 : H := hUpd h9 162 [] [(126, .cells 1 ([[.snil]]) false),
  (158, .cells 31 (rp 6 ((bF) :: rp 4 (I 0) ((U 0) :: rp 4 (I 0) ((U 0) :: rp 4 (I 0) ((U 0) :: rp 4 (I 0) ((U 0) :: rp 4 (I 0) ((U 0) :: rp 4 (I 0) ([U 0]))))))) ([])) false),
  (110, .cells 80 (rp 16 (rp 4 (I 0) ((U 0) :: rp 4 (I 0) ((U 0) :: rp 4 (I 0) ((U 0) :: rp 4 (I 0) ((U 0) :: rp 4 (I 0) ((U 0) :: rp 4 (I 0) ((U 0) :: rp 4 (I 0) ((U 0) :: rp 4 (I 0) ((U 0) :: rp 4 (I 0) ((U 0) :: rp 4 (I 0) ((U 0) :: rp 4 (I 0) ((U 0) :: rp 4 (I 0) ((U 0) :: rp 4 (I 0) ((U 0) :: rp 4 (I 0) ((U 0) :: rp 4 (I 0) ((U 0) :: rp 4 (I 0) ([U 0]))))))))))))))))) ([])) false),
  (118, .cells 3 ([[.ptr 116 0, I 16, .ptr 117 0]]) false),
  (150, .cells 2 ([[.ptr 148 0, .slice 149 0 12 12 2 true]]) false),
  (122, .cells 3 ([[.ptr 120 0, .slice 121 0 8 8 107 true, .slice 146 0 8 8 1 false]]) false),
  (154, .map [] 0),
  (138, .cells 1 ([[.snil]]) false),
  (114, .cells 32 (rp 24 (rp 32 (U 0) ([])) ([])) false),
  (146, .cells 1 ([[.ptr 123 0], [.ptr 126 0], [.ptr 129 0], [.ptr 132 0], [.ptr 135 0], [.ptr 138 0], [.ptr 141 0], [.ptr 144 0]]) false),
  (156, .cells 3 (rp 6 ([bF, I 0, bF]) ([])) false),
  (108, .cells 3 (rp 16 ([bF, I 0, bF]) ([])) false),
  (116, .cells 2 ([[.ptr 111 0, .ptr 115 0]]) false),
  (148, .cells 1 ([[.slice 147 0 12 12 3 true]]) false),
  (132, .cells 1 ([[.snil]]) false),
  (120, .cells 1 ([[.slice 119 0 8 8 3 true]]) false),
  (152, .cells 1 ([[.slice 151 0 8 8 3 true]]) false),
  (112, .cells 3 (rp 24 ([bF, I 0, bF]) ([])) false),
  (144, .cells 1 ([[.snil]]) false),
  (160, .cells 1 ([[.snil]]) false),
  (157, .cells 1 ([[.slice 156 0 6 6 3 true]]) false),
  (109, .cells 1 ([[.slice 108 0 16 16 3 true]]) false),
  (141, .cells 1 ([[.snil]]) false),
  (117, .cells 3 ([[I 16, .snil, I 0]]) false),
  (149, .cells 2 (rp 12 ([I 0, I 0]) ([])) false),
  (121, .cells 107 (rp 8 (rp 9 (U 0) (rp 6 (I 0) ((U 0) :: rp 4 (I 0) ((U 0) :: rp 4 (I 0) ((U 0) :: rp 4 (I 0) ((U 0) :: rp 4 (I 0) ((U 0) :: rp 4 (I 0) ((U 0) :: rp 4 (I 0) ((U 0) :: rp 4 (I 0) ((U 0) :: rp 4 (I 0) ((U 0) :: rp 4 (I 0) ((U 0) :: rp 4 (I 0) ((U 0) :: rp 4 (I 0) ((U 0) :: rp 4 (I 0) ((U 0) :: rp 4 (I 0) ((U 0) :: rp 4 (I 0) ((U 0) :: rp 4 (I 0) ((U 0) :: rp 4 (I 0) ((U 0) :: rp 4 (I 0) ((U 0) :: rp 4 (I 0) ([U 0, I 0]))))))))))))))))))))) ([])) false),
  (153, .cells 3 (rp 8 ([I 0, I 0, I 0]) ([])) false),
  (113, .cells 1 ([[.slice 112 0 24 24 3 true]]) false),
  (161, .cells 9 ([[.ptr 118 0, .ptr 122 0, .ptr 150 0, .ptr 155 0, .ptr 159 0, .ptr 160 0, .snil, .snil, I 0]]) false),
  (129, .cells 1 ([[.snil]]) false),
  (123, .cells 1 ([[.snil]]) false),
  (155, .cells 5 ([[.ptr 152 0, .slice 153 0 8 8 3 true, .map 154, .ptr 118 0, .ptr 122 0]]) false),
  (115, .cells 2 ([[.ptr 113 0, .slice 114 0 24 24 32 true]]) false),
  (147, .cells 3 (rp 12 ([bF, I 0, bF]) ([])) false),
  (119, .cells 3 (rp 8 ([bF, I 0, bF]) ([])) false),
  (151, .cells 3 (rp 8 ([bF, I 0, bF]) ([])) false),
  (135, .cells 1 ([[.snil]]) false),
  (111, .cells 2 ([[.ptr 109 0, .slice 110 0 16 16 80 true]]) false),
  (159, .cells 2 ([[.ptr 157 0, .slice 158 0 6 6 31 true]]) false)] []
noncomputable def m32 : Memo := ⟨[.agg [I 16, I 24, I 8, I 12, I 8, I 6]], h25, .tuple [.ptr 161 0, .inil], h26⟩
theorem m32_run : ranTo (evCall (cxX Tryd.prog bad [] [] []) 1000 60 6 m32.args m32.h) m32.v m32.h' = true := by kernel_rfl
theorem m32_ok {σ : Nat → Int} {W0 : World} (hL : L0 W0) : MemoOk Tryd.prog 95 σ W0 6 m32 := memo_ok fit (Known2.nil σ) (FnsOk.nil) m32_run
noncomputable def s10 : Sym := ⟨[.ptr 18 0, .agg [.slice 19 0 1 1 1 true, I 11, .slice 20 0 3 3 1 false, bF]], h22, [18, 21, 24, 27, 39, 40, 53, 56, 57, 23, 32, 35, 50, 55, 22, 29, 36, 41, 58, 33, 34, 54, 19, 30, 51, 14, 6, 12, 16, 4, 2, 13, 17, 15, 3, 1, 0], [(0, 4294967295), (0, 1099511627775), (0, 1099511627775), (0, 1099511627775), (0, 1099511627775), (0, 1099511627775), (0, 1099511627775), (0, 1099511627775), (0, 1099511627775), (0, 1099511627775), (0, 4294967295), (0, 1099511627775), (0, 1099511627775), (0, 1099511627775), (0, 1099511627775), (0, 1099511627775), (0, 1099511627775), (0, 1099511627775), (0, 1099511627775), (0, 1099511627775), (0, 1099511627775), (0, 1099511627775), (0, 1099511627775), (0, 4294967295), (0, 1099511627775), (0, 1099511627775), (0, 1099511627775), (0, 1099511627775), (0, 1099511627775), (0, 1099511627775), (0, 1099511627775), (0, 1099511627775), (0, 1099511627775), (0, 1099511627775), (0, 1099511627775), (0, 1099511627775), (0, 4294967295), (0, 1099511627775), (0, 1099511627775), (0, 1099511627775), (0, 1099511627775), (0, 1099511627775), (0, 1099511627775), (0, 1099511627775), (0, 1099511627775), (0, 1099511627775), (0, 1099511627775), (0, 1099511627775), (0, 1099511627775), (0, 4294967295), (0, 1099511627775), (0, 1099511627775), (0, 1099511627775), (0, 1099511627775), (0, 1099511627775), (0, 1099511627775), (0, 1099511627775), (0, 1099511627775), (0, 1099511627775), (0, 1099511627775), (0, 1099511627775), (0, 1099511627775), (0, 1099511627775), (0, 1099511627775), (0, 1099511627775), (0, 1099511627775), (0, 1099511627775), (0, 1099511627775), (0, 1099511627775), (0, 1099511627775), (0, 1099511627775), (0, 1099511627775), (0, 4294967295)],
  [(false, .sub (.lit 60) (.var 56), .lit 1, false), (false, .sub (.lit 60) (.add (.var 56) (.lit 1)), .lit 1, false), (false, .sub (.lit 60) (.add (.var 56) (.lit 2)), .lit 1, false), (false, .sub (.lit 60) (.add (.var 56) (.lit 3)), .lit 1, false)],
  .tuple [I 1, .inil],
  [.cel 30 1 9 (I 1),
  .cel 30 1 11 (I 8),
  .cel 30 1 16 (I 7),
  .cel 30 1 17 (I 2),
  .cel 30 1 21 (I 11),
  .cel 30 1 26 (I 12),
  .cel 30 1 31 (I 13),
  .cel 30 1 36 (I 14),
  .cel 30 1 91 (I 2),
  .cel 30 1 92 (I 1),
  .cel 30 1 95 (U 1),
  .cel 30 1 96 (I 7),
  .cel 30 1 97 (I 2),
  .row 33 2 ([I 0, I 11]),
  .row 35 0 ([IZ (-1), I 60, .int .i64 (.add (.var 56) (.lit 4))]),
  .set 36 (.map [(.agg [I 3, I 0], .agg [I 0, I 0], 0), (.agg [I 3, I 1], .agg [I 0, I 0], 1), (.agg [I 2, I 0], .agg [I 0, I 0], 2), (.agg [I 4, I 0], .agg [I 0, I 0], 3), (.agg [I 3, I 2], .agg [I 0, I 0], 4), (.agg [I 3, I 3], .agg [I 0, I 0], 5), (.agg [I 2, I 1], .agg [I 0, I 0], 6), (.agg [I 4, I 1], .agg [I 0, I 0], 7)] 8),
  .row 41 1 ([bT, I 0, bF]),
  .row 50 2 ([bT, I 0, bF]),
  .cel 54 1 0 (I 3),
  .cel 54 1 1 (I 2),
  .cel 54 1 5 (I 3),
  .cel 54 1 6 (I 3),
  .cel 56 2 0 (.int .u32 (.var 0)),
  .row 57 1 ([bT, I 0, bF]),
  .row 58 2 ([bT, I 0, bF]),
  .row 58 3 ([bT, I 0, bF])], 534⟩
theorem s10_run : ranTo (evCall (cxX Tryd.prog bad s10.rng s10.facts [(65, pureFn l17)]) 1000 60 47 s10.args s10.pre) s10.v s10.post = true := by kernel_rfl
theorem s10_ok {W0 : World} (hL : L0 W0) : SymOk Tryd.prog 95 W0 47 s10 := sym_ok fit (fun σ hk => FnsOk.cons (pure_fn_ok (l17_ok hL)) (FnsOk.nil)) s10_run (by kernel_rfl)
noncomputable def p33 : Pur := ([.agg [I 5, .int .i64 (.var 2), I 0, I 0, U 0]], .inil, 1048576)
theorem p33_run : ranPure (evCall (cxX Tryd.prog bad [((-9223372036854775808), 9223372036854775807), (0, 4294967295), (0, 1), (0, 1), (0, 1), (0, 1), (0, 1), (0, 1), ((-9223372036854775808), 9223372036854775807), ((-9223372036854775808), 9223372036854775807), ((-9223372036854775808), 9223372036854775807)] [] []) 1000 60 65 p33.1 ⟨.lf, p33.2.2⟩) p33.2.1 = true := by kernel_rfl
theorem p33_ok {σ : Nat → Int} {W0 : World} (hL : L0 W0) (hk : Known2 σ [((-9223372036854775808), 9223372036854775807), (0, 4294967295), (0, 1), (0, 1), (0, 1), (0, 1), (0, 1), (0, 1), ((-9223372036854775808), 9223372036854775807), ((-9223372036854775808), 9223372036854775807), ((-9223372036854775808), 9223372036854775807)] []) : PureOk Tryd.prog 95 σ W0 65 p33 := pure_ok fit hk (FnsOk.nil) p33_run
noncomputable def p34 : Pur := ([.agg [I 5, .int .i64 (.var 3), I 0, I 0, U 0]], .inil, 1048576)
theorem p34_run : ranPure (evCall (cxX Tryd.prog bad [((-9223372036854775808), 9223372036854775807), (0, 4294967295), (0, 1), (0, 1), (0, 1), (0, 1), (0, 1), (0, 1), ((-9223372036854775808), 9223372036854775807), ((-9223372036854775808), 9223372036854775807), ((-9223372036854775808), 9223372036854775807)] [] []) 1000 60 65 p34.1 ⟨.lf, p34.2.2⟩) p34.2.1 = true := by kernel_rfl
theorem p34_ok {σ : Nat → Int} {W0 : World} (hL : L0 W0) (hk : Known2 σ [((-9223372036854775808), 9223372036854775807), (0, 4294967295), (0, 1), (0, 1), (0, 1), (0, 1), (0, 1), (0, 1), ((-9223372036854775808), 9223372036854775807), ((-9223372036854775808), 9223372036854775807), ((-9223372036854775808), 9223372036854775807)] []) : PureOk Tryd.prog 95 σ W0 65 p34 := pure_ok fit hk (FnsOk.nil) p34_run
noncomputable def p35 : Pur := ([.agg [I 5, .int .i64 (.var 4), I 0, I 0, U 0]], .inil, 1048576)
theorem p35_run : ranPure (evCall (cxX Tryd.prog bad [((-9223372036854775808), 9223372036854775807), (0, 4294967295), (0, 1), (0, 1), (0, 1), (0, 1), (0, 1), (0, 1), ((-9223372036854775808), 9223372036854775807), ((-9223372036854775808), 9223372036854775807), ((-9223372036854775808), 9223372036854775807)] [] []) 1000 60 65 p35.1 ⟨.lf, p35.2.2⟩) p35.2.1 = true := by kernel_rfl
theorem p35_ok {σ : Nat → Int} {W0 : World} (hL : L0 W0) (hk : Known2 σ [((-9223372036854775808), 9223372036854775807), (0, 4294967295), (0, 1), (0, 1), (0, 1), (0, 1), (0, 1), (0, 1), ((-9223372036854775808), 9223372036854775807), ((-9223372036854775808), 9223372036854775807), ((-9223372036854775808), 9223372036854775807)] []) : PureOk Tryd.prog 95 σ W0 65 p35 := pure_ok fit hk (FnsOk.nil) p35_run
noncomputable def p36 : Pur := ([.agg [I 5, .int .i64 (.var 2), I 0, I 0, U 1]], .inil, 1048576)
theorem p36_run : ranPure (evCall (cxX Tryd.prog bad [((-9223372036854775808), 9223372036854775807), (0, 4294967295), (0, 1), (0, 1), (0, 1), (0, 1), (0, 1), (0, 1), ((-9223372036854775808), 9223372036854775807), ((-9223372036854775808), 9223372036854775807), ((-9223372036854775808), 9223372036854775807)] [] []) 1000 60 65 p36.1 ⟨.lf, p36.2.2⟩) p36.2.1 = true := by kernel_rfl
theorem p36_ok {σ : Nat → Int} {W0 : World} (hL : L0 W0) (hk : Known2 σ [((-9223372036854775808), 9223372036854775807), (0, 4294967295), (0, 1), (0, 1), (0, 1), (0, 1), (0, 1), (0, 1), ((-9223372036854775808), 9223372036854775807), ((-9223372036854775808), 9223372036854775807), ((-9223372036854775808), 9223372036854775807)] []) : PureOk Tryd.prog 95 σ W0 65 p36 := pure_ok fit hk (FnsOk.nil) p36_run
noncomputable def p37 : Pur := ([.agg [I 5, .int .i64 (.var 3), I 0, I 0, U 1]], .inil, 1048576)
theorem p37_run : ranPure (evCall (cxX Tryd.prog bad [((-9223372036854775808), 9223372036854775807), (0, 4294967295), (0, 1), (0, 1), (0, 1), (0, 1), (0, 1), (0, 1), ((-9223372036854775808), 9223372036854775807), ((-9223372036854775808), 9223372036854775807), ((-9223372036854775808), 9223372036854775807)] [] []) 1000 60 65 p37.1 ⟨.lf, p37.2.2⟩) p37.2.1 = true := by kernel_rfl
theorem p37_ok {σ : Nat → Int} {W0 : World} (hL : L0 W0) (hk : Known2 σ [((-9223372036854775808), 9223372036854775807), (0, 4294967295), (0, 1), (0, 1), (0, 1), (0, 1), (0, 1), (0, 1), ((-9223372036854775808), 9223372036854775807), ((-9223372036854775808), 9223372036854775807), ((-9223372036854775808), 9223372036854775807)] []) : PureOk Tryd.prog 95 σ W0 65 p37 := pure_ok fit hk (FnsOk.nil) p37_run
noncomputable def p38 : Pur := ([.agg [I 5, .int .i64 (.var 4), I 0, I 0, U 1]], .inil, 1048576)
theorem p38_run : ranPure (evCall (cxX Tryd.prog bad [((-9223372036854775808), 9223372036854775807), (0, 4294967295), (0, 1), (0, 1), (0, 1), (0, 1), (0, 1), (0, 1), ((-9223372036854775808), 9223372036854775807), ((-9223372036854775808), 9223372036854775807), ((-9223372036854775808), 9223372036854775807)] [] []) 1000 60 65 p38.1 ⟨.lf, p38.2.2⟩) p38.2.1 = true := by kernel_rfl
theorem p38_ok {σ : Nat → Int} {W0 : World} (hL : L0 W0) (hk : Known2 σ [((-9223372036854775808), 9223372036854775807), (0, 4294967295), (0, 1), (0, 1), (0, 1), (0, 1), (0, 1), (0, 1), ((-9223372036854775808), 9223372036854775807), ((-9223372036854775808), 9223372036854775807), ((-9223372036854775808), 9223372036854775807)] []) : PureOk Tryd.prog 95 σ W0 65 p38 := pure_ok fit hk (FnsOk.nil) p38_run
noncomputable def y25 : List Sym := [s0, s7, s1, s2, s3, s4, s5, s6, s8, s9, s10]
theorem y25_ok {W0 : World} (hL : L0 W0) : ∀ x ∈ y25, SymOk Tryd.prog 95 W0 47 x := all_cons (s0_ok hL) (all_cons (s7_ok hL) (all_cons (s1_ok hL) (all_cons (s2_ok hL) (all_cons (s3_ok hL) (all_cons (s4_ok hL) (all_cons (s5_ok hL) (all_cons (s6_ok hL) (all_cons (s8_ok hL) (all_cons (s9_ok hL) (all_cons (s10_ok hL) (all_nil)))))))))))
noncomputable def q26 : Fns := [(10, pureFn [p0]), (6, frameFn [m32])]
theorem q26_ok {σ : Nat → Int} {W0 : World} (hL : L0 W0) : FnsOk Tryd.prog 95 σ W0 q26 := FnsOk.cons (pure_fn_ok (all_cons (p0_ok hL) (all_nil))) (FnsOk.cons (frame_fn_ok (all_cons (m32_ok hL) (all_nil))) (FnsOk.nil))
theorem case13 : CaseR (rowH (sentH 225 12 errTab) [.int .i64 (.var 8), .int .i64 (.var 9), .int .i64 (.var 10)]) [((-9223372036854775808), 9223372036854775807), (0, 4294967295), (0, 1), (0, 1), (0, 1), (0, 1), (0, 1), (0, 1), ((-9223372036854775808), 9223372036854775807), ((-9223372036854775808), 9223372036854775807), ((-9223372036854775808), 9223372036854775807)] [] [(0, 5, .lit 1), (8, 2, .var 2), (9, 2, .var 3), (10, 2, .var 4)] [.int .i64 (.var 0), .slice 18 0 3 3 1 false, .int .u32 (.var 1)] := caseR (fun hL hk hT => FnsOk.cons (hT.ok fit) (FnsOk.cons (pure_fn_ok (all_cons (p6_ok hL) (all_cons (p7_ok hL) (all_cons (p8_ok hL) (all_cons (p9_ok hL) (all_cons (p10_ok hL) (all_cons (p11_ok hL) (all_cons (p33_ok hL hk) (all_cons (p34_ok hL hk) (all_cons (p35_ok hL hk) (all_cons (p4_ok hL) (all_cons (p5_ok hL) (all_cons (p23_ok hL) (all_cons (p36_ok hL hk) (all_cons (p37_ok hL hk) (all_cons (p38_ok hL hk) (all_cons (p22_ok hL) (all_nil)))))))))))))))))) (FnsOk.cons (sym_fn_ok (Γ := cxX Tryd.prog bad [((-9223372036854775808), 9223372036854775807), (0, 4294967295), (0, 1), (0, 1), (0, 1), (0, 1), (0, 1), (0, 1), ((-9223372036854775808), 9223372036854775807), ((-9223372036854775808), 9223372036854775807), ((-9223372036854775808), 9223372036854775807)] [] []) (fix := 18) ⟨hk.rng, hk.facts⟩ (by decide) (y25_ok hL)) ((q26_ok hL))))) (by kernel_rfl : isTrue (evCall (cxX Tryd.prog bad [((-9223372036854775808), 9223372036854775807), (0, 4294967295), (0, 1), (0, 1), (0, 1), (0, 1), (0, 1), (0, 1), ((-9223372036854775808), 9223372036854775807), ((-9223372036854775808), 9223372036854775807), ((-9223372036854775808), 9223372036854775807)] [] ((11, numExtE [(0, 5, .lit 1), (8, 2, .var 2), (9, 2, .var 3), (10, 2, .var 4)]) :: (65, pureFn [p6, p7, p8, p9, p10, p11, p33, p34, p35, p4, p5, p23, p36, p37, p38, p22]) :: (47, symFn (cxX Tryd.prog bad [((-9223372036854775808), 9223372036854775807), (0, 4294967295), (0, 1), (0, 1), (0, 1), (0, 1), (0, 1), (0, 1), ((-9223372036854775808), 9223372036854775807), ((-9223372036854775808), 9223372036854775807), ((-9223372036854775808), 9223372036854775807)] [] []) 18 y25) :: q26)) 1000 60 4 [.int .i64 (.var 0), .slice 18 0 3 3 1 false, .int .u32 (.var 1)] (rowH (sentH 225 12 errTab) [.int .i64 (.var 8), .int .i64 (.var 9), .int .i64 (.var 10)])) = true)
noncomputable def h27 : H := hUpd h11 133 [] [] []
noncomputable def h28 : H := hUpd h11 188 [] [(158, .cells 1 ([[.snil]]) false),
  (174, .cells 1 ([[.slice 173 0 12 12 3 true]]) false),
  (142, .cells 2 ([[.ptr 137 0, .ptr 141 0]]) false),
  (182, .cells 3 (rp 6 ([bF, I 0, bF]) ([])) false),
  (134, .cells 3 (rp 16 ([bF, I 0, bF]) ([])) false),
  (186, .cells 1 ([[.snil]]) false),
  (170, .cells 1 ([[.snil]]) false),
  (138, .cells 3 (rp 24 ([bF, I 0, bF]) ([])) false),
  (178, .cells 1 ([[.slice 177 0 8 8 3 true]]) false),
  (146, .cells 1 ([[.slice 145 0 8 8 3 true]]) false),
  (172, .cells 1 ([[.ptr 149 0], [.ptr 152 0], [.ptr 155 0], [.ptr 158 0], [.ptr 161 0], [.ptr 164 0], [.ptr 167 0], [.ptr 170 0]]) false),
  (140, .cells 32 (rp 24 (rp 32 (U 0) ([])) ([])) false),
  (180, .map [] 0),
  (148, .cells 3 ([[.ptr 146 0, .slice 147 0 8 8 107 true, .slice 172 0 8 8 1 false]]) false),
  (164, .cells 1 ([[.snil]]) false),
  (184, .cells 31 (rp 6 ((bF) :: rp 4 (I 0) ((U 0) :: rp 4 (I 0) ((U 0) :: rp 4 (I 0) ((U 0) :: rp 4 (I 0) ((U 0) :: rp 4 (I 0) ((U 0) :: rp 4 (I 0) ([U 0]))))))) ([])) false),
  (152, .cells 1 ([[.snil]]) false),
  (136, .cells 80 (rp 16 (rp 4 (I 0) ((U 0) :: rp 4 (I 0) ((U 0) :: rp 4 (I 0) ((U 0) :: rp 4 (I 0) ((U 0) :: rp 4 (I 0) ((U 0) :: rp 4 (I 0) ((U 0) :: rp 4 (I 0) ((U 0) :: rp 4 (I 0) ((U 0) :: rp 4 (I 0) ((U 0) :: rp 4 (I 0) ((U 0) :: rp 4 (I 0) ((U 0) :: rp 4 (I 0) ((U 0) :: rp 4 (I 0) ((U 0) :: rp 4 (I 0) ((U 0) :: rp 4 (I 0) ((U 0) :: rp 4 (I 0) ([U 0]))))))))))))))))) ([])) false),
  (176, .cells 2 ([[.ptr 174 0, .slice 175 0 12 12 2 true]]) false),
  (144, .cells 3 ([[.ptr 142 0, I 16, .ptr 143 0]]) false),
  (173, .cells 3 (rp 12 ([bF, I 0, bF]) ([])) false),
  (141, .cells 2 ([[.ptr 139 0, .slice 140 0 24 24 32 true]]) false),
  (181, .cells 5 ([[.ptr 178 0, .slice 179 0 8 8 3 true, .map 180, .ptr 144 0, .ptr 148 0]]) false),
  (149, .cells 1 ([[.snil]]) false),
  (185, .cells 2 ([[.ptr 183 0, .slice 184 0 6 6 31 true]]) false),
  (137, .cells 2 ([[.ptr 135 0, .slice 136 0 16 16 80 true]]) false),
  (177, .cells 3 (rp 8 ([bF, I 0, bF]) ([])) false),
  (145, .cells 3 (rp 8 ([bF, I 0, bF]) ([])) false),
  (161, .cells 1 ([[.snil]]) false),
  (187, .cells 9 ([[.ptr 144 0, .ptr 148 0, .ptr 176 0, .ptr 181 0, .ptr 185 0, .ptr 186 0, .snil, .snil, I 0]]) false),
  (155, .cells 1 ([[.snil]]) false),
  (139, .cells 1 ([[.slice 138 0 24 24 3 true]]) false),
  (179, .cells 3 (rp 8 ([I 0, I 0, I 0]) ([])) false),
  (147, .cells 107 (rp 8 (rp 9 (U 0) (rp 6 (I 0) ((U 0) :: rp 4 (I 0) ((U 0) :: rp 4 (I 0) ((U 0) :: rp 4 (I 0) ((U 0) :: rp 4 (I 0) ((U 0) :: rp 4 (I 0) ((U 0) :: rp 4 (I 0) ((U 0) :: rp 4 (I 0) ((U 0) :: rp 4 (I 0) ((U 0) :: rp 4 (I 0) ((U 0) :: rp 4 (I 0) ((U 0) :: rp 4 (I 0) ((U 0) :: rp 4 (I 0) ((U 0) :: rp 4 (I 0) ((U 0) :: rp 4 (I 0) ((U 0) :: rp 4 (I 0) ((U 0) :: rp 4 (I 0) ((U 0) :: rp 4 (I 0) ((U 0) :: rp 4 (I 0) ([U 0, I 0]))))))))))))))))))))) ([])) false),
  (183, .cells 1 ([[.slice 182 0 6 6 3 true]]) false),
  (167, .cells 1 ([[.snil]]) false),
  (135, .cells 1 ([[.slice 134 0 16 16 3 true]]) false),
  (175, .cells 2 (rp 12 ([I 0, I 0]) ([])) false),
  (143, .cells 3 ([[I 16, .snil, I 0]]) false)] []
noncomputable def m39 : Memo := ⟨[.agg [I 16, I 24, I 8, I 12, I 8, I 6]], h27, .tuple [.ptr 187 0, .inil], h28⟩
theorem m39_run : ranTo (evCall (cxX Tryd.prog bad [] [] []) 1000 60 6 m39.args m39.h) m39.v m39.h' = true := by kernel_rfl
theorem m39_ok {σ : Nat → Int} {W0 : World} (hL : L0 W0) : MemoOk Tryd.prog 95 σ W0 6 m39 := memo_ok fit (Known2.nil σ) (FnsOk.nil) m39_run
noncomputable def s11 : Sym := ⟨[.ptr 18 0, .agg [.slice 19 0 1 1 1 true, I 11, .slice 20 0 4 4 1 false, bF]], h22, [18, 21, 24, 27, 39, 40, 53, 56, 57, 23, 32, 35, 50, 55, 22, 29, 36, 41, 58, 33, 34, 54, 19, 30, 51, 14, 6, 12, 16, 4, 2, 13, 17, 15, 3, 1, 0], [(0, 4294967295), (0, 1099511627775), (0, 1099511627775), (0, 1099511627775), (0, 1099511627775), (0, 1099511627775), (0, 1099511627775), (0, 1099511627775), (0, 1099511627775), (0, 1099511627775), (0, 4294967295), (0, 1099511627775), (0, 1099511627775), (0, 1099511627775), (0, 1099511627775), (0, 1099511627775), (0, 1099511627775), (0, 1099511627775), (0, 1099511627775), (0, 1099511627775), (0, 1099511627775), (0, 1099511627775), (0, 1099511627775), (0, 4294967295), (0, 1099511627775), (0, 1099511627775), (0, 1099511627775), (0, 1099511627775), (0, 1099511627775), (0, 1099511627775), (0, 1099511627775), (0, 1099511627775), (0, 1099511627775), (0, 1099511627775), (0, 1099511627775), (0, 1099511627775), (0, 4294967295), (0, 1099511627775), (0, 1099511627775), (0, 1099511627775), (0, 1099511627775), (0, 1099511627775), (0, 1099511627775), (0, 1099511627775), (0, 1099511627775), (0, 1099511627775), (0, 1099511627775), (0, 1099511627775), (0, 1099511627775), (0, 4294967295), (0, 1099511627775), (0, 1099511627775), (0, 1099511627775), (0, 1099511627775), (0, 1099511627775), (0, 1099511627775), (0, 1099511627775), (0, 1099511627775), (0, 1099511627775), (0, 1099511627775), (0, 1099511627775), (0, 1099511627775), (0, 1099511627775), (0, 1099511627775), (0, 1099511627775), (0, 1099511627775), (0, 1099511627775), (0, 1099511627775), (0, 1099511627775), (0, 1099511627775), (0, 1099511627775), (0, 1099511627775), (0, 4294967295)],
  [(false, .sub (.lit 60) (.var 56), .lit 1, false), (false, .sub (.lit 60) (.add (.var 56) (.lit 1)), .lit 1, false), (false, .sub (.lit 60) (.add (.var 56) (.lit 2)), .lit 1, false), (false, .sub (.lit 60) (.add (.var 56) (.lit 3)), .lit 1, false)],
  .tuple [I 1, .inil],
  [.cel 30 1 9 (I 1),
  .cel 30 1 11 (I 8),
  .cel 30 1 16 (I 7),
  .cel 30 1 17 (I 2),
  .cel 30 1 21 (I 11),
  .cel 30 1 26 (I 12),
  .cel 30 1 31 (I 13),
  .cel 30 1 36 (I 14),
  .cel 30 1 91 (I 2),
  .cel 30 1 92 (I 1),
  .cel 30 1 95 (U 1),
  .cel 30 1 96 (I 7),
  .cel 30 1 97 (I 2),
  .row 33 2 ([I 0, I 11]),
  .row 35 0 ([IZ (-1), I 60, .int .i64 (.add (.var 56) (.lit 4))]),
  .set 36 (.map [(.agg [I 3, I 0], .agg [I 0, I 0], 0), (.agg [I 3, I 1], .agg [I 0, I 0], 1), (.agg [I 2, I 0], .agg [I 0, I 0], 2), (.agg [I 4, I 0], .agg [I 0, I 0], 3), (.agg [I 3, I 2], .agg [I 0, I 0], 4), (.agg [I 3, I 3], .agg [I 0, I 0], 5), (.agg [I 2, I 1], .agg [I 0, I 0], 6), (.agg [I 4, I 1], .agg [I 0, I 0], 7)] 8),
  .row 41 1 ([bT, I 0, bF]),
  .row 50 2 ([bT, I 0, bF]),
  .cel 54 1 0 (I 3),
  .cel 54 1 1 (I 2),
  .cel 54 1 5 (I 3),
  .cel 54 1 6 (I 3),
  .cel 56 2 0 (.int .u32 (.var 0)),
  .row 57 1 ([bT, I 0, bF]),
  .row 58 2 ([bT, I 0, bF]),
  .row 58 3 ([bT, I 0, bF])], 534⟩
theorem s11_run : ranTo (evCall (cxX Tryd.prog bad s11.rng s11.facts [(65, pureFn l17)]) 1000 60 47 s11.args s11.pre) s11.v s11.post = true := by kernel_rfl
theorem s11_ok {W0 : World} (hL : L0 W0) : SymOk Tryd.prog 95 W0 47 s11 := sym_ok fit (fun σ hk => FnsOk.cons (pure_fn_ok (l17_ok hL)) (FnsOk.nil)) s11_run (by kernel_rfl)
noncomputable def p40 : Pur := ([.agg [I 5, .int .i64 (.var 2), I 0, I 0, U 0]], .inil, 1048576)
theorem p40_run : ranPure (evCall (cxX Tryd.prog bad [((-9223372036854775808), 9223372036854775807), (0, 4294967295), (0, 1), (0, 1), (0, 1), (0, 1), (0, 1), (0, 1), ((-9223372036854775808), 9223372036854775807), ((-9223372036854775808), 9223372036854775807), ((-9223372036854775808), 9223372036854775807), ((-9223372036854775808), 9223372036854775807)] [] []) 1000 60 65 p40.1 ⟨.lf, p40.2.2⟩) p40.2.1 = true := by kernel_rfl
theorem p40_ok {σ : Nat → Int} {W0 : World} (hL : L0 W0) (hk : Known2 σ [((-9223372036854775808), 9223372036854775807), (0, 4294967295), (0, 1), (0, 1), (0, 1), (0, 1), (0, 1), (0, 1), ((-9223372036854775808), 9223372036854775807), ((-9223372036854775808), 9223372036854775807), ((-9223372036854775808), 9223372036854775807), ((-9223372036854775808), 9223372036854775807)] []) : PureOk Tryd.prog 95 σ W0 65 p40 := pure_ok fit hk (FnsOk.nil) p40_run
noncomputable def p41 : Pur := ([.agg [I 5, .int .i64 (.var 3), I 0, I 0, U 0]], .inil, 1048576)
theorem p41_run : ranPure (evCall (cxX Tryd.prog bad [((-9223372036854775808), 9223372036854775807), (0, 4294967295), (0, 1), (0, 1), (0, 1), (0, 1), (0, 1), (0, 1), ((-9223372036854775808), 9223372036854775807), ((-9223372036854775808), 9223372036854775807), ((-9223372036854775808), 9223372036854775807), ((-9223372036854775808), 9223372036854775807)] [] []) 1000 60 65 p41.1 ⟨.lf, p41.2.2⟩) p41.2.1 = true := by kernel_rfl
theorem p41_ok {σ : Nat → Int} {W0 : World} (hL : L0 W0) (hk : Known2 σ [((-9223372036854775808), 9223372036854775807), (0, 4294967295), (0, 1), (0, 1), (0, 1), (0, 1), (0, 1), (0, 1), ((-9223372036854775808), 9223372036854775807), ((-9223372036854775808), 9223372036854775807), ((-9223372036854775808), 9223372036854775807), ((-9223372036854775808), 9223372036854775807)] []) : PureOk Tryd.prog 95 σ W0 65 p41 := pure_ok fit hk (FnsOk.nil) p41_run
noncomputable def p42 : Pur := ([.agg [I 5, .int .i64 (.var 4), I 0, I 0, U 0]], .inil, 1048576)
theorem p42_run : ranPure (evCall (cxX Tryd.prog bad [((-9223372036854775808), 9223372036854775807), (0, 4294967295), (0, 1), (0, 1), (0, 1), (0, 1), (0, 1), (0, 1), ((-9223372036854775808), 9223372036854775807), ((-9223372036854775808), 9223372036854775807), ((-9223372036854775808), 9223372036854775807), ((-9223372036854775808), 9223372036854775807)] [] []) 1000 60 65 p42.1 ⟨.lf, p42.2.2⟩) p42.2.1 = true := by kernel_rfl
theorem p42_ok {σ : Nat → Int} {W0 : World} (hL : L0 W0) (hk : Known2 σ [((-9223372036854775808), 9223372036854775807), (0, 4294967295), (0, 1), (0, 1), (0, 1), (0, 1), (0, 1), (0, 1), ((-9223372036854775808), 9223372036854775807), ((-9223372036854775808), 9223372036854775807), ((-9223372036854775808), 9223372036854775807), ((-9223372036854775808), 9223372036854775807)] []) : PureOk Tryd.prog 95 σ W0 65 p42 := pure_ok fit hk (FnsOk.nil) p42_run
noncomputable def p43 : Pur := ([.agg [I 5, .int .i64 (.var 5), I 0, I 0, U 0]], .inil, 1048576)
theorem p43_run : ranPure (evCall (cxX Tryd.prog bad [((-9223372036854775808), 9223372036854775807), (0, 4294967295), (0, 1), (0, 1), (0, 1), (0, 1), (0, 1), (0, 1), ((-9223372036854775808), 9223372036854775807), ((-9223372036854775808), 9223372036854775807), ((-9223372036854775808), 9223372036854775807), ((-9223372036854775808), 9223372036854775807)] [] []) 1000 60 65 p43.1 ⟨.lf, p43.2.2⟩) p43.2.1 = true := by kernel_rfl
theorem p43_ok {σ : Nat → Int} {W0 : World} (hL : L0 W0) (hk : Known2 σ [((-9223372036854775808), 9223372036854775807), (0, 4294967295), (0, 1), (0, 1), (0, 1), (0, 1), (0, 1), (0, 1), ((-9223372036854775808), 9223372036854775807), ((-9223372036854775808), 9223372036854775807), ((-9223372036854775808), 9223372036854775807), ((-9223372036854775808), 9223372036854775807)] []) : PureOk Tryd.prog 95 σ W0 65 p43 := pure_ok fit hk (FnsOk.nil) p43_run
noncomputable def p44 : Pur := ([.agg [I 5, .int .i64 (.var 2), I 0, I 0, U 1]], .inil, 1048576)
theorem p44_run : ranPure (evCall (cxX Tryd.prog bad [((-9223372036854775808), 9223372036854775807), (0, 4294967295), (0, 1), (0, 1), (0, 1), (0, 1), (0, 1), (0, 1), ((-9223372036854775808), 9223372036854775807), ((-9223372036854775808), 9223372036854775807), ((-9223372036854775808), 9223372036854775807), ((-9223372036854775808), 9223372036854775807)] [] []) 1000 60 65 p44.1 ⟨.lf, p44.2.2⟩) p44.2.1 = true := by kernel_rfl
theorem p44_ok {σ : Nat → Int} {W0 : World} (hL : L0 W0) (hk : Known2 σ [((-9223372036854775808), 9223372036854775807), (0, 4294967295), (0, 1), (0, 1), (0, 1), (0, 1), (0, 1), (0, 1), ((-9223372036854775808), 9223372036854775807), ((-9223372036854775808), 9223372036854775807), ((-9223372036854775808), 9223372036854775807), ((-9223372036854775808), 9223372036854775807)] []) : PureOk Tryd.prog 95 σ W0 65 p44 := pure_ok fit hk (FnsOk.nil) p44_run
noncomputable def p45 : Pur := ([.agg [I 5, .int .i64 (.var 3), I 0, I 0, U 1]], .inil, 1048576)
theorem p45_run : ranPure (evCall (cxX Tryd.prog bad [((-9223372036854775808), 9223372036854775807), (0, 4294967295), (0, 1), (0, 1), (0, 1), (0, 1), (0, 1), (0, 1), ((-9223372036854775808), 9223372036854775807), ((-9223372036854775808), 9223372036854775807), ((-9223372036854775808), 9223372036854775807), ((-9223372036854775808), 9223372036854775807)] [] []) 1000 60 65 p45.1 ⟨.lf, p45.2.2⟩) p45.2.1 = true := by kernel_rfl
theorem p45_ok {σ : Nat → Int} {W0 : World} (hL : L0 W0) (hk : Known2 σ [((-9223372036854775808), 9223372036854775807), (0, 4294967295), (0, 1), (0, 1), (0, 1), (0, 1), (0, 1), (0, 1), ((-9223372036854775808), 9223372036854775807), ((-9223372036854775808), 9223372036854775807), ((-9223372036854775808), 9223372036854775807), ((-9223372036854775808), 9223372036854775807)] []) : PureOk Tryd.prog 95 σ W0 65 p45 := pure_ok fit hk (FnsOk.nil) p45_run
noncomputable def p46 : Pur := ([.agg [I 5, .int .i64 (.var 4), I 0, I 0, U 1]], .inil, 1048576)
theorem p46_run : ranPure (evCall (cxX Tryd.prog bad [((-9223372036854775808), 9223372036854775807), (0, 4294967295), (0, 1), (0, 1), (0, 1), (0, 1), (0, 1), (0, 1), ((-9223372036854775808), 9223372036854775807), ((-9223372036854775808), 9223372036854775807), ((-9223372036854775808), 9223372036854775807), ((-9223372036854775808), 9223372036854775807)] [] []) 1000 60 65 p46.1 ⟨.lf, p46.2.2⟩) p46.2.1 = true := by kernel_rfl
theorem p46_ok {σ : Nat → Int} {W0 : World} (hL : L0 W0) (hk : Known2 σ [((-9223372036854775808), 9223372036854775807), (0, 4294967295), (0, 1), (0, 1), (0, 1), (0, 1), (0, 1), (0, 1), ((-9223372036854775808), 9223372036854775807), ((-9223372036854775808), 9223372036854775807), ((-9223372036854775808), 9223372036854775807), ((-9223372036854775808), 9223372036854775807)] []) : PureOk Tryd.prog 95 σ W0 65 p46 := pure_ok fit hk (FnsOk.nil) p46_run
noncomputable def p47 : Pur := ([.agg [I 5, .int .i64 (.var 5), I 0, I 0, U 1]], .inil, 1048576)
theorem p47_run : ranPure (evCall (cxX Tryd.prog bad [((-9223372036854775808), 9223372036854775807), (0, 4294967295), (0, 1), (0, 1), (0, 1), (0, 1), (0, 1), (0, 1), ((-9223372036854775808), 9223372036854775807), ((-9223372036854775808), 9223372036854775807), ((-9223372036854775808), 9223372036854775807), ((-9223372036854775808), 9223372036854775807)] [] []) 1000 60 65 p47.1 ⟨.lf, p47.2.2⟩) p47.2.1 = true := by kernel_rfl
theorem p47_ok {σ : Nat → Int} {W0 : World} (hL : L0 W0) (hk : Known2 σ [((-9223372036854775808), 9223372036854775807), (0, 4294967295), (0, 1), (0, 1), (0, 1), (0, 1), (0, 1), (0, 1), ((-9223372036854775808), 9223372036854775807), ((-9223372036854775808), 9223372036854775807), ((-9223372036854775808), 9223372036854775807), ((-9223372036854775808), 9223372036854775807)] []) : PureOk Tryd.prog 95 σ W0 65 p47 := pure_ok fit hk (FnsOk.nil) p47_run
noncomputable def y27 : List Sym := [s0, s7, s1, s2, s3, s4, s5, s6, s8, s9, s10, s11]
theorem y27_ok {W0 : World} (hL : L0 W0) : ∀ x ∈ y27, SymOk Tryd.prog 95 W0 47 x := all_cons (s0_ok hL) (all_cons (s7_ok hL) (all_cons (s1_ok hL) (all_cons (s2_ok hL) (all_cons (s3_ok hL) (all_cons (s4_ok hL) (all_cons (s5_ok hL) (all_cons (s6_ok hL) (all_cons (s8_ok hL) (all_cons (s9_ok hL) (all_cons (s10_ok hL) (all_cons (s11_ok hL) (all_nil))))))))))))
noncomputable def q28 : Fns := [(10, pureFn [p0]), (6, frameFn [m39])]
theorem q28_ok {σ : Nat → Int} {W0 : World} (hL : L0 W0) : FnsOk Tryd.prog 95 σ W0 q28 := FnsOk.cons (pure_fn_ok (all_cons (p0_ok hL) (all_nil))) (FnsOk.cons (frame_fn_ok (all_cons (m39_ok hL) (all_nil))) (FnsOk.nil))
theorem case14 : CaseR (rowH (sentH 225 12 errTab) [.int .i64 (.var 8), .int .i64 (.var 9), .int .i64 (.var 10), .int .i64 (.var 11)]) [((-9223372036854775808), 9223372036854775807), (0, 4294967295), (0, 1), (0, 1), (0, 1), (0, 1), (0, 1), (0, 1), ((-9223372036854775808), 9223372036854775807), ((-9223372036854775808), 9223372036854775807), ((-9223372036854775808), 9223372036854775807), ((-9223372036854775808), 9223372036854775807)] [] [(0, 5, .lit 1), (8, 2, .var 2), (9, 2, .var 3), (10, 2, .var 4), (11, 2, .var 5)] [.int .i64 (.var 0), .slice 18 0 4 4 1 false, .int .u32 (.var 1)] := caseR (fun hL hk hT => FnsOk.cons (hT.ok fit) (FnsOk.cons (pure_fn_ok (all_cons (p6_ok hL) (all_cons (p7_ok hL) (all_cons (p8_ok hL) (all_cons (p9_ok hL) (all_cons (p10_ok hL) (all_cons (p11_ok hL) (all_cons (p40_ok hL hk) (all_cons (p41_ok hL hk) (all_cons (p42_ok hL hk) (all_cons (p43_ok hL hk) (all_cons (p4_ok hL) (all_cons (p5_ok hL) (all_cons (p23_ok hL) (all_cons (p44_ok hL hk) (all_cons (p45_ok hL hk) (all_cons (p46_ok hL hk) (all_cons (p47_ok hL hk) (all_cons (p22_ok hL) (all_nil)))))))))))))))))))) (FnsOk.cons (sym_fn_ok (Γ := cxX Tryd.prog bad [((-9223372036854775808), 9223372036854775807), (0, 4294967295), (0, 1), (0, 1), (0, 1), (0, 1), (0, 1), (0, 1), ((-9223372036854775808), 9223372036854775807), ((-9223372036854775808), 9223372036854775807), ((-9223372036854775808), 9223372036854775807), ((-9223372036854775808), 9223372036854775807)] [] []) (fix := 18) ⟨hk.rng, hk.facts⟩ (by decide) (y27_ok hL)) ((q28_ok hL))))) (by kernel_rfl : isTrue (evCall (cxX Tryd.prog bad [((-9223372036854775808), 9223372036854775807), (0, 4294967295), (0, 1), (0, 1), (0, 1), (0, 1), (0, 1), (0, 1), ((-9223372036854775808), 9223372036854775807), ((-9223372036854775808), 9223372036854775807), ((-9223372036854775808), 9223372036854775807), ((-9223372036854775808), 9223372036854775807)] [] ((11, numExtE [(0, 5, .lit 1), (8, 2, .var 2), (9, 2, .var 3), (10, 2, .var 4), (11, 2, .var 5)]) :: (65, pureFn [p6, p7, p8, p9, p10, p11, p40, p41, p42, p43, p4, p5, p23, p44, p45, p46, p47, p22]) :: (47, symFn (cxX Tryd.prog bad [((-9223372036854775808), 9223372036854775807), (0, 4294967295), (0, 1), (0, 1), (0, 1), (0, 1), (0, 1), (0, 1), ((-9223372036854775808), 9223372036854775807), ((-9223372036854775808), 9223372036854775807), ((-9223372036854775808), 9223372036854775807), ((-9223372036854775808), 9223372036854775807)] [] []) 18 y27) :: q28)) 1000 60 4 [.int .i64 (.var 0), .slice 18 0 4 4 1 false, .int .u32 (.var 1)] (rowH (sentH 225 12 errTab) [.int .i64 (.var 8), .int .i64 (.var 9), .int .i64 (.var 10), .int .i64 (.var 11)])) = true)
noncomputable def h29 : H := hUpd h13 159 [] [] []
noncomputable def h30 : H := hUpd h13 214 [] [(190, .cells 1 ([[.snil]]) false),
  (174, .cells 3 ([[.ptr 172 0, .slice 173 0 8 8 107 true, .slice 198 0 8 8 1 false]]) false),
  (206, .map [] 0),
  (166, .cells 32 (rp 24 (rp 32 (U 0) ([])) ([])) false),
  (198, .cells 1 ([[.ptr 175 0], [.ptr 178 0], [.ptr 181 0], [.ptr 184 0], [.ptr 187 0], [.ptr 190 0], [.ptr 193 0], [.ptr 196 0]]) false),
  (170, .cells 3 ([[.ptr 168 0, I 16, .ptr 169 0]]) false),
  (202, .cells 2 ([[.ptr 200 0, .slice 201 0 12 12 2 true]]) false),
  (178, .cells 1 ([[.snil]]) false),
  (210, .cells 31 (rp 6 ((bF) :: rp 4 (I 0) ((U 0) :: rp 4 (I 0) ((U 0) :: rp 4 (I 0) ((U 0) :: rp 4 (I 0) ((U 0) :: rp 4 (I 0) ((U 0) :: rp 4 (I 0) ([U 0]))))))) ([])) false),
  (162, .cells 80 (rp 16 (rp 4 (I 0) ((U 0) :: rp 4 (I 0) ((U 0) :: rp 4 (I 0) ((U 0) :: rp 4 (I 0) ((U 0) :: rp 4 (I 0) ((U 0) :: rp 4 (I 0) ((U 0) :: rp 4 (I 0) ((U 0) :: rp 4 (I 0) ((U 0) :: rp 4 (I 0) ((U 0) :: rp 4 (I 0) ((U 0) :: rp 4 (I 0) ((U 0) :: rp 4 (I 0) ((U 0) :: rp 4 (I 0) ((U 0) :: rp 4 (I 0) ((U 0) :: rp 4 (I 0) ((U 0) :: rp 4 (I 0) ([U 0]))))))))))))))))) ([])) false),
  (172, .cells 1 ([[.slice 171 0 8 8 3 true]]) false),
  (204, .cells 1 ([[.slice 203 0 8 8 3 true]]) false),
  (212, .cells 1 ([[.snil]]) false),
  (164, .cells 3 (rp 24 ([bF, I 0, bF]) ([])) false),
  (196, .cells 1 ([[.snil]]) false),
  (184, .cells 1 ([[.snil]]) false),
  (168, .cells 2 ([[.ptr 163 0, .ptr 167 0]]) false),
  (200, .cells 1 ([[.slice 199 0 12 12 3 true]]) false),
  (208, .cells 3 (rp 6 ([bF, I 0, bF]) ([])) false),
  (160, .cells 3 (rp 16 ([bF, I 0, bF]) ([])) false),
  (173, .cells 107 (rp 8 (rp 9 (U 0) (rp 6 (I 0) ((U 0) :: rp 4 (I 0) ((U 0) :: rp 4 (I 0) ((U 0) :: rp 4 (I 0) ((U 0) :: rp 4 (I 0) ((U 0) :: rp 4 (I 0) ((U 0) :: rp 4 (I 0) ((U 0) :: rp 4 (I 0) ((U 0) :: rp 4 (I 0) ((U 0) :: rp 4 (I 0) ((U 0) :: rp 4 (I 0) ((U 0) :: rp 4 (I 0) ((U 0) :: rp 4 (I 0) ((U 0) :: rp 4 (I 0) ((U 0) :: rp 4 (I 0) ((U 0) :: rp 4 (I 0) ((U 0) :: rp 4 (I 0) ((U 0) :: rp 4 (I 0) ((U 0) :: rp 4 (I 0) ([U 0, I 0]))))))))))))))))))))) ([])) false),
  (205, .cells 3 (rp 8 ([I 0, I 0, I 0]) ([])) false),
  (181, .cells 1 ([[.snil]]) false),
  (213, .cells 9 ([[.ptr 170 0, .ptr 174 0, .ptr 202 0, .ptr 207 0, .ptr 211 0, .ptr 212 0, .snil, .snil, I 0]]) false),
  (165, .cells 1 ([[.slice 164 0 24 24 3 true]]) false),
  (169, .cells 3 ([[I 16, .snil, I 0]]) false),
  (201, .cells 2 (rp 12 ([I 0, I 0]) ([])) false),
  (209, .cells 1 ([[.slice 208 0 6 6 3 true]]) false),
  (161, .cells 1 ([[.slice 160 0 16 16 3 true]]) false),
  (193, .cells 1 ([[.snil]]) false),
  (187, .cells 1 ([[.snil]]) false),
  (171, .cells 3 (rp 8 ([bF, I 0, bF]) ([])) false),
  (203, .cells 3 (rp 8 ([bF, I 0, bF]) ([])) false),
  (211, .cells 2 ([[.ptr 209 0, .slice 210 0 6 6 31 true]]) false),
  (163, .cells 2 ([[.ptr 161 0, .slice 162 0 16 16 80 true]]) false),
  (167, .cells 2 ([[.ptr 165 0, .slice 166 0 24 24 32 true]]) false),
  (199, .cells 3 (rp 12 ([bF, I 0, bF]) ([])) false),
  (175, .cells 1 ([[.snil]]) false),
  (207, .cells 5 ([[.ptr 204 0, .slice 205 0 8 8 3 true, .map 206, .ptr 170 0, .ptr 174 0]]) false)] []
noncomputable def m48 : Memo := ⟨[.agg [I 16, I 24, I 8, I 12, I 8, I 6]], h29, .tuple [.ptr 213 0, .inil], h30⟩
theorem m48_run : ranTo (evCall (cxX Tryd.prog bad [] [] []) 1000 60 6 m48.args m48.h) m48.v m48.h' = true := by kernel_rfl
theorem m48_ok {σ : Nat → Int} {W0 : World} (hL : L0 W0) : MemoOk Tryd.prog 95 σ W0 6 m48 := memo_ok fit (Known2.nil σ) (FnsOk.nil) m48_run
noncomputable def s12 : Sym := ⟨[.ptr 18 0, .agg [.slice 19 0 1 1 1 true, I 11, .slice 20 0 5 5 1 false, bF]], h22, [18, 21, 24, 27, 39, 40, 53, 56, 57, 23, 32, 35, 50, 55, 22, 29, 36, 41, 58, 33, 34, 54, 19, 30, 51, 14, 6, 12, 16, 4, 2, 13, 17, 15, 3, 1, 0], [(0, 4294967295), (0, 1099511627775), (0, 1099511627775), (0, 1099511627775), (0, 1099511627775), (0, 1099511627775), (0, 1099511627775), (0, 1099511627775), (0, 1099511627775), (0, 1099511627775), (0, 4294967295), (0, 1099511627775), (0, 1099511627775), (0, 1099511627775), (0, 1099511627775), (0, 1099511627775), (0, 1099511627775), (0, 1099511627775), (0, 1099511627775), (0, 1099511627775), (0, 1099511627775), (0, 1099511627775), (0, 1099511627775), (0, 4294967295), (0, 1099511627775), (0, 1099511627775), (0, 1099511627775), (0, 1099511627775), (0, 1099511627775), (0, 1099511627775), (0, 1099511627775), (0, 1099511627775), (0, 1099511627775), (0, 1099511627775), (0, 1099511627775), (0, 1099511627775), (0, 4294967295), (0, 1099511627775), (0, 1099511627775), (0, 1099511627775), (0, 1099511627775), (0, 1099511627775), (0, 1099511627775), (0, 1099511627775), (0, 1099511627775), (0, 1099511627775), (0, 1099511627775), (0, 1099511627775), (0, 1099511627775), (0, 4294967295), (0, 1099511627775), (0, 1099511627775), (0, 1099511627775), (0, 1099511627775), (0, 1099511627775), (0, 1099511627775), (0, 1099511627775), (0, 1099511627775), (0, 1099511627775), (0, 1099511627775), (0, 1099511627775), (0, 1099511627775), (0, 1099511627775), (0, 1099511627775), (0, 1099511627775), (0, 1099511627775), (0, 1099511627775), (0, 1099511627775), (0, 1099511627775), (0, 1099511627775), (0, 1099511627775), (0, 1099511627775), (0, 4294967295)],
  [(false, .sub (.lit 60) (.var 56), .lit 1, false), (false, .sub (.lit 60) (.add (.var 56) (.lit 1)), .lit 1, false), (false, .sub (.lit 60) (.add (.var 56) (.lit 2)), .lit 1, false), (false, .sub (.lit 60) (.add (.var 56) (.lit 3)), .lit 1, false)],
  .tuple [I 1, .inil],
  [.cel 30 1 9 (I 1),
  .cel 30 1 11 (I 8),
  .cel 30 1 16 (I 7),
  .cel 30 1 17 (I 2),
  .cel 30 1 21 (I 11),
  .cel 30 1 26 (I 12),
  .cel 30 1 31 (I 13),
  .cel 30 1 36 (I 14),
  .cel 30 1 91 (I 2),
  .cel 30 1 92 (I 1),
  .cel 30 1 95 (U 1),
  .cel 30 1 96 (I 7),
  .cel 30 1 97 (I 2),
  .row 33 2 ([I 0, I 11]),
  .row 35 0 ([IZ (-1), I 60, .int .i64 (.add (.var 56) (.lit 4))]),
  .set 36 (.map [(.agg [I 3, I 0], .agg [I 0, I 0], 0), (.agg [I 3, I 1], .agg [I 0, I 0], 1), (.agg [I 2, I 0], .agg [I 0, I 0], 2), (.agg [I 4, I 0], .agg [I 0, I 0], 3), (.agg [I 3, I 2], .agg [I 0, I 0], 4), (.agg [I 3, I 3], .agg [I 0, I 0], 5), (.agg [I 2, I 1], .agg [I 0, I 0], 6), (.agg [I 4, I 1], .agg [I 0, I 0], 7)] 8),
  .row 41 1 ([bT, I 0, bF]),
  .row 50 2 ([bT, I 0, bF]),
  .cel 54 1 0 (I 3),
  .cel 54 1 1 (I 2),
  .cel 54 1 5 (I 3),
  .cel 54 1 6 (I 3),
  .cel 56 2 0 (.int .u32 (.var 0)),
  .row 57 1 ([bT, I 0, bF]),
  .row 58 2 ([bT, I 0, bF]),
  .row 58 3 ([bT, I 0, bF])], 534⟩
theorem s12_run : ranTo (evCall (cxX Tryd.prog bad s12.rng s12.facts [(65, pureFn l17)]) 1000 60 47 s12.args s12.pre) s12.v s12.post = true := by kernel_rfl
theorem s12_ok {W0 : World} (hL : L0 W0) : SymOk Tryd.prog 95 W0 47 s12 := sym_ok fit (fun σ hk => FnsOk.cons (pure_fn_ok (l17_ok hL)) (FnsOk.nil)) s12_run (by kernel_rfl)
noncomputable def p49 : Pur := ([.agg [I 5, .int .i64 (.var 2), I 0, I 0, U 0]], .inil, 1048576)
theorem p49_run : ranPure (evCall (cxX Tryd.prog bad [((-9223372036854775808), 9223372036854775807), (0, 4294967295), (0, 1), (0, 1), (0, 1), (0, 1), (0, 1), (0, 1), ((-9223372036854775808), 9223372036854775807), ((-9223372036854775808), 9223372036854775807), ((-9223372036854775808), 9223372036854775807), ((-9223372036854775808), 9223372036854775807), ((-9223372036854775808), 9223372036854775807)] [] []) 1000 60 65 p49.1 ⟨.lf, p49.2.2⟩) p49.2.1 = true := by kernel_rfl
theorem p49_ok {σ : Nat → Int} {W0 : World} (hL : L0 W0) (hk : Known2 σ [((-9223372036854775808), 9223372036854775807), (0, 4294967295), (0, 1), (0, 1), (0, 1), (0, 1), (0, 1), (0, 1), ((-9223372036854775808), 9223372036854775807), ((-9223372036854775808), 9223372036854775807), ((-9223372036854775808), 9223372036854775807), ((-9223372036854775808), 9223372036854775807), ((-9223372036854775808), 9223372036854775807)] []) : PureOk Tryd.prog 95 σ W0 65 p49 := pure_ok fit hk (FnsOk.nil) p49_run
noncomputable def p50 : Pur := ([.agg [I 5, .int .i64 (.var 3), I 0, I 0, U 0]], .inil, 1048576)
theorem p50_run : ranPure (evCall (cxX Tryd.prog bad [((-9223372036854775808), 9223372036854775807), (0, 4294967295), (0, 1), (0, 1), (0, 1), (0, 1), (0, 1), (0, 1), ((-9223372036854775808), 9223372036854775807), ((-9223372036854775808), 9223372036854775807), ((-9223372036854775808), 9223372036854775807), ((-9223372036854775808), 9223372036854775807), ((-9223372036854775808), 9223372036854775807)] [] []) 1000 60 65 p50.1 ⟨.lf, p50.2.2⟩) p50.2.1 = true := by kernel_rfl
theorem p50_ok {σ : Nat → Int} {W0 : World} (hL : L0 W0) (hk : Known2 σ [((-9223372036854775808), 9223372036854775807), (0, 4294967295), (0, 1), (0, 1), (0, 1), (0, 1), (0, 1), (0, 1), ((-9223372036854775808), 9223372036854775807), ((-9223372036854775808), 9223372036854775807), ((-9223372036854775808), 9223372036854775807), ((-9223372036854775808), 9223372036854775807), ((-9223372036854775808), 9223372036854775807)] []) : PureOk Tryd.prog 95 σ W0 65 p50 := pure_ok fit hk (FnsOk.nil) p50_run
noncomputable def p51 : Pur := ([.agg [I 5, .int .i64 (.var 4), I 0, I 0, U 0]], .inil, 1048576)
theorem p51_run : ranPure (evCall (cxX Tryd.prog bad [((-9223372036854775808), 9223372036854775807), (0, 4294967295), (0, 1), (0, 1), (0, 1), (0, 1), (0, 1), (0, 1), ((-9223372036854775808), 9223372036854775807), ((-9223372036854775808), 9223372036854775807), ((-9223372036854775808), 9223372036854775807), ((-9223372036854775808), 9223372036854775807), ((-9223372036854775808), 9223372036854775807)] [] []) 1000 60 65 p51.1 ⟨.lf, p51.2.2⟩) p51.2.1 = true := by kernel_rfl
theorem p51_ok {σ : Nat → Int} {W0 : World} (hL : L0 W0) (hk : Known2 σ [((-9223372036854775808), 9223372036854775807), (0, 4294967295), (0, 1), (0, 1), (0, 1), (0, 1), (0, 1), (0, 1), ((-9223372036854775808), 9223372036854775807), ((-9223372036854775808), 9223372036854775807), ((-9223372036854775808), 9223372036854775807), ((-9223372036854775808), 9223372036854775807), ((-9223372036854775808), 9223372036854775807)] []) : PureOk Tryd.prog 95 σ W0 65 p51 := pure_ok fit hk (FnsOk.nil) p51_run
noncomputable def p52 : Pur := ([.agg [I 5, .int .i64 (.var 5), I 0, I 0, U 0]], .inil, 1048576)
theorem p52_run : ranPure (evCall (cxX Tryd.prog bad [((-9223372036854775808), 9223372036854775807), (0, 4294967295), (0, 1), (0, 1), (0, 1), (0, 1), (0, 1), (0, 1), ((-9223372036854775808), 9223372036854775807), ((-9223372036854775808), 9223372036854775807), ((-9223372036854775808), 9223372036854775807), ((-9223372036854775808), 9223372036854775807), ((-9223372036854775808), 9223372036854775807)] [] []) 1000 60 65 p52.1 ⟨.lf, p52.2.2⟩) p52.2.1 = true := by kernel_rfl
theorem p52_ok {σ : Nat → Int} {W0 : World} (hL : L0 W0) (hk : Known2 σ [((-9223372036854775808), 9223372036854775807), (0, 4294967295), (0, 1), (0, 1), (0, 1), (0, 1), (0, 1), (0, 1), ((-9223372036854775808), 9223372036854775807), ((-9223372036854775808), 9223372036854775807), ((-9223372036854775808), 9223372036854775807), ((-9223372036854775808), 9223372036854775807), ((-9223372036854775808), 9223372036854775807)] []) : PureOk Tryd.prog 95 σ W0 65 p52 := pure_ok fit hk (FnsOk.nil) p52_run
noncomputable def p53 : Pur := ([.agg [I 5, .int .i64 (.var 6), I 0, I 0, U 0]], .inil, 1048576)
theorem p53_run : ranPure (evCall (cxX Tryd.prog bad [((-9223372036854775808), 9223372036854775807), (0, 4294967295), (0, 1), (0, 1), (0, 1), (0, 1), (0, 1), (0, 1), ((-9223372036854775808), 9223372036854775807), ((-9223372036854775808), 9223372036854775807), ((-9223372036854775808), 9223372036854775807), ((-9223372036854775808), 9223372036854775807), ((-9223372036854775808), 9223372036854775807)] [] []) 1000 60 65 p53.1 ⟨.lf, p53.2.2⟩) p53.2.1 = true := by kernel_rfl
theorem p53_ok {σ : Nat → Int} {W0 : World} (hL : L0 W0) (hk : Known2 σ [((-9223372036854775808), 9223372036854775807), (0, 4294967295), (0, 1), (0, 1), (0, 1), (0, 1), (0, 1), (0, 1), ((-9223372036854775808), 9223372036854775807), ((-9223372036854775808), 9223372036854775807), ((-9223372036854775808), 9223372036854775807), ((-9223372036854775808), 9223372036854775807), ((-9223372036854775808), 9223372036854775807)] []) : PureOk Tryd.prog 95 σ W0 65 p53 := pure_ok fit hk (FnsOk.nil) p53_run
noncomputable def p54 : Pur := ([.agg [I 5, .int .i64 (.var 2), I 0, I 0, U 1]], .inil, 1048576)
theorem p54_run : ranPure (evCall (cxX Tryd.prog bad [((-9223372036854775808), 9223372036854775807), (0, 4294967295), (0, 1), (0, 1), (0, 1), (0, 1), (0, 1), (0, 1), ((-9223372036854775808), 9223372036854775807), ((-9223372036854775808), 9223372036854775807), ((-9223372036854775808), 9223372036854775807), ((-9223372036854775808), 9223372036854775807), ((-9223372036854775808), 9223372036854775807)] [] []) 1000 60 65 p54.1 ⟨.lf, p54.2.2⟩) p54.2.1 = true := by kernel_rfl
theorem p54_ok {σ : Nat → Int} {W0 : World} (hL : L0 W0) (hk : Known2 σ [((-9223372036854775808), 9223372036854775807), (0, 4294967295), (0, 1), (0, 1), (0, 1), (0, 1), (0, 1), (0, 1), ((-9223372036854775808), 9223372036854775807), ((-9223372036854775808), 9223372036854775807), ((-9223372036854775808), 9223372036854775807), ((-9223372036854775808), 9223372036854775807), ((-9223372036854775808), 9223372036854775807)] []) : PureOk Tryd.prog 95 σ W0 65 p54 := pure_ok fit hk (FnsOk.nil) p54_run
noncomputable def p55 : Pur := ([.agg [I 5, .int .i64 (.var 3), I 0, I 0, U 1]], .inil, 1048576)
theorem p55_run : ranPure (evCall (cxX Tryd.prog bad [((-9223372036854775808), 9223372036854775807), (0, 4294967295), (0, 1), (0, 1), (0, 1), (0, 1), (0, 1), (0, 1), ((-9223372036854775808), 9223372036854775807), ((-9223372036854775808), 9223372036854775807), ((-9223372036854775808), 9223372036854775807), ((-9223372036854775808), 9223372036854775807), ((-9223372036854775808), 9223372036854775807)] [] []) 1000 60 65 p55.1 ⟨.lf, p55.2.2⟩) p55.2.1 = true := by kernel_rfl
theorem p55_ok {σ : Nat → Int} {W0 : World} (hL : L0 W0) (hk : Known2 σ [((-9223372036854775808), 9223372036854775807), (0, 4294967295), (0, 1), (0, 1), (0, 1), (0, 1), (0, 1), (0, 1), ((-9223372036854775808), 9223372036854775807), ((-9223372036854775808), 9223372036854775807), ((-9223372036854775808), 9223372036854775807), ((-9223372036854775808), 9223372036854775807), ((-9223372036854775808), 9223372036854775807)] []) : PureOk Tryd.prog 95 σ W0 65 p55 := pure_ok fit hk (FnsOk.nil) p55_run
noncomputable def p56 : Pur := ([.agg [I 5, .int .i64 (.var 4), I 0, I 0, U 1]], .inil, 1048576)
theorem p56_run : ranPure (evCall (cxX Tryd.prog bad [((-9223372036854775808), 9223372036854775807), (0, 4294967295), (0, 1), (0, 1), (0, 1), (0, 1), (0, 1), (0, 1), ((-9223372036854775808), 9223372036854775807), ((-9223372036854775808), 9223372036854775807), ((-9223372036854775808), 9223372036854775807), ((-9223372036854775808), 9223372036854775807), ((-9223372036854775808), 9223372036854775807)] [] []) 1000 60 65 p56.1 ⟨.lf, p56.2.2⟩) p56.2.1 = true := by kernel_rfl
theorem p56_ok {σ : Nat → Int} {W0 : World} (hL : L0 W0) (hk : Known2 σ [((-9223372036854775808), 9223372036854775807), (0, 4294967295), (0, 1), (0, 1), (0, 1), (0, 1), (0, 1), (0, 1), ((-9223372036854775808), 9223372036854775807), ((-9223372036854775808), 9223372036854775807), ((-9223372036854775808), 9223372036854775807), ((-9223372036854775808), 9223372036854775807), ((-9223372036854775808), 9223372036854775807)] []) : PureOk Tryd.prog 95 σ W0 65 p56 := pure_ok fit hk (FnsOk.nil) p56_run
noncomputable def p57 : Pur := ([.agg [I 5, .int .i64 (.var 5), I 0, I 0, U 1]], .inil, 1048576)
theorem p57_run : ranPure (evCall (cxX Tryd.prog bad [((-9223372036854775808), 9223372036854775807), (0, 4294967295), (0, 1), (0, 1), (0, 1), (0, 1), (0, 1), (0, 1), ((-9223372036854775808), 9223372036854775807), ((-9223372036854775808), 9223372036854775807), ((-9223372036854775808), 9223372036854775807), ((-9223372036854775808), 9223372036854775807), ((-9223372036854775808), 9223372036854775807)] [] []) 1000 60 65 p57.1 ⟨.lf, p57.2.2⟩) p57.2.1 = true := by kernel_rfl
theorem p57_ok {σ : Nat → Int} {W0 : World} (hL : L0 W0) (hk : Known2 σ [((-9223372036854775808), 9223372036854775807), (0, 4294967295), (0, 1), (0, 1), (0, 1), (0, 1), (0, 1), (0, 1), ((-9223372036854775808), 9223372036854775807), ((-9223372036854775808), 9223372036854775807), ((-9223372036854775808), 9223372036854775807), ((-9223372036854775808), 9223372036854775807), ((-9223372036854775808), 9223372036854775807)] []) : PureOk Tryd.prog 95 σ W0 65 p57 := pure_ok fit hk (FnsOk.nil) p57_run
noncomputable def p58 : Pur := ([.agg [I 5, .int .i64 (.var 6), I 0, I 0, U 1]], .inil, 1048576)
theorem p58_run : ranPure (evCall (cxX Tryd.prog bad [((-9223372036854775808), 9223372036854775807), (0, 4294967295), (0, 1), (0, 1), (0, 1), (0, 1), (0, 1), (0, 1), ((-9223372036854775808), 9223372036854775807), ((-9223372036854775808), 9223372036854775807), ((-9223372036854775808), 9223372036854775807), ((-9223372036854775808), 9223372036854775807), ((-9223372036854775808), 9223372036854775807)] [] []) 1000 60 65 p58.1 ⟨.lf, p58.2.2⟩) p58.2.1 = true := by kernel_rfl
theorem p58_ok {σ : Nat → Int} {W0 : World} (hL : L0 W0) (hk : Known2 σ [((-9223372036854775808), 9223372036854775807), (0, 4294967295), (0, 1), (0, 1), (0, 1), (0, 1), (0, 1), (0, 1), ((-9223372036854775808), 9223372036854775807), ((-9223372036854775808), 9223372036854775807), ((-9223372036854775808), 9223372036854775807), ((-9223372036854775808), 9223372036854775807), ((-9223372036854775808), 9223372036854775807)] []) : PureOk Tryd.prog 95 σ W0 65 p58 := pure_ok fit hk (FnsOk.nil) p58_run
noncomputable def y29 : List Sym := [s0, s7, s1, s2, s3, s4, s5, s6, s8, s9, s10, s11, s12]
theorem y29_ok {W0 : World} (hL : L0 W0) : ∀ x ∈ y29, SymOk Tryd.prog 95 W0 47 x := all_cons (s0_ok hL) (all_cons (s7_ok hL) (all_cons (s1_ok hL) (all_cons (s2_ok hL) (all_cons (s3_ok hL) (all_cons (s4_ok hL) (all_cons (s5_ok hL) (all_cons (s6_ok hL) (all_cons (s8_ok hL) (all_cons (s9_ok hL) (all_cons (s10_ok hL) (all_cons (s11_ok hL) (all_cons (s12_ok hL) (all_nil)))))))))))))
noncomputable def q30 : Fns := [(10, pureFn [p0]), (6, frameFn [m48])]
theorem q30_ok {σ : Nat → Int} {W0 : World} (hL : L0 W0) : FnsOk Tryd.prog 95 σ W0 q30 := FnsOk.cons (pure_fn_ok (all_cons (p0_ok hL) (all_nil))) (FnsOk.cons (frame_fn_ok (all_cons (m48_ok hL) (all_nil))) (FnsOk.nil))
theorem case15 : CaseR (rowH (sentH 225 12 errTab) [.int .i64 (.var 8), .int .i64 (.var 9), .int .i64 (.var 10), .int .i64 (.var 11), .int .i64 (.var 12)]) [((-9223372036854775808), 9223372036854775807), (0, 4294967295), (0, 1), (0, 1), (0, 1), (0, 1), (0, 1), (0, 1), ((-9223372036854775808), 9223372036854775807), ((-9223372036854775808), 9223372036854775807), ((-9223372036854775808), 9223372036854775807), ((-9223372036854775808), 9223372036854775807), ((-9223372036854775808), 9223372036854775807)] [] [(0, 5, .lit 1), (8, 2, .var 2), (9, 2, .var 3), (10, 2, .var 4), (11, 2, .var 5), (12, 2, .var 6)] [.int .i64 (.var 0), .slice 18 0 5 5 1 false, .int .u32 (.var 1)] := caseR (fun hL hk hT => FnsOk.cons (hT.ok fit) (FnsOk.cons (pure_fn_ok (all_cons (p6_ok hL) (all_cons (p7_ok hL) (all_cons (p8_ok hL) (all_cons (p9_ok hL) (all_cons (p10_ok hL) (all_cons (p11_ok hL) (all_cons (p49_ok hL hk) (all_cons (p50_ok hL hk) (all_cons (p51_ok hL hk) (all_cons (p52_ok hL hk) (all_cons (p53_ok hL hk) (all_cons (p4_ok hL) (all_cons (p5_ok hL) (all_cons (p23_ok hL) (all_cons (p54_ok hL hk) (all_cons (p55_ok hL hk) (all_cons (p56_ok hL hk) (all_cons (p57_ok hL hk) (all_cons (p58_ok hL hk) (all_cons (p22_ok hL) (all_nil)))))))))))))))))))))) (FnsOk.cons (sym_fn_ok (Γ := cxX Tryd.prog bad [((-9223372036854775808), 9223372036854775807), (0, 4294967295), (0, 1), (0, 1), (0, 1), (0, 1), (0, 1), (0, 1), ((-9223372036854775808), 9223372036854775807), ((-9223372036854775808), 9223372036854775807), ((-9223372036854775808), 9223372036854775807), ((-9223372036854775808), 9223372036854775807), ((-9223372036854775808), 9223372036854775807)] [] []) (fix := 18) ⟨hk.rng, hk.facts⟩ (by decide) (y29_ok hL)) ((q30_ok hL))))) (by kernel_rfl : isTrue (evCall (cxX Tryd.prog bad [((-9223372036854775808), 9223372036854775807), (0, 4294967295), (0, 1), (0, 1), (0, 1), (0, 1), (0, 1), (0, 1), ((-9223372036854775808), 9223372036854775807), ((-9223372036854775808), 9223372036854775807), ((-9223372036854775808), 9223372036854775807), ((-9223372036854775808), 9223372036854775807), ((-9223372036854775808), 9223372036854775807)] [] ((11, numExtE [(0, 5, .lit 1), (8, 2, .var 2), (9, 2, .var 3), (10, 2, .var 4), (11, 2, .var 5), (12, 2, .var 6)]) :: (65, pureFn [p6, p7, p8, p9, p10, p11, p49, p50, p51, p52, p53, p4, p5, p23, p54, p55, p56, p57, p58, p22]) :: (47, symFn (cxX Tryd.prog bad [((-9223372036854775808), 9223372036854775807), (0, 4294967295), (0, 1), (0, 1), (0, 1), (0, 1), (0, 1), (0, 1), ((-9223372036854775808), 9223372036854775807), ((-9223372036854775808), 9223372036854775807), ((-9223372036854775808), 9223372036854775807), ((-9223372036854775808), 9223372036854775807), ((-9223372036854775808), 9223372036854775807)] [] []) 18 y29) :: q30)) 1000 60 4 [.int .i64 (.var 0), .slice 18 0 5 5 1 false, .int .u32 (.var 1)] (rowH (sentH 225 12 errTab) [.int .i64 (.var 8), .int .i64 (.var 9), .int .i64 (.var 10), .int .i64 (.var 11), .int .i64 (.var 12)])) = true)
noncomputable def h31 : H := hUpd h15 185 [] [] []
noncomputable def h32 : H := hUpd h15 240 [] [(190, .cells 3 (rp 24 ([bF, I 0, bF]) ([])) false),
  (222, .cells 1 ([[.snil]]) false),
  (238, .cells 1 ([[.snil]]) false),
  (230, .cells 1 ([[.slice 229 0 8 8 3 true]]) false),
  (198, .cells 1 ([[.slice 197 0 8 8 3 true]]) false),
  (186, .cells 3 (rp 16 ([bF, I 0, bF]) ([])) false),
  (234, .cells 3 (rp 6 ([bF, I 0, bF]) ([])) false),
  (210, .cells 1 ([[.snil]]) false),
  (226, .cells 1 ([[.slice 225 0 12 12 3 true]]) false),
  (194, .cells 2 ([[.ptr 189 0, .ptr 193 0]]) false),
  (188, .cells 80 (rp 16 (rp 4 (I 0) ((U 0) :: rp 4 (I 0) ((U 0) :: rp 4 (I 0) ((U 0) :: rp 4 (I 0) ((U 0) :: rp 4 (I 0) ((U 0) :: rp 4 (I 0) ((U 0) :: rp 4 (I 0) ((U 0) :: rp 4 (I 0) ((U 0) :: rp 4 (I 0) ((U 0) :: rp 4 (I 0) ((U 0) :: rp 4 (I 0) ((U 0) :: rp 4 (I 0) ((U 0) :: rp 4 (I 0) ((U 0) :: rp 4 (I 0) ((U 0) :: rp 4 (I 0) ((U 0) :: rp 4 (I 0) ([U 0]))))))))))))))))) ([])) false),
  (236, .cells 31 (rp 6 ((bF) :: rp 4 (I 0) ((U 0) :: rp 4 (I 0) ((U 0) :: rp 4 (I 0) ((U 0) :: rp 4 (I 0) ((U 0) :: rp 4 (I 0) ((U 0) :: rp 4 (I 0) ([U 0]))))))) ([])) false),
  (204, .cells 1 ([[.snil]]) false),
  (228, .cells 2 ([[.ptr 226 0, .slice 227 0 12 12 2 true]]) false),
  (196, .cells 3 ([[.ptr 194 0, I 16, .ptr 195 0]]) false),
  (216, .cells 1 ([[.snil]]) false),
  (232, .map [] 0),
  (200, .cells 3 ([[.ptr 198 0, .slice 199 0 8 8 107 true, .slice 224 0 8 8 1 false]]) false),
  (224, .cells 1 ([[.ptr 201 0], [.ptr 204 0], [.ptr 207 0], [.ptr 210 0], [.ptr 213 0], [.ptr 216 0], [.ptr 219 0], [.ptr 222 0]]) false),
  (192, .cells 32 (rp 24 (rp 32 (U 0) ([])) ([])) false),
  (189, .cells 2 ([[.ptr 187 0, .slice 188 0 16 16 80 true]]) false),
  (237, .cells 2 ([[.ptr 235 0, .slice 236 0 6 6 31 true]]) false),
  (213, .cells 1 ([[.snil]]) false),
  (229, .cells 3 (rp 8 ([bF, I 0, bF]) ([])) false),
  (197, .cells 3 (rp 8 ([bF, I 0, bF]) ([])) false),
  (233, .cells 5 ([[.ptr 230 0, .slice 231 0 8 8 3 true, .map 232, .ptr 196 0, .ptr 200 0]]) false),
  (201, .cells 1 ([[.snil]]) false),
  (225, .cells 3 (rp 12 ([bF, I 0, bF]) ([])) false),
  (193, .cells 2 ([[.ptr 191 0, .slice 192 0 24 24 32 true]]) false),
  (187, .cells 1 ([[.slice 186 0 16 16 3 true]]) false),
  (219, .cells 1 ([[.snil]]) false),
  (235, .cells 1 ([[.slice 234 0 6 6 3 true]]) false),
  (227, .cells 2 (rp 12 ([I 0, I 0]) ([])) false),
  (195, .cells 3 ([[I 16, .snil, I 0]]) false),
  (231, .cells 3 (rp 8 ([I 0, I 0, I 0]) ([])) false),
  (199, .cells 107 (rp 8 (rp 9 (U 0) (rp 6 (I 0) ((U 0) :: rp 4 (I 0) ((U 0) :: rp 4 (I 0) ((U 0) :: rp 4 (I 0) ((U 0) :: rp 4 (I 0) ((U 0) :: rp 4 (I 0) ((U 0) :: rp 4 (I 0) ((U 0) :: rp 4 (I 0) ((U 0) :: rp 4 (I 0) ((U 0) :: rp 4 (I 0) ((U 0) :: rp 4 (I 0) ((U 0) :: rp 4 (I 0) ((U 0) :: rp 4 (I 0) ((U 0) :: rp 4 (I 0) ((U 0) :: rp 4 (I 0) ((U 0) :: rp 4 (I 0) ((U 0) :: rp 4 (I 0) ((U 0) :: rp 4 (I 0) ((U 0) :: rp 4 (I 0) ([U 0, I 0]))))))))))))))))))))) ([])) false),
  (239, .cells 9 ([[.ptr 196 0, .ptr 200 0, .ptr 228 0, .ptr 233 0, .ptr 237 0, .ptr 238 0, .snil, .snil, I 0]]) false),
  (207, .cells 1 ([[.snil]]) false),
  (191, .cells 1 ([[.slice 190 0 24 24 3 true]]) false)] []
noncomputable def m59 : Memo := ⟨[.agg [I 16, I 24, I 8, I 12, I 8, I 6]], h31, .tuple [.ptr 239 0, .inil], h32⟩
theorem m59_run : ranTo (evCall (cxX Tryd.prog bad [] [] []) 1000 60 6 m59.args m59.h) m59.v m59.h' = true := by kernel_rfl
theorem m59_ok {σ : Nat → Int} {W0 : World} (hL : L0 W0) : MemoOk Tryd.prog 95 σ W0 6 m59 := memo_ok fit (Known2.nil σ) (FnsOk.nil) m59_run
noncomputable def s13 : Sym := ⟨[.ptr 18 0, .agg [.slice 19 0 1 1 1 true, I 11, .slice 20 0 6 6 1 false, bF]], h22, [18, 21, 24, 27, 39, 40, 53, 56, 57, 23, 32, 35, 50, 55, 22, 29, 36, 41, 58, 33, 34, 54, 19, 30, 51, 14, 6, 12, 16, 4, 2, 13, 17, 15, 3, 1, 0], [(0, 4294967295), (0, 1099511627775), (0, 1099511627775), (0, 1099511627775), (0, 1099511627775), (0, 1099511627775), (0, 1099511627775), (0, 1099511627775), (0, 1099511627775), (0, 1099511627775), (0, 4294967295), (0, 1099511627775), (0, 1099511627775), (0, 1099511627775), (0, 1099511627775), (0, 1099511627775), (0, 1099511627775), (0, 1099511627775), (0, 1099511627775), (0, 1099511627775), (0, 1099511627775), (0, 1099511627775), (0, 1099511627775), (0, 4294967295), (0, 1099511627775), (0, 1099511627775), (0, 1099511627775), (0, 1099511627775), (0, 1099511627775), (0, 1099511627775), (0, 1099511627775), (0, 1099511627775), (0, 1099511627775), (0, 1099511627775), (0, 1099511627775), (0, 1099511627775), (0, 4294967295), (0, 1099511627775), (0, 1099511627775), (0, 1099511627775), (0, 1099511627775), (0, 1099511627775), (0, 1099511627775), (0, 1099511627775), (0, 1099511627775), (0, 1099511627775), (0, 1099511627775), (0, 1099511627775), (0, 1099511627775), (0, 4294967295), (0, 1099511627775), (0, 1099511627775), (0, 1099511627775), (0, 1099511627775), (0, 1099511627775), (0, 1099511627775), (0, 1099511627775), (0, 1099511627775), (0, 1099511627775), (0, 1099511627775), (0, 1099511627775), (0, 1099511627775), (0, 1099511627775), (0, 1099511627775), (0, 1099511627775), (0, 1099511627775), (0, 1099511627775), (0, 1099511627775), (0, 1099511627775), (0, 1099511627775), (0, 1099511627775), (0, 1099511627775), (0, 4294967295)],
  [(false, .sub (.lit 60) (.var 56), .lit 1, false), (false, .sub (.lit 60) (.add (.var 56) (.lit 1)), .lit 1, false), (false, .sub (.lit 60) (.add (.var 56) (.lit 2)), .lit 1, false), (false, .sub (.lit 60) (.add (.var 56) (.lit 3)), .lit 1, false)],
  .tuple [I 1, .inil],
  [.cel 30 1 9 (I 1),
  .cel 30 1 11 (I 8),
  .cel 30 1 16 (I 7),
  .cel 30 1 17 (I 2),
  .cel 30 1 21 (I 11),
  .cel 30 1 26 (I 12),
  .cel 30 1 31 (I 13),
  .cel 30 1 36 (I 14),
  .cel 30 1 91 (I 2),
  .cel 30 1 92 (I 1),
  .cel 30 1 95 (U 1),
  .cel 30 1 96 (I 7),
  .cel 30 1 97 (I 2),
  .row 33 2 ([I 0, I 11]),
  .row 35 0 ([IZ (-1), I 60, .int .i64 (.add (.var 56) (.lit 4))]),
  .set 36 (.map [(.agg [I 3, I 0], .agg [I 0, I 0], 0), (.agg [I 3, I 1], .agg [I 0, I 0], 1), (.agg [I 2, I 0], .agg [I 0, I 0], 2), (.agg [I 4, I 0], .agg [I 0, I 0], 3), (.agg [I 3, I 2], .agg [I 0, I 0], 4), (.agg [I 3, I 3], .agg [I 0, I 0], 5), (.agg [I 2, I 1], .agg [I 0, I 0], 6), (.agg [I 4, I 1], .agg [I 0, I 0], 7)] 8),
  .row 41 1 ([bT, I 0, bF]),
  .row 50 2 ([bT, I 0, bF]),
  .cel 54 1 0 (I 3),
  .cel 54 1 1 (I 2),
  .cel 54 1 5 (I 3),
  .cel 54 1 6 (I 3),
  .cel 56 2 0 (.int .u32 (.var 0)),
  .row 57 1 ([bT, I 0, bF]),
  .row 58 2 ([bT, I 0, bF]),
  .row 58 3 ([bT, I 0, bF])], 534⟩
theorem s13_run : ranTo (evCall (cxX Tryd.prog bad s13.rng s13.facts [(65, pureFn l17)]) 1000 60 47 s13.args s13.pre) s13.v s13.post = true := by kernel_rfl
theorem s13_ok {W0 : World} (hL : L0 W0) : SymOk Tryd.prog 95 W0 47 s13 := sym_ok fit (fun σ hk => FnsOk.cons (pure_fn_ok (l17_ok hL)) (FnsOk.nil)) s13_run (by kernel_rfl)
noncomputable def p60 : Pur := ([.agg [I 5, .int .i64 (.var 2), I 0, I 0, U 0]], .inil, 1048576)
theorem p60_run : ranPure (evCall (cxX Tryd.prog bad [((-9223372036854775808), 9223372036854775807), (0, 4294967295), (0, 1), (0, 1), (0, 1), (0, 1), (0, 1), (0, 1), ((-9223372036854775808), 9223372036854775807), ((-9223372036854775808), 9223372036854775807), ((-9223372036854775808), 9223372036854775807), ((-9223372036854775808), 9223372036854775807), ((-9223372036854775808), 9223372036854775807), ((-9223372036854775808), 9223372036854775807)] [] []) 1000 60 65 p60.1 ⟨.lf, p60.2.2⟩) p60.2.1 = true := by kernel_rfl
theorem p60_ok {σ : Nat → Int} {W0 : World} (hL : L0 W0) (hk : Known2 σ [((-9223372036854775808), 9223372036854775807), (0, 4294967295), (0, 1), (0, 1), (0, 1), (0, 1), (0, 1), (0, 1), ((-9223372036854775808), 9223372036854775807), ((-9223372036854775808), 9223372036854775807), ((-9223372036854775808), 9223372036854775807), ((-9223372036854775808), 9223372036854775807), ((-9223372036854775808), 9223372036854775807), ((-9223372036854775808), 9223372036854775807)] []) : PureOk Tryd.prog 95 σ W0 65 p60 := pure_ok fit hk (FnsOk.nil) p60_run
noncomputable def p61 : Pur := ([.agg [I 5, .int .i64 (.var 3), I 0, I 0, U 0]], .inil, 1048576)
theorem p61_run : ranPure (evCall (cxX Tryd.prog bad [((-9223372036854775808), 9223372036854775807), (0, 4294967295), (0, 1), (0, 1), (0, 1), (0, 1), (0, 1), (0, 1), ((-9223372036854775808), 9223372036854775807), ((-9223372036854775808), 9223372036854775807), ((-9223372036854775808), 9223372036854775807), ((-9223372036854775808), 9223372036854775807), ((-9223372036854775808), 9223372036854775807), ((-9223372036854775808), 9223372036854775807)] [] []) 1000 60 65 p61.1 ⟨.lf, p61.2.2⟩) p61.2.1 = true := by kernel_rfl
theorem p61_ok {σ : Nat → Int} {W0 : World} (hL : L0 W0) (hk : Known2 σ [((-9223372036854775808), 9223372036854775807), (0, 4294967295), (0, 1), (0, 1), (0, 1), (0, 1), (0, 1), (0, 1), ((-9223372036854775808), 9223372036854775807), ((-9223372036854775808), 9223372036854775807), ((-9223372036854775808), 9223372036854775807), ((-9223372036854775808), 9223372036854775807), ((-9223372036854775808), 9223372036854775807), ((-9223372036854775808), 9223372036854775807)] []) : PureOk Tryd.prog 95 σ W0 65 p61 := pure_ok fit hk (FnsOk.nil) p61_run
noncomputable def p62 : Pur := ([.agg [I 5, .int .i64 (.var 4), I 0, I 0, U 0]], .inil, 1048576)
theorem p62_run : ranPure (evCall (cxX Tryd.prog bad [((-9223372036854775808), 9223372036854775807), (0, 4294967295), (0, 1), (0, 1), (0, 1), (0, 1), (0, 1), (0, 1), ((-9223372036854775808), 9223372036854775807), ((-9223372036854775808), 9223372036854775807), ((-9223372036854775808), 9223372036854775807), ((-9223372036854775808), 9223372036854775807), ((-9223372036854775808), 9223372036854775807), ((-9223372036854775808), 9223372036854775807)] [] []) 1000 60 65 p62.1 ⟨.lf, p62.2.2⟩) p62.2.1 = true := by kernel_rfl
theorem p62_ok {σ : Nat → Int} {W0 : World} (hL : L0 W0) (hk : Known2 σ [((-9223372036854775808), 9223372036854775807), (0, 4294967295), (0, 1), (0, 1), (0, 1), (0, 1), (0, 1), (0, 1), ((-9223372036854775808), 9223372036854775807), ((-9223372036854775808), 9223372036854775807), ((-9223372036854775808), 9223372036854775807), ((-9223372036854775808), 9223372036854775807), ((-9223372036854775808), 9223372036854775807), ((-9223372036854775808), 9223372036854775807)] []) : PureOk Tryd.prog 95 σ W0 65 p62 := pure_ok fit hk (FnsOk.nil) p62_run
noncomputable def p63 : Pur := ([.agg [I 5, .int .i64 (.var 5), I 0, I 0, U 0]], .inil, 1048576)
theorem p63_run : ranPure (evCall (cxX Tryd.prog bad [((-9223372036854775808), 9223372036854775807), (0, 4294967295), (0, 1), (0, 1), (0, 1), (0, 1), (0, 1), (0, 1), ((-9223372036854775808), 9223372036854775807), ((-9223372036854775808), 9223372036854775807), ((-9223372036854775808), 9223372036854775807), ((-9223372036854775808), 9223372036854775807), ((-9223372036854775808), 9223372036854775807), ((-9223372036854775808), 9223372036854775807)] [] []) 1000 60 65 p63.1 ⟨.lf, p63.2.2⟩) p63.2.1 = true := by kernel_rfl
theorem p63_ok {σ : Nat → Int} {W0 : World} (hL : L0 W0) (hk : Known2 σ [((-9223372036854775808), 9223372036854775807), (0, 4294967295), (0, 1), (0, 1), (0, 1), (0, 1), (0, 1), (0, 1), ((-9223372036854775808), 9223372036854775807), ((-9223372036854775808), 9223372036854775807), ((-9223372036854775808), 9223372036854775807), ((-9223372036854775808), 9223372036854775807), ((-9223372036854775808), 9223372036854775807), ((-9223372036854775808), 9223372036854775807)] []) : PureOk Tryd.prog 95 σ W0 65 p63 := pure_ok fit hk (FnsOk.nil) p63_run
noncomputable def p64 : Pur := ([.agg [I 5, .int .i64 (.var 6), I 0, I 0, U 0]], .inil, 1048576)
theorem p64_run : ranPure (evCall (cxX Tryd.prog bad [((-9223372036854775808), 9223372036854775807), (0, 4294967295), (0, 1), (0, 1), (0, 1), (0, 1), (0, 1), (0, 1), ((-9223372036854775808), 9223372036854775807), ((-9223372036854775808), 9223372036854775807), ((-9223372036854775808), 9223372036854775807), ((-9223372036854775808), 9223372036854775807), ((-9223372036854775808), 9223372036854775807), ((-9223372036854775808), 9223372036854775807)] [] []) 1000 60 65 p64.1 ⟨.lf, p64.2.2⟩) p64.2.1 = true := by kernel_rfl
theorem p64_ok {σ : Nat → Int} {W0 : World} (hL : L0 W0) (hk : Known2 σ [((-9223372036854775808), 9223372036854775807), (0, 4294967295), (0, 1), (0, 1), (0, 1), (0, 1), (0, 1), (0, 1), ((-9223372036854775808), 9223372036854775807), ((-9223372036854775808), 9223372036854775807), ((-9223372036854775808), 9223372036854775807), ((-9223372036854775808), 9223372036854775807), ((-9223372036854775808), 9223372036854775807), ((-9223372036854775808), 9223372036854775807)] []) : PureOk Tryd.prog 95 σ W0 65 p64 := pure_ok fit hk (FnsOk.nil) p64_run
noncomputable def p65 : Pur := ([.agg [I 5, .int .i64 (.var 7), I 0, I 0, U 0]], .inil, 1048576)
theorem p65_run : ranPure (evCall (cxX Tryd.prog bad [((-9223372036854775808), 9223372036854775807), (0, 4294967295), (0, 1), (0, 1), (0, 1), (0, 1), (0, 1), (0, 1), ((-9223372036854775808), 9223372036854775807), ((-9223372036854775808), 9223372036854775807), ((-9223372036854775808), 9223372036854775807), ((-9223372036854775808), 9223372036854775807), ((-9223372036854775808), 9223372036854775807), ((-9223372036854775808), 9223372036854775807)] [] []) 1000 60 65 p65.1 ⟨.lf, p65.2.2⟩) p65.2.1 = true := by kernel_rfl
theorem p65_ok {σ : Nat → Int} {W0 : World} (hL : L0 W0) (hk : Known2 σ [((-9223372036854775808), 9223372036854775807), (0, 4294967295), (0, 1), (0, 1), (0, 1), (0, 1), (0, 1), (0, 1), ((-9223372036854775808), 9223372036854775807), ((-9223372036854775808), 9223372036854775807), ((-9223372036854775808), 9223372036854775807), ((-9223372036854775808), 9223372036854775807), ((-9223372036854775808), 9223372036854775807), ((-9223372036854775808), 9223372036854775807)] []) : PureOk Tryd.prog 95 σ W0 65 p65 := pure_ok fit hk (FnsOk.nil) p65_run
noncomputable def p66 : Pur := ([.agg [I 5, .int .i64 (.var 2), I 0, I 0, U 1]], .inil, 1048576)
theorem p66_run : ranPure (evCall (cxX Tryd.prog bad [((-9223372036854775808), 9223372036854775807), (0, 4294967295), (0, 1), (0, 1), (0, 1), (0, 1), (0, 1), (0, 1), ((-9223372036854775808), 9223372036854775807), ((-9223372036854775808), 9223372036854775807), ((-9223372036854775808), 9223372036854775807), ((-9223372036854775808), 9223372036854775807), ((-9223372036854775808), 9223372036854775807), ((-9223372036854775808), 9223372036854775807)] [] []) 1000 60 65 p66.1 ⟨.lf, p66.2.2⟩) p66.2.1 = true := by kernel_rfl
theorem p66_ok {σ : Nat → Int} {W0 : World} (hL : L0 W0) (hk : Known2 σ [((-9223372036854775808), 9223372036854775807), (0, 4294967295), (0, 1), (0, 1), (0, 1), (0, 1), (0, 1), (0, 1), ((-9223372036854775808), 9223372036854775807), ((-9223372036854775808), 9223372036854775807), ((-9223372036854775808), 9223372036854775807), ((-9223372036854775808), 9223372036854775807), ((-9223372036854775808), 9223372036854775807), ((-9223372036854775808), 9223372036854775807)] []) : PureOk Tryd.prog 95 σ W0 65 p66 := pure_ok fit hk (FnsOk.nil) p66_run
noncomputable def p67 : Pur := ([.agg [I 5, .int .i64 (.var 3), I 0, I 0, U 1]], .inil, 1048576)
theorem p67_run : ranPure (evCall (cxX Tryd.prog bad [((-9223372036854775808), 9223372036854775807), (0, 4294967295), (0, 1), (0, 1), (0, 1), (0, 1), (0, 1), (0, 1), ((-9223372036854775808), 9223372036854775807), ((-9223372036854775808), 9223372036854775807), ((-9223372036854775808), 9223372036854775807), ((-9223372036854775808), 9223372036854775807), ((-9223372036854775808), 9223372036854775807), ((-9223372036854775808), 9223372036854775807)] [] []) 1000 60 65 p67.1 ⟨.lf, p67.2.2⟩) p67.2.1 = true := by kernel_rfl
theorem p67_ok {σ : Nat → Int} {W0 : World} (hL : L0 W0) (hk : Known2 σ [((-9223372036854775808), 9223372036854775807), (0, 4294967295), (0, 1), (0, 1), (0, 1), (0, 1), (0, 1), (0, 1), ((-9223372036854775808), 9223372036854775807), ((-9223372036854775808), 9223372036854775807), ((-9223372036854775808), 9223372036854775807), ((-9223372036854775808), 9223372036854775807), ((-9223372036854775808), 9223372036854775807), ((-9223372036854775808), 9223372036854775807)] []) : PureOk Tryd.prog 95 σ W0 65 p67 := pure_ok fit hk (FnsOk.nil) p67_run
noncomputable def p68 : Pur := ([.agg [I 5, .int .i64 (.var 4), I 0, I 0, U 1]], .inil, 1048576)
theorem p68_run : ranPure (evCall (cxX Tryd.prog bad [((-9223372036854775808), 9223372036854775807), (0, 4294967295), (0, 1), (0, 1), (0, 1), (0, 1), (0, 1), (0, 1), ((-9223372036854775808), 9223372036854775807), ((-9223372036854775808), 9223372036854775807), ((-9223372036854775808), 9223372036854775807), ((-9223372036854775808), 9223372036854775807), ((-9223372036854775808), 9223372036854775807), ((-9223372036854775808), 9223372036854775807)] [] []) 1000 60 65 p68.1 ⟨.lf, p68.2.2⟩) p68.2.1 = true := by kernel_rfl
theorem p68_ok {σ : Nat → Int} {W0 : World} (hL : L0 W0) (hk : Known2 σ [((-9223372036854775808), 9223372036854775807), (0, 4294967295), (0, 1), (0, 1), (0, 1), (0, 1), (0, 1), (0, 1), ((-9223372036854775808), 9223372036854775807), ((-9223372036854775808), 9223372036854775807), ((-9223372036854775808), 9223372036854775807), ((-9223372036854775808), 9223372036854775807), ((-9223372036854775808), 9223372036854775807), ((-9223372036854775808), 9223372036854775807)] []) : PureOk Tryd.prog 95 σ W0 65 p68 := pure_ok fit hk (FnsOk.nil) p68_run
noncomputable def p69 : Pur := ([.agg [I 5, .int .i64 (.var 5), I 0, I 0, U 1]], .inil, 1048576)
theorem p69_run : ranPure (evCall (cxX Tryd.prog bad [((-9223372036854775808), 9223372036854775807), (0, 4294967295), (0, 1), (0, 1), (0, 1), (0, 1), (0, 1), (0, 1), ((-9223372036854775808), 9223372036854775807), ((-9223372036854775808), 9223372036854775807), ((-9223372036854775808), 9223372036854775807), ((-9223372036854775808), 9223372036854775807), ((-9223372036854775808), 9223372036854775807), ((-9223372036854775808), 9223372036854775807)] [] []) 1000 60 65 p69.1 ⟨.lf, p69.2.2⟩) p69.2.1 = true := by kernel_rfl
theorem p69_ok {σ : Nat → Int} {W0 : World} (hL : L0 W0) (hk : Known2 σ [((-9223372036854775808), 9223372036854775807), (0, 4294967295), (0, 1), (0, 1), (0, 1), (0, 1), (0, 1), (0, 1), ((-9223372036854775808), 9223372036854775807), ((-9223372036854775808), 9223372036854775807), ((-9223372036854775808), 9223372036854775807), ((-9223372036854775808), 9223372036854775807), ((-9223372036854775808), 9223372036854775807), ((-9223372036854775808), 9223372036854775807)] []) : PureOk Tryd.prog 95 σ W0 65 p69 := pure_ok fit hk (FnsOk.nil) p69_run
noncomputable def p70 : Pur := ([.agg [I 5, .int .i64 (.var 6), I 0, I 0, U 1]], .inil, 1048576)
theorem p70_run : ranPure (evCall (cxX Tryd.prog bad [((-9223372036854775808), 9223372036854775807), (0, 4294967295), (0, 1), (0, 1), (0, 1), (0, 1), (0, 1), (0, 1), ((-9223372036854775808), 9223372036854775807), ((-9223372036854775808), 9223372036854775807), ((-9223372036854775808), 9223372036854775807), ((-9223372036854775808), 9223372036854775807), ((-9223372036854775808), 9223372036854775807), ((-9223372036854775808), 9223372036854775807)] [] []) 1000 60 65 p70.1 ⟨.lf, p70.2.2⟩) p70.2.1 = true := by kernel_rfl
theorem p70_ok {σ : Nat → Int} {W0 : World} (hL : L0 W0) (hk : Known2 σ [((-9223372036854775808), 9223372036854775807), (0, 4294967295), (0, 1), (0, 1), (0, 1), (0, 1), (0, 1), (0, 1), ((-9223372036854775808), 9223372036854775807), ((-9223372036854775808), 9223372036854775807), ((-9223372036854775808), 9223372036854775807), ((-9223372036854775808), 9223372036854775807), ((-9223372036854775808), 9223372036854775807), ((-9223372036854775808), 9223372036854775807)] []) : PureOk Tryd.prog 95 σ W0 65 p70 := pure_ok fit hk (FnsOk.nil) p70_run
noncomputable def p71 : Pur := ([.agg [I 5, .int .i64 (.var 7), I 0, I 0, U 1]], .inil, 1048576)
theorem p71_run : ranPure (evCall (cxX Tryd.prog bad [((-9223372036854775808), 9223372036854775807), (0, 4294967295), (0, 1), (0, 1), (0, 1), (0, 1), (0, 1), (0, 1), ((-9223372036854775808), 9223372036854775807), ((-9223372036854775808), 9223372036854775807), ((-9223372036854775808), 9223372036854775807), ((-9223372036854775808), 9223372036854775807), ((-9223372036854775808), 9223372036854775807), ((-9223372036854775808), 9223372036854775807)] [] []) 1000 60 65 p71.1 ⟨.lf, p71.2.2⟩) p71.2.1 = true := by kernel_rfl
theorem p71_ok {σ : Nat → Int} {W0 : World} (hL : L0 W0) (hk : Known2 σ [((-9223372036854775808), 9223372036854775807), (0, 4294967295), (0, 1), (0, 1), (0, 1), (0, 1), (0, 1), (0, 1), ((-9223372036854775808), 9223372036854775807), ((-9223372036854775808), 9223372036854775807), ((-9223372036854775808), 9223372036854775807), ((-9223372036854775808), 9223372036854775807), ((-9223372036854775808), 9223372036854775807), ((-9223372036854775808), 9223372036854775807)] []) : PureOk Tryd.prog 95 σ W0 65 p71 := pure_ok fit hk (FnsOk.nil) p71_run
noncomputable def y31 : List Sym := [s0, s7, s1, s2, s3, s4, s5, s6, s8, s9, s10, s11, s12, s13]
theorem y31_ok {W0 : World} (hL : L0 W0) : ∀ x ∈ y31, SymOk Tryd.prog 95 W0 47 x := all_cons (s0_ok hL) (all_cons (s7_ok hL) (all_cons (s1_ok hL) (all_cons (s2_ok hL) (all_cons (s3_ok hL) (all_cons (s4_ok hL) (all_cons (s5_ok hL) (all_cons (s6_ok hL) (all_cons (s8_ok hL) (all_cons (s9_ok hL) (all_cons (s10_ok hL) (all_cons (s11_ok hL) (all_cons (s12_ok hL) (all_cons (s13_ok hL) (all_nil))))))))))))))
noncomputable def q32 : Fns := [(10, pureFn [p0]), (6, frameFn [m59])]
theorem q32_ok {σ : Nat → Int} {W0 : World} (hL : L0 W0) : FnsOk Tryd.prog 95 σ W0 q32 := FnsOk.cons (pure_fn_ok (all_cons (p0_ok hL) (all_nil))) (FnsOk.cons (frame_fn_ok (all_cons (m59_ok hL) (all_nil))) (FnsOk.nil))
theorem case16 : CaseR (rowH (sentH 225 12 errTab) [.int .i64 (.var 8), .int .i64 (.var 9), .int .i64 (.var 10), .int .i64 (.var 11), .int .i64 (.var 12), .int .i64 (.var 13)]) [((-9223372036854775808), 9223372036854775807), (0, 4294967295), (0, 1), (0, 1), (0, 1), (0, 1), (0, 1), (0, 1), ((-9223372036854775808), 9223372036854775807), ((-9223372036854775808), 9223372036854775807), ((-9223372036854775808), 9223372036854775807), ((-9223372036854775808), 9223372036854775807), ((-9223372036854775808), 9223372036854775807), ((-9223372036854775808), 9223372036854775807)] [] [(0, 5, .lit 1), (8, 2, .var 2), (9, 2, .var 3), (10, 2, .var 4), (11, 2, .var 5), (12, 2, .var 6), (13, 2, .var 7)] [.int .i64 (.var 0), .slice 18 0 6 6 1 false, .int .u32 (.var 1)] := caseR (fun hL hk hT => FnsOk.cons (hT.ok fit) (FnsOk.cons (pure_fn_ok (all_cons (p6_ok hL) (all_cons (p7_ok hL) (all_cons (p8_ok hL) (all_cons (p9_ok hL) (all_cons (p10_ok hL) (all_cons (p11_ok hL) (all_cons (p60_ok hL hk) (all_cons (p61_ok hL hk) (all_cons (p62_ok hL hk) (all_cons (p63_ok hL hk) (all_cons (p64_ok hL hk) (all_cons (p65_ok hL hk) (all_cons (p4_ok hL) (all_cons (p5_ok hL) (all_cons (p23_ok hL) (all_cons (p66_ok hL hk) (all_cons (p67_ok hL hk) (all_cons (p68_ok hL hk) (all_cons (p69_ok hL hk) (all_cons (p70_ok hL hk) (all_cons (p71_ok hL hk) (all_cons (p22_ok hL) (all_nil)))))))))))))))))))))))) (FnsOk.cons (sym_fn_ok (Γ := cxX Tryd.prog bad [((-9223372036854775808), 9223372036854775807), (0, 4294967295), (0, 1), (0, 1), (0, 1), (0, 1), (0, 1), (0, 1), ((-9223372036854775808), 9223372036854775807), ((-9223372036854775808), 9223372036854775807), ((-9223372036854775808), 9223372036854775807), ((-9223372036854775808), 9223372036854775807), ((-9223372036854775808), 9223372036854775807), ((-9223372036854775808), 9223372036854775807)] [] []) (fix := 18) ⟨hk.rng, hk.facts⟩ (by decide) (y31_ok hL)) ((q32_ok hL))))) (by kernel_rfl : isTrue (evCall (cxX Tryd.prog bad [((-9223372036854775808), 9223372036854775807), (0, 4294967295), (0, 1), (0, 1), (0, 1), (0, 1), (0, 1), (0, 1), ((-9223372036854775808), 9223372036854775807), ((-9223372036854775808), 9223372036854775807), ((-9223372036854775808), 9223372036854775807), ((-9223372036854775808), 9223372036854775807), ((-9223372036854775808), 9223372036854775807), ((-9223372036854775808), 9223372036854775807)] [] ((11, numExtE [(0, 5, .lit 1), (8, 2, .var 2), (9, 2, .var 3), (10, 2, .var 4), (11, 2, .var 5), (12, 2, .var 6), (13, 2, .var 7)]) :: (65, pureFn [p6, p7, p8, p9, p10, p11, p60, p61, p62, p63, p64, p65, p4, p5, p23, p66, p67, p68, p69, p70, p71, p22]) :: (47, symFn (cxX Tryd.prog bad [((-9223372036854775808), 9223372036854775807), (0, 4294967295), (0, 1), (0, 1), (0, 1), (0, 1), (0, 1), (0, 1), ((-9223372036854775808), 9223372036854775807), ((-9223372036854775808), 9223372036854775807), ((-9223372036854775808), 9223372036854775807), ((-9223372036854775808), 9223372036854775807), ((-9223372036854775808), 9223372036854775807), ((-9223372036854775808), 9223372036854775807)] [] []) 18 y31) :: q32)) 1000 60 4 [.int .i64 (.var 0), .slice 18 0 6 6 1 false, .int .u32 (.var 1)] (rowH (sentH 225 12 errTab) [.int .i64 (.var 8), .int .i64 (.var 9), .int .i64 (.var 10), .int .i64 (.var 11), .int .i64 (.var 12), .int .i64 (.var 13)])) = true)
end Go.Proofs.YtoldbgemlnkfkaaDoor.bootApart
