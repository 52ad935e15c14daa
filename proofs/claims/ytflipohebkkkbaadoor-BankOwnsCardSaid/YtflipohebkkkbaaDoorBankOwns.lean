/- BankOwns returns true for every input, and the input reads as it did; the listed errors hold what the program text lays. -/
import Derived.Test.YtflipohebkkkbaaDoorEvSeat
import Derived.Deep.DeepWitnessRowRef
import Derived.Lay
set_option linter.unusedVariables false
set_option linter.unusedSimpArgs false
set_option maxRecDepth 10000000
namespace Go.Proofs.YtflipohebkkkbaaDoor.bankOwns
open Tk
open Go.ChangeShapes Go.WideShapes Go.ChangeAt Go.RowKit

theorem own : ownKnob Tryd.prog.godebug = none := by kernel_rfl
theorem run0_0_0_0 : isTrue (evCall (lawCxR Tryd.prog 15 [(1, 4, 0), (2, 4, 0), (0, 3, 0)] []) 1000 60 6 [.int .i64 (.var 0), .int .i64 (.var 1), .int .i64 (.var 2)] (sentH 199 12 errTab)) = true := by kernel_rfl
theorem run0_0_0_1 : isTrue (evCall (lawCxR Tryd.prog 15 [(1, 4, 0), (2, 4, 0), (0, 3, 1)] []) 1000 60 6 [.int .i64 (.var 0), .int .i64 (.var 1), .int .i64 (.var 2)] (sentH 199 12 errTab)) = true := by kernel_rfl
theorem run0_0_0_2 : isTrue (evCall (lawCxR Tryd.prog 15 [(1, 4, 0), (2, 4, 0), (0, 3, 2)] []) 1000 60 6 [.int .i64 (.var 0), .int .i64 (.var 1), .int .i64 (.var 2)] (sentH 199 12 errTab)) = true := by kernel_rfl
theorem run0_0_1_0 : isTrue (evCall (lawCxR Tryd.prog 15 [(1, 4, 0), (2, 4, 1), (0, 3, 0)] []) 1000 60 6 [.int .i64 (.var 0), .int .i64 (.var 1), .int .i64 (.var 2)] (sentH 199 12 errTab)) = true := by kernel_rfl
theorem run0_0_1_1 : isTrue (evCall (lawCxR Tryd.prog 15 [(1, 4, 0), (2, 4, 1), (0, 3, 1)] []) 1000 60 6 [.int .i64 (.var 0), .int .i64 (.var 1), .int .i64 (.var 2)] (sentH 199 12 errTab)) = true := by kernel_rfl
theorem run0_0_1_2 : isTrue (evCall (lawCxR Tryd.prog 15 [(1, 4, 0), (2, 4, 1), (0, 3, 2)] []) 1000 60 6 [.int .i64 (.var 0), .int .i64 (.var 1), .int .i64 (.var 2)] (sentH 199 12 errTab)) = true := by kernel_rfl
theorem run0_0_2_0 : isTrue (evCall (lawCxR Tryd.prog 15 [(1, 4, 0), (2, 4, 2), (0, 3, 0)] []) 1000 60 6 [.int .i64 (.var 0), .int .i64 (.var 1), .int .i64 (.var 2)] (sentH 199 12 errTab)) = true := by kernel_rfl
theorem run0_0_2_1 : isTrue (evCall (lawCxR Tryd.prog 15 [(1, 4, 0), (2, 4, 2), (0, 3, 1)] []) 1000 60 6 [.int .i64 (.var 0), .int .i64 (.var 1), .int .i64 (.var 2)] (sentH 199 12 errTab)) = true := by kernel_rfl
theorem run0_0_2_2 : isTrue (evCall (lawCxR Tryd.prog 15 [(1, 4, 0), (2, 4, 2), (0, 3, 2)] []) 1000 60 6 [.int .i64 (.var 0), .int .i64 (.var 1), .int .i64 (.var 2)] (sentH 199 12 errTab)) = true := by kernel_rfl
theorem run0_0_3_0 : isTrue (evCall (lawCxR Tryd.prog 15 [(1, 4, 0), (2, 4, 3), (0, 3, 0)] []) 1000 60 6 [.int .i64 (.var 0), .int .i64 (.var 1), .int .i64 (.var 2)] (sentH 199 12 errTab)) = true := by kernel_rfl
theorem run0_0_3_1 : isTrue (evCall (lawCxR Tryd.prog 15 [(1, 4, 0), (2, 4, 3), (0, 3, 1)] []) 1000 60 6 [.int .i64 (.var 0), .int .i64 (.var 1), .int .i64 (.var 2)] (sentH 199 12 errTab)) = true := by kernel_rfl
theorem run0_0_3_2 : isTrue (evCall (lawCxR Tryd.prog 15 [(1, 4, 0), (2, 4, 3), (0, 3, 2)] []) 1000 60 6 [.int .i64 (.var 0), .int .i64 (.var 1), .int .i64 (.var 2)] (sentH 199 12 errTab)) = true := by kernel_rfl
theorem run0_1_0_0 : isTrue (evCall (lawCxR Tryd.prog 15 [(1, 4, 1), (2, 4, 0), (0, 3, 0)] []) 1000 60 6 [.int .i64 (.var 0), .int .i64 (.var 1), .int .i64 (.var 2)] (sentH 199 12 errTab)) = true := by kernel_rfl
theorem run0_1_0_1 : isTrue (evCall (lawCxR Tryd.prog 15 [(1, 4, 1), (2, 4, 0), (0, 3, 1)] []) 1000 60 6 [.int .i64 (.var 0), .int .i64 (.var 1), .int .i64 (.var 2)] (sentH 199 12 errTab)) = true := by kernel_rfl
theorem run0_1_0_2 : isTrue (evCall (lawCxR Tryd.prog 15 [(1, 4, 1), (2, 4, 0), (0, 3, 2)] []) 1000 60 6 [.int .i64 (.var 0), .int .i64 (.var 1), .int .i64 (.var 2)] (sentH 199 12 errTab)) = true := by kernel_rfl
theorem run0_1_1_0 : isTrue (evCall (lawCxR Tryd.prog 15 [(1, 4, 1), (2, 4, 1), (0, 3, 0)] []) 1000 60 6 [.int .i64 (.var 0), .int .i64 (.var 1), .int .i64 (.var 2)] (sentH 199 12 errTab)) = true := by kernel_rfl
theorem run0_1_1_1 : isTrue (evCall (lawCxR Tryd.prog 15 [(1, 4, 1), (2, 4, 1), (0, 3, 1)] []) 1000 60 6 [.int .i64 (.var 0), .int .i64 (.var 1), .int .i64 (.var 2)] (sentH 199 12 errTab)) = true := by kernel_rfl
theorem run0_1_1_2 : isTrue (evCall (lawCxR Tryd.prog 15 [(1, 4, 1), (2, 4, 1), (0, 3, 2)] []) 1000 60 6 [.int .i64 (.var 0), .int .i64 (.var 1), .int .i64 (.var 2)] (sentH 199 12 errTab)) = true := by kernel_rfl
theorem run0_1_2_0 : isTrue (evCall (lawCxR Tryd.prog 15 [(1, 4, 1), (2, 4, 2), (0, 3, 0)] []) 1000 60 6 [.int .i64 (.var 0), .int .i64 (.var 1), .int .i64 (.var 2)] (sentH 199 12 errTab)) = true := by kernel_rfl
theorem run0_1_2_1 : isTrue (evCall (lawCxR Tryd.prog 15 [(1, 4, 1), (2, 4, 2), (0, 3, 1)] []) 1000 60 6 [.int .i64 (.var 0), .int .i64 (.var 1), .int .i64 (.var 2)] (sentH 199 12 errTab)) = true := by kernel_rfl
theorem run0_1_2_2 : isTrue (evCall (lawCxR Tryd.prog 15 [(1, 4, 1), (2, 4, 2), (0, 3, 2)] []) 1000 60 6 [.int .i64 (.var 0), .int .i64 (.var 1), .int .i64 (.var 2)] (sentH 199 12 errTab)) = true := by kernel_rfl
theorem run0_1_3_0 : isTrue (evCall (lawCxR Tryd.prog 15 [(1, 4, 1), (2, 4, 3), (0, 3, 0)] []) 1000 60 6 [.int .i64 (.var 0), .int .i64 (.var 1), .int .i64 (.var 2)] (sentH 199 12 errTab)) = true := by kernel_rfl
theorem run0_1_3_1 : isTrue (evCall (lawCxR Tryd.prog 15 [(1, 4, 1), (2, 4, 3), (0, 3, 1)] []) 1000 60 6 [.int .i64 (.var 0), .int .i64 (.var 1), .int .i64 (.var 2)] (sentH 199 12 errTab)) = true := by kernel_rfl
theorem run0_1_3_2 : isTrue (evCall (lawCxR Tryd.prog 15 [(1, 4, 1), (2, 4, 3), (0, 3, 2)] []) 1000 60 6 [.int .i64 (.var 0), .int .i64 (.var 1), .int .i64 (.var 2)] (sentH 199 12 errTab)) = true := by kernel_rfl
theorem run0_2_0_0 : isTrue (evCall (lawCxR Tryd.prog 15 [(1, 4, 2), (2, 4, 0), (0, 3, 0)] []) 1000 60 6 [.int .i64 (.var 0), .int .i64 (.var 1), .int .i64 (.var 2)] (sentH 199 12 errTab)) = true := by kernel_rfl
theorem run0_2_0_1 : isTrue (evCall (lawCxR Tryd.prog 15 [(1, 4, 2), (2, 4, 0), (0, 3, 1)] []) 1000 60 6 [.int .i64 (.var 0), .int .i64 (.var 1), .int .i64 (.var 2)] (sentH 199 12 errTab)) = true := by kernel_rfl
theorem run0_2_0_2 : isTrue (evCall (lawCxR Tryd.prog 15 [(1, 4, 2), (2, 4, 0), (0, 3, 2)] []) 1000 60 6 [.int .i64 (.var 0), .int .i64 (.var 1), .int .i64 (.var 2)] (sentH 199 12 errTab)) = true := by kernel_rfl
theorem run0_2_1_0 : isTrue (evCall (lawCxR Tryd.prog 15 [(1, 4, 2), (2, 4, 1), (0, 3, 0)] []) 1000 60 6 [.int .i64 (.var 0), .int .i64 (.var 1), .int .i64 (.var 2)] (sentH 199 12 errTab)) = true := by kernel_rfl
theorem run0_2_1_1 : isTrue (evCall (lawCxR Tryd.prog 15 [(1, 4, 2), (2, 4, 1), (0, 3, 1)] []) 1000 60 6 [.int .i64 (.var 0), .int .i64 (.var 1), .int .i64 (.var 2)] (sentH 199 12 errTab)) = true := by kernel_rfl
theorem run0_2_1_2 : isTrue (evCall (lawCxR Tryd.prog 15 [(1, 4, 2), (2, 4, 1), (0, 3, 2)] []) 1000 60 6 [.int .i64 (.var 0), .int .i64 (.var 1), .int .i64 (.var 2)] (sentH 199 12 errTab)) = true := by kernel_rfl
theorem run0_2_2_0 : isTrue (evCall (lawCxR Tryd.prog 15 [(1, 4, 2), (2, 4, 2), (0, 3, 0)] []) 1000 60 6 [.int .i64 (.var 0), .int .i64 (.var 1), .int .i64 (.var 2)] (sentH 199 12 errTab)) = true := by kernel_rfl
theorem run0_2_2_1 : isTrue (evCall (lawCxR Tryd.prog 15 [(1, 4, 2), (2, 4, 2), (0, 3, 1)] []) 1000 60 6 [.int .i64 (.var 0), .int .i64 (.var 1), .int .i64 (.var 2)] (sentH 199 12 errTab)) = true := by kernel_rfl
theorem run0_2_2_2 : isTrue (evCall (lawCxR Tryd.prog 15 [(1, 4, 2), (2, 4, 2), (0, 3, 2)] []) 1000 60 6 [.int .i64 (.var 0), .int .i64 (.var 1), .int .i64 (.var 2)] (sentH 199 12 errTab)) = true := by kernel_rfl
theorem run0_2_3_0 : isTrue (evCall (lawCxR Tryd.prog 15 [(1, 4, 2), (2, 4, 3), (0, 3, 0)] []) 1000 60 6 [.int .i64 (.var 0), .int .i64 (.var 1), .int .i64 (.var 2)] (sentH 199 12 errTab)) = true := by kernel_rfl
theorem run0_2_3_1 : isTrue (evCall (lawCxR Tryd.prog 15 [(1, 4, 2), (2, 4, 3), (0, 3, 1)] []) 1000 60 6 [.int .i64 (.var 0), .int .i64 (.var 1), .int .i64 (.var 2)] (sentH 199 12 errTab)) = true := by kernel_rfl
theorem run0_2_3_2 : isTrue (evCall (lawCxR Tryd.prog 15 [(1, 4, 2), (2, 4, 3), (0, 3, 2)] []) 1000 60 6 [.int .i64 (.var 0), .int .i64 (.var 1), .int .i64 (.var 2)] (sentH 199 12 errTab)) = true := by kernel_rfl
theorem run0_3_0_0 : isTrue (evCall (lawCxR Tryd.prog 15 [(1, 4, 3), (2, 4, 0), (0, 3, 0)] []) 1000 60 6 [.int .i64 (.var 0), .int .i64 (.var 1), .int .i64 (.var 2)] (sentH 199 12 errTab)) = true := by kernel_rfl
theorem run0_3_0_1 : isTrue (evCall (lawCxR Tryd.prog 15 [(1, 4, 3), (2, 4, 0), (0, 3, 1)] []) 1000 60 6 [.int .i64 (.var 0), .int .i64 (.var 1), .int .i64 (.var 2)] (sentH 199 12 errTab)) = true := by kernel_rfl
theorem run0_3_0_2 : isTrue (evCall (lawCxR Tryd.prog 15 [(1, 4, 3), (2, 4, 0), (0, 3, 2)] []) 1000 60 6 [.int .i64 (.var 0), .int .i64 (.var 1), .int .i64 (.var 2)] (sentH 199 12 errTab)) = true := by kernel_rfl
theorem run0_3_1_0 : isTrue (evCall (lawCxR Tryd.prog 15 [(1, 4, 3), (2, 4, 1), (0, 3, 0)] []) 1000 60 6 [.int .i64 (.var 0), .int .i64 (.var 1), .int .i64 (.var 2)] (sentH 199 12 errTab)) = true := by kernel_rfl
theorem run0_3_1_1 : isTrue (evCall (lawCxR Tryd.prog 15 [(1, 4, 3), (2, 4, 1), (0, 3, 1)] []) 1000 60 6 [.int .i64 (.var 0), .int .i64 (.var 1), .int .i64 (.var 2)] (sentH 199 12 errTab)) = true := by kernel_rfl
theorem run0_3_1_2 : isTrue (evCall (lawCxR Tryd.prog 15 [(1, 4, 3), (2, 4, 1), (0, 3, 2)] []) 1000 60 6 [.int .i64 (.var 0), .int .i64 (.var 1), .int .i64 (.var 2)] (sentH 199 12 errTab)) = true := by kernel_rfl
theorem run0_3_2_0 : isTrue (evCall (lawCxR Tryd.prog 15 [(1, 4, 3), (2, 4, 2), (0, 3, 0)] []) 1000 60 6 [.int .i64 (.var 0), .int .i64 (.var 1), .int .i64 (.var 2)] (sentH 199 12 errTab)) = true := by kernel_rfl
theorem run0_3_2_1 : isTrue (evCall (lawCxR Tryd.prog 15 [(1, 4, 3), (2, 4, 2), (0, 3, 1)] []) 1000 60 6 [.int .i64 (.var 0), .int .i64 (.var 1), .int .i64 (.var 2)] (sentH 199 12 errTab)) = true := by kernel_rfl
theorem run0_3_2_2 : isTrue (evCall (lawCxR Tryd.prog 15 [(1, 4, 3), (2, 4, 2), (0, 3, 2)] []) 1000 60 6 [.int .i64 (.var 0), .int .i64 (.var 1), .int .i64 (.var 2)] (sentH 199 12 errTab)) = true := by kernel_rfl
theorem run0_3_3_0 : isTrue (evCall (lawCxR Tryd.prog 15 [(1, 4, 3), (2, 4, 3), (0, 3, 0)] []) 1000 60 6 [.int .i64 (.var 0), .int .i64 (.var 1), .int .i64 (.var 2)] (sentH 199 12 errTab)) = true := by kernel_rfl
theorem run0_3_3_1 : isTrue (evCall (lawCxR Tryd.prog 15 [(1, 4, 3), (2, 4, 3), (0, 3, 1)] []) 1000 60 6 [.int .i64 (.var 0), .int .i64 (.var 1), .int .i64 (.var 2)] (sentH 199 12 errTab)) = true := by kernel_rfl
theorem run0_3_3_2 : isTrue (evCall (lawCxR Tryd.prog 15 [(1, 4, 3), (2, 4, 3), (0, 3, 2)] []) 1000 60 6 [.int .i64 (.var 0), .int .i64 (.var 1), .int .i64 (.var 2)] (sentH 199 12 errTab)) = true := by kernel_rfl
theorem runs0 (c0 : Int) (hc0 : 0 ≤ c0) (kc0 : c0 < 4) (c1 : Int) (hc1 : 0 ≤ c1) (kc1 : c1 < 4) (c2 : Int) (hc2 : 0 ≤ c2) (kc2 : c2 < 3) : isTrue (evCall (lawCxR Tryd.prog 15 [(1, 4, c0), (2, 4, c1), (0, 3, c2)] []) 1000 60 6 [.int .i64 (.var 0), .int .i64 (.var 1), .int .i64 (.var 2)] (sentH 199 12 errTab)) = true := by
  have e0 : c0 = 0 ∨ c0 = 1 ∨ c0 = 2 ∨ c0 = 3 := by omega
  rcases e0 with rfl | rfl | rfl | rfl
  ·
    have e1 : c1 = 0 ∨ c1 = 1 ∨ c1 = 2 ∨ c1 = 3 := by omega
    rcases e1 with rfl | rfl | rfl | rfl
    ·
      have e2 : c2 = 0 ∨ c2 = 1 ∨ c2 = 2 := by omega
      rcases e2 with rfl | rfl | rfl
      ·
        exact run0_0_0_0
      ·
        exact run0_0_0_1
      ·
        exact run0_0_0_2
    ·
      have e2 : c2 = 0 ∨ c2 = 1 ∨ c2 = 2 := by omega
      rcases e2 with rfl | rfl | rfl
      ·
        exact run0_0_1_0
      ·
        exact run0_0_1_1
      ·
        exact run0_0_1_2
    ·
      have e2 : c2 = 0 ∨ c2 = 1 ∨ c2 = 2 := by omega
      rcases e2 with rfl | rfl | rfl
      ·
        exact run0_0_2_0
      ·
        exact run0_0_2_1
      ·
        exact run0_0_2_2
    ·
      have e2 : c2 = 0 ∨ c2 = 1 ∨ c2 = 2 := by omega
      rcases e2 with rfl | rfl | rfl
      ·
        exact run0_0_3_0
      ·
        exact run0_0_3_1
      ·
        exact run0_0_3_2
  ·
    have e1 : c1 = 0 ∨ c1 = 1 ∨ c1 = 2 ∨ c1 = 3 := by omega
    rcases e1 with rfl | rfl | rfl | rfl
    ·
      have e2 : c2 = 0 ∨ c2 = 1 ∨ c2 = 2 := by omega
      rcases e2 with rfl | rfl | rfl
      ·
        exact run0_1_0_0
      ·
        exact run0_1_0_1
      ·
        exact run0_1_0_2
    ·
      have e2 : c2 = 0 ∨ c2 = 1 ∨ c2 = 2 := by omega
      rcases e2 with rfl | rfl | rfl
      ·
        exact run0_1_1_0
      ·
        exact run0_1_1_1
      ·
        exact run0_1_1_2
    ·
      have e2 : c2 = 0 ∨ c2 = 1 ∨ c2 = 2 := by omega
      rcases e2 with rfl | rfl | rfl
      ·
        exact run0_1_2_0
      ·
        exact run0_1_2_1
      ·
        exact run0_1_2_2
    ·
      have e2 : c2 = 0 ∨ c2 = 1 ∨ c2 = 2 := by omega
      rcases e2 with rfl | rfl | rfl
      ·
        exact run0_1_3_0
      ·
        exact run0_1_3_1
      ·
        exact run0_1_3_2
  ·
    have e1 : c1 = 0 ∨ c1 = 1 ∨ c1 = 2 ∨ c1 = 3 := by omega
    rcases e1 with rfl | rfl | rfl | rfl
    ·
      have e2 : c2 = 0 ∨ c2 = 1 ∨ c2 = 2 := by omega
      rcases e2 with rfl | rfl | rfl
      ·
        exact run0_2_0_0
      ·
        exact run0_2_0_1
      ·
        exact run0_2_0_2
    ·
      have e2 : c2 = 0 ∨ c2 = 1 ∨ c2 = 2 := by omega
      rcases e2 with rfl | rfl | rfl
      ·
        exact run0_2_1_0
      ·
        exact run0_2_1_1
      ·
        exact run0_2_1_2
    ·
      have e2 : c2 = 0 ∨ c2 = 1 ∨ c2 = 2 := by omega
      rcases e2 with rfl | rfl | rfl
      ·
        exact run0_2_2_0
      ·
        exact run0_2_2_1
      ·
        exact run0_2_2_2
    ·
      have e2 : c2 = 0 ∨ c2 = 1 ∨ c2 = 2 := by omega
      rcases e2 with rfl | rfl | rfl
      ·
        exact run0_2_3_0
      ·
        exact run0_2_3_1
      ·
        exact run0_2_3_2
  ·
    have e1 : c1 = 0 ∨ c1 = 1 ∨ c1 = 2 ∨ c1 = 3 := by omega
    rcases e1 with rfl | rfl | rfl | rfl
    ·
      have e2 : c2 = 0 ∨ c2 = 1 ∨ c2 = 2 := by omega
      rcases e2 with rfl | rfl | rfl
      ·
        exact run0_3_0_0
      ·
        exact run0_3_0_1
      ·
        exact run0_3_0_2
    ·
      have e2 : c2 = 0 ∨ c2 = 1 ∨ c2 = 2 := by omega
      rcases e2 with rfl | rfl | rfl
      ·
        exact run0_3_1_0
      ·
        exact run0_3_1_1
      ·
        exact run0_3_1_2
    ·
      have e2 : c2 = 0 ∨ c2 = 1 ∨ c2 = 2 := by omega
      rcases e2 with rfl | rfl | rfl
      ·
        exact run0_3_2_0
      ·
        exact run0_3_2_1
      ·
        exact run0_3_2_2
    ·
      have e2 : c2 = 0 ∨ c2 = 1 ∨ c2 = 2 := by omega
      rcases e2 with rfl | rfl | rfl
      ·
        exact run0_3_3_0
      ·
        exact run0_3_3_1
      ·
        exact run0_3_3_2
theorem walk0 (W : World) (n0 : Int) (hn0 : (Lit.int .i64 n0).wf = true) (n1 : Int) (hn1 : (Lit.int .i64 n1).wf = true) (n2 : Int) (hn2 : (Lit.int .i64 n2).wf = true) (hL : laidMetH Tryd.prog laidErrs W) : Calls Tryd.prog 6 #[.int .i64 n0, .int .i64 n1, .int .i64 n2] W fun e w' => e = .returned (.bool true) ∧ Below W.heap.size W w' := by
  obtain ⟨ads, h1, h2, h3⟩ := errs_sents hL
  simp only [Lit.wf, Bool.and_eq_true, decide_eq_true_eq] at hn0
  have lo0 : -9223372036854775808 ≤ n0 := hn0.1
  have hi0 : n0 ≤ 9223372036854775807 := hn0.2
  simp only [Lit.wf, Bool.and_eq_true, decide_eq_true_eq] at hn1
  have lo1 : -9223372036854775808 ≤ n1 := hn1.1
  have hi1 : n1 ≤ 9223372036854775807 := hn1.2
  simp only [Lit.wf, Bool.and_eq_true, decide_eq_true_eq] at hn2
  have lo2 : -9223372036854775808 ≤ n2 := hn2.1
  have hi2 : n2 ≤ 9223372036854775807 := hn2.2
  obtain ⟨c0, d0⟩ := numOf_range n1 4 (by decide)
  obtain ⟨c1, d1⟩ := numOf_range n2 4 (by decide)
  obtain ⟨c2, d2⟩ := numOf_range n0 3 (by decide)
  refine law_case_r (σ := fun i => if i = 0 then n0 else if i = 1 then n1 else if i = 2 then n2 else 0) (tab := [(1, 4, numOf n1 4), (2, 4, numOf n2 4), (0, 3, numOf n0 3)]) (rng := []) (vs := [.int .i64 (.var 0), .int .i64 (.var 1), .int .i64 (.var 2)]) mixed body_ok h1 h2 h3 errs_all errs_lt ?_ ?_ (fun ρ => VRs.cons (by simp [VR, E.den]) (VRs.cons (by simp [VR, E.den]) (VRs.cons (by simp [VR, E.den]) (VRs.nil)))) ⟨_, Tryd.func6, rfl⟩ (runs0 _ c0 d0 _ c1 d1 _ c2 d2)
  · intro i k c hm
    simp only [List.mem_cons, List.not_mem_nil, or_false, Prod.mk.injEq] at hm
    rcases hm with ⟨rfl, rfl, rfl⟩ | ⟨rfl, rfl, rfl⟩ | ⟨rfl, rfl, rfl⟩
    · exact ⟨num4, by decide, by decide, lo1, hi1, rfl⟩
    · exact ⟨num4, by decide, by decide, lo2, hi2, rfl⟩
    · exact ⟨num3, by decide, by decide, lo0, hi0, rfl⟩
  · intro i lo hi hr
    simp at hr
theorem walk (W : World) (n0 : Int) (hn0 : (Lit.int .i64 n0).wf = true) (n1 : Int) (hn1 : (Lit.int .i64 n1).wf = true) (n2 : Int) (hn2 : (Lit.int .i64 n2).wf = true) (hL : laidMetH Tryd.prog laidErrs W) : Calls Tryd.prog 6 #[.int .i64 n0, .int .i64 n1, .int .i64 n2] W fun e w' => e = .returned (.bool true) ∧ Below W.heap.size W w' := by
  exact walk0 W n0 hn0 n1 hn1 n2 hn2  hL
theorem contract (H : Type) (enc : TypeId × Value → H) (W : World) (base : Nat) (args : Array Value) (ds gs : List (DataW H)) (before : List MemPlace)
    (hval : ∀ (j : Nat) t v, Tryd.f6.params[j]? = some t → args[j]? = some v → Value.okWide Tryd.prog W .any base t v)
    (hW : DataW.Whole enc Tryd.prog Tryd.f6.params.toList Rows.bankOwnsSpec.vars false W args.toList ds gs before) (hL : laidMetH Tryd.prog Rows.bankOwnsRow.laid W) :
    Calls Tryd.prog 6 args W fun e W' => ∃ v, e = .returned v ∧ Rows.bankOwnsSpec.post enc Tryd.prog Tryd.f6 false true false false W args v W' := by
  have hW' := hW
  obtain ⟨p, q, hA0, hV, rfl, hfz, hnd⟩ := hW
  have hA : DataW.TrodAll enc Tryd.prog W 0 (fun _ => true) true Tryd.f6.params.toList args.toList ds p := hA0
  rw [Tryd.params6] at hA hval
  obtain ⟨v0, vs0, d0, ds0, p0, q0, hargs, rfl, rfl, h0, r0⟩ := trodAll_cons hA
  obtain ⟨v1, vs1, d1, ds1, p1, q1, rfl, rfl, rfl, h1, r1⟩ := trodAll_cons r0
  obtain ⟨v2, vs2, d2, ds2, p2, q2, rfl, rfl, rfl, h2, r2⟩ := trodAll_cons r1
  obtain ⟨rfl, rfl, rfl⟩ := trodAll_nil r2
  obtain rfl : args = #[v0, v1, v2] := by cases args; simp_all
  obtain ⟨rfl, rfl⟩ := trodVars_none hV
  obtain ⟨n0, rfl, rfl, rfl, hn0⟩ := open_int Tryd.underlying3 (hval 0 3 v0 rfl rfl) h0
  obtain ⟨n1, rfl, rfl, rfl, hn1⟩ := open_int Tryd.underlying3 (hval 1 3 v1 rfl rfl) h1
  obtain ⟨n2, rfl, rfl, rfl, hn2⟩ := open_int Tryd.underlying3 (hval 2 3 v2 rfl rfl) h2
  clear hA0
  simp only [List.append_nil] at hW'
  refine (walk W n0 hn0 n1 hn1 n2 hn2 hL).mono fun e W' hh => ?_
  obtain ⟨he, hg⟩ := hh
  subst he
  exact ⟨_, rfl, _, _, _, [], [], [], hW', trodAll_cons_mk (shut_bool Tryd.underlying4 _) trodAll_mk0, trodAll_cons_mk (shut_int Tryd.underlying3 hn0) (trodAll_cons_mk (shut_int Tryd.underlying3 hn1) (trodAll_cons_mk (shut_int Tryd.underlying3 hn2) trodAll_mk0)), rfl, hg.frame _, fun h => Bool.noConfusion h⟩
theorem laid_met (os : Os) : laidMetH Tryd.prog Rows.bankOwnsRow.laid ((World.laidAll Tryd.prog os Rows.bankOwnsRow.laid).forCall (fun _ _ => 0) ⟨#[], #[.int .i64 0, .int .i64 0, .int .i64 0], []⟩).memory := by
  rw [MakeChecks.laidMetH_plain _ _ _ (by kernel_rfl)]
  exact laidMet_laidAll _ (by kernel_rfl) (by kernel_rfl)
theorem reads (os : Os) {H : Type} (enc : TypeId × Value → H) : ∃ places, DataW.whole enc Tryd.prog ((World.laidAll Tryd.prog os Rows.bankOwnsRow.laid).forCall (fun _ _ => 0) ⟨#[], #[.int .i64 0, .int .i64 0, .int .i64 0], []⟩).memory Tryd.f6.params.toList Rows.bankOwnsSpec.vars false #[Value.int .i64 0, .int .i64 0, .int .i64 0].toList 8 = some ([.lit (.int .i64 0), .lit (.int .i64 0), .lit (.int .i64 0)], [], places) :=
  ⟨[], by kernel_rfl⟩
theorem lifted (os : Os) (started : os.Started) (H : Type) (enc : TypeId × Value → H) (F : Stop.Interp) :
    ReturnsInHanded {} Tryd.checked os 6 .any ((OpenSpec.ofChange Rows.bankOwnsSpec).preRow enc Tryd.prog Tryd.f6 Rows.bankOwnsRow.domain false Rows.bankOwnsRow.laid) (((OpenSpec.ofChange Rows.bankOwnsSpec).at F).post enc Tryd.prog Tryd.f6 false true false false) := by
  obtain ⟨places, hx⟩ := reads os enc
  refine returnsInHanded_of_row (C := Tryd.checked) (s := OpenSpec.ofChange Rows.bankOwnsSpec) own started (by kernel_rfl) Tryd.func6
    (witness_row_atRef (enc := enc) (C := Tryd.checked) false (World.laidAll Tryd.prog os Rows.bankOwnsRow.laid) #[.int .i64 0, .int .i64 0, .int .i64 0] (World.laidAll_os _ _ _) (by kernel_rfl) (by kernel_rfl) (by kernel_rfl)
      (OpenSpec.preRow_of_cond 8 hx (by kernel_rfl) (fun k hk => by cases hk) (by kernel_rfl) (laid_met os))) ?_
  intro W base args ds gs before hval hW _ _ _ hL _ _
  exact contract H enc W base args ds gs before hval hW hL
theorem said : Rows.BankOwnsSaid :=
  OpenClaim.holds_of_cond 6 Tryd.f6 rfl rfl rfl rfl rfl rfl rfl ⟨rfl, rfl, rfl, rfl, rfl⟩ rfl rfl rfl rfl rfl (by kernel_rfl) Tryd.func6 (by kernel_rfl)
    (of_decide_eq_true (by kernel_rfl)) (by unfold Func.isWrapper; first | (rw [if_pos (by decide +kernel)]; kernel_rfl) | (rw [if_neg (by decide +kernel)]; exact ⟨rfl, rfl⟩))
    (fun os started H enc _ F => by rw [OpenClaim.pre_eq_preRow]; exact lifted os started H enc F)
theorem plain (f : FuncId) (fn : Func) (hf : Tryd.pinned.checked.prog.funcNamed "turnkey/turnkeylaw18.BankOwns" = some f) (hfn : Tryd.pinned.checked.prog.funcs[f]? = some fn) :
    true = Tryd.pinned.checked.prog.looks [] ∧ ∀ (j : Nat) t, fn.params[j]? = some t → Tryd.pinned.checked.prog.wantsStandIn t = false := by
  obtain rfl : f = 6 := Option.some.inj ((show Tryd.prog.funcNamed "turnkey/turnkeylaw18.BankOwns" = some 6 by kernel_rfl).symm.trans hf) |>.symm
  obtain rfl : fn = Tryd.f6 := (Option.some.inj (Tryd.func6.symm.trans hfn)).symm
  refine ⟨by kernel_rfl, fun j t ht => ?_⟩
  rw [Tryd.params6] at ht
  have hm := Array.mem_of_getElem? ht
  have hall : ∀ t, t ∈ #[(3 : TypeId), (3 : TypeId), (3 : TypeId)] → Tryd.prog.wantsStandIn t = false := by
    intro t h
    simp only [List.mem_toArray, List.mem_cons, List.not_mem_nil, or_false] at h
    rcases h with rfl | rfl | rfl
    · exact (show Tryd.prog.wantsStandIn 3 = false by kernel_rfl)
    · exact (show Tryd.prog.wantsStandIn 3 = false by kernel_rfl)
    · exact (show Tryd.prog.wantsStandIn 3 = false by kernel_rfl)
  exact hall t hm
theorem card : Rows.BankOwnsCardSaid :=
  Claim7.holds_tied_plain_at .later [] _ _ _ _ said (fun _ h => by cases h) (by kernel_rfl) (fun _ h => by cases h) bankOwns_row_tie rfl ⟨rfl, rfl⟩ (by kernel_rfl) rfl plain (by kernel_rfl)
end Go.Proofs.YtflipohebkkkbaaDoor.bankOwns
