/- codeRows: the runs, part 1. -/
import Derived.Test.YtnedpimammoekaaDoorCrT0
set_option linter.unusedVariables false
set_option maxRecDepth 10000000
namespace Go.Proofs.YtnedpimammoekaaDoor.codeRows
open Tk
open Go.RowKit
theorem f19 : firstT 19 = true := by kernel_rfl
theorem g19 : runT 19 (goodT 19) = true := by kernel_rfl
theorem b19_0 : bad1 19 0 = true := by kernel_rfl
theorem b19_1 : bad1 19 1 = true := by kernel_rfl
theorem b19_2 : bad1 19 2 = true := by kernel_rfl
theorem b19_3 : bad1 19 3 = true := by kernel_rfl
theorem b19_4 : bad1 19 4 = true := by kernel_rfl
theorem b19_5 : bad1 19 5 = true := by kernel_rfl
theorem b19_6 : bad1 19 6 = true := by kernel_rfl
theorem b19_7 : bad1 19 7 = true := by kernel_rfl
theorem b19_8 : bad1 19 8 = true := by kernel_rfl
theorem b19_9 : bad1 19 9 = true := by kernel_rfl
theorem b19_10 : bad1 19 10 = true := by kernel_rfl
theorem b19_11 : bad1 19 11 = true := by kernel_rfl
theorem b19_12 : bad1 19 12 = true := by kernel_rfl
theorem b19_13 : bad1 19 13 = true := by kernel_rfl
theorem b19_14 : bad1 19 14 = true := by kernel_rfl
theorem b19_15 : bad1 19 15 = true := by kernel_rfl
theorem b19_16 : bad1 19 16 = true := by kernel_rfl
theorem b19_17 : bad1 19 17 = true := by kernel_rfl
theorem b19_18 : bad1 19 18 = true := by kernel_rfl
theorem f20 : firstT 20 = true := by kernel_rfl
theorem g20 : runT 20 (goodT 20) = true := by kernel_rfl
theorem b20_0 : bad1 20 0 = true := by kernel_rfl
theorem b20_1 : bad1 20 1 = true := by kernel_rfl
theorem b20_2 : bad1 20 2 = true := by kernel_rfl
theorem b20_3 : bad1 20 3 = true := by kernel_rfl
theorem b20_4 : bad1 20 4 = true := by kernel_rfl
theorem b20_5 : bad1 20 5 = true := by kernel_rfl
theorem b20_6 : bad1 20 6 = true := by kernel_rfl
theorem b20_7 : bad1 20 7 = true := by kernel_rfl
theorem b20_8 : bad1 20 8 = true := by kernel_rfl
theorem b20_9 : bad1 20 9 = true := by kernel_rfl
theorem b20_10 : bad1 20 10 = true := by kernel_rfl
theorem b20_11 : bad1 20 11 = true := by kernel_rfl
theorem b20_12 : bad1 20 12 = true := by kernel_rfl
theorem b20_13 : bad1 20 13 = true := by kernel_rfl
theorem b20_14 : bad1 20 14 = true := by kernel_rfl
theorem b20_15 : bad1 20 15 = true := by kernel_rfl
theorem b20_16 : bad1 20 16 = true := by kernel_rfl
theorem b20_17 : bad1 20 17 = true := by kernel_rfl
theorem b20_18 : bad1 20 18 = true := by kernel_rfl
theorem b20_19 : bad1 20 19 = true := by kernel_rfl
theorem f21 : firstT 21 = true := by kernel_rfl
theorem g21 : runT 21 (goodT 21) = true := by kernel_rfl
theorem b21_0 : bad1 21 0 = true := by kernel_rfl
theorem b21_1 : bad1 21 1 = true := by kernel_rfl
theorem b21_2 : bad1 21 2 = true := by kernel_rfl
theorem b21_3 : bad1 21 3 = true := by kernel_rfl
theorem b21_4 : bad1 21 4 = true := by kernel_rfl
theorem b21_5 : bad1 21 5 = true := by kernel_rfl
theorem b21_6 : bad1 21 6 = true := by kernel_rfl
theorem b21_7 : bad1 21 7 = true := by kernel_rfl
theorem b21_8 : bad1 21 8 = true := by kernel_rfl
theorem b21_9 : bad1 21 9 = true := by kernel_rfl
theorem b21_10 : bad1 21 10 = true := by kernel_rfl
theorem b21_11 : bad1 21 11 = true := by kernel_rfl
theorem b21_12 : bad1 21 12 = true := by kernel_rfl
theorem b21_13 : bad1 21 13 = true := by kernel_rfl
theorem b21_14 : bad1 21 14 = true := by kernel_rfl
theorem b21_15 : bad1 21 15 = true := by kernel_rfl
theorem b21_16 : bad1 21 16 = true := by kernel_rfl
theorem b21_17 : bad1 21 17 = true := by kernel_rfl
theorem b21_18 : bad1 21 18 = true := by kernel_rfl
theorem b21_19 : bad1 21 19 = true := by kernel_rfl
theorem b21_20 : bad1 21 20 = true := by kernel_rfl
theorem f22 : firstT 22 = true := by kernel_rfl
theorem g22 : runT 22 (goodT 22) = true := by kernel_rfl
theorem b22_0 : bad1 22 0 = true := by kernel_rfl
theorem b22_1 : bad1 22 1 = true := by kernel_rfl
theorem b22_2 : bad1 22 2 = true := by kernel_rfl
theorem b22_3 : bad1 22 3 = true := by kernel_rfl
theorem b22_4 : bad1 22 4 = true := by kernel_rfl
theorem b22_5 : bad1 22 5 = true := by kernel_rfl
theorem b22_6 : bad1 22 6 = true := by kernel_rfl
theorem b22_7 : bad1 22 7 = true := by kernel_rfl
theorem b22_8 : bad1 22 8 = true := by kernel_rfl
theorem b22_9 : bad1 22 9 = true := by kernel_rfl
theorem b22_10 : bad1 22 10 = true := by kernel_rfl
theorem b22_11 : bad1 22 11 = true := by kernel_rfl
theorem b22_12 : bad1 22 12 = true := by kernel_rfl
theorem b22_13 : bad1 22 13 = true := by kernel_rfl
theorem b22_14 : bad1 22 14 = true := by kernel_rfl
theorem b22_15 : bad1 22 15 = true := by kernel_rfl
theorem b22_16 : bad1 22 16 = true := by kernel_rfl
theorem b22_17 : bad1 22 17 = true := by kernel_rfl
theorem b22_18 : bad1 22 18 = true := by kernel_rfl
theorem b22_19 : bad1 22 19 = true := by kernel_rfl
theorem b22_20 : bad1 22 20 = true := by kernel_rfl
theorem b22_21 : bad1 22 21 = true := by kernel_rfl
theorem f23 : firstT 23 = true := by kernel_rfl
theorem g23 : runT 23 (goodT 23) = true := by kernel_rfl
theorem b23_0 : bad1 23 0 = true := by kernel_rfl
theorem b23_1 : bad1 23 1 = true := by kernel_rfl
theorem b23_2 : bad1 23 2 = true := by kernel_rfl
theorem b23_3 : bad1 23 3 = true := by kernel_rfl
theorem b23_4 : bad1 23 4 = true := by kernel_rfl
theorem b23_5 : bad1 23 5 = true := by kernel_rfl
theorem b23_6 : bad1 23 6 = true := by kernel_rfl
theorem b23_7 : bad1 23 7 = true := by kernel_rfl
theorem b23_8 : bad1 23 8 = true := by kernel_rfl
theorem b23_9 : bad1 23 9 = true := by kernel_rfl
theorem b23_10 : bad1 23 10 = true := by kernel_rfl
theorem b23_11 : bad1 23 11 = true := by kernel_rfl
theorem b23_12 : bad1 23 12 = true := by kernel_rfl
theorem b23_13 : bad1 23 13 = true := by kernel_rfl
theorem b23_14 : bad1 23 14 = true := by kernel_rfl
theorem b23_15 : bad1 23 15 = true := by kernel_rfl
theorem b23_16 : bad1 23 16 = true := by kernel_rfl
theorem b23_17 : bad1 23 17 = true := by kernel_rfl
theorem b23_18 : bad1 23 18 = true := by kernel_rfl
theorem b23_19 : bad1 23 19 = true := by kernel_rfl
theorem b23_20 : bad1 23 20 = true := by kernel_rfl
theorem b23_21 : bad1 23 21 = true := by kernel_rfl
theorem b23_22 : bad1 23 22 = true := by kernel_rfl
theorem f24 : firstT 24 = true := by kernel_rfl
theorem g24 : runT 24 (goodT 24) = true := by kernel_rfl
theorem b24_0 : bad1 24 0 = true := by kernel_rfl
theorem b24_1 : bad1 24 1 = true := by kernel_rfl
theorem b24_2 : bad1 24 2 = true := by kernel_rfl
theorem b24_3 : bad1 24 3 = true := by kernel_rfl
theorem b24_4 : bad1 24 4 = true := by kernel_rfl
theorem b24_5 : bad1 24 5 = true := by kernel_rfl
theorem b24_6 : bad1 24 6 = true := by kernel_rfl
theorem b24_7 : bad1 24 7 = true := by kernel_rfl
theorem b24_8 : bad1 24 8 = true := by kernel_rfl
theorem b24_9 : bad1 24 9 = true := by kernel_rfl
theorem b24_10 : bad1 24 10 = true := by kernel_rfl
theorem b24_11 : bad1 24 11 = true := by kernel_rfl
theorem b24_12 : bad1 24 12 = true := by kernel_rfl
theorem b24_13 : bad1 24 13 = true := by kernel_rfl
theorem b24_14 : bad1 24 14 = true := by kernel_rfl
theorem b24_15 : bad1 24 15 = true := by kernel_rfl
theorem b24_16 : bad1 24 16 = true := by kernel_rfl
theorem b24_17 : bad1 24 17 = true := by kernel_rfl
theorem b24_18 : bad1 24 18 = true := by kernel_rfl
theorem b24_19 : bad1 24 19 = true := by kernel_rfl
theorem b24_20 : bad1 24 20 = true := by kernel_rfl
theorem b24_21 : bad1 24 21 = true := by kernel_rfl
theorem b24_22 : bad1 24 22 = true := by kernel_rfl
theorem b24_23 : bad1 24 23 = true := by kernel_rfl
end Go.Proofs.YtnedpimammoekaaDoor.codeRows
