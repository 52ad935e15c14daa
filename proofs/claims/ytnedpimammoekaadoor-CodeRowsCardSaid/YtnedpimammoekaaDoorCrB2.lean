/- codeRows: the runs, part 2. -/
import Derived.Test.YtnedpimammoekaaDoorCrT0
set_option linter.unusedVariables false
set_option maxRecDepth 10000000
namespace Go.Proofs.YtnedpimammoekaaDoor.codeRows
open Tk
open Go.RowKit
theorem f25 : firstT 25 = true := by kernel_rfl
theorem g25 : runT 25 (goodT 25) = true := by kernel_rfl
theorem b25_0 : bad1 25 0 = true := by kernel_rfl
theorem b25_1 : bad1 25 1 = true := by kernel_rfl
theorem b25_2 : bad1 25 2 = true := by kernel_rfl
theorem b25_3 : bad1 25 3 = true := by kernel_rfl
theorem b25_4 : bad1 25 4 = true := by kernel_rfl
theorem b25_5 : bad1 25 5 = true := by kernel_rfl
theorem b25_6 : bad1 25 6 = true := by kernel_rfl
theorem b25_7 : bad1 25 7 = true := by kernel_rfl
theorem b25_8 : bad1 25 8 = true := by kernel_rfl
theorem b25_9 : bad1 25 9 = true := by kernel_rfl
theorem b25_10 : bad1 25 10 = true := by kernel_rfl
theorem b25_11 : bad1 25 11 = true := by kernel_rfl
theorem b25_12 : bad1 25 12 = true := by kernel_rfl
theorem b25_13 : bad1 25 13 = true := by kernel_rfl
theorem b25_14 : bad1 25 14 = true := by kernel_rfl
theorem b25_15 : bad1 25 15 = true := by kernel_rfl
theorem b25_16 : bad1 25 16 = true := by kernel_rfl
theorem b25_17 : bad1 25 17 = true := by kernel_rfl
theorem b25_18 : bad1 25 18 = true := by kernel_rfl
theorem b25_19 : bad1 25 19 = true := by kernel_rfl
theorem b25_20 : bad1 25 20 = true := by kernel_rfl
theorem b25_21 : bad1 25 21 = true := by kernel_rfl
theorem b25_22 : bad1 25 22 = true := by kernel_rfl
theorem b25_23 : bad1 25 23 = true := by kernel_rfl
theorem b25_24 : bad1 25 24 = true := by kernel_rfl
theorem f26 : firstT 26 = true := by kernel_rfl
theorem g26 : runT 26 (goodT 26) = true := by kernel_rfl
theorem b26_0 : bad1 26 0 = true := by kernel_rfl
theorem b26_1 : bad1 26 1 = true := by kernel_rfl
theorem b26_2 : bad1 26 2 = true := by kernel_rfl
theorem b26_3 : bad1 26 3 = true := by kernel_rfl
theorem b26_4 : bad1 26 4 = true := by kernel_rfl
theorem b26_5 : bad1 26 5 = true := by kernel_rfl
theorem b26_6 : bad1 26 6 = true := by kernel_rfl
theorem b26_7 : bad1 26 7 = true := by kernel_rfl
theorem b26_8 : bad1 26 8 = true := by kernel_rfl
theorem b26_9 : bad1 26 9 = true := by kernel_rfl
theorem b26_10 : bad1 26 10 = true := by kernel_rfl
theorem b26_11 : bad1 26 11 = true := by kernel_rfl
theorem b26_12 : bad1 26 12 = true := by kernel_rfl
theorem b26_13 : bad1 26 13 = true := by kernel_rfl
theorem b26_14 : bad1 26 14 = true := by kernel_rfl
theorem b26_15 : bad1 26 15 = true := by kernel_rfl
theorem b26_16 : bad1 26 16 = true := by kernel_rfl
theorem b26_17 : bad1 26 17 = true := by kernel_rfl
theorem b26_18 : bad1 26 18 = true := by kernel_rfl
theorem b26_19 : bad1 26 19 = true := by kernel_rfl
theorem b26_20 : bad1 26 20 = true := by kernel_rfl
theorem b26_21 : bad1 26 21 = true := by kernel_rfl
theorem b26_22 : bad1 26 22 = true := by kernel_rfl
theorem b26_23 : bad1 26 23 = true := by kernel_rfl
theorem b26_24 : bad1 26 24 = true := by kernel_rfl
theorem b26_25 : bad1 26 25 = true := by kernel_rfl
theorem f27 : firstT 27 = true := by kernel_rfl
theorem g27 : runT 27 (goodT 27) = true := by kernel_rfl
theorem b27_0 : bad1 27 0 = true := by kernel_rfl
theorem b27_1 : bad1 27 1 = true := by kernel_rfl
theorem b27_2 : bad1 27 2 = true := by kernel_rfl
theorem b27_3 : bad1 27 3 = true := by kernel_rfl
theorem b27_4 : bad1 27 4 = true := by kernel_rfl
theorem b27_5 : bad1 27 5 = true := by kernel_rfl
theorem b27_6 : bad1 27 6 = true := by kernel_rfl
theorem b27_7 : bad1 27 7 = true := by kernel_rfl
theorem b27_8 : bad1 27 8 = true := by kernel_rfl
theorem b27_9 : bad1 27 9 = true := by kernel_rfl
theorem b27_10 : bad1 27 10 = true := by kernel_rfl
theorem b27_11 : bad1 27 11 = true := by kernel_rfl
theorem b27_12 : bad1 27 12 = true := by kernel_rfl
theorem b27_13 : bad1 27 13 = true := by kernel_rfl
theorem b27_14 : bad1 27 14 = true := by kernel_rfl
theorem b27_15 : bad1 27 15 = true := by kernel_rfl
theorem b27_16 : bad1 27 16 = true := by kernel_rfl
theorem b27_17 : bad1 27 17 = true := by kernel_rfl
theorem b27_18 : bad1 27 18 = true := by kernel_rfl
theorem b27_19 : bad1 27 19 = true := by kernel_rfl
theorem b27_20 : bad1 27 20 = true := by kernel_rfl
theorem b27_21 : bad1 27 21 = true := by kernel_rfl
theorem b27_22 : bad1 27 22 = true := by kernel_rfl
theorem b27_23 : bad1 27 23 = true := by kernel_rfl
theorem b27_24 : bad1 27 24 = true := by kernel_rfl
theorem b27_25 : bad1 27 25 = true := by kernel_rfl
theorem b27_26 : bad1 27 26 = true := by kernel_rfl
theorem f28 : firstT 28 = true := by kernel_rfl
theorem g28 : runT 28 (goodT 28) = true := by kernel_rfl
theorem b28_0 : bad1 28 0 = true := by kernel_rfl
theorem b28_1 : bad1 28 1 = true := by kernel_rfl
theorem b28_2 : bad1 28 2 = true := by kernel_rfl
theorem b28_3 : bad1 28 3 = true := by kernel_rfl
theorem b28_4 : bad1 28 4 = true := by kernel_rfl
theorem b28_5 : bad1 28 5 = true := by kernel_rfl
theorem b28_6 : bad1 28 6 = true := by kernel_rfl
theorem b28_7 : bad1 28 7 = true := by kernel_rfl
theorem b28_8 : bad1 28 8 = true := by kernel_rfl
theorem b28_9 : bad1 28 9 = true := by kernel_rfl
theorem b28_10 : bad1 28 10 = true := by kernel_rfl
theorem b28_11 : bad1 28 11 = true := by kernel_rfl
theorem b28_12 : bad1 28 12 = true := by kernel_rfl
theorem b28_13 : bad1 28 13 = true := by kernel_rfl
theorem b28_14 : bad1 28 14 = true := by kernel_rfl
theorem b28_15 : bad1 28 15 = true := by kernel_rfl
theorem b28_16 : bad1 28 16 = true := by kernel_rfl
theorem b28_17 : bad1 28 17 = true := by kernel_rfl
theorem b28_18 : bad1 28 18 = true := by kernel_rfl
theorem b28_19 : bad1 28 19 = true := by kernel_rfl
theorem b28_20 : bad1 28 20 = true := by kernel_rfl
theorem b28_21 : bad1 28 21 = true := by kernel_rfl
theorem b28_22 : bad1 28 22 = true := by kernel_rfl
theorem b28_23 : bad1 28 23 = true := by kernel_rfl
theorem b28_24 : bad1 28 24 = true := by kernel_rfl
theorem b28_25 : bad1 28 25 = true := by kernel_rfl
theorem b28_26 : bad1 28 26 = true := by kernel_rfl
theorem b28_27 : bad1 28 27 = true := by kernel_rfl
end Go.Proofs.YtnedpimammoekaaDoor.codeRows
