/- codeRows: the runs, part 3. -/
import Derived.Test.YtnedpimammoekaaDoorCrT0
set_option linter.unusedVariables false
set_option maxRecDepth 10000000
namespace Go.Proofs.YtnedpimammoekaaDoor.codeRows
open Tk
open Go.RowKit
theorem f29 : firstT 29 = true := by kernel_rfl
theorem g29 : runT 29 (goodT 29) = true := by kernel_rfl
theorem b29_0 : bad1 29 0 = true := by kernel_rfl
theorem b29_1 : bad1 29 1 = true := by kernel_rfl
theorem b29_2 : bad1 29 2 = true := by kernel_rfl
theorem b29_3 : bad1 29 3 = true := by kernel_rfl
theorem b29_4 : bad1 29 4 = true := by kernel_rfl
theorem b29_5 : bad1 29 5 = true := by kernel_rfl
theorem b29_6 : bad1 29 6 = true := by kernel_rfl
theorem b29_7 : bad1 29 7 = true := by kernel_rfl
theorem b29_8 : bad1 29 8 = true := by kernel_rfl
theorem b29_9 : bad1 29 9 = true := by kernel_rfl
theorem b29_10 : bad1 29 10 = true := by kernel_rfl
theorem b29_11 : bad1 29 11 = true := by kernel_rfl
theorem b29_12 : bad1 29 12 = true := by kernel_rfl
theorem b29_13 : bad1 29 13 = true := by kernel_rfl
theorem b29_14 : bad1 29 14 = true := by kernel_rfl
theorem b29_15 : bad1 29 15 = true := by kernel_rfl
theorem b29_16 : bad1 29 16 = true := by kernel_rfl
theorem b29_17 : bad1 29 17 = true := by kernel_rfl
theorem b29_18 : bad1 29 18 = true := by kernel_rfl
theorem b29_19 : bad1 29 19 = true := by kernel_rfl
theorem b29_20 : bad1 29 20 = true := by kernel_rfl
theorem b29_21 : bad1 29 21 = true := by kernel_rfl
theorem b29_22 : bad1 29 22 = true := by kernel_rfl
theorem b29_23 : bad1 29 23 = true := by kernel_rfl
theorem b29_24 : bad1 29 24 = true := by kernel_rfl
theorem b29_25 : bad1 29 25 = true := by kernel_rfl
theorem b29_26 : bad1 29 26 = true := by kernel_rfl
theorem b29_27 : bad1 29 27 = true := by kernel_rfl
theorem b29_28 : bad1 29 28 = true := by kernel_rfl
theorem f30 : firstT 30 = true := by kernel_rfl
theorem g30 : runT 30 (goodT 30) = true := by kernel_rfl
theorem b30_0 : bad1 30 0 = true := by kernel_rfl
theorem b30_1 : bad1 30 1 = true := by kernel_rfl
theorem b30_2 : bad1 30 2 = true := by kernel_rfl
theorem b30_3 : bad1 30 3 = true := by kernel_rfl
theorem b30_4 : bad1 30 4 = true := by kernel_rfl
theorem b30_5 : bad1 30 5 = true := by kernel_rfl
theorem b30_6 : bad1 30 6 = true := by kernel_rfl
theorem b30_7 : bad1 30 7 = true := by kernel_rfl
theorem b30_8 : bad1 30 8 = true := by kernel_rfl
theorem b30_9 : bad1 30 9 = true := by kernel_rfl
theorem b30_10 : bad1 30 10 = true := by kernel_rfl
theorem b30_11 : bad1 30 11 = true := by kernel_rfl
theorem b30_12 : bad1 30 12 = true := by kernel_rfl
theorem b30_13 : bad1 30 13 = true := by kernel_rfl
theorem b30_14 : bad1 30 14 = true := by kernel_rfl
theorem b30_15 : bad1 30 15 = true := by kernel_rfl
theorem b30_16 : bad1 30 16 = true := by kernel_rfl
theorem b30_17 : bad1 30 17 = true := by kernel_rfl
theorem b30_18 : bad1 30 18 = true := by kernel_rfl
theorem b30_19 : bad1 30 19 = true := by kernel_rfl
theorem b30_20 : bad1 30 20 = true := by kernel_rfl
theorem b30_21 : bad1 30 21 = true := by kernel_rfl
theorem b30_22 : bad1 30 22 = true := by kernel_rfl
theorem b30_23 : bad1 30 23 = true := by kernel_rfl
theorem b30_24 : bad1 30 24 = true := by kernel_rfl
theorem b30_25 : bad1 30 25 = true := by kernel_rfl
theorem b30_26 : bad1 30 26 = true := by kernel_rfl
theorem b30_27 : bad1 30 27 = true := by kernel_rfl
theorem b30_28 : bad1 30 28 = true := by kernel_rfl
theorem b30_29 : bad1 30 29 = true := by kernel_rfl
end Go.Proofs.YtnedpimammoekaaDoor.codeRows
