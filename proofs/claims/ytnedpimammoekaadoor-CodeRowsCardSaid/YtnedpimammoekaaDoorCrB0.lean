/- codeRows: the runs, part 0. -/
import Derived.Test.YtnedpimammoekaaDoorCrT0
set_option linter.unusedVariables false
set_option maxRecDepth 10000000
namespace Go.Proofs.YtnedpimammoekaaDoor.codeRows
open Tk
open Go.RowKit
theorem f1 : firstT 1 = true := by kernel_rfl
theorem g1 : runT 1 (goodT 1) = true := by kernel_rfl
theorem b1_0 : bad1 1 0 = true := by kernel_rfl
theorem f2 : firstT 2 = true := by kernel_rfl
theorem g2 : runT 2 (goodT 2) = true := by kernel_rfl
theorem b2_0 : bad1 2 0 = true := by kernel_rfl
theorem b2_1 : bad1 2 1 = true := by kernel_rfl
theorem f3 : firstT 3 = true := by kernel_rfl
theorem g3 : runT 3 (goodT 3) = true := by kernel_rfl
theorem b3_0 : bad1 3 0 = true := by kernel_rfl
theorem b3_1 : bad1 3 1 = true := by kernel_rfl
theorem b3_2 : bad1 3 2 = true := by kernel_rfl
theorem f4 : firstT 4 = true := by kernel_rfl
theorem g4 : runT 4 (goodT 4) = true := by kernel_rfl
theorem b4_0 : bad1 4 0 = true := by kernel_rfl
theorem b4_1 : bad1 4 1 = true := by kernel_rfl
theorem b4_2 : bad1 4 2 = true := by kernel_rfl
theorem b4_3 : bad1 4 3 = true := by kernel_rfl
theorem f5 : firstT 5 = true := by kernel_rfl
theorem g5 : runT 5 (goodT 5) = true := by kernel_rfl
theorem b5_0 : bad1 5 0 = true := by kernel_rfl
theorem b5_1 : bad1 5 1 = true := by kernel_rfl
theorem b5_2 : bad1 5 2 = true := by kernel_rfl
theorem b5_3 : bad1 5 3 = true := by kernel_rfl
theorem b5_4 : bad1 5 4 = true := by kernel_rfl
theorem f6 : firstT 6 = true := by kernel_rfl
theorem g6 : runT 6 (goodT 6) = true := by kernel_rfl
theorem b6_0 : bad1 6 0 = true := by kernel_rfl
theorem b6_1 : bad1 6 1 = true := by kernel_rfl
theorem b6_2 : bad1 6 2 = true := by kernel_rfl
theorem b6_3 : bad1 6 3 = true := by kernel_rfl
theorem b6_4 : bad1 6 4 = true := by kernel_rfl
theorem b6_5 : bad1 6 5 = true := by kernel_rfl
theorem f7 : firstT 7 = true := by kernel_rfl
theorem g7 : runT 7 (goodT 7) = true := by kernel_rfl
theorem b7_0 : bad1 7 0 = true := by kernel_rfl
theorem b7_1 : bad1 7 1 = true := by kernel_rfl
theorem b7_2 : bad1 7 2 = true := by kernel_rfl
theorem b7_3 : bad1 7 3 = true := by kernel_rfl
theorem b7_4 : bad1 7 4 = true := by kernel_rfl
theorem b7_5 : bad1 7 5 = true := by kernel_rfl
theorem b7_6 : bad1 7 6 = true := by kernel_rfl
theorem f8 : firstT 8 = true := by kernel_rfl
theorem g8 : runT 8 (goodT 8) = true := by kernel_rfl
theorem b8_0 : bad1 8 0 = true := by kernel_rfl
theorem b8_1 : bad1 8 1 = true := by kernel_rfl
theorem b8_2 : bad1 8 2 = true := by kernel_rfl
theorem b8_3 : bad1 8 3 = true := by kernel_rfl
theorem b8_4 : bad1 8 4 = true := by kernel_rfl
theorem b8_5 : bad1 8 5 = true := by kernel_rfl
theorem b8_6 : bad1 8 6 = true := by kernel_rfl
theorem b8_7 : bad1 8 7 = true := by kernel_rfl
theorem f9 : firstT 9 = true := by kernel_rfl
theorem g9 : runT 9 (goodT 9) = true := by kernel_rfl
theorem b9_0 : bad1 9 0 = true := by kernel_rfl
theorem b9_1 : bad1 9 1 = true := by kernel_rfl
theorem b9_2 : bad1 9 2 = true := by kernel_rfl
theorem b9_3 : bad1 9 3 = true := by kernel_rfl
theorem b9_4 : bad1 9 4 = true := by kernel_rfl
theorem b9_5 : bad1 9 5 = true := by kernel_rfl
theorem b9_6 : bad1 9 6 = true := by kernel_rfl
theorem b9_7 : bad1 9 7 = true := by kernel_rfl
theorem b9_8 : bad1 9 8 = true := by kernel_rfl
theorem f10 : firstT 10 = true := by kernel_rfl
theorem g10 : runT 10 (goodT 10) = true := by kernel_rfl
theorem b10_0 : bad1 10 0 = true := by kernel_rfl
theorem b10_1 : bad1 10 1 = true := by kernel_rfl
theorem b10_2 : bad1 10 2 = true := by kernel_rfl
theorem b10_3 : bad1 10 3 = true := by kernel_rfl
theorem b10_4 : bad1 10 4 = true := by kernel_rfl
theorem b10_5 : bad1 10 5 = true := by kernel_rfl
theorem b10_6 : bad1 10 6 = true := by kernel_rfl
theorem b10_7 : bad1 10 7 = true := by kernel_rfl
theorem b10_8 : bad1 10 8 = true := by kernel_rfl
theorem b10_9 : bad1 10 9 = true := by kernel_rfl
theorem f11 : firstT 11 = true := by kernel_rfl
theorem g11 : runT 11 (goodT 11) = true := by kernel_rfl
theorem b11_0 : bad1 11 0 = true := by kernel_rfl
theorem b11_1 : bad1 11 1 = true := by kernel_rfl
theorem b11_2 : bad1 11 2 = true := by kernel_rfl
theorem b11_3 : bad1 11 3 = true := by kernel_rfl
theorem b11_4 : bad1 11 4 = true := by kernel_rfl
theorem b11_5 : bad1 11 5 = true := by kernel_rfl
theorem b11_6 : bad1 11 6 = true := by kernel_rfl
theorem b11_7 : bad1 11 7 = true := by kernel_rfl
theorem b11_8 : bad1 11 8 = true := by kernel_rfl
theorem b11_9 : bad1 11 9 = true := by kernel_rfl
theorem b11_10 : bad1 11 10 = true := by kernel_rfl
theorem f12 : firstT 12 = true := by kernel_rfl
theorem g12 : runT 12 (goodT 12) = true := by kernel_rfl
theorem b12_0 : bad1 12 0 = true := by kernel_rfl
theorem b12_1 : bad1 12 1 = true := by kernel_rfl
theorem b12_2 : bad1 12 2 = true := by kernel_rfl
theorem b12_3 : bad1 12 3 = true := by kernel_rfl
theorem b12_4 : bad1 12 4 = true := by kernel_rfl
theorem b12_5 : bad1 12 5 = true := by kernel_rfl
theorem b12_6 : bad1 12 6 = true := by kernel_rfl
theorem b12_7 : bad1 12 7 = true := by kernel_rfl
theorem b12_8 : bad1 12 8 = true := by kernel_rfl
theorem b12_9 : bad1 12 9 = true := by kernel_rfl
theorem b12_10 : bad1 12 10 = true := by kernel_rfl
theorem b12_11 : bad1 12 11 = true := by kernel_rfl
theorem f13 : firstT 13 = true := by kernel_rfl
theorem g13 : runT 13 (goodT 13) = true := by kernel_rfl
theorem b13_0 : bad1 13 0 = true := by kernel_rfl
theorem b13_1 : bad1 13 1 = true := by kernel_rfl
theorem b13_2 : bad1 13 2 = true := by kernel_rfl
theorem b13_3 : bad1 13 3 = true := by kernel_rfl
theorem b13_4 : bad1 13 4 = true := by kernel_rfl
theorem b13_5 : bad1 13 5 = true := by kernel_rfl
theorem b13_6 : bad1 13 6 = true := by kernel_rfl
theorem b13_7 : bad1 13 7 = true := by kernel_rfl
theorem b13_8 : bad1 13 8 = true := by kernel_rfl
theorem b13_9 : bad1 13 9 = true := by kernel_rfl
theorem b13_10 : bad1 13 10 = true := by kernel_rfl
theorem b13_11 : bad1 13 11 = true := by kernel_rfl
theorem b13_12 : bad1 13 12 = true := by kernel_rfl
theorem f14 : firstT 14 = true := by kernel_rfl
theorem g14 : runT 14 (goodT 14) = true := by kernel_rfl
theorem b14_0 : bad1 14 0 = true := by kernel_rfl
theorem b14_1 : bad1 14 1 = true := by kernel_rfl
theorem b14_2 : bad1 14 2 = true := by kernel_rfl
theorem b14_3 : bad1 14 3 = true := by kernel_rfl
theorem b14_4 : bad1 14 4 = true := by kernel_rfl
theorem b14_5 : bad1 14 5 = true := by kernel_rfl
theorem b14_6 : bad1 14 6 = true := by kernel_rfl
theorem b14_7 : bad1 14 7 = true := by kernel_rfl
theorem b14_8 : bad1 14 8 = true := by kernel_rfl
theorem b14_9 : bad1 14 9 = true := by kernel_rfl
theorem b14_10 : bad1 14 10 = true := by kernel_rfl
theorem b14_11 : bad1 14 11 = true := by kernel_rfl
theorem b14_12 : bad1 14 12 = true := by kernel_rfl
theorem b14_13 : bad1 14 13 = true := by kernel_rfl
theorem f15 : firstT 15 = true := by kernel_rfl
theorem g15 : runT 15 (goodT 15) = true := by kernel_rfl
theorem b15_0 : bad1 15 0 = true := by kernel_rfl
theorem b15_1 : bad1 15 1 = true := by kernel_rfl
theorem b15_2 : bad1 15 2 = true := by kernel_rfl
theorem b15_3 : bad1 15 3 = true := by kernel_rfl
theorem b15_4 : bad1 15 4 = true := by kernel_rfl
theorem b15_5 : bad1 15 5 = true := by kernel_rfl
theorem b15_6 : bad1 15 6 = true := by kernel_rfl
theorem b15_7 : bad1 15 7 = true := by kernel_rfl
theorem b15_8 : bad1 15 8 = true := by kernel_rfl
theorem b15_9 : bad1 15 9 = true := by kernel_rfl
theorem b15_10 : bad1 15 10 = true := by kernel_rfl
theorem b15_11 : bad1 15 11 = true := by kernel_rfl
theorem b15_12 : bad1 15 12 = true := by kernel_rfl
theorem b15_13 : bad1 15 13 = true := by kernel_rfl
theorem b15_14 : bad1 15 14 = true := by kernel_rfl
theorem f16 : firstT 16 = true := by kernel_rfl
theorem g16 : runT 16 (goodT 16) = true := by kernel_rfl
theorem b16_0 : bad1 16 0 = true := by kernel_rfl
theorem b16_1 : bad1 16 1 = true := by kernel_rfl
theorem b16_2 : bad1 16 2 = true := by kernel_rfl
theorem b16_3 : bad1 16 3 = true := by kernel_rfl
theorem b16_4 : bad1 16 4 = true := by kernel_rfl
theorem b16_5 : bad1 16 5 = true := by kernel_rfl
theorem b16_6 : bad1 16 6 = true := by kernel_rfl
theorem b16_7 : bad1 16 7 = true := by kernel_rfl
theorem b16_8 : bad1 16 8 = true := by kernel_rfl
theorem b16_9 : bad1 16 9 = true := by kernel_rfl
theorem b16_10 : bad1 16 10 = true := by kernel_rfl
theorem b16_11 : bad1 16 11 = true := by kernel_rfl
theorem b16_12 : bad1 16 12 = true := by kernel_rfl
theorem b16_13 : bad1 16 13 = true := by kernel_rfl
theorem b16_14 : bad1 16 14 = true := by kernel_rfl
theorem b16_15 : bad1 16 15 = true := by kernel_rfl
theorem f17 : firstT 17 = true := by kernel_rfl
theorem g17 : runT 17 (goodT 17) = true := by kernel_rfl
theorem b17_0 : bad1 17 0 = true := by kernel_rfl
theorem b17_1 : bad1 17 1 = true := by kernel_rfl
theorem b17_2 : bad1 17 2 = true := by kernel_rfl
theorem b17_3 : bad1 17 3 = true := by kernel_rfl
theorem b17_4 : bad1 17 4 = true := by kernel_rfl
theorem b17_5 : bad1 17 5 = true := by kernel_rfl
theorem b17_6 : bad1 17 6 = true := by kernel_rfl
theorem b17_7 : bad1 17 7 = true := by kernel_rfl
theorem b17_8 : bad1 17 8 = true := by kernel_rfl
theorem b17_9 : bad1 17 9 = true := by kernel_rfl
theorem b17_10 : bad1 17 10 = true := by kernel_rfl
theorem b17_11 : bad1 17 11 = true := by kernel_rfl
theorem b17_12 : bad1 17 12 = true := by kernel_rfl
theorem b17_13 : bad1 17 13 = true := by kernel_rfl
theorem b17_14 : bad1 17 14 = true := by kernel_rfl
theorem b17_15 : bad1 17 15 = true := by kernel_rfl
theorem b17_16 : bad1 17 16 = true := by kernel_rfl
theorem f18 : firstT 18 = true := by kernel_rfl
theorem g18 : runT 18 (goodT 18) = true := by kernel_rfl
theorem b18_0 : bad1 18 0 = true := by kernel_rfl
theorem b18_1 : bad1 18 1 = true := by kernel_rfl
theorem b18_2 : bad1 18 2 = true := by kernel_rfl
theorem b18_3 : bad1 18 3 = true := by kernel_rfl
theorem b18_4 : bad1 18 4 = true := by kernel_rfl
theorem b18_5 : bad1 18 5 = true := by kernel_rfl
theorem b18_6 : bad1 18 6 = true := by kernel_rfl
theorem b18_7 : bad1 18 7 = true := by kernel_rfl
theorem b18_8 : bad1 18 8 = true := by kernel_rfl
theorem b18_9 : bad1 18 9 = true := by kernel_rfl
theorem b18_10 : bad1 18 10 = true := by kernel_rfl
theorem b18_11 : bad1 18 11 = true := by kernel_rfl
theorem b18_12 : bad1 18 12 = true := by kernel_rfl
theorem b18_13 : bad1 18 13 = true := by kernel_rfl
theorem b18_14 : bad1 18 14 = true := by kernel_rfl
theorem b18_15 : bad1 18 15 = true := by kernel_rfl
theorem b18_16 : bad1 18 16 = true := by kernel_rfl
theorem b18_17 : bad1 18 17 = true := by kernel_rfl
end Go.Proofs.YtnedpimammoekaaDoor.codeRows
