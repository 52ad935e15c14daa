/- CodeRows returns true for every input, and the input reads as it did; the listed errors hold what the program text lays. -/
import Derived.Test.YtnedpimammoekaaDoorCrB0
import Derived.Test.YtnedpimammoekaaDoorCrB1
import Derived.Test.YtnedpimammoekaaDoorCrB2
import Derived.Test.YtnedpimammoekaaDoorCrB3
import Derived.Deep.DeepWitnessRowRef
import Derived.Lay
set_option linter.unusedVariables false
set_option linter.unusedSimpArgs false
set_option maxRecDepth 10000000
namespace Go.Proofs.YtnedpimammoekaaDoor.codeRows
open Tk
open Go.ChangeShapes Go.WideShapes Go.ChangeAt Go.RowKit

theorem lay_out : laidOutB Tryd.prog = true := by kernel_rfl
theorem own : ownKnob Tryd.prog.godebug = none := by kernel_rfl
def sg  (zs : List Int) : Nat → Int := fun i => zs.getD (i - 0) 0
theorem upTo {P : Nat → Prop} {n : Nat} (h0 : ∀ i, i < n → P i) (h1 : P n) : ∀ i, i < n + 1 → P i := fun i hi => (Nat.lt_or_eq_of_le (Nat.le_of_lt_succ hi)).elim (h0 i) (fun e => e ▸ h1)
theorem upTo0 {P : Nat → Prop} : ∀ i, i < 0 → P i := fun i h => absurd h (Nat.not_lt_zero i)
theorem badL1 : ∀ i, i < 1 → BadC 1 i := upTo (upTo0) (bad_of f1 b1_0)
theorem badL2 : ∀ i, i < 2 → BadC 2 i := upTo (upTo (upTo0) (bad_of f2 b2_0)) (bad_of f2 b2_1)
theorem badL3 : ∀ i, i < 3 → BadC 3 i := upTo (upTo (upTo (upTo0) (bad_of f3 b3_0)) (bad_of f3 b3_1)) (bad_of f3 b3_2)
theorem badL4 : ∀ i, i < 4 → BadC 4 i := upTo (upTo (upTo (upTo (upTo0) (bad_of f4 b4_0)) (bad_of f4 b4_1)) (bad_of f4 b4_2)) (bad_of f4 b4_3)
theorem badL5 : ∀ i, i < 5 → BadC 5 i := upTo (upTo (upTo (upTo (upTo (upTo0) (bad_of f5 b5_0)) (bad_of f5 b5_1)) (bad_of f5 b5_2)) (bad_of f5 b5_3)) (bad_of f5 b5_4)
theorem badL6 : ∀ i, i < 6 → BadC 6 i := upTo (upTo (upTo (upTo (upTo (upTo (upTo0) (bad_of f6 b6_0)) (bad_of f6 b6_1)) (bad_of f6 b6_2)) (bad_of f6 b6_3)) (bad_of f6 b6_4)) (bad_of f6 b6_5)
theorem badL7 : ∀ i, i < 7 → BadC 7 i := upTo (upTo (upTo (upTo (upTo (upTo (upTo (upTo0) (bad_of f7 b7_0)) (bad_of f7 b7_1)) (bad_of f7 b7_2)) (bad_of f7 b7_3)) (bad_of f7 b7_4)) (bad_of f7 b7_5)) (bad_of f7 b7_6)
theorem badL8 : ∀ i, i < 8 → BadC 8 i := upTo (upTo (upTo (upTo (upTo (upTo (upTo (upTo (upTo0) (bad_of f8 b8_0)) (bad_of f8 b8_1)) (bad_of f8 b8_2)) (bad_of f8 b8_3)) (bad_of f8 b8_4)) (bad_of f8 b8_5)) (bad_of f8 b8_6)) (bad_of f8 b8_7)
theorem badL9 : ∀ i, i < 9 → BadC 9 i := upTo (upTo (upTo (upTo (upTo (upTo (upTo (upTo (upTo (upTo0) (bad_of f9 b9_0)) (bad_of f9 b9_1)) (bad_of f9 b9_2)) (bad_of f9 b9_3)) (bad_of f9 b9_4)) (bad_of f9 b9_5)) (bad_of f9 b9_6)) (bad_of f9 b9_7)) (bad_of f9 b9_8)
theorem badL10 : ∀ i, i < 10 → BadC 10 i := upTo (upTo (upTo (upTo (upTo (upTo (upTo (upTo (upTo (upTo (upTo0) (bad_of f10 b10_0)) (bad_of f10 b10_1)) (bad_of f10 b10_2)) (bad_of f10 b10_3)) (bad_of f10 b10_4)) (bad_of f10 b10_5)) (bad_of f10 b10_6)) (bad_of f10 b10_7)) (bad_of f10 b10_8)) (bad_of f10 b10_9)
theorem badL11 : ∀ i, i < 11 → BadC 11 i := upTo (upTo (upTo (upTo (upTo (upTo (upTo (upTo (upTo (upTo (upTo (upTo0) (bad_of f11 b11_0)) (bad_of f11 b11_1)) (bad_of f11 b11_2)) (bad_of f11 b11_3)) (bad_of f11 b11_4)) (bad_of f11 b11_5)) (bad_of f11 b11_6)) (bad_of f11 b11_7)) (bad_of f11 b11_8)) (bad_of f11 b11_9)) (bad_of f11 b11_10)
theorem badL12 : ∀ i, i < 12 → BadC 12 i := upTo (upTo (upTo (upTo (upTo (upTo (upTo (upTo (upTo (upTo (upTo (upTo (upTo0) (bad_of f12 b12_0)) (bad_of f12 b12_1)) (bad_of f12 b12_2)) (bad_of f12 b12_3)) (bad_of f12 b12_4)) (bad_of f12 b12_5)) (bad_of f12 b12_6)) (bad_of f12 b12_7)) (bad_of f12 b12_8)) (bad_of f12 b12_9)) (bad_of f12 b12_10)) (bad_of f12 b12_11)
theorem badL13 : ∀ i, i < 13 → BadC 13 i := upTo (upTo (upTo (upTo (upTo (upTo (upTo (upTo (upTo (upTo (upTo (upTo (upTo (upTo0) (bad_of f13 b13_0)) (bad_of f13 b13_1)) (bad_of f13 b13_2)) (bad_of f13 b13_3)) (bad_of f13 b13_4)) (bad_of f13 b13_5)) (bad_of f13 b13_6)) (bad_of f13 b13_7)) (bad_of f13 b13_8)) (bad_of f13 b13_9)) (bad_of f13 b13_10)) (bad_of f13 b13_11)) (bad_of f13 b13_12)
theorem badL14 : ∀ i, i < 14 → BadC 14 i := upTo (upTo (upTo (upTo (upTo (upTo (upTo (upTo (upTo (upTo (upTo (upTo (upTo (upTo (upTo0) (bad_of f14 b14_0)) (bad_of f14 b14_1)) (bad_of f14 b14_2)) (bad_of f14 b14_3)) (bad_of f14 b14_4)) (bad_of f14 b14_5)) (bad_of f14 b14_6)) (bad_of f14 b14_7)) (bad_of f14 b14_8)) (bad_of f14 b14_9)) (bad_of f14 b14_10)) (bad_of f14 b14_11)) (bad_of f14 b14_12)) (bad_of f14 b14_13)
theorem badL15 : ∀ i, i < 15 → BadC 15 i := upTo (upTo (upTo (upTo (upTo (upTo (upTo (upTo (upTo (upTo (upTo (upTo (upTo (upTo (upTo (upTo0) (bad_of f15 b15_0)) (bad_of f15 b15_1)) (bad_of f15 b15_2)) (bad_of f15 b15_3)) (bad_of f15 b15_4)) (bad_of f15 b15_5)) (bad_of f15 b15_6)) (bad_of f15 b15_7)) (bad_of f15 b15_8)) (bad_of f15 b15_9)) (bad_of f15 b15_10)) (bad_of f15 b15_11)) (bad_of f15 b15_12)) (bad_of f15 b15_13)) (bad_of f15 b15_14)
theorem badL16 : ∀ i, i < 16 → BadC 16 i := upTo (upTo (upTo (upTo (upTo (upTo (upTo (upTo (upTo (upTo (upTo (upTo (upTo (upTo (upTo (upTo (upTo0) (bad_of f16 b16_0)) (bad_of f16 b16_1)) (bad_of f16 b16_2)) (bad_of f16 b16_3)) (bad_of f16 b16_4)) (bad_of f16 b16_5)) (bad_of f16 b16_6)) (bad_of f16 b16_7)) (bad_of f16 b16_8)) (bad_of f16 b16_9)) (bad_of f16 b16_10)) (bad_of f16 b16_11)) (bad_of f16 b16_12)) (bad_of f16 b16_13)) (bad_of f16 b16_14)) (bad_of f16 b16_15)
theorem badL17 : ∀ i, i < 17 → BadC 17 i := upTo (upTo (upTo (upTo (upTo (upTo (upTo (upTo (upTo (upTo (upTo (upTo (upTo (upTo (upTo (upTo (upTo (upTo0) (bad_of f17 b17_0)) (bad_of f17 b17_1)) (bad_of f17 b17_2)) (bad_of f17 b17_3)) (bad_of f17 b17_4)) (bad_of f17 b17_5)) (bad_of f17 b17_6)) (bad_of f17 b17_7)) (bad_of f17 b17_8)) (bad_of f17 b17_9)) (bad_of f17 b17_10)) (bad_of f17 b17_11)) (bad_of f17 b17_12)) (bad_of f17 b17_13)) (bad_of f17 b17_14)) (bad_of f17 b17_15)) (bad_of f17 b17_16)
theorem badL18 : ∀ i, i < 18 → BadC 18 i := upTo (upTo (upTo (upTo (upTo (upTo (upTo (upTo (upTo (upTo (upTo (upTo (upTo (upTo (upTo (upTo (upTo (upTo (upTo0) (bad_of f18 b18_0)) (bad_of f18 b18_1)) (bad_of f18 b18_2)) (bad_of f18 b18_3)) (bad_of f18 b18_4)) (bad_of f18 b18_5)) (bad_of f18 b18_6)) (bad_of f18 b18_7)) (bad_of f18 b18_8)) (bad_of f18 b18_9)) (bad_of f18 b18_10)) (bad_of f18 b18_11)) (bad_of f18 b18_12)) (bad_of f18 b18_13)) (bad_of f18 b18_14)) (bad_of f18 b18_15)) (bad_of f18 b18_16)) (bad_of f18 b18_17)
theorem badL19 : ∀ i, i < 19 → BadC 19 i := upTo (upTo (upTo (upTo (upTo (upTo (upTo (upTo (upTo (upTo (upTo (upTo (upTo (upTo (upTo (upTo (upTo (upTo (upTo (upTo0) (bad_of f19 b19_0)) (bad_of f19 b19_1)) (bad_of f19 b19_2)) (bad_of f19 b19_3)) (bad_of f19 b19_4)) (bad_of f19 b19_5)) (bad_of f19 b19_6)) (bad_of f19 b19_7)) (bad_of f19 b19_8)) (bad_of f19 b19_9)) (bad_of f19 b19_10)) (bad_of f19 b19_11)) (bad_of f19 b19_12)) (bad_of f19 b19_13)) (bad_of f19 b19_14)) (bad_of f19 b19_15)) (bad_of f19 b19_16)) (bad_of f19 b19_17)) (bad_of f19 b19_18)
theorem badL20 : ∀ i, i < 20 → BadC 20 i := upTo (upTo (upTo (upTo (upTo (upTo (upTo (upTo (upTo (upTo (upTo (upTo (upTo (upTo (upTo (upTo (upTo (upTo (upTo (upTo (upTo0) (bad_of f20 b20_0)) (bad_of f20 b20_1)) (bad_of f20 b20_2)) (bad_of f20 b20_3)) (bad_of f20 b20_4)) (bad_of f20 b20_5)) (bad_of f20 b20_6)) (bad_of f20 b20_7)) (bad_of f20 b20_8)) (bad_of f20 b20_9)) (bad_of f20 b20_10)) (bad_of f20 b20_11)) (bad_of f20 b20_12)) (bad_of f20 b20_13)) (bad_of f20 b20_14)) (bad_of f20 b20_15)) (bad_of f20 b20_16)) (bad_of f20 b20_17)) (bad_of f20 b20_18)) (bad_of f20 b20_19)
theorem badL21 : ∀ i, i < 21 → BadC 21 i := upTo (upTo (upTo (upTo (upTo (upTo (upTo (upTo (upTo (upTo (upTo (upTo (upTo (upTo (upTo (upTo (upTo (upTo (upTo (upTo (upTo (upTo0) (bad_of f21 b21_0)) (bad_of f21 b21_1)) (bad_of f21 b21_2)) (bad_of f21 b21_3)) (bad_of f21 b21_4)) (bad_of f21 b21_5)) (bad_of f21 b21_6)) (bad_of f21 b21_7)) (bad_of f21 b21_8)) (bad_of f21 b21_9)) (bad_of f21 b21_10)) (bad_of f21 b21_11)) (bad_of f21 b21_12)) (bad_of f21 b21_13)) (bad_of f21 b21_14)) (bad_of f21 b21_15)) (bad_of f21 b21_16)) (bad_of f21 b21_17)) (bad_of f21 b21_18)) (bad_of f21 b21_19)) (bad_of f21 b21_20)
theorem badL22 : ∀ i, i < 22 → BadC 22 i := upTo (upTo (upTo (upTo (upTo (upTo (upTo (upTo (upTo (upTo (upTo (upTo (upTo (upTo (upTo (upTo (upTo (upTo (upTo (upTo (upTo (upTo (upTo0) (bad_of f22 b22_0)) (bad_of f22 b22_1)) (bad_of f22 b22_2)) (bad_of f22 b22_3)) (bad_of f22 b22_4)) (bad_of f22 b22_5)) (bad_of f22 b22_6)) (bad_of f22 b22_7)) (bad_of f22 b22_8)) (bad_of f22 b22_9)) (bad_of f22 b22_10)) (bad_of f22 b22_11)) (bad_of f22 b22_12)) (bad_of f22 b22_13)) (bad_of f22 b22_14)) (bad_of f22 b22_15)) (bad_of f22 b22_16)) (bad_of f22 b22_17)) (bad_of f22 b22_18)) (bad_of f22 b22_19)) (bad_of f22 b22_20)) (bad_of f22 b22_21)
theorem badL23 : ∀ i, i < 23 → BadC 23 i := upTo (upTo (upTo (upTo (upTo (upTo (upTo (upTo (upTo (upTo (upTo (upTo (upTo (upTo (upTo (upTo (upTo (upTo (upTo (upTo (upTo (upTo (upTo (upTo0) (bad_of f23 b23_0)) (bad_of f23 b23_1)) (bad_of f23 b23_2)) (bad_of f23 b23_3)) (bad_of f23 b23_4)) (bad_of f23 b23_5)) (bad_of f23 b23_6)) (bad_of f23 b23_7)) (bad_of f23 b23_8)) (bad_of f23 b23_9)) (bad_of f23 b23_10)) (bad_of f23 b23_11)) (bad_of f23 b23_12)) (bad_of f23 b23_13)) (bad_of f23 b23_14)) (bad_of f23 b23_15)) (bad_of f23 b23_16)) (bad_of f23 b23_17)) (bad_of f23 b23_18)) (bad_of f23 b23_19)) (bad_of f23 b23_20)) (bad_of f23 b23_21)) (bad_of f23 b23_22)
theorem badL24 : ∀ i, i < 24 → BadC 24 i := upTo (upTo (upTo (upTo (upTo (upTo (upTo (upTo (upTo (upTo (upTo (upTo (upTo (upTo (upTo (upTo (upTo (upTo (upTo (upTo (upTo (upTo (upTo (upTo (upTo0) (bad_of f24 b24_0)) (bad_of f24 b24_1)) (bad_of f24 b24_2)) (bad_of f24 b24_3)) (bad_of f24 b24_4)) (bad_of f24 b24_5)) (bad_of f24 b24_6)) (bad_of f24 b24_7)) (bad_of f24 b24_8)) (bad_of f24 b24_9)) (bad_of f24 b24_10)) (bad_of f24 b24_11)) (bad_of f24 b24_12)) (bad_of f24 b24_13)) (bad_of f24 b24_14)) (bad_of f24 b24_15)) (bad_of f24 b24_16)) (bad_of f24 b24_17)) (bad_of f24 b24_18)) (bad_of f24 b24_19)) (bad_of f24 b24_20)) (bad_of f24 b24_21)) (bad_of f24 b24_22)) (bad_of f24 b24_23)
theorem badL25 : ∀ i, i < 25 → BadC 25 i := upTo (upTo (upTo (upTo (upTo (upTo (upTo (upTo (upTo (upTo (upTo (upTo (upTo (upTo (upTo (upTo (upTo (upTo (upTo (upTo (upTo (upTo (upTo (upTo (upTo (upTo0) (bad_of f25 b25_0)) (bad_of f25 b25_1)) (bad_of f25 b25_2)) (bad_of f25 b25_3)) (bad_of f25 b25_4)) (bad_of f25 b25_5)) (bad_of f25 b25_6)) (bad_of f25 b25_7)) (bad_of f25 b25_8)) (bad_of f25 b25_9)) (bad_of f25 b25_10)) (bad_of f25 b25_11)) (bad_of f25 b25_12)) (bad_of f25 b25_13)) (bad_of f25 b25_14)) (bad_of f25 b25_15)) (bad_of f25 b25_16)) (bad_of f25 b25_17)) (bad_of f25 b25_18)) (bad_of f25 b25_19)) (bad_of f25 b25_20)) (bad_of f25 b25_21)) (bad_of f25 b25_22)) (bad_of f25 b25_23)) (bad_of f25 b25_24)
theorem badL26 : ∀ i, i < 26 → BadC 26 i := upTo (upTo (upTo (upTo (upTo (upTo (upTo (upTo (upTo (upTo (upTo (upTo (upTo (upTo (upTo (upTo (upTo (upTo (upTo (upTo (upTo (upTo (upTo (upTo (upTo (upTo (upTo0) (bad_of f26 b26_0)) (bad_of f26 b26_1)) (bad_of f26 b26_2)) (bad_of f26 b26_3)) (bad_of f26 b26_4)) (bad_of f26 b26_5)) (bad_of f26 b26_6)) (bad_of f26 b26_7)) (bad_of f26 b26_8)) (bad_of f26 b26_9)) (bad_of f26 b26_10)) (bad_of f26 b26_11)) (bad_of f26 b26_12)) (bad_of f26 b26_13)) (bad_of f26 b26_14)) (bad_of f26 b26_15)) (bad_of f26 b26_16)) (bad_of f26 b26_17)) (bad_of f26 b26_18)) (bad_of f26 b26_19)) (bad_of f26 b26_20)) (bad_of f26 b26_21)) (bad_of f26 b26_22)) (bad_of f26 b26_23)) (bad_of f26 b26_24)) (bad_of f26 b26_25)
theorem badL27 : ∀ i, i < 27 → BadC 27 i := upTo (upTo (upTo (upTo (upTo (upTo (upTo (upTo (upTo (upTo (upTo (upTo (upTo (upTo (upTo (upTo (upTo (upTo (upTo (upTo (upTo (upTo (upTo (upTo (upTo (upTo (upTo (upTo0) (bad_of f27 b27_0)) (bad_of f27 b27_1)) (bad_of f27 b27_2)) (bad_of f27 b27_3)) (bad_of f27 b27_4)) (bad_of f27 b27_5)) (bad_of f27 b27_6)) (bad_of f27 b27_7)) (bad_of f27 b27_8)) (bad_of f27 b27_9)) (bad_of f27 b27_10)) (bad_of f27 b27_11)) (bad_of f27 b27_12)) (bad_of f27 b27_13)) (bad_of f27 b27_14)) (bad_of f27 b27_15)) (bad_of f27 b27_16)) (bad_of f27 b27_17)) (bad_of f27 b27_18)) (bad_of f27 b27_19)) (bad_of f27 b27_20)) (bad_of f27 b27_21)) (bad_of f27 b27_22)) (bad_of f27 b27_23)) (bad_of f27 b27_24)) (bad_of f27 b27_25)) (bad_of f27 b27_26)
theorem badL28 : ∀ i, i < 28 → BadC 28 i := upTo (upTo (upTo (upTo (upTo (upTo (upTo (upTo (upTo (upTo (upTo (upTo (upTo (upTo (upTo (upTo (upTo (upTo (upTo (upTo (upTo (upTo (upTo (upTo (upTo (upTo (upTo (upTo (upTo0) (bad_of f28 b28_0)) (bad_of f28 b28_1)) (bad_of f28 b28_2)) (bad_of f28 b28_3)) (bad_of f28 b28_4)) (bad_of f28 b28_5)) (bad_of f28 b28_6)) (bad_of f28 b28_7)) (bad_of f28 b28_8)) (bad_of f28 b28_9)) (bad_of f28 b28_10)) (bad_of f28 b28_11)) (bad_of f28 b28_12)) (bad_of f28 b28_13)) (bad_of f28 b28_14)) (bad_of f28 b28_15)) (bad_of f28 b28_16)) (bad_of f28 b28_17)) (bad_of f28 b28_18)) (bad_of f28 b28_19)) (bad_of f28 b28_20)) (bad_of f28 b28_21)) (bad_of f28 b28_22)) (bad_of f28 b28_23)) (bad_of f28 b28_24)) (bad_of f28 b28_25)) (bad_of f28 b28_26)) (bad_of f28 b28_27)
theorem badL29 : ∀ i, i < 29 → BadC 29 i := upTo (upTo (upTo (upTo (upTo (upTo (upTo (upTo (upTo (upTo (upTo (upTo (upTo (upTo (upTo (upTo (upTo (upTo (upTo (upTo (upTo (upTo (upTo (upTo (upTo (upTo (upTo (upTo (upTo (upTo0) (bad_of f29 b29_0)) (bad_of f29 b29_1)) (bad_of f29 b29_2)) (bad_of f29 b29_3)) (bad_of f29 b29_4)) (bad_of f29 b29_5)) (bad_of f29 b29_6)) (bad_of f29 b29_7)) (bad_of f29 b29_8)) (bad_of f29 b29_9)) (bad_of f29 b29_10)) (bad_of f29 b29_11)) (bad_of f29 b29_12)) (bad_of f29 b29_13)) (bad_of f29 b29_14)) (bad_of f29 b29_15)) (bad_of f29 b29_16)) (bad_of f29 b29_17)) (bad_of f29 b29_18)) (bad_of f29 b29_19)) (bad_of f29 b29_20)) (bad_of f29 b29_21)) (bad_of f29 b29_22)) (bad_of f29 b29_23)) (bad_of f29 b29_24)) (bad_of f29 b29_25)) (bad_of f29 b29_26)) (bad_of f29 b29_27)) (bad_of f29 b29_28)
theorem badL30 : ∀ i, i < 30 → BadC 30 i := upTo (upTo (upTo (upTo (upTo (upTo (upTo (upTo (upTo (upTo (upTo (upTo (upTo (upTo (upTo (upTo (upTo (upTo (upTo (upTo (upTo (upTo (upTo (upTo (upTo (upTo (upTo (upTo (upTo (upTo (upTo0) (bad_of f30 b30_0)) (bad_of f30 b30_1)) (bad_of f30 b30_2)) (bad_of f30 b30_3)) (bad_of f30 b30_4)) (bad_of f30 b30_5)) (bad_of f30 b30_6)) (bad_of f30 b30_7)) (bad_of f30 b30_8)) (bad_of f30 b30_9)) (bad_of f30 b30_10)) (bad_of f30 b30_11)) (bad_of f30 b30_12)) (bad_of f30 b30_13)) (bad_of f30 b30_14)) (bad_of f30 b30_15)) (bad_of f30 b30_16)) (bad_of f30 b30_17)) (bad_of f30 b30_18)) (bad_of f30 b30_19)) (bad_of f30 b30_20)) (bad_of f30 b30_21)) (bad_of f30 b30_22)) (bad_of f30 b30_23)) (bad_of f30 b30_24)) (bad_of f30 b30_25)) (bad_of f30 b30_26)) (bad_of f30 b30_27)) (bad_of f30 b30_28)) (bad_of f30 b30_29)
set_option maxHeartbeats 10000000 in
theorem walk (W : World) (v0 : Value) (hn0 : IsInstrs W  v0) (hL : laidMetH Tryd.prog Rows.codeRowsRow.laid W) : Calls Tryd.prog 4 #[v0] W fun e w' => e = .returned (.bool true) ∧ Below W.heap.size W w' := by
  obtain ⟨ads, s1, s2, s3⟩ := errs_sents hL
  rcases hn0 with rfl | ⟨a, len, cap, zs, rfl, hle, hz, hcell, hw⟩
  · have zs : List Int := []
    obtain ⟨ρ, R, g⟩ := start_skip (σ := (sg  zs)) s1 s2 s3 errs_all errs_lt
    exact case0 hL (Known2.nil _) TabOk.nil R g (VRs.cons (vr_nil) (VRs.nil))
  · rcases Nat.lt_or_ge 30 len with hb | hb
    · obtain ⟨m, rfl⟩ : ∃ m, len = m + 31 := ⟨len - 31, by omega⟩
      have hr := rowK (k := ki) (n := (m + 31) * 5) (m := cap * 5) (by omega) (by omega) hcell
      have hsp : a.spot = none := by rw [hr.spot]
      obtain ⟨ρ, R, g, hρ⟩ := start_name (σ := (sg  zs)) s1 s2 s3 errs_all errs_lt ⟨a.block, a.off, cap * 5⟩ hr.lt
      exact (case3 m) hL (Known2.nil _) TabOk.nil R g (VRs.cons (vr_list (sz := 5) hρ hsp hle) (VRs.nil))
    · have key : ∀ n : Nat, 0 < n → n ≤ cap → len = n → firstT n = true → runT n (goodT n) = true → (∀ i, i < n → BadC n i) → Nat.ble (kRow ki 0 (5 * n) 0).length argSz = true → Calls Tryd.prog 4 #[.slice (some a) len cap] W fun e w' => e = .returned (.bool true) ∧ Below W.heap.size W w' := by
        intro n hn hnc e hf hg hB hs
        subst e
        have hr := rowK (W := W) (a := a) (zs := zs) (k := ki) (n := 5 * len) (m := cap * 5) (by omega) (by omega) hcell
        have hsp : a.spot = none := by rw [hr.spot]
        obtain ⟨ρ, R, g, hρ⟩ := start_row (σ := (sg zs)) s1 s2 s3 errs_all errs_lt hr (row := kRow ki 0 (5 * len) 0) (fun ρ => by rw [List.range_eq_range']; exact vrs_k (b := 0) (fun i => by simp [sg]) (5 * len) 0) hs
        exact len_case hf hg hB hL (known_rows hw (5 * len)) R g (VRs.cons (vr_list (sz := 5) hρ hsp hle) (VRs.nil))
      have q0 : len = 0 → Calls Tryd.prog 4 #[.slice (some a) len cap] W fun e w' => e = .returned (.bool true) ∧ Below W.heap.size W w' := by
        intro e
        subst e
        obtain ⟨ρ, R, g⟩ := start_skip (σ := (sg  zs)) s1 s2 s3 errs_all errs_lt
        exact case1 hL (Known2.nil _) TabOk.nil R g (VRs.cons (vr_empty) (VRs.nil))
      have q1 := fun e => key 1 (by decide) (by rw [← show len = 1 from e]; exact hle) e f1 g1 badL1 (by kernel_rfl)
      have q2 := fun e => key 2 (by decide) (by rw [← show len = 2 from e]; exact hle) e f2 g2 badL2 (by kernel_rfl)
      have q3 := fun e => key 3 (by decide) (by rw [← show len = 3 from e]; exact hle) e f3 g3 badL3 (by kernel_rfl)
      have q4 := fun e => key 4 (by decide) (by rw [← show len = 4 from e]; exact hle) e f4 g4 badL4 (by kernel_rfl)
      have q5 := fun e => key 5 (by decide) (by rw [← show len = 5 from e]; exact hle) e f5 g5 badL5 (by kernel_rfl)
      have q6 := fun e => key 6 (by decide) (by rw [← show len = 6 from e]; exact hle) e f6 g6 badL6 (by kernel_rfl)
      have q7 := fun e => key 7 (by decide) (by rw [← show len = 7 from e]; exact hle) e f7 g7 badL7 (by kernel_rfl)
      have q8 := fun e => key 8 (by decide) (by rw [← show len = 8 from e]; exact hle) e f8 g8 badL8 (by kernel_rfl)
      have q9 := fun e => key 9 (by decide) (by rw [← show len = 9 from e]; exact hle) e f9 g9 badL9 (by kernel_rfl)
      have q10 := fun e => key 10 (by decide) (by rw [← show len = 10 from e]; exact hle) e f10 g10 badL10 (by kernel_rfl)
      have q11 := fun e => key 11 (by decide) (by rw [← show len = 11 from e]; exact hle) e f11 g11 badL11 (by kernel_rfl)
      have q12 := fun e => key 12 (by decide) (by rw [← show len = 12 from e]; exact hle) e f12 g12 badL12 (by kernel_rfl)
      have q13 := fun e => key 13 (by decide) (by rw [← show len = 13 from e]; exact hle) e f13 g13 badL13 (by kernel_rfl)
      have q14 := fun e => key 14 (by decide) (by rw [← show len = 14 from e]; exact hle) e f14 g14 badL14 (by kernel_rfl)
      have q15 := fun e => key 15 (by decide) (by rw [← show len = 15 from e]; exact hle) e f15 g15 badL15 (by kernel_rfl)
      have q16 := fun e => key 16 (by decide) (by rw [← show len = 16 from e]; exact hle) e f16 g16 badL16 (by kernel_rfl)
      have q17 := fun e => key 17 (by decide) (by rw [← show len = 17 from e]; exact hle) e f17 g17 badL17 (by kernel_rfl)
      have q18 := fun e => key 18 (by decide) (by rw [← show len = 18 from e]; exact hle) e f18 g18 badL18 (by kernel_rfl)
      have q19 := fun e => key 19 (by decide) (by rw [← show len = 19 from e]; exact hle) e f19 g19 badL19 (by kernel_rfl)
      have q20 := fun e => key 20 (by decide) (by rw [← show len = 20 from e]; exact hle) e f20 g20 badL20 (by kernel_rfl)
      have q21 := fun e => key 21 (by decide) (by rw [← show len = 21 from e]; exact hle) e f21 g21 badL21 (by kernel_rfl)
      have q22 := fun e => key 22 (by decide) (by rw [← show len = 22 from e]; exact hle) e f22 g22 badL22 (by kernel_rfl)
      have q23 := fun e => key 23 (by decide) (by rw [← show len = 23 from e]; exact hle) e f23 g23 badL23 (by kernel_rfl)
      have q24 := fun e => key 24 (by decide) (by rw [← show len = 24 from e]; exact hle) e f24 g24 badL24 (by kernel_rfl)
      have q25 := fun e => key 25 (by decide) (by rw [← show len = 25 from e]; exact hle) e f25 g25 badL25 (by kernel_rfl)
      have q26 := fun e => key 26 (by decide) (by rw [← show len = 26 from e]; exact hle) e f26 g26 badL26 (by kernel_rfl)
      have q27 := fun e => key 27 (by decide) (by rw [← show len = 27 from e]; exact hle) e f27 g27 badL27 (by kernel_rfl)
      have q28 := fun e => key 28 (by decide) (by rw [← show len = 28 from e]; exact hle) e f28 g28 badL28 (by kernel_rfl)
      have q29 := fun e => key 29 (by decide) (by rw [← show len = 29 from e]; exact hle) e f29 g29 badL29 (by kernel_rfl)
      have q30 := fun e => key 30 (by decide) (by rw [← show len = 30 from e]; exact hle) e f30 g30 badL30 (by kernel_rfl)
      exact (upTo (upTo (upTo (upTo (upTo (upTo (upTo (upTo (upTo (upTo (upTo (upTo (upTo (upTo (upTo (upTo (upTo (upTo (upTo (upTo (upTo (upTo (upTo (upTo (upTo (upTo (upTo (upTo (upTo (upTo (upTo (upTo0) q0) q1) q2) q3) q4) q5) q6) q7) q8) q9) q10) q11) q12) q13) q14) q15) q16) q17) q18) q19) q20) q21) q22) q23) q24) q25) q26) q27) q28) q29) q30 : ∀ i, i < 31 → (fun n => len = n → Calls Tryd.prog 4 #[.slice (some a) len cap] W fun e w' => e = .returned (.bool true) ∧ Below W.heap.size W w') i) len (Nat.lt_succ_of_le hb) rfl
set_option maxHeartbeats 4000000 in
theorem contract (H : Type) (enc : TypeId × Value → H) (W : World) (base : Nat) (args : Array Value) (ds gs : List (DataW H)) (before : List MemPlace)
    (hval : ∀ (j : Nat) t v, Tryd.f4.params[j]? = some t → args[j]? = some v → Value.okWide Tryd.prog W .any base t v)
    (hW : DataW.Whole enc Tryd.prog Tryd.f4.params.toList Rows.codeRowsSpec.vars false W args.toList ds gs before) (hL : laidMetH Tryd.prog Rows.codeRowsRow.laid W) :
    Calls Tryd.prog 4 args W fun e W' => ∃ v, e = .returned v ∧ Rows.codeRowsSpec.post enc Tryd.prog Tryd.f4 false true false false W args v W' := by
  have hW' := hW
  obtain ⟨p, q, hA0, hV, rfl, hfz, hnd⟩ := hW
  have hA : DataW.TrodAll enc Tryd.prog W 0 (fun _ => true) true Tryd.f4.params.toList args.toList ds p := hA0
  rw [Tryd.params4] at hA hval
  obtain ⟨v0, vs0, d0, ds0, p0, q0, hargs, rfl, rfl, h0, r0⟩ := trodAll_cons hA
  obtain ⟨rfl, rfl, rfl⟩ := trodAll_nil r0
  obtain rfl : args = #[v0] := by cases args; simp_all
  obtain ⟨rfl, rfl⟩ := trodVars_none hV
  have k0 := h0
  have hl0 : IsInstrs W v0 := isInstrs Tryd.underlying40 Tryd.underlying25 (show Tryd.prog.cellsOf 25 = 5 by kernel_rfl) ⟨rfl, rfl, rfl, rfl, rfl⟩ ⟨rfl, rfl, rfl, rfl⟩ Tryd.underlying3 (show Tryd.prog.cellsOf 3 = 1 by kernel_rfl) (hval 0 40 v0 rfl rfl) h0
  clear hA0
  refine (walk W v0 hl0 hL).mono fun e W' hh => ?_
  obtain ⟨he, hg⟩ := hh
  subst he
  have hlt := hW'.lt
  exact ⟨_, rfl, _, _, _, [], _, [], hW', trodAll_cons_mk (shut_bool Tryd.underlying4 _) trodAll_mk0, trodAll_cons_mk (Below.trod lay_out (by kernel_rfl) (of_decide_eq_true (by kernel_rfl)) k0 hg (fun x hx => (by have := hlt x (by simp [hx]); simpa using this))) trodAll_mk0, rfl, hg.frame _, fun h => Bool.noConfusion h⟩
theorem laid_met (os : Os) : laidMetH Tryd.prog Rows.codeRowsRow.laid ((World.laidAll Tryd.prog os Rows.codeRowsRow.laid).forCall (fun _ _ => 0) ⟨#[], #[.slice none 0 0], []⟩).memory := by
  rw [MakeChecks.laidMetH_plain _ _ _ (by kernel_rfl)]
  exact laidMet_laidAll _ (by kernel_rfl) (by kernel_rfl)
theorem reads (os : Os) {H : Type} (enc : TypeId × Value → H) : ∃ places, DataW.whole enc Tryd.prog ((World.laidAll Tryd.prog os Rows.codeRowsRow.laid).forCall (fun _ _ => 0) ⟨#[], #[.slice none 0 0], []⟩).memory Tryd.f4.params.toList Rows.codeRowsSpec.vars false #[Value.slice none 0 0].toList 8 = some ([.nil], [], places) :=
  ⟨[], by kernel_rfl⟩
theorem lifted (os : Os) (started : os.Started) (H : Type) (enc : TypeId × Value → H) (F : Stop.Interp) :
    ReturnsInHanded {} Tryd.checked os 4 .any ((OpenSpec.ofChange Rows.codeRowsSpec).preRow enc Tryd.prog Tryd.f4 Rows.codeRowsRow.domain false Rows.codeRowsRow.laid) (((OpenSpec.ofChange Rows.codeRowsSpec).at F).post enc Tryd.prog Tryd.f4 false true false false) := by
  obtain ⟨places, hx⟩ := reads os enc
  refine returnsInHanded_of_row (C := Tryd.checked) (s := OpenSpec.ofChange Rows.codeRowsSpec) own started (by kernel_rfl) Tryd.func4
    (witness_row_atRef (enc := enc) (C := Tryd.checked) false (World.laidAll Tryd.prog os Rows.codeRowsRow.laid) #[.slice none 0 0] (World.laidAll_os _ _ _) (by kernel_rfl) (by kernel_rfl) (by kernel_rfl)
      (OpenSpec.preRow_of_cond 8 hx (by kernel_rfl) (fun k hk => by cases hk) (by kernel_rfl) (laid_met os))) ?_
  intro W base args ds gs before hval hW _ _ _ hL _ _
  exact contract H enc W base args ds gs before hval hW hL
set_option maxHeartbeats 4000000 in
theorem joined : joinedFacts Tryd.pinned.checked.prog 4 Tryd.f4 (OpenSpec.ofChange Rows.codeRowsSpec).bare Rows.codeRowsRow = true := by
  unfold joinedFacts
  simp only [Bool.and_eq_true]
  repeat' apply And.intro
  all_goals (as_aux_lemma => kernel_rfl)
theorem said : Rows.CodeRowsSaid :=
  OpenClaim.holds_of_cond 4 Tryd.f4 rfl rfl rfl rfl rfl rfl rfl ⟨rfl, rfl, rfl, rfl, rfl⟩ rfl rfl rfl rfl rfl (by kernel_rfl) Tryd.func4 joined
    (of_decide_eq_true (by kernel_rfl)) (by unfold Func.isWrapper; first | (rw [if_pos (by decide +kernel)]; kernel_rfl) | (rw [if_neg (by decide +kernel)]; exact ⟨rfl, rfl⟩))
    (fun os started H enc _ F => by rw [OpenClaim.pre_eq_preRow]; exact lifted os started H enc F)
theorem plain (f : FuncId) (fn : Func) (hf : Tryd.pinned.checked.prog.funcNamed "turnkey/turnkeylaw14.CodeRows" = some f) (hfn : Tryd.pinned.checked.prog.funcs[f]? = some fn) :
    true = Tryd.pinned.checked.prog.looks [] ∧ ∀ (j : Nat) t, fn.params[j]? = some t → Tryd.pinned.checked.prog.wantsStandIn t = false := by
  obtain rfl : f = 4 := Option.some.inj ((show Tryd.prog.funcNamed "turnkey/turnkeylaw14.CodeRows" = some 4 by kernel_rfl).symm.trans hf) |>.symm
  obtain rfl : fn = Tryd.f4 := (Option.some.inj (Tryd.func4.symm.trans hfn)).symm
  refine ⟨by kernel_rfl, fun j t ht => ?_⟩
  rw [Tryd.params4] at ht
  have hm := Array.mem_of_getElem? ht
  have hall : ∀ t, t ∈ #[(40 : TypeId)] → Tryd.prog.wantsStandIn t = false := by
    intro t h
    simp only [List.mem_toArray, List.mem_cons, List.not_mem_nil, or_false] at h
    subst h
    exact (show Tryd.prog.wantsStandIn 40 = false by kernel_rfl)
  exact hall t hm
theorem card : Rows.CodeRowsCardSaid :=
  Claim7.holds_tied_plain_at .later [] _ _ _ _ said (fun _ h => by cases h) (by as_aux_lemma => kernel_rfl) (fun _ h => by cases h) codeRows_row_tie rfl ⟨rfl, rfl⟩ (by as_aux_lemma => kernel_rfl) rfl plain (by as_aux_lemma => kernel_rfl)
end Go.Proofs.YtnedpimammoekaaDoor.codeRows
