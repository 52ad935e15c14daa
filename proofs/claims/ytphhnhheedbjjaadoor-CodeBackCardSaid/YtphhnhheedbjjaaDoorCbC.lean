/- codeBack: any instruction; unlike ones have unlike texts. -/
import Derived.Test.YtphhnhheedbjjaaDoorCbL0
import Derived.Test.YtphhnhheedbjjaaDoorCbL1
import Derived.Test.YtphhnhheedbjjaaDoorCbL2
import Derived.Test.YtphhnhheedbjjaaDoorCbL3
set_option linter.unusedVariables false
set_option linter.unusedSimpArgs false
set_option maxRecDepth 10000000
namespace Go.Proofs.YtphhnhheedbjjaaDoor.codeBack
open Tk
open Go Go.RowKit
set_option maxHeartbeats 4000000 in
theorem any0 {o a b c i : Int} (hop : (-9223372036854775808) ≤ o ∧ o ≤ 0) (ho : -9223372036854775808 ≤ o ∧ o ≤ 9223372036854775807) (ha : -9223372036854775808 ≤ a ∧ a ≤ 9223372036854775807) (hb : -9223372036854775808 ≤ b ∧ b ≤ 9223372036854775807) (hc : -9223372036854775808 ≤ c ∧ c ≤ 9223372036854775807) (hi : -9223372036854775808 ≤ i ∧ i ≤ 9223372036854775807) : Ins o a b c i := by
  exact .inr (.inl (i250 ⟨by omega, by omega⟩ ⟨by omega, by omega⟩ ⟨by omega, by omega⟩ ⟨by omega, by omega⟩ ⟨by omega, by omega⟩))
set_option maxHeartbeats 4000000 in
theorem any1 {o a b c i : Int} (hop : 1 ≤ o ∧ o ≤ 1) (ho : -9223372036854775808 ≤ o ∧ o ≤ 9223372036854775807) (ha : -9223372036854775808 ≤ a ∧ a ≤ 9223372036854775807) (hb : -9223372036854775808 ≤ b ∧ b ≤ 9223372036854775807) (hc : -9223372036854775808 ≤ c ∧ c ≤ 9223372036854775807) (hi : -9223372036854775808 ≤ i ∧ i ≤ 9223372036854775807) : Ins o a b c i := by
  rcases (by omega : ((-9223372036854775808) ≤ a ∧ a ≤ (-1)) ∨ (0 ≤ a ∧ a ≤ 7) ∨ (8 ≤ a ∧ a ≤ 9223372036854775807)) with q | q | q
  ·
    obtain rfl : o = 1 := by omega
    exact .inr (.inr (i0 ⟨by omega, by omega⟩ ⟨by omega, by omega⟩ ⟨by omega, by omega⟩ ⟨by omega, by omega⟩))
  ·
    rcases (by omega : ((-9223372036854775808) ≤ b ∧ b ≤ (-1)) ∨ (0 ≤ b ∧ b ≤ 0) ∨ (1 ≤ b ∧ b ≤ 9223372036854775807)) with q | q | q
    ·
      rcases (by omega : ((-9223372036854775808) ≤ i ∧ i ≤ (-1)) ∨ (0 ≤ i ∧ i ≤ 4095) ∨ (4096 ≤ i ∧ i ≤ 9223372036854775807)) with q | q | q
      ·
        obtain rfl : o = 1 := by omega
        exact .inr (.inr (i2 ⟨by omega, by omega⟩ ⟨by omega, by omega⟩ ⟨by omega, by omega⟩ ⟨by omega, by omega⟩))
      ·
        obtain rfl : o = 1 := by omega
        exact .inr (.inr (i3 ⟨by omega, by omega⟩ ⟨by omega, by omega⟩ ⟨by omega, by omega⟩ ⟨by omega, by omega⟩))
      ·
        obtain rfl : o = 1 := by omega
        exact .inr (.inr (i4 ⟨by omega, by omega⟩ ⟨by omega, by omega⟩ ⟨by omega, by omega⟩ ⟨by omega, by omega⟩))
    ·
      rcases (by omega : ((-9223372036854775808) ≤ c ∧ c ≤ (-1)) ∨ (0 ≤ c ∧ c ≤ 0) ∨ (1 ≤ c ∧ c ≤ 9223372036854775807)) with q | q | q
      ·
        rcases (by omega : ((-9223372036854775808) ≤ i ∧ i ≤ (-1)) ∨ (0 ≤ i ∧ i ≤ 4095) ∨ (4096 ≤ i ∧ i ≤ 9223372036854775807)) with q | q | q
        ·
          obtain rfl : o = 1 := by omega
          obtain rfl : b = 0 := by omega
          exact .inr (.inr (i8 ⟨by omega, by omega⟩ ⟨by omega, by omega⟩ ⟨by omega, by omega⟩))
        ·
          obtain rfl : o = 1 := by omega
          obtain rfl : b = 0 := by omega
          exact .inr (.inr (i9 ⟨by omega, by omega⟩ ⟨by omega, by omega⟩ ⟨by omega, by omega⟩))
        ·
          obtain rfl : o = 1 := by omega
          obtain rfl : b = 0 := by omega
          exact .inr (.inr (i10 ⟨by omega, by omega⟩ ⟨by omega, by omega⟩ ⟨by omega, by omega⟩))
      ·
        rcases (by omega : ((-9223372036854775808) ≤ i ∧ i ≤ (-1)) ∨ (0 ≤ i ∧ i ≤ 9) ∨ (10 ≤ i ∧ i ≤ 99) ∨ (100 ≤ i ∧ i ≤ 999) ∨ (1000 ≤ i ∧ i ≤ 4095) ∨ (4096 ≤ i ∧ i ≤ 9223372036854775807)) with q | q | q | q | q | q
        ·
          obtain rfl : o = 1 := by omega
          obtain rfl : b = 0 := by omega
          obtain rfl : c = 0 := by omega
          exact .inr (.inr (i14 ⟨by omega, by omega⟩ ⟨by omega, by omega⟩))
        ·
          obtain rfl : o = 1 := by omega
          obtain rfl : b = 0 := by omega
          obtain rfl : c = 0 := by omega
          exact .inl (i16 ⟨by omega, by omega⟩ ⟨by omega, by omega⟩)
        ·
          obtain rfl : o = 1 := by omega
          obtain rfl : b = 0 := by omega
          obtain rfl : c = 0 := by omega
          exact .inl (i17 ⟨by omega, by omega⟩ ⟨by omega, by omega⟩)
        ·
          obtain rfl : o = 1 := by omega
          obtain rfl : b = 0 := by omega
          obtain rfl : c = 0 := by omega
          exact .inl (i18 ⟨by omega, by omega⟩ ⟨by omega, by omega⟩)
        ·
          obtain rfl : o = 1 := by omega
          obtain rfl : b = 0 := by omega
          obtain rfl : c = 0 := by omega
          exact .inl (i19 ⟨by omega, by omega⟩ ⟨by omega, by omega⟩)
        ·
          obtain rfl : o = 1 := by omega
          obtain rfl : b = 0 := by omega
          obtain rfl : c = 0 := by omega
          exact .inr (.inr (i15 ⟨by omega, by omega⟩ ⟨by omega, by omega⟩))
      ·
        rcases (by omega : ((-9223372036854775808) ≤ i ∧ i ≤ (-1)) ∨ (0 ≤ i ∧ i ≤ 4095) ∨ (4096 ≤ i ∧ i ≤ 9223372036854775807)) with q | q | q
        ·
          obtain rfl : o = 1 := by omega
          obtain rfl : b = 0 := by omega
          exact .inr (.inr (i11 ⟨by omega, by omega⟩ ⟨by omega, by omega⟩ ⟨by omega, by omega⟩))
        ·
          obtain rfl : o = 1 := by omega
          obtain rfl : b = 0 := by omega
          exact .inr (.inr (i12 ⟨by omega, by omega⟩ ⟨by omega, by omega⟩ ⟨by omega, by omega⟩))
        ·
          obtain rfl : o = 1 := by omega
          obtain rfl : b = 0 := by omega
          exact .inr (.inr (i13 ⟨by omega, by omega⟩ ⟨by omega, by omega⟩ ⟨by omega, by omega⟩))
    ·
      rcases (by omega : ((-9223372036854775808) ≤ i ∧ i ≤ (-1)) ∨ (0 ≤ i ∧ i ≤ 4095) ∨ (4096 ≤ i ∧ i ≤ 9223372036854775807)) with q | q | q
      ·
        obtain rfl : o = 1 := by omega
        exact .inr (.inr (i5 ⟨by omega, by omega⟩ ⟨by omega, by omega⟩ ⟨by omega, by omega⟩ ⟨by omega, by omega⟩))
      ·
        obtain rfl : o = 1 := by omega
        exact .inr (.inr (i6 ⟨by omega, by omega⟩ ⟨by omega, by omega⟩ ⟨by omega, by omega⟩ ⟨by omega, by omega⟩))
      ·
        obtain rfl : o = 1 := by omega
        exact .inr (.inr (i7 ⟨by omega, by omega⟩ ⟨by omega, by omega⟩ ⟨by omega, by omega⟩ ⟨by omega, by omega⟩))
  ·
    obtain rfl : o = 1 := by omega
    exact .inr (.inr (i1 ⟨by omega, by omega⟩ ⟨by omega, by omega⟩ ⟨by omega, by omega⟩ ⟨by omega, by omega⟩))
set_option maxHeartbeats 4000000 in
theorem right1 {a b c i : Int} (hv : V1 a b c i) : ∃ s, VC 1 a b c i s := by
  obtain ⟨ha, hb, hc, hi⟩ := hv
  obtain ⟨o, ho⟩ : ∃ o : Int, o = 1 := ⟨_, rfl⟩
  rw [← ho]
  rcases (by omega : (0 ≤ i ∧ i ≤ 9) ∨ (10 ≤ i ∧ i ≤ 99) ∨ (100 ≤ i ∧ i ≤ 999) ∨ (1000 ≤ i ∧ i ≤ 4095)) with q | q | q | q
  ·
    obtain rfl : o = 1 := by omega
    obtain rfl : b = 0 := by omega
    obtain rfl : c = 0 := by omega
    exact i16 ⟨by omega, by omega⟩ ⟨by omega, by omega⟩
  ·
    obtain rfl : o = 1 := by omega
    obtain rfl : b = 0 := by omega
    obtain rfl : c = 0 := by omega
    exact i17 ⟨by omega, by omega⟩ ⟨by omega, by omega⟩
  ·
    obtain rfl : o = 1 := by omega
    obtain rfl : b = 0 := by omega
    obtain rfl : c = 0 := by omega
    exact i18 ⟨by omega, by omega⟩ ⟨by omega, by omega⟩
  ·
    obtain rfl : o = 1 := by omega
    obtain rfl : b = 0 := by omega
    obtain rfl : c = 0 := by omega
    exact i19 ⟨by omega, by omega⟩ ⟨by omega, by omega⟩
set_option maxHeartbeats 4000000 in
theorem any2 {o a b c i : Int} (hop : 2 ≤ o ∧ o ≤ 2) (ho : -9223372036854775808 ≤ o ∧ o ≤ 9223372036854775807) (ha : -9223372036854775808 ≤ a ∧ a ≤ 9223372036854775807) (hb : -9223372036854775808 ≤ b ∧ b ≤ 9223372036854775807) (hc : -9223372036854775808 ≤ c ∧ c ≤ 9223372036854775807) (hi : -9223372036854775808 ≤ i ∧ i ≤ 9223372036854775807) : Ins o a b c i := by
  rcases (by omega : ((-9223372036854775808) ≤ a ∧ a ≤ (-1)) ∨ (0 ≤ a ∧ a ≤ 7) ∨ (8 ≤ a ∧ a ≤ 9223372036854775807)) with q | q | q
  ·
    obtain rfl : o = 2 := by omega
    exact .inr (.inr (i20 ⟨by omega, by omega⟩ ⟨by omega, by omega⟩ ⟨by omega, by omega⟩ ⟨by omega, by omega⟩))
  ·
    rcases (by omega : ((-9223372036854775808) ≤ b ∧ b ≤ (-1)) ∨ (0 ≤ b ∧ b ≤ 0) ∨ (1 ≤ b ∧ b ≤ 9223372036854775807)) with q | q | q
    ·
      rcases (by omega : ((-9223372036854775808) ≤ i ∧ i ≤ (-1)) ∨ (0 ≤ i ∧ i ≤ 4095) ∨ (4096 ≤ i ∧ i ≤ 9223372036854775807)) with q | q | q
      ·
        obtain rfl : o = 2 := by omega
        exact .inr (.inr (i22 ⟨by omega, by omega⟩ ⟨by omega, by omega⟩ ⟨by omega, by omega⟩ ⟨by omega, by omega⟩))
      ·
        obtain rfl : o = 2 := by omega
        exact .inr (.inr (i23 ⟨by omega, by omega⟩ ⟨by omega, by omega⟩ ⟨by omega, by omega⟩ ⟨by omega, by omega⟩))
      ·
        obtain rfl : o = 2 := by omega
        exact .inr (.inr (i24 ⟨by omega, by omega⟩ ⟨by omega, by omega⟩ ⟨by omega, by omega⟩ ⟨by omega, by omega⟩))
    ·
      rcases (by omega : ((-9223372036854775808) ≤ c ∧ c ≤ (-1)) ∨ (0 ≤ c ∧ c ≤ 0) ∨ (1 ≤ c ∧ c ≤ 9223372036854775807)) with q | q | q
      ·
        rcases (by omega : ((-9223372036854775808) ≤ i ∧ i ≤ (-1)) ∨ (0 ≤ i ∧ i ≤ 4095) ∨ (4096 ≤ i ∧ i ≤ 9223372036854775807)) with q | q | q
        ·
          obtain rfl : o = 2 := by omega
          obtain rfl : b = 0 := by omega
          exact .inr (.inr (i28 ⟨by omega, by omega⟩ ⟨by omega, by omega⟩ ⟨by omega, by omega⟩))
        ·
          obtain rfl : o = 2 := by omega
          obtain rfl : b = 0 := by omega
          exact .inr (.inr (i29 ⟨by omega, by omega⟩ ⟨by omega, by omega⟩ ⟨by omega, by omega⟩))
        ·
          obtain rfl : o = 2 := by omega
          obtain rfl : b = 0 := by omega
          exact .inr (.inr (i30 ⟨by omega, by omega⟩ ⟨by omega, by omega⟩ ⟨by omega, by omega⟩))
      ·
        rcases (by omega : ((-9223372036854775808) ≤ i ∧ i ≤ (-1)) ∨ (0 ≤ i ∧ i ≤ 9) ∨ (10 ≤ i ∧ i ≤ 99) ∨ (100 ≤ i ∧ i ≤ 999) ∨ (1000 ≤ i ∧ i ≤ 4095) ∨ (4096 ≤ i ∧ i ≤ 9223372036854775807)) with q | q | q | q | q | q
        ·
          obtain rfl : o = 2 := by omega
          obtain rfl : b = 0 := by omega
          obtain rfl : c = 0 := by omega
          exact .inr (.inr (i34 ⟨by omega, by omega⟩ ⟨by omega, by omega⟩))
        ·
          obtain rfl : o = 2 := by omega
          obtain rfl : b = 0 := by omega
          obtain rfl : c = 0 := by omega
          exact .inl (i36 ⟨by omega, by omega⟩ ⟨by omega, by omega⟩)
        ·
          obtain rfl : o = 2 := by omega
          obtain rfl : b = 0 := by omega
          obtain rfl : c = 0 := by omega
          exact .inl (i37 ⟨by omega, by omega⟩ ⟨by omega, by omega⟩)
        ·
          obtain rfl : o = 2 := by omega
          obtain rfl : b = 0 := by omega
          obtain rfl : c = 0 := by omega
          exact .inl (i38 ⟨by omega, by omega⟩ ⟨by omega, by omega⟩)
        ·
          obtain rfl : o = 2 := by omega
          obtain rfl : b = 0 := by omega
          obtain rfl : c = 0 := by omega
          exact .inl (i39 ⟨by omega, by omega⟩ ⟨by omega, by omega⟩)
        ·
          obtain rfl : o = 2 := by omega
          obtain rfl : b = 0 := by omega
          obtain rfl : c = 0 := by omega
          exact .inr (.inr (i35 ⟨by omega, by omega⟩ ⟨by omega, by omega⟩))
      ·
        rcases (by omega : ((-9223372036854775808) ≤ i ∧ i ≤ (-1)) ∨ (0 ≤ i ∧ i ≤ 4095) ∨ (4096 ≤ i ∧ i ≤ 9223372036854775807)) with q | q | q
        ·
          obtain rfl : o = 2 := by omega
          obtain rfl : b = 0 := by omega
          exact .inr (.inr (i31 ⟨by omega, by omega⟩ ⟨by omega, by omega⟩ ⟨by omega, by omega⟩))
        ·
          obtain rfl : o = 2 := by omega
          obtain rfl : b = 0 := by omega
          exact .inr (.inr (i32 ⟨by omega, by omega⟩ ⟨by omega, by omega⟩ ⟨by omega, by omega⟩))
        ·
          obtain rfl : o = 2 := by omega
          obtain rfl : b = 0 := by omega
          exact .inr (.inr (i33 ⟨by omega, by omega⟩ ⟨by omega, by omega⟩ ⟨by omega, by omega⟩))
    ·
      rcases (by omega : ((-9223372036854775808) ≤ i ∧ i ≤ (-1)) ∨ (0 ≤ i ∧ i ≤ 4095) ∨ (4096 ≤ i ∧ i ≤ 9223372036854775807)) with q | q | q
      ·
        obtain rfl : o = 2 := by omega
        exact .inr (.inr (i25 ⟨by omega, by omega⟩ ⟨by omega, by omega⟩ ⟨by omega, by omega⟩ ⟨by omega, by omega⟩))
      ·
        obtain rfl : o = 2 := by omega
        exact .inr (.inr (i26 ⟨by omega, by omega⟩ ⟨by omega, by omega⟩ ⟨by omega, by omega⟩ ⟨by omega, by omega⟩))
      ·
        obtain rfl : o = 2 := by omega
        exact .inr (.inr (i27 ⟨by omega, by omega⟩ ⟨by omega, by omega⟩ ⟨by omega, by omega⟩ ⟨by omega, by omega⟩))
  ·
    obtain rfl : o = 2 := by omega
    exact .inr (.inr (i21 ⟨by omega, by omega⟩ ⟨by omega, by omega⟩ ⟨by omega, by omega⟩ ⟨by omega, by omega⟩))
set_option maxHeartbeats 4000000 in
theorem right2 {a b c i : Int} (hv : V2 a b c i) : ∃ s, VC 2 a b c i s := by
  obtain ⟨ha, hb, hc, hi⟩ := hv
  obtain ⟨o, ho⟩ : ∃ o : Int, o = 2 := ⟨_, rfl⟩
  rw [← ho]
  rcases (by omega : (0 ≤ i ∧ i ≤ 9) ∨ (10 ≤ i ∧ i ≤ 99) ∨ (100 ≤ i ∧ i ≤ 999) ∨ (1000 ≤ i ∧ i ≤ 4095)) with q | q | q | q
  ·
    obtain rfl : o = 2 := by omega
    obtain rfl : b = 0 := by omega
    obtain rfl : c = 0 := by omega
    exact i36 ⟨by omega, by omega⟩ ⟨by omega, by omega⟩
  ·
    obtain rfl : o = 2 := by omega
    obtain rfl : b = 0 := by omega
    obtain rfl : c = 0 := by omega
    exact i37 ⟨by omega, by omega⟩ ⟨by omega, by omega⟩
  ·
    obtain rfl : o = 2 := by omega
    obtain rfl : b = 0 := by omega
    obtain rfl : c = 0 := by omega
    exact i38 ⟨by omega, by omega⟩ ⟨by omega, by omega⟩
  ·
    obtain rfl : o = 2 := by omega
    obtain rfl : b = 0 := by omega
    obtain rfl : c = 0 := by omega
    exact i39 ⟨by omega, by omega⟩ ⟨by omega, by omega⟩
set_option maxHeartbeats 4000000 in
theorem any3 {o a b c i : Int} (hop : 3 ≤ o ∧ o ≤ 3) (ho : -9223372036854775808 ≤ o ∧ o ≤ 9223372036854775807) (ha : -9223372036854775808 ≤ a ∧ a ≤ 9223372036854775807) (hb : -9223372036854775808 ≤ b ∧ b ≤ 9223372036854775807) (hc : -9223372036854775808 ≤ c ∧ c ≤ 9223372036854775807) (hi : -9223372036854775808 ≤ i ∧ i ≤ 9223372036854775807) : Ins o a b c i := by
  rcases (by omega : ((-9223372036854775808) ≤ a ∧ a ≤ (-1)) ∨ (0 ≤ a ∧ a ≤ 7) ∨ (8 ≤ a ∧ a ≤ 9223372036854775807)) with q | q | q
  ·
    obtain rfl : o = 3 := by omega
    exact .inr (.inr (i40 ⟨by omega, by omega⟩ ⟨by omega, by omega⟩ ⟨by omega, by omega⟩ ⟨by omega, by omega⟩))
  ·
    rcases (by omega : ((-9223372036854775808) ≤ b ∧ b ≤ (-1)) ∨ (0 ≤ b ∧ b ≤ 7) ∨ (8 ≤ b ∧ b ≤ 9223372036854775807)) with q | q | q
    ·
      obtain rfl : o = 3 := by omega
      exact .inr (.inr (i42 ⟨by omega, by omega⟩ ⟨by omega, by omega⟩ ⟨by omega, by omega⟩ ⟨by omega, by omega⟩))
    ·
      rcases (by omega : ((-9223372036854775808) ≤ c ∧ c ≤ (-1)) ∨ (0 ≤ c ∧ c ≤ 7) ∨ (8 ≤ c ∧ c ≤ 9223372036854775807)) with q | q | q
      ·
        obtain rfl : o = 3 := by omega
        exact .inr (.inr (i44 ⟨by omega, by omega⟩ ⟨by omega, by omega⟩ ⟨by omega, by omega⟩ ⟨by omega, by omega⟩))
      ·
        rcases (by omega : ((-9223372036854775808) ≤ i ∧ i ≤ (-1)) ∨ (0 ≤ i ∧ i ≤ 0) ∨ (1 ≤ i ∧ i ≤ 1) ∨ (2 ≤ i ∧ i ≤ 2) ∨ (3 ≤ i ∧ i ≤ 3) ∨ (4 ≤ i ∧ i ≤ 4) ∨ (5 ≤ i ∧ i ≤ 5) ∨ (6 ≤ i ∧ i ≤ 6) ∨ (7 ≤ i ∧ i ≤ 7) ∨ (8 ≤ i ∧ i ≤ 8) ∨ (9 ≤ i ∧ i ≤ 9) ∨ (10 ≤ i ∧ i ≤ 10) ∨ (11 ≤ i ∧ i ≤ 11) ∨ (12 ≤ i ∧ i ≤ 9223372036854775807)) with q | q | q | q | q | q | q | q | q | q | q | q | q | q
        ·
          obtain rfl : o = 3 := by omega
          exact .inr (.inr (i46 ⟨by omega, by omega⟩ ⟨by omega, by omega⟩ ⟨by omega, by omega⟩ ⟨by omega, by omega⟩))
        ·
          obtain rfl : o = 3 := by omega
          obtain rfl : i = 0 := by omega
          exact .inl (i48 ⟨by omega, by omega⟩ ⟨by omega, by omega⟩ ⟨by omega, by omega⟩)
        ·
          obtain rfl : o = 3 := by omega
          obtain rfl : i = 1 := by omega
          exact .inl (i49 ⟨by omega, by omega⟩ ⟨by omega, by omega⟩ ⟨by omega, by omega⟩)
        ·
          obtain rfl : o = 3 := by omega
          obtain rfl : i = 2 := by omega
          exact .inl (i50 ⟨by omega, by omega⟩ ⟨by omega, by omega⟩ ⟨by omega, by omega⟩)
        ·
          obtain rfl : o = 3 := by omega
          obtain rfl : i = 3 := by omega
          exact .inl (i51 ⟨by omega, by omega⟩ ⟨by omega, by omega⟩ ⟨by omega, by omega⟩)
        ·
          obtain rfl : o = 3 := by omega
          obtain rfl : i = 4 := by omega
          exact .inl (i52 ⟨by omega, by omega⟩ ⟨by omega, by omega⟩ ⟨by omega, by omega⟩)
        ·
          obtain rfl : o = 3 := by omega
          obtain rfl : i = 5 := by omega
          exact .inl (i53 ⟨by omega, by omega⟩ ⟨by omega, by omega⟩ ⟨by omega, by omega⟩)
        ·
          obtain rfl : o = 3 := by omega
          obtain rfl : i = 6 := by omega
          exact .inl (i54 ⟨by omega, by omega⟩ ⟨by omega, by omega⟩ ⟨by omega, by omega⟩)
        ·
          obtain rfl : o = 3 := by omega
          obtain rfl : i = 7 := by omega
          exact .inl (i55 ⟨by omega, by omega⟩ ⟨by omega, by omega⟩ ⟨by omega, by omega⟩)
        ·
          obtain rfl : o = 3 := by omega
          obtain rfl : i = 8 := by omega
          exact .inl (i56 ⟨by omega, by omega⟩ ⟨by omega, by omega⟩ ⟨by omega, by omega⟩)
        ·
          obtain rfl : o = 3 := by omega
          obtain rfl : i = 9 := by omega
          exact .inl (i57 ⟨by omega, by omega⟩ ⟨by omega, by omega⟩ ⟨by omega, by omega⟩)
        ·
          obtain rfl : o = 3 := by omega
          obtain rfl : i = 10 := by omega
          exact .inl (i58 ⟨by omega, by omega⟩ ⟨by omega, by omega⟩ ⟨by omega, by omega⟩)
        ·
          obtain rfl : o = 3 := by omega
          obtain rfl : i = 11 := by omega
          exact .inl (i59 ⟨by omega, by omega⟩ ⟨by omega, by omega⟩ ⟨by omega, by omega⟩)
        ·
          obtain rfl : o = 3 := by omega
          exact .inr (.inr (i47 ⟨by omega, by omega⟩ ⟨by omega, by omega⟩ ⟨by omega, by omega⟩ ⟨by omega, by omega⟩))
      ·
        obtain rfl : o = 3 := by omega
        exact .inr (.inr (i45 ⟨by omega, by omega⟩ ⟨by omega, by omega⟩ ⟨by omega, by omega⟩ ⟨by omega, by omega⟩))
    ·
      obtain rfl : o = 3 := by omega
      exact .inr (.inr (i43 ⟨by omega, by omega⟩ ⟨by omega, by omega⟩ ⟨by omega, by omega⟩ ⟨by omega, by omega⟩))
  ·
    obtain rfl : o = 3 := by omega
    exact .inr (.inr (i41 ⟨by omega, by omega⟩ ⟨by omega, by omega⟩ ⟨by omega, by omega⟩ ⟨by omega, by omega⟩))
set_option maxHeartbeats 4000000 in
theorem right3 {a b c i : Int} (hv : V3 a b c i) : ∃ s, VC 3 a b c i s := by
  obtain ⟨ha, hb, hc, hi⟩ := hv
  obtain ⟨o, ho⟩ : ∃ o : Int, o = 3 := ⟨_, rfl⟩
  rw [← ho]
  rcases (by omega : (0 ≤ i ∧ i ≤ 0) ∨ (1 ≤ i ∧ i ≤ 1) ∨ (2 ≤ i ∧ i ≤ 2) ∨ (3 ≤ i ∧ i ≤ 3) ∨ (4 ≤ i ∧ i ≤ 4) ∨ (5 ≤ i ∧ i ≤ 5) ∨ (6 ≤ i ∧ i ≤ 6) ∨ (7 ≤ i ∧ i ≤ 7) ∨ (8 ≤ i ∧ i ≤ 8) ∨ (9 ≤ i ∧ i ≤ 9) ∨ (10 ≤ i ∧ i ≤ 10) ∨ (11 ≤ i ∧ i ≤ 11)) with q | q | q | q | q | q | q | q | q | q | q | q
  ·
    obtain rfl : o = 3 := by omega
    obtain rfl : i = 0 := by omega
    exact i48 ⟨by omega, by omega⟩ ⟨by omega, by omega⟩ ⟨by omega, by omega⟩
  ·
    obtain rfl : o = 3 := by omega
    obtain rfl : i = 1 := by omega
    exact i49 ⟨by omega, by omega⟩ ⟨by omega, by omega⟩ ⟨by omega, by omega⟩
  ·
    obtain rfl : o = 3 := by omega
    obtain rfl : i = 2 := by omega
    exact i50 ⟨by omega, by omega⟩ ⟨by omega, by omega⟩ ⟨by omega, by omega⟩
  ·
    obtain rfl : o = 3 := by omega
    obtain rfl : i = 3 := by omega
    exact i51 ⟨by omega, by omega⟩ ⟨by omega, by omega⟩ ⟨by omega, by omega⟩
  ·
    obtain rfl : o = 3 := by omega
    obtain rfl : i = 4 := by omega
    exact i52 ⟨by omega, by omega⟩ ⟨by omega, by omega⟩ ⟨by omega, by omega⟩
  ·
    obtain rfl : o = 3 := by omega
    obtain rfl : i = 5 := by omega
    exact i53 ⟨by omega, by omega⟩ ⟨by omega, by omega⟩ ⟨by omega, by omega⟩
  ·
    obtain rfl : o = 3 := by omega
    obtain rfl : i = 6 := by omega
    exact i54 ⟨by omega, by omega⟩ ⟨by omega, by omega⟩ ⟨by omega, by omega⟩
  ·
    obtain rfl : o = 3 := by omega
    obtain rfl : i = 7 := by omega
    exact i55 ⟨by omega, by omega⟩ ⟨by omega, by omega⟩ ⟨by omega, by omega⟩
  ·
    obtain rfl : o = 3 := by omega
    obtain rfl : i = 8 := by omega
    exact i56 ⟨by omega, by omega⟩ ⟨by omega, by omega⟩ ⟨by omega, by omega⟩
  ·
    obtain rfl : o = 3 := by omega
    obtain rfl : i = 9 := by omega
    exact i57 ⟨by omega, by omega⟩ ⟨by omega, by omega⟩ ⟨by omega, by omega⟩
  ·
    obtain rfl : o = 3 := by omega
    obtain rfl : i = 10 := by omega
    exact i58 ⟨by omega, by omega⟩ ⟨by omega, by omega⟩ ⟨by omega, by omega⟩
  ·
    obtain rfl : o = 3 := by omega
    obtain rfl : i = 11 := by omega
    exact i59 ⟨by omega, by omega⟩ ⟨by omega, by omega⟩ ⟨by omega, by omega⟩
set_option maxHeartbeats 4000000 in
theorem any4 {o a b c i : Int} (hop : 4 ≤ o ∧ o ≤ 4) (ho : -9223372036854775808 ≤ o ∧ o ≤ 9223372036854775807) (ha : -9223372036854775808 ≤ a ∧ a ≤ 9223372036854775807) (hb : -9223372036854775808 ≤ b ∧ b ≤ 9223372036854775807) (hc : -9223372036854775808 ≤ c ∧ c ≤ 9223372036854775807) (hi : -9223372036854775808 ≤ i ∧ i ≤ 9223372036854775807) : Ins o a b c i := by
  rcases (by omega : ((-9223372036854775808) ≤ a ∧ a ≤ (-1)) ∨ (0 ≤ a ∧ a ≤ 0) ∨ (1 ≤ a ∧ a ≤ 9223372036854775807)) with q | q | q
  ·
    rcases (by omega : ((-9223372036854775808) ≤ i ∧ i ≤ (-1)) ∨ (0 ≤ i ∧ i ≤ 4095) ∨ (4096 ≤ i ∧ i ≤ 9223372036854775807)) with q | q | q
    ·
      obtain rfl : o = 4 := by omega
      exact .inr (.inr (i60 ⟨by omega, by omega⟩ ⟨by omega, by omega⟩ ⟨by omega, by omega⟩ ⟨by omega, by omega⟩))
    ·
      obtain rfl : o = 4 := by omega
      exact .inr (.inr (i61 ⟨by omega, by omega⟩ ⟨by omega, by omega⟩ ⟨by omega, by omega⟩ ⟨by omega, by omega⟩))
    ·
      obtain rfl : o = 4 := by omega
      exact .inr (.inr (i62 ⟨by omega, by omega⟩ ⟨by omega, by omega⟩ ⟨by omega, by omega⟩ ⟨by omega, by omega⟩))
  ·
    rcases (by omega : ((-9223372036854775808) ≤ b ∧ b ≤ (-1)) ∨ (0 ≤ b ∧ b ≤ 0) ∨ (1 ≤ b ∧ b ≤ 9223372036854775807)) with q | q | q
    ·
      rcases (by omega : ((-9223372036854775808) ≤ i ∧ i ≤ (-1)) ∨ (0 ≤ i ∧ i ≤ 4095) ∨ (4096 ≤ i ∧ i ≤ 9223372036854775807)) with q | q | q
      ·
        obtain rfl : o = 4 := by omega
        obtain rfl : a = 0 := by omega
        exact .inr (.inr (i66 ⟨by omega, by omega⟩ ⟨by omega, by omega⟩ ⟨by omega, by omega⟩))
      ·
        obtain rfl : o = 4 := by omega
        obtain rfl : a = 0 := by omega
        exact .inr (.inr (i67 ⟨by omega, by omega⟩ ⟨by omega, by omega⟩ ⟨by omega, by omega⟩))
      ·
        obtain rfl : o = 4 := by omega
        obtain rfl : a = 0 := by omega
        exact .inr (.inr (i68 ⟨by omega, by omega⟩ ⟨by omega, by omega⟩ ⟨by omega, by omega⟩))
    ·
      rcases (by omega : ((-9223372036854775808) ≤ c ∧ c ≤ (-1)) ∨ (0 ≤ c ∧ c ≤ 0) ∨ (1 ≤ c ∧ c ≤ 9223372036854775807)) with q | q | q
      ·
        rcases (by omega : ((-9223372036854775808) ≤ i ∧ i ≤ (-1)) ∨ (0 ≤ i ∧ i ≤ 4095) ∨ (4096 ≤ i ∧ i ≤ 9223372036854775807)) with q | q | q
        ·
          obtain rfl : o = 4 := by omega
          obtain rfl : a = 0 := by omega
          obtain rfl : b = 0 := by omega
          exact .inr (.inr (i72 ⟨by omega, by omega⟩ ⟨by omega, by omega⟩))
        ·
          obtain rfl : o = 4 := by omega
          obtain rfl : a = 0 := by omega
          obtain rfl : b = 0 := by omega
          exact .inr (.inr (i73 ⟨by omega, by omega⟩ ⟨by omega, by omega⟩))
        ·
          obtain rfl : o = 4 := by omega
          obtain rfl : a = 0 := by omega
          obtain rfl : b = 0 := by omega
          exact .inr (.inr (i74 ⟨by omega, by omega⟩ ⟨by omega, by omega⟩))
      ·
        rcases (by omega : ((-9223372036854775808) ≤ i ∧ i ≤ (-1)) ∨ (0 ≤ i ∧ i ≤ 9) ∨ (10 ≤ i ∧ i ≤ 99) ∨ (100 ≤ i ∧ i ≤ 999) ∨ (1000 ≤ i ∧ i ≤ 4095) ∨ (4096 ≤ i ∧ i ≤ 9223372036854775807)) with q | q | q | q | q | q
        ·
          obtain rfl : o = 4 := by omega
          obtain rfl : a = 0 := by omega
          obtain rfl : b = 0 := by omega
          obtain rfl : c = 0 := by omega
          exact .inr (.inr (i78 ⟨by omega, by omega⟩))
        ·
          obtain rfl : o = 4 := by omega
          obtain rfl : a = 0 := by omega
          obtain rfl : b = 0 := by omega
          obtain rfl : c = 0 := by omega
          exact .inl (i80 ⟨by omega, by omega⟩)
        ·
          obtain rfl : o = 4 := by omega
          obtain rfl : a = 0 := by omega
          obtain rfl : b = 0 := by omega
          obtain rfl : c = 0 := by omega
          exact .inl (i81 ⟨by omega, by omega⟩)
        ·
          obtain rfl : o = 4 := by omega
          obtain rfl : a = 0 := by omega
          obtain rfl : b = 0 := by omega
          obtain rfl : c = 0 := by omega
          exact .inl (i82 ⟨by omega, by omega⟩)
        ·
          obtain rfl : o = 4 := by omega
          obtain rfl : a = 0 := by omega
          obtain rfl : b = 0 := by omega
          obtain rfl : c = 0 := by omega
          exact .inl (i83 ⟨by omega, by omega⟩)
        ·
          obtain rfl : o = 4 := by omega
          obtain rfl : a = 0 := by omega
          obtain rfl : b = 0 := by omega
          obtain rfl : c = 0 := by omega
          exact .inr (.inr (i79 ⟨by omega, by omega⟩))
      ·
        rcases (by omega : ((-9223372036854775808) ≤ i ∧ i ≤ (-1)) ∨ (0 ≤ i ∧ i ≤ 4095) ∨ (4096 ≤ i ∧ i ≤ 9223372036854775807)) with q | q | q
        ·
          obtain rfl : o = 4 := by omega
          obtain rfl : a = 0 := by omega
          obtain rfl : b = 0 := by omega
          exact .inr (.inr (i75 ⟨by omega, by omega⟩ ⟨by omega, by omega⟩))
        ·
          obtain rfl : o = 4 := by omega
          obtain rfl : a = 0 := by omega
          obtain rfl : b = 0 := by omega
          exact .inr (.inr (i76 ⟨by omega, by omega⟩ ⟨by omega, by omega⟩))
        ·
          obtain rfl : o = 4 := by omega
          obtain rfl : a = 0 := by omega
          obtain rfl : b = 0 := by omega
          exact .inr (.inr (i77 ⟨by omega, by omega⟩ ⟨by omega, by omega⟩))
    ·
      rcases (by omega : ((-9223372036854775808) ≤ i ∧ i ≤ (-1)) ∨ (0 ≤ i ∧ i ≤ 4095) ∨ (4096 ≤ i ∧ i ≤ 9223372036854775807)) with q | q | q
      ·
        obtain rfl : o = 4 := by omega
        obtain rfl : a = 0 := by omega
        exact .inr (.inr (i69 ⟨by omega, by omega⟩ ⟨by omega, by omega⟩ ⟨by omega, by omega⟩))
      ·
        obtain rfl : o = 4 := by omega
        obtain rfl : a = 0 := by omega
        exact .inr (.inr (i70 ⟨by omega, by omega⟩ ⟨by omega, by omega⟩ ⟨by omega, by omega⟩))
      ·
        obtain rfl : o = 4 := by omega
        obtain rfl : a = 0 := by omega
        exact .inr (.inr (i71 ⟨by omega, by omega⟩ ⟨by omega, by omega⟩ ⟨by omega, by omega⟩))
  ·
    rcases (by omega : ((-9223372036854775808) ≤ i ∧ i ≤ (-1)) ∨ (0 ≤ i ∧ i ≤ 4095) ∨ (4096 ≤ i ∧ i ≤ 9223372036854775807)) with q | q | q
    ·
      obtain rfl : o = 4 := by omega
      exact .inr (.inr (i63 ⟨by omega, by omega⟩ ⟨by omega, by omega⟩ ⟨by omega, by omega⟩ ⟨by omega, by omega⟩))
    ·
      obtain rfl : o = 4 := by omega
      exact .inr (.inr (i64 ⟨by omega, by omega⟩ ⟨by omega, by omega⟩ ⟨by omega, by omega⟩ ⟨by omega, by omega⟩))
    ·
      obtain rfl : o = 4 := by omega
      exact .inr (.inr (i65 ⟨by omega, by omega⟩ ⟨by omega, by omega⟩ ⟨by omega, by omega⟩ ⟨by omega, by omega⟩))
set_option maxHeartbeats 4000000 in
theorem right4 {a b c i : Int} (hv : V4 a b c i) : ∃ s, VC 4 a b c i s := by
  obtain ⟨ha, hb, hc, hi⟩ := hv
  obtain ⟨o, ho⟩ : ∃ o : Int, o = 4 := ⟨_, rfl⟩
  rw [← ho]
  rcases (by omega : (0 ≤ i ∧ i ≤ 9) ∨ (10 ≤ i ∧ i ≤ 99) ∨ (100 ≤ i ∧ i ≤ 999) ∨ (1000 ≤ i ∧ i ≤ 4095)) with q | q | q | q
  ·
    obtain rfl : o = 4 := by omega
    obtain rfl : a = 0 := by omega
    obtain rfl : b = 0 := by omega
    obtain rfl : c = 0 := by omega
    exact i80 ⟨by omega, by omega⟩
  ·
    obtain rfl : o = 4 := by omega
    obtain rfl : a = 0 := by omega
    obtain rfl : b = 0 := by omega
    obtain rfl : c = 0 := by omega
    exact i81 ⟨by omega, by omega⟩
  ·
    obtain rfl : o = 4 := by omega
    obtain rfl : a = 0 := by omega
    obtain rfl : b = 0 := by omega
    obtain rfl : c = 0 := by omega
    exact i82 ⟨by omega, by omega⟩
  ·
    obtain rfl : o = 4 := by omega
    obtain rfl : a = 0 := by omega
    obtain rfl : b = 0 := by omega
    obtain rfl : c = 0 := by omega
    exact i83 ⟨by omega, by omega⟩
set_option maxHeartbeats 4000000 in
theorem any5 {o a b c i : Int} (hop : 5 ≤ o ∧ o ≤ 5) (ho : -9223372036854775808 ≤ o ∧ o ≤ 9223372036854775807) (ha : -9223372036854775808 ≤ a ∧ a ≤ 9223372036854775807) (hb : -9223372036854775808 ≤ b ∧ b ≤ 9223372036854775807) (hc : -9223372036854775808 ≤ c ∧ c ≤ 9223372036854775807) (hi : -9223372036854775808 ≤ i ∧ i ≤ 9223372036854775807) : Ins o a b c i := by
  rcases (by omega : ((-9223372036854775808) ≤ a ∧ a ≤ (-1)) ∨ (0 ≤ a ∧ a ≤ 7) ∨ (8 ≤ a ∧ a ≤ 9223372036854775807)) with q | q | q
  ·
    obtain rfl : o = 5 := by omega
    exact .inr (.inr (i84 ⟨by omega, by omega⟩ ⟨by omega, by omega⟩ ⟨by omega, by omega⟩ ⟨by omega, by omega⟩))
  ·
    rcases (by omega : ((-9223372036854775808) ≤ b ∧ b ≤ (-1)) ∨ (0 ≤ b ∧ b ≤ 0) ∨ (1 ≤ b ∧ b ≤ 9223372036854775807)) with q | q | q
    ·
      rcases (by omega : ((-9223372036854775808) ≤ i ∧ i ≤ (-1)) ∨ (0 ≤ i ∧ i ≤ 4095) ∨ (4096 ≤ i ∧ i ≤ 9223372036854775807)) with q | q | q
      ·
        obtain rfl : o = 5 := by omega
        exact .inr (.inr (i86 ⟨by omega, by omega⟩ ⟨by omega, by omega⟩ ⟨by omega, by omega⟩ ⟨by omega, by omega⟩))
      ·
        obtain rfl : o = 5 := by omega
        exact .inr (.inr (i87 ⟨by omega, by omega⟩ ⟨by omega, by omega⟩ ⟨by omega, by omega⟩ ⟨by omega, by omega⟩))
      ·
        obtain rfl : o = 5 := by omega
        exact .inr (.inr (i88 ⟨by omega, by omega⟩ ⟨by omega, by omega⟩ ⟨by omega, by omega⟩ ⟨by omega, by omega⟩))
    ·
      rcases (by omega : ((-9223372036854775808) ≤ c ∧ c ≤ (-1)) ∨ (0 ≤ c ∧ c ≤ 0) ∨ (1 ≤ c ∧ c ≤ 9223372036854775807)) with q | q | q
      ·
        rcases (by omega : ((-9223372036854775808) ≤ i ∧ i ≤ (-1)) ∨ (0 ≤ i ∧ i ≤ 4095) ∨ (4096 ≤ i ∧ i ≤ 9223372036854775807)) with q | q | q
        ·
          obtain rfl : o = 5 := by omega
          obtain rfl : b = 0 := by omega
          exact .inr (.inr (i92 ⟨by omega, by omega⟩ ⟨by omega, by omega⟩ ⟨by omega, by omega⟩))
        ·
          obtain rfl : o = 5 := by omega
          obtain rfl : b = 0 := by omega
          exact .inr (.inr (i93 ⟨by omega, by omega⟩ ⟨by omega, by omega⟩ ⟨by omega, by omega⟩))
        ·
          obtain rfl : o = 5 := by omega
          obtain rfl : b = 0 := by omega
          exact .inr (.inr (i94 ⟨by omega, by omega⟩ ⟨by omega, by omega⟩ ⟨by omega, by omega⟩))
      ·
        rcases (by omega : ((-9223372036854775808) ≤ i ∧ i ≤ (-1)) ∨ (0 ≤ i ∧ i ≤ 9) ∨ (10 ≤ i ∧ i ≤ 99) ∨ (100 ≤ i ∧ i ≤ 999) ∨ (1000 ≤ i ∧ i ≤ 4095) ∨ (4096 ≤ i ∧ i ≤ 9223372036854775807)) with q | q | q | q | q | q
        ·
          obtain rfl : o = 5 := by omega
          obtain rfl : b = 0 := by omega
          obtain rfl : c = 0 := by omega
          exact .inr (.inr (i98 ⟨by omega, by omega⟩ ⟨by omega, by omega⟩))
        ·
          obtain rfl : o = 5 := by omega
          obtain rfl : b = 0 := by omega
          obtain rfl : c = 0 := by omega
          exact .inl (i100 ⟨by omega, by omega⟩ ⟨by omega, by omega⟩)
        ·
          obtain rfl : o = 5 := by omega
          obtain rfl : b = 0 := by omega
          obtain rfl : c = 0 := by omega
          exact .inl (i101 ⟨by omega, by omega⟩ ⟨by omega, by omega⟩)
        ·
          obtain rfl : o = 5 := by omega
          obtain rfl : b = 0 := by omega
          obtain rfl : c = 0 := by omega
          exact .inl (i102 ⟨by omega, by omega⟩ ⟨by omega, by omega⟩)
        ·
          obtain rfl : o = 5 := by omega
          obtain rfl : b = 0 := by omega
          obtain rfl : c = 0 := by omega
          exact .inl (i103 ⟨by omega, by omega⟩ ⟨by omega, by omega⟩)
        ·
          obtain rfl : o = 5 := by omega
          obtain rfl : b = 0 := by omega
          obtain rfl : c = 0 := by omega
          exact .inr (.inr (i99 ⟨by omega, by omega⟩ ⟨by omega, by omega⟩))
      ·
        rcases (by omega : ((-9223372036854775808) ≤ i ∧ i ≤ (-1)) ∨ (0 ≤ i ∧ i ≤ 4095) ∨ (4096 ≤ i ∧ i ≤ 9223372036854775807)) with q | q | q
        ·
          obtain rfl : o = 5 := by omega
          obtain rfl : b = 0 := by omega
          exact .inr (.inr (i95 ⟨by omega, by omega⟩ ⟨by omega, by omega⟩ ⟨by omega, by omega⟩))
        ·
          obtain rfl : o = 5 := by omega
          obtain rfl : b = 0 := by omega
          exact .inr (.inr (i96 ⟨by omega, by omega⟩ ⟨by omega, by omega⟩ ⟨by omega, by omega⟩))
        ·
          obtain rfl : o = 5 := by omega
          obtain rfl : b = 0 := by omega
          exact .inr (.inr (i97 ⟨by omega, by omega⟩ ⟨by omega, by omega⟩ ⟨by omega, by omega⟩))
    ·
      rcases (by omega : ((-9223372036854775808) ≤ i ∧ i ≤ (-1)) ∨ (0 ≤ i ∧ i ≤ 4095) ∨ (4096 ≤ i ∧ i ≤ 9223372036854775807)) with q | q | q
      ·
        obtain rfl : o = 5 := by omega
        exact .inr (.inr (i89 ⟨by omega, by omega⟩ ⟨by omega, by omega⟩ ⟨by omega, by omega⟩ ⟨by omega, by omega⟩))
      ·
        obtain rfl : o = 5 := by omega
        exact .inr (.inr (i90 ⟨by omega, by omega⟩ ⟨by omega, by omega⟩ ⟨by omega, by omega⟩ ⟨by omega, by omega⟩))
      ·
        obtain rfl : o = 5 := by omega
        exact .inr (.inr (i91 ⟨by omega, by omega⟩ ⟨by omega, by omega⟩ ⟨by omega, by omega⟩ ⟨by omega, by omega⟩))
  ·
    obtain rfl : o = 5 := by omega
    exact .inr (.inr (i85 ⟨by omega, by omega⟩ ⟨by omega, by omega⟩ ⟨by omega, by omega⟩ ⟨by omega, by omega⟩))
set_option maxHeartbeats 4000000 in
theorem right5 {a b c i : Int} (hv : V5 a b c i) : ∃ s, VC 5 a b c i s := by
  obtain ⟨ha, hb, hc, hi⟩ := hv
  obtain ⟨o, ho⟩ : ∃ o : Int, o = 5 := ⟨_, rfl⟩
  rw [← ho]
  rcases (by omega : (0 ≤ i ∧ i ≤ 9) ∨ (10 ≤ i ∧ i ≤ 99) ∨ (100 ≤ i ∧ i ≤ 999) ∨ (1000 ≤ i ∧ i ≤ 4095)) with q | q | q | q
  ·
    obtain rfl : o = 5 := by omega
    obtain rfl : b = 0 := by omega
    obtain rfl : c = 0 := by omega
    exact i100 ⟨by omega, by omega⟩ ⟨by omega, by omega⟩
  ·
    obtain rfl : o = 5 := by omega
    obtain rfl : b = 0 := by omega
    obtain rfl : c = 0 := by omega
    exact i101 ⟨by omega, by omega⟩ ⟨by omega, by omega⟩
  ·
    obtain rfl : o = 5 := by omega
    obtain rfl : b = 0 := by omega
    obtain rfl : c = 0 := by omega
    exact i102 ⟨by omega, by omega⟩ ⟨by omega, by omega⟩
  ·
    obtain rfl : o = 5 := by omega
    obtain rfl : b = 0 := by omega
    obtain rfl : c = 0 := by omega
    exact i103 ⟨by omega, by omega⟩ ⟨by omega, by omega⟩
set_option maxHeartbeats 4000000 in
theorem any6 {o a b c i : Int} (hop : 6 ≤ o ∧ o ≤ 6) (ho : -9223372036854775808 ≤ o ∧ o ≤ 9223372036854775807) (ha : -9223372036854775808 ≤ a ∧ a ≤ 9223372036854775807) (hb : -9223372036854775808 ≤ b ∧ b ≤ 9223372036854775807) (hc : -9223372036854775808 ≤ c ∧ c ≤ 9223372036854775807) (hi : -9223372036854775808 ≤ i ∧ i ≤ 9223372036854775807) : Ins o a b c i := by
  rcases (by omega : ((-9223372036854775808) ≤ a ∧ a ≤ (-1)) ∨ (0 ≤ a ∧ a ≤ 7) ∨ (8 ≤ a ∧ a ≤ 9223372036854775807)) with q | q | q
  ·
    obtain rfl : o = 6 := by omega
    exact .inr (.inr (i104 ⟨by omega, by omega⟩ ⟨by omega, by omega⟩ ⟨by omega, by omega⟩ ⟨by omega, by omega⟩))
  ·
    rcases (by omega : ((-9223372036854775808) ≤ b ∧ b ≤ (-1)) ∨ (0 ≤ b ∧ b ≤ 7) ∨ (8 ≤ b ∧ b ≤ 9223372036854775807)) with q | q | q
    ·
      obtain rfl : o = 6 := by omega
      exact .inr (.inr (i106 ⟨by omega, by omega⟩ ⟨by omega, by omega⟩ ⟨by omega, by omega⟩ ⟨by omega, by omega⟩))
    ·
      rcases (by omega : ((-9223372036854775808) ≤ c ∧ c ≤ (-1)) ∨ (0 ≤ c ∧ c ≤ 0) ∨ (1 ≤ c ∧ c ≤ 9223372036854775807)) with q | q | q
      ·
        rcases (by omega : ((-9223372036854775808) ≤ i ∧ i ≤ (-1)) ∨ (0 ≤ i ∧ i ≤ 4095) ∨ (4096 ≤ i ∧ i ≤ 9223372036854775807)) with q | q | q
        ·
          obtain rfl : o = 6 := by omega
          exact .inr (.inr (i108 ⟨by omega, by omega⟩ ⟨by omega, by omega⟩ ⟨by omega, by omega⟩ ⟨by omega, by omega⟩))
        ·
          obtain rfl : o = 6 := by omega
          exact .inr (.inr (i109 ⟨by omega, by omega⟩ ⟨by omega, by omega⟩ ⟨by omega, by omega⟩ ⟨by omega, by omega⟩))
        ·
          obtain rfl : o = 6 := by omega
          exact .inr (.inr (i110 ⟨by omega, by omega⟩ ⟨by omega, by omega⟩ ⟨by omega, by omega⟩ ⟨by omega, by omega⟩))
      ·
        rcases (by omega : ((-9223372036854775808) ≤ i ∧ i ≤ (-1)) ∨ (0 ≤ i ∧ i ≤ 9) ∨ (10 ≤ i ∧ i ≤ 99) ∨ (100 ≤ i ∧ i ≤ 999) ∨ (1000 ≤ i ∧ i ≤ 4095) ∨ (4096 ≤ i ∧ i ≤ 9223372036854775807)) with q | q | q | q | q | q
        ·
          obtain rfl : o = 6 := by omega
          obtain rfl : c = 0 := by omega
          exact .inr (.inr (i114 ⟨by omega, by omega⟩ ⟨by omega, by omega⟩ ⟨by omega, by omega⟩))
        ·
          obtain rfl : o = 6 := by omega
          obtain rfl : c = 0 := by omega
          exact .inl (i116 ⟨by omega, by omega⟩ ⟨by omega, by omega⟩ ⟨by omega, by omega⟩)
        ·
          obtain rfl : o = 6 := by omega
          obtain rfl : c = 0 := by omega
          exact .inl (i117 ⟨by omega, by omega⟩ ⟨by omega, by omega⟩ ⟨by omega, by omega⟩)
        ·
          obtain rfl : o = 6 := by omega
          obtain rfl : c = 0 := by omega
          exact .inl (i118 ⟨by omega, by omega⟩ ⟨by omega, by omega⟩ ⟨by omega, by omega⟩)
        ·
          obtain rfl : o = 6 := by omega
          obtain rfl : c = 0 := by omega
          exact .inl (i119 ⟨by omega, by omega⟩ ⟨by omega, by omega⟩ ⟨by omega, by omega⟩)
        ·
          obtain rfl : o = 6 := by omega
          obtain rfl : c = 0 := by omega
          exact .inr (.inr (i115 ⟨by omega, by omega⟩ ⟨by omega, by omega⟩ ⟨by omega, by omega⟩))
      ·
        rcases (by omega : ((-9223372036854775808) ≤ i ∧ i ≤ (-1)) ∨ (0 ≤ i ∧ i ≤ 4095) ∨ (4096 ≤ i ∧ i ≤ 9223372036854775807)) with q | q | q
        ·
          obtain rfl : o = 6 := by omega
          exact .inr (.inr (i111 ⟨by omega, by omega⟩ ⟨by omega, by omega⟩ ⟨by omega, by omega⟩ ⟨by omega, by omega⟩))
        ·
          obtain rfl : o = 6 := by omega
          exact .inr (.inr (i112 ⟨by omega, by omega⟩ ⟨by omega, by omega⟩ ⟨by omega, by omega⟩ ⟨by omega, by omega⟩))
        ·
          obtain rfl : o = 6 := by omega
          exact .inr (.inr (i113 ⟨by omega, by omega⟩ ⟨by omega, by omega⟩ ⟨by omega, by omega⟩ ⟨by omega, by omega⟩))
    ·
      obtain rfl : o = 6 := by omega
      exact .inr (.inr (i107 ⟨by omega, by omega⟩ ⟨by omega, by omega⟩ ⟨by omega, by omega⟩ ⟨by omega, by omega⟩))
  ·
    obtain rfl : o = 6 := by omega
    exact .inr (.inr (i105 ⟨by omega, by omega⟩ ⟨by omega, by omega⟩ ⟨by omega, by omega⟩ ⟨by omega, by omega⟩))
set_option maxHeartbeats 4000000 in
theorem right6 {a b c i : Int} (hv : V6 a b c i) : ∃ s, VC 6 a b c i s := by
  obtain ⟨ha, hb, hc, hi⟩ := hv
  obtain ⟨o, ho⟩ : ∃ o : Int, o = 6 := ⟨_, rfl⟩
  rw [← ho]
  rcases (by omega : (0 ≤ i ∧ i ≤ 9) ∨ (10 ≤ i ∧ i ≤ 99) ∨ (100 ≤ i ∧ i ≤ 999) ∨ (1000 ≤ i ∧ i ≤ 4095)) with q | q | q | q
  ·
    obtain rfl : o = 6 := by omega
    obtain rfl : c = 0 := by omega
    exact i116 ⟨by omega, by omega⟩ ⟨by omega, by omega⟩ ⟨by omega, by omega⟩
  ·
    obtain rfl : o = 6 := by omega
    obtain rfl : c = 0 := by omega
    exact i117 ⟨by omega, by omega⟩ ⟨by omega, by omega⟩ ⟨by omega, by omega⟩
  ·
    obtain rfl : o = 6 := by omega
    obtain rfl : c = 0 := by omega
    exact i118 ⟨by omega, by omega⟩ ⟨by omega, by omega⟩ ⟨by omega, by omega⟩
  ·
    obtain rfl : o = 6 := by omega
    obtain rfl : c = 0 := by omega
    exact i119 ⟨by omega, by omega⟩ ⟨by omega, by omega⟩ ⟨by omega, by omega⟩
set_option maxHeartbeats 4000000 in
theorem any7 {o a b c i : Int} (hop : 7 ≤ o ∧ o ≤ 7) (ho : -9223372036854775808 ≤ o ∧ o ≤ 9223372036854775807) (ha : -9223372036854775808 ≤ a ∧ a ≤ 9223372036854775807) (hb : -9223372036854775808 ≤ b ∧ b ≤ 9223372036854775807) (hc : -9223372036854775808 ≤ c ∧ c ≤ 9223372036854775807) (hi : -9223372036854775808 ≤ i ∧ i ≤ 9223372036854775807) : Ins o a b c i := by
  rcases (by omega : ((-9223372036854775808) ≤ a ∧ a ≤ (-1)) ∨ (0 ≤ a ∧ a ≤ 7) ∨ (8 ≤ a ∧ a ≤ 9223372036854775807)) with q | q | q
  ·
    obtain rfl : o = 7 := by omega
    exact .inr (.inr (i120 ⟨by omega, by omega⟩ ⟨by omega, by omega⟩ ⟨by omega, by omega⟩ ⟨by omega, by omega⟩))
  ·
    rcases (by omega : ((-9223372036854775808) ≤ b ∧ b ≤ (-1)) ∨ (0 ≤ b ∧ b ≤ 7) ∨ (8 ≤ b ∧ b ≤ 9223372036854775807)) with q | q | q
    ·
      obtain rfl : o = 7 := by omega
      exact .inr (.inr (i122 ⟨by omega, by omega⟩ ⟨by omega, by omega⟩ ⟨by omega, by omega⟩ ⟨by omega, by omega⟩))
    ·
      rcases (by omega : ((-9223372036854775808) ≤ c ∧ c ≤ (-1)) ∨ (0 ≤ c ∧ c ≤ 0) ∨ (1 ≤ c ∧ c ≤ 9223372036854775807)) with q | q | q
      ·
        rcases (by omega : ((-9223372036854775808) ≤ i ∧ i ≤ (-1)) ∨ (0 ≤ i ∧ i ≤ 4095) ∨ (4096 ≤ i ∧ i ≤ 9223372036854775807)) with q | q | q
        ·
          obtain rfl : o = 7 := by omega
          exact .inr (.inr (i124 ⟨by omega, by omega⟩ ⟨by omega, by omega⟩ ⟨by omega, by omega⟩ ⟨by omega, by omega⟩))
        ·
          obtain rfl : o = 7 := by omega
          exact .inr (.inr (i125 ⟨by omega, by omega⟩ ⟨by omega, by omega⟩ ⟨by omega, by omega⟩ ⟨by omega, by omega⟩))
        ·
          obtain rfl : o = 7 := by omega
          exact .inr (.inr (i126 ⟨by omega, by omega⟩ ⟨by omega, by omega⟩ ⟨by omega, by omega⟩ ⟨by omega, by omega⟩))
      ·
        rcases (by omega : ((-9223372036854775808) ≤ i ∧ i ≤ (-1)) ∨ (0 ≤ i ∧ i ≤ 9) ∨ (10 ≤ i ∧ i ≤ 99) ∨ (100 ≤ i ∧ i ≤ 999) ∨ (1000 ≤ i ∧ i ≤ 4095) ∨ (4096 ≤ i ∧ i ≤ 9223372036854775807)) with q | q | q | q | q | q
        ·
          obtain rfl : o = 7 := by omega
          obtain rfl : c = 0 := by omega
          exact .inr (.inr (i130 ⟨by omega, by omega⟩ ⟨by omega, by omega⟩ ⟨by omega, by omega⟩))
        ·
          obtain rfl : o = 7 := by omega
          obtain rfl : c = 0 := by omega
          exact .inl (i132 ⟨by omega, by omega⟩ ⟨by omega, by omega⟩ ⟨by omega, by omega⟩)
        ·
          obtain rfl : o = 7 := by omega
          obtain rfl : c = 0 := by omega
          exact .inl (i133 ⟨by omega, by omega⟩ ⟨by omega, by omega⟩ ⟨by omega, by omega⟩)
        ·
          obtain rfl : o = 7 := by omega
          obtain rfl : c = 0 := by omega
          exact .inl (i134 ⟨by omega, by omega⟩ ⟨by omega, by omega⟩ ⟨by omega, by omega⟩)
        ·
          obtain rfl : o = 7 := by omega
          obtain rfl : c = 0 := by omega
          exact .inl (i135 ⟨by omega, by omega⟩ ⟨by omega, by omega⟩ ⟨by omega, by omega⟩)
        ·
          obtain rfl : o = 7 := by omega
          obtain rfl : c = 0 := by omega
          exact .inr (.inr (i131 ⟨by omega, by omega⟩ ⟨by omega, by omega⟩ ⟨by omega, by omega⟩))
      ·
        rcases (by omega : ((-9223372036854775808) ≤ i ∧ i ≤ (-1)) ∨ (0 ≤ i ∧ i ≤ 4095) ∨ (4096 ≤ i ∧ i ≤ 9223372036854775807)) with q | q | q
        ·
          obtain rfl : o = 7 := by omega
          exact .inr (.inr (i127 ⟨by omega, by omega⟩ ⟨by omega, by omega⟩ ⟨by omega, by omega⟩ ⟨by omega, by omega⟩))
        ·
          obtain rfl : o = 7 := by omega
          exact .inr (.inr (i128 ⟨by omega, by omega⟩ ⟨by omega, by omega⟩ ⟨by omega, by omega⟩ ⟨by omega, by omega⟩))
        ·
          obtain rfl : o = 7 := by omega
          exact .inr (.inr (i129 ⟨by omega, by omega⟩ ⟨by omega, by omega⟩ ⟨by omega, by omega⟩ ⟨by omega, by omega⟩))
    ·
      obtain rfl : o = 7 := by omega
      exact .inr (.inr (i123 ⟨by omega, by omega⟩ ⟨by omega, by omega⟩ ⟨by omega, by omega⟩ ⟨by omega, by omega⟩))
  ·
    obtain rfl : o = 7 := by omega
    exact .inr (.inr (i121 ⟨by omega, by omega⟩ ⟨by omega, by omega⟩ ⟨by omega, by omega⟩ ⟨by omega, by omega⟩))
set_option maxHeartbeats 4000000 in
theorem right7 {a b c i : Int} (hv : V7 a b c i) : ∃ s, VC 7 a b c i s := by
  obtain ⟨ha, hb, hc, hi⟩ := hv
  obtain ⟨o, ho⟩ : ∃ o : Int, o = 7 := ⟨_, rfl⟩
  rw [← ho]
  rcases (by omega : (0 ≤ i ∧ i ≤ 9) ∨ (10 ≤ i ∧ i ≤ 99) ∨ (100 ≤ i ∧ i ≤ 999) ∨ (1000 ≤ i ∧ i ≤ 4095)) with q | q | q | q
  ·
    obtain rfl : o = 7 := by omega
    obtain rfl : c = 0 := by omega
    exact i132 ⟨by omega, by omega⟩ ⟨by omega, by omega⟩ ⟨by omega, by omega⟩
  ·
    obtain rfl : o = 7 := by omega
    obtain rfl : c = 0 := by omega
    exact i133 ⟨by omega, by omega⟩ ⟨by omega, by omega⟩ ⟨by omega, by omega⟩
  ·
    obtain rfl : o = 7 := by omega
    obtain rfl : c = 0 := by omega
    exact i134 ⟨by omega, by omega⟩ ⟨by omega, by omega⟩ ⟨by omega, by omega⟩
  ·
    obtain rfl : o = 7 := by omega
    obtain rfl : c = 0 := by omega
    exact i135 ⟨by omega, by omega⟩ ⟨by omega, by omega⟩ ⟨by omega, by omega⟩
set_option maxHeartbeats 4000000 in
theorem any8 {o a b c i : Int} (hop : 8 ≤ o ∧ o ≤ 8) (ho : -9223372036854775808 ≤ o ∧ o ≤ 9223372036854775807) (ha : -9223372036854775808 ≤ a ∧ a ≤ 9223372036854775807) (hb : -9223372036854775808 ≤ b ∧ b ≤ 9223372036854775807) (hc : -9223372036854775808 ≤ c ∧ c ≤ 9223372036854775807) (hi : -9223372036854775808 ≤ i ∧ i ≤ 9223372036854775807) : Ins o a b c i := by
  rcases (by omega : ((-9223372036854775808) ≤ a ∧ a ≤ (-1)) ∨ (0 ≤ a ∧ a ≤ 15) ∨ (16 ≤ a ∧ a ≤ 9223372036854775807)) with q | q | q
  ·
    obtain rfl : o = 8 := by omega
    exact .inr (.inr (i136 ⟨by omega, by omega⟩ ⟨by omega, by omega⟩ ⟨by omega, by omega⟩ ⟨by omega, by omega⟩))
  ·
    rcases (by omega : ((-9223372036854775808) ≤ b ∧ b ≤ (-1)) ∨ (0 ≤ b ∧ b ≤ 15) ∨ (16 ≤ b ∧ b ≤ 9223372036854775807)) with q | q | q
    ·
      obtain rfl : o = 8 := by omega
      exact .inr (.inr (i138 ⟨by omega, by omega⟩ ⟨by omega, by omega⟩ ⟨by omega, by omega⟩ ⟨by omega, by omega⟩))
    ·
      rcases (by omega : ((-9223372036854775808) ≤ c ∧ c ≤ (-1)) ∨ (0 ≤ c ∧ c ≤ 0) ∨ (1 ≤ c ∧ c ≤ 9223372036854775807)) with q | q | q
      ·
        rcases (by omega : ((-9223372036854775808) ≤ i ∧ i ≤ (-1)) ∨ (0 ≤ i ∧ i ≤ 0) ∨ (1 ≤ i ∧ i ≤ 9223372036854775807)) with q | q | q
        ·
          obtain rfl : o = 8 := by omega
          exact .inr (.inr (i140 ⟨by omega, by omega⟩ ⟨by omega, by omega⟩ ⟨by omega, by omega⟩ ⟨by omega, by omega⟩))
        ·
          obtain rfl : o = 8 := by omega
          obtain rfl : i = 0 := by omega
          exact .inr (.inr (i141 ⟨by omega, by omega⟩ ⟨by omega, by omega⟩ ⟨by omega, by omega⟩))
        ·
          obtain rfl : o = 8 := by omega
          exact .inr (.inr (i142 ⟨by omega, by omega⟩ ⟨by omega, by omega⟩ ⟨by omega, by omega⟩ ⟨by omega, by omega⟩))
      ·
        rcases (by omega : ((-9223372036854775808) ≤ i ∧ i ≤ (-1)) ∨ (0 ≤ i ∧ i ≤ 0) ∨ (1 ≤ i ∧ i ≤ 9223372036854775807)) with q | q | q
        ·
          obtain rfl : o = 8 := by omega
          obtain rfl : c = 0 := by omega
          exact .inr (.inr (i146 ⟨by omega, by omega⟩ ⟨by omega, by omega⟩ ⟨by omega, by omega⟩))
        ·
          rcases (by omega : (0 ≤ a ∧ a ≤ 9) ∨ (10 ≤ a ∧ a ≤ 15)) with q | q
          ·
            rcases (by omega : (0 ≤ b ∧ b ≤ 9) ∨ (10 ≤ b ∧ b ≤ 15)) with q | q
            ·
              obtain rfl : o = 8 := by omega
              obtain rfl : c = 0 := by omega
              obtain rfl : i = 0 := by omega
              exact .inl (i148 ⟨by omega, by omega⟩ ⟨by omega, by omega⟩)
            ·
              obtain rfl : o = 8 := by omega
              obtain rfl : c = 0 := by omega
              obtain rfl : i = 0 := by omega
              exact .inl (i149 ⟨by omega, by omega⟩ ⟨by omega, by omega⟩)
          ·
            rcases (by omega : (0 ≤ b ∧ b ≤ 9) ∨ (10 ≤ b ∧ b ≤ 15)) with q | q
            ·
              obtain rfl : o = 8 := by omega
              obtain rfl : c = 0 := by omega
              obtain rfl : i = 0 := by omega
              exact .inl (i150 ⟨by omega, by omega⟩ ⟨by omega, by omega⟩)
            ·
              obtain rfl : o = 8 := by omega
              obtain rfl : c = 0 := by omega
              obtain rfl : i = 0 := by omega
              exact .inl (i151 ⟨by omega, by omega⟩ ⟨by omega, by omega⟩)
        ·
          obtain rfl : o = 8 := by omega
          obtain rfl : c = 0 := by omega
          exact .inr (.inr (i147 ⟨by omega, by omega⟩ ⟨by omega, by omega⟩ ⟨by omega, by omega⟩))
      ·
        rcases (by omega : ((-9223372036854775808) ≤ i ∧ i ≤ (-1)) ∨ (0 ≤ i ∧ i ≤ 0) ∨ (1 ≤ i ∧ i ≤ 9223372036854775807)) with q | q | q
        ·
          obtain rfl : o = 8 := by omega
          exact .inr (.inr (i143 ⟨by omega, by omega⟩ ⟨by omega, by omega⟩ ⟨by omega, by omega⟩ ⟨by omega, by omega⟩))
        ·
          obtain rfl : o = 8 := by omega
          obtain rfl : i = 0 := by omega
          exact .inr (.inr (i144 ⟨by omega, by omega⟩ ⟨by omega, by omega⟩ ⟨by omega, by omega⟩))
        ·
          obtain rfl : o = 8 := by omega
          exact .inr (.inr (i145 ⟨by omega, by omega⟩ ⟨by omega, by omega⟩ ⟨by omega, by omega⟩ ⟨by omega, by omega⟩))
    ·
      obtain rfl : o = 8 := by omega
      exact .inr (.inr (i139 ⟨by omega, by omega⟩ ⟨by omega, by omega⟩ ⟨by omega, by omega⟩ ⟨by omega, by omega⟩))
  ·
    obtain rfl : o = 8 := by omega
    exact .inr (.inr (i137 ⟨by omega, by omega⟩ ⟨by omega, by omega⟩ ⟨by omega, by omega⟩ ⟨by omega, by omega⟩))
set_option maxHeartbeats 4000000 in
theorem right8 {a b c i : Int} (hv : V8 a b c i) : ∃ s, VC 8 a b c i s := by
  obtain ⟨ha, hb, hc, hi⟩ := hv
  obtain ⟨o, ho⟩ : ∃ o : Int, o = 8 := ⟨_, rfl⟩
  rw [← ho]
  rcases (by omega : (0 ≤ a ∧ a ≤ 9) ∨ (10 ≤ a ∧ a ≤ 15)) with q | q
  ·
    rcases (by omega : (0 ≤ b ∧ b ≤ 9) ∨ (10 ≤ b ∧ b ≤ 15)) with q | q
    ·
      obtain rfl : o = 8 := by omega
      obtain rfl : c = 0 := by omega
      obtain rfl : i = 0 := by omega
      exact i148 ⟨by omega, by omega⟩ ⟨by omega, by omega⟩
    ·
      obtain rfl : o = 8 := by omega
      obtain rfl : c = 0 := by omega
      obtain rfl : i = 0 := by omega
      exact i149 ⟨by omega, by omega⟩ ⟨by omega, by omega⟩
  ·
    rcases (by omega : (0 ≤ b ∧ b ≤ 9) ∨ (10 ≤ b ∧ b ≤ 15)) with q | q
    ·
      obtain rfl : o = 8 := by omega
      obtain rfl : c = 0 := by omega
      obtain rfl : i = 0 := by omega
      exact i150 ⟨by omega, by omega⟩ ⟨by omega, by omega⟩
    ·
      obtain rfl : o = 8 := by omega
      obtain rfl : c = 0 := by omega
      obtain rfl : i = 0 := by omega
      exact i151 ⟨by omega, by omega⟩ ⟨by omega, by omega⟩
set_option maxHeartbeats 4000000 in
theorem any9 {o a b c i : Int} (hop : 9 ≤ o ∧ o ≤ 9) (ho : -9223372036854775808 ≤ o ∧ o ≤ 9223372036854775807) (ha : -9223372036854775808 ≤ a ∧ a ≤ 9223372036854775807) (hb : -9223372036854775808 ≤ b ∧ b ≤ 9223372036854775807) (hc : -9223372036854775808 ≤ c ∧ c ≤ 9223372036854775807) (hi : -9223372036854775808 ≤ i ∧ i ≤ 9223372036854775807) : Ins o a b c i := by
  rcases (by omega : ((-9223372036854775808) ≤ a ∧ a ≤ (-1)) ∨ (0 ≤ a ∧ a ≤ 15) ∨ (16 ≤ a ∧ a ≤ 9223372036854775807)) with q | q | q
  ·
    obtain rfl : o = 9 := by omega
    exact .inr (.inr (i152 ⟨by omega, by omega⟩ ⟨by omega, by omega⟩ ⟨by omega, by omega⟩ ⟨by omega, by omega⟩))
  ·
    rcases (by omega : ((-9223372036854775808) ≤ b ∧ b ≤ (-1)) ∨ (0 ≤ b ∧ b ≤ 7) ∨ (8 ≤ b ∧ b ≤ 9223372036854775807)) with q | q | q
    ·
      obtain rfl : o = 9 := by omega
      exact .inr (.inr (i154 ⟨by omega, by omega⟩ ⟨by omega, by omega⟩ ⟨by omega, by omega⟩ ⟨by omega, by omega⟩))
    ·
      rcases (by omega : ((-9223372036854775808) ≤ c ∧ c ≤ (-1)) ∨ (0 ≤ c ∧ c ≤ 0) ∨ (1 ≤ c ∧ c ≤ 9223372036854775807)) with q | q | q
      ·
        rcases (by omega : ((-9223372036854775808) ≤ i ∧ i ≤ (-1)) ∨ (0 ≤ i ∧ i ≤ 0) ∨ (1 ≤ i ∧ i ≤ 9223372036854775807)) with q | q | q
        ·
          obtain rfl : o = 9 := by omega
          exact .inr (.inr (i156 ⟨by omega, by omega⟩ ⟨by omega, by omega⟩ ⟨by omega, by omega⟩ ⟨by omega, by omega⟩))
        ·
          obtain rfl : o = 9 := by omega
          obtain rfl : i = 0 := by omega
          exact .inr (.inr (i157 ⟨by omega, by omega⟩ ⟨by omega, by omega⟩ ⟨by omega, by omega⟩))
        ·
          obtain rfl : o = 9 := by omega
          exact .inr (.inr (i158 ⟨by omega, by omega⟩ ⟨by omega, by omega⟩ ⟨by omega, by omega⟩ ⟨by omega, by omega⟩))
      ·
        rcases (by omega : ((-9223372036854775808) ≤ i ∧ i ≤ (-1)) ∨ (0 ≤ i ∧ i ≤ 0) ∨ (1 ≤ i ∧ i ≤ 9223372036854775807)) with q | q | q
        ·
          obtain rfl : o = 9 := by omega
          obtain rfl : c = 0 := by omega
          exact .inr (.inr (i162 ⟨by omega, by omega⟩ ⟨by omega, by omega⟩ ⟨by omega, by omega⟩))
        ·
          rcases (by omega : (0 ≤ a ∧ a ≤ 9) ∨ (10 ≤ a ∧ a ≤ 15)) with q | q
          ·
            obtain rfl : o = 9 := by omega
            obtain rfl : c = 0 := by omega
            obtain rfl : i = 0 := by omega
            exact .inl (i164 ⟨by omega, by omega⟩ ⟨by omega, by omega⟩)
          ·
            obtain rfl : o = 9 := by omega
            obtain rfl : c = 0 := by omega
            obtain rfl : i = 0 := by omega
            exact .inl (i165 ⟨by omega, by omega⟩ ⟨by omega, by omega⟩)
        ·
          obtain rfl : o = 9 := by omega
          obtain rfl : c = 0 := by omega
          exact .inr (.inr (i163 ⟨by omega, by omega⟩ ⟨by omega, by omega⟩ ⟨by omega, by omega⟩))
      ·
        rcases (by omega : ((-9223372036854775808) ≤ i ∧ i ≤ (-1)) ∨ (0 ≤ i ∧ i ≤ 0) ∨ (1 ≤ i ∧ i ≤ 9223372036854775807)) with q | q | q
        ·
          obtain rfl : o = 9 := by omega
          exact .inr (.inr (i159 ⟨by omega, by omega⟩ ⟨by omega, by omega⟩ ⟨by omega, by omega⟩ ⟨by omega, by omega⟩))
        ·
          obtain rfl : o = 9 := by omega
          obtain rfl : i = 0 := by omega
          exact .inr (.inr (i160 ⟨by omega, by omega⟩ ⟨by omega, by omega⟩ ⟨by omega, by omega⟩))
        ·
          obtain rfl : o = 9 := by omega
          exact .inr (.inr (i161 ⟨by omega, by omega⟩ ⟨by omega, by omega⟩ ⟨by omega, by omega⟩ ⟨by omega, by omega⟩))
    ·
      obtain rfl : o = 9 := by omega
      exact .inr (.inr (i155 ⟨by omega, by omega⟩ ⟨by omega, by omega⟩ ⟨by omega, by omega⟩ ⟨by omega, by omega⟩))
  ·
    obtain rfl : o = 9 := by omega
    exact .inr (.inr (i153 ⟨by omega, by omega⟩ ⟨by omega, by omega⟩ ⟨by omega, by omega⟩ ⟨by omega, by omega⟩))
set_option maxHeartbeats 4000000 in
theorem right9 {a b c i : Int} (hv : V9 a b c i) : ∃ s, VC 9 a b c i s := by
  obtain ⟨ha, hb, hc, hi⟩ := hv
  obtain ⟨o, ho⟩ : ∃ o : Int, o = 9 := ⟨_, rfl⟩
  rw [← ho]
  rcases (by omega : (0 ≤ a ∧ a ≤ 9) ∨ (10 ≤ a ∧ a ≤ 15)) with q | q
  ·
    obtain rfl : o = 9 := by omega
    obtain rfl : c = 0 := by omega
    obtain rfl : i = 0 := by omega
    exact i164 ⟨by omega, by omega⟩ ⟨by omega, by omega⟩
  ·
    obtain rfl : o = 9 := by omega
    obtain rfl : c = 0 := by omega
    obtain rfl : i = 0 := by omega
    exact i165 ⟨by omega, by omega⟩ ⟨by omega, by omega⟩
set_option maxHeartbeats 4000000 in
theorem any10 {o a b c i : Int} (hop : 10 ≤ o ∧ o ≤ 10) (ho : -9223372036854775808 ≤ o ∧ o ≤ 9223372036854775807) (ha : -9223372036854775808 ≤ a ∧ a ≤ 9223372036854775807) (hb : -9223372036854775808 ≤ b ∧ b ≤ 9223372036854775807) (hc : -9223372036854775808 ≤ c ∧ c ≤ 9223372036854775807) (hi : -9223372036854775808 ≤ i ∧ i ≤ 9223372036854775807) : Ins o a b c i := by
  rcases (by omega : ((-9223372036854775808) ≤ a ∧ a ≤ (-1)) ∨ (0 ≤ a ∧ a ≤ 7) ∨ (8 ≤ a ∧ a ≤ 9223372036854775807)) with q | q | q
  ·
    obtain rfl : o = 10 := by omega
    exact .inr (.inr (i166 ⟨by omega, by omega⟩ ⟨by omega, by omega⟩ ⟨by omega, by omega⟩ ⟨by omega, by omega⟩))
  ·
    rcases (by omega : ((-9223372036854775808) ≤ b ∧ b ≤ (-1)) ∨ (0 ≤ b ∧ b ≤ 15) ∨ (16 ≤ b ∧ b ≤ 9223372036854775807)) with q | q | q
    ·
      obtain rfl : o = 10 := by omega
      exact .inr (.inr (i168 ⟨by omega, by omega⟩ ⟨by omega, by omega⟩ ⟨by omega, by omega⟩ ⟨by omega, by omega⟩))
    ·
      rcases (by omega : ((-9223372036854775808) ≤ c ∧ c ≤ (-1)) ∨ (0 ≤ c ∧ c ≤ 0) ∨ (1 ≤ c ∧ c ≤ 9223372036854775807)) with q | q | q
      ·
        rcases (by omega : ((-9223372036854775808) ≤ i ∧ i ≤ (-1)) ∨ (0 ≤ i ∧ i ≤ 0) ∨ (1 ≤ i ∧ i ≤ 9223372036854775807)) with q | q | q
        ·
          obtain rfl : o = 10 := by omega
          exact .inr (.inr (i170 ⟨by omega, by omega⟩ ⟨by omega, by omega⟩ ⟨by omega, by omega⟩ ⟨by omega, by omega⟩))
        ·
          obtain rfl : o = 10 := by omega
          obtain rfl : i = 0 := by omega
          exact .inr (.inr (i171 ⟨by omega, by omega⟩ ⟨by omega, by omega⟩ ⟨by omega, by omega⟩))
        ·
          obtain rfl : o = 10 := by omega
          exact .inr (.inr (i172 ⟨by omega, by omega⟩ ⟨by omega, by omega⟩ ⟨by omega, by omega⟩ ⟨by omega, by omega⟩))
      ·
        rcases (by omega : ((-9223372036854775808) ≤ i ∧ i ≤ (-1)) ∨ (0 ≤ i ∧ i ≤ 0) ∨ (1 ≤ i ∧ i ≤ 9223372036854775807)) with q | q | q
        ·
          obtain rfl : o = 10 := by omega
          obtain rfl : c = 0 := by omega
          exact .inr (.inr (i176 ⟨by omega, by omega⟩ ⟨by omega, by omega⟩ ⟨by omega, by omega⟩))
        ·
          rcases (by omega : (0 ≤ b ∧ b ≤ 9) ∨ (10 ≤ b ∧ b ≤ 15)) with q | q
          ·
            obtain rfl : o = 10 := by omega
            obtain rfl : c = 0 := by omega
            obtain rfl : i = 0 := by omega
            exact .inl (i178 ⟨by omega, by omega⟩ ⟨by omega, by omega⟩)
          ·
            obtain rfl : o = 10 := by omega
            obtain rfl : c = 0 := by omega
            obtain rfl : i = 0 := by omega
            exact .inl (i179 ⟨by omega, by omega⟩ ⟨by omega, by omega⟩)
        ·
          obtain rfl : o = 10 := by omega
          obtain rfl : c = 0 := by omega
          exact .inr (.inr (i177 ⟨by omega, by omega⟩ ⟨by omega, by omega⟩ ⟨by omega, by omega⟩))
      ·
        rcases (by omega : ((-9223372036854775808) ≤ i ∧ i ≤ (-1)) ∨ (0 ≤ i ∧ i ≤ 0) ∨ (1 ≤ i ∧ i ≤ 9223372036854775807)) with q | q | q
        ·
          obtain rfl : o = 10 := by omega
          exact .inr (.inr (i173 ⟨by omega, by omega⟩ ⟨by omega, by omega⟩ ⟨by omega, by omega⟩ ⟨by omega, by omega⟩))
        ·
          obtain rfl : o = 10 := by omega
          obtain rfl : i = 0 := by omega
          exact .inr (.inr (i174 ⟨by omega, by omega⟩ ⟨by omega, by omega⟩ ⟨by omega, by omega⟩))
        ·
          obtain rfl : o = 10 := by omega
          exact .inr (.inr (i175 ⟨by omega, by omega⟩ ⟨by omega, by omega⟩ ⟨by omega, by omega⟩ ⟨by omega, by omega⟩))
    ·
      obtain rfl : o = 10 := by omega
      exact .inr (.inr (i169 ⟨by omega, by omega⟩ ⟨by omega, by omega⟩ ⟨by omega, by omega⟩ ⟨by omega, by omega⟩))
  ·
    obtain rfl : o = 10 := by omega
    exact .inr (.inr (i167 ⟨by omega, by omega⟩ ⟨by omega, by omega⟩ ⟨by omega, by omega⟩ ⟨by omega, by omega⟩))
set_option maxHeartbeats 4000000 in
theorem right10 {a b c i : Int} (hv : V10 a b c i) : ∃ s, VC 10 a b c i s := by
  obtain ⟨ha, hb, hc, hi⟩ := hv
  obtain ⟨o, ho⟩ : ∃ o : Int, o = 10 := ⟨_, rfl⟩
  rw [← ho]
  rcases (by omega : (0 ≤ b ∧ b ≤ 9) ∨ (10 ≤ b ∧ b ≤ 15)) with q | q
  ·
    obtain rfl : o = 10 := by omega
    obtain rfl : c = 0 := by omega
    obtain rfl : i = 0 := by omega
    exact i178 ⟨by omega, by omega⟩ ⟨by omega, by omega⟩
  ·
    obtain rfl : o = 10 := by omega
    obtain rfl : c = 0 := by omega
    obtain rfl : i = 0 := by omega
    exact i179 ⟨by omega, by omega⟩ ⟨by omega, by omega⟩
set_option maxHeartbeats 4000000 in
theorem any11 {o a b c i : Int} (hop : 11 ≤ o ∧ o ≤ 11) (ho : -9223372036854775808 ≤ o ∧ o ≤ 9223372036854775807) (ha : -9223372036854775808 ≤ a ∧ a ≤ 9223372036854775807) (hb : -9223372036854775808 ≤ b ∧ b ≤ 9223372036854775807) (hc : -9223372036854775808 ≤ c ∧ c ≤ 9223372036854775807) (hi : -9223372036854775808 ≤ i ∧ i ≤ 9223372036854775807) : Ins o a b c i := by
  rcases (by omega : ((-9223372036854775808) ≤ a ∧ a ≤ (-1)) ∨ (0 ≤ a ∧ a ≤ 2) ∨ (3 ≤ a ∧ a ≤ 9223372036854775807)) with q | q | q
  ·
    rcases (by omega : ((-9223372036854775808) ≤ b ∧ b ≤ (-1)) ∨ (0 ≤ b ∧ b ≤ 15) ∨ (16 ≤ b ∧ b ≤ 9223372036854775807)) with q | q | q
    ·
      obtain rfl : o = 11 := by omega
      exact .inr (.inr (i180 ⟨by omega, by omega⟩ ⟨by omega, by omega⟩ ⟨by omega, by omega⟩ ⟨by omega, by omega⟩))
    ·
      rcases (by omega : ((-9223372036854775808) ≤ c ∧ c ≤ (-1)) ∨ (0 ≤ c ∧ c ≤ 15) ∨ (16 ≤ c ∧ c ≤ 9223372036854775807)) with q | q | q
      ·
        obtain rfl : o = 11 := by omega
        exact .inr (.inr (i182 ⟨by omega, by omega⟩ ⟨by omega, by omega⟩ ⟨by omega, by omega⟩ ⟨by omega, by omega⟩))
      ·
        obtain rfl : o = 11 := by omega
        exact .inr (.inr (i184 ⟨by omega, by omega⟩ ⟨by omega, by omega⟩ ⟨by omega, by omega⟩ ⟨by omega, by omega⟩))
      ·
        obtain rfl : o = 11 := by omega
        exact .inr (.inr (i183 ⟨by omega, by omega⟩ ⟨by omega, by omega⟩ ⟨by omega, by omega⟩ ⟨by omega, by omega⟩))
    ·
      obtain rfl : o = 11 := by omega
      exact .inr (.inr (i181 ⟨by omega, by omega⟩ ⟨by omega, by omega⟩ ⟨by omega, by omega⟩ ⟨by omega, by omega⟩))
  ·
    rcases (by omega : ((-9223372036854775808) ≤ b ∧ b ≤ (-1)) ∨ (0 ≤ b ∧ b ≤ 15) ∨ (16 ≤ b ∧ b ≤ 9223372036854775807)) with q | q | q
    ·
      obtain rfl : o = 11 := by omega
      exact .inr (.inr (i190 ⟨by omega, by omega⟩ ⟨by omega, by omega⟩ ⟨by omega, by omega⟩ ⟨by omega, by omega⟩))
    ·
      rcases (by omega : ((-9223372036854775808) ≤ c ∧ c ≤ (-1)) ∨ (0 ≤ c ∧ c ≤ 15) ∨ (16 ≤ c ∧ c ≤ 9223372036854775807)) with q | q | q
      ·
        obtain rfl : o = 11 := by omega
        exact .inr (.inr (i192 ⟨by omega, by omega⟩ ⟨by omega, by omega⟩ ⟨by omega, by omega⟩ ⟨by omega, by omega⟩))
      ·
        rcases (by omega : ((-9223372036854775808) ≤ i ∧ i ≤ (-1)) ∨ (0 ≤ i ∧ i ≤ 0) ∨ (1 ≤ i ∧ i ≤ 9223372036854775807)) with q | q | q
        ·
          obtain rfl : o = 11 := by omega
          exact .inr (.inr (i194 ⟨by omega, by omega⟩ ⟨by omega, by omega⟩ ⟨by omega, by omega⟩ ⟨by omega, by omega⟩))
        ·
          rcases (by omega : (0 ≤ a ∧ a ≤ 0) ∨ (1 ≤ a ∧ a ≤ 1) ∨ (2 ≤ a ∧ a ≤ 2)) with q | q | q
          ·
            rcases (by omega : (0 ≤ b ∧ b ≤ 9) ∨ (10 ≤ b ∧ b ≤ 15)) with q | q
            ·
              rcases (by omega : (0 ≤ c ∧ c ≤ 9) ∨ (10 ≤ c ∧ c ≤ 15)) with q | q
              ·
                obtain rfl : o = 11 := by omega
                obtain rfl : a = 0 := by omega
                obtain rfl : i = 0 := by omega
                exact .inl (i196 ⟨by omega, by omega⟩ ⟨by omega, by omega⟩)
              ·
                obtain rfl : o = 11 := by omega
                obtain rfl : a = 0 := by omega
                obtain rfl : i = 0 := by omega
                exact .inl (i197 ⟨by omega, by omega⟩ ⟨by omega, by omega⟩)
            ·
              rcases (by omega : (0 ≤ c ∧ c ≤ 9) ∨ (10 ≤ c ∧ c ≤ 15)) with q | q
              ·
                obtain rfl : o = 11 := by omega
                obtain rfl : a = 0 := by omega
                obtain rfl : i = 0 := by omega
                exact .inl (i198 ⟨by omega, by omega⟩ ⟨by omega, by omega⟩)
              ·
                obtain rfl : o = 11 := by omega
                obtain rfl : a = 0 := by omega
                obtain rfl : i = 0 := by omega
                exact .inl (i199 ⟨by omega, by omega⟩ ⟨by omega, by omega⟩)
          ·
            rcases (by omega : (0 ≤ b ∧ b ≤ 9) ∨ (10 ≤ b ∧ b ≤ 15)) with q | q
            ·
              rcases (by omega : (0 ≤ c ∧ c ≤ 9) ∨ (10 ≤ c ∧ c ≤ 15)) with q | q
              ·
                obtain rfl : o = 11 := by omega
                obtain rfl : a = 1 := by omega
                obtain rfl : i = 0 := by omega
                exact .inl (i200 ⟨by omega, by omega⟩ ⟨by omega, by omega⟩)
              ·
                obtain rfl : o = 11 := by omega
                obtain rfl : a = 1 := by omega
                obtain rfl : i = 0 := by omega
                exact .inl (i201 ⟨by omega, by omega⟩ ⟨by omega, by omega⟩)
            ·
              rcases (by omega : (0 ≤ c ∧ c ≤ 9) ∨ (10 ≤ c ∧ c ≤ 15)) with q | q
              ·
                obtain rfl : o = 11 := by omega
                obtain rfl : a = 1 := by omega
                obtain rfl : i = 0 := by omega
                exact .inl (i202 ⟨by omega, by omega⟩ ⟨by omega, by omega⟩)
              ·
                obtain rfl : o = 11 := by omega
                obtain rfl : a = 1 := by omega
                obtain rfl : i = 0 := by omega
                exact .inl (i203 ⟨by omega, by omega⟩ ⟨by omega, by omega⟩)
          ·
            rcases (by omega : (0 ≤ b ∧ b ≤ 9) ∨ (10 ≤ b ∧ b ≤ 15)) with q | q
            ·
              rcases (by omega : (0 ≤ c ∧ c ≤ 9) ∨ (10 ≤ c ∧ c ≤ 15)) with q | q
              ·
                obtain rfl : o = 11 := by omega
                obtain rfl : a = 2 := by omega
                obtain rfl : i = 0 := by omega
                exact .inl (i204 ⟨by omega, by omega⟩ ⟨by omega, by omega⟩)
              ·
                obtain rfl : o = 11 := by omega
                obtain rfl : a = 2 := by omega
                obtain rfl : i = 0 := by omega
                exact .inl (i205 ⟨by omega, by omega⟩ ⟨by omega, by omega⟩)
            ·
              rcases (by omega : (0 ≤ c ∧ c ≤ 9) ∨ (10 ≤ c ∧ c ≤ 15)) with q | q
              ·
                obtain rfl : o = 11 := by omega
                obtain rfl : a = 2 := by omega
                obtain rfl : i = 0 := by omega
                exact .inl (i206 ⟨by omega, by omega⟩ ⟨by omega, by omega⟩)
              ·
                obtain rfl : o = 11 := by omega
                obtain rfl : a = 2 := by omega
                obtain rfl : i = 0 := by omega
                exact .inl (i207 ⟨by omega, by omega⟩ ⟨by omega, by omega⟩)
        ·
          obtain rfl : o = 11 := by omega
          exact .inr (.inr (i195 ⟨by omega, by omega⟩ ⟨by omega, by omega⟩ ⟨by omega, by omega⟩ ⟨by omega, by omega⟩))
      ·
        obtain rfl : o = 11 := by omega
        exact .inr (.inr (i193 ⟨by omega, by omega⟩ ⟨by omega, by omega⟩ ⟨by omega, by omega⟩ ⟨by omega, by omega⟩))
    ·
      obtain rfl : o = 11 := by omega
      exact .inr (.inr (i191 ⟨by omega, by omega⟩ ⟨by omega, by omega⟩ ⟨by omega, by omega⟩ ⟨by omega, by omega⟩))
  ·
    rcases (by omega : ((-9223372036854775808) ≤ b ∧ b ≤ (-1)) ∨ (0 ≤ b ∧ b ≤ 15) ∨ (16 ≤ b ∧ b ≤ 9223372036854775807)) with q | q | q
    ·
      obtain rfl : o = 11 := by omega
      exact .inr (.inr (i185 ⟨by omega, by omega⟩ ⟨by omega, by omega⟩ ⟨by omega, by omega⟩ ⟨by omega, by omega⟩))
    ·
      rcases (by omega : ((-9223372036854775808) ≤ c ∧ c ≤ (-1)) ∨ (0 ≤ c ∧ c ≤ 15) ∨ (16 ≤ c ∧ c ≤ 9223372036854775807)) with q | q | q
      ·
        obtain rfl : o = 11 := by omega
        exact .inr (.inr (i187 ⟨by omega, by omega⟩ ⟨by omega, by omega⟩ ⟨by omega, by omega⟩ ⟨by omega, by omega⟩))
      ·
        obtain rfl : o = 11 := by omega
        exact .inr (.inr (i189 ⟨by omega, by omega⟩ ⟨by omega, by omega⟩ ⟨by omega, by omega⟩ ⟨by omega, by omega⟩))
      ·
        obtain rfl : o = 11 := by omega
        exact .inr (.inr (i188 ⟨by omega, by omega⟩ ⟨by omega, by omega⟩ ⟨by omega, by omega⟩ ⟨by omega, by omega⟩))
    ·
      obtain rfl : o = 11 := by omega
      exact .inr (.inr (i186 ⟨by omega, by omega⟩ ⟨by omega, by omega⟩ ⟨by omega, by omega⟩ ⟨by omega, by omega⟩))
set_option maxHeartbeats 4000000 in
theorem right11 {a b c i : Int} (hv : V11 a b c i) : ∃ s, VC 11 a b c i s := by
  obtain ⟨ha, hb, hc, hi⟩ := hv
  obtain ⟨o, ho⟩ : ∃ o : Int, o = 11 := ⟨_, rfl⟩
  rw [← ho]
  rcases (by omega : (0 ≤ a ∧ a ≤ 0) ∨ (1 ≤ a ∧ a ≤ 1) ∨ (2 ≤ a ∧ a ≤ 2)) with q | q | q
  ·
    rcases (by omega : (0 ≤ b ∧ b ≤ 9) ∨ (10 ≤ b ∧ b ≤ 15)) with q | q
    ·
      rcases (by omega : (0 ≤ c ∧ c ≤ 9) ∨ (10 ≤ c ∧ c ≤ 15)) with q | q
      ·
        obtain rfl : o = 11 := by omega
        obtain rfl : a = 0 := by omega
        obtain rfl : i = 0 := by omega
        exact i196 ⟨by omega, by omega⟩ ⟨by omega, by omega⟩
      ·
        obtain rfl : o = 11 := by omega
        obtain rfl : a = 0 := by omega
        obtain rfl : i = 0 := by omega
        exact i197 ⟨by omega, by omega⟩ ⟨by omega, by omega⟩
    ·
      rcases (by omega : (0 ≤ c ∧ c ≤ 9) ∨ (10 ≤ c ∧ c ≤ 15)) with q | q
      ·
        obtain rfl : o = 11 := by omega
        obtain rfl : a = 0 := by omega
        obtain rfl : i = 0 := by omega
        exact i198 ⟨by omega, by omega⟩ ⟨by omega, by omega⟩
      ·
        obtain rfl : o = 11 := by omega
        obtain rfl : a = 0 := by omega
        obtain rfl : i = 0 := by omega
        exact i199 ⟨by omega, by omega⟩ ⟨by omega, by omega⟩
  ·
    rcases (by omega : (0 ≤ b ∧ b ≤ 9) ∨ (10 ≤ b ∧ b ≤ 15)) with q | q
    ·
      rcases (by omega : (0 ≤ c ∧ c ≤ 9) ∨ (10 ≤ c ∧ c ≤ 15)) with q | q
      ·
        obtain rfl : o = 11 := by omega
        obtain rfl : a = 1 := by omega
        obtain rfl : i = 0 := by omega
        exact i200 ⟨by omega, by omega⟩ ⟨by omega, by omega⟩
      ·
        obtain rfl : o = 11 := by omega
        obtain rfl : a = 1 := by omega
        obtain rfl : i = 0 := by omega
        exact i201 ⟨by omega, by omega⟩ ⟨by omega, by omega⟩
    ·
      rcases (by omega : (0 ≤ c ∧ c ≤ 9) ∨ (10 ≤ c ∧ c ≤ 15)) with q | q
      ·
        obtain rfl : o = 11 := by omega
        obtain rfl : a = 1 := by omega
        obtain rfl : i = 0 := by omega
        exact i202 ⟨by omega, by omega⟩ ⟨by omega, by omega⟩
      ·
        obtain rfl : o = 11 := by omega
        obtain rfl : a = 1 := by omega
        obtain rfl : i = 0 := by omega
        exact i203 ⟨by omega, by omega⟩ ⟨by omega, by omega⟩
  ·
    rcases (by omega : (0 ≤ b ∧ b ≤ 9) ∨ (10 ≤ b ∧ b ≤ 15)) with q | q
    ·
      rcases (by omega : (0 ≤ c ∧ c ≤ 9) ∨ (10 ≤ c ∧ c ≤ 15)) with q | q
      ·
        obtain rfl : o = 11 := by omega
        obtain rfl : a = 2 := by omega
        obtain rfl : i = 0 := by omega
        exact i204 ⟨by omega, by omega⟩ ⟨by omega, by omega⟩
      ·
        obtain rfl : o = 11 := by omega
        obtain rfl : a = 2 := by omega
        obtain rfl : i = 0 := by omega
        exact i205 ⟨by omega, by omega⟩ ⟨by omega, by omega⟩
    ·
      rcases (by omega : (0 ≤ c ∧ c ≤ 9) ∨ (10 ≤ c ∧ c ≤ 15)) with q | q
      ·
        obtain rfl : o = 11 := by omega
        obtain rfl : a = 2 := by omega
        obtain rfl : i = 0 := by omega
        exact i206 ⟨by omega, by omega⟩ ⟨by omega, by omega⟩
      ·
        obtain rfl : o = 11 := by omega
        obtain rfl : a = 2 := by omega
        obtain rfl : i = 0 := by omega
        exact i207 ⟨by omega, by omega⟩ ⟨by omega, by omega⟩
set_option maxHeartbeats 4000000 in
theorem any12 {o a b c i : Int} (hop : 12 ≤ o ∧ o ≤ 12) (ho : -9223372036854775808 ≤ o ∧ o ≤ 9223372036854775807) (ha : -9223372036854775808 ≤ a ∧ a ≤ 9223372036854775807) (hb : -9223372036854775808 ≤ b ∧ b ≤ 9223372036854775807) (hc : -9223372036854775808 ≤ c ∧ c ≤ 9223372036854775807) (hi : -9223372036854775808 ≤ i ∧ i ≤ 9223372036854775807) : Ins o a b c i := by
  rcases (by omega : ((-9223372036854775808) ≤ a ∧ a ≤ (-1)) ∨ (0 ≤ a ∧ a ≤ 0) ∨ (1 ≤ a ∧ a ≤ 9223372036854775807)) with q | q | q
  ·
    rcases (by omega : ((-9223372036854775808) ≤ i ∧ i ≤ (-1)) ∨ (0 ≤ i ∧ i ≤ 0) ∨ (1 ≤ i ∧ i ≤ 9223372036854775807)) with q | q | q
    ·
      obtain rfl : o = 12 := by omega
      exact .inr (.inr (i208 ⟨by omega, by omega⟩ ⟨by omega, by omega⟩ ⟨by omega, by omega⟩ ⟨by omega, by omega⟩))
    ·
      obtain rfl : o = 12 := by omega
      obtain rfl : i = 0 := by omega
      exact .inr (.inr (i209 ⟨by omega, by omega⟩ ⟨by omega, by omega⟩ ⟨by omega, by omega⟩))
    ·
      obtain rfl : o = 12 := by omega
      exact .inr (.inr (i210 ⟨by omega, by omega⟩ ⟨by omega, by omega⟩ ⟨by omega, by omega⟩ ⟨by omega, by omega⟩))
  ·
    rcases (by omega : ((-9223372036854775808) ≤ b ∧ b ≤ (-1)) ∨ (0 ≤ b ∧ b ≤ 0) ∨ (1 ≤ b ∧ b ≤ 9223372036854775807)) with q | q | q
    ·
      rcases (by omega : ((-9223372036854775808) ≤ i ∧ i ≤ (-1)) ∨ (0 ≤ i ∧ i ≤ 0) ∨ (1 ≤ i ∧ i ≤ 9223372036854775807)) with q | q | q
      ·
        obtain rfl : o = 12 := by omega
        obtain rfl : a = 0 := by omega
        exact .inr (.inr (i214 ⟨by omega, by omega⟩ ⟨by omega, by omega⟩ ⟨by omega, by omega⟩))
      ·
        obtain rfl : o = 12 := by omega
        obtain rfl : a = 0 := by omega
        obtain rfl : i = 0 := by omega
        exact .inr (.inr (i215 ⟨by omega, by omega⟩ ⟨by omega, by omega⟩))
      ·
        obtain rfl : o = 12 := by omega
        obtain rfl : a = 0 := by omega
        exact .inr (.inr (i216 ⟨by omega, by omega⟩ ⟨by omega, by omega⟩ ⟨by omega, by omega⟩))
    ·
      rcases (by omega : ((-9223372036854775808) ≤ c ∧ c ≤ (-1)) ∨ (0 ≤ c ∧ c ≤ 0) ∨ (1 ≤ c ∧ c ≤ 9223372036854775807)) with q | q | q
      ·
        rcases (by omega : ((-9223372036854775808) ≤ i ∧ i ≤ (-1)) ∨ (0 ≤ i ∧ i ≤ 0) ∨ (1 ≤ i ∧ i ≤ 9223372036854775807)) with q | q | q
        ·
          obtain rfl : o = 12 := by omega
          obtain rfl : a = 0 := by omega
          obtain rfl : b = 0 := by omega
          exact .inr (.inr (i220 ⟨by omega, by omega⟩ ⟨by omega, by omega⟩))
        ·
          obtain rfl : o = 12 := by omega
          obtain rfl : a = 0 := by omega
          obtain rfl : b = 0 := by omega
          obtain rfl : i = 0 := by omega
          exact .inr (.inr (i221 ⟨by omega, by omega⟩))
        ·
          obtain rfl : o = 12 := by omega
          obtain rfl : a = 0 := by omega
          obtain rfl : b = 0 := by omega
          exact .inr (.inr (i222 ⟨by omega, by omega⟩ ⟨by omega, by omega⟩))
      ·
        rcases (by omega : ((-9223372036854775808) ≤ i ∧ i ≤ (-1)) ∨ (0 ≤ i ∧ i ≤ 0) ∨ (1 ≤ i ∧ i ≤ 9223372036854775807)) with q | q | q
        ·
          obtain rfl : o = 12 := by omega
          obtain rfl : a = 0 := by omega
          obtain rfl : b = 0 := by omega
          obtain rfl : c = 0 := by omega
          exact .inr (.inr (i226 ⟨by omega, by omega⟩))
        ·
          obtain rfl : o = 12 := by omega
          obtain rfl : a = 0 := by omega
          obtain rfl : b = 0 := by omega
          obtain rfl : c = 0 := by omega
          obtain rfl : i = 0 := by omega
          exact .inl (i228 )
        ·
          obtain rfl : o = 12 := by omega
          obtain rfl : a = 0 := by omega
          obtain rfl : b = 0 := by omega
          obtain rfl : c = 0 := by omega
          exact .inr (.inr (i227 ⟨by omega, by omega⟩))
      ·
        rcases (by omega : ((-9223372036854775808) ≤ i ∧ i ≤ (-1)) ∨ (0 ≤ i ∧ i ≤ 0) ∨ (1 ≤ i ∧ i ≤ 9223372036854775807)) with q | q | q
        ·
          obtain rfl : o = 12 := by omega
          obtain rfl : a = 0 := by omega
          obtain rfl : b = 0 := by omega
          exact .inr (.inr (i223 ⟨by omega, by omega⟩ ⟨by omega, by omega⟩))
        ·
          obtain rfl : o = 12 := by omega
          obtain rfl : a = 0 := by omega
          obtain rfl : b = 0 := by omega
          obtain rfl : i = 0 := by omega
          exact .inr (.inr (i224 ⟨by omega, by omega⟩))
        ·
          obtain rfl : o = 12 := by omega
          obtain rfl : a = 0 := by omega
          obtain rfl : b = 0 := by omega
          exact .inr (.inr (i225 ⟨by omega, by omega⟩ ⟨by omega, by omega⟩))
    ·
      rcases (by omega : ((-9223372036854775808) ≤ i ∧ i ≤ (-1)) ∨ (0 ≤ i ∧ i ≤ 0) ∨ (1 ≤ i ∧ i ≤ 9223372036854775807)) with q | q | q
      ·
        obtain rfl : o = 12 := by omega
        obtain rfl : a = 0 := by omega
        exact .inr (.inr (i217 ⟨by omega, by omega⟩ ⟨by omega, by omega⟩ ⟨by omega, by omega⟩))
      ·
        obtain rfl : o = 12 := by omega
        obtain rfl : a = 0 := by omega
        obtain rfl : i = 0 := by omega
        exact .inr (.inr (i218 ⟨by omega, by omega⟩ ⟨by omega, by omega⟩))
      ·
        obtain rfl : o = 12 := by omega
        obtain rfl : a = 0 := by omega
        exact .inr (.inr (i219 ⟨by omega, by omega⟩ ⟨by omega, by omega⟩ ⟨by omega, by omega⟩))
  ·
    rcases (by omega : ((-9223372036854775808) ≤ i ∧ i ≤ (-1)) ∨ (0 ≤ i ∧ i ≤ 0) ∨ (1 ≤ i ∧ i ≤ 9223372036854775807)) with q | q | q
    ·
      obtain rfl : o = 12 := by omega
      exact .inr (.inr (i211 ⟨by omega, by omega⟩ ⟨by omega, by omega⟩ ⟨by omega, by omega⟩ ⟨by omega, by omega⟩))
    ·
      obtain rfl : o = 12 := by omega
      obtain rfl : i = 0 := by omega
      exact .inr (.inr (i212 ⟨by omega, by omega⟩ ⟨by omega, by omega⟩ ⟨by omega, by omega⟩))
    ·
      obtain rfl : o = 12 := by omega
      exact .inr (.inr (i213 ⟨by omega, by omega⟩ ⟨by omega, by omega⟩ ⟨by omega, by omega⟩ ⟨by omega, by omega⟩))
set_option maxHeartbeats 4000000 in
theorem right12 {a b c i : Int} (hv : V12 a b c i) : ∃ s, VC 12 a b c i s := by
  obtain ⟨ha, hb, hc, hi⟩ := hv
  obtain ⟨o, ho⟩ : ∃ o : Int, o = 12 := ⟨_, rfl⟩
  rw [← ho]
  obtain rfl : o = 12 := by omega
  obtain rfl : a = 0 := by omega
  obtain rfl : b = 0 := by omega
  obtain rfl : c = 0 := by omega
  obtain rfl : i = 0 := by omega
  exact i228 
set_option maxHeartbeats 4000000 in
theorem any13 {o a b c i : Int} (hop : 13 ≤ o ∧ o ≤ 13) (ho : -9223372036854775808 ≤ o ∧ o ≤ 9223372036854775807) (ha : -9223372036854775808 ≤ a ∧ a ≤ 9223372036854775807) (hb : -9223372036854775808 ≤ b ∧ b ≤ 9223372036854775807) (hc : -9223372036854775808 ≤ c ∧ c ≤ 9223372036854775807) (hi : -9223372036854775808 ≤ i ∧ i ≤ 9223372036854775807) : Ins o a b c i := by
  rcases (by omega : ((-9223372036854775808) ≤ a ∧ a ≤ (-1)) ∨ (0 ≤ a ∧ a ≤ 0) ∨ (1 ≤ a ∧ a ≤ 9223372036854775807)) with q | q | q
  ·
    rcases (by omega : ((-9223372036854775808) ≤ i ∧ i ≤ (-1)) ∨ (0 ≤ i ∧ i ≤ 0) ∨ (1 ≤ i ∧ i ≤ 9223372036854775807)) with q | q | q
    ·
      obtain rfl : o = 13 := by omega
      exact .inr (.inr (i229 ⟨by omega, by omega⟩ ⟨by omega, by omega⟩ ⟨by omega, by omega⟩ ⟨by omega, by omega⟩))
    ·
      obtain rfl : o = 13 := by omega
      obtain rfl : i = 0 := by omega
      exact .inr (.inr (i230 ⟨by omega, by omega⟩ ⟨by omega, by omega⟩ ⟨by omega, by omega⟩))
    ·
      obtain rfl : o = 13 := by omega
      exact .inr (.inr (i231 ⟨by omega, by omega⟩ ⟨by omega, by omega⟩ ⟨by omega, by omega⟩ ⟨by omega, by omega⟩))
  ·
    rcases (by omega : ((-9223372036854775808) ≤ b ∧ b ≤ (-1)) ∨ (0 ≤ b ∧ b ≤ 0) ∨ (1 ≤ b ∧ b ≤ 9223372036854775807)) with q | q | q
    ·
      rcases (by omega : ((-9223372036854775808) ≤ i ∧ i ≤ (-1)) ∨ (0 ≤ i ∧ i ≤ 0) ∨ (1 ≤ i ∧ i ≤ 9223372036854775807)) with q | q | q
      ·
        obtain rfl : o = 13 := by omega
        obtain rfl : a = 0 := by omega
        exact .inr (.inr (i235 ⟨by omega, by omega⟩ ⟨by omega, by omega⟩ ⟨by omega, by omega⟩))
      ·
        obtain rfl : o = 13 := by omega
        obtain rfl : a = 0 := by omega
        obtain rfl : i = 0 := by omega
        exact .inr (.inr (i236 ⟨by omega, by omega⟩ ⟨by omega, by omega⟩))
      ·
        obtain rfl : o = 13 := by omega
        obtain rfl : a = 0 := by omega
        exact .inr (.inr (i237 ⟨by omega, by omega⟩ ⟨by omega, by omega⟩ ⟨by omega, by omega⟩))
    ·
      rcases (by omega : ((-9223372036854775808) ≤ c ∧ c ≤ (-1)) ∨ (0 ≤ c ∧ c ≤ 0) ∨ (1 ≤ c ∧ c ≤ 9223372036854775807)) with q | q | q
      ·
        rcases (by omega : ((-9223372036854775808) ≤ i ∧ i ≤ (-1)) ∨ (0 ≤ i ∧ i ≤ 0) ∨ (1 ≤ i ∧ i ≤ 9223372036854775807)) with q | q | q
        ·
          obtain rfl : o = 13 := by omega
          obtain rfl : a = 0 := by omega
          obtain rfl : b = 0 := by omega
          exact .inr (.inr (i241 ⟨by omega, by omega⟩ ⟨by omega, by omega⟩))
        ·
          obtain rfl : o = 13 := by omega
          obtain rfl : a = 0 := by omega
          obtain rfl : b = 0 := by omega
          obtain rfl : i = 0 := by omega
          exact .inr (.inr (i242 ⟨by omega, by omega⟩))
        ·
          obtain rfl : o = 13 := by omega
          obtain rfl : a = 0 := by omega
          obtain rfl : b = 0 := by omega
          exact .inr (.inr (i243 ⟨by omega, by omega⟩ ⟨by omega, by omega⟩))
      ·
        rcases (by omega : ((-9223372036854775808) ≤ i ∧ i ≤ (-1)) ∨ (0 ≤ i ∧ i ≤ 0) ∨ (1 ≤ i ∧ i ≤ 9223372036854775807)) with q | q | q
        ·
          obtain rfl : o = 13 := by omega
          obtain rfl : a = 0 := by omega
          obtain rfl : b = 0 := by omega
          obtain rfl : c = 0 := by omega
          exact .inr (.inr (i247 ⟨by omega, by omega⟩))
        ·
          obtain rfl : o = 13 := by omega
          obtain rfl : a = 0 := by omega
          obtain rfl : b = 0 := by omega
          obtain rfl : c = 0 := by omega
          obtain rfl : i = 0 := by omega
          exact .inl (i249 )
        ·
          obtain rfl : o = 13 := by omega
          obtain rfl : a = 0 := by omega
          obtain rfl : b = 0 := by omega
          obtain rfl : c = 0 := by omega
          exact .inr (.inr (i248 ⟨by omega, by omega⟩))
      ·
        rcases (by omega : ((-9223372036854775808) ≤ i ∧ i ≤ (-1)) ∨ (0 ≤ i ∧ i ≤ 0) ∨ (1 ≤ i ∧ i ≤ 9223372036854775807)) with q | q | q
        ·
          obtain rfl : o = 13 := by omega
          obtain rfl : a = 0 := by omega
          obtain rfl : b = 0 := by omega
          exact .inr (.inr (i244 ⟨by omega, by omega⟩ ⟨by omega, by omega⟩))
        ·
          obtain rfl : o = 13 := by omega
          obtain rfl : a = 0 := by omega
          obtain rfl : b = 0 := by omega
          obtain rfl : i = 0 := by omega
          exact .inr (.inr (i245 ⟨by omega, by omega⟩))
        ·
          obtain rfl : o = 13 := by omega
          obtain rfl : a = 0 := by omega
          obtain rfl : b = 0 := by omega
          exact .inr (.inr (i246 ⟨by omega, by omega⟩ ⟨by omega, by omega⟩))
    ·
      rcases (by omega : ((-9223372036854775808) ≤ i ∧ i ≤ (-1)) ∨ (0 ≤ i ∧ i ≤ 0) ∨ (1 ≤ i ∧ i ≤ 9223372036854775807)) with q | q | q
      ·
        obtain rfl : o = 13 := by omega
        obtain rfl : a = 0 := by omega
        exact .inr (.inr (i238 ⟨by omega, by omega⟩ ⟨by omega, by omega⟩ ⟨by omega, by omega⟩))
      ·
        obtain rfl : o = 13 := by omega
        obtain rfl : a = 0 := by omega
        obtain rfl : i = 0 := by omega
        exact .inr (.inr (i239 ⟨by omega, by omega⟩ ⟨by omega, by omega⟩))
      ·
        obtain rfl : o = 13 := by omega
        obtain rfl : a = 0 := by omega
        exact .inr (.inr (i240 ⟨by omega, by omega⟩ ⟨by omega, by omega⟩ ⟨by omega, by omega⟩))
  ·
    rcases (by omega : ((-9223372036854775808) ≤ i ∧ i ≤ (-1)) ∨ (0 ≤ i ∧ i ≤ 0) ∨ (1 ≤ i ∧ i ≤ 9223372036854775807)) with q | q | q
    ·
      obtain rfl : o = 13 := by omega
      exact .inr (.inr (i232 ⟨by omega, by omega⟩ ⟨by omega, by omega⟩ ⟨by omega, by omega⟩ ⟨by omega, by omega⟩))
    ·
      obtain rfl : o = 13 := by omega
      obtain rfl : i = 0 := by omega
      exact .inr (.inr (i233 ⟨by omega, by omega⟩ ⟨by omega, by omega⟩ ⟨by omega, by omega⟩))
    ·
      obtain rfl : o = 13 := by omega
      exact .inr (.inr (i234 ⟨by omega, by omega⟩ ⟨by omega, by omega⟩ ⟨by omega, by omega⟩ ⟨by omega, by omega⟩))
set_option maxHeartbeats 4000000 in
theorem right13 {a b c i : Int} (hv : V13 a b c i) : ∃ s, VC 13 a b c i s := by
  obtain ⟨ha, hb, hc, hi⟩ := hv
  obtain ⟨o, ho⟩ : ∃ o : Int, o = 13 := ⟨_, rfl⟩
  rw [← ho]
  obtain rfl : o = 13 := by omega
  obtain rfl : a = 0 := by omega
  obtain rfl : b = 0 := by omega
  obtain rfl : c = 0 := by omega
  obtain rfl : i = 0 := by omega
  exact i249 
set_option maxHeartbeats 4000000 in
theorem any14 {o a b c i : Int} (hop : 14 ≤ o ∧ o ≤ 9223372036854775807) (ho : -9223372036854775808 ≤ o ∧ o ≤ 9223372036854775807) (ha : -9223372036854775808 ≤ a ∧ a ≤ 9223372036854775807) (hb : -9223372036854775808 ≤ b ∧ b ≤ 9223372036854775807) (hc : -9223372036854775808 ≤ c ∧ c ≤ 9223372036854775807) (hi : -9223372036854775808 ≤ i ∧ i ≤ 9223372036854775807) : Ins o a b c i := by
  exact .inr (.inl (i251 ⟨by omega, by omega⟩ ⟨by omega, by omega⟩ ⟨by omega, by omega⟩ ⟨by omega, by omega⟩ ⟨by omega, by omega⟩))
theorem any {o a b c i : Int} (ho : -9223372036854775808 ≤ o ∧ o ≤ 9223372036854775807) (ha : -9223372036854775808 ≤ a ∧ a ≤ 9223372036854775807) (hb : -9223372036854775808 ≤ b ∧ b ≤ 9223372036854775807) (hc : -9223372036854775808 ≤ c ∧ c ≤ 9223372036854775807) (hi : -9223372036854775808 ≤ i ∧ i ≤ 9223372036854775807) : Ins o a b c i := by
  rcases (by omega : ((-9223372036854775808) ≤ o ∧ o ≤ 0) ∨ (1 ≤ o ∧ o ≤ 1) ∨ (2 ≤ o ∧ o ≤ 2) ∨ (3 ≤ o ∧ o ≤ 3) ∨ (4 ≤ o ∧ o ≤ 4) ∨ (5 ≤ o ∧ o ≤ 5) ∨ (6 ≤ o ∧ o ≤ 6) ∨ (7 ≤ o ∧ o ≤ 7) ∨ (8 ≤ o ∧ o ≤ 8) ∨ (9 ≤ o ∧ o ≤ 9) ∨ (10 ≤ o ∧ o ≤ 10) ∨ (11 ≤ o ∧ o ≤ 11) ∨ (12 ≤ o ∧ o ≤ 12) ∨ (13 ≤ o ∧ o ≤ 13) ∨ (14 ≤ o ∧ o ≤ 9223372036854775807)) with q | q | q | q | q | q | q | q | q | q | q | q | q | q | q
  · exact any0 q ho ha hb hc hi
  · exact any1 q ho ha hb hc hi
  · exact any2 q ho ha hb hc hi
  · exact any3 q ho ha hb hc hi
  · exact any4 q ho ha hb hc hi
  · exact any5 q ho ha hb hc hi
  · exact any6 q ho ha hb hc hi
  · exact any7 q ho ha hb hc hi
  · exact any8 q ho ha hb hc hi
  · exact any9 q ho ha hb hc hi
  · exact any10 q ho ha hb hc hi
  · exact any11 q ho ha hb hc hi
  · exact any12 q ho ha hb hc hi
  · exact any13 q ho ha hb hc hi
  · exact any14 q ho ha hb hc hi
/-- the parts of a word that is one -/
theorem parts {w : Int} (h : IsW w) : ∃ o a b c i s, w = radix o a b c i ∧ VC o a b c i s := by
  rcases h with ⟨a, b, c, i, h1, h2⟩ | ⟨a, b, c, i, h1, h2⟩ | ⟨a, b, c, i, h1, h2⟩ | ⟨a, b, c, i, h1, h2⟩ | ⟨a, b, c, i, h1, h2⟩ | ⟨a, b, c, i, h1, h2⟩ | ⟨a, b, c, i, h1, h2⟩ | ⟨a, b, c, i, h1, h2⟩ | ⟨a, b, c, i, h1, h2⟩ | ⟨a, b, c, i, h1, h2⟩ | ⟨a, b, c, i, h1, h2⟩ | ⟨a, b, c, i, h1, h2⟩ | ⟨a, b, c, i, h1, h2⟩
  · obtain ⟨s, hs⟩ := right1 h2
    exact ⟨1, a, b, c, i, s, h1, hs⟩
  · obtain ⟨s, hs⟩ := right2 h2
    exact ⟨2, a, b, c, i, s, h1, hs⟩
  · obtain ⟨s, hs⟩ := right3 h2
    exact ⟨3, a, b, c, i, s, h1, hs⟩
  · obtain ⟨s, hs⟩ := right4 h2
    exact ⟨4, a, b, c, i, s, h1, hs⟩
  · obtain ⟨s, hs⟩ := right5 h2
    exact ⟨5, a, b, c, i, s, h1, hs⟩
  · obtain ⟨s, hs⟩ := right6 h2
    exact ⟨6, a, b, c, i, s, h1, hs⟩
  · obtain ⟨s, hs⟩ := right7 h2
    exact ⟨7, a, b, c, i, s, h1, hs⟩
  · obtain ⟨s, hs⟩ := right8 h2
    exact ⟨8, a, b, c, i, s, h1, hs⟩
  · obtain ⟨s, hs⟩ := right9 h2
    exact ⟨9, a, b, c, i, s, h1, hs⟩
  · obtain ⟨s, hs⟩ := right10 h2
    exact ⟨10, a, b, c, i, s, h1, hs⟩
  · obtain ⟨s, hs⟩ := right11 h2
    exact ⟨11, a, b, c, i, s, h1, hs⟩
  · obtain ⟨s, hs⟩ := right12 h2
    exact ⟨12, a, b, c, i, s, h1, hs⟩
  · obtain ⟨s, hs⟩ := right13 h2
    exact ⟨13, a, b, c, i, s, h1, hs⟩
noncomputable def notDig (m : Nat) : Bool := match Nat.ble m 47 with
  | true => true
  | false => Nat.ble 58 m
/-- two patterns of texts that nothing fits both -/
noncomputable def confl : List Pc → List Pc → Bool
  | [], [] => false
  | [], _ :: _ => true
  | _ :: _, [] => true
  | p :: ps, q :: qs => match (match p, q with
      | .b m, .b n => match Nat.beq m n with
        | true => false
        | false => true
      | .b m, .d _ _ _ => notDig m
      | .d _ _ _, .b n => notDig n
      | .d _ _ _, .d _ _ _ => false) with
    | true => true
    | false => confl ps qs
theorem digV (σ : Nat → Int) (e : E) (k i : Nat) : 48 ≤ Pc.val σ (.d e k i) ∧ Pc.val σ (.d e k i) ≤ 57 := by
  simp only [Pc.val]
  have := Nat.mod_lt ((e.den σ).toNat / 10 ^ (k - 1 - i)) (show 10 > 0 by omega)
  omega
theorem notDig_ok {m : Nat} (h : notDig m = true) : m < 48 ∨ 57 < m := by
  unfold notDig at h
  split at h
  · rename_i e; have := bleN e; omega
  · have := bleN h; omega
theorem confl_ok {σ τ : Nat → Int} : ∀ {ps qs : List Pc}, confl ps qs = true → ps.map (Pc.val σ) ≠ qs.map (Pc.val τ)
  | [], [], h => by cases h
  | [], _ :: _, _ => by simp
  | _ :: _, [], _ => by simp
  | p :: ps, q :: qs, h => by
    intro he
    rw [List.map_cons, List.map_cons] at he
    obtain ⟨h1, h2⟩ := List.cons.inj he
    unfold confl at h
    split at h
    · rename_i hc
      cases p <;> cases q <;> simp only at hc
      · split at hc
        · cases hc
        · rename_i e
          exact beqF e h1
      · have := notDig_ok hc
        rename_i m e k i
        have d1 := (digV τ e k i).1
        have d2 := (digV τ e k i).2
        have h1 : m = Pc.val τ (.d e k i) := h1
        omega
      · have := notDig_ok hc
        rename_i e k i m
        have d1 := (digV σ e k i).1
        have d2 := (digV σ e k i).2
        have h1 : Pc.val σ (.d e k i) = m := h1
        omega
      · cases hc
    · exact confl_ok h h2
noncomputable def small : List Pc → Bool
  | [] => true
  | .b m :: l => Nat.ble m 255 && small l
  | .d _ _ _ :: l => small l
theorem small_ok {σ : Nat → Int} : ∀ {ps : List Pc}, small ps = true → ∀ m ∈ ps.map (Pc.val σ), m < 256
  | [], _ => by simp
  | .b m :: l, h => by
    simp only [small, Bool.and_eq_true] at h
    intro x hx
    rw [List.map_cons] at hx
    rcases List.mem_cons.1 hx with hx | hx
    · have h1 := bleN h.1
      have hx : x = m := hx
      omega
    · exact small_ok h.2 x hx
  | .d e k i :: l, h => by
    have h : small l = true := h
    intro x hx
    rw [List.map_cons] at hx
    rcases List.mem_cons.1 hx with rfl | hx
    · have := (digV σ e k i).2; omega
    · exact small_ok h x hx
theorem bytes_inj : ∀ {l m : List Nat}, (∀ x ∈ l, x < 256) → (∀ x ∈ m, x < 256) → l.map UInt8.ofNat = m.map UInt8.ofNat → l = m
  | [], [], _, _, _ => rfl
  | [], _ :: _, _, _, h => by simp at h
  | _ :: _, [], _, _, h => by simp at h
  | x :: l, y :: m, h1, h2, h => by
    rw [List.map_cons, List.map_cons] at h
    obtain ⟨e1, e2⟩ := List.cons.inj h
    have a1 := h1 x List.mem_cons_self
    have a2 := h2 y List.mem_cons_self
    have e3 : x = y := by
      have := congrArg UInt8.toNat e1
      rw [UInt8.toNat_ofNat', UInt8.toNat_ofNat'] at this
      have b1 : x % 2 ^ 8 = x := Nat.mod_eq_of_lt (by omega)
      have b2 : y % 2 ^ 8 = y := Nat.mod_eq_of_lt (by omega)
      omega
    rw [e3, bytes_inj (fun x hx => h1 x (List.mem_cons_of_mem _ hx)) (fun x hx => h2 x (List.mem_cons_of_mem _ hx)) e2]
theorem bytesA_inj {l m : List Nat} (h1 : ∀ x ∈ l, x < 256) (h2 : ∀ x ∈ m, x < 256) (h : bytesA l = bytesA m) : l = m := by
  unfold bytesA at h
  have h := congrArg (fun s => s.data.toList) h
  exact bytes_inj h1 h2 (by simpa using h)
/-- the digits of a number are all there -/
noncomputable def hasD (j k t : Nat) : List Pc → Bool
  | [] => false
  | p :: l => match samePc p (.d (.var j) k t) with
    | true => true
    | false => hasD j k t l
theorem hasD_ok {σ τ : Nat → Int} {j k t : Nat} : ∀ {ps : List Pc}, hasD j k t ps = true → ps.map (Pc.val σ) = ps.map (Pc.val τ) → (σ j).toNat / 10 ^ (k - 1 - t) % 10 = (τ j).toNat / 10 ^ (k - 1 - t) % 10
  | [], h, _ => by cases h
  | p :: l, h, he => by
    rw [List.map_cons, List.map_cons] at he
    obtain ⟨h1, h2⟩ := List.cons.inj he
    unfold hasD at h
    split at h
    · rename_i e
      cases p with
      | b n => cases e
      | d e' k' i' =>
        simp only [samePc, Bool.and_eq_true] at e
        have q1 := eqE_eq e.1.1
        have q2 := beqN e.1.2
        have q3 := beqN e.2
        subst q1 q2 q3
        simp only [Pc.val, E.den] at h1
        omega
    · exact hasD_ok h h2
noncomputable def covJ (r : Rg) (ps : List Pc) (j : Nat) : Bool := match nthL r j with
  | some (lo, hi) => match eqI lo hi with
    | true => true
    | false => match ltI lo 0 with
      | true => false
      | false => (hasD j 1 0 ps && ltI hi 10) || ((hasD j 2 0 ps && hasD j 2 1 ps) && ltI hi 100) || (((hasD j 3 0 ps && hasD j 3 1 ps) && hasD j 3 2 ps) && ltI hi 1000) || (((hasD j 4 0 ps && hasD j 4 1 ps) && (hasD j 4 2 ps && hasD j 4 3 ps)) && ltI hi 10000)
  | none => false
theorem covJ_ok {σ τ : Nat → Int} {r : Rg} {ps : List Pc} {j : Nat} (h : covJ r ps j = true) (hs : InRg r σ) (ht : InRg r τ) (he : ps.map (Pc.val σ) = ps.map (Pc.val τ)) : σ j = τ j := by
  unfold covJ at h
  split at h
  · rename_i lo hi hr
    rw [nthL_eq] at hr
    have a := hs j lo hi hr
    have b := ht j lo hi hr
    split at h
    · rename_i e
      rw [eqI_eq, decide_eq_true_iff] at e
      omega
    · split at h
      · cases h
      · rename_i e
        rw [ltI_eq, decide_eq_false_iff_not] at e
        obtain ⟨x, hx⟩ := Int.eq_ofNat_of_zero_le (show 0 ≤ σ j by omega)
        obtain ⟨y, hy⟩ := Int.eq_ofNat_of_zero_le (show 0 ≤ τ j by omega)
        simp only [Bool.or_eq_true, Bool.and_eq_true, ltI_eq, decide_eq_true_eq] at h
        have dg : ∀ k t, hasD j k t ps = true → x / 10 ^ (k - 1 - t) % 10 = y / 10 ^ (k - 1 - t) % 10 := fun k t hd => by
          have := hasD_ok hd he
          rw [hx, hy] at this
          exact this
        rw [hx, hy]
        rw [hx] at a
        rw [hy] at b
        rcases h with ((⟨d0, l⟩ | ⟨⟨d0, d1⟩, l⟩) | ⟨⟨⟨d0, d1⟩, d2⟩, l⟩) | ⟨⟨⟨d0, d1⟩, d2, d3⟩, l⟩
        · have e0 : x / 1 % 10 = y / 1 % 10 := dg 1 0 d0
          omega
        · have e0 : x / 10 % 10 = y / 10 % 10 := dg 2 0 d0
          have e1 : x / 1 % 10 = y / 1 % 10 := dg 2 1 d1
          omega
        · have e0 : x / 100 % 10 = y / 100 % 10 := dg 3 0 d0
          have e1 : x / 10 % 10 = y / 10 % 10 := dg 3 1 d1
          have e2 : x / 1 % 10 = y / 1 % 10 := dg 3 2 d2
          omega
        · have e0 : x / 1000 % 10 = y / 1000 % 10 := dg 4 0 d0
          have e1 : x / 100 % 10 = y / 100 % 10 := dg 4 1 d1
          have e2 : x / 10 % 10 = y / 10 % 10 := dg 4 2 d2
          have e3 : x / 1 % 10 = y / 1 % 10 := dg 4 3 d3
          omega
  · cases h
noncomputable def eqRg : Rg → Rg → Bool
  | [], [] => true
  | (a, b) :: l, (c, d) :: m => (eqI a c && eqI b d) && eqRg l m
  | _, _ => false
theorem eqRg_ok : ∀ {l m : Rg}, eqRg l m = true → l = m
  | [], [], _ => rfl
  | [], _ :: _, h => by cases h
  | _ :: _, [], h => by cases h
  | (a, b) :: l, (c, d) :: m, h => by
    simp only [eqRg, Bool.and_eq_true, eqI_eq, decide_eq_true_eq] at h
    rw [h.1.1, h.1.2, eqRg_ok h.2]
noncomputable def pairOk (k k' : Cls) : Bool := confl k.2 k'.2 || (eqRg k.1 k'.1 && samePs k.2 k'.2)
noncomputable def goodC (k : Cls) : Bool := (small k.2 && covJ k.1 k.2 0) && ((covJ k.1 k.2 1 && covJ k.1 k.2 2) && (covJ k.1 k.2 3 && covJ k.1 k.2 4))
theorem cls_good : allL goodC cls = true := by kernel_rfl
theorem cls_pairs : allL (fun k => allL (fun k' => pairOk k k') cls) cls = true := by kernel_rfl
theorem allL_mem {α : Type} {p : α → Bool} {l : List α} (h : allL p l = true) : ∀ x ∈ l, p x = true := by
  rw [allL_eq] at h
  exact fun x hx => List.all_eq_true.1 h x hx
theorem text_inj {o a b c i o' a' b' c' i' : Int} {s s' : ByteArray} (h : VC o a b c i s) (h' : VC o' a' b' c' i' s') (e : s = s') : o = o' ∧ a = a' ∧ b = b' ∧ c = c' ∧ i = i' := by
  obtain ⟨k, hk, hr, hs⟩ := h.cls
  obtain ⟨k', hk', hr', hs'⟩ := h'.cls
  have g := allL_mem cls_good k hk
  have g' := allL_mem cls_good k' hk'
  have pr := allL_mem (allL_mem cls_pairs k hk) k' hk'
  unfold goodC at g g'
  simp only [Bool.and_eq_true] at g g'
  have hb := bytesA_inj (small_ok g.1.1) (small_ok g'.1.1) (hs.symm.trans (e.trans hs'))
  unfold pairOk at pr
  rw [Bool.or_eq_true] at pr
  rcases pr with pr | pr
  · exact absurd hb (confl_ok pr)
  · simp only [Bool.and_eq_true] at pr
    have p1 := eqRg_ok pr.1
    have p2 := samePs_eq pr.2
    rw [← p2] at hb
    rw [← p1] at hr'
    exact ⟨covJ_ok g.1.2 hr hr' hb, covJ_ok g.2.1.1 hr hr' hb, covJ_ok g.2.1.2 hr hr' hb, covJ_ok g.2.2.1 hr hr' hb, covJ_ok g.2.2.2 hr hr' hb⟩
theorem word_inj {o a b c i o' a' b' c' i' : Int} {s s' : ByteArray} (h : VC o a b c i s) (h' : VC o' a' b' c' i' s') (e : radix o a b c i = radix o' a' b' c' i') : o = o' ∧ a = a' ∧ b = b' ∧ c = c' ∧ i = i' := by
  have b1 := h.bd
  have b2 := h'.bd
  simp only [radix] at e
  omega
end Go.Proofs.YtphhnhheedbjjaaDoor.codeBack
