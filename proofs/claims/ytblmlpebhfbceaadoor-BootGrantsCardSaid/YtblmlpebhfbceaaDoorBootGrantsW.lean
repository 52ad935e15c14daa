/- BootGrants returns true for every input, and the input reads as it did; the listed errors hold what the program text lays. -/
import Derived.Test.YtblmlpebhfbceaaDoorBgK0
import Derived.Test.YtblmlpebhfbceaaDoorBgK1
import Derived.Test.YtblmlpebhfbceaaDoorBgK2
import Derived.Test.YtblmlpebhfbceaaDoorBgK3
import Derived.Test.YtblmlpebhfbceaaDoorBgK4
import Derived.Test.YtblmlpebhfbceaaDoorBgK5x0
import Derived.Test.YtblmlpebhfbceaaDoorBgK5x1
import Derived.Test.YtblmlpebhfbceaaDoorBgK6x0
import Derived.Test.YtblmlpebhfbceaaDoorBgK6x1
import Derived.Test.YtblmlpebhfbceaaDoorBgK7x0
import Derived.Test.YtblmlpebhfbceaaDoorBgK7x1
import Derived.Test.YtblmlpebhfbceaaDoorBgK7x2
import Derived.Test.YtblmlpebhfbceaaDoorBgK7x3
import Derived.Test.YtblmlpebhfbceaaDoorBgK8
import Derived.Test.YtblmlpebhfbceaaDoorBgK9
import Derived.Test.YtblmlpebhfbceaaDoorBgK10
import Derived.Deep.DeepWitnessRowRef
import Derived.Lay
set_option linter.unusedVariables false
set_option linter.unusedSimpArgs false
set_option maxRecDepth 10000000
namespace Go.Proofs.YtblmlpebhfbceaaDoor.bootGrants
open Tk
open Go.ChangeShapes Go.WideShapes Go.ChangeAt Go.RowKit

theorem lay_out : laidOutB Tryd.prog = true := by kernel_rfl
theorem own : ownKnob Tryd.prog.godebug = none := by kernel_rfl
def sg (n1 : Int) (zs : List Int) : Nat → Int := fun i => if i = 0 then n1 else zs.getD (i - 1) 0
set_option maxHeartbeats 10000000 in
theorem walk (W : World) (v0 : Value) (hn0 : IsKeys W  v0) (n1 : Int) (hn1 : (Lit.int .i64 n1).wf = true) (hL : laidMetH Tryd.prog Rows.bootGrantsRow.laid W) : Calls Tryd.prog 3 #[v0, .int .i64 n1] W fun e w' => e = .returned (.bool true) ∧ Below W.heap.size W w' := by
  simp only [Lit.wf, Bool.and_eq_true, decide_eq_true_eq] at hn1
  have lo1 : -9223372036854775808 ≤ n1 := hn1.1
  have hi1 : n1 ≤ 9223372036854775807 := hn1.2
  obtain ⟨ads, s1, s2, s3⟩ := errs_sents hL
  rcases hn0 with rfl | ⟨a, len, cap, zs, rfl, hle, hz, hcell, hw⟩
  · have zs : List Int := []
    obtain ⟨ρ, R, g⟩ := start_skip (σ := (sg n1 zs)) s1 s2 s3 errs_all errs_lt
    have hrr : ∀ (i : Nat) (lo hi : Int), ([((-9223372036854775808), 9223372036854775807)] : List (Int × Int))[i]? = some (lo, hi) → lo ≤ (sg n1 zs) i ∧ (sg n1 zs) i ≤ hi := by
      intro i lo hi hr
      rcases i with _ | i
      · simp at hr
        obtain ⟨rfl, rfl⟩ := hr
        exact ⟨by show -9223372036854775808 ≤ n1; omega, by show n1 ≤ 9223372036854775807; omega⟩
      simp at hr
    have q1 : (n1 < 0) ∨ (n1 = 0) ∨ (n1 = 1) ∨ (1 < n1) := by omega
    rcases q1 with q1 | q1 | q1 | q1
    ·
      refine case0 hL ⟨hrr, ?_⟩ TabOk.nil R g (VRs.cons (vr_nil) (VRs.cons (by simp [VR, E.den, sg]) (VRs.nil)))
      · intro q a b t hm
        simp only [List.mem_cons, List.not_mem_nil, or_false, Prod.mk.injEq] at hm
        obtain ⟨rfl, rfl, rfl, rfl⟩ := hm
        simp [E.den, bopV, sg]
        try omega
    ·
      refine case1 hL ⟨hrr, ?_⟩ TabOk.nil R g (VRs.cons (vr_nil) (VRs.cons (by simp [VR, E.den, sg]) (VRs.nil)))
      · intro q a b t hm
        simp only [List.mem_cons, List.not_mem_nil, or_false, Prod.mk.injEq] at hm
        obtain ⟨rfl, rfl, rfl, rfl⟩ := hm
        simp [E.den, bopV, sg]
        try omega
    ·
      refine case2 hL ⟨hrr, ?_⟩ TabOk.nil R g (VRs.cons (vr_nil) (VRs.cons (by simp [VR, E.den, sg]) (VRs.nil)))
      · intro q a b t hm
        simp only [List.mem_cons, List.not_mem_nil, or_false, Prod.mk.injEq] at hm
        obtain ⟨rfl, rfl, rfl, rfl⟩ := hm
        simp [E.den, bopV, sg]
        try omega
    ·
      refine case3 hL ⟨hrr, ?_⟩ TabOk.nil R g (VRs.cons (vr_nil) (VRs.cons (by simp [VR, E.den, sg]) (VRs.nil)))
      · intro q a b t hm
        simp only [List.mem_cons, List.not_mem_nil, or_false, Prod.mk.injEq] at hm
        rcases hm with ⟨rfl, rfl, rfl, rfl⟩ | ⟨rfl, rfl, rfl, rfl⟩
        ·
          simp [E.den, bopV, sg]
          try omega
        ·
          simp [E.den, bopV, sg]
          try omega
  · rcases Nat.lt_or_ge 8 len with hb | hb
    · obtain ⟨m, rfl⟩ : ∃ m, len = m + 9 := ⟨len - 9, by omega⟩
      have hr := rowK (k := kk) (n := (m + 9) * 5) (m := cap * 5) (by omega) (by omega) hcell
      have hsp : a.spot = none := by rw [hr.spot]
      obtain ⟨ρ, R, g, hρ⟩ := start_name (σ := (sg n1 zs)) s1 s2 s3 errs_all errs_lt ⟨a.block, a.off, cap * 5⟩ hr.lt
      exact (case40 m) hL (Known2.nil _) TabOk.nil R g (VRs.cons (vr_list (sz := 5) hρ hsp hle) (VRs.cons (by simp [VR, E.den, sg]) (VRs.nil)))
    · have e : len = 0 ∨ len = 1 ∨ len = 2 ∨ len = 3 ∨ len = 4 ∨ len = 5 ∨ len = 6 ∨ len = 7 ∨ len = 8 := by omega
      rcases e with rfl | rfl | rfl | rfl | rfl | rfl | rfl | rfl | rfl
      · obtain ⟨ρ, R, g⟩ := start_skip (σ := (sg n1 zs)) s1 s2 s3 errs_all errs_lt
        have hrr : ∀ (i : Nat) (lo hi : Int), ([((-9223372036854775808), 9223372036854775807)] : List (Int × Int))[i]? = some (lo, hi) → lo ≤ (sg n1 zs) i ∧ (sg n1 zs) i ≤ hi := by
          intro i lo hi hr
          rcases i with _ | i
          · simp at hr
            obtain ⟨rfl, rfl⟩ := hr
            exact ⟨by show -9223372036854775808 ≤ n1; omega, by show n1 ≤ 9223372036854775807; omega⟩
          simp at hr
        have q2 : (n1 < 0) ∨ (n1 = 0) ∨ (n1 = 1) ∨ (1 < n1) := by omega
        rcases q2 with q2 | q2 | q2 | q2
        ·
          refine case4 hL ⟨hrr, ?_⟩ TabOk.nil R g (VRs.cons (vr_empty) (VRs.cons (by simp [VR, E.den, sg]) (VRs.nil)))
          · intro q a b t hm
            simp only [List.mem_cons, List.not_mem_nil, or_false, Prod.mk.injEq] at hm
            obtain ⟨rfl, rfl, rfl, rfl⟩ := hm
            simp [E.den, bopV, sg]
            try omega
        ·
          refine case5 hL ⟨hrr, ?_⟩ TabOk.nil R g (VRs.cons (vr_empty) (VRs.cons (by simp [VR, E.den, sg]) (VRs.nil)))
          · intro q a b t hm
            simp only [List.mem_cons, List.not_mem_nil, or_false, Prod.mk.injEq] at hm
            obtain ⟨rfl, rfl, rfl, rfl⟩ := hm
            simp [E.den, bopV, sg]
            try omega
        ·
          refine case6 hL ⟨hrr, ?_⟩ TabOk.nil R g (VRs.cons (vr_empty) (VRs.cons (by simp [VR, E.den, sg]) (VRs.nil)))
          · intro q a b t hm
            simp only [List.mem_cons, List.not_mem_nil, or_false, Prod.mk.injEq] at hm
            obtain ⟨rfl, rfl, rfl, rfl⟩ := hm
            simp [E.den, bopV, sg]
            try omega
        ·
          refine case7 hL ⟨hrr, ?_⟩ TabOk.nil R g (VRs.cons (vr_empty) (VRs.cons (by simp [VR, E.den, sg]) (VRs.nil)))
          · intro q a b t hm
            simp only [List.mem_cons, List.not_mem_nil, or_false, Prod.mk.injEq] at hm
            rcases hm with ⟨rfl, rfl, rfl, rfl⟩ | ⟨rfl, rfl, rfl, rfl⟩
            ·
              simp [E.den, bopV, sg]
              try omega
            ·
              simp [E.den, bopV, sg]
              try omega
      · have hr := rowK (k := kk) (n := (1) * 5) (m := cap * 5) (by omega) (by omega) hcell
        have hsp : a.spot = none := by rw [hr.spot]
        obtain ⟨ρ, R, g, hρ⟩ := start_row (σ := (sg n1 zs)) s1 s2 s3 errs_all errs_lt hr (row := kRow kk 1 5 0) (fun ρ => by rw [List.range_eq_range']; exact vrs_k (b := 1) (fun i => by simp [sg]) 5 0) (by decide)
        have hrr : ∀ (i : Nat) (lo hi : Int), ([((-9223372036854775808), 9223372036854775807), ((-9223372036854775808), 9223372036854775807), ((-9223372036854775808), 9223372036854775807), ((-9223372036854775808), 9223372036854775807), ((-9223372036854775808), 9223372036854775807), (0, 4294967295)] : List (Int × Int))[i]? = some (lo, hi) → lo ≤ (sg n1 zs) i ∧ (sg n1 zs) i ≤ hi := by
          intro i lo hi hr
          rcases i with _ | i
          · simp at hr
            obtain ⟨rfl, rfl⟩ := hr
            exact ⟨by show -9223372036854775808 ≤ n1; omega, by show n1 ≤ 9223372036854775807; omega⟩
          rcases i with _ | i
          · simp at hr
            obtain ⟨rfl, rfl⟩ := hr
            exact (show -9223372036854775808 ≤ zs.getD 0 0 ∧ zs.getD 0 0 ≤ 9223372036854775807 from Go.bounds_i64 (hw 0))
          rcases i with _ | i
          · simp at hr
            obtain ⟨rfl, rfl⟩ := hr
            exact (show -9223372036854775808 ≤ zs.getD 1 0 ∧ zs.getD 1 0 ≤ 9223372036854775807 from Go.bounds_i64 (hw 1))
          rcases i with _ | i
          · simp at hr
            obtain ⟨rfl, rfl⟩ := hr
            exact (show -9223372036854775808 ≤ zs.getD 2 0 ∧ zs.getD 2 0 ≤ 9223372036854775807 from Go.bounds_i64 (hw 2))
          rcases i with _ | i
          · simp at hr
            obtain ⟨rfl, rfl⟩ := hr
            exact (show -9223372036854775808 ≤ zs.getD 3 0 ∧ zs.getD 3 0 ≤ 9223372036854775807 from Go.bounds_i64 (hw 3))
          rcases i with _ | i
          · simp at hr
            obtain ⟨rfl, rfl⟩ := hr
            exact (show 0 ≤ zs.getD 4 0 ∧ zs.getD 4 0 ≤ 4294967295 from Go.bounds_u32 (hw 4))
          simp at hr
        have q3 : (n1 < 0) ∨ (n1 = 0) ∨ (n1 = 1) ∨ (1 < n1) := by omega
        rcases q3 with q3 | q3 | q3 | q3
        ·
          refine case8 hL ⟨hrr, ?_⟩ TabOk.nil R g (VRs.cons (vr_list (sz := 5) hρ hsp hle) (VRs.cons (by simp [VR, E.den, sg]) (VRs.nil)))
          · intro q a b t hm
            simp only [List.mem_cons, List.not_mem_nil, or_false, Prod.mk.injEq] at hm
            obtain ⟨rfl, rfl, rfl, rfl⟩ := hm
            simp [E.den, bopV, sg]
            try omega
        ·
          refine case9 hL ⟨hrr, ?_⟩ TabOk.nil R g (VRs.cons (vr_list (sz := 5) hρ hsp hle) (VRs.cons (by simp [VR, E.den, sg]) (VRs.nil)))
          · intro q a b t hm
            simp only [List.mem_cons, List.not_mem_nil, or_false, Prod.mk.injEq] at hm
            obtain ⟨rfl, rfl, rfl, rfl⟩ := hm
            simp [E.den, bopV, sg]
            try omega
        ·
          refine case10 hL ⟨hrr, ?_⟩ TabOk.nil R g (VRs.cons (vr_list (sz := 5) hρ hsp hle) (VRs.cons (by simp [VR, E.den, sg]) (VRs.nil)))
          · intro q a b t hm
            simp only [List.mem_cons, List.not_mem_nil, or_false, Prod.mk.injEq] at hm
            obtain ⟨rfl, rfl, rfl, rfl⟩ := hm
            simp [E.den, bopV, sg]
            try omega
        ·
          refine case11 hL ⟨hrr, ?_⟩ TabOk.nil R g (VRs.cons (vr_list (sz := 5) hρ hsp hle) (VRs.cons (by simp [VR, E.den, sg]) (VRs.nil)))
          · intro q a b t hm
            simp only [List.mem_cons, List.not_mem_nil, or_false, Prod.mk.injEq] at hm
            rcases hm with ⟨rfl, rfl, rfl, rfl⟩ | ⟨rfl, rfl, rfl, rfl⟩
            ·
              simp [E.den, bopV, sg]
              try omega
            ·
              simp [E.den, bopV, sg]
              try omega
      · have hr := rowK (k := kk) (n := (2) * 5) (m := cap * 5) (by omega) (by omega) hcell
        have hsp : a.spot = none := by rw [hr.spot]
        obtain ⟨ρ, R, g, hρ⟩ := start_row (σ := (sg n1 zs)) s1 s2 s3 errs_all errs_lt hr (row := kRow kk 1 10 0) (fun ρ => by rw [List.range_eq_range']; exact vrs_k (b := 1) (fun i => by simp [sg]) 10 0) (by decide)
        have hrr : ∀ (i : Nat) (lo hi : Int), ([((-9223372036854775808), 9223372036854775807), ((-9223372036854775808), 9223372036854775807), ((-9223372036854775808), 9223372036854775807), ((-9223372036854775808), 9223372036854775807), ((-9223372036854775808), 9223372036854775807), (0, 4294967295), ((-9223372036854775808), 9223372036854775807), ((-9223372036854775808), 9223372036854775807), ((-9223372036854775808), 9223372036854775807), ((-9223372036854775808), 9223372036854775807), (0, 4294967295)] : List (Int × Int))[i]? = some (lo, hi) → lo ≤ (sg n1 zs) i ∧ (sg n1 zs) i ≤ hi := by
          intro i lo hi hr
          rcases i with _ | i
          · simp at hr
            obtain ⟨rfl, rfl⟩ := hr
            exact ⟨by show -9223372036854775808 ≤ n1; omega, by show n1 ≤ 9223372036854775807; omega⟩
          rcases i with _ | i
          · simp at hr
            obtain ⟨rfl, rfl⟩ := hr
            exact (show -9223372036854775808 ≤ zs.getD 0 0 ∧ zs.getD 0 0 ≤ 9223372036854775807 from Go.bounds_i64 (hw 0))
          rcases i with _ | i
          · simp at hr
            obtain ⟨rfl, rfl⟩ := hr
            exact (show -9223372036854775808 ≤ zs.getD 1 0 ∧ zs.getD 1 0 ≤ 9223372036854775807 from Go.bounds_i64 (hw 1))
          rcases i with _ | i
          · simp at hr
            obtain ⟨rfl, rfl⟩ := hr
            exact (show -9223372036854775808 ≤ zs.getD 2 0 ∧ zs.getD 2 0 ≤ 9223372036854775807 from Go.bounds_i64 (hw 2))
          rcases i with _ | i
          · simp at hr
            obtain ⟨rfl, rfl⟩ := hr
            exact (show -9223372036854775808 ≤ zs.getD 3 0 ∧ zs.getD 3 0 ≤ 9223372036854775807 from Go.bounds_i64 (hw 3))
          rcases i with _ | i
          · simp at hr
            obtain ⟨rfl, rfl⟩ := hr
            exact (show 0 ≤ zs.getD 4 0 ∧ zs.getD 4 0 ≤ 4294967295 from Go.bounds_u32 (hw 4))
          rcases i with _ | i
          · simp at hr
            obtain ⟨rfl, rfl⟩ := hr
            exact (show -9223372036854775808 ≤ zs.getD 5 0 ∧ zs.getD 5 0 ≤ 9223372036854775807 from Go.bounds_i64 (hw 5))
          rcases i with _ | i
          · simp at hr
            obtain ⟨rfl, rfl⟩ := hr
            exact (show -9223372036854775808 ≤ zs.getD 6 0 ∧ zs.getD 6 0 ≤ 9223372036854775807 from Go.bounds_i64 (hw 6))
          rcases i with _ | i
          · simp at hr
            obtain ⟨rfl, rfl⟩ := hr
            exact (show -9223372036854775808 ≤ zs.getD 7 0 ∧ zs.getD 7 0 ≤ 9223372036854775807 from Go.bounds_i64 (hw 7))
          rcases i with _ | i
          · simp at hr
            obtain ⟨rfl, rfl⟩ := hr
            exact (show -9223372036854775808 ≤ zs.getD 8 0 ∧ zs.getD 8 0 ≤ 9223372036854775807 from Go.bounds_i64 (hw 8))
          rcases i with _ | i
          · simp at hr
            obtain ⟨rfl, rfl⟩ := hr
            exact (show 0 ≤ zs.getD 9 0 ∧ zs.getD 9 0 ≤ 4294967295 from Go.bounds_u32 (hw 9))
          simp at hr
        have q4 : (n1 < 0) ∨ (n1 = 0) ∨ (n1 = 1) ∨ (1 < n1) := by omega
        rcases q4 with q4 | q4 | q4 | q4
        ·
          refine case12 hL ⟨hrr, ?_⟩ TabOk.nil R g (VRs.cons (vr_list (sz := 5) hρ hsp hle) (VRs.cons (by simp [VR, E.den, sg]) (VRs.nil)))
          · intro q a b t hm
            simp only [List.mem_cons, List.not_mem_nil, or_false, Prod.mk.injEq] at hm
            obtain ⟨rfl, rfl, rfl, rfl⟩ := hm
            simp [E.den, bopV, sg]
            try omega
        ·
          refine case13 hL ⟨hrr, ?_⟩ TabOk.nil R g (VRs.cons (vr_list (sz := 5) hρ hsp hle) (VRs.cons (by simp [VR, E.den, sg]) (VRs.nil)))
          · intro q a b t hm
            simp only [List.mem_cons, List.not_mem_nil, or_false, Prod.mk.injEq] at hm
            obtain ⟨rfl, rfl, rfl, rfl⟩ := hm
            simp [E.den, bopV, sg]
            try omega
        ·
          refine case14 hL ⟨hrr, ?_⟩ TabOk.nil R g (VRs.cons (vr_list (sz := 5) hρ hsp hle) (VRs.cons (by simp [VR, E.den, sg]) (VRs.nil)))
          · intro q a b t hm
            simp only [List.mem_cons, List.not_mem_nil, or_false, Prod.mk.injEq] at hm
            obtain ⟨rfl, rfl, rfl, rfl⟩ := hm
            simp [E.den, bopV, sg]
            try omega
        ·
          refine case15 hL ⟨hrr, ?_⟩ TabOk.nil R g (VRs.cons (vr_list (sz := 5) hρ hsp hle) (VRs.cons (by simp [VR, E.den, sg]) (VRs.nil)))
          · intro q a b t hm
            simp only [List.mem_cons, List.not_mem_nil, or_false, Prod.mk.injEq] at hm
            rcases hm with ⟨rfl, rfl, rfl, rfl⟩ | ⟨rfl, rfl, rfl, rfl⟩
            ·
              simp [E.den, bopV, sg]
              try omega
            ·
              simp [E.den, bopV, sg]
              try omega
      · have hr := rowK (k := kk) (n := (3) * 5) (m := cap * 5) (by omega) (by omega) hcell
        have hsp : a.spot = none := by rw [hr.spot]
        obtain ⟨ρ, R, g, hρ⟩ := start_row (σ := (sg n1 zs)) s1 s2 s3 errs_all errs_lt hr (row := kRow kk 1 15 0) (fun ρ => by rw [List.range_eq_range']; exact vrs_k (b := 1) (fun i => by simp [sg]) 15 0) (by decide)
        have hrr : ∀ (i : Nat) (lo hi : Int), ([((-9223372036854775808), 9223372036854775807), ((-9223372036854775808), 9223372036854775807), ((-9223372036854775808), 9223372036854775807), ((-9223372036854775808), 9223372036854775807), ((-9223372036854775808), 9223372036854775807), (0, 4294967295), ((-9223372036854775808), 9223372036854775807), ((-9223372036854775808), 9223372036854775807), ((-9223372036854775808), 9223372036854775807), ((-9223372036854775808), 9223372036854775807), (0, 4294967295), ((-9223372036854775808), 9223372036854775807), ((-9223372036854775808), 9223372036854775807), ((-9223372036854775808), 9223372036854775807), ((-9223372036854775808), 9223372036854775807), (0, 4294967295)] : List (Int × Int))[i]? = some (lo, hi) → lo ≤ (sg n1 zs) i ∧ (sg n1 zs) i ≤ hi := by
          intro i lo hi hr
          rcases i with _ | i
          · simp at hr
            obtain ⟨rfl, rfl⟩ := hr
            exact ⟨by show -9223372036854775808 ≤ n1; omega, by show n1 ≤ 9223372036854775807; omega⟩
          rcases i with _ | i
          · simp at hr
            obtain ⟨rfl, rfl⟩ := hr
            exact (show -9223372036854775808 ≤ zs.getD 0 0 ∧ zs.getD 0 0 ≤ 9223372036854775807 from Go.bounds_i64 (hw 0))
          rcases i with _ | i
          · simp at hr
            obtain ⟨rfl, rfl⟩ := hr
            exact (show -9223372036854775808 ≤ zs.getD 1 0 ∧ zs.getD 1 0 ≤ 9223372036854775807 from Go.bounds_i64 (hw 1))
          rcases i with _ | i
          · simp at hr
            obtain ⟨rfl, rfl⟩ := hr
            exact (show -9223372036854775808 ≤ zs.getD 2 0 ∧ zs.getD 2 0 ≤ 9223372036854775807 from Go.bounds_i64 (hw 2))
          rcases i with _ | i
          · simp at hr
            obtain ⟨rfl, rfl⟩ := hr
            exact (show -9223372036854775808 ≤ zs.getD 3 0 ∧ zs.getD 3 0 ≤ 9223372036854775807 from Go.bounds_i64 (hw 3))
          rcases i with _ | i
          · simp at hr
            obtain ⟨rfl, rfl⟩ := hr
            exact (show 0 ≤ zs.getD 4 0 ∧ zs.getD 4 0 ≤ 4294967295 from Go.bounds_u32 (hw 4))
          rcases i with _ | i
          · simp at hr
            obtain ⟨rfl, rfl⟩ := hr
            exact (show -9223372036854775808 ≤ zs.getD 5 0 ∧ zs.getD 5 0 ≤ 9223372036854775807 from Go.bounds_i64 (hw 5))
          rcases i with _ | i
          · simp at hr
            obtain ⟨rfl, rfl⟩ := hr
            exact (show -9223372036854775808 ≤ zs.getD 6 0 ∧ zs.getD 6 0 ≤ 9223372036854775807 from Go.bounds_i64 (hw 6))
          rcases i with _ | i
          · simp at hr
            obtain ⟨rfl, rfl⟩ := hr
            exact (show -9223372036854775808 ≤ zs.getD 7 0 ∧ zs.getD 7 0 ≤ 9223372036854775807 from Go.bounds_i64 (hw 7))
          rcases i with _ | i
          · simp at hr
            obtain ⟨rfl, rfl⟩ := hr
            exact (show -9223372036854775808 ≤ zs.getD 8 0 ∧ zs.getD 8 0 ≤ 9223372036854775807 from Go.bounds_i64 (hw 8))
          rcases i with _ | i
          · simp at hr
            obtain ⟨rfl, rfl⟩ := hr
            exact (show 0 ≤ zs.getD 9 0 ∧ zs.getD 9 0 ≤ 4294967295 from Go.bounds_u32 (hw 9))
          rcases i with _ | i
          · simp at hr
            obtain ⟨rfl, rfl⟩ := hr
            exact (show -9223372036854775808 ≤ zs.getD 10 0 ∧ zs.getD 10 0 ≤ 9223372036854775807 from Go.bounds_i64 (hw 10))
          rcases i with _ | i
          · simp at hr
            obtain ⟨rfl, rfl⟩ := hr
            exact (show -9223372036854775808 ≤ zs.getD 11 0 ∧ zs.getD 11 0 ≤ 9223372036854775807 from Go.bounds_i64 (hw 11))
          rcases i with _ | i
          · simp at hr
            obtain ⟨rfl, rfl⟩ := hr
            exact (show -9223372036854775808 ≤ zs.getD 12 0 ∧ zs.getD 12 0 ≤ 9223372036854775807 from Go.bounds_i64 (hw 12))
          rcases i with _ | i
          · simp at hr
            obtain ⟨rfl, rfl⟩ := hr
            exact (show -9223372036854775808 ≤ zs.getD 13 0 ∧ zs.getD 13 0 ≤ 9223372036854775807 from Go.bounds_i64 (hw 13))
          rcases i with _ | i
          · simp at hr
            obtain ⟨rfl, rfl⟩ := hr
            exact (show 0 ≤ zs.getD 14 0 ∧ zs.getD 14 0 ≤ 4294967295 from Go.bounds_u32 (hw 14))
          simp at hr
        have q5 : (n1 < 0) ∨ (n1 = 0) ∨ (n1 = 1) ∨ (1 < n1) := by omega
        rcases q5 with q5 | q5 | q5 | q5
        ·
          refine case16 hL ⟨hrr, ?_⟩ TabOk.nil R g (VRs.cons (vr_list (sz := 5) hρ hsp hle) (VRs.cons (by simp [VR, E.den, sg]) (VRs.nil)))
          · intro q a b t hm
            simp only [List.mem_cons, List.not_mem_nil, or_false, Prod.mk.injEq] at hm
            obtain ⟨rfl, rfl, rfl, rfl⟩ := hm
            simp [E.den, bopV, sg]
            try omega
        ·
          refine case17 hL ⟨hrr, ?_⟩ TabOk.nil R g (VRs.cons (vr_list (sz := 5) hρ hsp hle) (VRs.cons (by simp [VR, E.den, sg]) (VRs.nil)))
          · intro q a b t hm
            simp only [List.mem_cons, List.not_mem_nil, or_false, Prod.mk.injEq] at hm
            obtain ⟨rfl, rfl, rfl, rfl⟩ := hm
            simp [E.den, bopV, sg]
            try omega
        ·
          refine case18 hL ⟨hrr, ?_⟩ TabOk.nil R g (VRs.cons (vr_list (sz := 5) hρ hsp hle) (VRs.cons (by simp [VR, E.den, sg]) (VRs.nil)))
          · intro q a b t hm
            simp only [List.mem_cons, List.not_mem_nil, or_false, Prod.mk.injEq] at hm
            obtain ⟨rfl, rfl, rfl, rfl⟩ := hm
            simp [E.den, bopV, sg]
            try omega
        ·
          refine case19 hL ⟨hrr, ?_⟩ TabOk.nil R g (VRs.cons (vr_list (sz := 5) hρ hsp hle) (VRs.cons (by simp [VR, E.den, sg]) (VRs.nil)))
          · intro q a b t hm
            simp only [List.mem_cons, List.not_mem_nil, or_false, Prod.mk.injEq] at hm
            rcases hm with ⟨rfl, rfl, rfl, rfl⟩ | ⟨rfl, rfl, rfl, rfl⟩
            ·
              simp [E.den, bopV, sg]
              try omega
            ·
              simp [E.den, bopV, sg]
              try omega
      · have hr := rowK (k := kk) (n := (4) * 5) (m := cap * 5) (by omega) (by omega) hcell
        have hsp : a.spot = none := by rw [hr.spot]
        obtain ⟨ρ, R, g, hρ⟩ := start_row (σ := (sg n1 zs)) s1 s2 s3 errs_all errs_lt hr (row := kRow kk 1 20 0) (fun ρ => by rw [List.range_eq_range']; exact vrs_k (b := 1) (fun i => by simp [sg]) 20 0) (by decide)
        have hrr : ∀ (i : Nat) (lo hi : Int), ([((-9223372036854775808), 9223372036854775807), ((-9223372036854775808), 9223372036854775807), ((-9223372036854775808), 9223372036854775807), ((-9223372036854775808), 9223372036854775807), ((-9223372036854775808), 9223372036854775807), (0, 4294967295), ((-9223372036854775808), 9223372036854775807), ((-9223372036854775808), 9223372036854775807), ((-9223372036854775808), 9223372036854775807), ((-9223372036854775808), 9223372036854775807), (0, 4294967295), ((-9223372036854775808), 9223372036854775807), ((-9223372036854775808), 9223372036854775807), ((-9223372036854775808), 9223372036854775807), ((-9223372036854775808), 9223372036854775807), (0, 4294967295), ((-9223372036854775808), 9223372036854775807), ((-9223372036854775808), 9223372036854775807), ((-9223372036854775808), 9223372036854775807), ((-9223372036854775808), 9223372036854775807), (0, 4294967295)] : List (Int × Int))[i]? = some (lo, hi) → lo ≤ (sg n1 zs) i ∧ (sg n1 zs) i ≤ hi := by
          intro i lo hi hr
          rcases i with _ | i
          · simp at hr
            obtain ⟨rfl, rfl⟩ := hr
            exact ⟨by show -9223372036854775808 ≤ n1; omega, by show n1 ≤ 9223372036854775807; omega⟩
          rcases i with _ | i
          · simp at hr
            obtain ⟨rfl, rfl⟩ := hr
            exact (show -9223372036854775808 ≤ zs.getD 0 0 ∧ zs.getD 0 0 ≤ 9223372036854775807 from Go.bounds_i64 (hw 0))
          rcases i with _ | i
          · simp at hr
            obtain ⟨rfl, rfl⟩ := hr
            exact (show -9223372036854775808 ≤ zs.getD 1 0 ∧ zs.getD 1 0 ≤ 9223372036854775807 from Go.bounds_i64 (hw 1))
          rcases i with _ | i
          · simp at hr
            obtain ⟨rfl, rfl⟩ := hr
            exact (show -9223372036854775808 ≤ zs.getD 2 0 ∧ zs.getD 2 0 ≤ 9223372036854775807 from Go.bounds_i64 (hw 2))
          rcases i with _ | i
          · simp at hr
            obtain ⟨rfl, rfl⟩ := hr
            exact (show -9223372036854775808 ≤ zs.getD 3 0 ∧ zs.getD 3 0 ≤ 9223372036854775807 from Go.bounds_i64 (hw 3))
          rcases i with _ | i
          · simp at hr
            obtain ⟨rfl, rfl⟩ := hr
            exact (show 0 ≤ zs.getD 4 0 ∧ zs.getD 4 0 ≤ 4294967295 from Go.bounds_u32 (hw 4))
          rcases i with _ | i
          · simp at hr
            obtain ⟨rfl, rfl⟩ := hr
            exact (show -9223372036854775808 ≤ zs.getD 5 0 ∧ zs.getD 5 0 ≤ 9223372036854775807 from Go.bounds_i64 (hw 5))
          rcases i with _ | i
          · simp at hr
            obtain ⟨rfl, rfl⟩ := hr
            exact (show -9223372036854775808 ≤ zs.getD 6 0 ∧ zs.getD 6 0 ≤ 9223372036854775807 from Go.bounds_i64 (hw 6))
          rcases i with _ | i
          · simp at hr
            obtain ⟨rfl, rfl⟩ := hr
            exact (show -9223372036854775808 ≤ zs.getD 7 0 ∧ zs.getD 7 0 ≤ 9223372036854775807 from Go.bounds_i64 (hw 7))
          rcases i with _ | i
          · simp at hr
            obtain ⟨rfl, rfl⟩ := hr
            exact (show -9223372036854775808 ≤ zs.getD 8 0 ∧ zs.getD 8 0 ≤ 9223372036854775807 from Go.bounds_i64 (hw 8))
          rcases i with _ | i
          · simp at hr
            obtain ⟨rfl, rfl⟩ := hr
            exact (show 0 ≤ zs.getD 9 0 ∧ zs.getD 9 0 ≤ 4294967295 from Go.bounds_u32 (hw 9))
          rcases i with _ | i
          · simp at hr
            obtain ⟨rfl, rfl⟩ := hr
            exact (show -9223372036854775808 ≤ zs.getD 10 0 ∧ zs.getD 10 0 ≤ 9223372036854775807 from Go.bounds_i64 (hw 10))
          rcases i with _ | i
          · simp at hr
            obtain ⟨rfl, rfl⟩ := hr
            exact (show -9223372036854775808 ≤ zs.getD 11 0 ∧ zs.getD 11 0 ≤ 9223372036854775807 from Go.bounds_i64 (hw 11))
          rcases i with _ | i
          · simp at hr
            obtain ⟨rfl, rfl⟩ := hr
            exact (show -9223372036854775808 ≤ zs.getD 12 0 ∧ zs.getD 12 0 ≤ 9223372036854775807 from Go.bounds_i64 (hw 12))
          rcases i with _ | i
          · simp at hr
            obtain ⟨rfl, rfl⟩ := hr
            exact (show -9223372036854775808 ≤ zs.getD 13 0 ∧ zs.getD 13 0 ≤ 9223372036854775807 from Go.bounds_i64 (hw 13))
          rcases i with _ | i
          · simp at hr
            obtain ⟨rfl, rfl⟩ := hr
            exact (show 0 ≤ zs.getD 14 0 ∧ zs.getD 14 0 ≤ 4294967295 from Go.bounds_u32 (hw 14))
          rcases i with _ | i
          · simp at hr
            obtain ⟨rfl, rfl⟩ := hr
            exact (show -9223372036854775808 ≤ zs.getD 15 0 ∧ zs.getD 15 0 ≤ 9223372036854775807 from Go.bounds_i64 (hw 15))
          rcases i with _ | i
          · simp at hr
            obtain ⟨rfl, rfl⟩ := hr
            exact (show -9223372036854775808 ≤ zs.getD 16 0 ∧ zs.getD 16 0 ≤ 9223372036854775807 from Go.bounds_i64 (hw 16))
          rcases i with _ | i
          · simp at hr
            obtain ⟨rfl, rfl⟩ := hr
            exact (show -9223372036854775808 ≤ zs.getD 17 0 ∧ zs.getD 17 0 ≤ 9223372036854775807 from Go.bounds_i64 (hw 17))
          rcases i with _ | i
          · simp at hr
            obtain ⟨rfl, rfl⟩ := hr
            exact (show -9223372036854775808 ≤ zs.getD 18 0 ∧ zs.getD 18 0 ≤ 9223372036854775807 from Go.bounds_i64 (hw 18))
          rcases i with _ | i
          · simp at hr
            obtain ⟨rfl, rfl⟩ := hr
            exact (show 0 ≤ zs.getD 19 0 ∧ zs.getD 19 0 ≤ 4294967295 from Go.bounds_u32 (hw 19))
          simp at hr
        have q6 : (n1 < 0) ∨ (n1 = 0) ∨ (n1 = 1) ∨ (1 < n1) := by omega
        rcases q6 with q6 | q6 | q6 | q6
        ·
          refine case20 hL ⟨hrr, ?_⟩ TabOk.nil R g (VRs.cons (vr_list (sz := 5) hρ hsp hle) (VRs.cons (by simp [VR, E.den, sg]) (VRs.nil)))
          · intro q a b t hm
            simp only [List.mem_cons, List.not_mem_nil, or_false, Prod.mk.injEq] at hm
            obtain ⟨rfl, rfl, rfl, rfl⟩ := hm
            simp [E.den, bopV, sg]
            try omega
        ·
          refine case21 hL ⟨hrr, ?_⟩ TabOk.nil R g (VRs.cons (vr_list (sz := 5) hρ hsp hle) (VRs.cons (by simp [VR, E.den, sg]) (VRs.nil)))
          · intro q a b t hm
            simp only [List.mem_cons, List.not_mem_nil, or_false, Prod.mk.injEq] at hm
            obtain ⟨rfl, rfl, rfl, rfl⟩ := hm
            simp [E.den, bopV, sg]
            try omega
        ·
          refine case22 hL ⟨hrr, ?_⟩ TabOk.nil R g (VRs.cons (vr_list (sz := 5) hρ hsp hle) (VRs.cons (by simp [VR, E.den, sg]) (VRs.nil)))
          · intro q a b t hm
            simp only [List.mem_cons, List.not_mem_nil, or_false, Prod.mk.injEq] at hm
            obtain ⟨rfl, rfl, rfl, rfl⟩ := hm
            simp [E.den, bopV, sg]
            try omega
        ·
          refine case23 hL ⟨hrr, ?_⟩ TabOk.nil R g (VRs.cons (vr_list (sz := 5) hρ hsp hle) (VRs.cons (by simp [VR, E.den, sg]) (VRs.nil)))
          · intro q a b t hm
            simp only [List.mem_cons, List.not_mem_nil, or_false, Prod.mk.injEq] at hm
            rcases hm with ⟨rfl, rfl, rfl, rfl⟩ | ⟨rfl, rfl, rfl, rfl⟩
            ·
              simp [E.den, bopV, sg]
              try omega
            ·
              simp [E.den, bopV, sg]
              try omega
      · have hr := rowK (k := kk) (n := (5) * 5) (m := cap * 5) (by omega) (by omega) hcell
        have hsp : a.spot = none := by rw [hr.spot]
        obtain ⟨ρ, R, g, hρ⟩ := start_row (σ := (sg n1 zs)) s1 s2 s3 errs_all errs_lt hr (row := kRow kk 1 25 0) (fun ρ => by rw [List.range_eq_range']; exact vrs_k (b := 1) (fun i => by simp [sg]) 25 0) (by decide)
        have hrr : ∀ (i : Nat) (lo hi : Int), ([((-9223372036854775808), 9223372036854775807), ((-9223372036854775808), 9223372036854775807), ((-9223372036854775808), 9223372036854775807), ((-9223372036854775808), 9223372036854775807), ((-9223372036854775808), 9223372036854775807), (0, 4294967295), ((-9223372036854775808), 9223372036854775807), ((-9223372036854775808), 9223372036854775807), ((-9223372036854775808), 9223372036854775807), ((-9223372036854775808), 9223372036854775807), (0, 4294967295), ((-9223372036854775808), 9223372036854775807), ((-9223372036854775808), 9223372036854775807), ((-9223372036854775808), 9223372036854775807), ((-9223372036854775808), 9223372036854775807), (0, 4294967295), ((-9223372036854775808), 9223372036854775807), ((-9223372036854775808), 9223372036854775807), ((-9223372036854775808), 9223372036854775807), ((-9223372036854775808), 9223372036854775807), (0, 4294967295), ((-9223372036854775808), 9223372036854775807), ((-9223372036854775808), 9223372036854775807), ((-9223372036854775808), 9223372036854775807), ((-9223372036854775808), 9223372036854775807), (0, 4294967295)] : List (Int × Int))[i]? = some (lo, hi) → lo ≤ (sg n1 zs) i ∧ (sg n1 zs) i ≤ hi := by
          intro i lo hi hr
          rcases i with _ | i
          · simp at hr
            obtain ⟨rfl, rfl⟩ := hr
            exact ⟨by show -9223372036854775808 ≤ n1; omega, by show n1 ≤ 9223372036854775807; omega⟩
          rcases i with _ | i
          · simp at hr
            obtain ⟨rfl, rfl⟩ := hr
            exact (show -9223372036854775808 ≤ zs.getD 0 0 ∧ zs.getD 0 0 ≤ 9223372036854775807 from Go.bounds_i64 (hw 0))
          rcases i with _ | i
          · simp at hr
            obtain ⟨rfl, rfl⟩ := hr
            exact (show -9223372036854775808 ≤ zs.getD 1 0 ∧ zs.getD 1 0 ≤ 9223372036854775807 from Go.bounds_i64 (hw 1))
          rcases i with _ | i
          · simp at hr
            obtain ⟨rfl, rfl⟩ := hr
            exact (show -9223372036854775808 ≤ zs.getD 2 0 ∧ zs.getD 2 0 ≤ 9223372036854775807 from Go.bounds_i64 (hw 2))
          rcases i with _ | i
          · simp at hr
            obtain ⟨rfl, rfl⟩ := hr
            exact (show -9223372036854775808 ≤ zs.getD 3 0 ∧ zs.getD 3 0 ≤ 9223372036854775807 from Go.bounds_i64 (hw 3))
          rcases i with _ | i
          · simp at hr
            obtain ⟨rfl, rfl⟩ := hr
            exact (show 0 ≤ zs.getD 4 0 ∧ zs.getD 4 0 ≤ 4294967295 from Go.bounds_u32 (hw 4))
          rcases i with _ | i
          · simp at hr
            obtain ⟨rfl, rfl⟩ := hr
            exact (show -9223372036854775808 ≤ zs.getD 5 0 ∧ zs.getD 5 0 ≤ 9223372036854775807 from Go.bounds_i64 (hw 5))
          rcases i with _ | i
          · simp at hr
            obtain ⟨rfl, rfl⟩ := hr
            exact (show -9223372036854775808 ≤ zs.getD 6 0 ∧ zs.getD 6 0 ≤ 9223372036854775807 from Go.bounds_i64 (hw 6))
          rcases i with _ | i
          · simp at hr
            obtain ⟨rfl, rfl⟩ := hr
            exact (show -9223372036854775808 ≤ zs.getD 7 0 ∧ zs.getD 7 0 ≤ 9223372036854775807 from Go.bounds_i64 (hw 7))
          rcases i with _ | i
          · simp at hr
            obtain ⟨rfl, rfl⟩ := hr
            exact (show -9223372036854775808 ≤ zs.getD 8 0 ∧ zs.getD 8 0 ≤ 9223372036854775807 from Go.bounds_i64 (hw 8))
          rcases i with _ | i
          · simp at hr
            obtain ⟨rfl, rfl⟩ := hr
            exact (show 0 ≤ zs.getD 9 0 ∧ zs.getD 9 0 ≤ 4294967295 from Go.bounds_u32 (hw 9))
          rcases i with _ | i
          · simp at hr
            obtain ⟨rfl, rfl⟩ := hr
            exact (show -9223372036854775808 ≤ zs.getD 10 0 ∧ zs.getD 10 0 ≤ 9223372036854775807 from Go.bounds_i64 (hw 10))
          rcases i with _ | i
          · simp at hr
            obtain ⟨rfl, rfl⟩ := hr
            exact (show -9223372036854775808 ≤ zs.getD 11 0 ∧ zs.getD 11 0 ≤ 9223372036854775807 from Go.bounds_i64 (hw 11))
          rcases i with _ | i
          · simp at hr
            obtain ⟨rfl, rfl⟩ := hr
            exact (show -9223372036854775808 ≤ zs.getD 12 0 ∧ zs.getD 12 0 ≤ 9223372036854775807 from Go.bounds_i64 (hw 12))
          rcases i with _ | i
          · simp at hr
            obtain ⟨rfl, rfl⟩ := hr
            exact (show -9223372036854775808 ≤ zs.getD 13 0 ∧ zs.getD 13 0 ≤ 9223372036854775807 from Go.bounds_i64 (hw 13))
          rcases i with _ | i
          · simp at hr
            obtain ⟨rfl, rfl⟩ := hr
            exact (show 0 ≤ zs.getD 14 0 ∧ zs.getD 14 0 ≤ 4294967295 from Go.bounds_u32 (hw 14))
          rcases i with _ | i
          · simp at hr
            obtain ⟨rfl, rfl⟩ := hr
            exact (show -9223372036854775808 ≤ zs.getD 15 0 ∧ zs.getD 15 0 ≤ 9223372036854775807 from Go.bounds_i64 (hw 15))
          rcases i with _ | i
          · simp at hr
            obtain ⟨rfl, rfl⟩ := hr
            exact (show -9223372036854775808 ≤ zs.getD 16 0 ∧ zs.getD 16 0 ≤ 9223372036854775807 from Go.bounds_i64 (hw 16))
          rcases i with _ | i
          · simp at hr
            obtain ⟨rfl, rfl⟩ := hr
            exact (show -9223372036854775808 ≤ zs.getD 17 0 ∧ zs.getD 17 0 ≤ 9223372036854775807 from Go.bounds_i64 (hw 17))
          rcases i with _ | i
          · simp at hr
            obtain ⟨rfl, rfl⟩ := hr
            exact (show -9223372036854775808 ≤ zs.getD 18 0 ∧ zs.getD 18 0 ≤ 9223372036854775807 from Go.bounds_i64 (hw 18))
          rcases i with _ | i
          · simp at hr
            obtain ⟨rfl, rfl⟩ := hr
            exact (show 0 ≤ zs.getD 19 0 ∧ zs.getD 19 0 ≤ 4294967295 from Go.bounds_u32 (hw 19))
          rcases i with _ | i
          · simp at hr
            obtain ⟨rfl, rfl⟩ := hr
            exact (show -9223372036854775808 ≤ zs.getD 20 0 ∧ zs.getD 20 0 ≤ 9223372036854775807 from Go.bounds_i64 (hw 20))
          rcases i with _ | i
          · simp at hr
            obtain ⟨rfl, rfl⟩ := hr
            exact (show -9223372036854775808 ≤ zs.getD 21 0 ∧ zs.getD 21 0 ≤ 9223372036854775807 from Go.bounds_i64 (hw 21))
          rcases i with _ | i
          · simp at hr
            obtain ⟨rfl, rfl⟩ := hr
            exact (show -9223372036854775808 ≤ zs.getD 22 0 ∧ zs.getD 22 0 ≤ 9223372036854775807 from Go.bounds_i64 (hw 22))
          rcases i with _ | i
          · simp at hr
            obtain ⟨rfl, rfl⟩ := hr
            exact (show -9223372036854775808 ≤ zs.getD 23 0 ∧ zs.getD 23 0 ≤ 9223372036854775807 from Go.bounds_i64 (hw 23))
          rcases i with _ | i
          · simp at hr
            obtain ⟨rfl, rfl⟩ := hr
            exact (show 0 ≤ zs.getD 24 0 ∧ zs.getD 24 0 ≤ 4294967295 from Go.bounds_u32 (hw 24))
          simp at hr
        have q7 : (n1 < 0) ∨ (n1 = 0) ∨ (n1 = 1) ∨ (1 < n1) := by omega
        rcases q7 with q7 | q7 | q7 | q7
        ·
          refine case24 hL ⟨hrr, ?_⟩ TabOk.nil R g (VRs.cons (vr_list (sz := 5) hρ hsp hle) (VRs.cons (by simp [VR, E.den, sg]) (VRs.nil)))
          · intro q a b t hm
            simp only [List.mem_cons, List.not_mem_nil, or_false, Prod.mk.injEq] at hm
            obtain ⟨rfl, rfl, rfl, rfl⟩ := hm
            simp [E.den, bopV, sg]
            try omega
        ·
          refine case25 hL ⟨hrr, ?_⟩ TabOk.nil R g (VRs.cons (vr_list (sz := 5) hρ hsp hle) (VRs.cons (by simp [VR, E.den, sg]) (VRs.nil)))
          · intro q a b t hm
            simp only [List.mem_cons, List.not_mem_nil, or_false, Prod.mk.injEq] at hm
            obtain ⟨rfl, rfl, rfl, rfl⟩ := hm
            simp [E.den, bopV, sg]
            try omega
        ·
          refine case26 hL ⟨hrr, ?_⟩ TabOk.nil R g (VRs.cons (vr_list (sz := 5) hρ hsp hle) (VRs.cons (by simp [VR, E.den, sg]) (VRs.nil)))
          · intro q a b t hm
            simp only [List.mem_cons, List.not_mem_nil, or_false, Prod.mk.injEq] at hm
            obtain ⟨rfl, rfl, rfl, rfl⟩ := hm
            simp [E.den, bopV, sg]
            try omega
        ·
          refine case27 hL ⟨hrr, ?_⟩ TabOk.nil R g (VRs.cons (vr_list (sz := 5) hρ hsp hle) (VRs.cons (by simp [VR, E.den, sg]) (VRs.nil)))
          · intro q a b t hm
            simp only [List.mem_cons, List.not_mem_nil, or_false, Prod.mk.injEq] at hm
            rcases hm with ⟨rfl, rfl, rfl, rfl⟩ | ⟨rfl, rfl, rfl, rfl⟩
            ·
              simp [E.den, bopV, sg]
              try omega
            ·
              simp [E.den, bopV, sg]
              try omega
      · have hr := rowK (k := kk) (n := (6) * 5) (m := cap * 5) (by omega) (by omega) hcell
        have hsp : a.spot = none := by rw [hr.spot]
        obtain ⟨ρ, R, g, hρ⟩ := start_row (σ := (sg n1 zs)) s1 s2 s3 errs_all errs_lt hr (row := kRow kk 1 30 0) (fun ρ => by rw [List.range_eq_range']; exact vrs_k (b := 1) (fun i => by simp [sg]) 30 0) (by decide)
        have hrr : ∀ (i : Nat) (lo hi : Int), ([((-9223372036854775808), 9223372036854775807), ((-9223372036854775808), 9223372036854775807), ((-9223372036854775808), 9223372036854775807), ((-9223372036854775808), 9223372036854775807), ((-9223372036854775808), 9223372036854775807), (0, 4294967295), ((-9223372036854775808), 9223372036854775807), ((-9223372036854775808), 9223372036854775807), ((-9223372036854775808), 9223372036854775807), ((-9223372036854775808), 9223372036854775807), (0, 4294967295), ((-9223372036854775808), 9223372036854775807), ((-9223372036854775808), 9223372036854775807), ((-9223372036854775808), 9223372036854775807), ((-9223372036854775808), 9223372036854775807), (0, 4294967295), ((-9223372036854775808), 9223372036854775807), ((-9223372036854775808), 9223372036854775807), ((-9223372036854775808), 9223372036854775807), ((-9223372036854775808), 9223372036854775807), (0, 4294967295), ((-9223372036854775808), 9223372036854775807), ((-9223372036854775808), 9223372036854775807), ((-9223372036854775808), 9223372036854775807), ((-9223372036854775808), 9223372036854775807), (0, 4294967295), ((-9223372036854775808), 9223372036854775807), ((-9223372036854775808), 9223372036854775807), ((-9223372036854775808), 9223372036854775807), ((-9223372036854775808), 9223372036854775807), (0, 4294967295)] : List (Int × Int))[i]? = some (lo, hi) → lo ≤ (sg n1 zs) i ∧ (sg n1 zs) i ≤ hi := by
          intro i lo hi hr
          rcases i with _ | i
          · simp at hr
            obtain ⟨rfl, rfl⟩ := hr
            exact ⟨by show -9223372036854775808 ≤ n1; omega, by show n1 ≤ 9223372036854775807; omega⟩
          rcases i with _ | i
          · simp at hr
            obtain ⟨rfl, rfl⟩ := hr
            exact (show -9223372036854775808 ≤ zs.getD 0 0 ∧ zs.getD 0 0 ≤ 9223372036854775807 from Go.bounds_i64 (hw 0))
          rcases i with _ | i
          · simp at hr
            obtain ⟨rfl, rfl⟩ := hr
            exact (show -9223372036854775808 ≤ zs.getD 1 0 ∧ zs.getD 1 0 ≤ 9223372036854775807 from Go.bounds_i64 (hw 1))
          rcases i with _ | i
          · simp at hr
            obtain ⟨rfl, rfl⟩ := hr
            exact (show -9223372036854775808 ≤ zs.getD 2 0 ∧ zs.getD 2 0 ≤ 9223372036854775807 from Go.bounds_i64 (hw 2))
          rcases i with _ | i
          · simp at hr
            obtain ⟨rfl, rfl⟩ := hr
            exact (show -9223372036854775808 ≤ zs.getD 3 0 ∧ zs.getD 3 0 ≤ 9223372036854775807 from Go.bounds_i64 (hw 3))
          rcases i with _ | i
          · simp at hr
            obtain ⟨rfl, rfl⟩ := hr
            exact (show 0 ≤ zs.getD 4 0 ∧ zs.getD 4 0 ≤ 4294967295 from Go.bounds_u32 (hw 4))
          rcases i with _ | i
          · simp at hr
            obtain ⟨rfl, rfl⟩ := hr
            exact (show -9223372036854775808 ≤ zs.getD 5 0 ∧ zs.getD 5 0 ≤ 9223372036854775807 from Go.bounds_i64 (hw 5))
          rcases i with _ | i
          · simp at hr
            obtain ⟨rfl, rfl⟩ := hr
            exact (show -9223372036854775808 ≤ zs.getD 6 0 ∧ zs.getD 6 0 ≤ 9223372036854775807 from Go.bounds_i64 (hw 6))
          rcases i with _ | i
          · simp at hr
            obtain ⟨rfl, rfl⟩ := hr
            exact (show -9223372036854775808 ≤ zs.getD 7 0 ∧ zs.getD 7 0 ≤ 9223372036854775807 from Go.bounds_i64 (hw 7))
          rcases i with _ | i
          · simp at hr
            obtain ⟨rfl, rfl⟩ := hr
            exact (show -9223372036854775808 ≤ zs.getD 8 0 ∧ zs.getD 8 0 ≤ 9223372036854775807 from Go.bounds_i64 (hw 8))
          rcases i with _ | i
          · simp at hr
            obtain ⟨rfl, rfl⟩ := hr
            exact (show 0 ≤ zs.getD 9 0 ∧ zs.getD 9 0 ≤ 4294967295 from Go.bounds_u32 (hw 9))
          rcases i with _ | i
          · simp at hr
            obtain ⟨rfl, rfl⟩ := hr
            exact (show -9223372036854775808 ≤ zs.getD 10 0 ∧ zs.getD 10 0 ≤ 9223372036854775807 from Go.bounds_i64 (hw 10))
          rcases i with _ | i
          · simp at hr
            obtain ⟨rfl, rfl⟩ := hr
            exact (show -9223372036854775808 ≤ zs.getD 11 0 ∧ zs.getD 11 0 ≤ 9223372036854775807 from Go.bounds_i64 (hw 11))
          rcases i with _ | i
          · simp at hr
            obtain ⟨rfl, rfl⟩ := hr
            exact (show -9223372036854775808 ≤ zs.getD 12 0 ∧ zs.getD 12 0 ≤ 9223372036854775807 from Go.bounds_i64 (hw 12))
          rcases i with _ | i
          · simp at hr
            obtain ⟨rfl, rfl⟩ := hr
            exact (show -9223372036854775808 ≤ zs.getD 13 0 ∧ zs.getD 13 0 ≤ 9223372036854775807 from Go.bounds_i64 (hw 13))
          rcases i with _ | i
          · simp at hr
            obtain ⟨rfl, rfl⟩ := hr
            exact (show 0 ≤ zs.getD 14 0 ∧ zs.getD 14 0 ≤ 4294967295 from Go.bounds_u32 (hw 14))
          rcases i with _ | i
          · simp at hr
            obtain ⟨rfl, rfl⟩ := hr
            exact (show -9223372036854775808 ≤ zs.getD 15 0 ∧ zs.getD 15 0 ≤ 9223372036854775807 from Go.bounds_i64 (hw 15))
          rcases i with _ | i
          · simp at hr
            obtain ⟨rfl, rfl⟩ := hr
            exact (show -9223372036854775808 ≤ zs.getD 16 0 ∧ zs.getD 16 0 ≤ 9223372036854775807 from Go.bounds_i64 (hw 16))
          rcases i with _ | i
          · simp at hr
            obtain ⟨rfl, rfl⟩ := hr
            exact (show -9223372036854775808 ≤ zs.getD 17 0 ∧ zs.getD 17 0 ≤ 9223372036854775807 from Go.bounds_i64 (hw 17))
          rcases i with _ | i
          · simp at hr
            obtain ⟨rfl, rfl⟩ := hr
            exact (show -9223372036854775808 ≤ zs.getD 18 0 ∧ zs.getD 18 0 ≤ 9223372036854775807 from Go.bounds_i64 (hw 18))
          rcases i with _ | i
          · simp at hr
            obtain ⟨rfl, rfl⟩ := hr
            exact (show 0 ≤ zs.getD 19 0 ∧ zs.getD 19 0 ≤ 4294967295 from Go.bounds_u32 (hw 19))
          rcases i with _ | i
          · simp at hr
            obtain ⟨rfl, rfl⟩ := hr
            exact (show -9223372036854775808 ≤ zs.getD 20 0 ∧ zs.getD 20 0 ≤ 9223372036854775807 from Go.bounds_i64 (hw 20))
          rcases i with _ | i
          · simp at hr
            obtain ⟨rfl, rfl⟩ := hr
            exact (show -9223372036854775808 ≤ zs.getD 21 0 ∧ zs.getD 21 0 ≤ 9223372036854775807 from Go.bounds_i64 (hw 21))
          rcases i with _ | i
          · simp at hr
            obtain ⟨rfl, rfl⟩ := hr
            exact (show -9223372036854775808 ≤ zs.getD 22 0 ∧ zs.getD 22 0 ≤ 9223372036854775807 from Go.bounds_i64 (hw 22))
          rcases i with _ | i
          · simp at hr
            obtain ⟨rfl, rfl⟩ := hr
            exact (show -9223372036854775808 ≤ zs.getD 23 0 ∧ zs.getD 23 0 ≤ 9223372036854775807 from Go.bounds_i64 (hw 23))
          rcases i with _ | i
          · simp at hr
            obtain ⟨rfl, rfl⟩ := hr
            exact (show 0 ≤ zs.getD 24 0 ∧ zs.getD 24 0 ≤ 4294967295 from Go.bounds_u32 (hw 24))
          rcases i with _ | i
          · simp at hr
            obtain ⟨rfl, rfl⟩ := hr
            exact (show -9223372036854775808 ≤ zs.getD 25 0 ∧ zs.getD 25 0 ≤ 9223372036854775807 from Go.bounds_i64 (hw 25))
          rcases i with _ | i
          · simp at hr
            obtain ⟨rfl, rfl⟩ := hr
            exact (show -9223372036854775808 ≤ zs.getD 26 0 ∧ zs.getD 26 0 ≤ 9223372036854775807 from Go.bounds_i64 (hw 26))
          rcases i with _ | i
          · simp at hr
            obtain ⟨rfl, rfl⟩ := hr
            exact (show -9223372036854775808 ≤ zs.getD 27 0 ∧ zs.getD 27 0 ≤ 9223372036854775807 from Go.bounds_i64 (hw 27))
          rcases i with _ | i
          · simp at hr
            obtain ⟨rfl, rfl⟩ := hr
            exact (show -9223372036854775808 ≤ zs.getD 28 0 ∧ zs.getD 28 0 ≤ 9223372036854775807 from Go.bounds_i64 (hw 28))
          rcases i with _ | i
          · simp at hr
            obtain ⟨rfl, rfl⟩ := hr
            exact (show 0 ≤ zs.getD 29 0 ∧ zs.getD 29 0 ≤ 4294967295 from Go.bounds_u32 (hw 29))
          simp at hr
        have q8 : (n1 < 0) ∨ (n1 = 0) ∨ (n1 = 1) ∨ (1 < n1) := by omega
        rcases q8 with q8 | q8 | q8 | q8
        ·
          refine case28 hL ⟨hrr, ?_⟩ TabOk.nil R g (VRs.cons (vr_list (sz := 5) hρ hsp hle) (VRs.cons (by simp [VR, E.den, sg]) (VRs.nil)))
          · intro q a b t hm
            simp only [List.mem_cons, List.not_mem_nil, or_false, Prod.mk.injEq] at hm
            obtain ⟨rfl, rfl, rfl, rfl⟩ := hm
            simp [E.den, bopV, sg]
            try omega
        ·
          refine case29 hL ⟨hrr, ?_⟩ TabOk.nil R g (VRs.cons (vr_list (sz := 5) hρ hsp hle) (VRs.cons (by simp [VR, E.den, sg]) (VRs.nil)))
          · intro q a b t hm
            simp only [List.mem_cons, List.not_mem_nil, or_false, Prod.mk.injEq] at hm
            obtain ⟨rfl, rfl, rfl, rfl⟩ := hm
            simp [E.den, bopV, sg]
            try omega
        ·
          refine case30 hL ⟨hrr, ?_⟩ TabOk.nil R g (VRs.cons (vr_list (sz := 5) hρ hsp hle) (VRs.cons (by simp [VR, E.den, sg]) (VRs.nil)))
          · intro q a b t hm
            simp only [List.mem_cons, List.not_mem_nil, or_false, Prod.mk.injEq] at hm
            obtain ⟨rfl, rfl, rfl, rfl⟩ := hm
            simp [E.den, bopV, sg]
            try omega
        ·
          refine case31 hL ⟨hrr, ?_⟩ TabOk.nil R g (VRs.cons (vr_list (sz := 5) hρ hsp hle) (VRs.cons (by simp [VR, E.den, sg]) (VRs.nil)))
          · intro q a b t hm
            simp only [List.mem_cons, List.not_mem_nil, or_false, Prod.mk.injEq] at hm
            rcases hm with ⟨rfl, rfl, rfl, rfl⟩ | ⟨rfl, rfl, rfl, rfl⟩
            ·
              simp [E.den, bopV, sg]
              try omega
            ·
              simp [E.den, bopV, sg]
              try omega
      · have hr := rowK (k := kk) (n := (7) * 5) (m := cap * 5) (by omega) (by omega) hcell
        have hsp : a.spot = none := by rw [hr.spot]
        obtain ⟨ρ, R, g, hρ⟩ := start_row (σ := (sg n1 zs)) s1 s2 s3 errs_all errs_lt hr (row := kRow kk 1 35 0) (fun ρ => by rw [List.range_eq_range']; exact vrs_k (b := 1) (fun i => by simp [sg]) 35 0) (by decide)
        have hrr : ∀ (i : Nat) (lo hi : Int), ([((-9223372036854775808), 9223372036854775807), ((-9223372036854775808), 9223372036854775807), ((-9223372036854775808), 9223372036854775807), ((-9223372036854775808), 9223372036854775807), ((-9223372036854775808), 9223372036854775807), (0, 4294967295), ((-9223372036854775808), 9223372036854775807), ((-9223372036854775808), 9223372036854775807), ((-9223372036854775808), 9223372036854775807), ((-9223372036854775808), 9223372036854775807), (0, 4294967295), ((-9223372036854775808), 9223372036854775807), ((-9223372036854775808), 9223372036854775807), ((-9223372036854775808), 9223372036854775807), ((-9223372036854775808), 9223372036854775807), (0, 4294967295), ((-9223372036854775808), 9223372036854775807), ((-9223372036854775808), 9223372036854775807), ((-9223372036854775808), 9223372036854775807), ((-9223372036854775808), 9223372036854775807), (0, 4294967295), ((-9223372036854775808), 9223372036854775807), ((-9223372036854775808), 9223372036854775807), ((-9223372036854775808), 9223372036854775807), ((-9223372036854775808), 9223372036854775807), (0, 4294967295), ((-9223372036854775808), 9223372036854775807), ((-9223372036854775808), 9223372036854775807), ((-9223372036854775808), 9223372036854775807), ((-9223372036854775808), 9223372036854775807), (0, 4294967295), ((-9223372036854775808), 9223372036854775807), ((-9223372036854775808), 9223372036854775807), ((-9223372036854775808), 9223372036854775807), ((-9223372036854775808), 9223372036854775807), (0, 4294967295)] : List (Int × Int))[i]? = some (lo, hi) → lo ≤ (sg n1 zs) i ∧ (sg n1 zs) i ≤ hi := by
          intro i lo hi hr
          rcases i with _ | i
          · simp at hr
            obtain ⟨rfl, rfl⟩ := hr
            exact ⟨by show -9223372036854775808 ≤ n1; omega, by show n1 ≤ 9223372036854775807; omega⟩
          rcases i with _ | i
          · simp at hr
            obtain ⟨rfl, rfl⟩ := hr
            exact (show -9223372036854775808 ≤ zs.getD 0 0 ∧ zs.getD 0 0 ≤ 9223372036854775807 from Go.bounds_i64 (hw 0))
          rcases i with _ | i
          · simp at hr
            obtain ⟨rfl, rfl⟩ := hr
            exact (show -9223372036854775808 ≤ zs.getD 1 0 ∧ zs.getD 1 0 ≤ 9223372036854775807 from Go.bounds_i64 (hw 1))
          rcases i with _ | i
          · simp at hr
            obtain ⟨rfl, rfl⟩ := hr
            exact (show -9223372036854775808 ≤ zs.getD 2 0 ∧ zs.getD 2 0 ≤ 9223372036854775807 from Go.bounds_i64 (hw 2))
          rcases i with _ | i
          · simp at hr
            obtain ⟨rfl, rfl⟩ := hr
            exact (show -9223372036854775808 ≤ zs.getD 3 0 ∧ zs.getD 3 0 ≤ 9223372036854775807 from Go.bounds_i64 (hw 3))
          rcases i with _ | i
          · simp at hr
            obtain ⟨rfl, rfl⟩ := hr
            exact (show 0 ≤ zs.getD 4 0 ∧ zs.getD 4 0 ≤ 4294967295 from Go.bounds_u32 (hw 4))
          rcases i with _ | i
          · simp at hr
            obtain ⟨rfl, rfl⟩ := hr
            exact (show -9223372036854775808 ≤ zs.getD 5 0 ∧ zs.getD 5 0 ≤ 9223372036854775807 from Go.bounds_i64 (hw 5))
          rcases i with _ | i
          · simp at hr
            obtain ⟨rfl, rfl⟩ := hr
            exact (show -9223372036854775808 ≤ zs.getD 6 0 ∧ zs.getD 6 0 ≤ 9223372036854775807 from Go.bounds_i64 (hw 6))
          rcases i with _ | i
          · simp at hr
            obtain ⟨rfl, rfl⟩ := hr
            exact (show -9223372036854775808 ≤ zs.getD 7 0 ∧ zs.getD 7 0 ≤ 9223372036854775807 from Go.bounds_i64 (hw 7))
          rcases i with _ | i
          · simp at hr
            obtain ⟨rfl, rfl⟩ := hr
            exact (show -9223372036854775808 ≤ zs.getD 8 0 ∧ zs.getD 8 0 ≤ 9223372036854775807 from Go.bounds_i64 (hw 8))
          rcases i with _ | i
          · simp at hr
            obtain ⟨rfl, rfl⟩ := hr
            exact (show 0 ≤ zs.getD 9 0 ∧ zs.getD 9 0 ≤ 4294967295 from Go.bounds_u32 (hw 9))
          rcases i with _ | i
          · simp at hr
            obtain ⟨rfl, rfl⟩ := hr
            exact (show -9223372036854775808 ≤ zs.getD 10 0 ∧ zs.getD 10 0 ≤ 9223372036854775807 from Go.bounds_i64 (hw 10))
          rcases i with _ | i
          · simp at hr
            obtain ⟨rfl, rfl⟩ := hr
            exact (show -9223372036854775808 ≤ zs.getD 11 0 ∧ zs.getD 11 0 ≤ 9223372036854775807 from Go.bounds_i64 (hw 11))
          rcases i with _ | i
          · simp at hr
            obtain ⟨rfl, rfl⟩ := hr
            exact (show -9223372036854775808 ≤ zs.getD 12 0 ∧ zs.getD 12 0 ≤ 9223372036854775807 from Go.bounds_i64 (hw 12))
          rcases i with _ | i
          · simp at hr
            obtain ⟨rfl, rfl⟩ := hr
            exact (show -9223372036854775808 ≤ zs.getD 13 0 ∧ zs.getD 13 0 ≤ 9223372036854775807 from Go.bounds_i64 (hw 13))
          rcases i with _ | i
          · simp at hr
            obtain ⟨rfl, rfl⟩ := hr
            exact (show 0 ≤ zs.getD 14 0 ∧ zs.getD 14 0 ≤ 4294967295 from Go.bounds_u32 (hw 14))
          rcases i with _ | i
          · simp at hr
            obtain ⟨rfl, rfl⟩ := hr
            exact (show -9223372036854775808 ≤ zs.getD 15 0 ∧ zs.getD 15 0 ≤ 9223372036854775807 from Go.bounds_i64 (hw 15))
          rcases i with _ | i
          · simp at hr
            obtain ⟨rfl, rfl⟩ := hr
            exact (show -9223372036854775808 ≤ zs.getD 16 0 ∧ zs.getD 16 0 ≤ 9223372036854775807 from Go.bounds_i64 (hw 16))
          rcases i with _ | i
          · simp at hr
            obtain ⟨rfl, rfl⟩ := hr
            exact (show -9223372036854775808 ≤ zs.getD 17 0 ∧ zs.getD 17 0 ≤ 9223372036854775807 from Go.bounds_i64 (hw 17))
          rcases i with _ | i
          · simp at hr
            obtain ⟨rfl, rfl⟩ := hr
            exact (show -9223372036854775808 ≤ zs.getD 18 0 ∧ zs.getD 18 0 ≤ 9223372036854775807 from Go.bounds_i64 (hw 18))
          rcases i with _ | i
          · simp at hr
            obtain ⟨rfl, rfl⟩ := hr
            exact (show 0 ≤ zs.getD 19 0 ∧ zs.getD 19 0 ≤ 4294967295 from Go.bounds_u32 (hw 19))
          rcases i with _ | i
          · simp at hr
            obtain ⟨rfl, rfl⟩ := hr
            exact (show -9223372036854775808 ≤ zs.getD 20 0 ∧ zs.getD 20 0 ≤ 9223372036854775807 from Go.bounds_i64 (hw 20))
          rcases i with _ | i
          · simp at hr
            obtain ⟨rfl, rfl⟩ := hr
            exact (show -9223372036854775808 ≤ zs.getD 21 0 ∧ zs.getD 21 0 ≤ 9223372036854775807 from Go.bounds_i64 (hw 21))
          rcases i with _ | i
          · simp at hr
            obtain ⟨rfl, rfl⟩ := hr
            exact (show -9223372036854775808 ≤ zs.getD 22 0 ∧ zs.getD 22 0 ≤ 9223372036854775807 from Go.bounds_i64 (hw 22))
          rcases i with _ | i
          · simp at hr
            obtain ⟨rfl, rfl⟩ := hr
            exact (show -9223372036854775808 ≤ zs.getD 23 0 ∧ zs.getD 23 0 ≤ 9223372036854775807 from Go.bounds_i64 (hw 23))
          rcases i with _ | i
          · simp at hr
            obtain ⟨rfl, rfl⟩ := hr
            exact (show 0 ≤ zs.getD 24 0 ∧ zs.getD 24 0 ≤ 4294967295 from Go.bounds_u32 (hw 24))
          rcases i with _ | i
          · simp at hr
            obtain ⟨rfl, rfl⟩ := hr
            exact (show -9223372036854775808 ≤ zs.getD 25 0 ∧ zs.getD 25 0 ≤ 9223372036854775807 from Go.bounds_i64 (hw 25))
          rcases i with _ | i
          · simp at hr
            obtain ⟨rfl, rfl⟩ := hr
            exact (show -9223372036854775808 ≤ zs.getD 26 0 ∧ zs.getD 26 0 ≤ 9223372036854775807 from Go.bounds_i64 (hw 26))
          rcases i with _ | i
          · simp at hr
            obtain ⟨rfl, rfl⟩ := hr
            exact (show -9223372036854775808 ≤ zs.getD 27 0 ∧ zs.getD 27 0 ≤ 9223372036854775807 from Go.bounds_i64 (hw 27))
          rcases i with _ | i
          · simp at hr
            obtain ⟨rfl, rfl⟩ := hr
            exact (show -9223372036854775808 ≤ zs.getD 28 0 ∧ zs.getD 28 0 ≤ 9223372036854775807 from Go.bounds_i64 (hw 28))
          rcases i with _ | i
          · simp at hr
            obtain ⟨rfl, rfl⟩ := hr
            exact (show 0 ≤ zs.getD 29 0 ∧ zs.getD 29 0 ≤ 4294967295 from Go.bounds_u32 (hw 29))
          rcases i with _ | i
          · simp at hr
            obtain ⟨rfl, rfl⟩ := hr
            exact (show -9223372036854775808 ≤ zs.getD 30 0 ∧ zs.getD 30 0 ≤ 9223372036854775807 from Go.bounds_i64 (hw 30))
          rcases i with _ | i
          · simp at hr
            obtain ⟨rfl, rfl⟩ := hr
            exact (show -9223372036854775808 ≤ zs.getD 31 0 ∧ zs.getD 31 0 ≤ 9223372036854775807 from Go.bounds_i64 (hw 31))
          rcases i with _ | i
          · simp at hr
            obtain ⟨rfl, rfl⟩ := hr
            exact (show -9223372036854775808 ≤ zs.getD 32 0 ∧ zs.getD 32 0 ≤ 9223372036854775807 from Go.bounds_i64 (hw 32))
          rcases i with _ | i
          · simp at hr
            obtain ⟨rfl, rfl⟩ := hr
            exact (show -9223372036854775808 ≤ zs.getD 33 0 ∧ zs.getD 33 0 ≤ 9223372036854775807 from Go.bounds_i64 (hw 33))
          rcases i with _ | i
          · simp at hr
            obtain ⟨rfl, rfl⟩ := hr
            exact (show 0 ≤ zs.getD 34 0 ∧ zs.getD 34 0 ≤ 4294967295 from Go.bounds_u32 (hw 34))
          simp at hr
        have q9 : (n1 < 0) ∨ (n1 = 0) ∨ (n1 = 1) ∨ (1 < n1) := by omega
        rcases q9 with q9 | q9 | q9 | q9
        ·
          refine case32 hL ⟨hrr, ?_⟩ TabOk.nil R g (VRs.cons (vr_list (sz := 5) hρ hsp hle) (VRs.cons (by simp [VR, E.den, sg]) (VRs.nil)))
          · intro q a b t hm
            simp only [List.mem_cons, List.not_mem_nil, or_false, Prod.mk.injEq] at hm
            obtain ⟨rfl, rfl, rfl, rfl⟩ := hm
            simp [E.den, bopV, sg]
            try omega
        ·
          refine case33 hL ⟨hrr, ?_⟩ TabOk.nil R g (VRs.cons (vr_list (sz := 5) hρ hsp hle) (VRs.cons (by simp [VR, E.den, sg]) (VRs.nil)))
          · intro q a b t hm
            simp only [List.mem_cons, List.not_mem_nil, or_false, Prod.mk.injEq] at hm
            obtain ⟨rfl, rfl, rfl, rfl⟩ := hm
            simp [E.den, bopV, sg]
            try omega
        ·
          refine case34 hL ⟨hrr, ?_⟩ TabOk.nil R g (VRs.cons (vr_list (sz := 5) hρ hsp hle) (VRs.cons (by simp [VR, E.den, sg]) (VRs.nil)))
          · intro q a b t hm
            simp only [List.mem_cons, List.not_mem_nil, or_false, Prod.mk.injEq] at hm
            obtain ⟨rfl, rfl, rfl, rfl⟩ := hm
            simp [E.den, bopV, sg]
            try omega
        ·
          refine case35 hL ⟨hrr, ?_⟩ TabOk.nil R g (VRs.cons (vr_list (sz := 5) hρ hsp hle) (VRs.cons (by simp [VR, E.den, sg]) (VRs.nil)))
          · intro q a b t hm
            simp only [List.mem_cons, List.not_mem_nil, or_false, Prod.mk.injEq] at hm
            rcases hm with ⟨rfl, rfl, rfl, rfl⟩ | ⟨rfl, rfl, rfl, rfl⟩
            ·
              simp [E.den, bopV, sg]
              try omega
            ·
              simp [E.den, bopV, sg]
              try omega
      · have hr := rowK (k := kk) (n := (8) * 5) (m := cap * 5) (by omega) (by omega) hcell
        have hsp : a.spot = none := by rw [hr.spot]
        obtain ⟨ρ, R, g, hρ⟩ := start_row (σ := (sg n1 zs)) s1 s2 s3 errs_all errs_lt hr (row := kRow kk 1 40 0) (fun ρ => by rw [List.range_eq_range']; exact vrs_k (b := 1) (fun i => by simp [sg]) 40 0) (by decide)
        have hrr : ∀ (i : Nat) (lo hi : Int), ([((-9223372036854775808), 9223372036854775807), ((-9223372036854775808), 9223372036854775807), ((-9223372036854775808), 9223372036854775807), ((-9223372036854775808), 9223372036854775807), ((-9223372036854775808), 9223372036854775807), (0, 4294967295), ((-9223372036854775808), 9223372036854775807), ((-9223372036854775808), 9223372036854775807), ((-9223372036854775808), 9223372036854775807), ((-9223372036854775808), 9223372036854775807), (0, 4294967295), ((-9223372036854775808), 9223372036854775807), ((-9223372036854775808), 9223372036854775807), ((-9223372036854775808), 9223372036854775807), ((-9223372036854775808), 9223372036854775807), (0, 4294967295), ((-9223372036854775808), 9223372036854775807), ((-9223372036854775808), 9223372036854775807), ((-9223372036854775808), 9223372036854775807), ((-9223372036854775808), 9223372036854775807), (0, 4294967295), ((-9223372036854775808), 9223372036854775807), ((-9223372036854775808), 9223372036854775807), ((-9223372036854775808), 9223372036854775807), ((-9223372036854775808), 9223372036854775807), (0, 4294967295), ((-9223372036854775808), 9223372036854775807), ((-9223372036854775808), 9223372036854775807), ((-9223372036854775808), 9223372036854775807), ((-9223372036854775808), 9223372036854775807), (0, 4294967295), ((-9223372036854775808), 9223372036854775807), ((-9223372036854775808), 9223372036854775807), ((-9223372036854775808), 9223372036854775807), ((-9223372036854775808), 9223372036854775807), (0, 4294967295), ((-9223372036854775808), 9223372036854775807), ((-9223372036854775808), 9223372036854775807), ((-9223372036854775808), 9223372036854775807), ((-9223372036854775808), 9223372036854775807), (0, 4294967295)] : List (Int × Int))[i]? = some (lo, hi) → lo ≤ (sg n1 zs) i ∧ (sg n1 zs) i ≤ hi := by
          intro i lo hi hr
          rcases i with _ | i
          · simp at hr
            obtain ⟨rfl, rfl⟩ := hr
            exact ⟨by show -9223372036854775808 ≤ n1; omega, by show n1 ≤ 9223372036854775807; omega⟩
          rcases i with _ | i
          · simp at hr
            obtain ⟨rfl, rfl⟩ := hr
            exact (show -9223372036854775808 ≤ zs.getD 0 0 ∧ zs.getD 0 0 ≤ 9223372036854775807 from Go.bounds_i64 (hw 0))
          rcases i with _ | i
          · simp at hr
            obtain ⟨rfl, rfl⟩ := hr
            exact (show -9223372036854775808 ≤ zs.getD 1 0 ∧ zs.getD 1 0 ≤ 9223372036854775807 from Go.bounds_i64 (hw 1))
          rcases i with _ | i
          · simp at hr
            obtain ⟨rfl, rfl⟩ := hr
            exact (show -9223372036854775808 ≤ zs.getD 2 0 ∧ zs.getD 2 0 ≤ 9223372036854775807 from Go.bounds_i64 (hw 2))
          rcases i with _ | i
          · simp at hr
            obtain ⟨rfl, rfl⟩ := hr
            exact (show -9223372036854775808 ≤ zs.getD 3 0 ∧ zs.getD 3 0 ≤ 9223372036854775807 from Go.bounds_i64 (hw 3))
          rcases i with _ | i
          · simp at hr
            obtain ⟨rfl, rfl⟩ := hr
            exact (show 0 ≤ zs.getD 4 0 ∧ zs.getD 4 0 ≤ 4294967295 from Go.bounds_u32 (hw 4))
          rcases i with _ | i
          · simp at hr
            obtain ⟨rfl, rfl⟩ := hr
            exact (show -9223372036854775808 ≤ zs.getD 5 0 ∧ zs.getD 5 0 ≤ 9223372036854775807 from Go.bounds_i64 (hw 5))
          rcases i with _ | i
          · simp at hr
            obtain ⟨rfl, rfl⟩ := hr
            exact (show -9223372036854775808 ≤ zs.getD 6 0 ∧ zs.getD 6 0 ≤ 9223372036854775807 from Go.bounds_i64 (hw 6))
          rcases i with _ | i
          · simp at hr
            obtain ⟨rfl, rfl⟩ := hr
            exact (show -9223372036854775808 ≤ zs.getD 7 0 ∧ zs.getD 7 0 ≤ 9223372036854775807 from Go.bounds_i64 (hw 7))
          rcases i with _ | i
          · simp at hr
            obtain ⟨rfl, rfl⟩ := hr
            exact (show -9223372036854775808 ≤ zs.getD 8 0 ∧ zs.getD 8 0 ≤ 9223372036854775807 from Go.bounds_i64 (hw 8))
          rcases i with _ | i
          · simp at hr
            obtain ⟨rfl, rfl⟩ := hr
            exact (show 0 ≤ zs.getD 9 0 ∧ zs.getD 9 0 ≤ 4294967295 from Go.bounds_u32 (hw 9))
          rcases i with _ | i
          · simp at hr
            obtain ⟨rfl, rfl⟩ := hr
            exact (show -9223372036854775808 ≤ zs.getD 10 0 ∧ zs.getD 10 0 ≤ 9223372036854775807 from Go.bounds_i64 (hw 10))
          rcases i with _ | i
          · simp at hr
            obtain ⟨rfl, rfl⟩ := hr
            exact (show -9223372036854775808 ≤ zs.getD 11 0 ∧ zs.getD 11 0 ≤ 9223372036854775807 from Go.bounds_i64 (hw 11))
          rcases i with _ | i
          · simp at hr
            obtain ⟨rfl, rfl⟩ := hr
            exact (show -9223372036854775808 ≤ zs.getD 12 0 ∧ zs.getD 12 0 ≤ 9223372036854775807 from Go.bounds_i64 (hw 12))
          rcases i with _ | i
          · simp at hr
            obtain ⟨rfl, rfl⟩ := hr
            exact (show -9223372036854775808 ≤ zs.getD 13 0 ∧ zs.getD 13 0 ≤ 9223372036854775807 from Go.bounds_i64 (hw 13))
          rcases i with _ | i
          · simp at hr
            obtain ⟨rfl, rfl⟩ := hr
            exact (show 0 ≤ zs.getD 14 0 ∧ zs.getD 14 0 ≤ 4294967295 from Go.bounds_u32 (hw 14))
          rcases i with _ | i
          · simp at hr
            obtain ⟨rfl, rfl⟩ := hr
            exact (show -9223372036854775808 ≤ zs.getD 15 0 ∧ zs.getD 15 0 ≤ 9223372036854775807 from Go.bounds_i64 (hw 15))
          rcases i with _ | i
          · simp at hr
            obtain ⟨rfl, rfl⟩ := hr
            exact (show -9223372036854775808 ≤ zs.getD 16 0 ∧ zs.getD 16 0 ≤ 9223372036854775807 from Go.bounds_i64 (hw 16))
          rcases i with _ | i
          · simp at hr
            obtain ⟨rfl, rfl⟩ := hr
            exact (show -9223372036854775808 ≤ zs.getD 17 0 ∧ zs.getD 17 0 ≤ 9223372036854775807 from Go.bounds_i64 (hw 17))
          rcases i with _ | i
          · simp at hr
            obtain ⟨rfl, rfl⟩ := hr
            exact (show -9223372036854775808 ≤ zs.getD 18 0 ∧ zs.getD 18 0 ≤ 9223372036854775807 from Go.bounds_i64 (hw 18))
          rcases i with _ | i
          · simp at hr
            obtain ⟨rfl, rfl⟩ := hr
            exact (show 0 ≤ zs.getD 19 0 ∧ zs.getD 19 0 ≤ 4294967295 from Go.bounds_u32 (hw 19))
          rcases i with _ | i
          · simp at hr
            obtain ⟨rfl, rfl⟩ := hr
            exact (show -9223372036854775808 ≤ zs.getD 20 0 ∧ zs.getD 20 0 ≤ 9223372036854775807 from Go.bounds_i64 (hw 20))
          rcases i with _ | i
          · simp at hr
            obtain ⟨rfl, rfl⟩ := hr
            exact (show -9223372036854775808 ≤ zs.getD 21 0 ∧ zs.getD 21 0 ≤ 9223372036854775807 from Go.bounds_i64 (hw 21))
          rcases i with _ | i
          · simp at hr
            obtain ⟨rfl, rfl⟩ := hr
            exact (show -9223372036854775808 ≤ zs.getD 22 0 ∧ zs.getD 22 0 ≤ 9223372036854775807 from Go.bounds_i64 (hw 22))
          rcases i with _ | i
          · simp at hr
            obtain ⟨rfl, rfl⟩ := hr
            exact (show -9223372036854775808 ≤ zs.getD 23 0 ∧ zs.getD 23 0 ≤ 9223372036854775807 from Go.bounds_i64 (hw 23))
          rcases i with _ | i
          · simp at hr
            obtain ⟨rfl, rfl⟩ := hr
            exact (show 0 ≤ zs.getD 24 0 ∧ zs.getD 24 0 ≤ 4294967295 from Go.bounds_u32 (hw 24))
          rcases i with _ | i
          · simp at hr
            obtain ⟨rfl, rfl⟩ := hr
            exact (show -9223372036854775808 ≤ zs.getD 25 0 ∧ zs.getD 25 0 ≤ 9223372036854775807 from Go.bounds_i64 (hw 25))
          rcases i with _ | i
          · simp at hr
            obtain ⟨rfl, rfl⟩ := hr
            exact (show -9223372036854775808 ≤ zs.getD 26 0 ∧ zs.getD 26 0 ≤ 9223372036854775807 from Go.bounds_i64 (hw 26))
          rcases i with _ | i
          · simp at hr
            obtain ⟨rfl, rfl⟩ := hr
            exact (show -9223372036854775808 ≤ zs.getD 27 0 ∧ zs.getD 27 0 ≤ 9223372036854775807 from Go.bounds_i64 (hw 27))
          rcases i with _ | i
          · simp at hr
            obtain ⟨rfl, rfl⟩ := hr
            exact (show -9223372036854775808 ≤ zs.getD 28 0 ∧ zs.getD 28 0 ≤ 9223372036854775807 from Go.bounds_i64 (hw 28))
          rcases i with _ | i
          · simp at hr
            obtain ⟨rfl, rfl⟩ := hr
            exact (show 0 ≤ zs.getD 29 0 ∧ zs.getD 29 0 ≤ 4294967295 from Go.bounds_u32 (hw 29))
          rcases i with _ | i
          · simp at hr
            obtain ⟨rfl, rfl⟩ := hr
            exact (show -9223372036854775808 ≤ zs.getD 30 0 ∧ zs.getD 30 0 ≤ 9223372036854775807 from Go.bounds_i64 (hw 30))
          rcases i with _ | i
          · simp at hr
            obtain ⟨rfl, rfl⟩ := hr
            exact (show -9223372036854775808 ≤ zs.getD 31 0 ∧ zs.getD 31 0 ≤ 9223372036854775807 from Go.bounds_i64 (hw 31))
          rcases i with _ | i
          · simp at hr
            obtain ⟨rfl, rfl⟩ := hr
            exact (show -9223372036854775808 ≤ zs.getD 32 0 ∧ zs.getD 32 0 ≤ 9223372036854775807 from Go.bounds_i64 (hw 32))
          rcases i with _ | i
          · simp at hr
            obtain ⟨rfl, rfl⟩ := hr
            exact (show -9223372036854775808 ≤ zs.getD 33 0 ∧ zs.getD 33 0 ≤ 9223372036854775807 from Go.bounds_i64 (hw 33))
          rcases i with _ | i
          · simp at hr
            obtain ⟨rfl, rfl⟩ := hr
            exact (show 0 ≤ zs.getD 34 0 ∧ zs.getD 34 0 ≤ 4294967295 from Go.bounds_u32 (hw 34))
          rcases i with _ | i
          · simp at hr
            obtain ⟨rfl, rfl⟩ := hr
            exact (show -9223372036854775808 ≤ zs.getD 35 0 ∧ zs.getD 35 0 ≤ 9223372036854775807 from Go.bounds_i64 (hw 35))
          rcases i with _ | i
          · simp at hr
            obtain ⟨rfl, rfl⟩ := hr
            exact (show -9223372036854775808 ≤ zs.getD 36 0 ∧ zs.getD 36 0 ≤ 9223372036854775807 from Go.bounds_i64 (hw 36))
          rcases i with _ | i
          · simp at hr
            obtain ⟨rfl, rfl⟩ := hr
            exact (show -9223372036854775808 ≤ zs.getD 37 0 ∧ zs.getD 37 0 ≤ 9223372036854775807 from Go.bounds_i64 (hw 37))
          rcases i with _ | i
          · simp at hr
            obtain ⟨rfl, rfl⟩ := hr
            exact (show -9223372036854775808 ≤ zs.getD 38 0 ∧ zs.getD 38 0 ≤ 9223372036854775807 from Go.bounds_i64 (hw 38))
          rcases i with _ | i
          · simp at hr
            obtain ⟨rfl, rfl⟩ := hr
            exact (show 0 ≤ zs.getD 39 0 ∧ zs.getD 39 0 ≤ 4294967295 from Go.bounds_u32 (hw 39))
          simp at hr
        have q10 : (n1 < 0) ∨ (n1 = 0) ∨ (n1 = 1) ∨ (1 < n1) := by omega
        rcases q10 with q10 | q10 | q10 | q10
        ·
          refine case36 hL ⟨hrr, ?_⟩ TabOk.nil R g (VRs.cons (vr_list (sz := 5) hρ hsp hle) (VRs.cons (by simp [VR, E.den, sg]) (VRs.nil)))
          · intro q a b t hm
            simp only [List.mem_cons, List.not_mem_nil, or_false, Prod.mk.injEq] at hm
            obtain ⟨rfl, rfl, rfl, rfl⟩ := hm
            simp [E.den, bopV, sg]
            try omega
        ·
          refine case37 hL ⟨hrr, ?_⟩ TabOk.nil R g (VRs.cons (vr_list (sz := 5) hρ hsp hle) (VRs.cons (by simp [VR, E.den, sg]) (VRs.nil)))
          · intro q a b t hm
            simp only [List.mem_cons, List.not_mem_nil, or_false, Prod.mk.injEq] at hm
            obtain ⟨rfl, rfl, rfl, rfl⟩ := hm
            simp [E.den, bopV, sg]
            try omega
        ·
          refine case38 hL ⟨hrr, ?_⟩ TabOk.nil R g (VRs.cons (vr_list (sz := 5) hρ hsp hle) (VRs.cons (by simp [VR, E.den, sg]) (VRs.nil)))
          · intro q a b t hm
            simp only [List.mem_cons, List.not_mem_nil, or_false, Prod.mk.injEq] at hm
            obtain ⟨rfl, rfl, rfl, rfl⟩ := hm
            simp [E.den, bopV, sg]
            try omega
        ·
          refine case39 hL ⟨hrr, ?_⟩ TabOk.nil R g (VRs.cons (vr_list (sz := 5) hρ hsp hle) (VRs.cons (by simp [VR, E.den, sg]) (VRs.nil)))
          · intro q a b t hm
            simp only [List.mem_cons, List.not_mem_nil, or_false, Prod.mk.injEq] at hm
            rcases hm with ⟨rfl, rfl, rfl, rfl⟩ | ⟨rfl, rfl, rfl, rfl⟩
            ·
              simp [E.den, bopV, sg]
              try omega
            ·
              simp [E.den, bopV, sg]
              try omega
end Go.Proofs.YtblmlpebhfbceaaDoor.bootGrants
