/- BootApart returns true for every input, and the input reads as it did; the listed errors hold what the program text lays. -/
import Derived.Test.YtoldbgemlnkfkaaDoorBaK3
import Derived.Deep.DeepWitnessRowRef
import Derived.Lay
set_option linter.unusedVariables false
set_option linter.unusedSimpArgs false
set_option maxRecDepth 10000000
namespace Go.Proofs.YtoldbgemlnkfkaaDoor.bootApart
open Tk
open Go.ChangeShapes Go.WideShapes Go.ChangeAt Go.RowKit

theorem lay_out : laidOutB Tryd.prog = true := by kernel_rfl
theorem own : ownKnob Tryd.prog.godebug = none := by kernel_rfl
def sg (n0 n2 k : Int) (zs : List Int) : Nat → Int := fun i => if i = 0 then n0 else if i = 1 then n2 else if i < 8 then Tk.numOf (zs.getD (i - 2) 0) k else zs.getD (i - 8) 0
theorem sg_z (n0 n2 k : Int) (zs : List Int) (i : Nat) : sg n0 n2 k zs (8 + i) = zs.getD i 0 := by
  unfold sg
  rw [if_neg (by omega), if_neg (by omega), if_neg (by omega)]
  congr 1; omega
theorem kn (n0 n2 k : Int) (zs : List Int) (c : Int) (m : Nat) (hk : 0 < k) (hc : k = c + 1) (h0 : -9223372036854775808 ≤ n0 ∧ n0 ≤ 9223372036854775807) (h2 : 0 ≤ n2 ∧ n2 ≤ 4294967295) (hz : ∀ j, -9223372036854775808 ≤ zs.getD j 0 ∧ zs.getD j 0 ≤ 9223372036854775807) :
    Known2 (sg n0 n2 k zs) ([(-9223372036854775808, 9223372036854775807), (0, 4294967295), (0, c), (0, c), (0, c), (0, c), (0, c), (0, c)] ++ List.replicate m (-9223372036854775808, 9223372036854775807)) [] := by
  have nr : ∀ j, 0 ≤ Tk.numOf (zs.getD j 0) k ∧ Tk.numOf (zs.getD j 0) k ≤ c := fun j => by
    have := Tk.numOf_range (zs.getD j 0) k hk
    omega
  refine ⟨fun i lo hi hr => ?_, fun q a b t hm => by cases hm⟩
  rcases i with _ | _ | _ | _ | _ | _ | _ | _ | i
  · simp at hr; obtain ⟨rfl, rfl⟩ := hr; exact h0
  · simp at hr; obtain ⟨rfl, rfl⟩ := hr; exact h2
  · simp at hr; obtain ⟨rfl, rfl⟩ := hr; exact nr 0
  · simp at hr; obtain ⟨rfl, rfl⟩ := hr; exact nr 1
  · simp at hr; obtain ⟨rfl, rfl⟩ := hr; exact nr 2
  · simp at hr; obtain ⟨rfl, rfl⟩ := hr; exact nr 3
  · simp at hr; obtain ⟨rfl, rfl⟩ := hr; exact nr 4
  · simp at hr; obtain ⟨rfl, rfl⟩ := hr; exact nr 5
  · simp [List.getElem?_replicate] at hr
    obtain ⟨_, rfl, rfl⟩ := hr
    have e : i + 1 + 1 + 1 + 1 + 1 + 1 + 1 + 1 = 8 + i := by omega
    rw [e, sg_z]
    exact hz i
theorem tc {σ : Nat → Int} {num : FuncId} {tab : NumTabE} {i j : Nat} {k : Int} (hr : NumRuns Tryd.prog bad num k ∧ 0 < k ∧ k < 4611686018427387904) (h2 : -9223372036854775808 ≤ σ i ∧ σ i ≤ 9223372036854775807) (h : TabOk Tryd.prog bad num σ tab) (h4 : numOf (σ i) k = σ j := by rfl) : TabOk Tryd.prog bad num σ ((i, k, .var j) :: tab) := TabOk.cons hr.1 hr.2.1 hr.2.2 h2.1 h2.2 h4 h
theorem nu1 : NumRuns Tryd.prog bad 11 1 ∧ (0 : Int) < 1 ∧ (1 : Int) < 4611686018427387904 := ⟨num1, by decide, by decide⟩
theorem nu2 : NumRuns Tryd.prog bad 11 2 ∧ (0 : Int) < 2 ∧ (2 : Int) < 4611686018427387904 := ⟨num2, by decide, by decide⟩
theorem nu3 : NumRuns Tryd.prog bad 11 3 ∧ (0 : Int) < 3 ∧ (3 : Int) < 4611686018427387904 := ⟨num3, by decide, by decide⟩
theorem nu4 : NumRuns Tryd.prog bad 11 4 ∧ (0 : Int) < 4 ∧ (4 : Int) < 4611686018427387904 := ⟨num4, by decide, by decide⟩
theorem nu5 : NumRuns Tryd.prog bad 11 5 ∧ (0 : Int) < 5 ∧ (5 : Int) < 4611686018427387904 := ⟨num5, by decide, by decide⟩
theorem walk (W : World) (n0 : Int) (hn0 : (Lit.int .i64 n0).wf = true) (v1 : Value) (hn1 : IsInts W .i64 v1) (n2 : Int) (hn2 : (Lit.int .u32 n2).wf = true) (hL : laidMetH Tryd.prog Rows.bootApartRow.laid W) : Calls Tryd.prog 4 #[.int .i64 n0, v1, .int .u32 n2] W fun e w' => e = .returned (.bool true) ∧ Below W.heap.size W w' := by
  simp only [Lit.wf, Bool.and_eq_true, decide_eq_true_eq] at hn0
  have lo0 : -9223372036854775808 ≤ n0 := hn0.1
  have hi0 : n0 ≤ 9223372036854775807 := hn0.2
  simp only [Lit.wf, Bool.and_eq_true, decide_eq_true_eq] at hn2
  have lo2 : 0 ≤ n2 := hn2.1
  have hi2 : n2 ≤ 4294967295 := hn2.2
  obtain ⟨ads, s1, s2, s3⟩ := errs_sents hL
  obtain ⟨ra, rb⟩ := Tk.numOf_range n0 5 (by decide)
  have e0 : Tk.numOf n0 5 = 0 ∨ Tk.numOf n0 5 = 1 ∨ Tk.numOf n0 5 = 2 ∨ Tk.numOf n0 5 = 3 ∨ Tk.numOf n0 5 = 4 := by omega
  rcases e0 with e0 | e1 | e2 | e3 | e4
  · rcases hn1 with rfl | ⟨a, len, cap, zs, rfl, hle, hz0, hcell, hw⟩
    · let zs : List Int := []
      obtain ⟨ρ, R, g⟩ := start_skip (σ := (sg n0 n2 1 zs)) s1 s2 s3 errs_all errs_lt
      exact case0 hL (kn n0 n2 1 zs 0 0 (by decide) (by decide) ⟨lo0, hi0⟩ ⟨lo2, hi2⟩ (fun j => by simp [zs])) (TabOk.cons num5 (by decide) (by decide) lo0 hi0 e0 (TabOk.nil)) R g (VRs.cons (by simp [VR, E.den, sg]) (VRs.cons (vr_nil) (VRs.cons (by simp [VR, E.den, sg]) (VRs.nil))))
    · have hz : ∀ j, -9223372036854775808 ≤ zs.getD j 0 ∧ zs.getD j 0 ≤ 9223372036854775807 := fun j => Go.bounds_i64 (ints_wf hw j)
      rcases Nat.lt_or_ge 6 len with hb | hb
      · obtain ⟨m, rfl⟩ : ∃ m, len = m + 7 := ⟨len - 7, by omega⟩
        have hr := rowInts (len := m + 7) hle (by omega) hcell
        have hsp : a.spot = none := by rw [hr.spot]
        obtain ⟨ρ, R, g, hρ⟩ := start_name (σ := (sg n0 n2 1 zs)) s1 s2 s3 errs_all errs_lt ⟨a.block, a.off, cap * 1⟩ hr.lt
        exact case8 m hL (Known2.nil _) (TabOk.cons num5 (by decide) (by decide) lo0 hi0 e0 TabOk.nil) R g (VRs.cons (by simp [VR, E.den, sg]) (VRs.cons (vr_list (sz := 1) hρ hsp hle) (VRs.cons (by simp [VR, E.den, sg]) (VRs.nil))))
      · have e : len = 0 ∨ len = 1 ∨ len = 2 ∨ len = 3 ∨ len = 4 ∨ len = 5 ∨ len = 6 := by omega
        rcases e with rfl | rfl | rfl | rfl | rfl | rfl | rfl
        · obtain ⟨ρ, R, g⟩ := start_skip (σ := (sg n0 n2 1 zs)) s1 s2 s3 errs_all errs_lt
          exact case1 hL (kn n0 n2 1 zs 0 0 (by decide) (by decide) ⟨lo0, hi0⟩ ⟨lo2, hi2⟩ hz) (TabOk.cons num5 (by decide) (by decide) lo0 hi0 e0 (TabOk.nil)) R g (VRs.cons (by simp [VR, E.den, sg]) (VRs.cons (vr_empty) (VRs.cons (by simp [VR, E.den, sg]) (VRs.nil))))
        · have hr := rowInts (len := 1) hle (by omega) hcell
          have hsp : a.spot = none := by rw [hr.spot]
          obtain ⟨ρ, R, g, hρ⟩ := start_row (σ := (sg n0 n2 1 zs)) s1 s2 s3 errs_all errs_lt hr (row := intRow .i64 8 1) (fun ρ => by rw [List.range_eq_range']; exact vrs_ints 1 8 0 (fun i => by rw [sg_z]; simp)) (by decide)
          rw [show cap = cap * 1 by omega] at hρ
          exact case2 hL (kn n0 n2 1 zs 0 1 (by decide) (by decide) ⟨lo0, hi0⟩ ⟨lo2, hi2⟩ hz) (TabOk.cons num5 (by decide) (by decide) lo0 hi0 e0 (tc nu1 (hz 0) (TabOk.nil))) R g (VRs.cons (by simp [VR, E.den, sg]) (VRs.cons (vr_list (sz := 1) hρ hsp hle) (VRs.cons (by simp [VR, E.den, sg]) (VRs.nil))))
        · have hr := rowInts (len := 2) hle (by omega) hcell
          have hsp : a.spot = none := by rw [hr.spot]
          obtain ⟨ρ, R, g, hρ⟩ := start_row (σ := (sg n0 n2 1 zs)) s1 s2 s3 errs_all errs_lt hr (row := intRow .i64 8 2) (fun ρ => by rw [List.range_eq_range']; exact vrs_ints 2 8 0 (fun i => by rw [sg_z]; simp)) (by decide)
          rw [show cap = cap * 1 by omega] at hρ
          exact case3 hL (kn n0 n2 1 zs 0 2 (by decide) (by decide) ⟨lo0, hi0⟩ ⟨lo2, hi2⟩ hz) (TabOk.cons num5 (by decide) (by decide) lo0 hi0 e0 (tc nu1 (hz 0) (tc nu1 (hz 1) (TabOk.nil)))) R g (VRs.cons (by simp [VR, E.den, sg]) (VRs.cons (vr_list (sz := 1) hρ hsp hle) (VRs.cons (by simp [VR, E.den, sg]) (VRs.nil))))
        · have hr := rowInts (len := 3) hle (by omega) hcell
          have hsp : a.spot = none := by rw [hr.spot]
          obtain ⟨ρ, R, g, hρ⟩ := start_row (σ := (sg n0 n2 1 zs)) s1 s2 s3 errs_all errs_lt hr (row := intRow .i64 8 3) (fun ρ => by rw [List.range_eq_range']; exact vrs_ints 3 8 0 (fun i => by rw [sg_z]; simp)) (by decide)
          rw [show cap = cap * 1 by omega] at hρ
          exact case4 hL (kn n0 n2 1 zs 0 3 (by decide) (by decide) ⟨lo0, hi0⟩ ⟨lo2, hi2⟩ hz) (TabOk.cons num5 (by decide) (by decide) lo0 hi0 e0 (tc nu1 (hz 0) (tc nu1 (hz 1) (tc nu1 (hz 2) (TabOk.nil))))) R g (VRs.cons (by simp [VR, E.den, sg]) (VRs.cons (vr_list (sz := 1) hρ hsp hle) (VRs.cons (by simp [VR, E.den, sg]) (VRs.nil))))
        · have hr := rowInts (len := 4) hle (by omega) hcell
          have hsp : a.spot = none := by rw [hr.spot]
          obtain ⟨ρ, R, g, hρ⟩ := start_row (σ := (sg n0 n2 1 zs)) s1 s2 s3 errs_all errs_lt hr (row := intRow .i64 8 4) (fun ρ => by rw [List.range_eq_range']; exact vrs_ints 4 8 0 (fun i => by rw [sg_z]; simp)) (by decide)
          rw [show cap = cap * 1 by omega] at hρ
          exact case5 hL (kn n0 n2 1 zs 0 4 (by decide) (by decide) ⟨lo0, hi0⟩ ⟨lo2, hi2⟩ hz) (TabOk.cons num5 (by decide) (by decide) lo0 hi0 e0 (tc nu1 (hz 0) (tc nu1 (hz 1) (tc nu1 (hz 2) (tc nu1 (hz 3) (TabOk.nil)))))) R g (VRs.cons (by simp [VR, E.den, sg]) (VRs.cons (vr_list (sz := 1) hρ hsp hle) (VRs.cons (by simp [VR, E.den, sg]) (VRs.nil))))
        · have hr := rowInts (len := 5) hle (by omega) hcell
          have hsp : a.spot = none := by rw [hr.spot]
          obtain ⟨ρ, R, g, hρ⟩ := start_row (σ := (sg n0 n2 1 zs)) s1 s2 s3 errs_all errs_lt hr (row := intRow .i64 8 5) (fun ρ => by rw [List.range_eq_range']; exact vrs_ints 5 8 0 (fun i => by rw [sg_z]; simp)) (by decide)
          rw [show cap = cap * 1 by omega] at hρ
          exact case6 hL (kn n0 n2 1 zs 0 5 (by decide) (by decide) ⟨lo0, hi0⟩ ⟨lo2, hi2⟩ hz) (TabOk.cons num5 (by decide) (by decide) lo0 hi0 e0 (tc nu1 (hz 0) (tc nu1 (hz 1) (tc nu1 (hz 2) (tc nu1 (hz 3) (tc nu1 (hz 4) (TabOk.nil))))))) R g (VRs.cons (by simp [VR, E.den, sg]) (VRs.cons (vr_list (sz := 1) hρ hsp hle) (VRs.cons (by simp [VR, E.den, sg]) (VRs.nil))))
        · have hr := rowInts (len := 6) hle (by omega) hcell
          have hsp : a.spot = none := by rw [hr.spot]
          obtain ⟨ρ, R, g, hρ⟩ := start_row (σ := (sg n0 n2 1 zs)) s1 s2 s3 errs_all errs_lt hr (row := intRow .i64 8 6) (fun ρ => by rw [List.range_eq_range']; exact vrs_ints 6 8 0 (fun i => by rw [sg_z]; simp)) (by decide)
          rw [show cap = cap * 1 by omega] at hρ
          exact case7 hL (kn n0 n2 1 zs 0 6 (by decide) (by decide) ⟨lo0, hi0⟩ ⟨lo2, hi2⟩ hz) (TabOk.cons num5 (by decide) (by decide) lo0 hi0 e0 (tc nu1 (hz 0) (tc nu1 (hz 1) (tc nu1 (hz 2) (tc nu1 (hz 3) (tc nu1 (hz 4) (tc nu1 (hz 5) (TabOk.nil)))))))) R g (VRs.cons (by simp [VR, E.den, sg]) (VRs.cons (vr_list (sz := 1) hρ hsp hle) (VRs.cons (by simp [VR, E.den, sg]) (VRs.nil))))
  · rcases hn1 with rfl | ⟨a, len, cap, zs, rfl, hle, hz0, hcell, hw⟩
    · let zs : List Int := []
      obtain ⟨ρ, R, g⟩ := start_skip (σ := (sg n0 n2 2 zs)) s1 s2 s3 errs_all errs_lt
      exact case9 hL (kn n0 n2 2 zs 1 0 (by decide) (by decide) ⟨lo0, hi0⟩ ⟨lo2, hi2⟩ (fun j => by simp [zs])) (TabOk.cons num5 (by decide) (by decide) lo0 hi0 e1 (TabOk.nil)) R g (VRs.cons (by simp [VR, E.den, sg]) (VRs.cons (vr_nil) (VRs.cons (by simp [VR, E.den, sg]) (VRs.nil))))
    · have hz : ∀ j, -9223372036854775808 ≤ zs.getD j 0 ∧ zs.getD j 0 ≤ 9223372036854775807 := fun j => Go.bounds_i64 (ints_wf hw j)
      rcases Nat.lt_or_ge 6 len with hb | hb
      · obtain ⟨m, rfl⟩ : ∃ m, len = m + 7 := ⟨len - 7, by omega⟩
        have hr := rowInts (len := m + 7) hle (by omega) hcell
        have hsp : a.spot = none := by rw [hr.spot]
        obtain ⟨ρ, R, g, hρ⟩ := start_name (σ := (sg n0 n2 2 zs)) s1 s2 s3 errs_all errs_lt ⟨a.block, a.off, cap * 1⟩ hr.lt
        exact case17 m hL (Known2.nil _) (TabOk.cons num5 (by decide) (by decide) lo0 hi0 e1 TabOk.nil) R g (VRs.cons (by simp [VR, E.den, sg]) (VRs.cons (vr_list (sz := 1) hρ hsp hle) (VRs.cons (by simp [VR, E.den, sg]) (VRs.nil))))
      · have e : len = 0 ∨ len = 1 ∨ len = 2 ∨ len = 3 ∨ len = 4 ∨ len = 5 ∨ len = 6 := by omega
        rcases e with rfl | rfl | rfl | rfl | rfl | rfl | rfl
        · obtain ⟨ρ, R, g⟩ := start_skip (σ := (sg n0 n2 2 zs)) s1 s2 s3 errs_all errs_lt
          exact case10 hL (kn n0 n2 2 zs 1 0 (by decide) (by decide) ⟨lo0, hi0⟩ ⟨lo2, hi2⟩ hz) (TabOk.cons num5 (by decide) (by decide) lo0 hi0 e1 (TabOk.nil)) R g (VRs.cons (by simp [VR, E.den, sg]) (VRs.cons (vr_empty) (VRs.cons (by simp [VR, E.den, sg]) (VRs.nil))))
        · have hr := rowInts (len := 1) hle (by omega) hcell
          have hsp : a.spot = none := by rw [hr.spot]
          obtain ⟨ρ, R, g, hρ⟩ := start_row (σ := (sg n0 n2 2 zs)) s1 s2 s3 errs_all errs_lt hr (row := intRow .i64 8 1) (fun ρ => by rw [List.range_eq_range']; exact vrs_ints 1 8 0 (fun i => by rw [sg_z]; simp)) (by decide)
          rw [show cap = cap * 1 by omega] at hρ
          exact case11 hL (kn n0 n2 2 zs 1 1 (by decide) (by decide) ⟨lo0, hi0⟩ ⟨lo2, hi2⟩ hz) (TabOk.cons num5 (by decide) (by decide) lo0 hi0 e1 (tc nu2 (hz 0) (TabOk.nil))) R g (VRs.cons (by simp [VR, E.den, sg]) (VRs.cons (vr_list (sz := 1) hρ hsp hle) (VRs.cons (by simp [VR, E.den, sg]) (VRs.nil))))
        · have hr := rowInts (len := 2) hle (by omega) hcell
          have hsp : a.spot = none := by rw [hr.spot]
          obtain ⟨ρ, R, g, hρ⟩ := start_row (σ := (sg n0 n2 2 zs)) s1 s2 s3 errs_all errs_lt hr (row := intRow .i64 8 2) (fun ρ => by rw [List.range_eq_range']; exact vrs_ints 2 8 0 (fun i => by rw [sg_z]; simp)) (by decide)
          rw [show cap = cap * 1 by omega] at hρ
          exact case12 hL (kn n0 n2 2 zs 1 2 (by decide) (by decide) ⟨lo0, hi0⟩ ⟨lo2, hi2⟩ hz) (TabOk.cons num5 (by decide) (by decide) lo0 hi0 e1 (tc nu2 (hz 0) (tc nu2 (hz 1) (TabOk.nil)))) R g (VRs.cons (by simp [VR, E.den, sg]) (VRs.cons (vr_list (sz := 1) hρ hsp hle) (VRs.cons (by simp [VR, E.den, sg]) (VRs.nil))))
        · have hr := rowInts (len := 3) hle (by omega) hcell
          have hsp : a.spot = none := by rw [hr.spot]
          obtain ⟨ρ, R, g, hρ⟩ := start_row (σ := (sg n0 n2 2 zs)) s1 s2 s3 errs_all errs_lt hr (row := intRow .i64 8 3) (fun ρ => by rw [List.range_eq_range']; exact vrs_ints 3 8 0 (fun i => by rw [sg_z]; simp)) (by decide)
          rw [show cap = cap * 1 by omega] at hρ
          exact case13 hL (kn n0 n2 2 zs 1 3 (by decide) (by decide) ⟨lo0, hi0⟩ ⟨lo2, hi2⟩ hz) (TabOk.cons num5 (by decide) (by decide) lo0 hi0 e1 (tc nu2 (hz 0) (tc nu2 (hz 1) (tc nu2 (hz 2) (TabOk.nil))))) R g (VRs.cons (by simp [VR, E.den, sg]) (VRs.cons (vr_list (sz := 1) hρ hsp hle) (VRs.cons (by simp [VR, E.den, sg]) (VRs.nil))))
        · have hr := rowInts (len := 4) hle (by omega) hcell
          have hsp : a.spot = none := by rw [hr.spot]
          obtain ⟨ρ, R, g, hρ⟩ := start_row (σ := (sg n0 n2 2 zs)) s1 s2 s3 errs_all errs_lt hr (row := intRow .i64 8 4) (fun ρ => by rw [List.range_eq_range']; exact vrs_ints 4 8 0 (fun i => by rw [sg_z]; simp)) (by decide)
          rw [show cap = cap * 1 by omega] at hρ
          exact case14 hL (kn n0 n2 2 zs 1 4 (by decide) (by decide) ⟨lo0, hi0⟩ ⟨lo2, hi2⟩ hz) (TabOk.cons num5 (by decide) (by decide) lo0 hi0 e1 (tc nu2 (hz 0) (tc nu2 (hz 1) (tc nu2 (hz 2) (tc nu2 (hz 3) (TabOk.nil)))))) R g (VRs.cons (by simp [VR, E.den, sg]) (VRs.cons (vr_list (sz := 1) hρ hsp hle) (VRs.cons (by simp [VR, E.den, sg]) (VRs.nil))))
        · have hr := rowInts (len := 5) hle (by omega) hcell
          have hsp : a.spot = none := by rw [hr.spot]
          obtain ⟨ρ, R, g, hρ⟩ := start_row (σ := (sg n0 n2 2 zs)) s1 s2 s3 errs_all errs_lt hr (row := intRow .i64 8 5) (fun ρ => by rw [List.range_eq_range']; exact vrs_ints 5 8 0 (fun i => by rw [sg_z]; simp)) (by decide)
          rw [show cap = cap * 1 by omega] at hρ
          exact case15 hL (kn n0 n2 2 zs 1 5 (by decide) (by decide) ⟨lo0, hi0⟩ ⟨lo2, hi2⟩ hz) (TabOk.cons num5 (by decide) (by decide) lo0 hi0 e1 (tc nu2 (hz 0) (tc nu2 (hz 1) (tc nu2 (hz 2) (tc nu2 (hz 3) (tc nu2 (hz 4) (TabOk.nil))))))) R g (VRs.cons (by simp [VR, E.den, sg]) (VRs.cons (vr_list (sz := 1) hρ hsp hle) (VRs.cons (by simp [VR, E.den, sg]) (VRs.nil))))
        · have hr := rowInts (len := 6) hle (by omega) hcell
          have hsp : a.spot = none := by rw [hr.spot]
          obtain ⟨ρ, R, g, hρ⟩ := start_row (σ := (sg n0 n2 2 zs)) s1 s2 s3 errs_all errs_lt hr (row := intRow .i64 8 6) (fun ρ => by rw [List.range_eq_range']; exact vrs_ints 6 8 0 (fun i => by rw [sg_z]; simp)) (by decide)
          rw [show cap = cap * 1 by omega] at hρ
          exact case16 hL (kn n0 n2 2 zs 1 6 (by decide) (by decide) ⟨lo0, hi0⟩ ⟨lo2, hi2⟩ hz) (TabOk.cons num5 (by decide) (by decide) lo0 hi0 e1 (tc nu2 (hz 0) (tc nu2 (hz 1) (tc nu2 (hz 2) (tc nu2 (hz 3) (tc nu2 (hz 4) (tc nu2 (hz 5) (TabOk.nil)))))))) R g (VRs.cons (by simp [VR, E.den, sg]) (VRs.cons (vr_list (sz := 1) hρ hsp hle) (VRs.cons (by simp [VR, E.den, sg]) (VRs.nil))))
  · rcases hn1 with rfl | ⟨a, len, cap, zs, rfl, hle, hz0, hcell, hw⟩
    · let zs : List Int := []
      obtain ⟨ρ, R, g⟩ := start_skip (σ := (sg n0 n2 3 zs)) s1 s2 s3 errs_all errs_lt
      exact case18 hL (kn n0 n2 3 zs 2 0 (by decide) (by decide) ⟨lo0, hi0⟩ ⟨lo2, hi2⟩ (fun j => by simp [zs])) (TabOk.cons num5 (by decide) (by decide) lo0 hi0 e2 (TabOk.nil)) R g (VRs.cons (by simp [VR, E.den, sg]) (VRs.cons (vr_nil) (VRs.cons (by simp [VR, E.den, sg]) (VRs.nil))))
    · have hz : ∀ j, -9223372036854775808 ≤ zs.getD j 0 ∧ zs.getD j 0 ≤ 9223372036854775807 := fun j => Go.bounds_i64 (ints_wf hw j)
      rcases Nat.lt_or_ge 6 len with hb | hb
      · obtain ⟨m, rfl⟩ : ∃ m, len = m + 7 := ⟨len - 7, by omega⟩
        have hr := rowInts (len := m + 7) hle (by omega) hcell
        have hsp : a.spot = none := by rw [hr.spot]
        obtain ⟨ρ, R, g, hρ⟩ := start_name (σ := (sg n0 n2 3 zs)) s1 s2 s3 errs_all errs_lt ⟨a.block, a.off, cap * 1⟩ hr.lt
        exact case26 m hL (Known2.nil _) (TabOk.cons num5 (by decide) (by decide) lo0 hi0 e2 TabOk.nil) R g (VRs.cons (by simp [VR, E.den, sg]) (VRs.cons (vr_list (sz := 1) hρ hsp hle) (VRs.cons (by simp [VR, E.den, sg]) (VRs.nil))))
      · have e : len = 0 ∨ len = 1 ∨ len = 2 ∨ len = 3 ∨ len = 4 ∨ len = 5 ∨ len = 6 := by omega
        rcases e with rfl | rfl | rfl | rfl | rfl | rfl | rfl
        · obtain ⟨ρ, R, g⟩ := start_skip (σ := (sg n0 n2 3 zs)) s1 s2 s3 errs_all errs_lt
          exact case19 hL (kn n0 n2 3 zs 2 0 (by decide) (by decide) ⟨lo0, hi0⟩ ⟨lo2, hi2⟩ hz) (TabOk.cons num5 (by decide) (by decide) lo0 hi0 e2 (TabOk.nil)) R g (VRs.cons (by simp [VR, E.den, sg]) (VRs.cons (vr_empty) (VRs.cons (by simp [VR, E.den, sg]) (VRs.nil))))
        · have hr := rowInts (len := 1) hle (by omega) hcell
          have hsp : a.spot = none := by rw [hr.spot]
          obtain ⟨ρ, R, g, hρ⟩ := start_row (σ := (sg n0 n2 3 zs)) s1 s2 s3 errs_all errs_lt hr (row := intRow .i64 8 1) (fun ρ => by rw [List.range_eq_range']; exact vrs_ints 1 8 0 (fun i => by rw [sg_z]; simp)) (by decide)
          rw [show cap = cap * 1 by omega] at hρ
          exact case20 hL (kn n0 n2 3 zs 2 1 (by decide) (by decide) ⟨lo0, hi0⟩ ⟨lo2, hi2⟩ hz) (TabOk.cons num5 (by decide) (by decide) lo0 hi0 e2 (tc nu3 (hz 0) (TabOk.nil))) R g (VRs.cons (by simp [VR, E.den, sg]) (VRs.cons (vr_list (sz := 1) hρ hsp hle) (VRs.cons (by simp [VR, E.den, sg]) (VRs.nil))))
        · have hr := rowInts (len := 2) hle (by omega) hcell
          have hsp : a.spot = none := by rw [hr.spot]
          obtain ⟨ρ, R, g, hρ⟩ := start_row (σ := (sg n0 n2 3 zs)) s1 s2 s3 errs_all errs_lt hr (row := intRow .i64 8 2) (fun ρ => by rw [List.range_eq_range']; exact vrs_ints 2 8 0 (fun i => by rw [sg_z]; simp)) (by decide)
          rw [show cap = cap * 1 by omega] at hρ
          exact case21 hL (kn n0 n2 3 zs 2 2 (by decide) (by decide) ⟨lo0, hi0⟩ ⟨lo2, hi2⟩ hz) (TabOk.cons num5 (by decide) (by decide) lo0 hi0 e2 (tc nu3 (hz 0) (tc nu3 (hz 1) (TabOk.nil)))) R g (VRs.cons (by simp [VR, E.den, sg]) (VRs.cons (vr_list (sz := 1) hρ hsp hle) (VRs.cons (by simp [VR, E.den, sg]) (VRs.nil))))
        · have hr := rowInts (len := 3) hle (by omega) hcell
          have hsp : a.spot = none := by rw [hr.spot]
          obtain ⟨ρ, R, g, hρ⟩ := start_row (σ := (sg n0 n2 3 zs)) s1 s2 s3 errs_all errs_lt hr (row := intRow .i64 8 3) (fun ρ => by rw [List.range_eq_range']; exact vrs_ints 3 8 0 (fun i => by rw [sg_z]; simp)) (by decide)
          rw [show cap = cap * 1 by omega] at hρ
          exact case22 hL (kn n0 n2 3 zs 2 3 (by decide) (by decide) ⟨lo0, hi0⟩ ⟨lo2, hi2⟩ hz) (TabOk.cons num5 (by decide) (by decide) lo0 hi0 e2 (tc nu3 (hz 0) (tc nu3 (hz 1) (tc nu3 (hz 2) (TabOk.nil))))) R g (VRs.cons (by simp [VR, E.den, sg]) (VRs.cons (vr_list (sz := 1) hρ hsp hle) (VRs.cons (by simp [VR, E.den, sg]) (VRs.nil))))
        · have hr := rowInts (len := 4) hle (by omega) hcell
          have hsp : a.spot = none := by rw [hr.spot]
          obtain ⟨ρ, R, g, hρ⟩ := start_row (σ := (sg n0 n2 3 zs)) s1 s2 s3 errs_all errs_lt hr (row := intRow .i64 8 4) (fun ρ => by rw [List.range_eq_range']; exact vrs_ints 4 8 0 (fun i => by rw [sg_z]; simp)) (by decide)
          rw [show cap = cap * 1 by omega] at hρ
          exact case23 hL (kn n0 n2 3 zs 2 4 (by decide) (by decide) ⟨lo0, hi0⟩ ⟨lo2, hi2⟩ hz) (TabOk.cons num5 (by decide) (by decide) lo0 hi0 e2 (tc nu3 (hz 0) (tc nu3 (hz 1) (tc nu3 (hz 2) (tc nu3 (hz 3) (TabOk.nil)))))) R g (VRs.cons (by simp [VR, E.den, sg]) (VRs.cons (vr_list (sz := 1) hρ hsp hle) (VRs.cons (by simp [VR, E.den, sg]) (VRs.nil))))
        · have hr := rowInts (len := 5) hle (by omega) hcell
          have hsp : a.spot = none := by rw [hr.spot]
          obtain ⟨ρ, R, g, hρ⟩ := start_row (σ := (sg n0 n2 3 zs)) s1 s2 s3 errs_all errs_lt hr (row := intRow .i64 8 5) (fun ρ => by rw [List.range_eq_range']; exact vrs_ints 5 8 0 (fun i => by rw [sg_z]; simp)) (by decide)
          rw [show cap = cap * 1 by omega] at hρ
          exact case24 hL (kn n0 n2 3 zs 2 5 (by decide) (by decide) ⟨lo0, hi0⟩ ⟨lo2, hi2⟩ hz) (TabOk.cons num5 (by decide) (by decide) lo0 hi0 e2 (tc nu3 (hz 0) (tc nu3 (hz 1) (tc nu3 (hz 2) (tc nu3 (hz 3) (tc nu3 (hz 4) (TabOk.nil))))))) R g (VRs.cons (by simp [VR, E.den, sg]) (VRs.cons (vr_list (sz := 1) hρ hsp hle) (VRs.cons (by simp [VR, E.den, sg]) (VRs.nil))))
        · have hr := rowInts (len := 6) hle (by omega) hcell
          have hsp : a.spot = none := by rw [hr.spot]
          obtain ⟨ρ, R, g, hρ⟩ := start_row (σ := (sg n0 n2 3 zs)) s1 s2 s3 errs_all errs_lt hr (row := intRow .i64 8 6) (fun ρ => by rw [List.range_eq_range']; exact vrs_ints 6 8 0 (fun i => by rw [sg_z]; simp)) (by decide)
          rw [show cap = cap * 1 by omega] at hρ
          exact case25 hL (kn n0 n2 3 zs 2 6 (by decide) (by decide) ⟨lo0, hi0⟩ ⟨lo2, hi2⟩ hz) (TabOk.cons num5 (by decide) (by decide) lo0 hi0 e2 (tc nu3 (hz 0) (tc nu3 (hz 1) (tc nu3 (hz 2) (tc nu3 (hz 3) (tc nu3 (hz 4) (tc nu3 (hz 5) (TabOk.nil)))))))) R g (VRs.cons (by simp [VR, E.den, sg]) (VRs.cons (vr_list (sz := 1) hρ hsp hle) (VRs.cons (by simp [VR, E.den, sg]) (VRs.nil))))
  · rcases hn1 with rfl | ⟨a, len, cap, zs, rfl, hle, hz0, hcell, hw⟩
    · let zs : List Int := []
      obtain ⟨ρ, R, g⟩ := start_skip (σ := (sg n0 n2 4 zs)) s1 s2 s3 errs_all errs_lt
      exact case27 hL (kn n0 n2 4 zs 3 0 (by decide) (by decide) ⟨lo0, hi0⟩ ⟨lo2, hi2⟩ (fun j => by simp [zs])) (TabOk.cons num5 (by decide) (by decide) lo0 hi0 e3 (TabOk.nil)) R g (VRs.cons (by simp [VR, E.den, sg]) (VRs.cons (vr_nil) (VRs.cons (by simp [VR, E.den, sg]) (VRs.nil))))
    · have hz : ∀ j, -9223372036854775808 ≤ zs.getD j 0 ∧ zs.getD j 0 ≤ 9223372036854775807 := fun j => Go.bounds_i64 (ints_wf hw j)
      rcases Nat.lt_or_ge 6 len with hb | hb
      · obtain ⟨m, rfl⟩ : ∃ m, len = m + 7 := ⟨len - 7, by omega⟩
        have hr := rowInts (len := m + 7) hle (by omega) hcell
        have hsp : a.spot = none := by rw [hr.spot]
        obtain ⟨ρ, R, g, hρ⟩ := start_name (σ := (sg n0 n2 4 zs)) s1 s2 s3 errs_all errs_lt ⟨a.block, a.off, cap * 1⟩ hr.lt
        exact case35 m hL (Known2.nil _) (TabOk.cons num5 (by decide) (by decide) lo0 hi0 e3 TabOk.nil) R g (VRs.cons (by simp [VR, E.den, sg]) (VRs.cons (vr_list (sz := 1) hρ hsp hle) (VRs.cons (by simp [VR, E.den, sg]) (VRs.nil))))
      · have e : len = 0 ∨ len = 1 ∨ len = 2 ∨ len = 3 ∨ len = 4 ∨ len = 5 ∨ len = 6 := by omega
        rcases e with rfl | rfl | rfl | rfl | rfl | rfl | rfl
        · obtain ⟨ρ, R, g⟩ := start_skip (σ := (sg n0 n2 4 zs)) s1 s2 s3 errs_all errs_lt
          exact case28 hL (kn n0 n2 4 zs 3 0 (by decide) (by decide) ⟨lo0, hi0⟩ ⟨lo2, hi2⟩ hz) (TabOk.cons num5 (by decide) (by decide) lo0 hi0 e3 (TabOk.nil)) R g (VRs.cons (by simp [VR, E.den, sg]) (VRs.cons (vr_empty) (VRs.cons (by simp [VR, E.den, sg]) (VRs.nil))))
        · have hr := rowInts (len := 1) hle (by omega) hcell
          have hsp : a.spot = none := by rw [hr.spot]
          obtain ⟨ρ, R, g, hρ⟩ := start_row (σ := (sg n0 n2 4 zs)) s1 s2 s3 errs_all errs_lt hr (row := intRow .i64 8 1) (fun ρ => by rw [List.range_eq_range']; exact vrs_ints 1 8 0 (fun i => by rw [sg_z]; simp)) (by decide)
          rw [show cap = cap * 1 by omega] at hρ
          exact case29 hL (kn n0 n2 4 zs 3 1 (by decide) (by decide) ⟨lo0, hi0⟩ ⟨lo2, hi2⟩ hz) (TabOk.cons num5 (by decide) (by decide) lo0 hi0 e3 (tc nu4 (hz 0) (TabOk.nil))) R g (VRs.cons (by simp [VR, E.den, sg]) (VRs.cons (vr_list (sz := 1) hρ hsp hle) (VRs.cons (by simp [VR, E.den, sg]) (VRs.nil))))
        · have hr := rowInts (len := 2) hle (by omega) hcell
          have hsp : a.spot = none := by rw [hr.spot]
          obtain ⟨ρ, R, g, hρ⟩ := start_row (σ := (sg n0 n2 4 zs)) s1 s2 s3 errs_all errs_lt hr (row := intRow .i64 8 2) (fun ρ => by rw [List.range_eq_range']; exact vrs_ints 2 8 0 (fun i => by rw [sg_z]; simp)) (by decide)
          rw [show cap = cap * 1 by omega] at hρ
          exact case30 hL (kn n0 n2 4 zs 3 2 (by decide) (by decide) ⟨lo0, hi0⟩ ⟨lo2, hi2⟩ hz) (TabOk.cons num5 (by decide) (by decide) lo0 hi0 e3 (tc nu4 (hz 0) (tc nu4 (hz 1) (TabOk.nil)))) R g (VRs.cons (by simp [VR, E.den, sg]) (VRs.cons (vr_list (sz := 1) hρ hsp hle) (VRs.cons (by simp [VR, E.den, sg]) (VRs.nil))))
        · have hr := rowInts (len := 3) hle (by omega) hcell
          have hsp : a.spot = none := by rw [hr.spot]
          obtain ⟨ρ, R, g, hρ⟩ := start_row (σ := (sg n0 n2 4 zs)) s1 s2 s3 errs_all errs_lt hr (row := intRow .i64 8 3) (fun ρ => by rw [List.range_eq_range']; exact vrs_ints 3 8 0 (fun i => by rw [sg_z]; simp)) (by decide)
          rw [show cap = cap * 1 by omega] at hρ
          exact case31 hL (kn n0 n2 4 zs 3 3 (by decide) (by decide) ⟨lo0, hi0⟩ ⟨lo2, hi2⟩ hz) (TabOk.cons num5 (by decide) (by decide) lo0 hi0 e3 (tc nu4 (hz 0) (tc nu4 (hz 1) (tc nu4 (hz 2) (TabOk.nil))))) R g (VRs.cons (by simp [VR, E.den, sg]) (VRs.cons (vr_list (sz := 1) hρ hsp hle) (VRs.cons (by simp [VR, E.den, sg]) (VRs.nil))))
        · have hr := rowInts (len := 4) hle (by omega) hcell
          have hsp : a.spot = none := by rw [hr.spot]
          obtain ⟨ρ, R, g, hρ⟩ := start_row (σ := (sg n0 n2 4 zs)) s1 s2 s3 errs_all errs_lt hr (row := intRow .i64 8 4) (fun ρ => by rw [List.range_eq_range']; exact vrs_ints 4 8 0 (fun i => by rw [sg_z]; simp)) (by decide)
          rw [show cap = cap * 1 by omega] at hρ
          exact case32 hL (kn n0 n2 4 zs 3 4 (by decide) (by decide) ⟨lo0, hi0⟩ ⟨lo2, hi2⟩ hz) (TabOk.cons num5 (by decide) (by decide) lo0 hi0 e3 (tc nu4 (hz 0) (tc nu4 (hz 1) (tc nu4 (hz 2) (tc nu4 (hz 3) (TabOk.nil)))))) R g (VRs.cons (by simp [VR, E.den, sg]) (VRs.cons (vr_list (sz := 1) hρ hsp hle) (VRs.cons (by simp [VR, E.den, sg]) (VRs.nil))))
        · have hr := rowInts (len := 5) hle (by omega) hcell
          have hsp : a.spot = none := by rw [hr.spot]
          obtain ⟨ρ, R, g, hρ⟩ := start_row (σ := (sg n0 n2 4 zs)) s1 s2 s3 errs_all errs_lt hr (row := intRow .i64 8 5) (fun ρ => by rw [List.range_eq_range']; exact vrs_ints 5 8 0 (fun i => by rw [sg_z]; simp)) (by decide)
          rw [show cap = cap * 1 by omega] at hρ
          exact case33 hL (kn n0 n2 4 zs 3 5 (by decide) (by decide) ⟨lo0, hi0⟩ ⟨lo2, hi2⟩ hz) (TabOk.cons num5 (by decide) (by decide) lo0 hi0 e3 (tc nu4 (hz 0) (tc nu4 (hz 1) (tc nu4 (hz 2) (tc nu4 (hz 3) (tc nu4 (hz 4) (TabOk.nil))))))) R g (VRs.cons (by simp [VR, E.den, sg]) (VRs.cons (vr_list (sz := 1) hρ hsp hle) (VRs.cons (by simp [VR, E.den, sg]) (VRs.nil))))
        · have hr := rowInts (len := 6) hle (by omega) hcell
          have hsp : a.spot = none := by rw [hr.spot]
          obtain ⟨ρ, R, g, hρ⟩ := start_row (σ := (sg n0 n2 4 zs)) s1 s2 s3 errs_all errs_lt hr (row := intRow .i64 8 6) (fun ρ => by rw [List.range_eq_range']; exact vrs_ints 6 8 0 (fun i => by rw [sg_z]; simp)) (by decide)
          rw [show cap = cap * 1 by omega] at hρ
          exact case34 hL (kn n0 n2 4 zs 3 6 (by decide) (by decide) ⟨lo0, hi0⟩ ⟨lo2, hi2⟩ hz) (TabOk.cons num5 (by decide) (by decide) lo0 hi0 e3 (tc nu4 (hz 0) (tc nu4 (hz 1) (tc nu4 (hz 2) (tc nu4 (hz 3) (tc nu4 (hz 4) (tc nu4 (hz 5) (TabOk.nil)))))))) R g (VRs.cons (by simp [VR, E.den, sg]) (VRs.cons (vr_list (sz := 1) hρ hsp hle) (VRs.cons (by simp [VR, E.den, sg]) (VRs.nil))))
  · rcases hn1 with rfl | ⟨a, len, cap, zs, rfl, hle, hz0, hcell, hw⟩
    · let zs : List Int := []
      obtain ⟨ρ, R, g⟩ := start_skip (σ := (sg n0 n2 5 zs)) s1 s2 s3 errs_all errs_lt
      exact case36 hL (kn n0 n2 5 zs 4 0 (by decide) (by decide) ⟨lo0, hi0⟩ ⟨lo2, hi2⟩ (fun j => by simp [zs])) (TabOk.cons num5 (by decide) (by decide) lo0 hi0 e4 (TabOk.nil)) R g (VRs.cons (by simp [VR, E.den, sg]) (VRs.cons (vr_nil) (VRs.cons (by simp [VR, E.den, sg]) (VRs.nil))))
    · have hz : ∀ j, -9223372036854775808 ≤ zs.getD j 0 ∧ zs.getD j 0 ≤ 9223372036854775807 := fun j => Go.bounds_i64 (ints_wf hw j)
      rcases Nat.lt_or_ge 6 len with hb | hb
      · obtain ⟨m, rfl⟩ : ∃ m, len = m + 7 := ⟨len - 7, by omega⟩
        have hr := rowInts (len := m + 7) hle (by omega) hcell
        have hsp : a.spot = none := by rw [hr.spot]
        obtain ⟨ρ, R, g, hρ⟩ := start_name (σ := (sg n0 n2 5 zs)) s1 s2 s3 errs_all errs_lt ⟨a.block, a.off, cap * 1⟩ hr.lt
        exact case44 m hL (Known2.nil _) (TabOk.cons num5 (by decide) (by decide) lo0 hi0 e4 TabOk.nil) R g (VRs.cons (by simp [VR, E.den, sg]) (VRs.cons (vr_list (sz := 1) hρ hsp hle) (VRs.cons (by simp [VR, E.den, sg]) (VRs.nil))))
      · have e : len = 0 ∨ len = 1 ∨ len = 2 ∨ len = 3 ∨ len = 4 ∨ len = 5 ∨ len = 6 := by omega
        rcases e with rfl | rfl | rfl | rfl | rfl | rfl | rfl
        · obtain ⟨ρ, R, g⟩ := start_skip (σ := (sg n0 n2 5 zs)) s1 s2 s3 errs_all errs_lt
          exact case37 hL (kn n0 n2 5 zs 4 0 (by decide) (by decide) ⟨lo0, hi0⟩ ⟨lo2, hi2⟩ hz) (TabOk.cons num5 (by decide) (by decide) lo0 hi0 e4 (TabOk.nil)) R g (VRs.cons (by simp [VR, E.den, sg]) (VRs.cons (vr_empty) (VRs.cons (by simp [VR, E.den, sg]) (VRs.nil))))
        · have hr := rowInts (len := 1) hle (by omega) hcell
          have hsp : a.spot = none := by rw [hr.spot]
          obtain ⟨ρ, R, g, hρ⟩ := start_row (σ := (sg n0 n2 5 zs)) s1 s2 s3 errs_all errs_lt hr (row := intRow .i64 8 1) (fun ρ => by rw [List.range_eq_range']; exact vrs_ints 1 8 0 (fun i => by rw [sg_z]; simp)) (by decide)
          rw [show cap = cap * 1 by omega] at hρ
          exact case38 hL (kn n0 n2 5 zs 4 1 (by decide) (by decide) ⟨lo0, hi0⟩ ⟨lo2, hi2⟩ hz) (TabOk.cons num5 (by decide) (by decide) lo0 hi0 e4 (tc nu5 (hz 0) (TabOk.nil))) R g (VRs.cons (by simp [VR, E.den, sg]) (VRs.cons (vr_list (sz := 1) hρ hsp hle) (VRs.cons (by simp [VR, E.den, sg]) (VRs.nil))))
        · have hr := rowInts (len := 2) hle (by omega) hcell
          have hsp : a.spot = none := by rw [hr.spot]
          obtain ⟨ρ, R, g, hρ⟩ := start_row (σ := (sg n0 n2 5 zs)) s1 s2 s3 errs_all errs_lt hr (row := intRow .i64 8 2) (fun ρ => by rw [List.range_eq_range']; exact vrs_ints 2 8 0 (fun i => by rw [sg_z]; simp)) (by decide)
          rw [show cap = cap * 1 by omega] at hρ
          exact case39 hL (kn n0 n2 5 zs 4 2 (by decide) (by decide) ⟨lo0, hi0⟩ ⟨lo2, hi2⟩ hz) (TabOk.cons num5 (by decide) (by decide) lo0 hi0 e4 (tc nu5 (hz 0) (tc nu5 (hz 1) (TabOk.nil)))) R g (VRs.cons (by simp [VR, E.den, sg]) (VRs.cons (vr_list (sz := 1) hρ hsp hle) (VRs.cons (by simp [VR, E.den, sg]) (VRs.nil))))
        · have hr := rowInts (len := 3) hle (by omega) hcell
          have hsp : a.spot = none := by rw [hr.spot]
          obtain ⟨ρ, R, g, hρ⟩ := start_row (σ := (sg n0 n2 5 zs)) s1 s2 s3 errs_all errs_lt hr (row := intRow .i64 8 3) (fun ρ => by rw [List.range_eq_range']; exact vrs_ints 3 8 0 (fun i => by rw [sg_z]; simp)) (by decide)
          rw [show cap = cap * 1 by omega] at hρ
          exact case40 hL (kn n0 n2 5 zs 4 3 (by decide) (by decide) ⟨lo0, hi0⟩ ⟨lo2, hi2⟩ hz) (TabOk.cons num5 (by decide) (by decide) lo0 hi0 e4 (tc nu5 (hz 0) (tc nu5 (hz 1) (tc nu5 (hz 2) (TabOk.nil))))) R g (VRs.cons (by simp [VR, E.den, sg]) (VRs.cons (vr_list (sz := 1) hρ hsp hle) (VRs.cons (by simp [VR, E.den, sg]) (VRs.nil))))
        · have hr := rowInts (len := 4) hle (by omega) hcell
          have hsp : a.spot = none := by rw [hr.spot]
          obtain ⟨ρ, R, g, hρ⟩ := start_row (σ := (sg n0 n2 5 zs)) s1 s2 s3 errs_all errs_lt hr (row := intRow .i64 8 4) (fun ρ => by rw [List.range_eq_range']; exact vrs_ints 4 8 0 (fun i => by rw [sg_z]; simp)) (by decide)
          rw [show cap = cap * 1 by omega] at hρ
          exact case41 hL (kn n0 n2 5 zs 4 4 (by decide) (by decide) ⟨lo0, hi0⟩ ⟨lo2, hi2⟩ hz) (TabOk.cons num5 (by decide) (by decide) lo0 hi0 e4 (tc nu5 (hz 0) (tc nu5 (hz 1) (tc nu5 (hz 2) (tc nu5 (hz 3) (TabOk.nil)))))) R g (VRs.cons (by simp [VR, E.den, sg]) (VRs.cons (vr_list (sz := 1) hρ hsp hle) (VRs.cons (by simp [VR, E.den, sg]) (VRs.nil))))
        · have hr := rowInts (len := 5) hle (by omega) hcell
          have hsp : a.spot = none := by rw [hr.spot]
          obtain ⟨ρ, R, g, hρ⟩ := start_row (σ := (sg n0 n2 5 zs)) s1 s2 s3 errs_all errs_lt hr (row := intRow .i64 8 5) (fun ρ => by rw [List.range_eq_range']; exact vrs_ints 5 8 0 (fun i => by rw [sg_z]; simp)) (by decide)
          rw [show cap = cap * 1 by omega] at hρ
          exact case42 hL (kn n0 n2 5 zs 4 5 (by decide) (by decide) ⟨lo0, hi0⟩ ⟨lo2, hi2⟩ hz) (TabOk.cons num5 (by decide) (by decide) lo0 hi0 e4 (tc nu5 (hz 0) (tc nu5 (hz 1) (tc nu5 (hz 2) (tc nu5 (hz 3) (tc nu5 (hz 4) (TabOk.nil))))))) R g (VRs.cons (by simp [VR, E.den, sg]) (VRs.cons (vr_list (sz := 1) hρ hsp hle) (VRs.cons (by simp [VR, E.den, sg]) (VRs.nil))))
        · have hr := rowInts (len := 6) hle (by omega) hcell
          have hsp : a.spot = none := by rw [hr.spot]
          obtain ⟨ρ, R, g, hρ⟩ := start_row (σ := (sg n0 n2 5 zs)) s1 s2 s3 errs_all errs_lt hr (row := intRow .i64 8 6) (fun ρ => by rw [List.range_eq_range']; exact vrs_ints 6 8 0 (fun i => by rw [sg_z]; simp)) (by decide)
          rw [show cap = cap * 1 by omega] at hρ
          exact case43 hL (kn n0 n2 5 zs 4 6 (by decide) (by decide) ⟨lo0, hi0⟩ ⟨lo2, hi2⟩ hz) (TabOk.cons num5 (by decide) (by decide) lo0 hi0 e4 (tc nu5 (hz 0) (tc nu5 (hz 1) (tc nu5 (hz 2) (tc nu5 (hz 3) (tc nu5 (hz 4) (tc nu5 (hz 5) (TabOk.nil)))))))) R g (VRs.cons (by simp [VR, E.den, sg]) (VRs.cons (vr_list (sz := 1) hρ hsp hle) (VRs.cons (by simp [VR, E.den, sg]) (VRs.nil))))
end Go.Proofs.YtoldbgemlnkfkaaDoor.bootApart
