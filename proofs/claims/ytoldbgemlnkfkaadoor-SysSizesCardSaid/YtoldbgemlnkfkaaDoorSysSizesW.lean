/- SysSizes returns true for every input, and the input reads as it did; the listed errors hold what the program text lays. -/
import Derived.Test.YtoldbgemlnkfkaaDoorSzL0
import Derived.Test.YtoldbgemlnkfkaaDoorSzL1
import Derived.Test.YtoldbgemlnkfkaaDoorSzL2
import Derived.Test.YtoldbgemlnkfkaaDoorSzL3
import Derived.Deep.DeepWitnessRowRef
import Derived.Lay
set_option linter.unusedVariables false
set_option linter.unusedSimpArgs false
set_option maxRecDepth 10000000
namespace Go.Proofs.YtoldbgemlnkfkaaDoor.sysSizes
open Tk
open Go.ChangeShapes Go.WideShapes Go.ChangeAt Go.RowKit

theorem lay_out : laidOutB Tryd.prog = true := by kernel_rfl
theorem own : ownKnob Tryd.prog.godebug = none := by kernel_rfl
def sg  (zs : List Int) : Nat → Int := fun i => zs.getD (i - 0) 0
theorem kn6 {zs : List Int} (c : Int) (h0 : 1 ≤ zs.getD 0 0 ∧ zs.getD 0 0 ≤ 256) (h1 : 1 ≤ zs.getD 1 0 ∧ zs.getD 1 0 ≤ 256) (h2 : c ≤ zs.getD 2 0 ∧ zs.getD 2 0 ≤ c) (hz : ∀ j, -9223372036854775808 ≤ zs.getD j 0 ∧ zs.getD j 0 ≤ 9223372036854775807) :
    Known2 (sg zs) [(1, 256), (1, 256), (c, c), (-9223372036854775808, 9223372036854775807), (-9223372036854775808, 9223372036854775807), (-9223372036854775808, 9223372036854775807)] [] := by
  refine ⟨fun i lo hi hr => ?_, fun q a b t hm => by cases hm⟩
  rcases i with _ | _ | _ | _ | _ | _ | i
  · simp at hr; obtain ⟨rfl, rfl⟩ := hr; exact h0
  · simp at hr; obtain ⟨rfl, rfl⟩ := hr; exact h1
  · simp at hr; obtain ⟨rfl, rfl⟩ := hr; exact h2
  · simp at hr; obtain ⟨rfl, rfl⟩ := hr; exact hz 3
  · simp at hr; obtain ⟨rfl, rfl⟩ := hr; exact hz 4
  · simp at hr; obtain ⟨rfl, rfl⟩ := hr; exact hz 5
  · simp at hr

set_option maxHeartbeats 10000000 in
theorem walk (W : World) (v0 : Value) (hn0 : IsInts W .i64 v0) (hL : laidMetH Tryd.prog Rows.sysSizesRow.laid W) : Calls Tryd.prog 3 #[v0] W fun e w' => e = .returned (.bool true) ∧ Below W.heap.size W w' := by
  obtain ⟨ads, s1, s2, s3⟩ := errs_sents hL
  rcases hn0 with rfl | ⟨a, len, cap, zs, rfl, hle, hz, hcell, hw⟩
  · have zs : List Int := []
    obtain ⟨ρ, R, g⟩ := start_skip (σ := (sg  zs)) s1 s2 s3 errs_all errs_lt
    exact case0 hL (Known2.nil _) TabOk.nil R g (VRs.cons (vr_nil) (VRs.nil))
  · rcases Nat.lt_or_ge 6 len with hb | hb
    · obtain ⟨m, rfl⟩ : ∃ m, len = m + 7 := ⟨len - 7, by omega⟩
      have hr := rowInts (len := m + 7) hle (by omega) hcell
      have hsp : a.spot = none := by rw [hr.spot]
      obtain ⟨ρ, R, g, hρ⟩ := start_name (σ := (sg  zs)) s1 s2 s3 errs_all errs_lt ⟨a.block, a.off, cap * 1⟩ hr.lt
      exact (case7 m) hL (Known2.nil _) TabOk.nil R g (VRs.cons (vr_list (sz := 1) hρ hsp hle) (VRs.nil))
    · have e : len = 0 ∨ len = 1 ∨ len = 2 ∨ len = 3 ∨ len = 4 ∨ len = 5 ∨ len = 6 := by omega
      rcases e with rfl | rfl | rfl | rfl | rfl | rfl | rfl
      · obtain ⟨ρ, R, g⟩ := start_skip (σ := (sg  zs)) s1 s2 s3 errs_all errs_lt
        exact case1 hL (Known2.nil _) TabOk.nil R g (VRs.cons (vr_empty) (VRs.nil))
      · have hr := rowInts (len := 1) hle (by omega) hcell
        have hsp : a.spot = none := by rw [hr.spot]
        obtain ⟨ρ, R, g, hρ⟩ := start_name (σ := (sg  zs)) s1 s2 s3 errs_all errs_lt ⟨a.block, a.off, cap * 1⟩ hr.lt
        exact case2 hL (Known2.nil _) TabOk.nil R g (VRs.cons (vr_list (sz := 1) hρ hsp hle) (VRs.nil))
      · have hr := rowInts (len := 2) hle (by omega) hcell
        have hsp : a.spot = none := by rw [hr.spot]
        obtain ⟨ρ, R, g, hρ⟩ := start_name (σ := (sg  zs)) s1 s2 s3 errs_all errs_lt ⟨a.block, a.off, cap * 1⟩ hr.lt
        exact case3 hL (Known2.nil _) TabOk.nil R g (VRs.cons (vr_list (sz := 1) hρ hsp hle) (VRs.nil))
      · have hr := rowInts (len := 3) hle (by omega) hcell
        have hsp : a.spot = none := by rw [hr.spot]
        obtain ⟨ρ, R, g, hρ⟩ := start_name (σ := (sg  zs)) s1 s2 s3 errs_all errs_lt ⟨a.block, a.off, cap * 1⟩ hr.lt
        exact case4 hL (Known2.nil _) TabOk.nil R g (VRs.cons (vr_list (sz := 1) hρ hsp hle) (VRs.nil))
      · have hr := rowInts (len := 4) hle (by omega) hcell
        have hsp : a.spot = none := by rw [hr.spot]
        obtain ⟨ρ, R, g, hρ⟩ := start_name (σ := (sg  zs)) s1 s2 s3 errs_all errs_lt ⟨a.block, a.off, cap * 1⟩ hr.lt
        exact case5 hL (Known2.nil _) TabOk.nil R g (VRs.cons (vr_list (sz := 1) hρ hsp hle) (VRs.nil))
      · have hr := rowInts (len := 5) hle (by omega) hcell
        have hsp : a.spot = none := by rw [hr.spot]
        obtain ⟨ρ, R, g, hρ⟩ := start_name (σ := (sg  zs)) s1 s2 s3 errs_all errs_lt ⟨a.block, a.off, cap * 1⟩ hr.lt
        exact case6 hL (Known2.nil _) TabOk.nil R g (VRs.cons (vr_list (sz := 1) hρ hsp hle) (VRs.nil))
      · have hr := rowInts (len := 6) hle (by omega) hcell
        have hsp : a.spot = none := by rw [hr.spot]
        obtain ⟨ρ, R, g, hρ⟩ := start_row (σ := (sg  zs)) s1 s2 s3 errs_all errs_lt hr (row := intRow .i64 0 6) (fun ρ => by rw [List.range_eq_range']; exact vrs_ints 6 0 0 (fun i => by simp [sg])) (by decide)
        rw [show cap = cap * 1 by omega] at hρ
        have q1 : (zs.getD 0 0 < 1) ∨ (256 < zs.getD 0 0) ∨ (1 ≤ zs.getD 0 0 ∧ zs.getD 0 0 ≤ 256) := by omega
        rcases q1 with q1 | q1 | q1
        ·
          refine case8 hL ⟨?_, ?_⟩ TabOk.nil R g (VRs.cons (vr_list (sz := 1) hρ hsp hle) (VRs.nil))
          · intro i lo hi hr
            rcases i with _ | i
            · simp at hr
              obtain ⟨rfl, rfl⟩ := hr
              exact (show -9223372036854775808 ≤ zs.getD 0 0 ∧ zs.getD 0 0 ≤ 0 by have := Go.bounds_i64 (ints_wf hw 0); omega)
            rcases i with _ | i
            · simp at hr
              obtain ⟨rfl, rfl⟩ := hr
              exact (show -9223372036854775808 ≤ zs.getD 1 0 ∧ zs.getD 1 0 ≤ 9223372036854775807 by have := Go.bounds_i64 (ints_wf hw 1); omega)
            rcases i with _ | i
            · simp at hr
              obtain ⟨rfl, rfl⟩ := hr
              exact (show -9223372036854775808 ≤ zs.getD 2 0 ∧ zs.getD 2 0 ≤ 9223372036854775807 by have := Go.bounds_i64 (ints_wf hw 2); omega)
            rcases i with _ | i
            · simp at hr
              obtain ⟨rfl, rfl⟩ := hr
              exact (show -9223372036854775808 ≤ zs.getD 3 0 ∧ zs.getD 3 0 ≤ 9223372036854775807 by have := Go.bounds_i64 (ints_wf hw 3); omega)
            rcases i with _ | i
            · simp at hr
              obtain ⟨rfl, rfl⟩ := hr
              exact (show -9223372036854775808 ≤ zs.getD 4 0 ∧ zs.getD 4 0 ≤ 9223372036854775807 by have := Go.bounds_i64 (ints_wf hw 4); omega)
            rcases i with _ | i
            · simp at hr
              obtain ⟨rfl, rfl⟩ := hr
              exact (show -9223372036854775808 ≤ zs.getD 5 0 ∧ zs.getD 5 0 ≤ 9223372036854775807 by have := Go.bounds_i64 (ints_wf hw 5); omega)
            simp at hr
          · intro q a b t hm
            simp at hm
        ·
          refine case9 hL ⟨?_, ?_⟩ TabOk.nil R g (VRs.cons (vr_list (sz := 1) hρ hsp hle) (VRs.nil))
          · intro i lo hi hr
            rcases i with _ | i
            · simp at hr
              obtain ⟨rfl, rfl⟩ := hr
              exact (show 257 ≤ zs.getD 0 0 ∧ zs.getD 0 0 ≤ 9223372036854775807 by have := Go.bounds_i64 (ints_wf hw 0); omega)
            rcases i with _ | i
            · simp at hr
              obtain ⟨rfl, rfl⟩ := hr
              exact (show -9223372036854775808 ≤ zs.getD 1 0 ∧ zs.getD 1 0 ≤ 9223372036854775807 by have := Go.bounds_i64 (ints_wf hw 1); omega)
            rcases i with _ | i
            · simp at hr
              obtain ⟨rfl, rfl⟩ := hr
              exact (show -9223372036854775808 ≤ zs.getD 2 0 ∧ zs.getD 2 0 ≤ 9223372036854775807 by have := Go.bounds_i64 (ints_wf hw 2); omega)
            rcases i with _ | i
            · simp at hr
              obtain ⟨rfl, rfl⟩ := hr
              exact (show -9223372036854775808 ≤ zs.getD 3 0 ∧ zs.getD 3 0 ≤ 9223372036854775807 by have := Go.bounds_i64 (ints_wf hw 3); omega)
            rcases i with _ | i
            · simp at hr
              obtain ⟨rfl, rfl⟩ := hr
              exact (show -9223372036854775808 ≤ zs.getD 4 0 ∧ zs.getD 4 0 ≤ 9223372036854775807 by have := Go.bounds_i64 (ints_wf hw 4); omega)
            rcases i with _ | i
            · simp at hr
              obtain ⟨rfl, rfl⟩ := hr
              exact (show -9223372036854775808 ≤ zs.getD 5 0 ∧ zs.getD 5 0 ≤ 9223372036854775807 by have := Go.bounds_i64 (ints_wf hw 5); omega)
            simp at hr
          · intro q a b t hm
            simp at hm
        ·
          have q2 : (zs.getD 1 0 < 1) ∨ (256 < zs.getD 1 0) ∨ (1 ≤ zs.getD 1 0 ∧ zs.getD 1 0 ≤ 256) := by omega
          rcases q2 with q2 | q2 | q2
          ·
            refine case10 hL ⟨?_, ?_⟩ TabOk.nil R g (VRs.cons (vr_list (sz := 1) hρ hsp hle) (VRs.nil))
            · intro i lo hi hr
              rcases i with _ | i
              · simp at hr
                obtain ⟨rfl, rfl⟩ := hr
                exact (show 1 ≤ zs.getD 0 0 ∧ zs.getD 0 0 ≤ 256 by have := Go.bounds_i64 (ints_wf hw 0); omega)
              rcases i with _ | i
              · simp at hr
                obtain ⟨rfl, rfl⟩ := hr
                exact (show -9223372036854775808 ≤ zs.getD 1 0 ∧ zs.getD 1 0 ≤ 0 by have := Go.bounds_i64 (ints_wf hw 1); omega)
              rcases i with _ | i
              · simp at hr
                obtain ⟨rfl, rfl⟩ := hr
                exact (show -9223372036854775808 ≤ zs.getD 2 0 ∧ zs.getD 2 0 ≤ 9223372036854775807 by have := Go.bounds_i64 (ints_wf hw 2); omega)
              rcases i with _ | i
              · simp at hr
                obtain ⟨rfl, rfl⟩ := hr
                exact (show -9223372036854775808 ≤ zs.getD 3 0 ∧ zs.getD 3 0 ≤ 9223372036854775807 by have := Go.bounds_i64 (ints_wf hw 3); omega)
              rcases i with _ | i
              · simp at hr
                obtain ⟨rfl, rfl⟩ := hr
                exact (show -9223372036854775808 ≤ zs.getD 4 0 ∧ zs.getD 4 0 ≤ 9223372036854775807 by have := Go.bounds_i64 (ints_wf hw 4); omega)
              rcases i with _ | i
              · simp at hr
                obtain ⟨rfl, rfl⟩ := hr
                exact (show -9223372036854775808 ≤ zs.getD 5 0 ∧ zs.getD 5 0 ≤ 9223372036854775807 by have := Go.bounds_i64 (ints_wf hw 5); omega)
              simp at hr
            · intro q a b t hm
              simp at hm
          ·
            refine case11 hL ⟨?_, ?_⟩ TabOk.nil R g (VRs.cons (vr_list (sz := 1) hρ hsp hle) (VRs.nil))
            · intro i lo hi hr
              rcases i with _ | i
              · simp at hr
                obtain ⟨rfl, rfl⟩ := hr
                exact (show 1 ≤ zs.getD 0 0 ∧ zs.getD 0 0 ≤ 256 by have := Go.bounds_i64 (ints_wf hw 0); omega)
              rcases i with _ | i
              · simp at hr
                obtain ⟨rfl, rfl⟩ := hr
                exact (show 257 ≤ zs.getD 1 0 ∧ zs.getD 1 0 ≤ 9223372036854775807 by have := Go.bounds_i64 (ints_wf hw 1); omega)
              rcases i with _ | i
              · simp at hr
                obtain ⟨rfl, rfl⟩ := hr
                exact (show -9223372036854775808 ≤ zs.getD 2 0 ∧ zs.getD 2 0 ≤ 9223372036854775807 by have := Go.bounds_i64 (ints_wf hw 2); omega)
              rcases i with _ | i
              · simp at hr
                obtain ⟨rfl, rfl⟩ := hr
                exact (show -9223372036854775808 ≤ zs.getD 3 0 ∧ zs.getD 3 0 ≤ 9223372036854775807 by have := Go.bounds_i64 (ints_wf hw 3); omega)
              rcases i with _ | i
              · simp at hr
                obtain ⟨rfl, rfl⟩ := hr
                exact (show -9223372036854775808 ≤ zs.getD 4 0 ∧ zs.getD 4 0 ≤ 9223372036854775807 by have := Go.bounds_i64 (ints_wf hw 4); omega)
              rcases i with _ | i
              · simp at hr
                obtain ⟨rfl, rfl⟩ := hr
                exact (show -9223372036854775808 ≤ zs.getD 5 0 ∧ zs.getD 5 0 ≤ 9223372036854775807 by have := Go.bounds_i64 (ints_wf hw 5); omega)
              simp at hr
            · intro q a b t hm
              simp at hm
          ·
            have q3 : (zs.getD 2 0 < 1) ∨ (256 < zs.getD 2 0) ∨ (1 ≤ zs.getD 2 0 ∧ zs.getD 2 0 ≤ 256) := by omega
            rcases q3 with q3 | q3 | q3
            ·
              refine case12 hL ⟨?_, ?_⟩ TabOk.nil R g (VRs.cons (vr_list (sz := 1) hρ hsp hle) (VRs.nil))
              · intro i lo hi hr
                rcases i with _ | i
                · simp at hr
                  obtain ⟨rfl, rfl⟩ := hr
                  exact (show 1 ≤ zs.getD 0 0 ∧ zs.getD 0 0 ≤ 256 by have := Go.bounds_i64 (ints_wf hw 0); omega)
                rcases i with _ | i
                · simp at hr
                  obtain ⟨rfl, rfl⟩ := hr
                  exact (show 1 ≤ zs.getD 1 0 ∧ zs.getD 1 0 ≤ 256 by have := Go.bounds_i64 (ints_wf hw 1); omega)
                rcases i with _ | i
                · simp at hr
                  obtain ⟨rfl, rfl⟩ := hr
                  exact (show -9223372036854775808 ≤ zs.getD 2 0 ∧ zs.getD 2 0 ≤ 0 by have := Go.bounds_i64 (ints_wf hw 2); omega)
                rcases i with _ | i
                · simp at hr
                  obtain ⟨rfl, rfl⟩ := hr
                  exact (show -9223372036854775808 ≤ zs.getD 3 0 ∧ zs.getD 3 0 ≤ 9223372036854775807 by have := Go.bounds_i64 (ints_wf hw 3); omega)
                rcases i with _ | i
                · simp at hr
                  obtain ⟨rfl, rfl⟩ := hr
                  exact (show -9223372036854775808 ≤ zs.getD 4 0 ∧ zs.getD 4 0 ≤ 9223372036854775807 by have := Go.bounds_i64 (ints_wf hw 4); omega)
                rcases i with _ | i
                · simp at hr
                  obtain ⟨rfl, rfl⟩ := hr
                  exact (show -9223372036854775808 ≤ zs.getD 5 0 ∧ zs.getD 5 0 ≤ 9223372036854775807 by have := Go.bounds_i64 (ints_wf hw 5); omega)
                simp at hr
              · intro q a b t hm
                simp at hm
            ·
              refine case13 hL ⟨?_, ?_⟩ TabOk.nil R g (VRs.cons (vr_list (sz := 1) hρ hsp hle) (VRs.nil))
              · intro i lo hi hr
                rcases i with _ | i
                · simp at hr
                  obtain ⟨rfl, rfl⟩ := hr
                  exact (show 1 ≤ zs.getD 0 0 ∧ zs.getD 0 0 ≤ 256 by have := Go.bounds_i64 (ints_wf hw 0); omega)
                rcases i with _ | i
                · simp at hr
                  obtain ⟨rfl, rfl⟩ := hr
                  exact (show 1 ≤ zs.getD 1 0 ∧ zs.getD 1 0 ≤ 256 by have := Go.bounds_i64 (ints_wf hw 1); omega)
                rcases i with _ | i
                · simp at hr
                  obtain ⟨rfl, rfl⟩ := hr
                  exact (show 257 ≤ zs.getD 2 0 ∧ zs.getD 2 0 ≤ 9223372036854775807 by have := Go.bounds_i64 (ints_wf hw 2); omega)
                rcases i with _ | i
                · simp at hr
                  obtain ⟨rfl, rfl⟩ := hr
                  exact (show -9223372036854775808 ≤ zs.getD 3 0 ∧ zs.getD 3 0 ≤ 9223372036854775807 by have := Go.bounds_i64 (ints_wf hw 3); omega)
                rcases i with _ | i
                · simp at hr
                  obtain ⟨rfl, rfl⟩ := hr
                  exact (show -9223372036854775808 ≤ zs.getD 4 0 ∧ zs.getD 4 0 ≤ 9223372036854775807 by have := Go.bounds_i64 (ints_wf hw 4); omega)
                rcases i with _ | i
                · simp at hr
                  obtain ⟨rfl, rfl⟩ := hr
                  exact (show -9223372036854775808 ≤ zs.getD 5 0 ∧ zs.getD 5 0 ≤ 9223372036854775807 by have := Go.bounds_i64 (ints_wf hw 5); omega)
                simp at hr
              · intro q a b t hm
                simp at hm
            ·
              have q4 : (zs.getD 2 0 ≤ 128) ∨ (128 < zs.getD 2 0) := by omega
              rcases q4 with q4 | q4
              ·
                have q5 : (zs.getD 2 0 ≤ 64) ∨ (64 < zs.getD 2 0) := by omega
                rcases q5 with q5 | q5
                ·
                  have q6 : (zs.getD 2 0 ≤ 32) ∨ (32 < zs.getD 2 0) := by omega
                  rcases q6 with q6 | q6
                  ·
                    have q7 : (zs.getD 2 0 ≤ 16) ∨ (16 < zs.getD 2 0) := by omega
                    rcases q7 with q7 | q7
                    ·
                      have q8 : (zs.getD 2 0 ≤ 8) ∨ (8 < zs.getD 2 0) := by omega
                      rcases q8 with q8 | q8
                      ·
                        have q9 : (zs.getD 2 0 ≤ 4) ∨ (4 < zs.getD 2 0) := by omega
                        rcases q9 with q9 | q9
                        ·
                          have q10 : (zs.getD 2 0 ≤ 2) ∨ (2 < zs.getD 2 0) := by omega
                          rcases q10 with q10 | q10
                          ·
                            have q11 : (zs.getD 2 0 ≤ 1) ∨ (1 < zs.getD 2 0) := by omega
                            rcases q11 with q11 | q11
                            ·
                              exact case14 hL (kn6 1 (by omega) (by omega) (by omega) (fun j => Go.bounds_i64 (ints_wf hw j))) TabOk.nil R g (VRs.cons (vr_list (sz := 1) hρ hsp hle) (VRs.nil))
                            ·
                              exact case15 hL (kn6 2 (by omega) (by omega) (by omega) (fun j => Go.bounds_i64 (ints_wf hw j))) TabOk.nil R g (VRs.cons (vr_list (sz := 1) hρ hsp hle) (VRs.nil))
                          ·
                            have q12 : (zs.getD 2 0 ≤ 3) ∨ (3 < zs.getD 2 0) := by omega
                            rcases q12 with q12 | q12
                            ·
                              exact case16 hL (kn6 3 (by omega) (by omega) (by omega) (fun j => Go.bounds_i64 (ints_wf hw j))) TabOk.nil R g (VRs.cons (vr_list (sz := 1) hρ hsp hle) (VRs.nil))
                            ·
                              exact case17 hL (kn6 4 (by omega) (by omega) (by omega) (fun j => Go.bounds_i64 (ints_wf hw j))) TabOk.nil R g (VRs.cons (vr_list (sz := 1) hρ hsp hle) (VRs.nil))
                        ·
                          have q13 : (zs.getD 2 0 ≤ 6) ∨ (6 < zs.getD 2 0) := by omega
                          rcases q13 with q13 | q13
                          ·
                            have q14 : (zs.getD 2 0 ≤ 5) ∨ (5 < zs.getD 2 0) := by omega
                            rcases q14 with q14 | q14
                            ·
                              exact case18 hL (kn6 5 (by omega) (by omega) (by omega) (fun j => Go.bounds_i64 (ints_wf hw j))) TabOk.nil R g (VRs.cons (vr_list (sz := 1) hρ hsp hle) (VRs.nil))
                            ·
                              exact case19 hL (kn6 6 (by omega) (by omega) (by omega) (fun j => Go.bounds_i64 (ints_wf hw j))) TabOk.nil R g (VRs.cons (vr_list (sz := 1) hρ hsp hle) (VRs.nil))
                          ·
                            have q15 : (zs.getD 2 0 ≤ 7) ∨ (7 < zs.getD 2 0) := by omega
                            rcases q15 with q15 | q15
                            ·
                              exact case20 hL (kn6 7 (by omega) (by omega) (by omega) (fun j => Go.bounds_i64 (ints_wf hw j))) TabOk.nil R g (VRs.cons (vr_list (sz := 1) hρ hsp hle) (VRs.nil))
                            ·
                              exact case21 hL (kn6 8 (by omega) (by omega) (by omega) (fun j => Go.bounds_i64 (ints_wf hw j))) TabOk.nil R g (VRs.cons (vr_list (sz := 1) hρ hsp hle) (VRs.nil))
                      ·
                        have q16 : (zs.getD 2 0 ≤ 12) ∨ (12 < zs.getD 2 0) := by omega
                        rcases q16 with q16 | q16
                        ·
                          have q17 : (zs.getD 2 0 ≤ 10) ∨ (10 < zs.getD 2 0) := by omega
                          rcases q17 with q17 | q17
                          ·
                            have q18 : (zs.getD 2 0 ≤ 9) ∨ (9 < zs.getD 2 0) := by omega
                            rcases q18 with q18 | q18
                            ·
                              exact case22 hL (kn6 9 (by omega) (by omega) (by omega) (fun j => Go.bounds_i64 (ints_wf hw j))) TabOk.nil R g (VRs.cons (vr_list (sz := 1) hρ hsp hle) (VRs.nil))
                            ·
                              exact case23 hL (kn6 10 (by omega) (by omega) (by omega) (fun j => Go.bounds_i64 (ints_wf hw j))) TabOk.nil R g (VRs.cons (vr_list (sz := 1) hρ hsp hle) (VRs.nil))
                          ·
                            have q19 : (zs.getD 2 0 ≤ 11) ∨ (11 < zs.getD 2 0) := by omega
                            rcases q19 with q19 | q19
                            ·
                              exact case24 hL (kn6 11 (by omega) (by omega) (by omega) (fun j => Go.bounds_i64 (ints_wf hw j))) TabOk.nil R g (VRs.cons (vr_list (sz := 1) hρ hsp hle) (VRs.nil))
                            ·
                              exact case25 hL (kn6 12 (by omega) (by omega) (by omega) (fun j => Go.bounds_i64 (ints_wf hw j))) TabOk.nil R g (VRs.cons (vr_list (sz := 1) hρ hsp hle) (VRs.nil))
                        ·
                          have q20 : (zs.getD 2 0 ≤ 14) ∨ (14 < zs.getD 2 0) := by omega
                          rcases q20 with q20 | q20
                          ·
                            have q21 : (zs.getD 2 0 ≤ 13) ∨ (13 < zs.getD 2 0) := by omega
                            rcases q21 with q21 | q21
                            ·
                              exact case26 hL (kn6 13 (by omega) (by omega) (by omega) (fun j => Go.bounds_i64 (ints_wf hw j))) TabOk.nil R g (VRs.cons (vr_list (sz := 1) hρ hsp hle) (VRs.nil))
                            ·
                              exact case27 hL (kn6 14 (by omega) (by omega) (by omega) (fun j => Go.bounds_i64 (ints_wf hw j))) TabOk.nil R g (VRs.cons (vr_list (sz := 1) hρ hsp hle) (VRs.nil))
                          ·
                            have q22 : (zs.getD 2 0 ≤ 15) ∨ (15 < zs.getD 2 0) := by omega
                            rcases q22 with q22 | q22
                            ·
                              exact case28 hL (kn6 15 (by omega) (by omega) (by omega) (fun j => Go.bounds_i64 (ints_wf hw j))) TabOk.nil R g (VRs.cons (vr_list (sz := 1) hρ hsp hle) (VRs.nil))
                            ·
                              exact case29 hL (kn6 16 (by omega) (by omega) (by omega) (fun j => Go.bounds_i64 (ints_wf hw j))) TabOk.nil R g (VRs.cons (vr_list (sz := 1) hρ hsp hle) (VRs.nil))
                    ·
                      have q23 : (zs.getD 2 0 ≤ 24) ∨ (24 < zs.getD 2 0) := by omega
                      rcases q23 with q23 | q23
                      ·
                        have q24 : (zs.getD 2 0 ≤ 20) ∨ (20 < zs.getD 2 0) := by omega
                        rcases q24 with q24 | q24
                        ·
                          have q25 : (zs.getD 2 0 ≤ 18) ∨ (18 < zs.getD 2 0) := by omega
                          rcases q25 with q25 | q25
                          ·
                            have q26 : (zs.getD 2 0 ≤ 17) ∨ (17 < zs.getD 2 0) := by omega
                            rcases q26 with q26 | q26
                            ·
                              exact case30 hL (kn6 17 (by omega) (by omega) (by omega) (fun j => Go.bounds_i64 (ints_wf hw j))) TabOk.nil R g (VRs.cons (vr_list (sz := 1) hρ hsp hle) (VRs.nil))
                            ·
                              exact case31 hL (kn6 18 (by omega) (by omega) (by omega) (fun j => Go.bounds_i64 (ints_wf hw j))) TabOk.nil R g (VRs.cons (vr_list (sz := 1) hρ hsp hle) (VRs.nil))
                          ·
                            have q27 : (zs.getD 2 0 ≤ 19) ∨ (19 < zs.getD 2 0) := by omega
                            rcases q27 with q27 | q27
                            ·
                              exact case32 hL (kn6 19 (by omega) (by omega) (by omega) (fun j => Go.bounds_i64 (ints_wf hw j))) TabOk.nil R g (VRs.cons (vr_list (sz := 1) hρ hsp hle) (VRs.nil))
                            ·
                              exact case33 hL (kn6 20 (by omega) (by omega) (by omega) (fun j => Go.bounds_i64 (ints_wf hw j))) TabOk.nil R g (VRs.cons (vr_list (sz := 1) hρ hsp hle) (VRs.nil))
                        ·
                          have q28 : (zs.getD 2 0 ≤ 22) ∨ (22 < zs.getD 2 0) := by omega
                          rcases q28 with q28 | q28
                          ·
                            have q29 : (zs.getD 2 0 ≤ 21) ∨ (21 < zs.getD 2 0) := by omega
                            rcases q29 with q29 | q29
                            ·
                              exact case34 hL (kn6 21 (by omega) (by omega) (by omega) (fun j => Go.bounds_i64 (ints_wf hw j))) TabOk.nil R g (VRs.cons (vr_list (sz := 1) hρ hsp hle) (VRs.nil))
                            ·
                              exact case35 hL (kn6 22 (by omega) (by omega) (by omega) (fun j => Go.bounds_i64 (ints_wf hw j))) TabOk.nil R g (VRs.cons (vr_list (sz := 1) hρ hsp hle) (VRs.nil))
                          ·
                            have q30 : (zs.getD 2 0 ≤ 23) ∨ (23 < zs.getD 2 0) := by omega
                            rcases q30 with q30 | q30
                            ·
                              exact case36 hL (kn6 23 (by omega) (by omega) (by omega) (fun j => Go.bounds_i64 (ints_wf hw j))) TabOk.nil R g (VRs.cons (vr_list (sz := 1) hρ hsp hle) (VRs.nil))
                            ·
                              exact case37 hL (kn6 24 (by omega) (by omega) (by omega) (fun j => Go.bounds_i64 (ints_wf hw j))) TabOk.nil R g (VRs.cons (vr_list (sz := 1) hρ hsp hle) (VRs.nil))
                      ·
                        have q31 : (zs.getD 2 0 ≤ 28) ∨ (28 < zs.getD 2 0) := by omega
                        rcases q31 with q31 | q31
                        ·
                          have q32 : (zs.getD 2 0 ≤ 26) ∨ (26 < zs.getD 2 0) := by omega
                          rcases q32 with q32 | q32
                          ·
                            have q33 : (zs.getD 2 0 ≤ 25) ∨ (25 < zs.getD 2 0) := by omega
                            rcases q33 with q33 | q33
                            ·
                              exact case38 hL (kn6 25 (by omega) (by omega) (by omega) (fun j => Go.bounds_i64 (ints_wf hw j))) TabOk.nil R g (VRs.cons (vr_list (sz := 1) hρ hsp hle) (VRs.nil))
                            ·
                              exact case39 hL (kn6 26 (by omega) (by omega) (by omega) (fun j => Go.bounds_i64 (ints_wf hw j))) TabOk.nil R g (VRs.cons (vr_list (sz := 1) hρ hsp hle) (VRs.nil))
                          ·
                            have q34 : (zs.getD 2 0 ≤ 27) ∨ (27 < zs.getD 2 0) := by omega
                            rcases q34 with q34 | q34
                            ·
                              exact case40 hL (kn6 27 (by omega) (by omega) (by omega) (fun j => Go.bounds_i64 (ints_wf hw j))) TabOk.nil R g (VRs.cons (vr_list (sz := 1) hρ hsp hle) (VRs.nil))
                            ·
                              exact case41 hL (kn6 28 (by omega) (by omega) (by omega) (fun j => Go.bounds_i64 (ints_wf hw j))) TabOk.nil R g (VRs.cons (vr_list (sz := 1) hρ hsp hle) (VRs.nil))
                        ·
                          have q35 : (zs.getD 2 0 ≤ 30) ∨ (30 < zs.getD 2 0) := by omega
                          rcases q35 with q35 | q35
                          ·
                            have q36 : (zs.getD 2 0 ≤ 29) ∨ (29 < zs.getD 2 0) := by omega
                            rcases q36 with q36 | q36
                            ·
                              exact case42 hL (kn6 29 (by omega) (by omega) (by omega) (fun j => Go.bounds_i64 (ints_wf hw j))) TabOk.nil R g (VRs.cons (vr_list (sz := 1) hρ hsp hle) (VRs.nil))
                            ·
                              exact case43 hL (kn6 30 (by omega) (by omega) (by omega) (fun j => Go.bounds_i64 (ints_wf hw j))) TabOk.nil R g (VRs.cons (vr_list (sz := 1) hρ hsp hle) (VRs.nil))
                          ·
                            have q37 : (zs.getD 2 0 ≤ 31) ∨ (31 < zs.getD 2 0) := by omega
                            rcases q37 with q37 | q37
                            ·
                              exact case44 hL (kn6 31 (by omega) (by omega) (by omega) (fun j => Go.bounds_i64 (ints_wf hw j))) TabOk.nil R g (VRs.cons (vr_list (sz := 1) hρ hsp hle) (VRs.nil))
                            ·
                              exact case45 hL (kn6 32 (by omega) (by omega) (by omega) (fun j => Go.bounds_i64 (ints_wf hw j))) TabOk.nil R g (VRs.cons (vr_list (sz := 1) hρ hsp hle) (VRs.nil))
                  ·
                    have q38 : (zs.getD 2 0 ≤ 48) ∨ (48 < zs.getD 2 0) := by omega
                    rcases q38 with q38 | q38
                    ·
                      have q39 : (zs.getD 2 0 ≤ 40) ∨ (40 < zs.getD 2 0) := by omega
                      rcases q39 with q39 | q39
                      ·
                        have q40 : (zs.getD 2 0 ≤ 36) ∨ (36 < zs.getD 2 0) := by omega
                        rcases q40 with q40 | q40
                        ·
                          have q41 : (zs.getD 2 0 ≤ 34) ∨ (34 < zs.getD 2 0) := by omega
                          rcases q41 with q41 | q41
                          ·
                            have q42 : (zs.getD 2 0 ≤ 33) ∨ (33 < zs.getD 2 0) := by omega
                            rcases q42 with q42 | q42
                            ·
                              exact case46 hL (kn6 33 (by omega) (by omega) (by omega) (fun j => Go.bounds_i64 (ints_wf hw j))) TabOk.nil R g (VRs.cons (vr_list (sz := 1) hρ hsp hle) (VRs.nil))
                            ·
                              exact case47 hL (kn6 34 (by omega) (by omega) (by omega) (fun j => Go.bounds_i64 (ints_wf hw j))) TabOk.nil R g (VRs.cons (vr_list (sz := 1) hρ hsp hle) (VRs.nil))
                          ·
                            have q43 : (zs.getD 2 0 ≤ 35) ∨ (35 < zs.getD 2 0) := by omega
                            rcases q43 with q43 | q43
                            ·
                              exact case48 hL (kn6 35 (by omega) (by omega) (by omega) (fun j => Go.bounds_i64 (ints_wf hw j))) TabOk.nil R g (VRs.cons (vr_list (sz := 1) hρ hsp hle) (VRs.nil))
                            ·
                              exact case49 hL (kn6 36 (by omega) (by omega) (by omega) (fun j => Go.bounds_i64 (ints_wf hw j))) TabOk.nil R g (VRs.cons (vr_list (sz := 1) hρ hsp hle) (VRs.nil))
                        ·
                          have q44 : (zs.getD 2 0 ≤ 38) ∨ (38 < zs.getD 2 0) := by omega
                          rcases q44 with q44 | q44
                          ·
                            have q45 : (zs.getD 2 0 ≤ 37) ∨ (37 < zs.getD 2 0) := by omega
                            rcases q45 with q45 | q45
                            ·
                              exact case50 hL (kn6 37 (by omega) (by omega) (by omega) (fun j => Go.bounds_i64 (ints_wf hw j))) TabOk.nil R g (VRs.cons (vr_list (sz := 1) hρ hsp hle) (VRs.nil))
                            ·
                              exact case51 hL (kn6 38 (by omega) (by omega) (by omega) (fun j => Go.bounds_i64 (ints_wf hw j))) TabOk.nil R g (VRs.cons (vr_list (sz := 1) hρ hsp hle) (VRs.nil))
                          ·
                            have q46 : (zs.getD 2 0 ≤ 39) ∨ (39 < zs.getD 2 0) := by omega
                            rcases q46 with q46 | q46
                            ·
                              exact case52 hL (kn6 39 (by omega) (by omega) (by omega) (fun j => Go.bounds_i64 (ints_wf hw j))) TabOk.nil R g (VRs.cons (vr_list (sz := 1) hρ hsp hle) (VRs.nil))
                            ·
                              exact case53 hL (kn6 40 (by omega) (by omega) (by omega) (fun j => Go.bounds_i64 (ints_wf hw j))) TabOk.nil R g (VRs.cons (vr_list (sz := 1) hρ hsp hle) (VRs.nil))
                      ·
                        have q47 : (zs.getD 2 0 ≤ 44) ∨ (44 < zs.getD 2 0) := by omega
                        rcases q47 with q47 | q47
                        ·
                          have q48 : (zs.getD 2 0 ≤ 42) ∨ (42 < zs.getD 2 0) := by omega
                          rcases q48 with q48 | q48
                          ·
                            have q49 : (zs.getD 2 0 ≤ 41) ∨ (41 < zs.getD 2 0) := by omega
                            rcases q49 with q49 | q49
                            ·
                              exact case54 hL (kn6 41 (by omega) (by omega) (by omega) (fun j => Go.bounds_i64 (ints_wf hw j))) TabOk.nil R g (VRs.cons (vr_list (sz := 1) hρ hsp hle) (VRs.nil))
                            ·
                              exact case55 hL (kn6 42 (by omega) (by omega) (by omega) (fun j => Go.bounds_i64 (ints_wf hw j))) TabOk.nil R g (VRs.cons (vr_list (sz := 1) hρ hsp hle) (VRs.nil))
                          ·
                            have q50 : (zs.getD 2 0 ≤ 43) ∨ (43 < zs.getD 2 0) := by omega
                            rcases q50 with q50 | q50
                            ·
                              exact case56 hL (kn6 43 (by omega) (by omega) (by omega) (fun j => Go.bounds_i64 (ints_wf hw j))) TabOk.nil R g (VRs.cons (vr_list (sz := 1) hρ hsp hle) (VRs.nil))
                            ·
                              exact case57 hL (kn6 44 (by omega) (by omega) (by omega) (fun j => Go.bounds_i64 (ints_wf hw j))) TabOk.nil R g (VRs.cons (vr_list (sz := 1) hρ hsp hle) (VRs.nil))
                        ·
                          have q51 : (zs.getD 2 0 ≤ 46) ∨ (46 < zs.getD 2 0) := by omega
                          rcases q51 with q51 | q51
                          ·
                            have q52 : (zs.getD 2 0 ≤ 45) ∨ (45 < zs.getD 2 0) := by omega
                            rcases q52 with q52 | q52
                            ·
                              exact case58 hL (kn6 45 (by omega) (by omega) (by omega) (fun j => Go.bounds_i64 (ints_wf hw j))) TabOk.nil R g (VRs.cons (vr_list (sz := 1) hρ hsp hle) (VRs.nil))
                            ·
                              exact case59 hL (kn6 46 (by omega) (by omega) (by omega) (fun j => Go.bounds_i64 (ints_wf hw j))) TabOk.nil R g (VRs.cons (vr_list (sz := 1) hρ hsp hle) (VRs.nil))
                          ·
                            have q53 : (zs.getD 2 0 ≤ 47) ∨ (47 < zs.getD 2 0) := by omega
                            rcases q53 with q53 | q53
                            ·
                              exact case60 hL (kn6 47 (by omega) (by omega) (by omega) (fun j => Go.bounds_i64 (ints_wf hw j))) TabOk.nil R g (VRs.cons (vr_list (sz := 1) hρ hsp hle) (VRs.nil))
                            ·
                              exact case61 hL (kn6 48 (by omega) (by omega) (by omega) (fun j => Go.bounds_i64 (ints_wf hw j))) TabOk.nil R g (VRs.cons (vr_list (sz := 1) hρ hsp hle) (VRs.nil))
                    ·
                      have q54 : (zs.getD 2 0 ≤ 56) ∨ (56 < zs.getD 2 0) := by omega
                      rcases q54 with q54 | q54
                      ·
                        have q55 : (zs.getD 2 0 ≤ 52) ∨ (52 < zs.getD 2 0) := by omega
                        rcases q55 with q55 | q55
                        ·
                          have q56 : (zs.getD 2 0 ≤ 50) ∨ (50 < zs.getD 2 0) := by omega
                          rcases q56 with q56 | q56
                          ·
                            have q57 : (zs.getD 2 0 ≤ 49) ∨ (49 < zs.getD 2 0) := by omega
                            rcases q57 with q57 | q57
                            ·
                              exact case62 hL (kn6 49 (by omega) (by omega) (by omega) (fun j => Go.bounds_i64 (ints_wf hw j))) TabOk.nil R g (VRs.cons (vr_list (sz := 1) hρ hsp hle) (VRs.nil))
                            ·
                              exact case63 hL (kn6 50 (by omega) (by omega) (by omega) (fun j => Go.bounds_i64 (ints_wf hw j))) TabOk.nil R g (VRs.cons (vr_list (sz := 1) hρ hsp hle) (VRs.nil))
                          ·
                            have q58 : (zs.getD 2 0 ≤ 51) ∨ (51 < zs.getD 2 0) := by omega
                            rcases q58 with q58 | q58
                            ·
                              exact case64 hL (kn6 51 (by omega) (by omega) (by omega) (fun j => Go.bounds_i64 (ints_wf hw j))) TabOk.nil R g (VRs.cons (vr_list (sz := 1) hρ hsp hle) (VRs.nil))
                            ·
                              exact case65 hL (kn6 52 (by omega) (by omega) (by omega) (fun j => Go.bounds_i64 (ints_wf hw j))) TabOk.nil R g (VRs.cons (vr_list (sz := 1) hρ hsp hle) (VRs.nil))
                        ·
                          have q59 : (zs.getD 2 0 ≤ 54) ∨ (54 < zs.getD 2 0) := by omega
                          rcases q59 with q59 | q59
                          ·
                            have q60 : (zs.getD 2 0 ≤ 53) ∨ (53 < zs.getD 2 0) := by omega
                            rcases q60 with q60 | q60
                            ·
                              exact case66 hL (kn6 53 (by omega) (by omega) (by omega) (fun j => Go.bounds_i64 (ints_wf hw j))) TabOk.nil R g (VRs.cons (vr_list (sz := 1) hρ hsp hle) (VRs.nil))
                            ·
                              exact case67 hL (kn6 54 (by omega) (by omega) (by omega) (fun j => Go.bounds_i64 (ints_wf hw j))) TabOk.nil R g (VRs.cons (vr_list (sz := 1) hρ hsp hle) (VRs.nil))
                          ·
                            have q61 : (zs.getD 2 0 ≤ 55) ∨ (55 < zs.getD 2 0) := by omega
                            rcases q61 with q61 | q61
                            ·
                              exact case68 hL (kn6 55 (by omega) (by omega) (by omega) (fun j => Go.bounds_i64 (ints_wf hw j))) TabOk.nil R g (VRs.cons (vr_list (sz := 1) hρ hsp hle) (VRs.nil))
                            ·
                              exact case69 hL (kn6 56 (by omega) (by omega) (by omega) (fun j => Go.bounds_i64 (ints_wf hw j))) TabOk.nil R g (VRs.cons (vr_list (sz := 1) hρ hsp hle) (VRs.nil))
                      ·
                        have q62 : (zs.getD 2 0 ≤ 60) ∨ (60 < zs.getD 2 0) := by omega
                        rcases q62 with q62 | q62
                        ·
                          have q63 : (zs.getD 2 0 ≤ 58) ∨ (58 < zs.getD 2 0) := by omega
                          rcases q63 with q63 | q63
                          ·
                            have q64 : (zs.getD 2 0 ≤ 57) ∨ (57 < zs.getD 2 0) := by omega
                            rcases q64 with q64 | q64
                            ·
                              exact case70 hL (kn6 57 (by omega) (by omega) (by omega) (fun j => Go.bounds_i64 (ints_wf hw j))) TabOk.nil R g (VRs.cons (vr_list (sz := 1) hρ hsp hle) (VRs.nil))
                            ·
                              exact case71 hL (kn6 58 (by omega) (by omega) (by omega) (fun j => Go.bounds_i64 (ints_wf hw j))) TabOk.nil R g (VRs.cons (vr_list (sz := 1) hρ hsp hle) (VRs.nil))
                          ·
                            have q65 : (zs.getD 2 0 ≤ 59) ∨ (59 < zs.getD 2 0) := by omega
                            rcases q65 with q65 | q65
                            ·
                              exact case72 hL (kn6 59 (by omega) (by omega) (by omega) (fun j => Go.bounds_i64 (ints_wf hw j))) TabOk.nil R g (VRs.cons (vr_list (sz := 1) hρ hsp hle) (VRs.nil))
                            ·
                              exact case73 hL (kn6 60 (by omega) (by omega) (by omega) (fun j => Go.bounds_i64 (ints_wf hw j))) TabOk.nil R g (VRs.cons (vr_list (sz := 1) hρ hsp hle) (VRs.nil))
                        ·
                          have q66 : (zs.getD 2 0 ≤ 62) ∨ (62 < zs.getD 2 0) := by omega
                          rcases q66 with q66 | q66
                          ·
                            have q67 : (zs.getD 2 0 ≤ 61) ∨ (61 < zs.getD 2 0) := by omega
                            rcases q67 with q67 | q67
                            ·
                              exact case74 hL (kn6 61 (by omega) (by omega) (by omega) (fun j => Go.bounds_i64 (ints_wf hw j))) TabOk.nil R g (VRs.cons (vr_list (sz := 1) hρ hsp hle) (VRs.nil))
                            ·
                              exact case75 hL (kn6 62 (by omega) (by omega) (by omega) (fun j => Go.bounds_i64 (ints_wf hw j))) TabOk.nil R g (VRs.cons (vr_list (sz := 1) hρ hsp hle) (VRs.nil))
                          ·
                            have q68 : (zs.getD 2 0 ≤ 63) ∨ (63 < zs.getD 2 0) := by omega
                            rcases q68 with q68 | q68
                            ·
                              exact case76 hL (kn6 63 (by omega) (by omega) (by omega) (fun j => Go.bounds_i64 (ints_wf hw j))) TabOk.nil R g (VRs.cons (vr_list (sz := 1) hρ hsp hle) (VRs.nil))
                            ·
                              exact case77 hL (kn6 64 (by omega) (by omega) (by omega) (fun j => Go.bounds_i64 (ints_wf hw j))) TabOk.nil R g (VRs.cons (vr_list (sz := 1) hρ hsp hle) (VRs.nil))
                ·
                  have q69 : (zs.getD 2 0 ≤ 96) ∨ (96 < zs.getD 2 0) := by omega
                  rcases q69 with q69 | q69
                  ·
                    have q70 : (zs.getD 2 0 ≤ 80) ∨ (80 < zs.getD 2 0) := by omega
                    rcases q70 with q70 | q70
                    ·
                      have q71 : (zs.getD 2 0 ≤ 72) ∨ (72 < zs.getD 2 0) := by omega
                      rcases q71 with q71 | q71
                      ·
                        have q72 : (zs.getD 2 0 ≤ 68) ∨ (68 < zs.getD 2 0) := by omega
                        rcases q72 with q72 | q72
                        ·
                          have q73 : (zs.getD 2 0 ≤ 66) ∨ (66 < zs.getD 2 0) := by omega
                          rcases q73 with q73 | q73
                          ·
                            have q74 : (zs.getD 2 0 ≤ 65) ∨ (65 < zs.getD 2 0) := by omega
                            rcases q74 with q74 | q74
                            ·
                              exact case78 hL (kn6 65 (by omega) (by omega) (by omega) (fun j => Go.bounds_i64 (ints_wf hw j))) TabOk.nil R g (VRs.cons (vr_list (sz := 1) hρ hsp hle) (VRs.nil))
                            ·
                              exact case79 hL (kn6 66 (by omega) (by omega) (by omega) (fun j => Go.bounds_i64 (ints_wf hw j))) TabOk.nil R g (VRs.cons (vr_list (sz := 1) hρ hsp hle) (VRs.nil))
                          ·
                            have q75 : (zs.getD 2 0 ≤ 67) ∨ (67 < zs.getD 2 0) := by omega
                            rcases q75 with q75 | q75
                            ·
                              exact case80 hL (kn6 67 (by omega) (by omega) (by omega) (fun j => Go.bounds_i64 (ints_wf hw j))) TabOk.nil R g (VRs.cons (vr_list (sz := 1) hρ hsp hle) (VRs.nil))
                            ·
                              exact case81 hL (kn6 68 (by omega) (by omega) (by omega) (fun j => Go.bounds_i64 (ints_wf hw j))) TabOk.nil R g (VRs.cons (vr_list (sz := 1) hρ hsp hle) (VRs.nil))
                        ·
                          have q76 : (zs.getD 2 0 ≤ 70) ∨ (70 < zs.getD 2 0) := by omega
                          rcases q76 with q76 | q76
                          ·
                            have q77 : (zs.getD 2 0 ≤ 69) ∨ (69 < zs.getD 2 0) := by omega
                            rcases q77 with q77 | q77
                            ·
                              exact case82 hL (kn6 69 (by omega) (by omega) (by omega) (fun j => Go.bounds_i64 (ints_wf hw j))) TabOk.nil R g (VRs.cons (vr_list (sz := 1) hρ hsp hle) (VRs.nil))
                            ·
                              exact case83 hL (kn6 70 (by omega) (by omega) (by omega) (fun j => Go.bounds_i64 (ints_wf hw j))) TabOk.nil R g (VRs.cons (vr_list (sz := 1) hρ hsp hle) (VRs.nil))
                          ·
                            have q78 : (zs.getD 2 0 ≤ 71) ∨ (71 < zs.getD 2 0) := by omega
                            rcases q78 with q78 | q78
                            ·
                              exact case84 hL (kn6 71 (by omega) (by omega) (by omega) (fun j => Go.bounds_i64 (ints_wf hw j))) TabOk.nil R g (VRs.cons (vr_list (sz := 1) hρ hsp hle) (VRs.nil))
                            ·
                              exact case85 hL (kn6 72 (by omega) (by omega) (by omega) (fun j => Go.bounds_i64 (ints_wf hw j))) TabOk.nil R g (VRs.cons (vr_list (sz := 1) hρ hsp hle) (VRs.nil))
                      ·
                        have q79 : (zs.getD 2 0 ≤ 76) ∨ (76 < zs.getD 2 0) := by omega
                        rcases q79 with q79 | q79
                        ·
                          have q80 : (zs.getD 2 0 ≤ 74) ∨ (74 < zs.getD 2 0) := by omega
                          rcases q80 with q80 | q80
                          ·
                            have q81 : (zs.getD 2 0 ≤ 73) ∨ (73 < zs.getD 2 0) := by omega
                            rcases q81 with q81 | q81
                            ·
                              exact case86 hL (kn6 73 (by omega) (by omega) (by omega) (fun j => Go.bounds_i64 (ints_wf hw j))) TabOk.nil R g (VRs.cons (vr_list (sz := 1) hρ hsp hle) (VRs.nil))
                            ·
                              exact case87 hL (kn6 74 (by omega) (by omega) (by omega) (fun j => Go.bounds_i64 (ints_wf hw j))) TabOk.nil R g (VRs.cons (vr_list (sz := 1) hρ hsp hle) (VRs.nil))
                          ·
                            have q82 : (zs.getD 2 0 ≤ 75) ∨ (75 < zs.getD 2 0) := by omega
                            rcases q82 with q82 | q82
                            ·
                              exact case88 hL (kn6 75 (by omega) (by omega) (by omega) (fun j => Go.bounds_i64 (ints_wf hw j))) TabOk.nil R g (VRs.cons (vr_list (sz := 1) hρ hsp hle) (VRs.nil))
                            ·
                              exact case89 hL (kn6 76 (by omega) (by omega) (by omega) (fun j => Go.bounds_i64 (ints_wf hw j))) TabOk.nil R g (VRs.cons (vr_list (sz := 1) hρ hsp hle) (VRs.nil))
                        ·
                          have q83 : (zs.getD 2 0 ≤ 78) ∨ (78 < zs.getD 2 0) := by omega
                          rcases q83 with q83 | q83
                          ·
                            have q84 : (zs.getD 2 0 ≤ 77) ∨ (77 < zs.getD 2 0) := by omega
                            rcases q84 with q84 | q84
                            ·
                              exact case90 hL (kn6 77 (by omega) (by omega) (by omega) (fun j => Go.bounds_i64 (ints_wf hw j))) TabOk.nil R g (VRs.cons (vr_list (sz := 1) hρ hsp hle) (VRs.nil))
                            ·
                              exact case91 hL (kn6 78 (by omega) (by omega) (by omega) (fun j => Go.bounds_i64 (ints_wf hw j))) TabOk.nil R g (VRs.cons (vr_list (sz := 1) hρ hsp hle) (VRs.nil))
                          ·
                            have q85 : (zs.getD 2 0 ≤ 79) ∨ (79 < zs.getD 2 0) := by omega
                            rcases q85 with q85 | q85
                            ·
                              exact case92 hL (kn6 79 (by omega) (by omega) (by omega) (fun j => Go.bounds_i64 (ints_wf hw j))) TabOk.nil R g (VRs.cons (vr_list (sz := 1) hρ hsp hle) (VRs.nil))
                            ·
                              exact case93 hL (kn6 80 (by omega) (by omega) (by omega) (fun j => Go.bounds_i64 (ints_wf hw j))) TabOk.nil R g (VRs.cons (vr_list (sz := 1) hρ hsp hle) (VRs.nil))
                    ·
                      have q86 : (zs.getD 2 0 ≤ 88) ∨ (88 < zs.getD 2 0) := by omega
                      rcases q86 with q86 | q86
                      ·
                        have q87 : (zs.getD 2 0 ≤ 84) ∨ (84 < zs.getD 2 0) := by omega
                        rcases q87 with q87 | q87
                        ·
                          have q88 : (zs.getD 2 0 ≤ 82) ∨ (82 < zs.getD 2 0) := by omega
                          rcases q88 with q88 | q88
                          ·
                            have q89 : (zs.getD 2 0 ≤ 81) ∨ (81 < zs.getD 2 0) := by omega
                            rcases q89 with q89 | q89
                            ·
                              exact case94 hL (kn6 81 (by omega) (by omega) (by omega) (fun j => Go.bounds_i64 (ints_wf hw j))) TabOk.nil R g (VRs.cons (vr_list (sz := 1) hρ hsp hle) (VRs.nil))
                            ·
                              exact case95 hL (kn6 82 (by omega) (by omega) (by omega) (fun j => Go.bounds_i64 (ints_wf hw j))) TabOk.nil R g (VRs.cons (vr_list (sz := 1) hρ hsp hle) (VRs.nil))
                          ·
                            have q90 : (zs.getD 2 0 ≤ 83) ∨ (83 < zs.getD 2 0) := by omega
                            rcases q90 with q90 | q90
                            ·
                              exact case96 hL (kn6 83 (by omega) (by omega) (by omega) (fun j => Go.bounds_i64 (ints_wf hw j))) TabOk.nil R g (VRs.cons (vr_list (sz := 1) hρ hsp hle) (VRs.nil))
                            ·
                              exact case97 hL (kn6 84 (by omega) (by omega) (by omega) (fun j => Go.bounds_i64 (ints_wf hw j))) TabOk.nil R g (VRs.cons (vr_list (sz := 1) hρ hsp hle) (VRs.nil))
                        ·
                          have q91 : (zs.getD 2 0 ≤ 86) ∨ (86 < zs.getD 2 0) := by omega
                          rcases q91 with q91 | q91
                          ·
                            have q92 : (zs.getD 2 0 ≤ 85) ∨ (85 < zs.getD 2 0) := by omega
                            rcases q92 with q92 | q92
                            ·
                              exact case98 hL (kn6 85 (by omega) (by omega) (by omega) (fun j => Go.bounds_i64 (ints_wf hw j))) TabOk.nil R g (VRs.cons (vr_list (sz := 1) hρ hsp hle) (VRs.nil))
                            ·
                              exact case99 hL (kn6 86 (by omega) (by omega) (by omega) (fun j => Go.bounds_i64 (ints_wf hw j))) TabOk.nil R g (VRs.cons (vr_list (sz := 1) hρ hsp hle) (VRs.nil))
                          ·
                            have q93 : (zs.getD 2 0 ≤ 87) ∨ (87 < zs.getD 2 0) := by omega
                            rcases q93 with q93 | q93
                            ·
                              exact case100 hL (kn6 87 (by omega) (by omega) (by omega) (fun j => Go.bounds_i64 (ints_wf hw j))) TabOk.nil R g (VRs.cons (vr_list (sz := 1) hρ hsp hle) (VRs.nil))
                            ·
                              exact case101 hL (kn6 88 (by omega) (by omega) (by omega) (fun j => Go.bounds_i64 (ints_wf hw j))) TabOk.nil R g (VRs.cons (vr_list (sz := 1) hρ hsp hle) (VRs.nil))
                      ·
                        have q94 : (zs.getD 2 0 ≤ 92) ∨ (92 < zs.getD 2 0) := by omega
                        rcases q94 with q94 | q94
                        ·
                          have q95 : (zs.getD 2 0 ≤ 90) ∨ (90 < zs.getD 2 0) := by omega
                          rcases q95 with q95 | q95
                          ·
                            have q96 : (zs.getD 2 0 ≤ 89) ∨ (89 < zs.getD 2 0) := by omega
                            rcases q96 with q96 | q96
                            ·
                              exact case102 hL (kn6 89 (by omega) (by omega) (by omega) (fun j => Go.bounds_i64 (ints_wf hw j))) TabOk.nil R g (VRs.cons (vr_list (sz := 1) hρ hsp hle) (VRs.nil))
                            ·
                              exact case103 hL (kn6 90 (by omega) (by omega) (by omega) (fun j => Go.bounds_i64 (ints_wf hw j))) TabOk.nil R g (VRs.cons (vr_list (sz := 1) hρ hsp hle) (VRs.nil))
                          ·
                            have q97 : (zs.getD 2 0 ≤ 91) ∨ (91 < zs.getD 2 0) := by omega
                            rcases q97 with q97 | q97
                            ·
                              exact case104 hL (kn6 91 (by omega) (by omega) (by omega) (fun j => Go.bounds_i64 (ints_wf hw j))) TabOk.nil R g (VRs.cons (vr_list (sz := 1) hρ hsp hle) (VRs.nil))
                            ·
                              exact case105 hL (kn6 92 (by omega) (by omega) (by omega) (fun j => Go.bounds_i64 (ints_wf hw j))) TabOk.nil R g (VRs.cons (vr_list (sz := 1) hρ hsp hle) (VRs.nil))
                        ·
                          have q98 : (zs.getD 2 0 ≤ 94) ∨ (94 < zs.getD 2 0) := by omega
                          rcases q98 with q98 | q98
                          ·
                            have q99 : (zs.getD 2 0 ≤ 93) ∨ (93 < zs.getD 2 0) := by omega
                            rcases q99 with q99 | q99
                            ·
                              exact case106 hL (kn6 93 (by omega) (by omega) (by omega) (fun j => Go.bounds_i64 (ints_wf hw j))) TabOk.nil R g (VRs.cons (vr_list (sz := 1) hρ hsp hle) (VRs.nil))
                            ·
                              exact case107 hL (kn6 94 (by omega) (by omega) (by omega) (fun j => Go.bounds_i64 (ints_wf hw j))) TabOk.nil R g (VRs.cons (vr_list (sz := 1) hρ hsp hle) (VRs.nil))
                          ·
                            have q100 : (zs.getD 2 0 ≤ 95) ∨ (95 < zs.getD 2 0) := by omega
                            rcases q100 with q100 | q100
                            ·
                              exact case108 hL (kn6 95 (by omega) (by omega) (by omega) (fun j => Go.bounds_i64 (ints_wf hw j))) TabOk.nil R g (VRs.cons (vr_list (sz := 1) hρ hsp hle) (VRs.nil))
                            ·
                              exact case109 hL (kn6 96 (by omega) (by omega) (by omega) (fun j => Go.bounds_i64 (ints_wf hw j))) TabOk.nil R g (VRs.cons (vr_list (sz := 1) hρ hsp hle) (VRs.nil))
                  ·
                    have q101 : (zs.getD 2 0 ≤ 112) ∨ (112 < zs.getD 2 0) := by omega
                    rcases q101 with q101 | q101
                    ·
                      have q102 : (zs.getD 2 0 ≤ 104) ∨ (104 < zs.getD 2 0) := by omega
                      rcases q102 with q102 | q102
                      ·
                        have q103 : (zs.getD 2 0 ≤ 100) ∨ (100 < zs.getD 2 0) := by omega
                        rcases q103 with q103 | q103
                        ·
                          have q104 : (zs.getD 2 0 ≤ 98) ∨ (98 < zs.getD 2 0) := by omega
                          rcases q104 with q104 | q104
                          ·
                            have q105 : (zs.getD 2 0 ≤ 97) ∨ (97 < zs.getD 2 0) := by omega
                            rcases q105 with q105 | q105
                            ·
                              exact case110 hL (kn6 97 (by omega) (by omega) (by omega) (fun j => Go.bounds_i64 (ints_wf hw j))) TabOk.nil R g (VRs.cons (vr_list (sz := 1) hρ hsp hle) (VRs.nil))
                            ·
                              exact case111 hL (kn6 98 (by omega) (by omega) (by omega) (fun j => Go.bounds_i64 (ints_wf hw j))) TabOk.nil R g (VRs.cons (vr_list (sz := 1) hρ hsp hle) (VRs.nil))
                          ·
                            have q106 : (zs.getD 2 0 ≤ 99) ∨ (99 < zs.getD 2 0) := by omega
                            rcases q106 with q106 | q106
                            ·
                              exact case112 hL (kn6 99 (by omega) (by omega) (by omega) (fun j => Go.bounds_i64 (ints_wf hw j))) TabOk.nil R g (VRs.cons (vr_list (sz := 1) hρ hsp hle) (VRs.nil))
                            ·
                              exact case113 hL (kn6 100 (by omega) (by omega) (by omega) (fun j => Go.bounds_i64 (ints_wf hw j))) TabOk.nil R g (VRs.cons (vr_list (sz := 1) hρ hsp hle) (VRs.nil))
                        ·
                          have q107 : (zs.getD 2 0 ≤ 102) ∨ (102 < zs.getD 2 0) := by omega
                          rcases q107 with q107 | q107
                          ·
                            have q108 : (zs.getD 2 0 ≤ 101) ∨ (101 < zs.getD 2 0) := by omega
                            rcases q108 with q108 | q108
                            ·
                              exact case114 hL (kn6 101 (by omega) (by omega) (by omega) (fun j => Go.bounds_i64 (ints_wf hw j))) TabOk.nil R g (VRs.cons (vr_list (sz := 1) hρ hsp hle) (VRs.nil))
                            ·
                              exact case115 hL (kn6 102 (by omega) (by omega) (by omega) (fun j => Go.bounds_i64 (ints_wf hw j))) TabOk.nil R g (VRs.cons (vr_list (sz := 1) hρ hsp hle) (VRs.nil))
                          ·
                            have q109 : (zs.getD 2 0 ≤ 103) ∨ (103 < zs.getD 2 0) := by omega
                            rcases q109 with q109 | q109
                            ·
                              exact case116 hL (kn6 103 (by omega) (by omega) (by omega) (fun j => Go.bounds_i64 (ints_wf hw j))) TabOk.nil R g (VRs.cons (vr_list (sz := 1) hρ hsp hle) (VRs.nil))
                            ·
                              exact case117 hL (kn6 104 (by omega) (by omega) (by omega) (fun j => Go.bounds_i64 (ints_wf hw j))) TabOk.nil R g (VRs.cons (vr_list (sz := 1) hρ hsp hle) (VRs.nil))
                      ·
                        have q110 : (zs.getD 2 0 ≤ 108) ∨ (108 < zs.getD 2 0) := by omega
                        rcases q110 with q110 | q110
                        ·
                          have q111 : (zs.getD 2 0 ≤ 106) ∨ (106 < zs.getD 2 0) := by omega
                          rcases q111 with q111 | q111
                          ·
                            have q112 : (zs.getD 2 0 ≤ 105) ∨ (105 < zs.getD 2 0) := by omega
                            rcases q112 with q112 | q112
                            ·
                              exact case118 hL (kn6 105 (by omega) (by omega) (by omega) (fun j => Go.bounds_i64 (ints_wf hw j))) TabOk.nil R g (VRs.cons (vr_list (sz := 1) hρ hsp hle) (VRs.nil))
                            ·
                              exact case119 hL (kn6 106 (by omega) (by omega) (by omega) (fun j => Go.bounds_i64 (ints_wf hw j))) TabOk.nil R g (VRs.cons (vr_list (sz := 1) hρ hsp hle) (VRs.nil))
                          ·
                            have q113 : (zs.getD 2 0 ≤ 107) ∨ (107 < zs.getD 2 0) := by omega
                            rcases q113 with q113 | q113
                            ·
                              exact case120 hL (kn6 107 (by omega) (by omega) (by omega) (fun j => Go.bounds_i64 (ints_wf hw j))) TabOk.nil R g (VRs.cons (vr_list (sz := 1) hρ hsp hle) (VRs.nil))
                            ·
                              exact case121 hL (kn6 108 (by omega) (by omega) (by omega) (fun j => Go.bounds_i64 (ints_wf hw j))) TabOk.nil R g (VRs.cons (vr_list (sz := 1) hρ hsp hle) (VRs.nil))
                        ·
                          have q114 : (zs.getD 2 0 ≤ 110) ∨ (110 < zs.getD 2 0) := by omega
                          rcases q114 with q114 | q114
                          ·
                            have q115 : (zs.getD 2 0 ≤ 109) ∨ (109 < zs.getD 2 0) := by omega
                            rcases q115 with q115 | q115
                            ·
                              exact case122 hL (kn6 109 (by omega) (by omega) (by omega) (fun j => Go.bounds_i64 (ints_wf hw j))) TabOk.nil R g (VRs.cons (vr_list (sz := 1) hρ hsp hle) (VRs.nil))
                            ·
                              exact case123 hL (kn6 110 (by omega) (by omega) (by omega) (fun j => Go.bounds_i64 (ints_wf hw j))) TabOk.nil R g (VRs.cons (vr_list (sz := 1) hρ hsp hle) (VRs.nil))
                          ·
                            have q116 : (zs.getD 2 0 ≤ 111) ∨ (111 < zs.getD 2 0) := by omega
                            rcases q116 with q116 | q116
                            ·
                              exact case124 hL (kn6 111 (by omega) (by omega) (by omega) (fun j => Go.bounds_i64 (ints_wf hw j))) TabOk.nil R g (VRs.cons (vr_list (sz := 1) hρ hsp hle) (VRs.nil))
                            ·
                              exact case125 hL (kn6 112 (by omega) (by omega) (by omega) (fun j => Go.bounds_i64 (ints_wf hw j))) TabOk.nil R g (VRs.cons (vr_list (sz := 1) hρ hsp hle) (VRs.nil))
                    ·
                      have q117 : (zs.getD 2 0 ≤ 120) ∨ (120 < zs.getD 2 0) := by omega
                      rcases q117 with q117 | q117
                      ·
                        have q118 : (zs.getD 2 0 ≤ 116) ∨ (116 < zs.getD 2 0) := by omega
                        rcases q118 with q118 | q118
                        ·
                          have q119 : (zs.getD 2 0 ≤ 114) ∨ (114 < zs.getD 2 0) := by omega
                          rcases q119 with q119 | q119
                          ·
                            have q120 : (zs.getD 2 0 ≤ 113) ∨ (113 < zs.getD 2 0) := by omega
                            rcases q120 with q120 | q120
                            ·
                              exact case126 hL (kn6 113 (by omega) (by omega) (by omega) (fun j => Go.bounds_i64 (ints_wf hw j))) TabOk.nil R g (VRs.cons (vr_list (sz := 1) hρ hsp hle) (VRs.nil))
                            ·
                              exact case127 hL (kn6 114 (by omega) (by omega) (by omega) (fun j => Go.bounds_i64 (ints_wf hw j))) TabOk.nil R g (VRs.cons (vr_list (sz := 1) hρ hsp hle) (VRs.nil))
                          ·
                            have q121 : (zs.getD 2 0 ≤ 115) ∨ (115 < zs.getD 2 0) := by omega
                            rcases q121 with q121 | q121
                            ·
                              exact case128 hL (kn6 115 (by omega) (by omega) (by omega) (fun j => Go.bounds_i64 (ints_wf hw j))) TabOk.nil R g (VRs.cons (vr_list (sz := 1) hρ hsp hle) (VRs.nil))
                            ·
                              exact case129 hL (kn6 116 (by omega) (by omega) (by omega) (fun j => Go.bounds_i64 (ints_wf hw j))) TabOk.nil R g (VRs.cons (vr_list (sz := 1) hρ hsp hle) (VRs.nil))
                        ·
                          have q122 : (zs.getD 2 0 ≤ 118) ∨ (118 < zs.getD 2 0) := by omega
                          rcases q122 with q122 | q122
                          ·
                            have q123 : (zs.getD 2 0 ≤ 117) ∨ (117 < zs.getD 2 0) := by omega
                            rcases q123 with q123 | q123
                            ·
                              exact case130 hL (kn6 117 (by omega) (by omega) (by omega) (fun j => Go.bounds_i64 (ints_wf hw j))) TabOk.nil R g (VRs.cons (vr_list (sz := 1) hρ hsp hle) (VRs.nil))
                            ·
                              exact case131 hL (kn6 118 (by omega) (by omega) (by omega) (fun j => Go.bounds_i64 (ints_wf hw j))) TabOk.nil R g (VRs.cons (vr_list (sz := 1) hρ hsp hle) (VRs.nil))
                          ·
                            have q124 : (zs.getD 2 0 ≤ 119) ∨ (119 < zs.getD 2 0) := by omega
                            rcases q124 with q124 | q124
                            ·
                              exact case132 hL (kn6 119 (by omega) (by omega) (by omega) (fun j => Go.bounds_i64 (ints_wf hw j))) TabOk.nil R g (VRs.cons (vr_list (sz := 1) hρ hsp hle) (VRs.nil))
                            ·
                              exact case133 hL (kn6 120 (by omega) (by omega) (by omega) (fun j => Go.bounds_i64 (ints_wf hw j))) TabOk.nil R g (VRs.cons (vr_list (sz := 1) hρ hsp hle) (VRs.nil))
                      ·
                        have q125 : (zs.getD 2 0 ≤ 124) ∨ (124 < zs.getD 2 0) := by omega
                        rcases q125 with q125 | q125
                        ·
                          have q126 : (zs.getD 2 0 ≤ 122) ∨ (122 < zs.getD 2 0) := by omega
                          rcases q126 with q126 | q126
                          ·
                            have q127 : (zs.getD 2 0 ≤ 121) ∨ (121 < zs.getD 2 0) := by omega
                            rcases q127 with q127 | q127
                            ·
                              exact case134 hL (kn6 121 (by omega) (by omega) (by omega) (fun j => Go.bounds_i64 (ints_wf hw j))) TabOk.nil R g (VRs.cons (vr_list (sz := 1) hρ hsp hle) (VRs.nil))
                            ·
                              exact case135 hL (kn6 122 (by omega) (by omega) (by omega) (fun j => Go.bounds_i64 (ints_wf hw j))) TabOk.nil R g (VRs.cons (vr_list (sz := 1) hρ hsp hle) (VRs.nil))
                          ·
                            have q128 : (zs.getD 2 0 ≤ 123) ∨ (123 < zs.getD 2 0) := by omega
                            rcases q128 with q128 | q128
                            ·
                              exact case136 hL (kn6 123 (by omega) (by omega) (by omega) (fun j => Go.bounds_i64 (ints_wf hw j))) TabOk.nil R g (VRs.cons (vr_list (sz := 1) hρ hsp hle) (VRs.nil))
                            ·
                              exact case137 hL (kn6 124 (by omega) (by omega) (by omega) (fun j => Go.bounds_i64 (ints_wf hw j))) TabOk.nil R g (VRs.cons (vr_list (sz := 1) hρ hsp hle) (VRs.nil))
                        ·
                          have q129 : (zs.getD 2 0 ≤ 126) ∨ (126 < zs.getD 2 0) := by omega
                          rcases q129 with q129 | q129
                          ·
                            have q130 : (zs.getD 2 0 ≤ 125) ∨ (125 < zs.getD 2 0) := by omega
                            rcases q130 with q130 | q130
                            ·
                              exact case138 hL (kn6 125 (by omega) (by omega) (by omega) (fun j => Go.bounds_i64 (ints_wf hw j))) TabOk.nil R g (VRs.cons (vr_list (sz := 1) hρ hsp hle) (VRs.nil))
                            ·
                              exact case139 hL (kn6 126 (by omega) (by omega) (by omega) (fun j => Go.bounds_i64 (ints_wf hw j))) TabOk.nil R g (VRs.cons (vr_list (sz := 1) hρ hsp hle) (VRs.nil))
                          ·
                            have q131 : (zs.getD 2 0 ≤ 127) ∨ (127 < zs.getD 2 0) := by omega
                            rcases q131 with q131 | q131
                            ·
                              exact case140 hL (kn6 127 (by omega) (by omega) (by omega) (fun j => Go.bounds_i64 (ints_wf hw j))) TabOk.nil R g (VRs.cons (vr_list (sz := 1) hρ hsp hle) (VRs.nil))
                            ·
                              exact case141 hL (kn6 128 (by omega) (by omega) (by omega) (fun j => Go.bounds_i64 (ints_wf hw j))) TabOk.nil R g (VRs.cons (vr_list (sz := 1) hρ hsp hle) (VRs.nil))
              ·
                have q132 : (zs.getD 2 0 ≤ 192) ∨ (192 < zs.getD 2 0) := by omega
                rcases q132 with q132 | q132
                ·
                  have q133 : (zs.getD 2 0 ≤ 160) ∨ (160 < zs.getD 2 0) := by omega
                  rcases q133 with q133 | q133
                  ·
                    have q134 : (zs.getD 2 0 ≤ 144) ∨ (144 < zs.getD 2 0) := by omega
                    rcases q134 with q134 | q134
                    ·
                      have q135 : (zs.getD 2 0 ≤ 136) ∨ (136 < zs.getD 2 0) := by omega
                      rcases q135 with q135 | q135
                      ·
                        have q136 : (zs.getD 2 0 ≤ 132) ∨ (132 < zs.getD 2 0) := by omega
                        rcases q136 with q136 | q136
                        ·
                          have q137 : (zs.getD 2 0 ≤ 130) ∨ (130 < zs.getD 2 0) := by omega
                          rcases q137 with q137 | q137
                          ·
                            have q138 : (zs.getD 2 0 ≤ 129) ∨ (129 < zs.getD 2 0) := by omega
                            rcases q138 with q138 | q138
                            ·
                              exact case142 hL (kn6 129 (by omega) (by omega) (by omega) (fun j => Go.bounds_i64 (ints_wf hw j))) TabOk.nil R g (VRs.cons (vr_list (sz := 1) hρ hsp hle) (VRs.nil))
                            ·
                              exact case143 hL (kn6 130 (by omega) (by omega) (by omega) (fun j => Go.bounds_i64 (ints_wf hw j))) TabOk.nil R g (VRs.cons (vr_list (sz := 1) hρ hsp hle) (VRs.nil))
                          ·
                            have q139 : (zs.getD 2 0 ≤ 131) ∨ (131 < zs.getD 2 0) := by omega
                            rcases q139 with q139 | q139
                            ·
                              exact case144 hL (kn6 131 (by omega) (by omega) (by omega) (fun j => Go.bounds_i64 (ints_wf hw j))) TabOk.nil R g (VRs.cons (vr_list (sz := 1) hρ hsp hle) (VRs.nil))
                            ·
                              exact case145 hL (kn6 132 (by omega) (by omega) (by omega) (fun j => Go.bounds_i64 (ints_wf hw j))) TabOk.nil R g (VRs.cons (vr_list (sz := 1) hρ hsp hle) (VRs.nil))
                        ·
                          have q140 : (zs.getD 2 0 ≤ 134) ∨ (134 < zs.getD 2 0) := by omega
                          rcases q140 with q140 | q140
                          ·
                            have q141 : (zs.getD 2 0 ≤ 133) ∨ (133 < zs.getD 2 0) := by omega
                            rcases q141 with q141 | q141
                            ·
                              exact case146 hL (kn6 133 (by omega) (by omega) (by omega) (fun j => Go.bounds_i64 (ints_wf hw j))) TabOk.nil R g (VRs.cons (vr_list (sz := 1) hρ hsp hle) (VRs.nil))
                            ·
                              exact case147 hL (kn6 134 (by omega) (by omega) (by omega) (fun j => Go.bounds_i64 (ints_wf hw j))) TabOk.nil R g (VRs.cons (vr_list (sz := 1) hρ hsp hle) (VRs.nil))
                          ·
                            have q142 : (zs.getD 2 0 ≤ 135) ∨ (135 < zs.getD 2 0) := by omega
                            rcases q142 with q142 | q142
                            ·
                              exact case148 hL (kn6 135 (by omega) (by omega) (by omega) (fun j => Go.bounds_i64 (ints_wf hw j))) TabOk.nil R g (VRs.cons (vr_list (sz := 1) hρ hsp hle) (VRs.nil))
                            ·
                              exact case149 hL (kn6 136 (by omega) (by omega) (by omega) (fun j => Go.bounds_i64 (ints_wf hw j))) TabOk.nil R g (VRs.cons (vr_list (sz := 1) hρ hsp hle) (VRs.nil))
                      ·
                        have q143 : (zs.getD 2 0 ≤ 140) ∨ (140 < zs.getD 2 0) := by omega
                        rcases q143 with q143 | q143
                        ·
                          have q144 : (zs.getD 2 0 ≤ 138) ∨ (138 < zs.getD 2 0) := by omega
                          rcases q144 with q144 | q144
                          ·
                            have q145 : (zs.getD 2 0 ≤ 137) ∨ (137 < zs.getD 2 0) := by omega
                            rcases q145 with q145 | q145
                            ·
                              exact case150 hL (kn6 137 (by omega) (by omega) (by omega) (fun j => Go.bounds_i64 (ints_wf hw j))) TabOk.nil R g (VRs.cons (vr_list (sz := 1) hρ hsp hle) (VRs.nil))
                            ·
                              exact case151 hL (kn6 138 (by omega) (by omega) (by omega) (fun j => Go.bounds_i64 (ints_wf hw j))) TabOk.nil R g (VRs.cons (vr_list (sz := 1) hρ hsp hle) (VRs.nil))
                          ·
                            have q146 : (zs.getD 2 0 ≤ 139) ∨ (139 < zs.getD 2 0) := by omega
                            rcases q146 with q146 | q146
                            ·
                              exact case152 hL (kn6 139 (by omega) (by omega) (by omega) (fun j => Go.bounds_i64 (ints_wf hw j))) TabOk.nil R g (VRs.cons (vr_list (sz := 1) hρ hsp hle) (VRs.nil))
                            ·
                              exact case153 hL (kn6 140 (by omega) (by omega) (by omega) (fun j => Go.bounds_i64 (ints_wf hw j))) TabOk.nil R g (VRs.cons (vr_list (sz := 1) hρ hsp hle) (VRs.nil))
                        ·
                          have q147 : (zs.getD 2 0 ≤ 142) ∨ (142 < zs.getD 2 0) := by omega
                          rcases q147 with q147 | q147
                          ·
                            have q148 : (zs.getD 2 0 ≤ 141) ∨ (141 < zs.getD 2 0) := by omega
                            rcases q148 with q148 | q148
                            ·
                              exact case154 hL (kn6 141 (by omega) (by omega) (by omega) (fun j => Go.bounds_i64 (ints_wf hw j))) TabOk.nil R g (VRs.cons (vr_list (sz := 1) hρ hsp hle) (VRs.nil))
                            ·
                              exact case155 hL (kn6 142 (by omega) (by omega) (by omega) (fun j => Go.bounds_i64 (ints_wf hw j))) TabOk.nil R g (VRs.cons (vr_list (sz := 1) hρ hsp hle) (VRs.nil))
                          ·
                            have q149 : (zs.getD 2 0 ≤ 143) ∨ (143 < zs.getD 2 0) := by omega
                            rcases q149 with q149 | q149
                            ·
                              exact case156 hL (kn6 143 (by omega) (by omega) (by omega) (fun j => Go.bounds_i64 (ints_wf hw j))) TabOk.nil R g (VRs.cons (vr_list (sz := 1) hρ hsp hle) (VRs.nil))
                            ·
                              exact case157 hL (kn6 144 (by omega) (by omega) (by omega) (fun j => Go.bounds_i64 (ints_wf hw j))) TabOk.nil R g (VRs.cons (vr_list (sz := 1) hρ hsp hle) (VRs.nil))
                    ·
                      have q150 : (zs.getD 2 0 ≤ 152) ∨ (152 < zs.getD 2 0) := by omega
                      rcases q150 with q150 | q150
                      ·
                        have q151 : (zs.getD 2 0 ≤ 148) ∨ (148 < zs.getD 2 0) := by omega
                        rcases q151 with q151 | q151
                        ·
                          have q152 : (zs.getD 2 0 ≤ 146) ∨ (146 < zs.getD 2 0) := by omega
                          rcases q152 with q152 | q152
                          ·
                            have q153 : (zs.getD 2 0 ≤ 145) ∨ (145 < zs.getD 2 0) := by omega
                            rcases q153 with q153 | q153
                            ·
                              exact case158 hL (kn6 145 (by omega) (by omega) (by omega) (fun j => Go.bounds_i64 (ints_wf hw j))) TabOk.nil R g (VRs.cons (vr_list (sz := 1) hρ hsp hle) (VRs.nil))
                            ·
                              exact case159 hL (kn6 146 (by omega) (by omega) (by omega) (fun j => Go.bounds_i64 (ints_wf hw j))) TabOk.nil R g (VRs.cons (vr_list (sz := 1) hρ hsp hle) (VRs.nil))
                          ·
                            have q154 : (zs.getD 2 0 ≤ 147) ∨ (147 < zs.getD 2 0) := by omega
                            rcases q154 with q154 | q154
                            ·
                              exact case160 hL (kn6 147 (by omega) (by omega) (by omega) (fun j => Go.bounds_i64 (ints_wf hw j))) TabOk.nil R g (VRs.cons (vr_list (sz := 1) hρ hsp hle) (VRs.nil))
                            ·
                              exact case161 hL (kn6 148 (by omega) (by omega) (by omega) (fun j => Go.bounds_i64 (ints_wf hw j))) TabOk.nil R g (VRs.cons (vr_list (sz := 1) hρ hsp hle) (VRs.nil))
                        ·
                          have q155 : (zs.getD 2 0 ≤ 150) ∨ (150 < zs.getD 2 0) := by omega
                          rcases q155 with q155 | q155
                          ·
                            have q156 : (zs.getD 2 0 ≤ 149) ∨ (149 < zs.getD 2 0) := by omega
                            rcases q156 with q156 | q156
                            ·
                              exact case162 hL (kn6 149 (by omega) (by omega) (by omega) (fun j => Go.bounds_i64 (ints_wf hw j))) TabOk.nil R g (VRs.cons (vr_list (sz := 1) hρ hsp hle) (VRs.nil))
                            ·
                              exact case163 hL (kn6 150 (by omega) (by omega) (by omega) (fun j => Go.bounds_i64 (ints_wf hw j))) TabOk.nil R g (VRs.cons (vr_list (sz := 1) hρ hsp hle) (VRs.nil))
                          ·
                            have q157 : (zs.getD 2 0 ≤ 151) ∨ (151 < zs.getD 2 0) := by omega
                            rcases q157 with q157 | q157
                            ·
                              exact case164 hL (kn6 151 (by omega) (by omega) (by omega) (fun j => Go.bounds_i64 (ints_wf hw j))) TabOk.nil R g (VRs.cons (vr_list (sz := 1) hρ hsp hle) (VRs.nil))
                            ·
                              exact case165 hL (kn6 152 (by omega) (by omega) (by omega) (fun j => Go.bounds_i64 (ints_wf hw j))) TabOk.nil R g (VRs.cons (vr_list (sz := 1) hρ hsp hle) (VRs.nil))
                      ·
                        have q158 : (zs.getD 2 0 ≤ 156) ∨ (156 < zs.getD 2 0) := by omega
                        rcases q158 with q158 | q158
                        ·
                          have q159 : (zs.getD 2 0 ≤ 154) ∨ (154 < zs.getD 2 0) := by omega
                          rcases q159 with q159 | q159
                          ·
                            have q160 : (zs.getD 2 0 ≤ 153) ∨ (153 < zs.getD 2 0) := by omega
                            rcases q160 with q160 | q160
                            ·
                              exact case166 hL (kn6 153 (by omega) (by omega) (by omega) (fun j => Go.bounds_i64 (ints_wf hw j))) TabOk.nil R g (VRs.cons (vr_list (sz := 1) hρ hsp hle) (VRs.nil))
                            ·
                              exact case167 hL (kn6 154 (by omega) (by omega) (by omega) (fun j => Go.bounds_i64 (ints_wf hw j))) TabOk.nil R g (VRs.cons (vr_list (sz := 1) hρ hsp hle) (VRs.nil))
                          ·
                            have q161 : (zs.getD 2 0 ≤ 155) ∨ (155 < zs.getD 2 0) := by omega
                            rcases q161 with q161 | q161
                            ·
                              exact case168 hL (kn6 155 (by omega) (by omega) (by omega) (fun j => Go.bounds_i64 (ints_wf hw j))) TabOk.nil R g (VRs.cons (vr_list (sz := 1) hρ hsp hle) (VRs.nil))
                            ·
                              exact case169 hL (kn6 156 (by omega) (by omega) (by omega) (fun j => Go.bounds_i64 (ints_wf hw j))) TabOk.nil R g (VRs.cons (vr_list (sz := 1) hρ hsp hle) (VRs.nil))
                        ·
                          have q162 : (zs.getD 2 0 ≤ 158) ∨ (158 < zs.getD 2 0) := by omega
                          rcases q162 with q162 | q162
                          ·
                            have q163 : (zs.getD 2 0 ≤ 157) ∨ (157 < zs.getD 2 0) := by omega
                            rcases q163 with q163 | q163
                            ·
                              exact case170 hL (kn6 157 (by omega) (by omega) (by omega) (fun j => Go.bounds_i64 (ints_wf hw j))) TabOk.nil R g (VRs.cons (vr_list (sz := 1) hρ hsp hle) (VRs.nil))
                            ·
                              exact case171 hL (kn6 158 (by omega) (by omega) (by omega) (fun j => Go.bounds_i64 (ints_wf hw j))) TabOk.nil R g (VRs.cons (vr_list (sz := 1) hρ hsp hle) (VRs.nil))
                          ·
                            have q164 : (zs.getD 2 0 ≤ 159) ∨ (159 < zs.getD 2 0) := by omega
                            rcases q164 with q164 | q164
                            ·
                              exact case172 hL (kn6 159 (by omega) (by omega) (by omega) (fun j => Go.bounds_i64 (ints_wf hw j))) TabOk.nil R g (VRs.cons (vr_list (sz := 1) hρ hsp hle) (VRs.nil))
                            ·
                              exact case173 hL (kn6 160 (by omega) (by omega) (by omega) (fun j => Go.bounds_i64 (ints_wf hw j))) TabOk.nil R g (VRs.cons (vr_list (sz := 1) hρ hsp hle) (VRs.nil))
                  ·
                    have q165 : (zs.getD 2 0 ≤ 176) ∨ (176 < zs.getD 2 0) := by omega
                    rcases q165 with q165 | q165
                    ·
                      have q166 : (zs.getD 2 0 ≤ 168) ∨ (168 < zs.getD 2 0) := by omega
                      rcases q166 with q166 | q166
                      ·
                        have q167 : (zs.getD 2 0 ≤ 164) ∨ (164 < zs.getD 2 0) := by omega
                        rcases q167 with q167 | q167
                        ·
                          have q168 : (zs.getD 2 0 ≤ 162) ∨ (162 < zs.getD 2 0) := by omega
                          rcases q168 with q168 | q168
                          ·
                            have q169 : (zs.getD 2 0 ≤ 161) ∨ (161 < zs.getD 2 0) := by omega
                            rcases q169 with q169 | q169
                            ·
                              exact case174 hL (kn6 161 (by omega) (by omega) (by omega) (fun j => Go.bounds_i64 (ints_wf hw j))) TabOk.nil R g (VRs.cons (vr_list (sz := 1) hρ hsp hle) (VRs.nil))
                            ·
                              exact case175 hL (kn6 162 (by omega) (by omega) (by omega) (fun j => Go.bounds_i64 (ints_wf hw j))) TabOk.nil R g (VRs.cons (vr_list (sz := 1) hρ hsp hle) (VRs.nil))
                          ·
                            have q170 : (zs.getD 2 0 ≤ 163) ∨ (163 < zs.getD 2 0) := by omega
                            rcases q170 with q170 | q170
                            ·
                              exact case176 hL (kn6 163 (by omega) (by omega) (by omega) (fun j => Go.bounds_i64 (ints_wf hw j))) TabOk.nil R g (VRs.cons (vr_list (sz := 1) hρ hsp hle) (VRs.nil))
                            ·
                              exact case177 hL (kn6 164 (by omega) (by omega) (by omega) (fun j => Go.bounds_i64 (ints_wf hw j))) TabOk.nil R g (VRs.cons (vr_list (sz := 1) hρ hsp hle) (VRs.nil))
                        ·
                          have q171 : (zs.getD 2 0 ≤ 166) ∨ (166 < zs.getD 2 0) := by omega
                          rcases q171 with q171 | q171
                          ·
                            have q172 : (zs.getD 2 0 ≤ 165) ∨ (165 < zs.getD 2 0) := by omega
                            rcases q172 with q172 | q172
                            ·
                              exact case178 hL (kn6 165 (by omega) (by omega) (by omega) (fun j => Go.bounds_i64 (ints_wf hw j))) TabOk.nil R g (VRs.cons (vr_list (sz := 1) hρ hsp hle) (VRs.nil))
                            ·
                              exact case179 hL (kn6 166 (by omega) (by omega) (by omega) (fun j => Go.bounds_i64 (ints_wf hw j))) TabOk.nil R g (VRs.cons (vr_list (sz := 1) hρ hsp hle) (VRs.nil))
                          ·
                            have q173 : (zs.getD 2 0 ≤ 167) ∨ (167 < zs.getD 2 0) := by omega
                            rcases q173 with q173 | q173
                            ·
                              exact case180 hL (kn6 167 (by omega) (by omega) (by omega) (fun j => Go.bounds_i64 (ints_wf hw j))) TabOk.nil R g (VRs.cons (vr_list (sz := 1) hρ hsp hle) (VRs.nil))
                            ·
                              exact case181 hL (kn6 168 (by omega) (by omega) (by omega) (fun j => Go.bounds_i64 (ints_wf hw j))) TabOk.nil R g (VRs.cons (vr_list (sz := 1) hρ hsp hle) (VRs.nil))
                      ·
                        have q174 : (zs.getD 2 0 ≤ 172) ∨ (172 < zs.getD 2 0) := by omega
                        rcases q174 with q174 | q174
                        ·
                          have q175 : (zs.getD 2 0 ≤ 170) ∨ (170 < zs.getD 2 0) := by omega
                          rcases q175 with q175 | q175
                          ·
                            have q176 : (zs.getD 2 0 ≤ 169) ∨ (169 < zs.getD 2 0) := by omega
                            rcases q176 with q176 | q176
                            ·
                              exact case182 hL (kn6 169 (by omega) (by omega) (by omega) (fun j => Go.bounds_i64 (ints_wf hw j))) TabOk.nil R g (VRs.cons (vr_list (sz := 1) hρ hsp hle) (VRs.nil))
                            ·
                              exact case183 hL (kn6 170 (by omega) (by omega) (by omega) (fun j => Go.bounds_i64 (ints_wf hw j))) TabOk.nil R g (VRs.cons (vr_list (sz := 1) hρ hsp hle) (VRs.nil))
                          ·
                            have q177 : (zs.getD 2 0 ≤ 171) ∨ (171 < zs.getD 2 0) := by omega
                            rcases q177 with q177 | q177
                            ·
                              exact case184 hL (kn6 171 (by omega) (by omega) (by omega) (fun j => Go.bounds_i64 (ints_wf hw j))) TabOk.nil R g (VRs.cons (vr_list (sz := 1) hρ hsp hle) (VRs.nil))
                            ·
                              exact case185 hL (kn6 172 (by omega) (by omega) (by omega) (fun j => Go.bounds_i64 (ints_wf hw j))) TabOk.nil R g (VRs.cons (vr_list (sz := 1) hρ hsp hle) (VRs.nil))
                        ·
                          have q178 : (zs.getD 2 0 ≤ 174) ∨ (174 < zs.getD 2 0) := by omega
                          rcases q178 with q178 | q178
                          ·
                            have q179 : (zs.getD 2 0 ≤ 173) ∨ (173 < zs.getD 2 0) := by omega
                            rcases q179 with q179 | q179
                            ·
                              exact case186 hL (kn6 173 (by omega) (by omega) (by omega) (fun j => Go.bounds_i64 (ints_wf hw j))) TabOk.nil R g (VRs.cons (vr_list (sz := 1) hρ hsp hle) (VRs.nil))
                            ·
                              exact case187 hL (kn6 174 (by omega) (by omega) (by omega) (fun j => Go.bounds_i64 (ints_wf hw j))) TabOk.nil R g (VRs.cons (vr_list (sz := 1) hρ hsp hle) (VRs.nil))
                          ·
                            have q180 : (zs.getD 2 0 ≤ 175) ∨ (175 < zs.getD 2 0) := by omega
                            rcases q180 with q180 | q180
                            ·
                              exact case188 hL (kn6 175 (by omega) (by omega) (by omega) (fun j => Go.bounds_i64 (ints_wf hw j))) TabOk.nil R g (VRs.cons (vr_list (sz := 1) hρ hsp hle) (VRs.nil))
                            ·
                              exact case189 hL (kn6 176 (by omega) (by omega) (by omega) (fun j => Go.bounds_i64 (ints_wf hw j))) TabOk.nil R g (VRs.cons (vr_list (sz := 1) hρ hsp hle) (VRs.nil))
                    ·
                      have q181 : (zs.getD 2 0 ≤ 184) ∨ (184 < zs.getD 2 0) := by omega
                      rcases q181 with q181 | q181
                      ·
                        have q182 : (zs.getD 2 0 ≤ 180) ∨ (180 < zs.getD 2 0) := by omega
                        rcases q182 with q182 | q182
                        ·
                          have q183 : (zs.getD 2 0 ≤ 178) ∨ (178 < zs.getD 2 0) := by omega
                          rcases q183 with q183 | q183
                          ·
                            have q184 : (zs.getD 2 0 ≤ 177) ∨ (177 < zs.getD 2 0) := by omega
                            rcases q184 with q184 | q184
                            ·
                              exact case190 hL (kn6 177 (by omega) (by omega) (by omega) (fun j => Go.bounds_i64 (ints_wf hw j))) TabOk.nil R g (VRs.cons (vr_list (sz := 1) hρ hsp hle) (VRs.nil))
                            ·
                              exact case191 hL (kn6 178 (by omega) (by omega) (by omega) (fun j => Go.bounds_i64 (ints_wf hw j))) TabOk.nil R g (VRs.cons (vr_list (sz := 1) hρ hsp hle) (VRs.nil))
                          ·
                            have q185 : (zs.getD 2 0 ≤ 179) ∨ (179 < zs.getD 2 0) := by omega
                            rcases q185 with q185 | q185
                            ·
                              exact case192 hL (kn6 179 (by omega) (by omega) (by omega) (fun j => Go.bounds_i64 (ints_wf hw j))) TabOk.nil R g (VRs.cons (vr_list (sz := 1) hρ hsp hle) (VRs.nil))
                            ·
                              exact case193 hL (kn6 180 (by omega) (by omega) (by omega) (fun j => Go.bounds_i64 (ints_wf hw j))) TabOk.nil R g (VRs.cons (vr_list (sz := 1) hρ hsp hle) (VRs.nil))
                        ·
                          have q186 : (zs.getD 2 0 ≤ 182) ∨ (182 < zs.getD 2 0) := by omega
                          rcases q186 with q186 | q186
                          ·
                            have q187 : (zs.getD 2 0 ≤ 181) ∨ (181 < zs.getD 2 0) := by omega
                            rcases q187 with q187 | q187
                            ·
                              exact case194 hL (kn6 181 (by omega) (by omega) (by omega) (fun j => Go.bounds_i64 (ints_wf hw j))) TabOk.nil R g (VRs.cons (vr_list (sz := 1) hρ hsp hle) (VRs.nil))
                            ·
                              exact case195 hL (kn6 182 (by omega) (by omega) (by omega) (fun j => Go.bounds_i64 (ints_wf hw j))) TabOk.nil R g (VRs.cons (vr_list (sz := 1) hρ hsp hle) (VRs.nil))
                          ·
                            have q188 : (zs.getD 2 0 ≤ 183) ∨ (183 < zs.getD 2 0) := by omega
                            rcases q188 with q188 | q188
                            ·
                              exact case196 hL (kn6 183 (by omega) (by omega) (by omega) (fun j => Go.bounds_i64 (ints_wf hw j))) TabOk.nil R g (VRs.cons (vr_list (sz := 1) hρ hsp hle) (VRs.nil))
                            ·
                              exact case197 hL (kn6 184 (by omega) (by omega) (by omega) (fun j => Go.bounds_i64 (ints_wf hw j))) TabOk.nil R g (VRs.cons (vr_list (sz := 1) hρ hsp hle) (VRs.nil))
                      ·
                        have q189 : (zs.getD 2 0 ≤ 188) ∨ (188 < zs.getD 2 0) := by omega
                        rcases q189 with q189 | q189
                        ·
                          have q190 : (zs.getD 2 0 ≤ 186) ∨ (186 < zs.getD 2 0) := by omega
                          rcases q190 with q190 | q190
                          ·
                            have q191 : (zs.getD 2 0 ≤ 185) ∨ (185 < zs.getD 2 0) := by omega
                            rcases q191 with q191 | q191
                            ·
                              exact case198 hL (kn6 185 (by omega) (by omega) (by omega) (fun j => Go.bounds_i64 (ints_wf hw j))) TabOk.nil R g (VRs.cons (vr_list (sz := 1) hρ hsp hle) (VRs.nil))
                            ·
                              exact case199 hL (kn6 186 (by omega) (by omega) (by omega) (fun j => Go.bounds_i64 (ints_wf hw j))) TabOk.nil R g (VRs.cons (vr_list (sz := 1) hρ hsp hle) (VRs.nil))
                          ·
                            have q192 : (zs.getD 2 0 ≤ 187) ∨ (187 < zs.getD 2 0) := by omega
                            rcases q192 with q192 | q192
                            ·
                              exact case200 hL (kn6 187 (by omega) (by omega) (by omega) (fun j => Go.bounds_i64 (ints_wf hw j))) TabOk.nil R g (VRs.cons (vr_list (sz := 1) hρ hsp hle) (VRs.nil))
                            ·
                              exact case201 hL (kn6 188 (by omega) (by omega) (by omega) (fun j => Go.bounds_i64 (ints_wf hw j))) TabOk.nil R g (VRs.cons (vr_list (sz := 1) hρ hsp hle) (VRs.nil))
                        ·
                          have q193 : (zs.getD 2 0 ≤ 190) ∨ (190 < zs.getD 2 0) := by omega
                          rcases q193 with q193 | q193
                          ·
                            have q194 : (zs.getD 2 0 ≤ 189) ∨ (189 < zs.getD 2 0) := by omega
                            rcases q194 with q194 | q194
                            ·
                              exact case202 hL (kn6 189 (by omega) (by omega) (by omega) (fun j => Go.bounds_i64 (ints_wf hw j))) TabOk.nil R g (VRs.cons (vr_list (sz := 1) hρ hsp hle) (VRs.nil))
                            ·
                              exact case203 hL (kn6 190 (by omega) (by omega) (by omega) (fun j => Go.bounds_i64 (ints_wf hw j))) TabOk.nil R g (VRs.cons (vr_list (sz := 1) hρ hsp hle) (VRs.nil))
                          ·
                            have q195 : (zs.getD 2 0 ≤ 191) ∨ (191 < zs.getD 2 0) := by omega
                            rcases q195 with q195 | q195
                            ·
                              exact case204 hL (kn6 191 (by omega) (by omega) (by omega) (fun j => Go.bounds_i64 (ints_wf hw j))) TabOk.nil R g (VRs.cons (vr_list (sz := 1) hρ hsp hle) (VRs.nil))
                            ·
                              exact case205 hL (kn6 192 (by omega) (by omega) (by omega) (fun j => Go.bounds_i64 (ints_wf hw j))) TabOk.nil R g (VRs.cons (vr_list (sz := 1) hρ hsp hle) (VRs.nil))
                ·
                  have q196 : (zs.getD 2 0 ≤ 224) ∨ (224 < zs.getD 2 0) := by omega
                  rcases q196 with q196 | q196
                  ·
                    have q197 : (zs.getD 2 0 ≤ 208) ∨ (208 < zs.getD 2 0) := by omega
                    rcases q197 with q197 | q197
                    ·
                      have q198 : (zs.getD 2 0 ≤ 200) ∨ (200 < zs.getD 2 0) := by omega
                      rcases q198 with q198 | q198
                      ·
                        have q199 : (zs.getD 2 0 ≤ 196) ∨ (196 < zs.getD 2 0) := by omega
                        rcases q199 with q199 | q199
                        ·
                          have q200 : (zs.getD 2 0 ≤ 194) ∨ (194 < zs.getD 2 0) := by omega
                          rcases q200 with q200 | q200
                          ·
                            have q201 : (zs.getD 2 0 ≤ 193) ∨ (193 < zs.getD 2 0) := by omega
                            rcases q201 with q201 | q201
                            ·
                              exact case206 hL (kn6 193 (by omega) (by omega) (by omega) (fun j => Go.bounds_i64 (ints_wf hw j))) TabOk.nil R g (VRs.cons (vr_list (sz := 1) hρ hsp hle) (VRs.nil))
                            ·
                              exact case207 hL (kn6 194 (by omega) (by omega) (by omega) (fun j => Go.bounds_i64 (ints_wf hw j))) TabOk.nil R g (VRs.cons (vr_list (sz := 1) hρ hsp hle) (VRs.nil))
                          ·
                            have q202 : (zs.getD 2 0 ≤ 195) ∨ (195 < zs.getD 2 0) := by omega
                            rcases q202 with q202 | q202
                            ·
                              exact case208 hL (kn6 195 (by omega) (by omega) (by omega) (fun j => Go.bounds_i64 (ints_wf hw j))) TabOk.nil R g (VRs.cons (vr_list (sz := 1) hρ hsp hle) (VRs.nil))
                            ·
                              exact case209 hL (kn6 196 (by omega) (by omega) (by omega) (fun j => Go.bounds_i64 (ints_wf hw j))) TabOk.nil R g (VRs.cons (vr_list (sz := 1) hρ hsp hle) (VRs.nil))
                        ·
                          have q203 : (zs.getD 2 0 ≤ 198) ∨ (198 < zs.getD 2 0) := by omega
                          rcases q203 with q203 | q203
                          ·
                            have q204 : (zs.getD 2 0 ≤ 197) ∨ (197 < zs.getD 2 0) := by omega
                            rcases q204 with q204 | q204
                            ·
                              exact case210 hL (kn6 197 (by omega) (by omega) (by omega) (fun j => Go.bounds_i64 (ints_wf hw j))) TabOk.nil R g (VRs.cons (vr_list (sz := 1) hρ hsp hle) (VRs.nil))
                            ·
                              exact case211 hL (kn6 198 (by omega) (by omega) (by omega) (fun j => Go.bounds_i64 (ints_wf hw j))) TabOk.nil R g (VRs.cons (vr_list (sz := 1) hρ hsp hle) (VRs.nil))
                          ·
                            have q205 : (zs.getD 2 0 ≤ 199) ∨ (199 < zs.getD 2 0) := by omega
                            rcases q205 with q205 | q205
                            ·
                              exact case212 hL (kn6 199 (by omega) (by omega) (by omega) (fun j => Go.bounds_i64 (ints_wf hw j))) TabOk.nil R g (VRs.cons (vr_list (sz := 1) hρ hsp hle) (VRs.nil))
                            ·
                              exact case213 hL (kn6 200 (by omega) (by omega) (by omega) (fun j => Go.bounds_i64 (ints_wf hw j))) TabOk.nil R g (VRs.cons (vr_list (sz := 1) hρ hsp hle) (VRs.nil))
                      ·
                        have q206 : (zs.getD 2 0 ≤ 204) ∨ (204 < zs.getD 2 0) := by omega
                        rcases q206 with q206 | q206
                        ·
                          have q207 : (zs.getD 2 0 ≤ 202) ∨ (202 < zs.getD 2 0) := by omega
                          rcases q207 with q207 | q207
                          ·
                            have q208 : (zs.getD 2 0 ≤ 201) ∨ (201 < zs.getD 2 0) := by omega
                            rcases q208 with q208 | q208
                            ·
                              exact case214 hL (kn6 201 (by omega) (by omega) (by omega) (fun j => Go.bounds_i64 (ints_wf hw j))) TabOk.nil R g (VRs.cons (vr_list (sz := 1) hρ hsp hle) (VRs.nil))
                            ·
                              exact case215 hL (kn6 202 (by omega) (by omega) (by omega) (fun j => Go.bounds_i64 (ints_wf hw j))) TabOk.nil R g (VRs.cons (vr_list (sz := 1) hρ hsp hle) (VRs.nil))
                          ·
                            have q209 : (zs.getD 2 0 ≤ 203) ∨ (203 < zs.getD 2 0) := by omega
                            rcases q209 with q209 | q209
                            ·
                              exact case216 hL (kn6 203 (by omega) (by omega) (by omega) (fun j => Go.bounds_i64 (ints_wf hw j))) TabOk.nil R g (VRs.cons (vr_list (sz := 1) hρ hsp hle) (VRs.nil))
                            ·
                              exact case217 hL (kn6 204 (by omega) (by omega) (by omega) (fun j => Go.bounds_i64 (ints_wf hw j))) TabOk.nil R g (VRs.cons (vr_list (sz := 1) hρ hsp hle) (VRs.nil))
                        ·
                          have q210 : (zs.getD 2 0 ≤ 206) ∨ (206 < zs.getD 2 0) := by omega
                          rcases q210 with q210 | q210
                          ·
                            have q211 : (zs.getD 2 0 ≤ 205) ∨ (205 < zs.getD 2 0) := by omega
                            rcases q211 with q211 | q211
                            ·
                              exact case218 hL (kn6 205 (by omega) (by omega) (by omega) (fun j => Go.bounds_i64 (ints_wf hw j))) TabOk.nil R g (VRs.cons (vr_list (sz := 1) hρ hsp hle) (VRs.nil))
                            ·
                              exact case219 hL (kn6 206 (by omega) (by omega) (by omega) (fun j => Go.bounds_i64 (ints_wf hw j))) TabOk.nil R g (VRs.cons (vr_list (sz := 1) hρ hsp hle) (VRs.nil))
                          ·
                            have q212 : (zs.getD 2 0 ≤ 207) ∨ (207 < zs.getD 2 0) := by omega
                            rcases q212 with q212 | q212
                            ·
                              exact case220 hL (kn6 207 (by omega) (by omega) (by omega) (fun j => Go.bounds_i64 (ints_wf hw j))) TabOk.nil R g (VRs.cons (vr_list (sz := 1) hρ hsp hle) (VRs.nil))
                            ·
                              exact case221 hL (kn6 208 (by omega) (by omega) (by omega) (fun j => Go.bounds_i64 (ints_wf hw j))) TabOk.nil R g (VRs.cons (vr_list (sz := 1) hρ hsp hle) (VRs.nil))
                    ·
                      have q213 : (zs.getD 2 0 ≤ 216) ∨ (216 < zs.getD 2 0) := by omega
                      rcases q213 with q213 | q213
                      ·
                        have q214 : (zs.getD 2 0 ≤ 212) ∨ (212 < zs.getD 2 0) := by omega
                        rcases q214 with q214 | q214
                        ·
                          have q215 : (zs.getD 2 0 ≤ 210) ∨ (210 < zs.getD 2 0) := by omega
                          rcases q215 with q215 | q215
                          ·
                            have q216 : (zs.getD 2 0 ≤ 209) ∨ (209 < zs.getD 2 0) := by omega
                            rcases q216 with q216 | q216
                            ·
                              exact case222 hL (kn6 209 (by omega) (by omega) (by omega) (fun j => Go.bounds_i64 (ints_wf hw j))) TabOk.nil R g (VRs.cons (vr_list (sz := 1) hρ hsp hle) (VRs.nil))
                            ·
                              exact case223 hL (kn6 210 (by omega) (by omega) (by omega) (fun j => Go.bounds_i64 (ints_wf hw j))) TabOk.nil R g (VRs.cons (vr_list (sz := 1) hρ hsp hle) (VRs.nil))
                          ·
                            have q217 : (zs.getD 2 0 ≤ 211) ∨ (211 < zs.getD 2 0) := by omega
                            rcases q217 with q217 | q217
                            ·
                              exact case224 hL (kn6 211 (by omega) (by omega) (by omega) (fun j => Go.bounds_i64 (ints_wf hw j))) TabOk.nil R g (VRs.cons (vr_list (sz := 1) hρ hsp hle) (VRs.nil))
                            ·
                              exact case225 hL (kn6 212 (by omega) (by omega) (by omega) (fun j => Go.bounds_i64 (ints_wf hw j))) TabOk.nil R g (VRs.cons (vr_list (sz := 1) hρ hsp hle) (VRs.nil))
                        ·
                          have q218 : (zs.getD 2 0 ≤ 214) ∨ (214 < zs.getD 2 0) := by omega
                          rcases q218 with q218 | q218
                          ·
                            have q219 : (zs.getD 2 0 ≤ 213) ∨ (213 < zs.getD 2 0) := by omega
                            rcases q219 with q219 | q219
                            ·
                              exact case226 hL (kn6 213 (by omega) (by omega) (by omega) (fun j => Go.bounds_i64 (ints_wf hw j))) TabOk.nil R g (VRs.cons (vr_list (sz := 1) hρ hsp hle) (VRs.nil))
                            ·
                              exact case227 hL (kn6 214 (by omega) (by omega) (by omega) (fun j => Go.bounds_i64 (ints_wf hw j))) TabOk.nil R g (VRs.cons (vr_list (sz := 1) hρ hsp hle) (VRs.nil))
                          ·
                            have q220 : (zs.getD 2 0 ≤ 215) ∨ (215 < zs.getD 2 0) := by omega
                            rcases q220 with q220 | q220
                            ·
                              exact case228 hL (kn6 215 (by omega) (by omega) (by omega) (fun j => Go.bounds_i64 (ints_wf hw j))) TabOk.nil R g (VRs.cons (vr_list (sz := 1) hρ hsp hle) (VRs.nil))
                            ·
                              exact case229 hL (kn6 216 (by omega) (by omega) (by omega) (fun j => Go.bounds_i64 (ints_wf hw j))) TabOk.nil R g (VRs.cons (vr_list (sz := 1) hρ hsp hle) (VRs.nil))
                      ·
                        have q221 : (zs.getD 2 0 ≤ 220) ∨ (220 < zs.getD 2 0) := by omega
                        rcases q221 with q221 | q221
                        ·
                          have q222 : (zs.getD 2 0 ≤ 218) ∨ (218 < zs.getD 2 0) := by omega
                          rcases q222 with q222 | q222
                          ·
                            have q223 : (zs.getD 2 0 ≤ 217) ∨ (217 < zs.getD 2 0) := by omega
                            rcases q223 with q223 | q223
                            ·
                              exact case230 hL (kn6 217 (by omega) (by omega) (by omega) (fun j => Go.bounds_i64 (ints_wf hw j))) TabOk.nil R g (VRs.cons (vr_list (sz := 1) hρ hsp hle) (VRs.nil))
                            ·
                              exact case231 hL (kn6 218 (by omega) (by omega) (by omega) (fun j => Go.bounds_i64 (ints_wf hw j))) TabOk.nil R g (VRs.cons (vr_list (sz := 1) hρ hsp hle) (VRs.nil))
                          ·
                            have q224 : (zs.getD 2 0 ≤ 219) ∨ (219 < zs.getD 2 0) := by omega
                            rcases q224 with q224 | q224
                            ·
                              exact case232 hL (kn6 219 (by omega) (by omega) (by omega) (fun j => Go.bounds_i64 (ints_wf hw j))) TabOk.nil R g (VRs.cons (vr_list (sz := 1) hρ hsp hle) (VRs.nil))
                            ·
                              exact case233 hL (kn6 220 (by omega) (by omega) (by omega) (fun j => Go.bounds_i64 (ints_wf hw j))) TabOk.nil R g (VRs.cons (vr_list (sz := 1) hρ hsp hle) (VRs.nil))
                        ·
                          have q225 : (zs.getD 2 0 ≤ 222) ∨ (222 < zs.getD 2 0) := by omega
                          rcases q225 with q225 | q225
                          ·
                            have q226 : (zs.getD 2 0 ≤ 221) ∨ (221 < zs.getD 2 0) := by omega
                            rcases q226 with q226 | q226
                            ·
                              exact case234 hL (kn6 221 (by omega) (by omega) (by omega) (fun j => Go.bounds_i64 (ints_wf hw j))) TabOk.nil R g (VRs.cons (vr_list (sz := 1) hρ hsp hle) (VRs.nil))
                            ·
                              exact case235 hL (kn6 222 (by omega) (by omega) (by omega) (fun j => Go.bounds_i64 (ints_wf hw j))) TabOk.nil R g (VRs.cons (vr_list (sz := 1) hρ hsp hle) (VRs.nil))
                          ·
                            have q227 : (zs.getD 2 0 ≤ 223) ∨ (223 < zs.getD 2 0) := by omega
                            rcases q227 with q227 | q227
                            ·
                              exact case236 hL (kn6 223 (by omega) (by omega) (by omega) (fun j => Go.bounds_i64 (ints_wf hw j))) TabOk.nil R g (VRs.cons (vr_list (sz := 1) hρ hsp hle) (VRs.nil))
                            ·
                              exact case237 hL (kn6 224 (by omega) (by omega) (by omega) (fun j => Go.bounds_i64 (ints_wf hw j))) TabOk.nil R g (VRs.cons (vr_list (sz := 1) hρ hsp hle) (VRs.nil))
                  ·
                    have q228 : (zs.getD 2 0 ≤ 240) ∨ (240 < zs.getD 2 0) := by omega
                    rcases q228 with q228 | q228
                    ·
                      have q229 : (zs.getD 2 0 ≤ 232) ∨ (232 < zs.getD 2 0) := by omega
                      rcases q229 with q229 | q229
                      ·
                        have q230 : (zs.getD 2 0 ≤ 228) ∨ (228 < zs.getD 2 0) := by omega
                        rcases q230 with q230 | q230
                        ·
                          have q231 : (zs.getD 2 0 ≤ 226) ∨ (226 < zs.getD 2 0) := by omega
                          rcases q231 with q231 | q231
                          ·
                            have q232 : (zs.getD 2 0 ≤ 225) ∨ (225 < zs.getD 2 0) := by omega
                            rcases q232 with q232 | q232
                            ·
                              exact case238 hL (kn6 225 (by omega) (by omega) (by omega) (fun j => Go.bounds_i64 (ints_wf hw j))) TabOk.nil R g (VRs.cons (vr_list (sz := 1) hρ hsp hle) (VRs.nil))
                            ·
                              exact case239 hL (kn6 226 (by omega) (by omega) (by omega) (fun j => Go.bounds_i64 (ints_wf hw j))) TabOk.nil R g (VRs.cons (vr_list (sz := 1) hρ hsp hle) (VRs.nil))
                          ·
                            have q233 : (zs.getD 2 0 ≤ 227) ∨ (227 < zs.getD 2 0) := by omega
                            rcases q233 with q233 | q233
                            ·
                              exact case240 hL (kn6 227 (by omega) (by omega) (by omega) (fun j => Go.bounds_i64 (ints_wf hw j))) TabOk.nil R g (VRs.cons (vr_list (sz := 1) hρ hsp hle) (VRs.nil))
                            ·
                              exact case241 hL (kn6 228 (by omega) (by omega) (by omega) (fun j => Go.bounds_i64 (ints_wf hw j))) TabOk.nil R g (VRs.cons (vr_list (sz := 1) hρ hsp hle) (VRs.nil))
                        ·
                          have q234 : (zs.getD 2 0 ≤ 230) ∨ (230 < zs.getD 2 0) := by omega
                          rcases q234 with q234 | q234
                          ·
                            have q235 : (zs.getD 2 0 ≤ 229) ∨ (229 < zs.getD 2 0) := by omega
                            rcases q235 with q235 | q235
                            ·
                              exact case242 hL (kn6 229 (by omega) (by omega) (by omega) (fun j => Go.bounds_i64 (ints_wf hw j))) TabOk.nil R g (VRs.cons (vr_list (sz := 1) hρ hsp hle) (VRs.nil))
                            ·
                              exact case243 hL (kn6 230 (by omega) (by omega) (by omega) (fun j => Go.bounds_i64 (ints_wf hw j))) TabOk.nil R g (VRs.cons (vr_list (sz := 1) hρ hsp hle) (VRs.nil))
                          ·
                            have q236 : (zs.getD 2 0 ≤ 231) ∨ (231 < zs.getD 2 0) := by omega
                            rcases q236 with q236 | q236
                            ·
                              exact case244 hL (kn6 231 (by omega) (by omega) (by omega) (fun j => Go.bounds_i64 (ints_wf hw j))) TabOk.nil R g (VRs.cons (vr_list (sz := 1) hρ hsp hle) (VRs.nil))
                            ·
                              exact case245 hL (kn6 232 (by omega) (by omega) (by omega) (fun j => Go.bounds_i64 (ints_wf hw j))) TabOk.nil R g (VRs.cons (vr_list (sz := 1) hρ hsp hle) (VRs.nil))
                      ·
                        have q237 : (zs.getD 2 0 ≤ 236) ∨ (236 < zs.getD 2 0) := by omega
                        rcases q237 with q237 | q237
                        ·
                          have q238 : (zs.getD 2 0 ≤ 234) ∨ (234 < zs.getD 2 0) := by omega
                          rcases q238 with q238 | q238
                          ·
                            have q239 : (zs.getD 2 0 ≤ 233) ∨ (233 < zs.getD 2 0) := by omega
                            rcases q239 with q239 | q239
                            ·
                              exact case246 hL (kn6 233 (by omega) (by omega) (by omega) (fun j => Go.bounds_i64 (ints_wf hw j))) TabOk.nil R g (VRs.cons (vr_list (sz := 1) hρ hsp hle) (VRs.nil))
                            ·
                              exact case247 hL (kn6 234 (by omega) (by omega) (by omega) (fun j => Go.bounds_i64 (ints_wf hw j))) TabOk.nil R g (VRs.cons (vr_list (sz := 1) hρ hsp hle) (VRs.nil))
                          ·
                            have q240 : (zs.getD 2 0 ≤ 235) ∨ (235 < zs.getD 2 0) := by omega
                            rcases q240 with q240 | q240
                            ·
                              exact case248 hL (kn6 235 (by omega) (by omega) (by omega) (fun j => Go.bounds_i64 (ints_wf hw j))) TabOk.nil R g (VRs.cons (vr_list (sz := 1) hρ hsp hle) (VRs.nil))
                            ·
                              exact case249 hL (kn6 236 (by omega) (by omega) (by omega) (fun j => Go.bounds_i64 (ints_wf hw j))) TabOk.nil R g (VRs.cons (vr_list (sz := 1) hρ hsp hle) (VRs.nil))
                        ·
                          have q241 : (zs.getD 2 0 ≤ 238) ∨ (238 < zs.getD 2 0) := by omega
                          rcases q241 with q241 | q241
                          ·
                            have q242 : (zs.getD 2 0 ≤ 237) ∨ (237 < zs.getD 2 0) := by omega
                            rcases q242 with q242 | q242
                            ·
                              exact case250 hL (kn6 237 (by omega) (by omega) (by omega) (fun j => Go.bounds_i64 (ints_wf hw j))) TabOk.nil R g (VRs.cons (vr_list (sz := 1) hρ hsp hle) (VRs.nil))
                            ·
                              exact case251 hL (kn6 238 (by omega) (by omega) (by omega) (fun j => Go.bounds_i64 (ints_wf hw j))) TabOk.nil R g (VRs.cons (vr_list (sz := 1) hρ hsp hle) (VRs.nil))
                          ·
                            have q243 : (zs.getD 2 0 ≤ 239) ∨ (239 < zs.getD 2 0) := by omega
                            rcases q243 with q243 | q243
                            ·
                              exact case252 hL (kn6 239 (by omega) (by omega) (by omega) (fun j => Go.bounds_i64 (ints_wf hw j))) TabOk.nil R g (VRs.cons (vr_list (sz := 1) hρ hsp hle) (VRs.nil))
                            ·
                              exact case253 hL (kn6 240 (by omega) (by omega) (by omega) (fun j => Go.bounds_i64 (ints_wf hw j))) TabOk.nil R g (VRs.cons (vr_list (sz := 1) hρ hsp hle) (VRs.nil))
                    ·
                      have q244 : (zs.getD 2 0 ≤ 248) ∨ (248 < zs.getD 2 0) := by omega
                      rcases q244 with q244 | q244
                      ·
                        have q245 : (zs.getD 2 0 ≤ 244) ∨ (244 < zs.getD 2 0) := by omega
                        rcases q245 with q245 | q245
                        ·
                          have q246 : (zs.getD 2 0 ≤ 242) ∨ (242 < zs.getD 2 0) := by omega
                          rcases q246 with q246 | q246
                          ·
                            have q247 : (zs.getD 2 0 ≤ 241) ∨ (241 < zs.getD 2 0) := by omega
                            rcases q247 with q247 | q247
                            ·
                              exact case254 hL (kn6 241 (by omega) (by omega) (by omega) (fun j => Go.bounds_i64 (ints_wf hw j))) TabOk.nil R g (VRs.cons (vr_list (sz := 1) hρ hsp hle) (VRs.nil))
                            ·
                              exact case255 hL (kn6 242 (by omega) (by omega) (by omega) (fun j => Go.bounds_i64 (ints_wf hw j))) TabOk.nil R g (VRs.cons (vr_list (sz := 1) hρ hsp hle) (VRs.nil))
                          ·
                            have q248 : (zs.getD 2 0 ≤ 243) ∨ (243 < zs.getD 2 0) := by omega
                            rcases q248 with q248 | q248
                            ·
                              exact case256 hL (kn6 243 (by omega) (by omega) (by omega) (fun j => Go.bounds_i64 (ints_wf hw j))) TabOk.nil R g (VRs.cons (vr_list (sz := 1) hρ hsp hle) (VRs.nil))
                            ·
                              exact case257 hL (kn6 244 (by omega) (by omega) (by omega) (fun j => Go.bounds_i64 (ints_wf hw j))) TabOk.nil R g (VRs.cons (vr_list (sz := 1) hρ hsp hle) (VRs.nil))
                        ·
                          have q249 : (zs.getD 2 0 ≤ 246) ∨ (246 < zs.getD 2 0) := by omega
                          rcases q249 with q249 | q249
                          ·
                            have q250 : (zs.getD 2 0 ≤ 245) ∨ (245 < zs.getD 2 0) := by omega
                            rcases q250 with q250 | q250
                            ·
                              exact case258 hL (kn6 245 (by omega) (by omega) (by omega) (fun j => Go.bounds_i64 (ints_wf hw j))) TabOk.nil R g (VRs.cons (vr_list (sz := 1) hρ hsp hle) (VRs.nil))
                            ·
                              exact case259 hL (kn6 246 (by omega) (by omega) (by omega) (fun j => Go.bounds_i64 (ints_wf hw j))) TabOk.nil R g (VRs.cons (vr_list (sz := 1) hρ hsp hle) (VRs.nil))
                          ·
                            have q251 : (zs.getD 2 0 ≤ 247) ∨ (247 < zs.getD 2 0) := by omega
                            rcases q251 with q251 | q251
                            ·
                              exact case260 hL (kn6 247 (by omega) (by omega) (by omega) (fun j => Go.bounds_i64 (ints_wf hw j))) TabOk.nil R g (VRs.cons (vr_list (sz := 1) hρ hsp hle) (VRs.nil))
                            ·
                              exact case261 hL (kn6 248 (by omega) (by omega) (by omega) (fun j => Go.bounds_i64 (ints_wf hw j))) TabOk.nil R g (VRs.cons (vr_list (sz := 1) hρ hsp hle) (VRs.nil))
                      ·
                        have q252 : (zs.getD 2 0 ≤ 252) ∨ (252 < zs.getD 2 0) := by omega
                        rcases q252 with q252 | q252
                        ·
                          have q253 : (zs.getD 2 0 ≤ 250) ∨ (250 < zs.getD 2 0) := by omega
                          rcases q253 with q253 | q253
                          ·
                            have q254 : (zs.getD 2 0 ≤ 249) ∨ (249 < zs.getD 2 0) := by omega
                            rcases q254 with q254 | q254
                            ·
                              exact case262 hL (kn6 249 (by omega) (by omega) (by omega) (fun j => Go.bounds_i64 (ints_wf hw j))) TabOk.nil R g (VRs.cons (vr_list (sz := 1) hρ hsp hle) (VRs.nil))
                            ·
                              exact case263 hL (kn6 250 (by omega) (by omega) (by omega) (fun j => Go.bounds_i64 (ints_wf hw j))) TabOk.nil R g (VRs.cons (vr_list (sz := 1) hρ hsp hle) (VRs.nil))
                          ·
                            have q255 : (zs.getD 2 0 ≤ 251) ∨ (251 < zs.getD 2 0) := by omega
                            rcases q255 with q255 | q255
                            ·
                              exact case264 hL (kn6 251 (by omega) (by omega) (by omega) (fun j => Go.bounds_i64 (ints_wf hw j))) TabOk.nil R g (VRs.cons (vr_list (sz := 1) hρ hsp hle) (VRs.nil))
                            ·
                              exact case265 hL (kn6 252 (by omega) (by omega) (by omega) (fun j => Go.bounds_i64 (ints_wf hw j))) TabOk.nil R g (VRs.cons (vr_list (sz := 1) hρ hsp hle) (VRs.nil))
                        ·
                          have q256 : (zs.getD 2 0 ≤ 254) ∨ (254 < zs.getD 2 0) := by omega
                          rcases q256 with q256 | q256
                          ·
                            have q257 : (zs.getD 2 0 ≤ 253) ∨ (253 < zs.getD 2 0) := by omega
                            rcases q257 with q257 | q257
                            ·
                              exact case266 hL (kn6 253 (by omega) (by omega) (by omega) (fun j => Go.bounds_i64 (ints_wf hw j))) TabOk.nil R g (VRs.cons (vr_list (sz := 1) hρ hsp hle) (VRs.nil))
                            ·
                              exact case267 hL (kn6 254 (by omega) (by omega) (by omega) (fun j => Go.bounds_i64 (ints_wf hw j))) TabOk.nil R g (VRs.cons (vr_list (sz := 1) hρ hsp hle) (VRs.nil))
                          ·
                            have q258 : (zs.getD 2 0 ≤ 255) ∨ (255 < zs.getD 2 0) := by omega
                            rcases q258 with q258 | q258
                            ·
                              exact case268 hL (kn6 255 (by omega) (by omega) (by omega) (fun j => Go.bounds_i64 (ints_wf hw j))) TabOk.nil R g (VRs.cons (vr_list (sz := 1) hρ hsp hle) (VRs.nil))
                            ·
                              exact case269 hL (kn6 256 (by omega) (by omega) (by omega) (fun j => Go.bounds_i64 (ints_wf hw j))) TabOk.nil R g (VRs.cons (vr_list (sz := 1) hρ hsp hle) (VRs.nil))
end Go.Proofs.YtoldbgemlnkfkaaDoor.sysSizes
