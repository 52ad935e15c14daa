/- WorldAsks returns true for every input, and the input reads as it did; the listed errors hold what the program text lays. -/
import Derived.Test.YtphhnhheedbjjaaGreatDoorWaK0
import Derived.Test.YtphhnhheedbjjaaGreatDoorWaK1
import Derived.Test.YtphhnhheedbjjaaGreatDoorWaK2
import Derived.Test.YtphhnhheedbjjaaGreatDoorWaK3
import Derived.Test.YtphhnhheedbjjaaGreatDoorWaK4
import Derived.Test.YtphhnhheedbjjaaGreatDoorWaK5
import Derived.Test.YtphhnhheedbjjaaGreatDoorWaK6
import Derived.Deep.DeepWitnessRowRef
import Derived.Lay
set_option linter.unusedVariables false
set_option linter.unusedSimpArgs false
set_option maxRecDepth 10000000
namespace Go.Proofs.YtphhnhheedbjjaaGreatDoor.worldAsks
open Tk
open Go.ChangeShapes Go.WideShapes Go.ChangeAt Go.RowKit

theorem own : ownKnob Tryz.prog.godebug = none := by kernel_rfl
def sg (n0 : Int) (n1 : Int) : Nat → Int := fun i => if i = 0 then n0 else if i = 1 then n1 else if i = 2 then Tk.numOf n1 4000 else 0
theorem kwa (n0 n1 lo hi : Int) (h0 : -9223372036854775808 ≤ n0 ∧ n0 ≤ 9223372036854775807) (h1 : -9223372036854775808 ≤ n1 ∧ n1 ≤ 9223372036854775807) (h2 : lo ≤ Tk.numOf n1 4000 ∧ Tk.numOf n1 4000 ≤ hi) :
    Known2 (sg n0 n1) [(-9223372036854775808, 9223372036854775807), (-9223372036854775808, 9223372036854775807), (lo, hi)] [] := by
  refine ⟨fun i l u hr => ?_, fun q a b t hm => by cases hm⟩
  rcases i with _ | _ | _ | i
  · simp at hr; obtain ⟨rfl, rfl⟩ := hr; exact h0
  · simp at hr; obtain ⟨rfl, rfl⟩ := hr; exact h1
  · simp at hr; obtain ⟨rfl, rfl⟩ := hr; exact h2
  · simp at hr
theorem hvv (n0 : Int) (n1 : Int) : ∀ ρ, VRs (sg n0 n1) ρ [.int .i64 (.var 0), .int .i64 (.var 1)] (#[.int .i64 n0, .int .i64 n1] : Array Go.Value).toList := fun ρ => VRs.cons (by simp [VR, E.den, sg]) (VRs.cons (by simp [VR, E.den, sg]) (VRs.nil))
set_option maxHeartbeats 100000000 in
theorem walk (W : World) (n0 : Int) (hn0 : (Lit.int .i64 n0).wf = true) (n1 : Int) (hn1 : (Lit.int .i64 n1).wf = true) (hL : laidMetH Tryz.prog Rows.worldAsksRow.laid W) : Calls Tryz.prog 3 #[.int .i64 n0, .int .i64 n1] W fun e w' => e = .returned (.bool true) ∧ Below W.heap.size W w' := by
  simp only [Lit.wf, Bool.and_eq_true, decide_eq_true_eq] at hn0
  have lo0 : -9223372036854775808 ≤ n0 := hn0.1
  have hi0 : n0 ≤ 9223372036854775807 := hn0.2
  simp only [Lit.wf, Bool.and_eq_true, decide_eq_true_eq] at hn1
  have lo1 : -9223372036854775808 ≤ n1 := hn1.1
  have hi1 : n1 ≤ 9223372036854775807 := hn1.2
  obtain ⟨s2, z2⟩ := Tk.numOf_range n1 4000 (by decide)
  obtain ⟨a1, b1⟩ := Tk.numOf_range n0 32 (by decide)
  have e1 : Tk.numOf n0 32 = 0 ∨ Tk.numOf n0 32 = 1 ∨ Tk.numOf n0 32 = 2 ∨ Tk.numOf n0 32 = 3 ∨ Tk.numOf n0 32 = 4 ∨ Tk.numOf n0 32 = 5 ∨ Tk.numOf n0 32 = 6 ∨ Tk.numOf n0 32 = 7 ∨ Tk.numOf n0 32 = 8 ∨ Tk.numOf n0 32 = 9 ∨ Tk.numOf n0 32 = 10 ∨ Tk.numOf n0 32 = 11 ∨ Tk.numOf n0 32 = 12 ∨ Tk.numOf n0 32 = 13 ∨ Tk.numOf n0 32 = 14 ∨ Tk.numOf n0 32 = 15 ∨ Tk.numOf n0 32 = 16 ∨ Tk.numOf n0 32 = 17 ∨ Tk.numOf n0 32 = 18 ∨ Tk.numOf n0 32 = 19 ∨ Tk.numOf n0 32 = 20 ∨ Tk.numOf n0 32 = 21 ∨ Tk.numOf n0 32 = 22 ∨ Tk.numOf n0 32 = 23 ∨ Tk.numOf n0 32 = 24 ∨ Tk.numOf n0 32 = 25 ∨ Tk.numOf n0 32 = 26 ∨ Tk.numOf n0 32 = 27 ∨ Tk.numOf n0 32 = 28 ∨ Tk.numOf n0 32 = 29 ∨ Tk.numOf n0 32 = 30 ∨ Tk.numOf n0 32 = 31 := by omega
  rcases e1 with e1 | e1 | e1 | e1 | e1 | e1 | e1 | e1 | e1 | e1 | e1 | e1 | e1 | e1 | e1 | e1 | e1 | e1 | e1 | e1 | e1 | e1 | e1 | e1 | e1 | e1 | e1 | e1 | e1 | e1 | e1 | e1
  ·
    have q2 : (Tk.numOf n1 4000 ≤ 9) ∨ (9 < Tk.numOf n1 4000 ∧ Tk.numOf n1 4000 ≤ 99) ∨ (99 < Tk.numOf n1 4000 ∧ Tk.numOf n1 4000 ≤ 999) ∨ (999 < Tk.numOf n1 4000) := by omega
    rcases q2 with q2 | q2 | q2 | q2
    ·
      exact case0 (σ := (sg n0 n1)) hL (kwa n0 n1 0 9 ⟨lo0, hi0⟩ ⟨lo1, hi1⟩ (by omega)) (TabOk.cons num32 (by decide) (by decide) lo0 hi0 (show Tk.numOf n0 32 = 0 from e1) (TabOk.cons num4000 (by decide) (by decide) lo1 hi1 rfl (TabOk.nil))) (hvv n0 n1)
    ·
      exact case1 (σ := (sg n0 n1)) hL (kwa n0 n1 10 99 ⟨lo0, hi0⟩ ⟨lo1, hi1⟩ (by omega)) (TabOk.cons num32 (by decide) (by decide) lo0 hi0 (show Tk.numOf n0 32 = 0 from e1) (TabOk.cons num4000 (by decide) (by decide) lo1 hi1 rfl (TabOk.nil))) (hvv n0 n1)
    ·
      exact case2 (σ := (sg n0 n1)) hL (kwa n0 n1 100 999 ⟨lo0, hi0⟩ ⟨lo1, hi1⟩ (by omega)) (TabOk.cons num32 (by decide) (by decide) lo0 hi0 (show Tk.numOf n0 32 = 0 from e1) (TabOk.cons num4000 (by decide) (by decide) lo1 hi1 rfl (TabOk.nil))) (hvv n0 n1)
    ·
      exact case3 (σ := (sg n0 n1)) hL (kwa n0 n1 1000 3999 ⟨lo0, hi0⟩ ⟨lo1, hi1⟩ (by omega)) (TabOk.cons num32 (by decide) (by decide) lo0 hi0 (show Tk.numOf n0 32 = 0 from e1) (TabOk.cons num4000 (by decide) (by decide) lo1 hi1 rfl (TabOk.nil))) (hvv n0 n1)
  ·
    have q3 : (Tk.numOf n1 4000 ≤ 9) ∨ (9 < Tk.numOf n1 4000 ∧ Tk.numOf n1 4000 ≤ 99) ∨ (99 < Tk.numOf n1 4000 ∧ Tk.numOf n1 4000 ≤ 999) ∨ (999 < Tk.numOf n1 4000) := by omega
    rcases q3 with q3 | q3 | q3 | q3
    ·
      exact case4 (σ := (sg n0 n1)) hL (kwa n0 n1 0 9 ⟨lo0, hi0⟩ ⟨lo1, hi1⟩ (by omega)) (TabOk.cons num32 (by decide) (by decide) lo0 hi0 (show Tk.numOf n0 32 = 1 from e1) (TabOk.cons num4000 (by decide) (by decide) lo1 hi1 rfl (TabOk.nil))) (hvv n0 n1)
    ·
      exact case5 (σ := (sg n0 n1)) hL (kwa n0 n1 10 99 ⟨lo0, hi0⟩ ⟨lo1, hi1⟩ (by omega)) (TabOk.cons num32 (by decide) (by decide) lo0 hi0 (show Tk.numOf n0 32 = 1 from e1) (TabOk.cons num4000 (by decide) (by decide) lo1 hi1 rfl (TabOk.nil))) (hvv n0 n1)
    ·
      exact case6 (σ := (sg n0 n1)) hL (kwa n0 n1 100 999 ⟨lo0, hi0⟩ ⟨lo1, hi1⟩ (by omega)) (TabOk.cons num32 (by decide) (by decide) lo0 hi0 (show Tk.numOf n0 32 = 1 from e1) (TabOk.cons num4000 (by decide) (by decide) lo1 hi1 rfl (TabOk.nil))) (hvv n0 n1)
    ·
      exact case7 (σ := (sg n0 n1)) hL (kwa n0 n1 1000 3999 ⟨lo0, hi0⟩ ⟨lo1, hi1⟩ (by omega)) (TabOk.cons num32 (by decide) (by decide) lo0 hi0 (show Tk.numOf n0 32 = 1 from e1) (TabOk.cons num4000 (by decide) (by decide) lo1 hi1 rfl (TabOk.nil))) (hvv n0 n1)
  ·
    have q4 : (Tk.numOf n1 4000 ≤ 9) ∨ (9 < Tk.numOf n1 4000 ∧ Tk.numOf n1 4000 ≤ 99) ∨ (99 < Tk.numOf n1 4000 ∧ Tk.numOf n1 4000 ≤ 999) ∨ (999 < Tk.numOf n1 4000) := by omega
    rcases q4 with q4 | q4 | q4 | q4
    ·
      exact case8 (σ := (sg n0 n1)) hL (kwa n0 n1 0 9 ⟨lo0, hi0⟩ ⟨lo1, hi1⟩ (by omega)) (TabOk.cons num32 (by decide) (by decide) lo0 hi0 (show Tk.numOf n0 32 = 2 from e1) (TabOk.cons num4000 (by decide) (by decide) lo1 hi1 rfl (TabOk.nil))) (hvv n0 n1)
    ·
      exact case9 (σ := (sg n0 n1)) hL (kwa n0 n1 10 99 ⟨lo0, hi0⟩ ⟨lo1, hi1⟩ (by omega)) (TabOk.cons num32 (by decide) (by decide) lo0 hi0 (show Tk.numOf n0 32 = 2 from e1) (TabOk.cons num4000 (by decide) (by decide) lo1 hi1 rfl (TabOk.nil))) (hvv n0 n1)
    ·
      exact case10 (σ := (sg n0 n1)) hL (kwa n0 n1 100 999 ⟨lo0, hi0⟩ ⟨lo1, hi1⟩ (by omega)) (TabOk.cons num32 (by decide) (by decide) lo0 hi0 (show Tk.numOf n0 32 = 2 from e1) (TabOk.cons num4000 (by decide) (by decide) lo1 hi1 rfl (TabOk.nil))) (hvv n0 n1)
    ·
      exact case11 (σ := (sg n0 n1)) hL (kwa n0 n1 1000 3999 ⟨lo0, hi0⟩ ⟨lo1, hi1⟩ (by omega)) (TabOk.cons num32 (by decide) (by decide) lo0 hi0 (show Tk.numOf n0 32 = 2 from e1) (TabOk.cons num4000 (by decide) (by decide) lo1 hi1 rfl (TabOk.nil))) (hvv n0 n1)
  ·
    have q5 : (Tk.numOf n1 4000 ≤ 9) ∨ (9 < Tk.numOf n1 4000 ∧ Tk.numOf n1 4000 ≤ 99) ∨ (99 < Tk.numOf n1 4000 ∧ Tk.numOf n1 4000 ≤ 999) ∨ (999 < Tk.numOf n1 4000) := by omega
    rcases q5 with q5 | q5 | q5 | q5
    ·
      exact case12 (σ := (sg n0 n1)) hL (kwa n0 n1 0 9 ⟨lo0, hi0⟩ ⟨lo1, hi1⟩ (by omega)) (TabOk.cons num32 (by decide) (by decide) lo0 hi0 (show Tk.numOf n0 32 = 3 from e1) (TabOk.cons num4000 (by decide) (by decide) lo1 hi1 rfl (TabOk.nil))) (hvv n0 n1)
    ·
      exact case13 (σ := (sg n0 n1)) hL (kwa n0 n1 10 99 ⟨lo0, hi0⟩ ⟨lo1, hi1⟩ (by omega)) (TabOk.cons num32 (by decide) (by decide) lo0 hi0 (show Tk.numOf n0 32 = 3 from e1) (TabOk.cons num4000 (by decide) (by decide) lo1 hi1 rfl (TabOk.nil))) (hvv n0 n1)
    ·
      exact case14 (σ := (sg n0 n1)) hL (kwa n0 n1 100 999 ⟨lo0, hi0⟩ ⟨lo1, hi1⟩ (by omega)) (TabOk.cons num32 (by decide) (by decide) lo0 hi0 (show Tk.numOf n0 32 = 3 from e1) (TabOk.cons num4000 (by decide) (by decide) lo1 hi1 rfl (TabOk.nil))) (hvv n0 n1)
    ·
      exact case15 (σ := (sg n0 n1)) hL (kwa n0 n1 1000 3999 ⟨lo0, hi0⟩ ⟨lo1, hi1⟩ (by omega)) (TabOk.cons num32 (by decide) (by decide) lo0 hi0 (show Tk.numOf n0 32 = 3 from e1) (TabOk.cons num4000 (by decide) (by decide) lo1 hi1 rfl (TabOk.nil))) (hvv n0 n1)
  ·
    have q6 : (Tk.numOf n1 4000 ≤ 9) ∨ (9 < Tk.numOf n1 4000 ∧ Tk.numOf n1 4000 ≤ 99) ∨ (99 < Tk.numOf n1 4000 ∧ Tk.numOf n1 4000 ≤ 999) ∨ (999 < Tk.numOf n1 4000) := by omega
    rcases q6 with q6 | q6 | q6 | q6
    ·
      exact case16 (σ := (sg n0 n1)) hL (kwa n0 n1 0 9 ⟨lo0, hi0⟩ ⟨lo1, hi1⟩ (by omega)) (TabOk.cons num32 (by decide) (by decide) lo0 hi0 (show Tk.numOf n0 32 = 4 from e1) (TabOk.cons num4000 (by decide) (by decide) lo1 hi1 rfl (TabOk.nil))) (hvv n0 n1)
    ·
      exact case17 (σ := (sg n0 n1)) hL (kwa n0 n1 10 99 ⟨lo0, hi0⟩ ⟨lo1, hi1⟩ (by omega)) (TabOk.cons num32 (by decide) (by decide) lo0 hi0 (show Tk.numOf n0 32 = 4 from e1) (TabOk.cons num4000 (by decide) (by decide) lo1 hi1 rfl (TabOk.nil))) (hvv n0 n1)
    ·
      exact case18 (σ := (sg n0 n1)) hL (kwa n0 n1 100 999 ⟨lo0, hi0⟩ ⟨lo1, hi1⟩ (by omega)) (TabOk.cons num32 (by decide) (by decide) lo0 hi0 (show Tk.numOf n0 32 = 4 from e1) (TabOk.cons num4000 (by decide) (by decide) lo1 hi1 rfl (TabOk.nil))) (hvv n0 n1)
    ·
      exact case19 (σ := (sg n0 n1)) hL (kwa n0 n1 1000 3999 ⟨lo0, hi0⟩ ⟨lo1, hi1⟩ (by omega)) (TabOk.cons num32 (by decide) (by decide) lo0 hi0 (show Tk.numOf n0 32 = 4 from e1) (TabOk.cons num4000 (by decide) (by decide) lo1 hi1 rfl (TabOk.nil))) (hvv n0 n1)
  ·
    have q7 : (Tk.numOf n1 4000 ≤ 9) ∨ (9 < Tk.numOf n1 4000 ∧ Tk.numOf n1 4000 ≤ 99) ∨ (99 < Tk.numOf n1 4000 ∧ Tk.numOf n1 4000 ≤ 999) ∨ (999 < Tk.numOf n1 4000) := by omega
    rcases q7 with q7 | q7 | q7 | q7
    ·
      exact case20 (σ := (sg n0 n1)) hL (kwa n0 n1 0 9 ⟨lo0, hi0⟩ ⟨lo1, hi1⟩ (by omega)) (TabOk.cons num32 (by decide) (by decide) lo0 hi0 (show Tk.numOf n0 32 = 5 from e1) (TabOk.cons num4000 (by decide) (by decide) lo1 hi1 rfl (TabOk.nil))) (hvv n0 n1)
    ·
      exact case21 (σ := (sg n0 n1)) hL (kwa n0 n1 10 99 ⟨lo0, hi0⟩ ⟨lo1, hi1⟩ (by omega)) (TabOk.cons num32 (by decide) (by decide) lo0 hi0 (show Tk.numOf n0 32 = 5 from e1) (TabOk.cons num4000 (by decide) (by decide) lo1 hi1 rfl (TabOk.nil))) (hvv n0 n1)
    ·
      exact case22 (σ := (sg n0 n1)) hL (kwa n0 n1 100 999 ⟨lo0, hi0⟩ ⟨lo1, hi1⟩ (by omega)) (TabOk.cons num32 (by decide) (by decide) lo0 hi0 (show Tk.numOf n0 32 = 5 from e1) (TabOk.cons num4000 (by decide) (by decide) lo1 hi1 rfl (TabOk.nil))) (hvv n0 n1)
    ·
      exact case23 (σ := (sg n0 n1)) hL (kwa n0 n1 1000 3999 ⟨lo0, hi0⟩ ⟨lo1, hi1⟩ (by omega)) (TabOk.cons num32 (by decide) (by decide) lo0 hi0 (show Tk.numOf n0 32 = 5 from e1) (TabOk.cons num4000 (by decide) (by decide) lo1 hi1 rfl (TabOk.nil))) (hvv n0 n1)
  ·
    have q8 : (Tk.numOf n1 4000 ≤ 9) ∨ (9 < Tk.numOf n1 4000 ∧ Tk.numOf n1 4000 ≤ 99) ∨ (99 < Tk.numOf n1 4000 ∧ Tk.numOf n1 4000 ≤ 999) ∨ (999 < Tk.numOf n1 4000) := by omega
    rcases q8 with q8 | q8 | q8 | q8
    ·
      exact case24 (σ := (sg n0 n1)) hL (kwa n0 n1 0 9 ⟨lo0, hi0⟩ ⟨lo1, hi1⟩ (by omega)) (TabOk.cons num32 (by decide) (by decide) lo0 hi0 (show Tk.numOf n0 32 = 6 from e1) (TabOk.cons num4000 (by decide) (by decide) lo1 hi1 rfl (TabOk.nil))) (hvv n0 n1)
    ·
      exact case25 (σ := (sg n0 n1)) hL (kwa n0 n1 10 99 ⟨lo0, hi0⟩ ⟨lo1, hi1⟩ (by omega)) (TabOk.cons num32 (by decide) (by decide) lo0 hi0 (show Tk.numOf n0 32 = 6 from e1) (TabOk.cons num4000 (by decide) (by decide) lo1 hi1 rfl (TabOk.nil))) (hvv n0 n1)
    ·
      exact case26 (σ := (sg n0 n1)) hL (kwa n0 n1 100 999 ⟨lo0, hi0⟩ ⟨lo1, hi1⟩ (by omega)) (TabOk.cons num32 (by decide) (by decide) lo0 hi0 (show Tk.numOf n0 32 = 6 from e1) (TabOk.cons num4000 (by decide) (by decide) lo1 hi1 rfl (TabOk.nil))) (hvv n0 n1)
    ·
      exact case27 (σ := (sg n0 n1)) hL (kwa n0 n1 1000 3999 ⟨lo0, hi0⟩ ⟨lo1, hi1⟩ (by omega)) (TabOk.cons num32 (by decide) (by decide) lo0 hi0 (show Tk.numOf n0 32 = 6 from e1) (TabOk.cons num4000 (by decide) (by decide) lo1 hi1 rfl (TabOk.nil))) (hvv n0 n1)
  ·
    have q9 : (Tk.numOf n1 4000 ≤ 9) ∨ (9 < Tk.numOf n1 4000 ∧ Tk.numOf n1 4000 ≤ 99) ∨ (99 < Tk.numOf n1 4000 ∧ Tk.numOf n1 4000 ≤ 999) ∨ (999 < Tk.numOf n1 4000) := by omega
    rcases q9 with q9 | q9 | q9 | q9
    ·
      exact case28 (σ := (sg n0 n1)) hL (kwa n0 n1 0 9 ⟨lo0, hi0⟩ ⟨lo1, hi1⟩ (by omega)) (TabOk.cons num32 (by decide) (by decide) lo0 hi0 (show Tk.numOf n0 32 = 7 from e1) (TabOk.cons num4000 (by decide) (by decide) lo1 hi1 rfl (TabOk.nil))) (hvv n0 n1)
    ·
      exact case29 (σ := (sg n0 n1)) hL (kwa n0 n1 10 99 ⟨lo0, hi0⟩ ⟨lo1, hi1⟩ (by omega)) (TabOk.cons num32 (by decide) (by decide) lo0 hi0 (show Tk.numOf n0 32 = 7 from e1) (TabOk.cons num4000 (by decide) (by decide) lo1 hi1 rfl (TabOk.nil))) (hvv n0 n1)
    ·
      exact case30 (σ := (sg n0 n1)) hL (kwa n0 n1 100 999 ⟨lo0, hi0⟩ ⟨lo1, hi1⟩ (by omega)) (TabOk.cons num32 (by decide) (by decide) lo0 hi0 (show Tk.numOf n0 32 = 7 from e1) (TabOk.cons num4000 (by decide) (by decide) lo1 hi1 rfl (TabOk.nil))) (hvv n0 n1)
    ·
      exact case31 (σ := (sg n0 n1)) hL (kwa n0 n1 1000 3999 ⟨lo0, hi0⟩ ⟨lo1, hi1⟩ (by omega)) (TabOk.cons num32 (by decide) (by decide) lo0 hi0 (show Tk.numOf n0 32 = 7 from e1) (TabOk.cons num4000 (by decide) (by decide) lo1 hi1 rfl (TabOk.nil))) (hvv n0 n1)
  ·
    have q10 : (Tk.numOf n1 4000 ≤ 9) ∨ (9 < Tk.numOf n1 4000 ∧ Tk.numOf n1 4000 ≤ 99) ∨ (99 < Tk.numOf n1 4000 ∧ Tk.numOf n1 4000 ≤ 999) ∨ (999 < Tk.numOf n1 4000) := by omega
    rcases q10 with q10 | q10 | q10 | q10
    ·
      exact case32 (σ := (sg n0 n1)) hL (kwa n0 n1 0 9 ⟨lo0, hi0⟩ ⟨lo1, hi1⟩ (by omega)) (TabOk.cons num32 (by decide) (by decide) lo0 hi0 (show Tk.numOf n0 32 = 8 from e1) (TabOk.cons num4000 (by decide) (by decide) lo1 hi1 rfl (TabOk.nil))) (hvv n0 n1)
    ·
      exact case33 (σ := (sg n0 n1)) hL (kwa n0 n1 10 99 ⟨lo0, hi0⟩ ⟨lo1, hi1⟩ (by omega)) (TabOk.cons num32 (by decide) (by decide) lo0 hi0 (show Tk.numOf n0 32 = 8 from e1) (TabOk.cons num4000 (by decide) (by decide) lo1 hi1 rfl (TabOk.nil))) (hvv n0 n1)
    ·
      exact case34 (σ := (sg n0 n1)) hL (kwa n0 n1 100 999 ⟨lo0, hi0⟩ ⟨lo1, hi1⟩ (by omega)) (TabOk.cons num32 (by decide) (by decide) lo0 hi0 (show Tk.numOf n0 32 = 8 from e1) (TabOk.cons num4000 (by decide) (by decide) lo1 hi1 rfl (TabOk.nil))) (hvv n0 n1)
    ·
      exact case35 (σ := (sg n0 n1)) hL (kwa n0 n1 1000 3999 ⟨lo0, hi0⟩ ⟨lo1, hi1⟩ (by omega)) (TabOk.cons num32 (by decide) (by decide) lo0 hi0 (show Tk.numOf n0 32 = 8 from e1) (TabOk.cons num4000 (by decide) (by decide) lo1 hi1 rfl (TabOk.nil))) (hvv n0 n1)
  ·
    have q11 : (Tk.numOf n1 4000 ≤ 9) ∨ (9 < Tk.numOf n1 4000 ∧ Tk.numOf n1 4000 ≤ 99) ∨ (99 < Tk.numOf n1 4000 ∧ Tk.numOf n1 4000 ≤ 999) ∨ (999 < Tk.numOf n1 4000) := by omega
    rcases q11 with q11 | q11 | q11 | q11
    ·
      exact case36 (σ := (sg n0 n1)) hL (kwa n0 n1 0 9 ⟨lo0, hi0⟩ ⟨lo1, hi1⟩ (by omega)) (TabOk.cons num32 (by decide) (by decide) lo0 hi0 (show Tk.numOf n0 32 = 9 from e1) (TabOk.cons num4000 (by decide) (by decide) lo1 hi1 rfl (TabOk.nil))) (hvv n0 n1)
    ·
      exact case37 (σ := (sg n0 n1)) hL (kwa n0 n1 10 99 ⟨lo0, hi0⟩ ⟨lo1, hi1⟩ (by omega)) (TabOk.cons num32 (by decide) (by decide) lo0 hi0 (show Tk.numOf n0 32 = 9 from e1) (TabOk.cons num4000 (by decide) (by decide) lo1 hi1 rfl (TabOk.nil))) (hvv n0 n1)
    ·
      exact case38 (σ := (sg n0 n1)) hL (kwa n0 n1 100 999 ⟨lo0, hi0⟩ ⟨lo1, hi1⟩ (by omega)) (TabOk.cons num32 (by decide) (by decide) lo0 hi0 (show Tk.numOf n0 32 = 9 from e1) (TabOk.cons num4000 (by decide) (by decide) lo1 hi1 rfl (TabOk.nil))) (hvv n0 n1)
    ·
      exact case39 (σ := (sg n0 n1)) hL (kwa n0 n1 1000 3999 ⟨lo0, hi0⟩ ⟨lo1, hi1⟩ (by omega)) (TabOk.cons num32 (by decide) (by decide) lo0 hi0 (show Tk.numOf n0 32 = 9 from e1) (TabOk.cons num4000 (by decide) (by decide) lo1 hi1 rfl (TabOk.nil))) (hvv n0 n1)
  ·
    have q12 : (Tk.numOf n1 4000 ≤ 9) ∨ (9 < Tk.numOf n1 4000 ∧ Tk.numOf n1 4000 ≤ 99) ∨ (99 < Tk.numOf n1 4000 ∧ Tk.numOf n1 4000 ≤ 999) ∨ (999 < Tk.numOf n1 4000) := by omega
    rcases q12 with q12 | q12 | q12 | q12
    ·
      exact case40 (σ := (sg n0 n1)) hL (kwa n0 n1 0 9 ⟨lo0, hi0⟩ ⟨lo1, hi1⟩ (by omega)) (TabOk.cons num32 (by decide) (by decide) lo0 hi0 (show Tk.numOf n0 32 = 10 from e1) (TabOk.cons num4000 (by decide) (by decide) lo1 hi1 rfl (TabOk.nil))) (hvv n0 n1)
    ·
      exact case41 (σ := (sg n0 n1)) hL (kwa n0 n1 10 99 ⟨lo0, hi0⟩ ⟨lo1, hi1⟩ (by omega)) (TabOk.cons num32 (by decide) (by decide) lo0 hi0 (show Tk.numOf n0 32 = 10 from e1) (TabOk.cons num4000 (by decide) (by decide) lo1 hi1 rfl (TabOk.nil))) (hvv n0 n1)
    ·
      exact case42 (σ := (sg n0 n1)) hL (kwa n0 n1 100 999 ⟨lo0, hi0⟩ ⟨lo1, hi1⟩ (by omega)) (TabOk.cons num32 (by decide) (by decide) lo0 hi0 (show Tk.numOf n0 32 = 10 from e1) (TabOk.cons num4000 (by decide) (by decide) lo1 hi1 rfl (TabOk.nil))) (hvv n0 n1)
    ·
      exact case43 (σ := (sg n0 n1)) hL (kwa n0 n1 1000 3999 ⟨lo0, hi0⟩ ⟨lo1, hi1⟩ (by omega)) (TabOk.cons num32 (by decide) (by decide) lo0 hi0 (show Tk.numOf n0 32 = 10 from e1) (TabOk.cons num4000 (by decide) (by decide) lo1 hi1 rfl (TabOk.nil))) (hvv n0 n1)
  ·
    have q13 : (Tk.numOf n1 4000 ≤ 9) ∨ (9 < Tk.numOf n1 4000 ∧ Tk.numOf n1 4000 ≤ 99) ∨ (99 < Tk.numOf n1 4000 ∧ Tk.numOf n1 4000 ≤ 999) ∨ (999 < Tk.numOf n1 4000) := by omega
    rcases q13 with q13 | q13 | q13 | q13
    ·
      exact case44 (σ := (sg n0 n1)) hL (kwa n0 n1 0 9 ⟨lo0, hi0⟩ ⟨lo1, hi1⟩ (by omega)) (TabOk.cons num32 (by decide) (by decide) lo0 hi0 (show Tk.numOf n0 32 = 11 from e1) (TabOk.cons num4000 (by decide) (by decide) lo1 hi1 rfl (TabOk.nil))) (hvv n0 n1)
    ·
      exact case45 (σ := (sg n0 n1)) hL (kwa n0 n1 10 99 ⟨lo0, hi0⟩ ⟨lo1, hi1⟩ (by omega)) (TabOk.cons num32 (by decide) (by decide) lo0 hi0 (show Tk.numOf n0 32 = 11 from e1) (TabOk.cons num4000 (by decide) (by decide) lo1 hi1 rfl (TabOk.nil))) (hvv n0 n1)
    ·
      exact case46 (σ := (sg n0 n1)) hL (kwa n0 n1 100 999 ⟨lo0, hi0⟩ ⟨lo1, hi1⟩ (by omega)) (TabOk.cons num32 (by decide) (by decide) lo0 hi0 (show Tk.numOf n0 32 = 11 from e1) (TabOk.cons num4000 (by decide) (by decide) lo1 hi1 rfl (TabOk.nil))) (hvv n0 n1)
    ·
      exact case47 (σ := (sg n0 n1)) hL (kwa n0 n1 1000 3999 ⟨lo0, hi0⟩ ⟨lo1, hi1⟩ (by omega)) (TabOk.cons num32 (by decide) (by decide) lo0 hi0 (show Tk.numOf n0 32 = 11 from e1) (TabOk.cons num4000 (by decide) (by decide) lo1 hi1 rfl (TabOk.nil))) (hvv n0 n1)
  ·
    have q14 : (Tk.numOf n1 4000 ≤ 9) ∨ (9 < Tk.numOf n1 4000 ∧ Tk.numOf n1 4000 ≤ 99) ∨ (99 < Tk.numOf n1 4000 ∧ Tk.numOf n1 4000 ≤ 999) ∨ (999 < Tk.numOf n1 4000) := by omega
    rcases q14 with q14 | q14 | q14 | q14
    ·
      exact case48 (σ := (sg n0 n1)) hL (kwa n0 n1 0 9 ⟨lo0, hi0⟩ ⟨lo1, hi1⟩ (by omega)) (TabOk.cons num32 (by decide) (by decide) lo0 hi0 (show Tk.numOf n0 32 = 12 from e1) (TabOk.cons num4000 (by decide) (by decide) lo1 hi1 rfl (TabOk.nil))) (hvv n0 n1)
    ·
      exact case49 (σ := (sg n0 n1)) hL (kwa n0 n1 10 99 ⟨lo0, hi0⟩ ⟨lo1, hi1⟩ (by omega)) (TabOk.cons num32 (by decide) (by decide) lo0 hi0 (show Tk.numOf n0 32 = 12 from e1) (TabOk.cons num4000 (by decide) (by decide) lo1 hi1 rfl (TabOk.nil))) (hvv n0 n1)
    ·
      exact case50 (σ := (sg n0 n1)) hL (kwa n0 n1 100 999 ⟨lo0, hi0⟩ ⟨lo1, hi1⟩ (by omega)) (TabOk.cons num32 (by decide) (by decide) lo0 hi0 (show Tk.numOf n0 32 = 12 from e1) (TabOk.cons num4000 (by decide) (by decide) lo1 hi1 rfl (TabOk.nil))) (hvv n0 n1)
    ·
      exact case51 (σ := (sg n0 n1)) hL (kwa n0 n1 1000 3999 ⟨lo0, hi0⟩ ⟨lo1, hi1⟩ (by omega)) (TabOk.cons num32 (by decide) (by decide) lo0 hi0 (show Tk.numOf n0 32 = 12 from e1) (TabOk.cons num4000 (by decide) (by decide) lo1 hi1 rfl (TabOk.nil))) (hvv n0 n1)
  ·
    have q15 : (Tk.numOf n1 4000 ≤ 9) ∨ (9 < Tk.numOf n1 4000 ∧ Tk.numOf n1 4000 ≤ 99) ∨ (99 < Tk.numOf n1 4000 ∧ Tk.numOf n1 4000 ≤ 999) ∨ (999 < Tk.numOf n1 4000) := by omega
    rcases q15 with q15 | q15 | q15 | q15
    ·
      exact case52 (σ := (sg n0 n1)) hL (kwa n0 n1 0 9 ⟨lo0, hi0⟩ ⟨lo1, hi1⟩ (by omega)) (TabOk.cons num32 (by decide) (by decide) lo0 hi0 (show Tk.numOf n0 32 = 13 from e1) (TabOk.cons num4000 (by decide) (by decide) lo1 hi1 rfl (TabOk.nil))) (hvv n0 n1)
    ·
      exact case53 (σ := (sg n0 n1)) hL (kwa n0 n1 10 99 ⟨lo0, hi0⟩ ⟨lo1, hi1⟩ (by omega)) (TabOk.cons num32 (by decide) (by decide) lo0 hi0 (show Tk.numOf n0 32 = 13 from e1) (TabOk.cons num4000 (by decide) (by decide) lo1 hi1 rfl (TabOk.nil))) (hvv n0 n1)
    ·
      exact case54 (σ := (sg n0 n1)) hL (kwa n0 n1 100 999 ⟨lo0, hi0⟩ ⟨lo1, hi1⟩ (by omega)) (TabOk.cons num32 (by decide) (by decide) lo0 hi0 (show Tk.numOf n0 32 = 13 from e1) (TabOk.cons num4000 (by decide) (by decide) lo1 hi1 rfl (TabOk.nil))) (hvv n0 n1)
    ·
      exact case55 (σ := (sg n0 n1)) hL (kwa n0 n1 1000 3999 ⟨lo0, hi0⟩ ⟨lo1, hi1⟩ (by omega)) (TabOk.cons num32 (by decide) (by decide) lo0 hi0 (show Tk.numOf n0 32 = 13 from e1) (TabOk.cons num4000 (by decide) (by decide) lo1 hi1 rfl (TabOk.nil))) (hvv n0 n1)
  ·
    have q16 : (Tk.numOf n1 4000 ≤ 9) ∨ (9 < Tk.numOf n1 4000 ∧ Tk.numOf n1 4000 ≤ 99) ∨ (99 < Tk.numOf n1 4000 ∧ Tk.numOf n1 4000 ≤ 999) ∨ (999 < Tk.numOf n1 4000) := by omega
    rcases q16 with q16 | q16 | q16 | q16
    ·
      exact case56 (σ := (sg n0 n1)) hL (kwa n0 n1 0 9 ⟨lo0, hi0⟩ ⟨lo1, hi1⟩ (by omega)) (TabOk.cons num32 (by decide) (by decide) lo0 hi0 (show Tk.numOf n0 32 = 14 from e1) (TabOk.cons num4000 (by decide) (by decide) lo1 hi1 rfl (TabOk.nil))) (hvv n0 n1)
    ·
      exact case57 (σ := (sg n0 n1)) hL (kwa n0 n1 10 99 ⟨lo0, hi0⟩ ⟨lo1, hi1⟩ (by omega)) (TabOk.cons num32 (by decide) (by decide) lo0 hi0 (show Tk.numOf n0 32 = 14 from e1) (TabOk.cons num4000 (by decide) (by decide) lo1 hi1 rfl (TabOk.nil))) (hvv n0 n1)
    ·
      exact case58 (σ := (sg n0 n1)) hL (kwa n0 n1 100 999 ⟨lo0, hi0⟩ ⟨lo1, hi1⟩ (by omega)) (TabOk.cons num32 (by decide) (by decide) lo0 hi0 (show Tk.numOf n0 32 = 14 from e1) (TabOk.cons num4000 (by decide) (by decide) lo1 hi1 rfl (TabOk.nil))) (hvv n0 n1)
    ·
      exact case59 (σ := (sg n0 n1)) hL (kwa n0 n1 1000 3999 ⟨lo0, hi0⟩ ⟨lo1, hi1⟩ (by omega)) (TabOk.cons num32 (by decide) (by decide) lo0 hi0 (show Tk.numOf n0 32 = 14 from e1) (TabOk.cons num4000 (by decide) (by decide) lo1 hi1 rfl (TabOk.nil))) (hvv n0 n1)
  ·
    have q17 : (Tk.numOf n1 4000 ≤ 9) ∨ (9 < Tk.numOf n1 4000 ∧ Tk.numOf n1 4000 ≤ 99) ∨ (99 < Tk.numOf n1 4000 ∧ Tk.numOf n1 4000 ≤ 999) ∨ (999 < Tk.numOf n1 4000) := by omega
    rcases q17 with q17 | q17 | q17 | q17
    ·
      exact case60 (σ := (sg n0 n1)) hL (kwa n0 n1 0 9 ⟨lo0, hi0⟩ ⟨lo1, hi1⟩ (by omega)) (TabOk.cons num32 (by decide) (by decide) lo0 hi0 (show Tk.numOf n0 32 = 15 from e1) (TabOk.cons num4000 (by decide) (by decide) lo1 hi1 rfl (TabOk.nil))) (hvv n0 n1)
    ·
      exact case61 (σ := (sg n0 n1)) hL (kwa n0 n1 10 99 ⟨lo0, hi0⟩ ⟨lo1, hi1⟩ (by omega)) (TabOk.cons num32 (by decide) (by decide) lo0 hi0 (show Tk.numOf n0 32 = 15 from e1) (TabOk.cons num4000 (by decide) (by decide) lo1 hi1 rfl (TabOk.nil))) (hvv n0 n1)
    ·
      exact case62 (σ := (sg n0 n1)) hL (kwa n0 n1 100 999 ⟨lo0, hi0⟩ ⟨lo1, hi1⟩ (by omega)) (TabOk.cons num32 (by decide) (by decide) lo0 hi0 (show Tk.numOf n0 32 = 15 from e1) (TabOk.cons num4000 (by decide) (by decide) lo1 hi1 rfl (TabOk.nil))) (hvv n0 n1)
    ·
      exact case63 (σ := (sg n0 n1)) hL (kwa n0 n1 1000 3999 ⟨lo0, hi0⟩ ⟨lo1, hi1⟩ (by omega)) (TabOk.cons num32 (by decide) (by decide) lo0 hi0 (show Tk.numOf n0 32 = 15 from e1) (TabOk.cons num4000 (by decide) (by decide) lo1 hi1 rfl (TabOk.nil))) (hvv n0 n1)
  ·
    have q18 : (Tk.numOf n1 4000 ≤ 9) ∨ (9 < Tk.numOf n1 4000 ∧ Tk.numOf n1 4000 ≤ 99) ∨ (99 < Tk.numOf n1 4000 ∧ Tk.numOf n1 4000 ≤ 999) ∨ (999 < Tk.numOf n1 4000) := by omega
    rcases q18 with q18 | q18 | q18 | q18
    ·
      exact case64 (σ := (sg n0 n1)) hL (kwa n0 n1 0 9 ⟨lo0, hi0⟩ ⟨lo1, hi1⟩ (by omega)) (TabOk.cons num32 (by decide) (by decide) lo0 hi0 (show Tk.numOf n0 32 = 16 from e1) (TabOk.cons num4000 (by decide) (by decide) lo1 hi1 rfl (TabOk.nil))) (hvv n0 n1)
    ·
      exact case65 (σ := (sg n0 n1)) hL (kwa n0 n1 10 99 ⟨lo0, hi0⟩ ⟨lo1, hi1⟩ (by omega)) (TabOk.cons num32 (by decide) (by decide) lo0 hi0 (show Tk.numOf n0 32 = 16 from e1) (TabOk.cons num4000 (by decide) (by decide) lo1 hi1 rfl (TabOk.nil))) (hvv n0 n1)
    ·
      exact case66 (σ := (sg n0 n1)) hL (kwa n0 n1 100 999 ⟨lo0, hi0⟩ ⟨lo1, hi1⟩ (by omega)) (TabOk.cons num32 (by decide) (by decide) lo0 hi0 (show Tk.numOf n0 32 = 16 from e1) (TabOk.cons num4000 (by decide) (by decide) lo1 hi1 rfl (TabOk.nil))) (hvv n0 n1)
    ·
      exact case67 (σ := (sg n0 n1)) hL (kwa n0 n1 1000 3999 ⟨lo0, hi0⟩ ⟨lo1, hi1⟩ (by omega)) (TabOk.cons num32 (by decide) (by decide) lo0 hi0 (show Tk.numOf n0 32 = 16 from e1) (TabOk.cons num4000 (by decide) (by decide) lo1 hi1 rfl (TabOk.nil))) (hvv n0 n1)
  ·
    have q19 : (Tk.numOf n1 4000 ≤ 9) ∨ (9 < Tk.numOf n1 4000 ∧ Tk.numOf n1 4000 ≤ 99) ∨ (99 < Tk.numOf n1 4000 ∧ Tk.numOf n1 4000 ≤ 999) ∨ (999 < Tk.numOf n1 4000) := by omega
    rcases q19 with q19 | q19 | q19 | q19
    ·
      exact case68 (σ := (sg n0 n1)) hL (kwa n0 n1 0 9 ⟨lo0, hi0⟩ ⟨lo1, hi1⟩ (by omega)) (TabOk.cons num32 (by decide) (by decide) lo0 hi0 (show Tk.numOf n0 32 = 17 from e1) (TabOk.cons num4000 (by decide) (by decide) lo1 hi1 rfl (TabOk.nil))) (hvv n0 n1)
    ·
      exact case69 (σ := (sg n0 n1)) hL (kwa n0 n1 10 99 ⟨lo0, hi0⟩ ⟨lo1, hi1⟩ (by omega)) (TabOk.cons num32 (by decide) (by decide) lo0 hi0 (show Tk.numOf n0 32 = 17 from e1) (TabOk.cons num4000 (by decide) (by decide) lo1 hi1 rfl (TabOk.nil))) (hvv n0 n1)
    ·
      exact case70 (σ := (sg n0 n1)) hL (kwa n0 n1 100 999 ⟨lo0, hi0⟩ ⟨lo1, hi1⟩ (by omega)) (TabOk.cons num32 (by decide) (by decide) lo0 hi0 (show Tk.numOf n0 32 = 17 from e1) (TabOk.cons num4000 (by decide) (by decide) lo1 hi1 rfl (TabOk.nil))) (hvv n0 n1)
    ·
      exact case71 (σ := (sg n0 n1)) hL (kwa n0 n1 1000 3999 ⟨lo0, hi0⟩ ⟨lo1, hi1⟩ (by omega)) (TabOk.cons num32 (by decide) (by decide) lo0 hi0 (show Tk.numOf n0 32 = 17 from e1) (TabOk.cons num4000 (by decide) (by decide) lo1 hi1 rfl (TabOk.nil))) (hvv n0 n1)
  ·
    have q20 : (Tk.numOf n1 4000 ≤ 9) ∨ (9 < Tk.numOf n1 4000 ∧ Tk.numOf n1 4000 ≤ 99) ∨ (99 < Tk.numOf n1 4000 ∧ Tk.numOf n1 4000 ≤ 999) ∨ (999 < Tk.numOf n1 4000) := by omega
    rcases q20 with q20 | q20 | q20 | q20
    ·
      exact case72 (σ := (sg n0 n1)) hL (kwa n0 n1 0 9 ⟨lo0, hi0⟩ ⟨lo1, hi1⟩ (by omega)) (TabOk.cons num32 (by decide) (by decide) lo0 hi0 (show Tk.numOf n0 32 = 18 from e1) (TabOk.cons num4000 (by decide) (by decide) lo1 hi1 rfl (TabOk.nil))) (hvv n0 n1)
    ·
      exact case73 (σ := (sg n0 n1)) hL (kwa n0 n1 10 99 ⟨lo0, hi0⟩ ⟨lo1, hi1⟩ (by omega)) (TabOk.cons num32 (by decide) (by decide) lo0 hi0 (show Tk.numOf n0 32 = 18 from e1) (TabOk.cons num4000 (by decide) (by decide) lo1 hi1 rfl (TabOk.nil))) (hvv n0 n1)
    ·
      exact case74 (σ := (sg n0 n1)) hL (kwa n0 n1 100 999 ⟨lo0, hi0⟩ ⟨lo1, hi1⟩ (by omega)) (TabOk.cons num32 (by decide) (by decide) lo0 hi0 (show Tk.numOf n0 32 = 18 from e1) (TabOk.cons num4000 (by decide) (by decide) lo1 hi1 rfl (TabOk.nil))) (hvv n0 n1)
    ·
      exact case75 (σ := (sg n0 n1)) hL (kwa n0 n1 1000 3999 ⟨lo0, hi0⟩ ⟨lo1, hi1⟩ (by omega)) (TabOk.cons num32 (by decide) (by decide) lo0 hi0 (show Tk.numOf n0 32 = 18 from e1) (TabOk.cons num4000 (by decide) (by decide) lo1 hi1 rfl (TabOk.nil))) (hvv n0 n1)
  ·
    have q21 : (Tk.numOf n1 4000 ≤ 9) ∨ (9 < Tk.numOf n1 4000 ∧ Tk.numOf n1 4000 ≤ 99) ∨ (99 < Tk.numOf n1 4000 ∧ Tk.numOf n1 4000 ≤ 999) ∨ (999 < Tk.numOf n1 4000) := by omega
    rcases q21 with q21 | q21 | q21 | q21
    ·
      exact case76 (σ := (sg n0 n1)) hL (kwa n0 n1 0 9 ⟨lo0, hi0⟩ ⟨lo1, hi1⟩ (by omega)) (TabOk.cons num32 (by decide) (by decide) lo0 hi0 (show Tk.numOf n0 32 = 19 from e1) (TabOk.cons num4000 (by decide) (by decide) lo1 hi1 rfl (TabOk.nil))) (hvv n0 n1)
    ·
      exact case77 (σ := (sg n0 n1)) hL (kwa n0 n1 10 99 ⟨lo0, hi0⟩ ⟨lo1, hi1⟩ (by omega)) (TabOk.cons num32 (by decide) (by decide) lo0 hi0 (show Tk.numOf n0 32 = 19 from e1) (TabOk.cons num4000 (by decide) (by decide) lo1 hi1 rfl (TabOk.nil))) (hvv n0 n1)
    ·
      exact case78 (σ := (sg n0 n1)) hL (kwa n0 n1 100 999 ⟨lo0, hi0⟩ ⟨lo1, hi1⟩ (by omega)) (TabOk.cons num32 (by decide) (by decide) lo0 hi0 (show Tk.numOf n0 32 = 19 from e1) (TabOk.cons num4000 (by decide) (by decide) lo1 hi1 rfl (TabOk.nil))) (hvv n0 n1)
    ·
      exact case79 (σ := (sg n0 n1)) hL (kwa n0 n1 1000 3999 ⟨lo0, hi0⟩ ⟨lo1, hi1⟩ (by omega)) (TabOk.cons num32 (by decide) (by decide) lo0 hi0 (show Tk.numOf n0 32 = 19 from e1) (TabOk.cons num4000 (by decide) (by decide) lo1 hi1 rfl (TabOk.nil))) (hvv n0 n1)
  ·
    have q22 : (Tk.numOf n1 4000 ≤ 9) ∨ (9 < Tk.numOf n1 4000 ∧ Tk.numOf n1 4000 ≤ 99) ∨ (99 < Tk.numOf n1 4000 ∧ Tk.numOf n1 4000 ≤ 999) ∨ (999 < Tk.numOf n1 4000) := by omega
    rcases q22 with q22 | q22 | q22 | q22
    ·
      exact case80 (σ := (sg n0 n1)) hL (kwa n0 n1 0 9 ⟨lo0, hi0⟩ ⟨lo1, hi1⟩ (by omega)) (TabOk.cons num32 (by decide) (by decide) lo0 hi0 (show Tk.numOf n0 32 = 20 from e1) (TabOk.cons num4000 (by decide) (by decide) lo1 hi1 rfl (TabOk.nil))) (hvv n0 n1)
    ·
      exact case81 (σ := (sg n0 n1)) hL (kwa n0 n1 10 99 ⟨lo0, hi0⟩ ⟨lo1, hi1⟩ (by omega)) (TabOk.cons num32 (by decide) (by decide) lo0 hi0 (show Tk.numOf n0 32 = 20 from e1) (TabOk.cons num4000 (by decide) (by decide) lo1 hi1 rfl (TabOk.nil))) (hvv n0 n1)
    ·
      exact case82 (σ := (sg n0 n1)) hL (kwa n0 n1 100 999 ⟨lo0, hi0⟩ ⟨lo1, hi1⟩ (by omega)) (TabOk.cons num32 (by decide) (by decide) lo0 hi0 (show Tk.numOf n0 32 = 20 from e1) (TabOk.cons num4000 (by decide) (by decide) lo1 hi1 rfl (TabOk.nil))) (hvv n0 n1)
    ·
      exact case83 (σ := (sg n0 n1)) hL (kwa n0 n1 1000 3999 ⟨lo0, hi0⟩ ⟨lo1, hi1⟩ (by omega)) (TabOk.cons num32 (by decide) (by decide) lo0 hi0 (show Tk.numOf n0 32 = 20 from e1) (TabOk.cons num4000 (by decide) (by decide) lo1 hi1 rfl (TabOk.nil))) (hvv n0 n1)
  ·
    have q23 : (Tk.numOf n1 4000 ≤ 9) ∨ (9 < Tk.numOf n1 4000 ∧ Tk.numOf n1 4000 ≤ 99) ∨ (99 < Tk.numOf n1 4000 ∧ Tk.numOf n1 4000 ≤ 999) ∨ (999 < Tk.numOf n1 4000) := by omega
    rcases q23 with q23 | q23 | q23 | q23
    ·
      exact case84 (σ := (sg n0 n1)) hL (kwa n0 n1 0 9 ⟨lo0, hi0⟩ ⟨lo1, hi1⟩ (by omega)) (TabOk.cons num32 (by decide) (by decide) lo0 hi0 (show Tk.numOf n0 32 = 21 from e1) (TabOk.cons num4000 (by decide) (by decide) lo1 hi1 rfl (TabOk.nil))) (hvv n0 n1)
    ·
      exact case85 (σ := (sg n0 n1)) hL (kwa n0 n1 10 99 ⟨lo0, hi0⟩ ⟨lo1, hi1⟩ (by omega)) (TabOk.cons num32 (by decide) (by decide) lo0 hi0 (show Tk.numOf n0 32 = 21 from e1) (TabOk.cons num4000 (by decide) (by decide) lo1 hi1 rfl (TabOk.nil))) (hvv n0 n1)
    ·
      exact case86 (σ := (sg n0 n1)) hL (kwa n0 n1 100 999 ⟨lo0, hi0⟩ ⟨lo1, hi1⟩ (by omega)) (TabOk.cons num32 (by decide) (by decide) lo0 hi0 (show Tk.numOf n0 32 = 21 from e1) (TabOk.cons num4000 (by decide) (by decide) lo1 hi1 rfl (TabOk.nil))) (hvv n0 n1)
    ·
      exact case87 (σ := (sg n0 n1)) hL (kwa n0 n1 1000 3999 ⟨lo0, hi0⟩ ⟨lo1, hi1⟩ (by omega)) (TabOk.cons num32 (by decide) (by decide) lo0 hi0 (show Tk.numOf n0 32 = 21 from e1) (TabOk.cons num4000 (by decide) (by decide) lo1 hi1 rfl (TabOk.nil))) (hvv n0 n1)
  ·
    have q24 : (Tk.numOf n1 4000 ≤ 9) ∨ (9 < Tk.numOf n1 4000 ∧ Tk.numOf n1 4000 ≤ 99) ∨ (99 < Tk.numOf n1 4000 ∧ Tk.numOf n1 4000 ≤ 999) ∨ (999 < Tk.numOf n1 4000) := by omega
    rcases q24 with q24 | q24 | q24 | q24
    ·
      exact case88 (σ := (sg n0 n1)) hL (kwa n0 n1 0 9 ⟨lo0, hi0⟩ ⟨lo1, hi1⟩ (by omega)) (TabOk.cons num32 (by decide) (by decide) lo0 hi0 (show Tk.numOf n0 32 = 22 from e1) (TabOk.cons num4000 (by decide) (by decide) lo1 hi1 rfl (TabOk.nil))) (hvv n0 n1)
    ·
      exact case89 (σ := (sg n0 n1)) hL (kwa n0 n1 10 99 ⟨lo0, hi0⟩ ⟨lo1, hi1⟩ (by omega)) (TabOk.cons num32 (by decide) (by decide) lo0 hi0 (show Tk.numOf n0 32 = 22 from e1) (TabOk.cons num4000 (by decide) (by decide) lo1 hi1 rfl (TabOk.nil))) (hvv n0 n1)
    ·
      exact case90 (σ := (sg n0 n1)) hL (kwa n0 n1 100 999 ⟨lo0, hi0⟩ ⟨lo1, hi1⟩ (by omega)) (TabOk.cons num32 (by decide) (by decide) lo0 hi0 (show Tk.numOf n0 32 = 22 from e1) (TabOk.cons num4000 (by decide) (by decide) lo1 hi1 rfl (TabOk.nil))) (hvv n0 n1)
    ·
      exact case91 (σ := (sg n0 n1)) hL (kwa n0 n1 1000 3999 ⟨lo0, hi0⟩ ⟨lo1, hi1⟩ (by omega)) (TabOk.cons num32 (by decide) (by decide) lo0 hi0 (show Tk.numOf n0 32 = 22 from e1) (TabOk.cons num4000 (by decide) (by decide) lo1 hi1 rfl (TabOk.nil))) (hvv n0 n1)
  ·
    have q25 : (Tk.numOf n1 4000 ≤ 9) ∨ (9 < Tk.numOf n1 4000 ∧ Tk.numOf n1 4000 ≤ 99) ∨ (99 < Tk.numOf n1 4000 ∧ Tk.numOf n1 4000 ≤ 999) ∨ (999 < Tk.numOf n1 4000) := by omega
    rcases q25 with q25 | q25 | q25 | q25
    ·
      exact case92 (σ := (sg n0 n1)) hL (kwa n0 n1 0 9 ⟨lo0, hi0⟩ ⟨lo1, hi1⟩ (by omega)) (TabOk.cons num32 (by decide) (by decide) lo0 hi0 (show Tk.numOf n0 32 = 23 from e1) (TabOk.cons num4000 (by decide) (by decide) lo1 hi1 rfl (TabOk.nil))) (hvv n0 n1)
    ·
      exact case93 (σ := (sg n0 n1)) hL (kwa n0 n1 10 99 ⟨lo0, hi0⟩ ⟨lo1, hi1⟩ (by omega)) (TabOk.cons num32 (by decide) (by decide) lo0 hi0 (show Tk.numOf n0 32 = 23 from e1) (TabOk.cons num4000 (by decide) (by decide) lo1 hi1 rfl (TabOk.nil))) (hvv n0 n1)
    ·
      exact case94 (σ := (sg n0 n1)) hL (kwa n0 n1 100 999 ⟨lo0, hi0⟩ ⟨lo1, hi1⟩ (by omega)) (TabOk.cons num32 (by decide) (by decide) lo0 hi0 (show Tk.numOf n0 32 = 23 from e1) (TabOk.cons num4000 (by decide) (by decide) lo1 hi1 rfl (TabOk.nil))) (hvv n0 n1)
    ·
      exact case95 (σ := (sg n0 n1)) hL (kwa n0 n1 1000 3999 ⟨lo0, hi0⟩ ⟨lo1, hi1⟩ (by omega)) (TabOk.cons num32 (by decide) (by decide) lo0 hi0 (show Tk.numOf n0 32 = 23 from e1) (TabOk.cons num4000 (by decide) (by decide) lo1 hi1 rfl (TabOk.nil))) (hvv n0 n1)
  ·
    have q26 : (Tk.numOf n1 4000 ≤ 9) ∨ (9 < Tk.numOf n1 4000 ∧ Tk.numOf n1 4000 ≤ 99) ∨ (99 < Tk.numOf n1 4000 ∧ Tk.numOf n1 4000 ≤ 999) ∨ (999 < Tk.numOf n1 4000) := by omega
    rcases q26 with q26 | q26 | q26 | q26
    ·
      exact case96 (σ := (sg n0 n1)) hL (kwa n0 n1 0 9 ⟨lo0, hi0⟩ ⟨lo1, hi1⟩ (by omega)) (TabOk.cons num32 (by decide) (by decide) lo0 hi0 (show Tk.numOf n0 32 = 24 from e1) (TabOk.cons num4000 (by decide) (by decide) lo1 hi1 rfl (TabOk.nil))) (hvv n0 n1)
    ·
      exact case97 (σ := (sg n0 n1)) hL (kwa n0 n1 10 99 ⟨lo0, hi0⟩ ⟨lo1, hi1⟩ (by omega)) (TabOk.cons num32 (by decide) (by decide) lo0 hi0 (show Tk.numOf n0 32 = 24 from e1) (TabOk.cons num4000 (by decide) (by decide) lo1 hi1 rfl (TabOk.nil))) (hvv n0 n1)
    ·
      exact case98 (σ := (sg n0 n1)) hL (kwa n0 n1 100 999 ⟨lo0, hi0⟩ ⟨lo1, hi1⟩ (by omega)) (TabOk.cons num32 (by decide) (by decide) lo0 hi0 (show Tk.numOf n0 32 = 24 from e1) (TabOk.cons num4000 (by decide) (by decide) lo1 hi1 rfl (TabOk.nil))) (hvv n0 n1)
    ·
      exact case99 (σ := (sg n0 n1)) hL (kwa n0 n1 1000 3999 ⟨lo0, hi0⟩ ⟨lo1, hi1⟩ (by omega)) (TabOk.cons num32 (by decide) (by decide) lo0 hi0 (show Tk.numOf n0 32 = 24 from e1) (TabOk.cons num4000 (by decide) (by decide) lo1 hi1 rfl (TabOk.nil))) (hvv n0 n1)
  ·
    have q27 : (Tk.numOf n1 4000 ≤ 9) ∨ (9 < Tk.numOf n1 4000 ∧ Tk.numOf n1 4000 ≤ 99) ∨ (99 < Tk.numOf n1 4000 ∧ Tk.numOf n1 4000 ≤ 999) ∨ (999 < Tk.numOf n1 4000) := by omega
    rcases q27 with q27 | q27 | q27 | q27
    ·
      exact case100 (σ := (sg n0 n1)) hL (kwa n0 n1 0 9 ⟨lo0, hi0⟩ ⟨lo1, hi1⟩ (by omega)) (TabOk.cons num32 (by decide) (by decide) lo0 hi0 (show Tk.numOf n0 32 = 25 from e1) (TabOk.cons num4000 (by decide) (by decide) lo1 hi1 rfl (TabOk.nil))) (hvv n0 n1)
    ·
      exact case101 (σ := (sg n0 n1)) hL (kwa n0 n1 10 99 ⟨lo0, hi0⟩ ⟨lo1, hi1⟩ (by omega)) (TabOk.cons num32 (by decide) (by decide) lo0 hi0 (show Tk.numOf n0 32 = 25 from e1) (TabOk.cons num4000 (by decide) (by decide) lo1 hi1 rfl (TabOk.nil))) (hvv n0 n1)
    ·
      exact case102 (σ := (sg n0 n1)) hL (kwa n0 n1 100 999 ⟨lo0, hi0⟩ ⟨lo1, hi1⟩ (by omega)) (TabOk.cons num32 (by decide) (by decide) lo0 hi0 (show Tk.numOf n0 32 = 25 from e1) (TabOk.cons num4000 (by decide) (by decide) lo1 hi1 rfl (TabOk.nil))) (hvv n0 n1)
    ·
      exact case103 (σ := (sg n0 n1)) hL (kwa n0 n1 1000 3999 ⟨lo0, hi0⟩ ⟨lo1, hi1⟩ (by omega)) (TabOk.cons num32 (by decide) (by decide) lo0 hi0 (show Tk.numOf n0 32 = 25 from e1) (TabOk.cons num4000 (by decide) (by decide) lo1 hi1 rfl (TabOk.nil))) (hvv n0 n1)
  ·
    have q28 : (Tk.numOf n1 4000 ≤ 9) ∨ (9 < Tk.numOf n1 4000 ∧ Tk.numOf n1 4000 ≤ 99) ∨ (99 < Tk.numOf n1 4000 ∧ Tk.numOf n1 4000 ≤ 999) ∨ (999 < Tk.numOf n1 4000) := by omega
    rcases q28 with q28 | q28 | q28 | q28
    ·
      exact case104 (σ := (sg n0 n1)) hL (kwa n0 n1 0 9 ⟨lo0, hi0⟩ ⟨lo1, hi1⟩ (by omega)) (TabOk.cons num32 (by decide) (by decide) lo0 hi0 (show Tk.numOf n0 32 = 26 from e1) (TabOk.cons num4000 (by decide) (by decide) lo1 hi1 rfl (TabOk.nil))) (hvv n0 n1)
    ·
      exact case105 (σ := (sg n0 n1)) hL (kwa n0 n1 10 99 ⟨lo0, hi0⟩ ⟨lo1, hi1⟩ (by omega)) (TabOk.cons num32 (by decide) (by decide) lo0 hi0 (show Tk.numOf n0 32 = 26 from e1) (TabOk.cons num4000 (by decide) (by decide) lo1 hi1 rfl (TabOk.nil))) (hvv n0 n1)
    ·
      exact case106 (σ := (sg n0 n1)) hL (kwa n0 n1 100 999 ⟨lo0, hi0⟩ ⟨lo1, hi1⟩ (by omega)) (TabOk.cons num32 (by decide) (by decide) lo0 hi0 (show Tk.numOf n0 32 = 26 from e1) (TabOk.cons num4000 (by decide) (by decide) lo1 hi1 rfl (TabOk.nil))) (hvv n0 n1)
    ·
      exact case107 (σ := (sg n0 n1)) hL (kwa n0 n1 1000 3999 ⟨lo0, hi0⟩ ⟨lo1, hi1⟩ (by omega)) (TabOk.cons num32 (by decide) (by decide) lo0 hi0 (show Tk.numOf n0 32 = 26 from e1) (TabOk.cons num4000 (by decide) (by decide) lo1 hi1 rfl (TabOk.nil))) (hvv n0 n1)
  ·
    have q29 : (Tk.numOf n1 4000 ≤ 9) ∨ (9 < Tk.numOf n1 4000 ∧ Tk.numOf n1 4000 ≤ 99) ∨ (99 < Tk.numOf n1 4000 ∧ Tk.numOf n1 4000 ≤ 999) ∨ (999 < Tk.numOf n1 4000) := by omega
    rcases q29 with q29 | q29 | q29 | q29
    ·
      exact case108 (σ := (sg n0 n1)) hL (kwa n0 n1 0 9 ⟨lo0, hi0⟩ ⟨lo1, hi1⟩ (by omega)) (TabOk.cons num32 (by decide) (by decide) lo0 hi0 (show Tk.numOf n0 32 = 27 from e1) (TabOk.cons num4000 (by decide) (by decide) lo1 hi1 rfl (TabOk.nil))) (hvv n0 n1)
    ·
      exact case109 (σ := (sg n0 n1)) hL (kwa n0 n1 10 99 ⟨lo0, hi0⟩ ⟨lo1, hi1⟩ (by omega)) (TabOk.cons num32 (by decide) (by decide) lo0 hi0 (show Tk.numOf n0 32 = 27 from e1) (TabOk.cons num4000 (by decide) (by decide) lo1 hi1 rfl (TabOk.nil))) (hvv n0 n1)
    ·
      exact case110 (σ := (sg n0 n1)) hL (kwa n0 n1 100 999 ⟨lo0, hi0⟩ ⟨lo1, hi1⟩ (by omega)) (TabOk.cons num32 (by decide) (by decide) lo0 hi0 (show Tk.numOf n0 32 = 27 from e1) (TabOk.cons num4000 (by decide) (by decide) lo1 hi1 rfl (TabOk.nil))) (hvv n0 n1)
    ·
      exact case111 (σ := (sg n0 n1)) hL (kwa n0 n1 1000 3999 ⟨lo0, hi0⟩ ⟨lo1, hi1⟩ (by omega)) (TabOk.cons num32 (by decide) (by decide) lo0 hi0 (show Tk.numOf n0 32 = 27 from e1) (TabOk.cons num4000 (by decide) (by decide) lo1 hi1 rfl (TabOk.nil))) (hvv n0 n1)
  ·
    have q30 : (Tk.numOf n1 4000 ≤ 9) ∨ (9 < Tk.numOf n1 4000 ∧ Tk.numOf n1 4000 ≤ 99) ∨ (99 < Tk.numOf n1 4000 ∧ Tk.numOf n1 4000 ≤ 999) ∨ (999 < Tk.numOf n1 4000) := by omega
    rcases q30 with q30 | q30 | q30 | q30
    ·
      exact case112 (σ := (sg n0 n1)) hL (kwa n0 n1 0 9 ⟨lo0, hi0⟩ ⟨lo1, hi1⟩ (by omega)) (TabOk.cons num32 (by decide) (by decide) lo0 hi0 (show Tk.numOf n0 32 = 28 from e1) (TabOk.cons num4000 (by decide) (by decide) lo1 hi1 rfl (TabOk.nil))) (hvv n0 n1)
    ·
      exact case113 (σ := (sg n0 n1)) hL (kwa n0 n1 10 99 ⟨lo0, hi0⟩ ⟨lo1, hi1⟩ (by omega)) (TabOk.cons num32 (by decide) (by decide) lo0 hi0 (show Tk.numOf n0 32 = 28 from e1) (TabOk.cons num4000 (by decide) (by decide) lo1 hi1 rfl (TabOk.nil))) (hvv n0 n1)
    ·
      exact case114 (σ := (sg n0 n1)) hL (kwa n0 n1 100 999 ⟨lo0, hi0⟩ ⟨lo1, hi1⟩ (by omega)) (TabOk.cons num32 (by decide) (by decide) lo0 hi0 (show Tk.numOf n0 32 = 28 from e1) (TabOk.cons num4000 (by decide) (by decide) lo1 hi1 rfl (TabOk.nil))) (hvv n0 n1)
    ·
      exact case115 (σ := (sg n0 n1)) hL (kwa n0 n1 1000 3999 ⟨lo0, hi0⟩ ⟨lo1, hi1⟩ (by omega)) (TabOk.cons num32 (by decide) (by decide) lo0 hi0 (show Tk.numOf n0 32 = 28 from e1) (TabOk.cons num4000 (by decide) (by decide) lo1 hi1 rfl (TabOk.nil))) (hvv n0 n1)
  ·
    have q31 : (Tk.numOf n1 4000 ≤ 9) ∨ (9 < Tk.numOf n1 4000 ∧ Tk.numOf n1 4000 ≤ 99) ∨ (99 < Tk.numOf n1 4000 ∧ Tk.numOf n1 4000 ≤ 999) ∨ (999 < Tk.numOf n1 4000) := by omega
    rcases q31 with q31 | q31 | q31 | q31
    ·
      exact case116 (σ := (sg n0 n1)) hL (kwa n0 n1 0 9 ⟨lo0, hi0⟩ ⟨lo1, hi1⟩ (by omega)) (TabOk.cons num32 (by decide) (by decide) lo0 hi0 (show Tk.numOf n0 32 = 29 from e1) (TabOk.cons num4000 (by decide) (by decide) lo1 hi1 rfl (TabOk.nil))) (hvv n0 n1)
    ·
      exact case117 (σ := (sg n0 n1)) hL (kwa n0 n1 10 99 ⟨lo0, hi0⟩ ⟨lo1, hi1⟩ (by omega)) (TabOk.cons num32 (by decide) (by decide) lo0 hi0 (show Tk.numOf n0 32 = 29 from e1) (TabOk.cons num4000 (by decide) (by decide) lo1 hi1 rfl (TabOk.nil))) (hvv n0 n1)
    ·
      exact case118 (σ := (sg n0 n1)) hL (kwa n0 n1 100 999 ⟨lo0, hi0⟩ ⟨lo1, hi1⟩ (by omega)) (TabOk.cons num32 (by decide) (by decide) lo0 hi0 (show Tk.numOf n0 32 = 29 from e1) (TabOk.cons num4000 (by decide) (by decide) lo1 hi1 rfl (TabOk.nil))) (hvv n0 n1)
    ·
      exact case119 (σ := (sg n0 n1)) hL (kwa n0 n1 1000 3999 ⟨lo0, hi0⟩ ⟨lo1, hi1⟩ (by omega)) (TabOk.cons num32 (by decide) (by decide) lo0 hi0 (show Tk.numOf n0 32 = 29 from e1) (TabOk.cons num4000 (by decide) (by decide) lo1 hi1 rfl (TabOk.nil))) (hvv n0 n1)
  ·
    have q32 : (Tk.numOf n1 4000 ≤ 9) ∨ (9 < Tk.numOf n1 4000 ∧ Tk.numOf n1 4000 ≤ 99) ∨ (99 < Tk.numOf n1 4000 ∧ Tk.numOf n1 4000 ≤ 999) ∨ (999 < Tk.numOf n1 4000) := by omega
    rcases q32 with q32 | q32 | q32 | q32
    ·
      exact case120 (σ := (sg n0 n1)) hL (kwa n0 n1 0 9 ⟨lo0, hi0⟩ ⟨lo1, hi1⟩ (by omega)) (TabOk.cons num32 (by decide) (by decide) lo0 hi0 (show Tk.numOf n0 32 = 30 from e1) (TabOk.cons num4000 (by decide) (by decide) lo1 hi1 rfl (TabOk.nil))) (hvv n0 n1)
    ·
      exact case121 (σ := (sg n0 n1)) hL (kwa n0 n1 10 99 ⟨lo0, hi0⟩ ⟨lo1, hi1⟩ (by omega)) (TabOk.cons num32 (by decide) (by decide) lo0 hi0 (show Tk.numOf n0 32 = 30 from e1) (TabOk.cons num4000 (by decide) (by decide) lo1 hi1 rfl (TabOk.nil))) (hvv n0 n1)
    ·
      exact case122 (σ := (sg n0 n1)) hL (kwa n0 n1 100 999 ⟨lo0, hi0⟩ ⟨lo1, hi1⟩ (by omega)) (TabOk.cons num32 (by decide) (by decide) lo0 hi0 (show Tk.numOf n0 32 = 30 from e1) (TabOk.cons num4000 (by decide) (by decide) lo1 hi1 rfl (TabOk.nil))) (hvv n0 n1)
    ·
      exact case123 (σ := (sg n0 n1)) hL (kwa n0 n1 1000 3999 ⟨lo0, hi0⟩ ⟨lo1, hi1⟩ (by omega)) (TabOk.cons num32 (by decide) (by decide) lo0 hi0 (show Tk.numOf n0 32 = 30 from e1) (TabOk.cons num4000 (by decide) (by decide) lo1 hi1 rfl (TabOk.nil))) (hvv n0 n1)
  ·
    have q33 : (Tk.numOf n1 4000 ≤ 9) ∨ (9 < Tk.numOf n1 4000 ∧ Tk.numOf n1 4000 ≤ 99) ∨ (99 < Tk.numOf n1 4000 ∧ Tk.numOf n1 4000 ≤ 999) ∨ (999 < Tk.numOf n1 4000) := by omega
    rcases q33 with q33 | q33 | q33 | q33
    ·
      exact case124 (σ := (sg n0 n1)) hL (kwa n0 n1 0 9 ⟨lo0, hi0⟩ ⟨lo1, hi1⟩ (by omega)) (TabOk.cons num32 (by decide) (by decide) lo0 hi0 (show Tk.numOf n0 32 = 31 from e1) (TabOk.cons num4000 (by decide) (by decide) lo1 hi1 rfl (TabOk.nil))) (hvv n0 n1)
    ·
      exact case125 (σ := (sg n0 n1)) hL (kwa n0 n1 10 99 ⟨lo0, hi0⟩ ⟨lo1, hi1⟩ (by omega)) (TabOk.cons num32 (by decide) (by decide) lo0 hi0 (show Tk.numOf n0 32 = 31 from e1) (TabOk.cons num4000 (by decide) (by decide) lo1 hi1 rfl (TabOk.nil))) (hvv n0 n1)
    ·
      exact case126 (σ := (sg n0 n1)) hL (kwa n0 n1 100 999 ⟨lo0, hi0⟩ ⟨lo1, hi1⟩ (by omega)) (TabOk.cons num32 (by decide) (by decide) lo0 hi0 (show Tk.numOf n0 32 = 31 from e1) (TabOk.cons num4000 (by decide) (by decide) lo1 hi1 rfl (TabOk.nil))) (hvv n0 n1)
    ·
      exact case127 (σ := (sg n0 n1)) hL (kwa n0 n1 1000 3999 ⟨lo0, hi0⟩ ⟨lo1, hi1⟩ (by omega)) (TabOk.cons num32 (by decide) (by decide) lo0 hi0 (show Tk.numOf n0 32 = 31 from e1) (TabOk.cons num4000 (by decide) (by decide) lo1 hi1 rfl (TabOk.nil))) (hvv n0 n1)
end Go.Proofs.YtphhnhheedbjjaaGreatDoor.worldAsks
