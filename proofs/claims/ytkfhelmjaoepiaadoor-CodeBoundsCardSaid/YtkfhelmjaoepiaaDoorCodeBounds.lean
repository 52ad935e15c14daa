/- CodeBounds returns true for every input, and the input reads as it did; the listed errors hold what the program text lays. -/
import Derived.Test.YtkfhelmjaoepiaaDoorCbK1
import Derived.Deep.DeepWitnessRowRef
import Derived.Lay
set_option linter.unusedVariables false
set_option linter.unusedSimpArgs false
set_option maxRecDepth 10000000
namespace Go.Proofs.YtkfhelmjaoepiaaDoor.codeBounds
open Tk
open Go.ChangeShapes Go.WideShapes Go.ChangeAt Go.RowKit

theorem own : ownKnob Tryd.prog.godebug = none := by kernel_rfl
def sg (n0 : Int) (n1 : Int) (n2 : Int) (n3 : Int) : Nat → Int := fun i => if i = 0 then n0 else if i = 1 then n1 else if i = 2 then n2 else if i = 3 then n3 else 0
theorem kn {n0 n1 n2 n3 a0 b0 a1 b1 a2 b2 a3 b3 : Int} (h0 : a0 ≤ n0 ∧ n0 ≤ b0) (h1 : a1 ≤ n1 ∧ n1 ≤ b1) (h2 : a2 ≤ n2 ∧ n2 ≤ b2) (h3 : a3 ≤ n3 ∧ n3 ≤ b3) :
    Known2 (sg n0 n1 n2 n3) [(a0, b0), (a1, b1), (a2, b2), (a3, b3)] [] := by
  refine ⟨?_, fun q a b t h => by simp at h⟩
  intro i lo hi hr
  rcases i with _ | i
  · simp at hr
    obtain ⟨rfl, rfl⟩ := hr
    exact h0
  rcases i with _ | i
  · simp at hr
    obtain ⟨rfl, rfl⟩ := hr
    exact h1
  rcases i with _ | i
  · simp at hr
    obtain ⟨rfl, rfl⟩ := hr
    exact h2
  rcases i with _ | i
  · simp at hr
    obtain ⟨rfl, rfl⟩ := hr
    exact h3
  simp at hr
theorem hvv (n0 : Int) (n1 : Int) (n2 : Int) (n3 : Int) : ∀ ρ, VRs (sg n0 n1 n2 n3) ρ [.int .i64 (.var 0), .int .i64 (.var 1), .int .i64 (.var 2), .int .i64 (.var 3)] (#[.int .i64 n0, .int .i64 n1, .int .i64 n2, .int .i64 n3] : Array Go.Value).toList := fun ρ => VRs.cons (by simp [VR, E.den, sg]) (VRs.cons (by simp [VR, E.den, sg]) (VRs.cons (by simp [VR, E.den, sg]) (VRs.cons (by simp [VR, E.den, sg]) (VRs.nil))))
theorem walk (W : World) (n0 : Int) (hn0 : (Lit.int .i64 n0).wf = true) (n1 : Int) (hn1 : (Lit.int .i64 n1).wf = true) (n2 : Int) (hn2 : (Lit.int .i64 n2).wf = true) (n3 : Int) (hn3 : (Lit.int .i64 n3).wf = true) (hL : laidMetH Tryd.prog Rows.codeBoundsRow.laid W) : Calls Tryd.prog 4 #[.int .i64 n0, .int .i64 n1, .int .i64 n2, .int .i64 n3] W fun e w' => e = .returned (.bool true) ∧ Below W.heap.size W w' := by
  simp only [Lit.wf, Bool.and_eq_true, decide_eq_true_eq] at hn0
  have lo0 : -9223372036854775808 ≤ n0 := hn0.1
  have hi0 : n0 ≤ 9223372036854775807 := hn0.2
  simp only [Lit.wf, Bool.and_eq_true, decide_eq_true_eq] at hn1
  have lo1 : -9223372036854775808 ≤ n1 := hn1.1
  have hi1 : n1 ≤ 9223372036854775807 := hn1.2
  simp only [Lit.wf, Bool.and_eq_true, decide_eq_true_eq] at hn2
  have lo2 : -9223372036854775808 ≤ n2 := hn2.1
  have hi2 : n2 ≤ 9223372036854775807 := hn2.2
  simp only [Lit.wf, Bool.and_eq_true, decide_eq_true_eq] at hn3
  have lo3 : -9223372036854775808 ≤ n3 := hn3.1
  have hi3 : n3 ≤ 9223372036854775807 := hn3.2
  have q1 : ((-9223372036854775808) ≤ n0 ∧ n0 ≤ (-1)) ∨ (0 ≤ n0 ∧ n0 ≤ 0) ∨ (1 ≤ n0 ∧ n0 ≤ 2) ∨ (3 ≤ n0 ∧ n0 ≤ 7) ∨ (8 ≤ n0 ∧ n0 ≤ 15) ∨ (16 ≤ n0 ∧ n0 ≤ 9223372036854775807) := by omega
  rcases q1 with q1 | q1 | q1 | q1 | q1 | q1
  ·
    have q2 : ((-9223372036854775808) ≤ n1 ∧ n1 ≤ (-1)) ∨ (0 ≤ n1 ∧ n1 ≤ 0) ∨ (1 ≤ n1 ∧ n1 ≤ 7) ∨ (8 ≤ n1 ∧ n1 ≤ 15) ∨ (16 ≤ n1 ∧ n1 ≤ 9223372036854775807) := by omega
    rcases q2 with q2 | q2 | q2 | q2 | q2
    ·
      have q3 : ((-9223372036854775808) ≤ n2 ∧ n2 ≤ (-1)) ∨ (0 ≤ n2 ∧ n2 ≤ 0) ∨ (1 ≤ n2 ∧ n2 ≤ 7) ∨ (8 ≤ n2 ∧ n2 ≤ 15) ∨ (16 ≤ n2 ∧ n2 ≤ 9223372036854775807) := by omega
      rcases q3 with q3 | q3 | q3 | q3 | q3
      ·
        have q4 : ((-9223372036854775808) ≤ n3 ∧ n3 ≤ (-1)) ∨ (0 ≤ n3 ∧ n3 ≤ 0) ∨ (1 ≤ n3 ∧ n3 ≤ 11) ∨ (12 ≤ n3 ∧ n3 ≤ 4095) ∨ (4096 ≤ n3 ∧ n3 ≤ 9223372036854775807) := by omega
        rcases q4 with q4 | q4 | q4 | q4 | q4
        ·
          exact case0 (σ := (sg n0 n1 n2 n3)) hL (kn q1 q2 q3 q4) TabOk.nil (hvv n0 n1 n2 n3)
        ·
          exact case1 (σ := (sg n0 n1 n2 n3)) hL (kn q1 q2 q3 q4) TabOk.nil (hvv n0 n1 n2 n3)
        ·
          exact case2 (σ := (sg n0 n1 n2 n3)) hL (kn q1 q2 q3 q4) TabOk.nil (hvv n0 n1 n2 n3)
        ·
          exact case3 (σ := (sg n0 n1 n2 n3)) hL (kn q1 q2 q3 q4) TabOk.nil (hvv n0 n1 n2 n3)
        ·
          exact case4 (σ := (sg n0 n1 n2 n3)) hL (kn q1 q2 q3 q4) TabOk.nil (hvv n0 n1 n2 n3)
      ·
        have q5 : ((-9223372036854775808) ≤ n3 ∧ n3 ≤ (-1)) ∨ (0 ≤ n3 ∧ n3 ≤ 0) ∨ (1 ≤ n3 ∧ n3 ≤ 11) ∨ (12 ≤ n3 ∧ n3 ≤ 4095) ∨ (4096 ≤ n3 ∧ n3 ≤ 9223372036854775807) := by omega
        rcases q5 with q5 | q5 | q5 | q5 | q5
        ·
          exact case5 (σ := (sg n0 n1 n2 n3)) hL (kn q1 q2 q3 q5) TabOk.nil (hvv n0 n1 n2 n3)
        ·
          exact case6 (σ := (sg n0 n1 n2 n3)) hL (kn q1 q2 q3 q5) TabOk.nil (hvv n0 n1 n2 n3)
        ·
          exact case7 (σ := (sg n0 n1 n2 n3)) hL (kn q1 q2 q3 q5) TabOk.nil (hvv n0 n1 n2 n3)
        ·
          exact case8 (σ := (sg n0 n1 n2 n3)) hL (kn q1 q2 q3 q5) TabOk.nil (hvv n0 n1 n2 n3)
        ·
          exact case9 (σ := (sg n0 n1 n2 n3)) hL (kn q1 q2 q3 q5) TabOk.nil (hvv n0 n1 n2 n3)
      ·
        have q6 : ((-9223372036854775808) ≤ n3 ∧ n3 ≤ (-1)) ∨ (0 ≤ n3 ∧ n3 ≤ 0) ∨ (1 ≤ n3 ∧ n3 ≤ 11) ∨ (12 ≤ n3 ∧ n3 ≤ 4095) ∨ (4096 ≤ n3 ∧ n3 ≤ 9223372036854775807) := by omega
        rcases q6 with q6 | q6 | q6 | q6 | q6
        ·
          exact case10 (σ := (sg n0 n1 n2 n3)) hL (kn q1 q2 q3 q6) TabOk.nil (hvv n0 n1 n2 n3)
        ·
          exact case11 (σ := (sg n0 n1 n2 n3)) hL (kn q1 q2 q3 q6) TabOk.nil (hvv n0 n1 n2 n3)
        ·
          exact case12 (σ := (sg n0 n1 n2 n3)) hL (kn q1 q2 q3 q6) TabOk.nil (hvv n0 n1 n2 n3)
        ·
          exact case13 (σ := (sg n0 n1 n2 n3)) hL (kn q1 q2 q3 q6) TabOk.nil (hvv n0 n1 n2 n3)
        ·
          exact case14 (σ := (sg n0 n1 n2 n3)) hL (kn q1 q2 q3 q6) TabOk.nil (hvv n0 n1 n2 n3)
      ·
        have q7 : ((-9223372036854775808) ≤ n3 ∧ n3 ≤ (-1)) ∨ (0 ≤ n3 ∧ n3 ≤ 0) ∨ (1 ≤ n3 ∧ n3 ≤ 11) ∨ (12 ≤ n3 ∧ n3 ≤ 4095) ∨ (4096 ≤ n3 ∧ n3 ≤ 9223372036854775807) := by omega
        rcases q7 with q7 | q7 | q7 | q7 | q7
        ·
          exact case15 (σ := (sg n0 n1 n2 n3)) hL (kn q1 q2 q3 q7) TabOk.nil (hvv n0 n1 n2 n3)
        ·
          exact case16 (σ := (sg n0 n1 n2 n3)) hL (kn q1 q2 q3 q7) TabOk.nil (hvv n0 n1 n2 n3)
        ·
          exact case17 (σ := (sg n0 n1 n2 n3)) hL (kn q1 q2 q3 q7) TabOk.nil (hvv n0 n1 n2 n3)
        ·
          exact case18 (σ := (sg n0 n1 n2 n3)) hL (kn q1 q2 q3 q7) TabOk.nil (hvv n0 n1 n2 n3)
        ·
          exact case19 (σ := (sg n0 n1 n2 n3)) hL (kn q1 q2 q3 q7) TabOk.nil (hvv n0 n1 n2 n3)
      ·
        have q8 : ((-9223372036854775808) ≤ n3 ∧ n3 ≤ (-1)) ∨ (0 ≤ n3 ∧ n3 ≤ 0) ∨ (1 ≤ n3 ∧ n3 ≤ 11) ∨ (12 ≤ n3 ∧ n3 ≤ 4095) ∨ (4096 ≤ n3 ∧ n3 ≤ 9223372036854775807) := by omega
        rcases q8 with q8 | q8 | q8 | q8 | q8
        ·
          exact case20 (σ := (sg n0 n1 n2 n3)) hL (kn q1 q2 q3 q8) TabOk.nil (hvv n0 n1 n2 n3)
        ·
          exact case21 (σ := (sg n0 n1 n2 n3)) hL (kn q1 q2 q3 q8) TabOk.nil (hvv n0 n1 n2 n3)
        ·
          exact case22 (σ := (sg n0 n1 n2 n3)) hL (kn q1 q2 q3 q8) TabOk.nil (hvv n0 n1 n2 n3)
        ·
          exact case23 (σ := (sg n0 n1 n2 n3)) hL (kn q1 q2 q3 q8) TabOk.nil (hvv n0 n1 n2 n3)
        ·
          exact case24 (σ := (sg n0 n1 n2 n3)) hL (kn q1 q2 q3 q8) TabOk.nil (hvv n0 n1 n2 n3)
    ·
      have q9 : ((-9223372036854775808) ≤ n2 ∧ n2 ≤ (-1)) ∨ (0 ≤ n2 ∧ n2 ≤ 0) ∨ (1 ≤ n2 ∧ n2 ≤ 7) ∨ (8 ≤ n2 ∧ n2 ≤ 15) ∨ (16 ≤ n2 ∧ n2 ≤ 9223372036854775807) := by omega
      rcases q9 with q9 | q9 | q9 | q9 | q9
      ·
        have q10 : ((-9223372036854775808) ≤ n3 ∧ n3 ≤ (-1)) ∨ (0 ≤ n3 ∧ n3 ≤ 0) ∨ (1 ≤ n3 ∧ n3 ≤ 11) ∨ (12 ≤ n3 ∧ n3 ≤ 4095) ∨ (4096 ≤ n3 ∧ n3 ≤ 9223372036854775807) := by omega
        rcases q10 with q10 | q10 | q10 | q10 | q10
        ·
          exact case25 (σ := (sg n0 n1 n2 n3)) hL (kn q1 q2 q9 q10) TabOk.nil (hvv n0 n1 n2 n3)
        ·
          exact case26 (σ := (sg n0 n1 n2 n3)) hL (kn q1 q2 q9 q10) TabOk.nil (hvv n0 n1 n2 n3)
        ·
          exact case27 (σ := (sg n0 n1 n2 n3)) hL (kn q1 q2 q9 q10) TabOk.nil (hvv n0 n1 n2 n3)
        ·
          exact case28 (σ := (sg n0 n1 n2 n3)) hL (kn q1 q2 q9 q10) TabOk.nil (hvv n0 n1 n2 n3)
        ·
          exact case29 (σ := (sg n0 n1 n2 n3)) hL (kn q1 q2 q9 q10) TabOk.nil (hvv n0 n1 n2 n3)
      ·
        have q11 : ((-9223372036854775808) ≤ n3 ∧ n3 ≤ (-1)) ∨ (0 ≤ n3 ∧ n3 ≤ 0) ∨ (1 ≤ n3 ∧ n3 ≤ 11) ∨ (12 ≤ n3 ∧ n3 ≤ 4095) ∨ (4096 ≤ n3 ∧ n3 ≤ 9223372036854775807) := by omega
        rcases q11 with q11 | q11 | q11 | q11 | q11
        ·
          exact case30 (σ := (sg n0 n1 n2 n3)) hL (kn q1 q2 q9 q11) TabOk.nil (hvv n0 n1 n2 n3)
        ·
          exact case31 (σ := (sg n0 n1 n2 n3)) hL (kn q1 q2 q9 q11) TabOk.nil (hvv n0 n1 n2 n3)
        ·
          exact case32 (σ := (sg n0 n1 n2 n3)) hL (kn q1 q2 q9 q11) TabOk.nil (hvv n0 n1 n2 n3)
        ·
          exact case33 (σ := (sg n0 n1 n2 n3)) hL (kn q1 q2 q9 q11) TabOk.nil (hvv n0 n1 n2 n3)
        ·
          exact case34 (σ := (sg n0 n1 n2 n3)) hL (kn q1 q2 q9 q11) TabOk.nil (hvv n0 n1 n2 n3)
      ·
        have q12 : ((-9223372036854775808) ≤ n3 ∧ n3 ≤ (-1)) ∨ (0 ≤ n3 ∧ n3 ≤ 0) ∨ (1 ≤ n3 ∧ n3 ≤ 11) ∨ (12 ≤ n3 ∧ n3 ≤ 4095) ∨ (4096 ≤ n3 ∧ n3 ≤ 9223372036854775807) := by omega
        rcases q12 with q12 | q12 | q12 | q12 | q12
        ·
          exact case35 (σ := (sg n0 n1 n2 n3)) hL (kn q1 q2 q9 q12) TabOk.nil (hvv n0 n1 n2 n3)
        ·
          exact case36 (σ := (sg n0 n1 n2 n3)) hL (kn q1 q2 q9 q12) TabOk.nil (hvv n0 n1 n2 n3)
        ·
          exact case37 (σ := (sg n0 n1 n2 n3)) hL (kn q1 q2 q9 q12) TabOk.nil (hvv n0 n1 n2 n3)
        ·
          exact case38 (σ := (sg n0 n1 n2 n3)) hL (kn q1 q2 q9 q12) TabOk.nil (hvv n0 n1 n2 n3)
        ·
          exact case39 (σ := (sg n0 n1 n2 n3)) hL (kn q1 q2 q9 q12) TabOk.nil (hvv n0 n1 n2 n3)
      ·
        have q13 : ((-9223372036854775808) ≤ n3 ∧ n3 ≤ (-1)) ∨ (0 ≤ n3 ∧ n3 ≤ 0) ∨ (1 ≤ n3 ∧ n3 ≤ 11) ∨ (12 ≤ n3 ∧ n3 ≤ 4095) ∨ (4096 ≤ n3 ∧ n3 ≤ 9223372036854775807) := by omega
        rcases q13 with q13 | q13 | q13 | q13 | q13
        ·
          exact case40 (σ := (sg n0 n1 n2 n3)) hL (kn q1 q2 q9 q13) TabOk.nil (hvv n0 n1 n2 n3)
        ·
          exact case41 (σ := (sg n0 n1 n2 n3)) hL (kn q1 q2 q9 q13) TabOk.nil (hvv n0 n1 n2 n3)
        ·
          exact case42 (σ := (sg n0 n1 n2 n3)) hL (kn q1 q2 q9 q13) TabOk.nil (hvv n0 n1 n2 n3)
        ·
          exact case43 (σ := (sg n0 n1 n2 n3)) hL (kn q1 q2 q9 q13) TabOk.nil (hvv n0 n1 n2 n3)
        ·
          exact case44 (σ := (sg n0 n1 n2 n3)) hL (kn q1 q2 q9 q13) TabOk.nil (hvv n0 n1 n2 n3)
      ·
        have q14 : ((-9223372036854775808) ≤ n3 ∧ n3 ≤ (-1)) ∨ (0 ≤ n3 ∧ n3 ≤ 0) ∨ (1 ≤ n3 ∧ n3 ≤ 11) ∨ (12 ≤ n3 ∧ n3 ≤ 4095) ∨ (4096 ≤ n3 ∧ n3 ≤ 9223372036854775807) := by omega
        rcases q14 with q14 | q14 | q14 | q14 | q14
        ·
          exact case45 (σ := (sg n0 n1 n2 n3)) hL (kn q1 q2 q9 q14) TabOk.nil (hvv n0 n1 n2 n3)
        ·
          exact case46 (σ := (sg n0 n1 n2 n3)) hL (kn q1 q2 q9 q14) TabOk.nil (hvv n0 n1 n2 n3)
        ·
          exact case47 (σ := (sg n0 n1 n2 n3)) hL (kn q1 q2 q9 q14) TabOk.nil (hvv n0 n1 n2 n3)
        ·
          exact case48 (σ := (sg n0 n1 n2 n3)) hL (kn q1 q2 q9 q14) TabOk.nil (hvv n0 n1 n2 n3)
        ·
          exact case49 (σ := (sg n0 n1 n2 n3)) hL (kn q1 q2 q9 q14) TabOk.nil (hvv n0 n1 n2 n3)
    ·
      have q15 : ((-9223372036854775808) ≤ n2 ∧ n2 ≤ (-1)) ∨ (0 ≤ n2 ∧ n2 ≤ 0) ∨ (1 ≤ n2 ∧ n2 ≤ 7) ∨ (8 ≤ n2 ∧ n2 ≤ 15) ∨ (16 ≤ n2 ∧ n2 ≤ 9223372036854775807) := by omega
      rcases q15 with q15 | q15 | q15 | q15 | q15
      ·
        have q16 : ((-9223372036854775808) ≤ n3 ∧ n3 ≤ (-1)) ∨ (0 ≤ n3 ∧ n3 ≤ 0) ∨ (1 ≤ n3 ∧ n3 ≤ 11) ∨ (12 ≤ n3 ∧ n3 ≤ 4095) ∨ (4096 ≤ n3 ∧ n3 ≤ 9223372036854775807) := by omega
        rcases q16 with q16 | q16 | q16 | q16 | q16
        ·
          exact case50 (σ := (sg n0 n1 n2 n3)) hL (kn q1 q2 q15 q16) TabOk.nil (hvv n0 n1 n2 n3)
        ·
          exact case51 (σ := (sg n0 n1 n2 n3)) hL (kn q1 q2 q15 q16) TabOk.nil (hvv n0 n1 n2 n3)
        ·
          exact case52 (σ := (sg n0 n1 n2 n3)) hL (kn q1 q2 q15 q16) TabOk.nil (hvv n0 n1 n2 n3)
        ·
          exact case53 (σ := (sg n0 n1 n2 n3)) hL (kn q1 q2 q15 q16) TabOk.nil (hvv n0 n1 n2 n3)
        ·
          exact case54 (σ := (sg n0 n1 n2 n3)) hL (kn q1 q2 q15 q16) TabOk.nil (hvv n0 n1 n2 n3)
      ·
        have q17 : ((-9223372036854775808) ≤ n3 ∧ n3 ≤ (-1)) ∨ (0 ≤ n3 ∧ n3 ≤ 0) ∨ (1 ≤ n3 ∧ n3 ≤ 11) ∨ (12 ≤ n3 ∧ n3 ≤ 4095) ∨ (4096 ≤ n3 ∧ n3 ≤ 9223372036854775807) := by omega
        rcases q17 with q17 | q17 | q17 | q17 | q17
        ·
          exact case55 (σ := (sg n0 n1 n2 n3)) hL (kn q1 q2 q15 q17) TabOk.nil (hvv n0 n1 n2 n3)
        ·
          exact case56 (σ := (sg n0 n1 n2 n3)) hL (kn q1 q2 q15 q17) TabOk.nil (hvv n0 n1 n2 n3)
        ·
          exact case57 (σ := (sg n0 n1 n2 n3)) hL (kn q1 q2 q15 q17) TabOk.nil (hvv n0 n1 n2 n3)
        ·
          exact case58 (σ := (sg n0 n1 n2 n3)) hL (kn q1 q2 q15 q17) TabOk.nil (hvv n0 n1 n2 n3)
        ·
          exact case59 (σ := (sg n0 n1 n2 n3)) hL (kn q1 q2 q15 q17) TabOk.nil (hvv n0 n1 n2 n3)
      ·
        have q18 : ((-9223372036854775808) ≤ n3 ∧ n3 ≤ (-1)) ∨ (0 ≤ n3 ∧ n3 ≤ 0) ∨ (1 ≤ n3 ∧ n3 ≤ 11) ∨ (12 ≤ n3 ∧ n3 ≤ 4095) ∨ (4096 ≤ n3 ∧ n3 ≤ 9223372036854775807) := by omega
        rcases q18 with q18 | q18 | q18 | q18 | q18
        ·
          exact case60 (σ := (sg n0 n1 n2 n3)) hL (kn q1 q2 q15 q18) TabOk.nil (hvv n0 n1 n2 n3)
        ·
          exact case61 (σ := (sg n0 n1 n2 n3)) hL (kn q1 q2 q15 q18) TabOk.nil (hvv n0 n1 n2 n3)
        ·
          exact case62 (σ := (sg n0 n1 n2 n3)) hL (kn q1 q2 q15 q18) TabOk.nil (hvv n0 n1 n2 n3)
        ·
          exact case63 (σ := (sg n0 n1 n2 n3)) hL (kn q1 q2 q15 q18) TabOk.nil (hvv n0 n1 n2 n3)
        ·
          exact case64 (σ := (sg n0 n1 n2 n3)) hL (kn q1 q2 q15 q18) TabOk.nil (hvv n0 n1 n2 n3)
      ·
        have q19 : ((-9223372036854775808) ≤ n3 ∧ n3 ≤ (-1)) ∨ (0 ≤ n3 ∧ n3 ≤ 0) ∨ (1 ≤ n3 ∧ n3 ≤ 11) ∨ (12 ≤ n3 ∧ n3 ≤ 4095) ∨ (4096 ≤ n3 ∧ n3 ≤ 9223372036854775807) := by omega
        rcases q19 with q19 | q19 | q19 | q19 | q19
        ·
          exact case65 (σ := (sg n0 n1 n2 n3)) hL (kn q1 q2 q15 q19) TabOk.nil (hvv n0 n1 n2 n3)
        ·
          exact case66 (σ := (sg n0 n1 n2 n3)) hL (kn q1 q2 q15 q19) TabOk.nil (hvv n0 n1 n2 n3)
        ·
          exact case67 (σ := (sg n0 n1 n2 n3)) hL (kn q1 q2 q15 q19) TabOk.nil (hvv n0 n1 n2 n3)
        ·
          exact case68 (σ := (sg n0 n1 n2 n3)) hL (kn q1 q2 q15 q19) TabOk.nil (hvv n0 n1 n2 n3)
        ·
          exact case69 (σ := (sg n0 n1 n2 n3)) hL (kn q1 q2 q15 q19) TabOk.nil (hvv n0 n1 n2 n3)
      ·
        have q20 : ((-9223372036854775808) ≤ n3 ∧ n3 ≤ (-1)) ∨ (0 ≤ n3 ∧ n3 ≤ 0) ∨ (1 ≤ n3 ∧ n3 ≤ 11) ∨ (12 ≤ n3 ∧ n3 ≤ 4095) ∨ (4096 ≤ n3 ∧ n3 ≤ 9223372036854775807) := by omega
        rcases q20 with q20 | q20 | q20 | q20 | q20
        ·
          exact case70 (σ := (sg n0 n1 n2 n3)) hL (kn q1 q2 q15 q20) TabOk.nil (hvv n0 n1 n2 n3)
        ·
          exact case71 (σ := (sg n0 n1 n2 n3)) hL (kn q1 q2 q15 q20) TabOk.nil (hvv n0 n1 n2 n3)
        ·
          exact case72 (σ := (sg n0 n1 n2 n3)) hL (kn q1 q2 q15 q20) TabOk.nil (hvv n0 n1 n2 n3)
        ·
          exact case73 (σ := (sg n0 n1 n2 n3)) hL (kn q1 q2 q15 q20) TabOk.nil (hvv n0 n1 n2 n3)
        ·
          exact case74 (σ := (sg n0 n1 n2 n3)) hL (kn q1 q2 q15 q20) TabOk.nil (hvv n0 n1 n2 n3)
    ·
      have q21 : ((-9223372036854775808) ≤ n2 ∧ n2 ≤ (-1)) ∨ (0 ≤ n2 ∧ n2 ≤ 0) ∨ (1 ≤ n2 ∧ n2 ≤ 7) ∨ (8 ≤ n2 ∧ n2 ≤ 15) ∨ (16 ≤ n2 ∧ n2 ≤ 9223372036854775807) := by omega
      rcases q21 with q21 | q21 | q21 | q21 | q21
      ·
        have q22 : ((-9223372036854775808) ≤ n3 ∧ n3 ≤ (-1)) ∨ (0 ≤ n3 ∧ n3 ≤ 0) ∨ (1 ≤ n3 ∧ n3 ≤ 11) ∨ (12 ≤ n3 ∧ n3 ≤ 4095) ∨ (4096 ≤ n3 ∧ n3 ≤ 9223372036854775807) := by omega
        rcases q22 with q22 | q22 | q22 | q22 | q22
        ·
          exact case75 (σ := (sg n0 n1 n2 n3)) hL (kn q1 q2 q21 q22) TabOk.nil (hvv n0 n1 n2 n3)
        ·
          exact case76 (σ := (sg n0 n1 n2 n3)) hL (kn q1 q2 q21 q22) TabOk.nil (hvv n0 n1 n2 n3)
        ·
          exact case77 (σ := (sg n0 n1 n2 n3)) hL (kn q1 q2 q21 q22) TabOk.nil (hvv n0 n1 n2 n3)
        ·
          exact case78 (σ := (sg n0 n1 n2 n3)) hL (kn q1 q2 q21 q22) TabOk.nil (hvv n0 n1 n2 n3)
        ·
          exact case79 (σ := (sg n0 n1 n2 n3)) hL (kn q1 q2 q21 q22) TabOk.nil (hvv n0 n1 n2 n3)
      ·
        have q23 : ((-9223372036854775808) ≤ n3 ∧ n3 ≤ (-1)) ∨ (0 ≤ n3 ∧ n3 ≤ 0) ∨ (1 ≤ n3 ∧ n3 ≤ 11) ∨ (12 ≤ n3 ∧ n3 ≤ 4095) ∨ (4096 ≤ n3 ∧ n3 ≤ 9223372036854775807) := by omega
        rcases q23 with q23 | q23 | q23 | q23 | q23
        ·
          exact case80 (σ := (sg n0 n1 n2 n3)) hL (kn q1 q2 q21 q23) TabOk.nil (hvv n0 n1 n2 n3)
        ·
          exact case81 (σ := (sg n0 n1 n2 n3)) hL (kn q1 q2 q21 q23) TabOk.nil (hvv n0 n1 n2 n3)
        ·
          exact case82 (σ := (sg n0 n1 n2 n3)) hL (kn q1 q2 q21 q23) TabOk.nil (hvv n0 n1 n2 n3)
        ·
          exact case83 (σ := (sg n0 n1 n2 n3)) hL (kn q1 q2 q21 q23) TabOk.nil (hvv n0 n1 n2 n3)
        ·
          exact case84 (σ := (sg n0 n1 n2 n3)) hL (kn q1 q2 q21 q23) TabOk.nil (hvv n0 n1 n2 n3)
      ·
        have q24 : ((-9223372036854775808) ≤ n3 ∧ n3 ≤ (-1)) ∨ (0 ≤ n3 ∧ n3 ≤ 0) ∨ (1 ≤ n3 ∧ n3 ≤ 11) ∨ (12 ≤ n3 ∧ n3 ≤ 4095) ∨ (4096 ≤ n3 ∧ n3 ≤ 9223372036854775807) := by omega
        rcases q24 with q24 | q24 | q24 | q24 | q24
        ·
          exact case85 (σ := (sg n0 n1 n2 n3)) hL (kn q1 q2 q21 q24) TabOk.nil (hvv n0 n1 n2 n3)
        ·
          exact case86 (σ := (sg n0 n1 n2 n3)) hL (kn q1 q2 q21 q24) TabOk.nil (hvv n0 n1 n2 n3)
        ·
          exact case87 (σ := (sg n0 n1 n2 n3)) hL (kn q1 q2 q21 q24) TabOk.nil (hvv n0 n1 n2 n3)
        ·
          exact case88 (σ := (sg n0 n1 n2 n3)) hL (kn q1 q2 q21 q24) TabOk.nil (hvv n0 n1 n2 n3)
        ·
          exact case89 (σ := (sg n0 n1 n2 n3)) hL (kn q1 q2 q21 q24) TabOk.nil (hvv n0 n1 n2 n3)
      ·
        have q25 : ((-9223372036854775808) ≤ n3 ∧ n3 ≤ (-1)) ∨ (0 ≤ n3 ∧ n3 ≤ 0) ∨ (1 ≤ n3 ∧ n3 ≤ 11) ∨ (12 ≤ n3 ∧ n3 ≤ 4095) ∨ (4096 ≤ n3 ∧ n3 ≤ 9223372036854775807) := by omega
        rcases q25 with q25 | q25 | q25 | q25 | q25
        ·
          exact case90 (σ := (sg n0 n1 n2 n3)) hL (kn q1 q2 q21 q25) TabOk.nil (hvv n0 n1 n2 n3)
        ·
          exact case91 (σ := (sg n0 n1 n2 n3)) hL (kn q1 q2 q21 q25) TabOk.nil (hvv n0 n1 n2 n3)
        ·
          exact case92 (σ := (sg n0 n1 n2 n3)) hL (kn q1 q2 q21 q25) TabOk.nil (hvv n0 n1 n2 n3)
        ·
          exact case93 (σ := (sg n0 n1 n2 n3)) hL (kn q1 q2 q21 q25) TabOk.nil (hvv n0 n1 n2 n3)
        ·
          exact case94 (σ := (sg n0 n1 n2 n3)) hL (kn q1 q2 q21 q25) TabOk.nil (hvv n0 n1 n2 n3)
      ·
        have q26 : ((-9223372036854775808) ≤ n3 ∧ n3 ≤ (-1)) ∨ (0 ≤ n3 ∧ n3 ≤ 0) ∨ (1 ≤ n3 ∧ n3 ≤ 11) ∨ (12 ≤ n3 ∧ n3 ≤ 4095) ∨ (4096 ≤ n3 ∧ n3 ≤ 9223372036854775807) := by omega
        rcases q26 with q26 | q26 | q26 | q26 | q26
        ·
          exact case95 (σ := (sg n0 n1 n2 n3)) hL (kn q1 q2 q21 q26) TabOk.nil (hvv n0 n1 n2 n3)
        ·
          exact case96 (σ := (sg n0 n1 n2 n3)) hL (kn q1 q2 q21 q26) TabOk.nil (hvv n0 n1 n2 n3)
        ·
          exact case97 (σ := (sg n0 n1 n2 n3)) hL (kn q1 q2 q21 q26) TabOk.nil (hvv n0 n1 n2 n3)
        ·
          exact case98 (σ := (sg n0 n1 n2 n3)) hL (kn q1 q2 q21 q26) TabOk.nil (hvv n0 n1 n2 n3)
        ·
          exact case99 (σ := (sg n0 n1 n2 n3)) hL (kn q1 q2 q21 q26) TabOk.nil (hvv n0 n1 n2 n3)
    ·
      have q27 : ((-9223372036854775808) ≤ n2 ∧ n2 ≤ (-1)) ∨ (0 ≤ n2 ∧ n2 ≤ 0) ∨ (1 ≤ n2 ∧ n2 ≤ 7) ∨ (8 ≤ n2 ∧ n2 ≤ 15) ∨ (16 ≤ n2 ∧ n2 ≤ 9223372036854775807) := by omega
      rcases q27 with q27 | q27 | q27 | q27 | q27
      ·
        have q28 : ((-9223372036854775808) ≤ n3 ∧ n3 ≤ (-1)) ∨ (0 ≤ n3 ∧ n3 ≤ 0) ∨ (1 ≤ n3 ∧ n3 ≤ 11) ∨ (12 ≤ n3 ∧ n3 ≤ 4095) ∨ (4096 ≤ n3 ∧ n3 ≤ 9223372036854775807) := by omega
        rcases q28 with q28 | q28 | q28 | q28 | q28
        ·
          exact case100 (σ := (sg n0 n1 n2 n3)) hL (kn q1 q2 q27 q28) TabOk.nil (hvv n0 n1 n2 n3)
        ·
          exact case101 (σ := (sg n0 n1 n2 n3)) hL (kn q1 q2 q27 q28) TabOk.nil (hvv n0 n1 n2 n3)
        ·
          exact case102 (σ := (sg n0 n1 n2 n3)) hL (kn q1 q2 q27 q28) TabOk.nil (hvv n0 n1 n2 n3)
        ·
          exact case103 (σ := (sg n0 n1 n2 n3)) hL (kn q1 q2 q27 q28) TabOk.nil (hvv n0 n1 n2 n3)
        ·
          exact case104 (σ := (sg n0 n1 n2 n3)) hL (kn q1 q2 q27 q28) TabOk.nil (hvv n0 n1 n2 n3)
      ·
        have q29 : ((-9223372036854775808) ≤ n3 ∧ n3 ≤ (-1)) ∨ (0 ≤ n3 ∧ n3 ≤ 0) ∨ (1 ≤ n3 ∧ n3 ≤ 11) ∨ (12 ≤ n3 ∧ n3 ≤ 4095) ∨ (4096 ≤ n3 ∧ n3 ≤ 9223372036854775807) := by omega
        rcases q29 with q29 | q29 | q29 | q29 | q29
        ·
          exact case105 (σ := (sg n0 n1 n2 n3)) hL (kn q1 q2 q27 q29) TabOk.nil (hvv n0 n1 n2 n3)
        ·
          exact case106 (σ := (sg n0 n1 n2 n3)) hL (kn q1 q2 q27 q29) TabOk.nil (hvv n0 n1 n2 n3)
        ·
          exact case107 (σ := (sg n0 n1 n2 n3)) hL (kn q1 q2 q27 q29) TabOk.nil (hvv n0 n1 n2 n3)
        ·
          exact case108 (σ := (sg n0 n1 n2 n3)) hL (kn q1 q2 q27 q29) TabOk.nil (hvv n0 n1 n2 n3)
        ·
          exact case109 (σ := (sg n0 n1 n2 n3)) hL (kn q1 q2 q27 q29) TabOk.nil (hvv n0 n1 n2 n3)
      ·
        have q30 : ((-9223372036854775808) ≤ n3 ∧ n3 ≤ (-1)) ∨ (0 ≤ n3 ∧ n3 ≤ 0) ∨ (1 ≤ n3 ∧ n3 ≤ 11) ∨ (12 ≤ n3 ∧ n3 ≤ 4095) ∨ (4096 ≤ n3 ∧ n3 ≤ 9223372036854775807) := by omega
        rcases q30 with q30 | q30 | q30 | q30 | q30
        ·
          exact case110 (σ := (sg n0 n1 n2 n3)) hL (kn q1 q2 q27 q30) TabOk.nil (hvv n0 n1 n2 n3)
        ·
          exact case111 (σ := (sg n0 n1 n2 n3)) hL (kn q1 q2 q27 q30) TabOk.nil (hvv n0 n1 n2 n3)
        ·
          exact case112 (σ := (sg n0 n1 n2 n3)) hL (kn q1 q2 q27 q30) TabOk.nil (hvv n0 n1 n2 n3)
        ·
          exact case113 (σ := (sg n0 n1 n2 n3)) hL (kn q1 q2 q27 q30) TabOk.nil (hvv n0 n1 n2 n3)
        ·
          exact case114 (σ := (sg n0 n1 n2 n3)) hL (kn q1 q2 q27 q30) TabOk.nil (hvv n0 n1 n2 n3)
      ·
        have q31 : ((-9223372036854775808) ≤ n3 ∧ n3 ≤ (-1)) ∨ (0 ≤ n3 ∧ n3 ≤ 0) ∨ (1 ≤ n3 ∧ n3 ≤ 11) ∨ (12 ≤ n3 ∧ n3 ≤ 4095) ∨ (4096 ≤ n3 ∧ n3 ≤ 9223372036854775807) := by omega
        rcases q31 with q31 | q31 | q31 | q31 | q31
        ·
          exact case115 (σ := (sg n0 n1 n2 n3)) hL (kn q1 q2 q27 q31) TabOk.nil (hvv n0 n1 n2 n3)
        ·
          exact case116 (σ := (sg n0 n1 n2 n3)) hL (kn q1 q2 q27 q31) TabOk.nil (hvv n0 n1 n2 n3)
        ·
          exact case117 (σ := (sg n0 n1 n2 n3)) hL (kn q1 q2 q27 q31) TabOk.nil (hvv n0 n1 n2 n3)
        ·
          exact case118 (σ := (sg n0 n1 n2 n3)) hL (kn q1 q2 q27 q31) TabOk.nil (hvv n0 n1 n2 n3)
        ·
          exact case119 (σ := (sg n0 n1 n2 n3)) hL (kn q1 q2 q27 q31) TabOk.nil (hvv n0 n1 n2 n3)
      ·
        have q32 : ((-9223372036854775808) ≤ n3 ∧ n3 ≤ (-1)) ∨ (0 ≤ n3 ∧ n3 ≤ 0) ∨ (1 ≤ n3 ∧ n3 ≤ 11) ∨ (12 ≤ n3 ∧ n3 ≤ 4095) ∨ (4096 ≤ n3 ∧ n3 ≤ 9223372036854775807) := by omega
        rcases q32 with q32 | q32 | q32 | q32 | q32
        ·
          exact case120 (σ := (sg n0 n1 n2 n3)) hL (kn q1 q2 q27 q32) TabOk.nil (hvv n0 n1 n2 n3)
        ·
          exact case121 (σ := (sg n0 n1 n2 n3)) hL (kn q1 q2 q27 q32) TabOk.nil (hvv n0 n1 n2 n3)
        ·
          exact case122 (σ := (sg n0 n1 n2 n3)) hL (kn q1 q2 q27 q32) TabOk.nil (hvv n0 n1 n2 n3)
        ·
          exact case123 (σ := (sg n0 n1 n2 n3)) hL (kn q1 q2 q27 q32) TabOk.nil (hvv n0 n1 n2 n3)
        ·
          exact case124 (σ := (sg n0 n1 n2 n3)) hL (kn q1 q2 q27 q32) TabOk.nil (hvv n0 n1 n2 n3)
  ·
    have q33 : ((-9223372036854775808) ≤ n1 ∧ n1 ≤ (-1)) ∨ (0 ≤ n1 ∧ n1 ≤ 0) ∨ (1 ≤ n1 ∧ n1 ≤ 7) ∨ (8 ≤ n1 ∧ n1 ≤ 15) ∨ (16 ≤ n1 ∧ n1 ≤ 9223372036854775807) := by omega
    rcases q33 with q33 | q33 | q33 | q33 | q33
    ·
      have q34 : ((-9223372036854775808) ≤ n2 ∧ n2 ≤ (-1)) ∨ (0 ≤ n2 ∧ n2 ≤ 0) ∨ (1 ≤ n2 ∧ n2 ≤ 7) ∨ (8 ≤ n2 ∧ n2 ≤ 15) ∨ (16 ≤ n2 ∧ n2 ≤ 9223372036854775807) := by omega
      rcases q34 with q34 | q34 | q34 | q34 | q34
      ·
        have q35 : ((-9223372036854775808) ≤ n3 ∧ n3 ≤ (-1)) ∨ (0 ≤ n3 ∧ n3 ≤ 0) ∨ (1 ≤ n3 ∧ n3 ≤ 11) ∨ (12 ≤ n3 ∧ n3 ≤ 4095) ∨ (4096 ≤ n3 ∧ n3 ≤ 9223372036854775807) := by omega
        rcases q35 with q35 | q35 | q35 | q35 | q35
        ·
          exact case125 (σ := (sg n0 n1 n2 n3)) hL (kn q1 q33 q34 q35) TabOk.nil (hvv n0 n1 n2 n3)
        ·
          exact case126 (σ := (sg n0 n1 n2 n3)) hL (kn q1 q33 q34 q35) TabOk.nil (hvv n0 n1 n2 n3)
        ·
          exact case127 (σ := (sg n0 n1 n2 n3)) hL (kn q1 q33 q34 q35) TabOk.nil (hvv n0 n1 n2 n3)
        ·
          exact case128 (σ := (sg n0 n1 n2 n3)) hL (kn q1 q33 q34 q35) TabOk.nil (hvv n0 n1 n2 n3)
        ·
          exact case129 (σ := (sg n0 n1 n2 n3)) hL (kn q1 q33 q34 q35) TabOk.nil (hvv n0 n1 n2 n3)
      ·
        have q36 : ((-9223372036854775808) ≤ n3 ∧ n3 ≤ (-1)) ∨ (0 ≤ n3 ∧ n3 ≤ 0) ∨ (1 ≤ n3 ∧ n3 ≤ 11) ∨ (12 ≤ n3 ∧ n3 ≤ 4095) ∨ (4096 ≤ n3 ∧ n3 ≤ 9223372036854775807) := by omega
        rcases q36 with q36 | q36 | q36 | q36 | q36
        ·
          exact case130 (σ := (sg n0 n1 n2 n3)) hL (kn q1 q33 q34 q36) TabOk.nil (hvv n0 n1 n2 n3)
        ·
          exact case131 (σ := (sg n0 n1 n2 n3)) hL (kn q1 q33 q34 q36) TabOk.nil (hvv n0 n1 n2 n3)
        ·
          exact case132 (σ := (sg n0 n1 n2 n3)) hL (kn q1 q33 q34 q36) TabOk.nil (hvv n0 n1 n2 n3)
        ·
          exact case133 (σ := (sg n0 n1 n2 n3)) hL (kn q1 q33 q34 q36) TabOk.nil (hvv n0 n1 n2 n3)
        ·
          exact case134 (σ := (sg n0 n1 n2 n3)) hL (kn q1 q33 q34 q36) TabOk.nil (hvv n0 n1 n2 n3)
      ·
        have q37 : ((-9223372036854775808) ≤ n3 ∧ n3 ≤ (-1)) ∨ (0 ≤ n3 ∧ n3 ≤ 0) ∨ (1 ≤ n3 ∧ n3 ≤ 11) ∨ (12 ≤ n3 ∧ n3 ≤ 4095) ∨ (4096 ≤ n3 ∧ n3 ≤ 9223372036854775807) := by omega
        rcases q37 with q37 | q37 | q37 | q37 | q37
        ·
          exact case135 (σ := (sg n0 n1 n2 n3)) hL (kn q1 q33 q34 q37) TabOk.nil (hvv n0 n1 n2 n3)
        ·
          exact case136 (σ := (sg n0 n1 n2 n3)) hL (kn q1 q33 q34 q37) TabOk.nil (hvv n0 n1 n2 n3)
        ·
          exact case137 (σ := (sg n0 n1 n2 n3)) hL (kn q1 q33 q34 q37) TabOk.nil (hvv n0 n1 n2 n3)
        ·
          exact case138 (σ := (sg n0 n1 n2 n3)) hL (kn q1 q33 q34 q37) TabOk.nil (hvv n0 n1 n2 n3)
        ·
          exact case139 (σ := (sg n0 n1 n2 n3)) hL (kn q1 q33 q34 q37) TabOk.nil (hvv n0 n1 n2 n3)
      ·
        have q38 : ((-9223372036854775808) ≤ n3 ∧ n3 ≤ (-1)) ∨ (0 ≤ n3 ∧ n3 ≤ 0) ∨ (1 ≤ n3 ∧ n3 ≤ 11) ∨ (12 ≤ n3 ∧ n3 ≤ 4095) ∨ (4096 ≤ n3 ∧ n3 ≤ 9223372036854775807) := by omega
        rcases q38 with q38 | q38 | q38 | q38 | q38
        ·
          exact case140 (σ := (sg n0 n1 n2 n3)) hL (kn q1 q33 q34 q38) TabOk.nil (hvv n0 n1 n2 n3)
        ·
          exact case141 (σ := (sg n0 n1 n2 n3)) hL (kn q1 q33 q34 q38) TabOk.nil (hvv n0 n1 n2 n3)
        ·
          exact case142 (σ := (sg n0 n1 n2 n3)) hL (kn q1 q33 q34 q38) TabOk.nil (hvv n0 n1 n2 n3)
        ·
          exact case143 (σ := (sg n0 n1 n2 n3)) hL (kn q1 q33 q34 q38) TabOk.nil (hvv n0 n1 n2 n3)
        ·
          exact case144 (σ := (sg n0 n1 n2 n3)) hL (kn q1 q33 q34 q38) TabOk.nil (hvv n0 n1 n2 n3)
      ·
        have q39 : ((-9223372036854775808) ≤ n3 ∧ n3 ≤ (-1)) ∨ (0 ≤ n3 ∧ n3 ≤ 0) ∨ (1 ≤ n3 ∧ n3 ≤ 11) ∨ (12 ≤ n3 ∧ n3 ≤ 4095) ∨ (4096 ≤ n3 ∧ n3 ≤ 9223372036854775807) := by omega
        rcases q39 with q39 | q39 | q39 | q39 | q39
        ·
          exact case145 (σ := (sg n0 n1 n2 n3)) hL (kn q1 q33 q34 q39) TabOk.nil (hvv n0 n1 n2 n3)
        ·
          exact case146 (σ := (sg n0 n1 n2 n3)) hL (kn q1 q33 q34 q39) TabOk.nil (hvv n0 n1 n2 n3)
        ·
          exact case147 (σ := (sg n0 n1 n2 n3)) hL (kn q1 q33 q34 q39) TabOk.nil (hvv n0 n1 n2 n3)
        ·
          exact case148 (σ := (sg n0 n1 n2 n3)) hL (kn q1 q33 q34 q39) TabOk.nil (hvv n0 n1 n2 n3)
        ·
          exact case149 (σ := (sg n0 n1 n2 n3)) hL (kn q1 q33 q34 q39) TabOk.nil (hvv n0 n1 n2 n3)
    ·
      have q40 : ((-9223372036854775808) ≤ n2 ∧ n2 ≤ (-1)) ∨ (0 ≤ n2 ∧ n2 ≤ 0) ∨ (1 ≤ n2 ∧ n2 ≤ 7) ∨ (8 ≤ n2 ∧ n2 ≤ 15) ∨ (16 ≤ n2 ∧ n2 ≤ 9223372036854775807) := by omega
      rcases q40 with q40 | q40 | q40 | q40 | q40
      ·
        have q41 : ((-9223372036854775808) ≤ n3 ∧ n3 ≤ (-1)) ∨ (0 ≤ n3 ∧ n3 ≤ 0) ∨ (1 ≤ n3 ∧ n3 ≤ 11) ∨ (12 ≤ n3 ∧ n3 ≤ 4095) ∨ (4096 ≤ n3 ∧ n3 ≤ 9223372036854775807) := by omega
        rcases q41 with q41 | q41 | q41 | q41 | q41
        ·
          exact case150 (σ := (sg n0 n1 n2 n3)) hL (kn q1 q33 q40 q41) TabOk.nil (hvv n0 n1 n2 n3)
        ·
          exact case151 (σ := (sg n0 n1 n2 n3)) hL (kn q1 q33 q40 q41) TabOk.nil (hvv n0 n1 n2 n3)
        ·
          exact case152 (σ := (sg n0 n1 n2 n3)) hL (kn q1 q33 q40 q41) TabOk.nil (hvv n0 n1 n2 n3)
        ·
          exact case153 (σ := (sg n0 n1 n2 n3)) hL (kn q1 q33 q40 q41) TabOk.nil (hvv n0 n1 n2 n3)
        ·
          exact case154 (σ := (sg n0 n1 n2 n3)) hL (kn q1 q33 q40 q41) TabOk.nil (hvv n0 n1 n2 n3)
      ·
        have q42 : ((-9223372036854775808) ≤ n3 ∧ n3 ≤ (-1)) ∨ (0 ≤ n3 ∧ n3 ≤ 0) ∨ (1 ≤ n3 ∧ n3 ≤ 11) ∨ (12 ≤ n3 ∧ n3 ≤ 4095) ∨ (4096 ≤ n3 ∧ n3 ≤ 9223372036854775807) := by omega
        rcases q42 with q42 | q42 | q42 | q42 | q42
        ·
          exact case155 (σ := (sg n0 n1 n2 n3)) hL (kn q1 q33 q40 q42) TabOk.nil (hvv n0 n1 n2 n3)
        ·
          exact case156 (σ := (sg n0 n1 n2 n3)) hL (kn q1 q33 q40 q42) TabOk.nil (hvv n0 n1 n2 n3)
        ·
          exact case157 (σ := (sg n0 n1 n2 n3)) hL (kn q1 q33 q40 q42) TabOk.nil (hvv n0 n1 n2 n3)
        ·
          exact case158 (σ := (sg n0 n1 n2 n3)) hL (kn q1 q33 q40 q42) TabOk.nil (hvv n0 n1 n2 n3)
        ·
          exact case159 (σ := (sg n0 n1 n2 n3)) hL (kn q1 q33 q40 q42) TabOk.nil (hvv n0 n1 n2 n3)
      ·
        have q43 : ((-9223372036854775808) ≤ n3 ∧ n3 ≤ (-1)) ∨ (0 ≤ n3 ∧ n3 ≤ 0) ∨ (1 ≤ n3 ∧ n3 ≤ 11) ∨ (12 ≤ n3 ∧ n3 ≤ 4095) ∨ (4096 ≤ n3 ∧ n3 ≤ 9223372036854775807) := by omega
        rcases q43 with q43 | q43 | q43 | q43 | q43
        ·
          exact case160 (σ := (sg n0 n1 n2 n3)) hL (kn q1 q33 q40 q43) TabOk.nil (hvv n0 n1 n2 n3)
        ·
          exact case161 (σ := (sg n0 n1 n2 n3)) hL (kn q1 q33 q40 q43) TabOk.nil (hvv n0 n1 n2 n3)
        ·
          exact case162 (σ := (sg n0 n1 n2 n3)) hL (kn q1 q33 q40 q43) TabOk.nil (hvv n0 n1 n2 n3)
        ·
          exact case163 (σ := (sg n0 n1 n2 n3)) hL (kn q1 q33 q40 q43) TabOk.nil (hvv n0 n1 n2 n3)
        ·
          exact case164 (σ := (sg n0 n1 n2 n3)) hL (kn q1 q33 q40 q43) TabOk.nil (hvv n0 n1 n2 n3)
      ·
        have q44 : ((-9223372036854775808) ≤ n3 ∧ n3 ≤ (-1)) ∨ (0 ≤ n3 ∧ n3 ≤ 0) ∨ (1 ≤ n3 ∧ n3 ≤ 11) ∨ (12 ≤ n3 ∧ n3 ≤ 4095) ∨ (4096 ≤ n3 ∧ n3 ≤ 9223372036854775807) := by omega
        rcases q44 with q44 | q44 | q44 | q44 | q44
        ·
          exact case165 (σ := (sg n0 n1 n2 n3)) hL (kn q1 q33 q40 q44) TabOk.nil (hvv n0 n1 n2 n3)
        ·
          exact case166 (σ := (sg n0 n1 n2 n3)) hL (kn q1 q33 q40 q44) TabOk.nil (hvv n0 n1 n2 n3)
        ·
          exact case167 (σ := (sg n0 n1 n2 n3)) hL (kn q1 q33 q40 q44) TabOk.nil (hvv n0 n1 n2 n3)
        ·
          exact case168 (σ := (sg n0 n1 n2 n3)) hL (kn q1 q33 q40 q44) TabOk.nil (hvv n0 n1 n2 n3)
        ·
          exact case169 (σ := (sg n0 n1 n2 n3)) hL (kn q1 q33 q40 q44) TabOk.nil (hvv n0 n1 n2 n3)
      ·
        have q45 : ((-9223372036854775808) ≤ n3 ∧ n3 ≤ (-1)) ∨ (0 ≤ n3 ∧ n3 ≤ 0) ∨ (1 ≤ n3 ∧ n3 ≤ 11) ∨ (12 ≤ n3 ∧ n3 ≤ 4095) ∨ (4096 ≤ n3 ∧ n3 ≤ 9223372036854775807) := by omega
        rcases q45 with q45 | q45 | q45 | q45 | q45
        ·
          exact case170 (σ := (sg n0 n1 n2 n3)) hL (kn q1 q33 q40 q45) TabOk.nil (hvv n0 n1 n2 n3)
        ·
          exact case171 (σ := (sg n0 n1 n2 n3)) hL (kn q1 q33 q40 q45) TabOk.nil (hvv n0 n1 n2 n3)
        ·
          exact case172 (σ := (sg n0 n1 n2 n3)) hL (kn q1 q33 q40 q45) TabOk.nil (hvv n0 n1 n2 n3)
        ·
          exact case173 (σ := (sg n0 n1 n2 n3)) hL (kn q1 q33 q40 q45) TabOk.nil (hvv n0 n1 n2 n3)
        ·
          exact case174 (σ := (sg n0 n1 n2 n3)) hL (kn q1 q33 q40 q45) TabOk.nil (hvv n0 n1 n2 n3)
    ·
      have q46 : ((-9223372036854775808) ≤ n2 ∧ n2 ≤ (-1)) ∨ (0 ≤ n2 ∧ n2 ≤ 0) ∨ (1 ≤ n2 ∧ n2 ≤ 7) ∨ (8 ≤ n2 ∧ n2 ≤ 15) ∨ (16 ≤ n2 ∧ n2 ≤ 9223372036854775807) := by omega
      rcases q46 with q46 | q46 | q46 | q46 | q46
      ·
        have q47 : ((-9223372036854775808) ≤ n3 ∧ n3 ≤ (-1)) ∨ (0 ≤ n3 ∧ n3 ≤ 0) ∨ (1 ≤ n3 ∧ n3 ≤ 11) ∨ (12 ≤ n3 ∧ n3 ≤ 4095) ∨ (4096 ≤ n3 ∧ n3 ≤ 9223372036854775807) := by omega
        rcases q47 with q47 | q47 | q47 | q47 | q47
        ·
          exact case175 (σ := (sg n0 n1 n2 n3)) hL (kn q1 q33 q46 q47) TabOk.nil (hvv n0 n1 n2 n3)
        ·
          exact case176 (σ := (sg n0 n1 n2 n3)) hL (kn q1 q33 q46 q47) TabOk.nil (hvv n0 n1 n2 n3)
        ·
          exact case177 (σ := (sg n0 n1 n2 n3)) hL (kn q1 q33 q46 q47) TabOk.nil (hvv n0 n1 n2 n3)
        ·
          exact case178 (σ := (sg n0 n1 n2 n3)) hL (kn q1 q33 q46 q47) TabOk.nil (hvv n0 n1 n2 n3)
        ·
          exact case179 (σ := (sg n0 n1 n2 n3)) hL (kn q1 q33 q46 q47) TabOk.nil (hvv n0 n1 n2 n3)
      ·
        have q48 : ((-9223372036854775808) ≤ n3 ∧ n3 ≤ (-1)) ∨ (0 ≤ n3 ∧ n3 ≤ 0) ∨ (1 ≤ n3 ∧ n3 ≤ 11) ∨ (12 ≤ n3 ∧ n3 ≤ 4095) ∨ (4096 ≤ n3 ∧ n3 ≤ 9223372036854775807) := by omega
        rcases q48 with q48 | q48 | q48 | q48 | q48
        ·
          exact case180 (σ := (sg n0 n1 n2 n3)) hL (kn q1 q33 q46 q48) TabOk.nil (hvv n0 n1 n2 n3)
        ·
          exact case181 (σ := (sg n0 n1 n2 n3)) hL (kn q1 q33 q46 q48) TabOk.nil (hvv n0 n1 n2 n3)
        ·
          exact case182 (σ := (sg n0 n1 n2 n3)) hL (kn q1 q33 q46 q48) TabOk.nil (hvv n0 n1 n2 n3)
        ·
          exact case183 (σ := (sg n0 n1 n2 n3)) hL (kn q1 q33 q46 q48) TabOk.nil (hvv n0 n1 n2 n3)
        ·
          exact case184 (σ := (sg n0 n1 n2 n3)) hL (kn q1 q33 q46 q48) TabOk.nil (hvv n0 n1 n2 n3)
      ·
        have q49 : ((-9223372036854775808) ≤ n3 ∧ n3 ≤ (-1)) ∨ (0 ≤ n3 ∧ n3 ≤ 0) ∨ (1 ≤ n3 ∧ n3 ≤ 11) ∨ (12 ≤ n3 ∧ n3 ≤ 4095) ∨ (4096 ≤ n3 ∧ n3 ≤ 9223372036854775807) := by omega
        rcases q49 with q49 | q49 | q49 | q49 | q49
        ·
          exact case185 (σ := (sg n0 n1 n2 n3)) hL (kn q1 q33 q46 q49) TabOk.nil (hvv n0 n1 n2 n3)
        ·
          exact case186 (σ := (sg n0 n1 n2 n3)) hL (kn q1 q33 q46 q49) TabOk.nil (hvv n0 n1 n2 n3)
        ·
          exact case187 (σ := (sg n0 n1 n2 n3)) hL (kn q1 q33 q46 q49) TabOk.nil (hvv n0 n1 n2 n3)
        ·
          exact case188 (σ := (sg n0 n1 n2 n3)) hL (kn q1 q33 q46 q49) TabOk.nil (hvv n0 n1 n2 n3)
        ·
          exact case189 (σ := (sg n0 n1 n2 n3)) hL (kn q1 q33 q46 q49) TabOk.nil (hvv n0 n1 n2 n3)
      ·
        have q50 : ((-9223372036854775808) ≤ n3 ∧ n3 ≤ (-1)) ∨ (0 ≤ n3 ∧ n3 ≤ 0) ∨ (1 ≤ n3 ∧ n3 ≤ 11) ∨ (12 ≤ n3 ∧ n3 ≤ 4095) ∨ (4096 ≤ n3 ∧ n3 ≤ 9223372036854775807) := by omega
        rcases q50 with q50 | q50 | q50 | q50 | q50
        ·
          exact case190 (σ := (sg n0 n1 n2 n3)) hL (kn q1 q33 q46 q50) TabOk.nil (hvv n0 n1 n2 n3)
        ·
          exact case191 (σ := (sg n0 n1 n2 n3)) hL (kn q1 q33 q46 q50) TabOk.nil (hvv n0 n1 n2 n3)
        ·
          exact case192 (σ := (sg n0 n1 n2 n3)) hL (kn q1 q33 q46 q50) TabOk.nil (hvv n0 n1 n2 n3)
        ·
          exact case193 (σ := (sg n0 n1 n2 n3)) hL (kn q1 q33 q46 q50) TabOk.nil (hvv n0 n1 n2 n3)
        ·
          exact case194 (σ := (sg n0 n1 n2 n3)) hL (kn q1 q33 q46 q50) TabOk.nil (hvv n0 n1 n2 n3)
      ·
        have q51 : ((-9223372036854775808) ≤ n3 ∧ n3 ≤ (-1)) ∨ (0 ≤ n3 ∧ n3 ≤ 0) ∨ (1 ≤ n3 ∧ n3 ≤ 11) ∨ (12 ≤ n3 ∧ n3 ≤ 4095) ∨ (4096 ≤ n3 ∧ n3 ≤ 9223372036854775807) := by omega
        rcases q51 with q51 | q51 | q51 | q51 | q51
        ·
          exact case195 (σ := (sg n0 n1 n2 n3)) hL (kn q1 q33 q46 q51) TabOk.nil (hvv n0 n1 n2 n3)
        ·
          exact case196 (σ := (sg n0 n1 n2 n3)) hL (kn q1 q33 q46 q51) TabOk.nil (hvv n0 n1 n2 n3)
        ·
          exact case197 (σ := (sg n0 n1 n2 n3)) hL (kn q1 q33 q46 q51) TabOk.nil (hvv n0 n1 n2 n3)
        ·
          exact case198 (σ := (sg n0 n1 n2 n3)) hL (kn q1 q33 q46 q51) TabOk.nil (hvv n0 n1 n2 n3)
        ·
          exact case199 (σ := (sg n0 n1 n2 n3)) hL (kn q1 q33 q46 q51) TabOk.nil (hvv n0 n1 n2 n3)
    ·
      have q52 : ((-9223372036854775808) ≤ n2 ∧ n2 ≤ (-1)) ∨ (0 ≤ n2 ∧ n2 ≤ 0) ∨ (1 ≤ n2 ∧ n2 ≤ 7) ∨ (8 ≤ n2 ∧ n2 ≤ 15) ∨ (16 ≤ n2 ∧ n2 ≤ 9223372036854775807) := by omega
      rcases q52 with q52 | q52 | q52 | q52 | q52
      ·
        have q53 : ((-9223372036854775808) ≤ n3 ∧ n3 ≤ (-1)) ∨ (0 ≤ n3 ∧ n3 ≤ 0) ∨ (1 ≤ n3 ∧ n3 ≤ 11) ∨ (12 ≤ n3 ∧ n3 ≤ 4095) ∨ (4096 ≤ n3 ∧ n3 ≤ 9223372036854775807) := by omega
        rcases q53 with q53 | q53 | q53 | q53 | q53
        ·
          exact case200 (σ := (sg n0 n1 n2 n3)) hL (kn q1 q33 q52 q53) TabOk.nil (hvv n0 n1 n2 n3)
        ·
          exact case201 (σ := (sg n0 n1 n2 n3)) hL (kn q1 q33 q52 q53) TabOk.nil (hvv n0 n1 n2 n3)
        ·
          exact case202 (σ := (sg n0 n1 n2 n3)) hL (kn q1 q33 q52 q53) TabOk.nil (hvv n0 n1 n2 n3)
        ·
          exact case203 (σ := (sg n0 n1 n2 n3)) hL (kn q1 q33 q52 q53) TabOk.nil (hvv n0 n1 n2 n3)
        ·
          exact case204 (σ := (sg n0 n1 n2 n3)) hL (kn q1 q33 q52 q53) TabOk.nil (hvv n0 n1 n2 n3)
      ·
        have q54 : ((-9223372036854775808) ≤ n3 ∧ n3 ≤ (-1)) ∨ (0 ≤ n3 ∧ n3 ≤ 0) ∨ (1 ≤ n3 ∧ n3 ≤ 11) ∨ (12 ≤ n3 ∧ n3 ≤ 4095) ∨ (4096 ≤ n3 ∧ n3 ≤ 9223372036854775807) := by omega
        rcases q54 with q54 | q54 | q54 | q54 | q54
        ·
          exact case205 (σ := (sg n0 n1 n2 n3)) hL (kn q1 q33 q52 q54) TabOk.nil (hvv n0 n1 n2 n3)
        ·
          exact case206 (σ := (sg n0 n1 n2 n3)) hL (kn q1 q33 q52 q54) TabOk.nil (hvv n0 n1 n2 n3)
        ·
          exact case207 (σ := (sg n0 n1 n2 n3)) hL (kn q1 q33 q52 q54) TabOk.nil (hvv n0 n1 n2 n3)
        ·
          exact case208 (σ := (sg n0 n1 n2 n3)) hL (kn q1 q33 q52 q54) TabOk.nil (hvv n0 n1 n2 n3)
        ·
          exact case209 (σ := (sg n0 n1 n2 n3)) hL (kn q1 q33 q52 q54) TabOk.nil (hvv n0 n1 n2 n3)
      ·
        have q55 : ((-9223372036854775808) ≤ n3 ∧ n3 ≤ (-1)) ∨ (0 ≤ n3 ∧ n3 ≤ 0) ∨ (1 ≤ n3 ∧ n3 ≤ 11) ∨ (12 ≤ n3 ∧ n3 ≤ 4095) ∨ (4096 ≤ n3 ∧ n3 ≤ 9223372036854775807) := by omega
        rcases q55 with q55 | q55 | q55 | q55 | q55
        ·
          exact case210 (σ := (sg n0 n1 n2 n3)) hL (kn q1 q33 q52 q55) TabOk.nil (hvv n0 n1 n2 n3)
        ·
          exact case211 (σ := (sg n0 n1 n2 n3)) hL (kn q1 q33 q52 q55) TabOk.nil (hvv n0 n1 n2 n3)
        ·
          exact case212 (σ := (sg n0 n1 n2 n3)) hL (kn q1 q33 q52 q55) TabOk.nil (hvv n0 n1 n2 n3)
        ·
          exact case213 (σ := (sg n0 n1 n2 n3)) hL (kn q1 q33 q52 q55) TabOk.nil (hvv n0 n1 n2 n3)
        ·
          exact case214 (σ := (sg n0 n1 n2 n3)) hL (kn q1 q33 q52 q55) TabOk.nil (hvv n0 n1 n2 n3)
      ·
        have q56 : ((-9223372036854775808) ≤ n3 ∧ n3 ≤ (-1)) ∨ (0 ≤ n3 ∧ n3 ≤ 0) ∨ (1 ≤ n3 ∧ n3 ≤ 11) ∨ (12 ≤ n3 ∧ n3 ≤ 4095) ∨ (4096 ≤ n3 ∧ n3 ≤ 9223372036854775807) := by omega
        rcases q56 with q56 | q56 | q56 | q56 | q56
        ·
          exact case215 (σ := (sg n0 n1 n2 n3)) hL (kn q1 q33 q52 q56) TabOk.nil (hvv n0 n1 n2 n3)
        ·
          exact case216 (σ := (sg n0 n1 n2 n3)) hL (kn q1 q33 q52 q56) TabOk.nil (hvv n0 n1 n2 n3)
        ·
          exact case217 (σ := (sg n0 n1 n2 n3)) hL (kn q1 q33 q52 q56) TabOk.nil (hvv n0 n1 n2 n3)
        ·
          exact case218 (σ := (sg n0 n1 n2 n3)) hL (kn q1 q33 q52 q56) TabOk.nil (hvv n0 n1 n2 n3)
        ·
          exact case219 (σ := (sg n0 n1 n2 n3)) hL (kn q1 q33 q52 q56) TabOk.nil (hvv n0 n1 n2 n3)
      ·
        have q57 : ((-9223372036854775808) ≤ n3 ∧ n3 ≤ (-1)) ∨ (0 ≤ n3 ∧ n3 ≤ 0) ∨ (1 ≤ n3 ∧ n3 ≤ 11) ∨ (12 ≤ n3 ∧ n3 ≤ 4095) ∨ (4096 ≤ n3 ∧ n3 ≤ 9223372036854775807) := by omega
        rcases q57 with q57 | q57 | q57 | q57 | q57
        ·
          exact case220 (σ := (sg n0 n1 n2 n3)) hL (kn q1 q33 q52 q57) TabOk.nil (hvv n0 n1 n2 n3)
        ·
          exact case221 (σ := (sg n0 n1 n2 n3)) hL (kn q1 q33 q52 q57) TabOk.nil (hvv n0 n1 n2 n3)
        ·
          exact case222 (σ := (sg n0 n1 n2 n3)) hL (kn q1 q33 q52 q57) TabOk.nil (hvv n0 n1 n2 n3)
        ·
          exact case223 (σ := (sg n0 n1 n2 n3)) hL (kn q1 q33 q52 q57) TabOk.nil (hvv n0 n1 n2 n3)
        ·
          exact case224 (σ := (sg n0 n1 n2 n3)) hL (kn q1 q33 q52 q57) TabOk.nil (hvv n0 n1 n2 n3)
    ·
      have q58 : ((-9223372036854775808) ≤ n2 ∧ n2 ≤ (-1)) ∨ (0 ≤ n2 ∧ n2 ≤ 0) ∨ (1 ≤ n2 ∧ n2 ≤ 7) ∨ (8 ≤ n2 ∧ n2 ≤ 15) ∨ (16 ≤ n2 ∧ n2 ≤ 9223372036854775807) := by omega
      rcases q58 with q58 | q58 | q58 | q58 | q58
      ·
        have q59 : ((-9223372036854775808) ≤ n3 ∧ n3 ≤ (-1)) ∨ (0 ≤ n3 ∧ n3 ≤ 0) ∨ (1 ≤ n3 ∧ n3 ≤ 11) ∨ (12 ≤ n3 ∧ n3 ≤ 4095) ∨ (4096 ≤ n3 ∧ n3 ≤ 9223372036854775807) := by omega
        rcases q59 with q59 | q59 | q59 | q59 | q59
        ·
          exact case225 (σ := (sg n0 n1 n2 n3)) hL (kn q1 q33 q58 q59) TabOk.nil (hvv n0 n1 n2 n3)
        ·
          exact case226 (σ := (sg n0 n1 n2 n3)) hL (kn q1 q33 q58 q59) TabOk.nil (hvv n0 n1 n2 n3)
        ·
          exact case227 (σ := (sg n0 n1 n2 n3)) hL (kn q1 q33 q58 q59) TabOk.nil (hvv n0 n1 n2 n3)
        ·
          exact case228 (σ := (sg n0 n1 n2 n3)) hL (kn q1 q33 q58 q59) TabOk.nil (hvv n0 n1 n2 n3)
        ·
          exact case229 (σ := (sg n0 n1 n2 n3)) hL (kn q1 q33 q58 q59) TabOk.nil (hvv n0 n1 n2 n3)
      ·
        have q60 : ((-9223372036854775808) ≤ n3 ∧ n3 ≤ (-1)) ∨ (0 ≤ n3 ∧ n3 ≤ 0) ∨ (1 ≤ n3 ∧ n3 ≤ 11) ∨ (12 ≤ n3 ∧ n3 ≤ 4095) ∨ (4096 ≤ n3 ∧ n3 ≤ 9223372036854775807) := by omega
        rcases q60 with q60 | q60 | q60 | q60 | q60
        ·
          exact case230 (σ := (sg n0 n1 n2 n3)) hL (kn q1 q33 q58 q60) TabOk.nil (hvv n0 n1 n2 n3)
        ·
          exact case231 (σ := (sg n0 n1 n2 n3)) hL (kn q1 q33 q58 q60) TabOk.nil (hvv n0 n1 n2 n3)
        ·
          exact case232 (σ := (sg n0 n1 n2 n3)) hL (kn q1 q33 q58 q60) TabOk.nil (hvv n0 n1 n2 n3)
        ·
          exact case233 (σ := (sg n0 n1 n2 n3)) hL (kn q1 q33 q58 q60) TabOk.nil (hvv n0 n1 n2 n3)
        ·
          exact case234 (σ := (sg n0 n1 n2 n3)) hL (kn q1 q33 q58 q60) TabOk.nil (hvv n0 n1 n2 n3)
      ·
        have q61 : ((-9223372036854775808) ≤ n3 ∧ n3 ≤ (-1)) ∨ (0 ≤ n3 ∧ n3 ≤ 0) ∨ (1 ≤ n3 ∧ n3 ≤ 11) ∨ (12 ≤ n3 ∧ n3 ≤ 4095) ∨ (4096 ≤ n3 ∧ n3 ≤ 9223372036854775807) := by omega
        rcases q61 with q61 | q61 | q61 | q61 | q61
        ·
          exact case235 (σ := (sg n0 n1 n2 n3)) hL (kn q1 q33 q58 q61) TabOk.nil (hvv n0 n1 n2 n3)
        ·
          exact case236 (σ := (sg n0 n1 n2 n3)) hL (kn q1 q33 q58 q61) TabOk.nil (hvv n0 n1 n2 n3)
        ·
          exact case237 (σ := (sg n0 n1 n2 n3)) hL (kn q1 q33 q58 q61) TabOk.nil (hvv n0 n1 n2 n3)
        ·
          exact case238 (σ := (sg n0 n1 n2 n3)) hL (kn q1 q33 q58 q61) TabOk.nil (hvv n0 n1 n2 n3)
        ·
          exact case239 (σ := (sg n0 n1 n2 n3)) hL (kn q1 q33 q58 q61) TabOk.nil (hvv n0 n1 n2 n3)
      ·
        have q62 : ((-9223372036854775808) ≤ n3 ∧ n3 ≤ (-1)) ∨ (0 ≤ n3 ∧ n3 ≤ 0) ∨ (1 ≤ n3 ∧ n3 ≤ 11) ∨ (12 ≤ n3 ∧ n3 ≤ 4095) ∨ (4096 ≤ n3 ∧ n3 ≤ 9223372036854775807) := by omega
        rcases q62 with q62 | q62 | q62 | q62 | q62
        ·
          exact case240 (σ := (sg n0 n1 n2 n3)) hL (kn q1 q33 q58 q62) TabOk.nil (hvv n0 n1 n2 n3)
        ·
          exact case241 (σ := (sg n0 n1 n2 n3)) hL (kn q1 q33 q58 q62) TabOk.nil (hvv n0 n1 n2 n3)
        ·
          exact case242 (σ := (sg n0 n1 n2 n3)) hL (kn q1 q33 q58 q62) TabOk.nil (hvv n0 n1 n2 n3)
        ·
          exact case243 (σ := (sg n0 n1 n2 n3)) hL (kn q1 q33 q58 q62) TabOk.nil (hvv n0 n1 n2 n3)
        ·
          exact case244 (σ := (sg n0 n1 n2 n3)) hL (kn q1 q33 q58 q62) TabOk.nil (hvv n0 n1 n2 n3)
      ·
        have q63 : ((-9223372036854775808) ≤ n3 ∧ n3 ≤ (-1)) ∨ (0 ≤ n3 ∧ n3 ≤ 0) ∨ (1 ≤ n3 ∧ n3 ≤ 11) ∨ (12 ≤ n3 ∧ n3 ≤ 4095) ∨ (4096 ≤ n3 ∧ n3 ≤ 9223372036854775807) := by omega
        rcases q63 with q63 | q63 | q63 | q63 | q63
        ·
          exact case245 (σ := (sg n0 n1 n2 n3)) hL (kn q1 q33 q58 q63) TabOk.nil (hvv n0 n1 n2 n3)
        ·
          exact case246 (σ := (sg n0 n1 n2 n3)) hL (kn q1 q33 q58 q63) TabOk.nil (hvv n0 n1 n2 n3)
        ·
          exact case247 (σ := (sg n0 n1 n2 n3)) hL (kn q1 q33 q58 q63) TabOk.nil (hvv n0 n1 n2 n3)
        ·
          exact case248 (σ := (sg n0 n1 n2 n3)) hL (kn q1 q33 q58 q63) TabOk.nil (hvv n0 n1 n2 n3)
        ·
          exact case249 (σ := (sg n0 n1 n2 n3)) hL (kn q1 q33 q58 q63) TabOk.nil (hvv n0 n1 n2 n3)
  ·
    have q64 : ((-9223372036854775808) ≤ n1 ∧ n1 ≤ (-1)) ∨ (0 ≤ n1 ∧ n1 ≤ 0) ∨ (1 ≤ n1 ∧ n1 ≤ 7) ∨ (8 ≤ n1 ∧ n1 ≤ 15) ∨ (16 ≤ n1 ∧ n1 ≤ 9223372036854775807) := by omega
    rcases q64 with q64 | q64 | q64 | q64 | q64
    ·
      have q65 : ((-9223372036854775808) ≤ n2 ∧ n2 ≤ (-1)) ∨ (0 ≤ n2 ∧ n2 ≤ 0) ∨ (1 ≤ n2 ∧ n2 ≤ 7) ∨ (8 ≤ n2 ∧ n2 ≤ 15) ∨ (16 ≤ n2 ∧ n2 ≤ 9223372036854775807) := by omega
      rcases q65 with q65 | q65 | q65 | q65 | q65
      ·
        have q66 : ((-9223372036854775808) ≤ n3 ∧ n3 ≤ (-1)) ∨ (0 ≤ n3 ∧ n3 ≤ 0) ∨ (1 ≤ n3 ∧ n3 ≤ 11) ∨ (12 ≤ n3 ∧ n3 ≤ 4095) ∨ (4096 ≤ n3 ∧ n3 ≤ 9223372036854775807) := by omega
        rcases q66 with q66 | q66 | q66 | q66 | q66
        ·
          exact case250 (σ := (sg n0 n1 n2 n3)) hL (kn q1 q64 q65 q66) TabOk.nil (hvv n0 n1 n2 n3)
        ·
          exact case251 (σ := (sg n0 n1 n2 n3)) hL (kn q1 q64 q65 q66) TabOk.nil (hvv n0 n1 n2 n3)
        ·
          exact case252 (σ := (sg n0 n1 n2 n3)) hL (kn q1 q64 q65 q66) TabOk.nil (hvv n0 n1 n2 n3)
        ·
          exact case253 (σ := (sg n0 n1 n2 n3)) hL (kn q1 q64 q65 q66) TabOk.nil (hvv n0 n1 n2 n3)
        ·
          exact case254 (σ := (sg n0 n1 n2 n3)) hL (kn q1 q64 q65 q66) TabOk.nil (hvv n0 n1 n2 n3)
      ·
        have q67 : ((-9223372036854775808) ≤ n3 ∧ n3 ≤ (-1)) ∨ (0 ≤ n3 ∧ n3 ≤ 0) ∨ (1 ≤ n3 ∧ n3 ≤ 11) ∨ (12 ≤ n3 ∧ n3 ≤ 4095) ∨ (4096 ≤ n3 ∧ n3 ≤ 9223372036854775807) := by omega
        rcases q67 with q67 | q67 | q67 | q67 | q67
        ·
          exact case255 (σ := (sg n0 n1 n2 n3)) hL (kn q1 q64 q65 q67) TabOk.nil (hvv n0 n1 n2 n3)
        ·
          exact case256 (σ := (sg n0 n1 n2 n3)) hL (kn q1 q64 q65 q67) TabOk.nil (hvv n0 n1 n2 n3)
        ·
          exact case257 (σ := (sg n0 n1 n2 n3)) hL (kn q1 q64 q65 q67) TabOk.nil (hvv n0 n1 n2 n3)
        ·
          exact case258 (σ := (sg n0 n1 n2 n3)) hL (kn q1 q64 q65 q67) TabOk.nil (hvv n0 n1 n2 n3)
        ·
          exact case259 (σ := (sg n0 n1 n2 n3)) hL (kn q1 q64 q65 q67) TabOk.nil (hvv n0 n1 n2 n3)
      ·
        have q68 : ((-9223372036854775808) ≤ n3 ∧ n3 ≤ (-1)) ∨ (0 ≤ n3 ∧ n3 ≤ 0) ∨ (1 ≤ n3 ∧ n3 ≤ 11) ∨ (12 ≤ n3 ∧ n3 ≤ 4095) ∨ (4096 ≤ n3 ∧ n3 ≤ 9223372036854775807) := by omega
        rcases q68 with q68 | q68 | q68 | q68 | q68
        ·
          exact case260 (σ := (sg n0 n1 n2 n3)) hL (kn q1 q64 q65 q68) TabOk.nil (hvv n0 n1 n2 n3)
        ·
          exact case261 (σ := (sg n0 n1 n2 n3)) hL (kn q1 q64 q65 q68) TabOk.nil (hvv n0 n1 n2 n3)
        ·
          exact case262 (σ := (sg n0 n1 n2 n3)) hL (kn q1 q64 q65 q68) TabOk.nil (hvv n0 n1 n2 n3)
        ·
          exact case263 (σ := (sg n0 n1 n2 n3)) hL (kn q1 q64 q65 q68) TabOk.nil (hvv n0 n1 n2 n3)
        ·
          exact case264 (σ := (sg n0 n1 n2 n3)) hL (kn q1 q64 q65 q68) TabOk.nil (hvv n0 n1 n2 n3)
      ·
        have q69 : ((-9223372036854775808) ≤ n3 ∧ n3 ≤ (-1)) ∨ (0 ≤ n3 ∧ n3 ≤ 0) ∨ (1 ≤ n3 ∧ n3 ≤ 11) ∨ (12 ≤ n3 ∧ n3 ≤ 4095) ∨ (4096 ≤ n3 ∧ n3 ≤ 9223372036854775807) := by omega
        rcases q69 with q69 | q69 | q69 | q69 | q69
        ·
          exact case265 (σ := (sg n0 n1 n2 n3)) hL (kn q1 q64 q65 q69) TabOk.nil (hvv n0 n1 n2 n3)
        ·
          exact case266 (σ := (sg n0 n1 n2 n3)) hL (kn q1 q64 q65 q69) TabOk.nil (hvv n0 n1 n2 n3)
        ·
          exact case267 (σ := (sg n0 n1 n2 n3)) hL (kn q1 q64 q65 q69) TabOk.nil (hvv n0 n1 n2 n3)
        ·
          exact case268 (σ := (sg n0 n1 n2 n3)) hL (kn q1 q64 q65 q69) TabOk.nil (hvv n0 n1 n2 n3)
        ·
          exact case269 (σ := (sg n0 n1 n2 n3)) hL (kn q1 q64 q65 q69) TabOk.nil (hvv n0 n1 n2 n3)
      ·
        have q70 : ((-9223372036854775808) ≤ n3 ∧ n3 ≤ (-1)) ∨ (0 ≤ n3 ∧ n3 ≤ 0) ∨ (1 ≤ n3 ∧ n3 ≤ 11) ∨ (12 ≤ n3 ∧ n3 ≤ 4095) ∨ (4096 ≤ n3 ∧ n3 ≤ 9223372036854775807) := by omega
        rcases q70 with q70 | q70 | q70 | q70 | q70
        ·
          exact case270 (σ := (sg n0 n1 n2 n3)) hL (kn q1 q64 q65 q70) TabOk.nil (hvv n0 n1 n2 n3)
        ·
          exact case271 (σ := (sg n0 n1 n2 n3)) hL (kn q1 q64 q65 q70) TabOk.nil (hvv n0 n1 n2 n3)
        ·
          exact case272 (σ := (sg n0 n1 n2 n3)) hL (kn q1 q64 q65 q70) TabOk.nil (hvv n0 n1 n2 n3)
        ·
          exact case273 (σ := (sg n0 n1 n2 n3)) hL (kn q1 q64 q65 q70) TabOk.nil (hvv n0 n1 n2 n3)
        ·
          exact case274 (σ := (sg n0 n1 n2 n3)) hL (kn q1 q64 q65 q70) TabOk.nil (hvv n0 n1 n2 n3)
    ·
      have q71 : ((-9223372036854775808) ≤ n2 ∧ n2 ≤ (-1)) ∨ (0 ≤ n2 ∧ n2 ≤ 0) ∨ (1 ≤ n2 ∧ n2 ≤ 7) ∨ (8 ≤ n2 ∧ n2 ≤ 15) ∨ (16 ≤ n2 ∧ n2 ≤ 9223372036854775807) := by omega
      rcases q71 with q71 | q71 | q71 | q71 | q71
      ·
        have q72 : ((-9223372036854775808) ≤ n3 ∧ n3 ≤ (-1)) ∨ (0 ≤ n3 ∧ n3 ≤ 0) ∨ (1 ≤ n3 ∧ n3 ≤ 11) ∨ (12 ≤ n3 ∧ n3 ≤ 4095) ∨ (4096 ≤ n3 ∧ n3 ≤ 9223372036854775807) := by omega
        rcases q72 with q72 | q72 | q72 | q72 | q72
        ·
          exact case275 (σ := (sg n0 n1 n2 n3)) hL (kn q1 q64 q71 q72) TabOk.nil (hvv n0 n1 n2 n3)
        ·
          exact case276 (σ := (sg n0 n1 n2 n3)) hL (kn q1 q64 q71 q72) TabOk.nil (hvv n0 n1 n2 n3)
        ·
          exact case277 (σ := (sg n0 n1 n2 n3)) hL (kn q1 q64 q71 q72) TabOk.nil (hvv n0 n1 n2 n3)
        ·
          exact case278 (σ := (sg n0 n1 n2 n3)) hL (kn q1 q64 q71 q72) TabOk.nil (hvv n0 n1 n2 n3)
        ·
          exact case279 (σ := (sg n0 n1 n2 n3)) hL (kn q1 q64 q71 q72) TabOk.nil (hvv n0 n1 n2 n3)
      ·
        have q73 : ((-9223372036854775808) ≤ n3 ∧ n3 ≤ (-1)) ∨ (0 ≤ n3 ∧ n3 ≤ 0) ∨ (1 ≤ n3 ∧ n3 ≤ 11) ∨ (12 ≤ n3 ∧ n3 ≤ 4095) ∨ (4096 ≤ n3 ∧ n3 ≤ 9223372036854775807) := by omega
        rcases q73 with q73 | q73 | q73 | q73 | q73
        ·
          exact case280 (σ := (sg n0 n1 n2 n3)) hL (kn q1 q64 q71 q73) TabOk.nil (hvv n0 n1 n2 n3)
        ·
          exact case281 (σ := (sg n0 n1 n2 n3)) hL (kn q1 q64 q71 q73) TabOk.nil (hvv n0 n1 n2 n3)
        ·
          exact case282 (σ := (sg n0 n1 n2 n3)) hL (kn q1 q64 q71 q73) TabOk.nil (hvv n0 n1 n2 n3)
        ·
          exact case283 (σ := (sg n0 n1 n2 n3)) hL (kn q1 q64 q71 q73) TabOk.nil (hvv n0 n1 n2 n3)
        ·
          exact case284 (σ := (sg n0 n1 n2 n3)) hL (kn q1 q64 q71 q73) TabOk.nil (hvv n0 n1 n2 n3)
      ·
        have q74 : ((-9223372036854775808) ≤ n3 ∧ n3 ≤ (-1)) ∨ (0 ≤ n3 ∧ n3 ≤ 0) ∨ (1 ≤ n3 ∧ n3 ≤ 11) ∨ (12 ≤ n3 ∧ n3 ≤ 4095) ∨ (4096 ≤ n3 ∧ n3 ≤ 9223372036854775807) := by omega
        rcases q74 with q74 | q74 | q74 | q74 | q74
        ·
          exact case285 (σ := (sg n0 n1 n2 n3)) hL (kn q1 q64 q71 q74) TabOk.nil (hvv n0 n1 n2 n3)
        ·
          exact case286 (σ := (sg n0 n1 n2 n3)) hL (kn q1 q64 q71 q74) TabOk.nil (hvv n0 n1 n2 n3)
        ·
          exact case287 (σ := (sg n0 n1 n2 n3)) hL (kn q1 q64 q71 q74) TabOk.nil (hvv n0 n1 n2 n3)
        ·
          exact case288 (σ := (sg n0 n1 n2 n3)) hL (kn q1 q64 q71 q74) TabOk.nil (hvv n0 n1 n2 n3)
        ·
          exact case289 (σ := (sg n0 n1 n2 n3)) hL (kn q1 q64 q71 q74) TabOk.nil (hvv n0 n1 n2 n3)
      ·
        have q75 : ((-9223372036854775808) ≤ n3 ∧ n3 ≤ (-1)) ∨ (0 ≤ n3 ∧ n3 ≤ 0) ∨ (1 ≤ n3 ∧ n3 ≤ 11) ∨ (12 ≤ n3 ∧ n3 ≤ 4095) ∨ (4096 ≤ n3 ∧ n3 ≤ 9223372036854775807) := by omega
        rcases q75 with q75 | q75 | q75 | q75 | q75
        ·
          exact case290 (σ := (sg n0 n1 n2 n3)) hL (kn q1 q64 q71 q75) TabOk.nil (hvv n0 n1 n2 n3)
        ·
          exact case291 (σ := (sg n0 n1 n2 n3)) hL (kn q1 q64 q71 q75) TabOk.nil (hvv n0 n1 n2 n3)
        ·
          exact case292 (σ := (sg n0 n1 n2 n3)) hL (kn q1 q64 q71 q75) TabOk.nil (hvv n0 n1 n2 n3)
        ·
          exact case293 (σ := (sg n0 n1 n2 n3)) hL (kn q1 q64 q71 q75) TabOk.nil (hvv n0 n1 n2 n3)
        ·
          exact case294 (σ := (sg n0 n1 n2 n3)) hL (kn q1 q64 q71 q75) TabOk.nil (hvv n0 n1 n2 n3)
      ·
        have q76 : ((-9223372036854775808) ≤ n3 ∧ n3 ≤ (-1)) ∨ (0 ≤ n3 ∧ n3 ≤ 0) ∨ (1 ≤ n3 ∧ n3 ≤ 11) ∨ (12 ≤ n3 ∧ n3 ≤ 4095) ∨ (4096 ≤ n3 ∧ n3 ≤ 9223372036854775807) := by omega
        rcases q76 with q76 | q76 | q76 | q76 | q76
        ·
          exact case295 (σ := (sg n0 n1 n2 n3)) hL (kn q1 q64 q71 q76) TabOk.nil (hvv n0 n1 n2 n3)
        ·
          exact case296 (σ := (sg n0 n1 n2 n3)) hL (kn q1 q64 q71 q76) TabOk.nil (hvv n0 n1 n2 n3)
        ·
          exact case297 (σ := (sg n0 n1 n2 n3)) hL (kn q1 q64 q71 q76) TabOk.nil (hvv n0 n1 n2 n3)
        ·
          exact case298 (σ := (sg n0 n1 n2 n3)) hL (kn q1 q64 q71 q76) TabOk.nil (hvv n0 n1 n2 n3)
        ·
          exact case299 (σ := (sg n0 n1 n2 n3)) hL (kn q1 q64 q71 q76) TabOk.nil (hvv n0 n1 n2 n3)
    ·
      have q77 : ((-9223372036854775808) ≤ n2 ∧ n2 ≤ (-1)) ∨ (0 ≤ n2 ∧ n2 ≤ 0) ∨ (1 ≤ n2 ∧ n2 ≤ 7) ∨ (8 ≤ n2 ∧ n2 ≤ 15) ∨ (16 ≤ n2 ∧ n2 ≤ 9223372036854775807) := by omega
      rcases q77 with q77 | q77 | q77 | q77 | q77
      ·
        have q78 : ((-9223372036854775808) ≤ n3 ∧ n3 ≤ (-1)) ∨ (0 ≤ n3 ∧ n3 ≤ 0) ∨ (1 ≤ n3 ∧ n3 ≤ 11) ∨ (12 ≤ n3 ∧ n3 ≤ 4095) ∨ (4096 ≤ n3 ∧ n3 ≤ 9223372036854775807) := by omega
        rcases q78 with q78 | q78 | q78 | q78 | q78
        ·
          exact case300 (σ := (sg n0 n1 n2 n3)) hL (kn q1 q64 q77 q78) TabOk.nil (hvv n0 n1 n2 n3)
        ·
          exact case301 (σ := (sg n0 n1 n2 n3)) hL (kn q1 q64 q77 q78) TabOk.nil (hvv n0 n1 n2 n3)
        ·
          exact case302 (σ := (sg n0 n1 n2 n3)) hL (kn q1 q64 q77 q78) TabOk.nil (hvv n0 n1 n2 n3)
        ·
          exact case303 (σ := (sg n0 n1 n2 n3)) hL (kn q1 q64 q77 q78) TabOk.nil (hvv n0 n1 n2 n3)
        ·
          exact case304 (σ := (sg n0 n1 n2 n3)) hL (kn q1 q64 q77 q78) TabOk.nil (hvv n0 n1 n2 n3)
      ·
        have q79 : ((-9223372036854775808) ≤ n3 ∧ n3 ≤ (-1)) ∨ (0 ≤ n3 ∧ n3 ≤ 0) ∨ (1 ≤ n3 ∧ n3 ≤ 11) ∨ (12 ≤ n3 ∧ n3 ≤ 4095) ∨ (4096 ≤ n3 ∧ n3 ≤ 9223372036854775807) := by omega
        rcases q79 with q79 | q79 | q79 | q79 | q79
        ·
          exact case305 (σ := (sg n0 n1 n2 n3)) hL (kn q1 q64 q77 q79) TabOk.nil (hvv n0 n1 n2 n3)
        ·
          exact case306 (σ := (sg n0 n1 n2 n3)) hL (kn q1 q64 q77 q79) TabOk.nil (hvv n0 n1 n2 n3)
        ·
          exact case307 (σ := (sg n0 n1 n2 n3)) hL (kn q1 q64 q77 q79) TabOk.nil (hvv n0 n1 n2 n3)
        ·
          exact case308 (σ := (sg n0 n1 n2 n3)) hL (kn q1 q64 q77 q79) TabOk.nil (hvv n0 n1 n2 n3)
        ·
          exact case309 (σ := (sg n0 n1 n2 n3)) hL (kn q1 q64 q77 q79) TabOk.nil (hvv n0 n1 n2 n3)
      ·
        have q80 : ((-9223372036854775808) ≤ n3 ∧ n3 ≤ (-1)) ∨ (0 ≤ n3 ∧ n3 ≤ 0) ∨ (1 ≤ n3 ∧ n3 ≤ 11) ∨ (12 ≤ n3 ∧ n3 ≤ 4095) ∨ (4096 ≤ n3 ∧ n3 ≤ 9223372036854775807) := by omega
        rcases q80 with q80 | q80 | q80 | q80 | q80
        ·
          exact case310 (σ := (sg n0 n1 n2 n3)) hL (kn q1 q64 q77 q80) TabOk.nil (hvv n0 n1 n2 n3)
        ·
          exact case311 (σ := (sg n0 n1 n2 n3)) hL (kn q1 q64 q77 q80) TabOk.nil (hvv n0 n1 n2 n3)
        ·
          exact case312 (σ := (sg n0 n1 n2 n3)) hL (kn q1 q64 q77 q80) TabOk.nil (hvv n0 n1 n2 n3)
        ·
          exact case313 (σ := (sg n0 n1 n2 n3)) hL (kn q1 q64 q77 q80) TabOk.nil (hvv n0 n1 n2 n3)
        ·
          exact case314 (σ := (sg n0 n1 n2 n3)) hL (kn q1 q64 q77 q80) TabOk.nil (hvv n0 n1 n2 n3)
      ·
        have q81 : ((-9223372036854775808) ≤ n3 ∧ n3 ≤ (-1)) ∨ (0 ≤ n3 ∧ n3 ≤ 0) ∨ (1 ≤ n3 ∧ n3 ≤ 11) ∨ (12 ≤ n3 ∧ n3 ≤ 4095) ∨ (4096 ≤ n3 ∧ n3 ≤ 9223372036854775807) := by omega
        rcases q81 with q81 | q81 | q81 | q81 | q81
        ·
          exact case315 (σ := (sg n0 n1 n2 n3)) hL (kn q1 q64 q77 q81) TabOk.nil (hvv n0 n1 n2 n3)
        ·
          exact case316 (σ := (sg n0 n1 n2 n3)) hL (kn q1 q64 q77 q81) TabOk.nil (hvv n0 n1 n2 n3)
        ·
          exact case317 (σ := (sg n0 n1 n2 n3)) hL (kn q1 q64 q77 q81) TabOk.nil (hvv n0 n1 n2 n3)
        ·
          exact case318 (σ := (sg n0 n1 n2 n3)) hL (kn q1 q64 q77 q81) TabOk.nil (hvv n0 n1 n2 n3)
        ·
          exact case319 (σ := (sg n0 n1 n2 n3)) hL (kn q1 q64 q77 q81) TabOk.nil (hvv n0 n1 n2 n3)
      ·
        have q82 : ((-9223372036854775808) ≤ n3 ∧ n3 ≤ (-1)) ∨ (0 ≤ n3 ∧ n3 ≤ 0) ∨ (1 ≤ n3 ∧ n3 ≤ 11) ∨ (12 ≤ n3 ∧ n3 ≤ 4095) ∨ (4096 ≤ n3 ∧ n3 ≤ 9223372036854775807) := by omega
        rcases q82 with q82 | q82 | q82 | q82 | q82
        ·
          exact case320 (σ := (sg n0 n1 n2 n3)) hL (kn q1 q64 q77 q82) TabOk.nil (hvv n0 n1 n2 n3)
        ·
          exact case321 (σ := (sg n0 n1 n2 n3)) hL (kn q1 q64 q77 q82) TabOk.nil (hvv n0 n1 n2 n3)
        ·
          exact case322 (σ := (sg n0 n1 n2 n3)) hL (kn q1 q64 q77 q82) TabOk.nil (hvv n0 n1 n2 n3)
        ·
          exact case323 (σ := (sg n0 n1 n2 n3)) hL (kn q1 q64 q77 q82) TabOk.nil (hvv n0 n1 n2 n3)
        ·
          exact case324 (σ := (sg n0 n1 n2 n3)) hL (kn q1 q64 q77 q82) TabOk.nil (hvv n0 n1 n2 n3)
    ·
      have q83 : ((-9223372036854775808) ≤ n2 ∧ n2 ≤ (-1)) ∨ (0 ≤ n2 ∧ n2 ≤ 0) ∨ (1 ≤ n2 ∧ n2 ≤ 7) ∨ (8 ≤ n2 ∧ n2 ≤ 15) ∨ (16 ≤ n2 ∧ n2 ≤ 9223372036854775807) := by omega
      rcases q83 with q83 | q83 | q83 | q83 | q83
      ·
        have q84 : ((-9223372036854775808) ≤ n3 ∧ n3 ≤ (-1)) ∨ (0 ≤ n3 ∧ n3 ≤ 0) ∨ (1 ≤ n3 ∧ n3 ≤ 11) ∨ (12 ≤ n3 ∧ n3 ≤ 4095) ∨ (4096 ≤ n3 ∧ n3 ≤ 9223372036854775807) := by omega
        rcases q84 with q84 | q84 | q84 | q84 | q84
        ·
          exact case325 (σ := (sg n0 n1 n2 n3)) hL (kn q1 q64 q83 q84) TabOk.nil (hvv n0 n1 n2 n3)
        ·
          exact case326 (σ := (sg n0 n1 n2 n3)) hL (kn q1 q64 q83 q84) TabOk.nil (hvv n0 n1 n2 n3)
        ·
          exact case327 (σ := (sg n0 n1 n2 n3)) hL (kn q1 q64 q83 q84) TabOk.nil (hvv n0 n1 n2 n3)
        ·
          exact case328 (σ := (sg n0 n1 n2 n3)) hL (kn q1 q64 q83 q84) TabOk.nil (hvv n0 n1 n2 n3)
        ·
          exact case329 (σ := (sg n0 n1 n2 n3)) hL (kn q1 q64 q83 q84) TabOk.nil (hvv n0 n1 n2 n3)
      ·
        have q85 : ((-9223372036854775808) ≤ n3 ∧ n3 ≤ (-1)) ∨ (0 ≤ n3 ∧ n3 ≤ 0) ∨ (1 ≤ n3 ∧ n3 ≤ 11) ∨ (12 ≤ n3 ∧ n3 ≤ 4095) ∨ (4096 ≤ n3 ∧ n3 ≤ 9223372036854775807) := by omega
        rcases q85 with q85 | q85 | q85 | q85 | q85
        ·
          exact case330 (σ := (sg n0 n1 n2 n3)) hL (kn q1 q64 q83 q85) TabOk.nil (hvv n0 n1 n2 n3)
        ·
          exact case331 (σ := (sg n0 n1 n2 n3)) hL (kn q1 q64 q83 q85) TabOk.nil (hvv n0 n1 n2 n3)
        ·
          exact case332 (σ := (sg n0 n1 n2 n3)) hL (kn q1 q64 q83 q85) TabOk.nil (hvv n0 n1 n2 n3)
        ·
          exact case333 (σ := (sg n0 n1 n2 n3)) hL (kn q1 q64 q83 q85) TabOk.nil (hvv n0 n1 n2 n3)
        ·
          exact case334 (σ := (sg n0 n1 n2 n3)) hL (kn q1 q64 q83 q85) TabOk.nil (hvv n0 n1 n2 n3)
      ·
        have q86 : ((-9223372036854775808) ≤ n3 ∧ n3 ≤ (-1)) ∨ (0 ≤ n3 ∧ n3 ≤ 0) ∨ (1 ≤ n3 ∧ n3 ≤ 11) ∨ (12 ≤ n3 ∧ n3 ≤ 4095) ∨ (4096 ≤ n3 ∧ n3 ≤ 9223372036854775807) := by omega
        rcases q86 with q86 | q86 | q86 | q86 | q86
        ·
          exact case335 (σ := (sg n0 n1 n2 n3)) hL (kn q1 q64 q83 q86) TabOk.nil (hvv n0 n1 n2 n3)
        ·
          exact case336 (σ := (sg n0 n1 n2 n3)) hL (kn q1 q64 q83 q86) TabOk.nil (hvv n0 n1 n2 n3)
        ·
          exact case337 (σ := (sg n0 n1 n2 n3)) hL (kn q1 q64 q83 q86) TabOk.nil (hvv n0 n1 n2 n3)
        ·
          exact case338 (σ := (sg n0 n1 n2 n3)) hL (kn q1 q64 q83 q86) TabOk.nil (hvv n0 n1 n2 n3)
        ·
          exact case339 (σ := (sg n0 n1 n2 n3)) hL (kn q1 q64 q83 q86) TabOk.nil (hvv n0 n1 n2 n3)
      ·
        have q87 : ((-9223372036854775808) ≤ n3 ∧ n3 ≤ (-1)) ∨ (0 ≤ n3 ∧ n3 ≤ 0) ∨ (1 ≤ n3 ∧ n3 ≤ 11) ∨ (12 ≤ n3 ∧ n3 ≤ 4095) ∨ (4096 ≤ n3 ∧ n3 ≤ 9223372036854775807) := by omega
        rcases q87 with q87 | q87 | q87 | q87 | q87
        ·
          exact case340 (σ := (sg n0 n1 n2 n3)) hL (kn q1 q64 q83 q87) TabOk.nil (hvv n0 n1 n2 n3)
        ·
          exact case341 (σ := (sg n0 n1 n2 n3)) hL (kn q1 q64 q83 q87) TabOk.nil (hvv n0 n1 n2 n3)
        ·
          exact case342 (σ := (sg n0 n1 n2 n3)) hL (kn q1 q64 q83 q87) TabOk.nil (hvv n0 n1 n2 n3)
        ·
          exact case343 (σ := (sg n0 n1 n2 n3)) hL (kn q1 q64 q83 q87) TabOk.nil (hvv n0 n1 n2 n3)
        ·
          exact case344 (σ := (sg n0 n1 n2 n3)) hL (kn q1 q64 q83 q87) TabOk.nil (hvv n0 n1 n2 n3)
      ·
        have q88 : ((-9223372036854775808) ≤ n3 ∧ n3 ≤ (-1)) ∨ (0 ≤ n3 ∧ n3 ≤ 0) ∨ (1 ≤ n3 ∧ n3 ≤ 11) ∨ (12 ≤ n3 ∧ n3 ≤ 4095) ∨ (4096 ≤ n3 ∧ n3 ≤ 9223372036854775807) := by omega
        rcases q88 with q88 | q88 | q88 | q88 | q88
        ·
          exact case345 (σ := (sg n0 n1 n2 n3)) hL (kn q1 q64 q83 q88) TabOk.nil (hvv n0 n1 n2 n3)
        ·
          exact case346 (σ := (sg n0 n1 n2 n3)) hL (kn q1 q64 q83 q88) TabOk.nil (hvv n0 n1 n2 n3)
        ·
          exact case347 (σ := (sg n0 n1 n2 n3)) hL (kn q1 q64 q83 q88) TabOk.nil (hvv n0 n1 n2 n3)
        ·
          exact case348 (σ := (sg n0 n1 n2 n3)) hL (kn q1 q64 q83 q88) TabOk.nil (hvv n0 n1 n2 n3)
        ·
          exact case349 (σ := (sg n0 n1 n2 n3)) hL (kn q1 q64 q83 q88) TabOk.nil (hvv n0 n1 n2 n3)
    ·
      have q89 : ((-9223372036854775808) ≤ n2 ∧ n2 ≤ (-1)) ∨ (0 ≤ n2 ∧ n2 ≤ 0) ∨ (1 ≤ n2 ∧ n2 ≤ 7) ∨ (8 ≤ n2 ∧ n2 ≤ 15) ∨ (16 ≤ n2 ∧ n2 ≤ 9223372036854775807) := by omega
      rcases q89 with q89 | q89 | q89 | q89 | q89
      ·
        have q90 : ((-9223372036854775808) ≤ n3 ∧ n3 ≤ (-1)) ∨ (0 ≤ n3 ∧ n3 ≤ 0) ∨ (1 ≤ n3 ∧ n3 ≤ 11) ∨ (12 ≤ n3 ∧ n3 ≤ 4095) ∨ (4096 ≤ n3 ∧ n3 ≤ 9223372036854775807) := by omega
        rcases q90 with q90 | q90 | q90 | q90 | q90
        ·
          exact case350 (σ := (sg n0 n1 n2 n3)) hL (kn q1 q64 q89 q90) TabOk.nil (hvv n0 n1 n2 n3)
        ·
          exact case351 (σ := (sg n0 n1 n2 n3)) hL (kn q1 q64 q89 q90) TabOk.nil (hvv n0 n1 n2 n3)
        ·
          exact case352 (σ := (sg n0 n1 n2 n3)) hL (kn q1 q64 q89 q90) TabOk.nil (hvv n0 n1 n2 n3)
        ·
          exact case353 (σ := (sg n0 n1 n2 n3)) hL (kn q1 q64 q89 q90) TabOk.nil (hvv n0 n1 n2 n3)
        ·
          exact case354 (σ := (sg n0 n1 n2 n3)) hL (kn q1 q64 q89 q90) TabOk.nil (hvv n0 n1 n2 n3)
      ·
        have q91 : ((-9223372036854775808) ≤ n3 ∧ n3 ≤ (-1)) ∨ (0 ≤ n3 ∧ n3 ≤ 0) ∨ (1 ≤ n3 ∧ n3 ≤ 11) ∨ (12 ≤ n3 ∧ n3 ≤ 4095) ∨ (4096 ≤ n3 ∧ n3 ≤ 9223372036854775807) := by omega
        rcases q91 with q91 | q91 | q91 | q91 | q91
        ·
          exact case355 (σ := (sg n0 n1 n2 n3)) hL (kn q1 q64 q89 q91) TabOk.nil (hvv n0 n1 n2 n3)
        ·
          exact case356 (σ := (sg n0 n1 n2 n3)) hL (kn q1 q64 q89 q91) TabOk.nil (hvv n0 n1 n2 n3)
        ·
          exact case357 (σ := (sg n0 n1 n2 n3)) hL (kn q1 q64 q89 q91) TabOk.nil (hvv n0 n1 n2 n3)
        ·
          exact case358 (σ := (sg n0 n1 n2 n3)) hL (kn q1 q64 q89 q91) TabOk.nil (hvv n0 n1 n2 n3)
        ·
          exact case359 (σ := (sg n0 n1 n2 n3)) hL (kn q1 q64 q89 q91) TabOk.nil (hvv n0 n1 n2 n3)
      ·
        have q92 : ((-9223372036854775808) ≤ n3 ∧ n3 ≤ (-1)) ∨ (0 ≤ n3 ∧ n3 ≤ 0) ∨ (1 ≤ n3 ∧ n3 ≤ 11) ∨ (12 ≤ n3 ∧ n3 ≤ 4095) ∨ (4096 ≤ n3 ∧ n3 ≤ 9223372036854775807) := by omega
        rcases q92 with q92 | q92 | q92 | q92 | q92
        ·
          exact case360 (σ := (sg n0 n1 n2 n3)) hL (kn q1 q64 q89 q92) TabOk.nil (hvv n0 n1 n2 n3)
        ·
          exact case361 (σ := (sg n0 n1 n2 n3)) hL (kn q1 q64 q89 q92) TabOk.nil (hvv n0 n1 n2 n3)
        ·
          exact case362 (σ := (sg n0 n1 n2 n3)) hL (kn q1 q64 q89 q92) TabOk.nil (hvv n0 n1 n2 n3)
        ·
          exact case363 (σ := (sg n0 n1 n2 n3)) hL (kn q1 q64 q89 q92) TabOk.nil (hvv n0 n1 n2 n3)
        ·
          exact case364 (σ := (sg n0 n1 n2 n3)) hL (kn q1 q64 q89 q92) TabOk.nil (hvv n0 n1 n2 n3)
      ·
        have q93 : ((-9223372036854775808) ≤ n3 ∧ n3 ≤ (-1)) ∨ (0 ≤ n3 ∧ n3 ≤ 0) ∨ (1 ≤ n3 ∧ n3 ≤ 11) ∨ (12 ≤ n3 ∧ n3 ≤ 4095) ∨ (4096 ≤ n3 ∧ n3 ≤ 9223372036854775807) := by omega
        rcases q93 with q93 | q93 | q93 | q93 | q93
        ·
          exact case365 (σ := (sg n0 n1 n2 n3)) hL (kn q1 q64 q89 q93) TabOk.nil (hvv n0 n1 n2 n3)
        ·
          exact case366 (σ := (sg n0 n1 n2 n3)) hL (kn q1 q64 q89 q93) TabOk.nil (hvv n0 n1 n2 n3)
        ·
          exact case367 (σ := (sg n0 n1 n2 n3)) hL (kn q1 q64 q89 q93) TabOk.nil (hvv n0 n1 n2 n3)
        ·
          exact case368 (σ := (sg n0 n1 n2 n3)) hL (kn q1 q64 q89 q93) TabOk.nil (hvv n0 n1 n2 n3)
        ·
          exact case369 (σ := (sg n0 n1 n2 n3)) hL (kn q1 q64 q89 q93) TabOk.nil (hvv n0 n1 n2 n3)
      ·
        have q94 : ((-9223372036854775808) ≤ n3 ∧ n3 ≤ (-1)) ∨ (0 ≤ n3 ∧ n3 ≤ 0) ∨ (1 ≤ n3 ∧ n3 ≤ 11) ∨ (12 ≤ n3 ∧ n3 ≤ 4095) ∨ (4096 ≤ n3 ∧ n3 ≤ 9223372036854775807) := by omega
        rcases q94 with q94 | q94 | q94 | q94 | q94
        ·
          exact case370 (σ := (sg n0 n1 n2 n3)) hL (kn q1 q64 q89 q94) TabOk.nil (hvv n0 n1 n2 n3)
        ·
          exact case371 (σ := (sg n0 n1 n2 n3)) hL (kn q1 q64 q89 q94) TabOk.nil (hvv n0 n1 n2 n3)
        ·
          exact case372 (σ := (sg n0 n1 n2 n3)) hL (kn q1 q64 q89 q94) TabOk.nil (hvv n0 n1 n2 n3)
        ·
          exact case373 (σ := (sg n0 n1 n2 n3)) hL (kn q1 q64 q89 q94) TabOk.nil (hvv n0 n1 n2 n3)
        ·
          exact case374 (σ := (sg n0 n1 n2 n3)) hL (kn q1 q64 q89 q94) TabOk.nil (hvv n0 n1 n2 n3)
  ·
    have q95 : ((-9223372036854775808) ≤ n1 ∧ n1 ≤ (-1)) ∨ (0 ≤ n1 ∧ n1 ≤ 0) ∨ (1 ≤ n1 ∧ n1 ≤ 7) ∨ (8 ≤ n1 ∧ n1 ≤ 15) ∨ (16 ≤ n1 ∧ n1 ≤ 9223372036854775807) := by omega
    rcases q95 with q95 | q95 | q95 | q95 | q95
    ·
      have q96 : ((-9223372036854775808) ≤ n2 ∧ n2 ≤ (-1)) ∨ (0 ≤ n2 ∧ n2 ≤ 0) ∨ (1 ≤ n2 ∧ n2 ≤ 7) ∨ (8 ≤ n2 ∧ n2 ≤ 15) ∨ (16 ≤ n2 ∧ n2 ≤ 9223372036854775807) := by omega
      rcases q96 with q96 | q96 | q96 | q96 | q96
      ·
        have q97 : ((-9223372036854775808) ≤ n3 ∧ n3 ≤ (-1)) ∨ (0 ≤ n3 ∧ n3 ≤ 0) ∨ (1 ≤ n3 ∧ n3 ≤ 11) ∨ (12 ≤ n3 ∧ n3 ≤ 4095) ∨ (4096 ≤ n3 ∧ n3 ≤ 9223372036854775807) := by omega
        rcases q97 with q97 | q97 | q97 | q97 | q97
        ·
          exact case375 (σ := (sg n0 n1 n2 n3)) hL (kn q1 q95 q96 q97) TabOk.nil (hvv n0 n1 n2 n3)
        ·
          exact case376 (σ := (sg n0 n1 n2 n3)) hL (kn q1 q95 q96 q97) TabOk.nil (hvv n0 n1 n2 n3)
        ·
          exact case377 (σ := (sg n0 n1 n2 n3)) hL (kn q1 q95 q96 q97) TabOk.nil (hvv n0 n1 n2 n3)
        ·
          exact case378 (σ := (sg n0 n1 n2 n3)) hL (kn q1 q95 q96 q97) TabOk.nil (hvv n0 n1 n2 n3)
        ·
          exact case379 (σ := (sg n0 n1 n2 n3)) hL (kn q1 q95 q96 q97) TabOk.nil (hvv n0 n1 n2 n3)
      ·
        have q98 : ((-9223372036854775808) ≤ n3 ∧ n3 ≤ (-1)) ∨ (0 ≤ n3 ∧ n3 ≤ 0) ∨ (1 ≤ n3 ∧ n3 ≤ 11) ∨ (12 ≤ n3 ∧ n3 ≤ 4095) ∨ (4096 ≤ n3 ∧ n3 ≤ 9223372036854775807) := by omega
        rcases q98 with q98 | q98 | q98 | q98 | q98
        ·
          exact case380 (σ := (sg n0 n1 n2 n3)) hL (kn q1 q95 q96 q98) TabOk.nil (hvv n0 n1 n2 n3)
        ·
          exact case381 (σ := (sg n0 n1 n2 n3)) hL (kn q1 q95 q96 q98) TabOk.nil (hvv n0 n1 n2 n3)
        ·
          exact case382 (σ := (sg n0 n1 n2 n3)) hL (kn q1 q95 q96 q98) TabOk.nil (hvv n0 n1 n2 n3)
        ·
          exact case383 (σ := (sg n0 n1 n2 n3)) hL (kn q1 q95 q96 q98) TabOk.nil (hvv n0 n1 n2 n3)
        ·
          exact case384 (σ := (sg n0 n1 n2 n3)) hL (kn q1 q95 q96 q98) TabOk.nil (hvv n0 n1 n2 n3)
      ·
        have q99 : ((-9223372036854775808) ≤ n3 ∧ n3 ≤ (-1)) ∨ (0 ≤ n3 ∧ n3 ≤ 0) ∨ (1 ≤ n3 ∧ n3 ≤ 11) ∨ (12 ≤ n3 ∧ n3 ≤ 4095) ∨ (4096 ≤ n3 ∧ n3 ≤ 9223372036854775807) := by omega
        rcases q99 with q99 | q99 | q99 | q99 | q99
        ·
          exact case385 (σ := (sg n0 n1 n2 n3)) hL (kn q1 q95 q96 q99) TabOk.nil (hvv n0 n1 n2 n3)
        ·
          exact case386 (σ := (sg n0 n1 n2 n3)) hL (kn q1 q95 q96 q99) TabOk.nil (hvv n0 n1 n2 n3)
        ·
          exact case387 (σ := (sg n0 n1 n2 n3)) hL (kn q1 q95 q96 q99) TabOk.nil (hvv n0 n1 n2 n3)
        ·
          exact case388 (σ := (sg n0 n1 n2 n3)) hL (kn q1 q95 q96 q99) TabOk.nil (hvv n0 n1 n2 n3)
        ·
          exact case389 (σ := (sg n0 n1 n2 n3)) hL (kn q1 q95 q96 q99) TabOk.nil (hvv n0 n1 n2 n3)
      ·
        have q100 : ((-9223372036854775808) ≤ n3 ∧ n3 ≤ (-1)) ∨ (0 ≤ n3 ∧ n3 ≤ 0) ∨ (1 ≤ n3 ∧ n3 ≤ 11) ∨ (12 ≤ n3 ∧ n3 ≤ 4095) ∨ (4096 ≤ n3 ∧ n3 ≤ 9223372036854775807) := by omega
        rcases q100 with q100 | q100 | q100 | q100 | q100
        ·
          exact case390 (σ := (sg n0 n1 n2 n3)) hL (kn q1 q95 q96 q100) TabOk.nil (hvv n0 n1 n2 n3)
        ·
          exact case391 (σ := (sg n0 n1 n2 n3)) hL (kn q1 q95 q96 q100) TabOk.nil (hvv n0 n1 n2 n3)
        ·
          exact case392 (σ := (sg n0 n1 n2 n3)) hL (kn q1 q95 q96 q100) TabOk.nil (hvv n0 n1 n2 n3)
        ·
          exact case393 (σ := (sg n0 n1 n2 n3)) hL (kn q1 q95 q96 q100) TabOk.nil (hvv n0 n1 n2 n3)
        ·
          exact case394 (σ := (sg n0 n1 n2 n3)) hL (kn q1 q95 q96 q100) TabOk.nil (hvv n0 n1 n2 n3)
      ·
        have q101 : ((-9223372036854775808) ≤ n3 ∧ n3 ≤ (-1)) ∨ (0 ≤ n3 ∧ n3 ≤ 0) ∨ (1 ≤ n3 ∧ n3 ≤ 11) ∨ (12 ≤ n3 ∧ n3 ≤ 4095) ∨ (4096 ≤ n3 ∧ n3 ≤ 9223372036854775807) := by omega
        rcases q101 with q101 | q101 | q101 | q101 | q101
        ·
          exact case395 (σ := (sg n0 n1 n2 n3)) hL (kn q1 q95 q96 q101) TabOk.nil (hvv n0 n1 n2 n3)
        ·
          exact case396 (σ := (sg n0 n1 n2 n3)) hL (kn q1 q95 q96 q101) TabOk.nil (hvv n0 n1 n2 n3)
        ·
          exact case397 (σ := (sg n0 n1 n2 n3)) hL (kn q1 q95 q96 q101) TabOk.nil (hvv n0 n1 n2 n3)
        ·
          exact case398 (σ := (sg n0 n1 n2 n3)) hL (kn q1 q95 q96 q101) TabOk.nil (hvv n0 n1 n2 n3)
        ·
          exact case399 (σ := (sg n0 n1 n2 n3)) hL (kn q1 q95 q96 q101) TabOk.nil (hvv n0 n1 n2 n3)
    ·
      have q102 : ((-9223372036854775808) ≤ n2 ∧ n2 ≤ (-1)) ∨ (0 ≤ n2 ∧ n2 ≤ 0) ∨ (1 ≤ n2 ∧ n2 ≤ 7) ∨ (8 ≤ n2 ∧ n2 ≤ 15) ∨ (16 ≤ n2 ∧ n2 ≤ 9223372036854775807) := by omega
      rcases q102 with q102 | q102 | q102 | q102 | q102
      ·
        have q103 : ((-9223372036854775808) ≤ n3 ∧ n3 ≤ (-1)) ∨ (0 ≤ n3 ∧ n3 ≤ 0) ∨ (1 ≤ n3 ∧ n3 ≤ 11) ∨ (12 ≤ n3 ∧ n3 ≤ 4095) ∨ (4096 ≤ n3 ∧ n3 ≤ 9223372036854775807) := by omega
        rcases q103 with q103 | q103 | q103 | q103 | q103
        ·
          exact case400 (σ := (sg n0 n1 n2 n3)) hL (kn q1 q95 q102 q103) TabOk.nil (hvv n0 n1 n2 n3)
        ·
          exact case401 (σ := (sg n0 n1 n2 n3)) hL (kn q1 q95 q102 q103) TabOk.nil (hvv n0 n1 n2 n3)
        ·
          exact case402 (σ := (sg n0 n1 n2 n3)) hL (kn q1 q95 q102 q103) TabOk.nil (hvv n0 n1 n2 n3)
        ·
          exact case403 (σ := (sg n0 n1 n2 n3)) hL (kn q1 q95 q102 q103) TabOk.nil (hvv n0 n1 n2 n3)
        ·
          exact case404 (σ := (sg n0 n1 n2 n3)) hL (kn q1 q95 q102 q103) TabOk.nil (hvv n0 n1 n2 n3)
      ·
        have q104 : ((-9223372036854775808) ≤ n3 ∧ n3 ≤ (-1)) ∨ (0 ≤ n3 ∧ n3 ≤ 0) ∨ (1 ≤ n3 ∧ n3 ≤ 11) ∨ (12 ≤ n3 ∧ n3 ≤ 4095) ∨ (4096 ≤ n3 ∧ n3 ≤ 9223372036854775807) := by omega
        rcases q104 with q104 | q104 | q104 | q104 | q104
        ·
          exact case405 (σ := (sg n0 n1 n2 n3)) hL (kn q1 q95 q102 q104) TabOk.nil (hvv n0 n1 n2 n3)
        ·
          exact case406 (σ := (sg n0 n1 n2 n3)) hL (kn q1 q95 q102 q104) TabOk.nil (hvv n0 n1 n2 n3)
        ·
          exact case407 (σ := (sg n0 n1 n2 n3)) hL (kn q1 q95 q102 q104) TabOk.nil (hvv n0 n1 n2 n3)
        ·
          exact case408 (σ := (sg n0 n1 n2 n3)) hL (kn q1 q95 q102 q104) TabOk.nil (hvv n0 n1 n2 n3)
        ·
          exact case409 (σ := (sg n0 n1 n2 n3)) hL (kn q1 q95 q102 q104) TabOk.nil (hvv n0 n1 n2 n3)
      ·
        have q105 : ((-9223372036854775808) ≤ n3 ∧ n3 ≤ (-1)) ∨ (0 ≤ n3 ∧ n3 ≤ 0) ∨ (1 ≤ n3 ∧ n3 ≤ 11) ∨ (12 ≤ n3 ∧ n3 ≤ 4095) ∨ (4096 ≤ n3 ∧ n3 ≤ 9223372036854775807) := by omega
        rcases q105 with q105 | q105 | q105 | q105 | q105
        ·
          exact case410 (σ := (sg n0 n1 n2 n3)) hL (kn q1 q95 q102 q105) TabOk.nil (hvv n0 n1 n2 n3)
        ·
          exact case411 (σ := (sg n0 n1 n2 n3)) hL (kn q1 q95 q102 q105) TabOk.nil (hvv n0 n1 n2 n3)
        ·
          exact case412 (σ := (sg n0 n1 n2 n3)) hL (kn q1 q95 q102 q105) TabOk.nil (hvv n0 n1 n2 n3)
        ·
          exact case413 (σ := (sg n0 n1 n2 n3)) hL (kn q1 q95 q102 q105) TabOk.nil (hvv n0 n1 n2 n3)
        ·
          exact case414 (σ := (sg n0 n1 n2 n3)) hL (kn q1 q95 q102 q105) TabOk.nil (hvv n0 n1 n2 n3)
      ·
        have q106 : ((-9223372036854775808) ≤ n3 ∧ n3 ≤ (-1)) ∨ (0 ≤ n3 ∧ n3 ≤ 0) ∨ (1 ≤ n3 ∧ n3 ≤ 11) ∨ (12 ≤ n3 ∧ n3 ≤ 4095) ∨ (4096 ≤ n3 ∧ n3 ≤ 9223372036854775807) := by omega
        rcases q106 with q106 | q106 | q106 | q106 | q106
        ·
          exact case415 (σ := (sg n0 n1 n2 n3)) hL (kn q1 q95 q102 q106) TabOk.nil (hvv n0 n1 n2 n3)
        ·
          exact case416 (σ := (sg n0 n1 n2 n3)) hL (kn q1 q95 q102 q106) TabOk.nil (hvv n0 n1 n2 n3)
        ·
          exact case417 (σ := (sg n0 n1 n2 n3)) hL (kn q1 q95 q102 q106) TabOk.nil (hvv n0 n1 n2 n3)
        ·
          exact case418 (σ := (sg n0 n1 n2 n3)) hL (kn q1 q95 q102 q106) TabOk.nil (hvv n0 n1 n2 n3)
        ·
          exact case419 (σ := (sg n0 n1 n2 n3)) hL (kn q1 q95 q102 q106) TabOk.nil (hvv n0 n1 n2 n3)
      ·
        have q107 : ((-9223372036854775808) ≤ n3 ∧ n3 ≤ (-1)) ∨ (0 ≤ n3 ∧ n3 ≤ 0) ∨ (1 ≤ n3 ∧ n3 ≤ 11) ∨ (12 ≤ n3 ∧ n3 ≤ 4095) ∨ (4096 ≤ n3 ∧ n3 ≤ 9223372036854775807) := by omega
        rcases q107 with q107 | q107 | q107 | q107 | q107
        ·
          exact case420 (σ := (sg n0 n1 n2 n3)) hL (kn q1 q95 q102 q107) TabOk.nil (hvv n0 n1 n2 n3)
        ·
          exact case421 (σ := (sg n0 n1 n2 n3)) hL (kn q1 q95 q102 q107) TabOk.nil (hvv n0 n1 n2 n3)
        ·
          exact case422 (σ := (sg n0 n1 n2 n3)) hL (kn q1 q95 q102 q107) TabOk.nil (hvv n0 n1 n2 n3)
        ·
          exact case423 (σ := (sg n0 n1 n2 n3)) hL (kn q1 q95 q102 q107) TabOk.nil (hvv n0 n1 n2 n3)
        ·
          exact case424 (σ := (sg n0 n1 n2 n3)) hL (kn q1 q95 q102 q107) TabOk.nil (hvv n0 n1 n2 n3)
    ·
      have q108 : ((-9223372036854775808) ≤ n2 ∧ n2 ≤ (-1)) ∨ (0 ≤ n2 ∧ n2 ≤ 0) ∨ (1 ≤ n2 ∧ n2 ≤ 7) ∨ (8 ≤ n2 ∧ n2 ≤ 15) ∨ (16 ≤ n2 ∧ n2 ≤ 9223372036854775807) := by omega
      rcases q108 with q108 | q108 | q108 | q108 | q108
      ·
        have q109 : ((-9223372036854775808) ≤ n3 ∧ n3 ≤ (-1)) ∨ (0 ≤ n3 ∧ n3 ≤ 0) ∨ (1 ≤ n3 ∧ n3 ≤ 11) ∨ (12 ≤ n3 ∧ n3 ≤ 4095) ∨ (4096 ≤ n3 ∧ n3 ≤ 9223372036854775807) := by omega
        rcases q109 with q109 | q109 | q109 | q109 | q109
        ·
          exact case425 (σ := (sg n0 n1 n2 n3)) hL (kn q1 q95 q108 q109) TabOk.nil (hvv n0 n1 n2 n3)
        ·
          exact case426 (σ := (sg n0 n1 n2 n3)) hL (kn q1 q95 q108 q109) TabOk.nil (hvv n0 n1 n2 n3)
        ·
          exact case427 (σ := (sg n0 n1 n2 n3)) hL (kn q1 q95 q108 q109) TabOk.nil (hvv n0 n1 n2 n3)
        ·
          exact case428 (σ := (sg n0 n1 n2 n3)) hL (kn q1 q95 q108 q109) TabOk.nil (hvv n0 n1 n2 n3)
        ·
          exact case429 (σ := (sg n0 n1 n2 n3)) hL (kn q1 q95 q108 q109) TabOk.nil (hvv n0 n1 n2 n3)
      ·
        have q110 : ((-9223372036854775808) ≤ n3 ∧ n3 ≤ (-1)) ∨ (0 ≤ n3 ∧ n3 ≤ 0) ∨ (1 ≤ n3 ∧ n3 ≤ 11) ∨ (12 ≤ n3 ∧ n3 ≤ 4095) ∨ (4096 ≤ n3 ∧ n3 ≤ 9223372036854775807) := by omega
        rcases q110 with q110 | q110 | q110 | q110 | q110
        ·
          exact case430 (σ := (sg n0 n1 n2 n3)) hL (kn q1 q95 q108 q110) TabOk.nil (hvv n0 n1 n2 n3)
        ·
          exact case431 (σ := (sg n0 n1 n2 n3)) hL (kn q1 q95 q108 q110) TabOk.nil (hvv n0 n1 n2 n3)
        ·
          exact case432 (σ := (sg n0 n1 n2 n3)) hL (kn q1 q95 q108 q110) TabOk.nil (hvv n0 n1 n2 n3)
        ·
          exact case433 (σ := (sg n0 n1 n2 n3)) hL (kn q1 q95 q108 q110) TabOk.nil (hvv n0 n1 n2 n3)
        ·
          exact case434 (σ := (sg n0 n1 n2 n3)) hL (kn q1 q95 q108 q110) TabOk.nil (hvv n0 n1 n2 n3)
      ·
        have q111 : ((-9223372036854775808) ≤ n3 ∧ n3 ≤ (-1)) ∨ (0 ≤ n3 ∧ n3 ≤ 0) ∨ (1 ≤ n3 ∧ n3 ≤ 11) ∨ (12 ≤ n3 ∧ n3 ≤ 4095) ∨ (4096 ≤ n3 ∧ n3 ≤ 9223372036854775807) := by omega
        rcases q111 with q111 | q111 | q111 | q111 | q111
        ·
          exact case435 (σ := (sg n0 n1 n2 n3)) hL (kn q1 q95 q108 q111) TabOk.nil (hvv n0 n1 n2 n3)
        ·
          exact case436 (σ := (sg n0 n1 n2 n3)) hL (kn q1 q95 q108 q111) TabOk.nil (hvv n0 n1 n2 n3)
        ·
          exact case437 (σ := (sg n0 n1 n2 n3)) hL (kn q1 q95 q108 q111) TabOk.nil (hvv n0 n1 n2 n3)
        ·
          exact case438 (σ := (sg n0 n1 n2 n3)) hL (kn q1 q95 q108 q111) TabOk.nil (hvv n0 n1 n2 n3)
        ·
          exact case439 (σ := (sg n0 n1 n2 n3)) hL (kn q1 q95 q108 q111) TabOk.nil (hvv n0 n1 n2 n3)
      ·
        have q112 : ((-9223372036854775808) ≤ n3 ∧ n3 ≤ (-1)) ∨ (0 ≤ n3 ∧ n3 ≤ 0) ∨ (1 ≤ n3 ∧ n3 ≤ 11) ∨ (12 ≤ n3 ∧ n3 ≤ 4095) ∨ (4096 ≤ n3 ∧ n3 ≤ 9223372036854775807) := by omega
        rcases q112 with q112 | q112 | q112 | q112 | q112
        ·
          exact case440 (σ := (sg n0 n1 n2 n3)) hL (kn q1 q95 q108 q112) TabOk.nil (hvv n0 n1 n2 n3)
        ·
          exact case441 (σ := (sg n0 n1 n2 n3)) hL (kn q1 q95 q108 q112) TabOk.nil (hvv n0 n1 n2 n3)
        ·
          exact case442 (σ := (sg n0 n1 n2 n3)) hL (kn q1 q95 q108 q112) TabOk.nil (hvv n0 n1 n2 n3)
        ·
          exact case443 (σ := (sg n0 n1 n2 n3)) hL (kn q1 q95 q108 q112) TabOk.nil (hvv n0 n1 n2 n3)
        ·
          exact case444 (σ := (sg n0 n1 n2 n3)) hL (kn q1 q95 q108 q112) TabOk.nil (hvv n0 n1 n2 n3)
      ·
        have q113 : ((-9223372036854775808) ≤ n3 ∧ n3 ≤ (-1)) ∨ (0 ≤ n3 ∧ n3 ≤ 0) ∨ (1 ≤ n3 ∧ n3 ≤ 11) ∨ (12 ≤ n3 ∧ n3 ≤ 4095) ∨ (4096 ≤ n3 ∧ n3 ≤ 9223372036854775807) := by omega
        rcases q113 with q113 | q113 | q113 | q113 | q113
        ·
          exact case445 (σ := (sg n0 n1 n2 n3)) hL (kn q1 q95 q108 q113) TabOk.nil (hvv n0 n1 n2 n3)
        ·
          exact case446 (σ := (sg n0 n1 n2 n3)) hL (kn q1 q95 q108 q113) TabOk.nil (hvv n0 n1 n2 n3)
        ·
          exact case447 (σ := (sg n0 n1 n2 n3)) hL (kn q1 q95 q108 q113) TabOk.nil (hvv n0 n1 n2 n3)
        ·
          exact case448 (σ := (sg n0 n1 n2 n3)) hL (kn q1 q95 q108 q113) TabOk.nil (hvv n0 n1 n2 n3)
        ·
          exact case449 (σ := (sg n0 n1 n2 n3)) hL (kn q1 q95 q108 q113) TabOk.nil (hvv n0 n1 n2 n3)
    ·
      have q114 : ((-9223372036854775808) ≤ n2 ∧ n2 ≤ (-1)) ∨ (0 ≤ n2 ∧ n2 ≤ 0) ∨ (1 ≤ n2 ∧ n2 ≤ 7) ∨ (8 ≤ n2 ∧ n2 ≤ 15) ∨ (16 ≤ n2 ∧ n2 ≤ 9223372036854775807) := by omega
      rcases q114 with q114 | q114 | q114 | q114 | q114
      ·
        have q115 : ((-9223372036854775808) ≤ n3 ∧ n3 ≤ (-1)) ∨ (0 ≤ n3 ∧ n3 ≤ 0) ∨ (1 ≤ n3 ∧ n3 ≤ 11) ∨ (12 ≤ n3 ∧ n3 ≤ 4095) ∨ (4096 ≤ n3 ∧ n3 ≤ 9223372036854775807) := by omega
        rcases q115 with q115 | q115 | q115 | q115 | q115
        ·
          exact case450 (σ := (sg n0 n1 n2 n3)) hL (kn q1 q95 q114 q115) TabOk.nil (hvv n0 n1 n2 n3)
        ·
          exact case451 (σ := (sg n0 n1 n2 n3)) hL (kn q1 q95 q114 q115) TabOk.nil (hvv n0 n1 n2 n3)
        ·
          exact case452 (σ := (sg n0 n1 n2 n3)) hL (kn q1 q95 q114 q115) TabOk.nil (hvv n0 n1 n2 n3)
        ·
          exact case453 (σ := (sg n0 n1 n2 n3)) hL (kn q1 q95 q114 q115) TabOk.nil (hvv n0 n1 n2 n3)
        ·
          exact case454 (σ := (sg n0 n1 n2 n3)) hL (kn q1 q95 q114 q115) TabOk.nil (hvv n0 n1 n2 n3)
      ·
        have q116 : ((-9223372036854775808) ≤ n3 ∧ n3 ≤ (-1)) ∨ (0 ≤ n3 ∧ n3 ≤ 0) ∨ (1 ≤ n3 ∧ n3 ≤ 11) ∨ (12 ≤ n3 ∧ n3 ≤ 4095) ∨ (4096 ≤ n3 ∧ n3 ≤ 9223372036854775807) := by omega
        rcases q116 with q116 | q116 | q116 | q116 | q116
        ·
          exact case455 (σ := (sg n0 n1 n2 n3)) hL (kn q1 q95 q114 q116) TabOk.nil (hvv n0 n1 n2 n3)
        ·
          exact case456 (σ := (sg n0 n1 n2 n3)) hL (kn q1 q95 q114 q116) TabOk.nil (hvv n0 n1 n2 n3)
        ·
          exact case457 (σ := (sg n0 n1 n2 n3)) hL (kn q1 q95 q114 q116) TabOk.nil (hvv n0 n1 n2 n3)
        ·
          exact case458 (σ := (sg n0 n1 n2 n3)) hL (kn q1 q95 q114 q116) TabOk.nil (hvv n0 n1 n2 n3)
        ·
          exact case459 (σ := (sg n0 n1 n2 n3)) hL (kn q1 q95 q114 q116) TabOk.nil (hvv n0 n1 n2 n3)
      ·
        have q117 : ((-9223372036854775808) ≤ n3 ∧ n3 ≤ (-1)) ∨ (0 ≤ n3 ∧ n3 ≤ 0) ∨ (1 ≤ n3 ∧ n3 ≤ 11) ∨ (12 ≤ n3 ∧ n3 ≤ 4095) ∨ (4096 ≤ n3 ∧ n3 ≤ 9223372036854775807) := by omega
        rcases q117 with q117 | q117 | q117 | q117 | q117
        ·
          exact case460 (σ := (sg n0 n1 n2 n3)) hL (kn q1 q95 q114 q117) TabOk.nil (hvv n0 n1 n2 n3)
        ·
          exact case461 (σ := (sg n0 n1 n2 n3)) hL (kn q1 q95 q114 q117) TabOk.nil (hvv n0 n1 n2 n3)
        ·
          exact case462 (σ := (sg n0 n1 n2 n3)) hL (kn q1 q95 q114 q117) TabOk.nil (hvv n0 n1 n2 n3)
        ·
          exact case463 (σ := (sg n0 n1 n2 n3)) hL (kn q1 q95 q114 q117) TabOk.nil (hvv n0 n1 n2 n3)
        ·
          exact case464 (σ := (sg n0 n1 n2 n3)) hL (kn q1 q95 q114 q117) TabOk.nil (hvv n0 n1 n2 n3)
      ·
        have q118 : ((-9223372036854775808) ≤ n3 ∧ n3 ≤ (-1)) ∨ (0 ≤ n3 ∧ n3 ≤ 0) ∨ (1 ≤ n3 ∧ n3 ≤ 11) ∨ (12 ≤ n3 ∧ n3 ≤ 4095) ∨ (4096 ≤ n3 ∧ n3 ≤ 9223372036854775807) := by omega
        rcases q118 with q118 | q118 | q118 | q118 | q118
        ·
          exact case465 (σ := (sg n0 n1 n2 n3)) hL (kn q1 q95 q114 q118) TabOk.nil (hvv n0 n1 n2 n3)
        ·
          exact case466 (σ := (sg n0 n1 n2 n3)) hL (kn q1 q95 q114 q118) TabOk.nil (hvv n0 n1 n2 n3)
        ·
          exact case467 (σ := (sg n0 n1 n2 n3)) hL (kn q1 q95 q114 q118) TabOk.nil (hvv n0 n1 n2 n3)
        ·
          exact case468 (σ := (sg n0 n1 n2 n3)) hL (kn q1 q95 q114 q118) TabOk.nil (hvv n0 n1 n2 n3)
        ·
          exact case469 (σ := (sg n0 n1 n2 n3)) hL (kn q1 q95 q114 q118) TabOk.nil (hvv n0 n1 n2 n3)
      ·
        have q119 : ((-9223372036854775808) ≤ n3 ∧ n3 ≤ (-1)) ∨ (0 ≤ n3 ∧ n3 ≤ 0) ∨ (1 ≤ n3 ∧ n3 ≤ 11) ∨ (12 ≤ n3 ∧ n3 ≤ 4095) ∨ (4096 ≤ n3 ∧ n3 ≤ 9223372036854775807) := by omega
        rcases q119 with q119 | q119 | q119 | q119 | q119
        ·
          exact case470 (σ := (sg n0 n1 n2 n3)) hL (kn q1 q95 q114 q119) TabOk.nil (hvv n0 n1 n2 n3)
        ·
          exact case471 (σ := (sg n0 n1 n2 n3)) hL (kn q1 q95 q114 q119) TabOk.nil (hvv n0 n1 n2 n3)
        ·
          exact case472 (σ := (sg n0 n1 n2 n3)) hL (kn q1 q95 q114 q119) TabOk.nil (hvv n0 n1 n2 n3)
        ·
          exact case473 (σ := (sg n0 n1 n2 n3)) hL (kn q1 q95 q114 q119) TabOk.nil (hvv n0 n1 n2 n3)
        ·
          exact case474 (σ := (sg n0 n1 n2 n3)) hL (kn q1 q95 q114 q119) TabOk.nil (hvv n0 n1 n2 n3)
    ·
      have q120 : ((-9223372036854775808) ≤ n2 ∧ n2 ≤ (-1)) ∨ (0 ≤ n2 ∧ n2 ≤ 0) ∨ (1 ≤ n2 ∧ n2 ≤ 7) ∨ (8 ≤ n2 ∧ n2 ≤ 15) ∨ (16 ≤ n2 ∧ n2 ≤ 9223372036854775807) := by omega
      rcases q120 with q120 | q120 | q120 | q120 | q120
      ·
        have q121 : ((-9223372036854775808) ≤ n3 ∧ n3 ≤ (-1)) ∨ (0 ≤ n3 ∧ n3 ≤ 0) ∨ (1 ≤ n3 ∧ n3 ≤ 11) ∨ (12 ≤ n3 ∧ n3 ≤ 4095) ∨ (4096 ≤ n3 ∧ n3 ≤ 9223372036854775807) := by omega
        rcases q121 with q121 | q121 | q121 | q121 | q121
        ·
          exact case475 (σ := (sg n0 n1 n2 n3)) hL (kn q1 q95 q120 q121) TabOk.nil (hvv n0 n1 n2 n3)
        ·
          exact case476 (σ := (sg n0 n1 n2 n3)) hL (kn q1 q95 q120 q121) TabOk.nil (hvv n0 n1 n2 n3)
        ·
          exact case477 (σ := (sg n0 n1 n2 n3)) hL (kn q1 q95 q120 q121) TabOk.nil (hvv n0 n1 n2 n3)
        ·
          exact case478 (σ := (sg n0 n1 n2 n3)) hL (kn q1 q95 q120 q121) TabOk.nil (hvv n0 n1 n2 n3)
        ·
          exact case479 (σ := (sg n0 n1 n2 n3)) hL (kn q1 q95 q120 q121) TabOk.nil (hvv n0 n1 n2 n3)
      ·
        have q122 : ((-9223372036854775808) ≤ n3 ∧ n3 ≤ (-1)) ∨ (0 ≤ n3 ∧ n3 ≤ 0) ∨ (1 ≤ n3 ∧ n3 ≤ 11) ∨ (12 ≤ n3 ∧ n3 ≤ 4095) ∨ (4096 ≤ n3 ∧ n3 ≤ 9223372036854775807) := by omega
        rcases q122 with q122 | q122 | q122 | q122 | q122
        ·
          exact case480 (σ := (sg n0 n1 n2 n3)) hL (kn q1 q95 q120 q122) TabOk.nil (hvv n0 n1 n2 n3)
        ·
          exact case481 (σ := (sg n0 n1 n2 n3)) hL (kn q1 q95 q120 q122) TabOk.nil (hvv n0 n1 n2 n3)
        ·
          exact case482 (σ := (sg n0 n1 n2 n3)) hL (kn q1 q95 q120 q122) TabOk.nil (hvv n0 n1 n2 n3)
        ·
          exact case483 (σ := (sg n0 n1 n2 n3)) hL (kn q1 q95 q120 q122) TabOk.nil (hvv n0 n1 n2 n3)
        ·
          exact case484 (σ := (sg n0 n1 n2 n3)) hL (kn q1 q95 q120 q122) TabOk.nil (hvv n0 n1 n2 n3)
      ·
        have q123 : ((-9223372036854775808) ≤ n3 ∧ n3 ≤ (-1)) ∨ (0 ≤ n3 ∧ n3 ≤ 0) ∨ (1 ≤ n3 ∧ n3 ≤ 11) ∨ (12 ≤ n3 ∧ n3 ≤ 4095) ∨ (4096 ≤ n3 ∧ n3 ≤ 9223372036854775807) := by omega
        rcases q123 with q123 | q123 | q123 | q123 | q123
        ·
          exact case485 (σ := (sg n0 n1 n2 n3)) hL (kn q1 q95 q120 q123) TabOk.nil (hvv n0 n1 n2 n3)
        ·
          exact case486 (σ := (sg n0 n1 n2 n3)) hL (kn q1 q95 q120 q123) TabOk.nil (hvv n0 n1 n2 n3)
        ·
          exact case487 (σ := (sg n0 n1 n2 n3)) hL (kn q1 q95 q120 q123) TabOk.nil (hvv n0 n1 n2 n3)
        ·
          exact case488 (σ := (sg n0 n1 n2 n3)) hL (kn q1 q95 q120 q123) TabOk.nil (hvv n0 n1 n2 n3)
        ·
          exact case489 (σ := (sg n0 n1 n2 n3)) hL (kn q1 q95 q120 q123) TabOk.nil (hvv n0 n1 n2 n3)
      ·
        have q124 : ((-9223372036854775808) ≤ n3 ∧ n3 ≤ (-1)) ∨ (0 ≤ n3 ∧ n3 ≤ 0) ∨ (1 ≤ n3 ∧ n3 ≤ 11) ∨ (12 ≤ n3 ∧ n3 ≤ 4095) ∨ (4096 ≤ n3 ∧ n3 ≤ 9223372036854775807) := by omega
        rcases q124 with q124 | q124 | q124 | q124 | q124
        ·
          exact case490 (σ := (sg n0 n1 n2 n3)) hL (kn q1 q95 q120 q124) TabOk.nil (hvv n0 n1 n2 n3)
        ·
          exact case491 (σ := (sg n0 n1 n2 n3)) hL (kn q1 q95 q120 q124) TabOk.nil (hvv n0 n1 n2 n3)
        ·
          exact case492 (σ := (sg n0 n1 n2 n3)) hL (kn q1 q95 q120 q124) TabOk.nil (hvv n0 n1 n2 n3)
        ·
          exact case493 (σ := (sg n0 n1 n2 n3)) hL (kn q1 q95 q120 q124) TabOk.nil (hvv n0 n1 n2 n3)
        ·
          exact case494 (σ := (sg n0 n1 n2 n3)) hL (kn q1 q95 q120 q124) TabOk.nil (hvv n0 n1 n2 n3)
      ·
        have q125 : ((-9223372036854775808) ≤ n3 ∧ n3 ≤ (-1)) ∨ (0 ≤ n3 ∧ n3 ≤ 0) ∨ (1 ≤ n3 ∧ n3 ≤ 11) ∨ (12 ≤ n3 ∧ n3 ≤ 4095) ∨ (4096 ≤ n3 ∧ n3 ≤ 9223372036854775807) := by omega
        rcases q125 with q125 | q125 | q125 | q125 | q125
        ·
          exact case495 (σ := (sg n0 n1 n2 n3)) hL (kn q1 q95 q120 q125) TabOk.nil (hvv n0 n1 n2 n3)
        ·
          exact case496 (σ := (sg n0 n1 n2 n3)) hL (kn q1 q95 q120 q125) TabOk.nil (hvv n0 n1 n2 n3)
        ·
          exact case497 (σ := (sg n0 n1 n2 n3)) hL (kn q1 q95 q120 q125) TabOk.nil (hvv n0 n1 n2 n3)
        ·
          exact case498 (σ := (sg n0 n1 n2 n3)) hL (kn q1 q95 q120 q125) TabOk.nil (hvv n0 n1 n2 n3)
        ·
          exact case499 (σ := (sg n0 n1 n2 n3)) hL (kn q1 q95 q120 q125) TabOk.nil (hvv n0 n1 n2 n3)
  ·
    have q126 : ((-9223372036854775808) ≤ n1 ∧ n1 ≤ (-1)) ∨ (0 ≤ n1 ∧ n1 ≤ 0) ∨ (1 ≤ n1 ∧ n1 ≤ 7) ∨ (8 ≤ n1 ∧ n1 ≤ 15) ∨ (16 ≤ n1 ∧ n1 ≤ 9223372036854775807) := by omega
    rcases q126 with q126 | q126 | q126 | q126 | q126
    ·
      have q127 : ((-9223372036854775808) ≤ n2 ∧ n2 ≤ (-1)) ∨ (0 ≤ n2 ∧ n2 ≤ 0) ∨ (1 ≤ n2 ∧ n2 ≤ 7) ∨ (8 ≤ n2 ∧ n2 ≤ 15) ∨ (16 ≤ n2 ∧ n2 ≤ 9223372036854775807) := by omega
      rcases q127 with q127 | q127 | q127 | q127 | q127
      ·
        have q128 : ((-9223372036854775808) ≤ n3 ∧ n3 ≤ (-1)) ∨ (0 ≤ n3 ∧ n3 ≤ 0) ∨ (1 ≤ n3 ∧ n3 ≤ 11) ∨ (12 ≤ n3 ∧ n3 ≤ 4095) ∨ (4096 ≤ n3 ∧ n3 ≤ 9223372036854775807) := by omega
        rcases q128 with q128 | q128 | q128 | q128 | q128
        ·
          exact case500 (σ := (sg n0 n1 n2 n3)) hL (kn q1 q126 q127 q128) TabOk.nil (hvv n0 n1 n2 n3)
        ·
          exact case501 (σ := (sg n0 n1 n2 n3)) hL (kn q1 q126 q127 q128) TabOk.nil (hvv n0 n1 n2 n3)
        ·
          exact case502 (σ := (sg n0 n1 n2 n3)) hL (kn q1 q126 q127 q128) TabOk.nil (hvv n0 n1 n2 n3)
        ·
          exact case503 (σ := (sg n0 n1 n2 n3)) hL (kn q1 q126 q127 q128) TabOk.nil (hvv n0 n1 n2 n3)
        ·
          exact case504 (σ := (sg n0 n1 n2 n3)) hL (kn q1 q126 q127 q128) TabOk.nil (hvv n0 n1 n2 n3)
      ·
        have q129 : ((-9223372036854775808) ≤ n3 ∧ n3 ≤ (-1)) ∨ (0 ≤ n3 ∧ n3 ≤ 0) ∨ (1 ≤ n3 ∧ n3 ≤ 11) ∨ (12 ≤ n3 ∧ n3 ≤ 4095) ∨ (4096 ≤ n3 ∧ n3 ≤ 9223372036854775807) := by omega
        rcases q129 with q129 | q129 | q129 | q129 | q129
        ·
          exact case505 (σ := (sg n0 n1 n2 n3)) hL (kn q1 q126 q127 q129) TabOk.nil (hvv n0 n1 n2 n3)
        ·
          exact case506 (σ := (sg n0 n1 n2 n3)) hL (kn q1 q126 q127 q129) TabOk.nil (hvv n0 n1 n2 n3)
        ·
          exact case507 (σ := (sg n0 n1 n2 n3)) hL (kn q1 q126 q127 q129) TabOk.nil (hvv n0 n1 n2 n3)
        ·
          exact case508 (σ := (sg n0 n1 n2 n3)) hL (kn q1 q126 q127 q129) TabOk.nil (hvv n0 n1 n2 n3)
        ·
          exact case509 (σ := (sg n0 n1 n2 n3)) hL (kn q1 q126 q127 q129) TabOk.nil (hvv n0 n1 n2 n3)
      ·
        have q130 : ((-9223372036854775808) ≤ n3 ∧ n3 ≤ (-1)) ∨ (0 ≤ n3 ∧ n3 ≤ 0) ∨ (1 ≤ n3 ∧ n3 ≤ 11) ∨ (12 ≤ n3 ∧ n3 ≤ 4095) ∨ (4096 ≤ n3 ∧ n3 ≤ 9223372036854775807) := by omega
        rcases q130 with q130 | q130 | q130 | q130 | q130
        ·
          exact case510 (σ := (sg n0 n1 n2 n3)) hL (kn q1 q126 q127 q130) TabOk.nil (hvv n0 n1 n2 n3)
        ·
          exact case511 (σ := (sg n0 n1 n2 n3)) hL (kn q1 q126 q127 q130) TabOk.nil (hvv n0 n1 n2 n3)
        ·
          exact case512 (σ := (sg n0 n1 n2 n3)) hL (kn q1 q126 q127 q130) TabOk.nil (hvv n0 n1 n2 n3)
        ·
          exact case513 (σ := (sg n0 n1 n2 n3)) hL (kn q1 q126 q127 q130) TabOk.nil (hvv n0 n1 n2 n3)
        ·
          exact case514 (σ := (sg n0 n1 n2 n3)) hL (kn q1 q126 q127 q130) TabOk.nil (hvv n0 n1 n2 n3)
      ·
        have q131 : ((-9223372036854775808) ≤ n3 ∧ n3 ≤ (-1)) ∨ (0 ≤ n3 ∧ n3 ≤ 0) ∨ (1 ≤ n3 ∧ n3 ≤ 11) ∨ (12 ≤ n3 ∧ n3 ≤ 4095) ∨ (4096 ≤ n3 ∧ n3 ≤ 9223372036854775807) := by omega
        rcases q131 with q131 | q131 | q131 | q131 | q131
        ·
          exact case515 (σ := (sg n0 n1 n2 n3)) hL (kn q1 q126 q127 q131) TabOk.nil (hvv n0 n1 n2 n3)
        ·
          exact case516 (σ := (sg n0 n1 n2 n3)) hL (kn q1 q126 q127 q131) TabOk.nil (hvv n0 n1 n2 n3)
        ·
          exact case517 (σ := (sg n0 n1 n2 n3)) hL (kn q1 q126 q127 q131) TabOk.nil (hvv n0 n1 n2 n3)
        ·
          exact case518 (σ := (sg n0 n1 n2 n3)) hL (kn q1 q126 q127 q131) TabOk.nil (hvv n0 n1 n2 n3)
        ·
          exact case519 (σ := (sg n0 n1 n2 n3)) hL (kn q1 q126 q127 q131) TabOk.nil (hvv n0 n1 n2 n3)
      ·
        have q132 : ((-9223372036854775808) ≤ n3 ∧ n3 ≤ (-1)) ∨ (0 ≤ n3 ∧ n3 ≤ 0) ∨ (1 ≤ n3 ∧ n3 ≤ 11) ∨ (12 ≤ n3 ∧ n3 ≤ 4095) ∨ (4096 ≤ n3 ∧ n3 ≤ 9223372036854775807) := by omega
        rcases q132 with q132 | q132 | q132 | q132 | q132
        ·
          exact case520 (σ := (sg n0 n1 n2 n3)) hL (kn q1 q126 q127 q132) TabOk.nil (hvv n0 n1 n2 n3)
        ·
          exact case521 (σ := (sg n0 n1 n2 n3)) hL (kn q1 q126 q127 q132) TabOk.nil (hvv n0 n1 n2 n3)
        ·
          exact case522 (σ := (sg n0 n1 n2 n3)) hL (kn q1 q126 q127 q132) TabOk.nil (hvv n0 n1 n2 n3)
        ·
          exact case523 (σ := (sg n0 n1 n2 n3)) hL (kn q1 q126 q127 q132) TabOk.nil (hvv n0 n1 n2 n3)
        ·
          exact case524 (σ := (sg n0 n1 n2 n3)) hL (kn q1 q126 q127 q132) TabOk.nil (hvv n0 n1 n2 n3)
    ·
      have q133 : ((-9223372036854775808) ≤ n2 ∧ n2 ≤ (-1)) ∨ (0 ≤ n2 ∧ n2 ≤ 0) ∨ (1 ≤ n2 ∧ n2 ≤ 7) ∨ (8 ≤ n2 ∧ n2 ≤ 15) ∨ (16 ≤ n2 ∧ n2 ≤ 9223372036854775807) := by omega
      rcases q133 with q133 | q133 | q133 | q133 | q133
      ·
        have q134 : ((-9223372036854775808) ≤ n3 ∧ n3 ≤ (-1)) ∨ (0 ≤ n3 ∧ n3 ≤ 0) ∨ (1 ≤ n3 ∧ n3 ≤ 11) ∨ (12 ≤ n3 ∧ n3 ≤ 4095) ∨ (4096 ≤ n3 ∧ n3 ≤ 9223372036854775807) := by omega
        rcases q134 with q134 | q134 | q134 | q134 | q134
        ·
          exact case525 (σ := (sg n0 n1 n2 n3)) hL (kn q1 q126 q133 q134) TabOk.nil (hvv n0 n1 n2 n3)
        ·
          exact case526 (σ := (sg n0 n1 n2 n3)) hL (kn q1 q126 q133 q134) TabOk.nil (hvv n0 n1 n2 n3)
        ·
          exact case527 (σ := (sg n0 n1 n2 n3)) hL (kn q1 q126 q133 q134) TabOk.nil (hvv n0 n1 n2 n3)
        ·
          exact case528 (σ := (sg n0 n1 n2 n3)) hL (kn q1 q126 q133 q134) TabOk.nil (hvv n0 n1 n2 n3)
        ·
          exact case529 (σ := (sg n0 n1 n2 n3)) hL (kn q1 q126 q133 q134) TabOk.nil (hvv n0 n1 n2 n3)
      ·
        have q135 : ((-9223372036854775808) ≤ n3 ∧ n3 ≤ (-1)) ∨ (0 ≤ n3 ∧ n3 ≤ 0) ∨ (1 ≤ n3 ∧ n3 ≤ 11) ∨ (12 ≤ n3 ∧ n3 ≤ 4095) ∨ (4096 ≤ n3 ∧ n3 ≤ 9223372036854775807) := by omega
        rcases q135 with q135 | q135 | q135 | q135 | q135
        ·
          exact case530 (σ := (sg n0 n1 n2 n3)) hL (kn q1 q126 q133 q135) TabOk.nil (hvv n0 n1 n2 n3)
        ·
          exact case531 (σ := (sg n0 n1 n2 n3)) hL (kn q1 q126 q133 q135) TabOk.nil (hvv n0 n1 n2 n3)
        ·
          exact case532 (σ := (sg n0 n1 n2 n3)) hL (kn q1 q126 q133 q135) TabOk.nil (hvv n0 n1 n2 n3)
        ·
          exact case533 (σ := (sg n0 n1 n2 n3)) hL (kn q1 q126 q133 q135) TabOk.nil (hvv n0 n1 n2 n3)
        ·
          exact case534 (σ := (sg n0 n1 n2 n3)) hL (kn q1 q126 q133 q135) TabOk.nil (hvv n0 n1 n2 n3)
      ·
        have q136 : ((-9223372036854775808) ≤ n3 ∧ n3 ≤ (-1)) ∨ (0 ≤ n3 ∧ n3 ≤ 0) ∨ (1 ≤ n3 ∧ n3 ≤ 11) ∨ (12 ≤ n3 ∧ n3 ≤ 4095) ∨ (4096 ≤ n3 ∧ n3 ≤ 9223372036854775807) := by omega
        rcases q136 with q136 | q136 | q136 | q136 | q136
        ·
          exact case535 (σ := (sg n0 n1 n2 n3)) hL (kn q1 q126 q133 q136) TabOk.nil (hvv n0 n1 n2 n3)
        ·
          exact case536 (σ := (sg n0 n1 n2 n3)) hL (kn q1 q126 q133 q136) TabOk.nil (hvv n0 n1 n2 n3)
        ·
          exact case537 (σ := (sg n0 n1 n2 n3)) hL (kn q1 q126 q133 q136) TabOk.nil (hvv n0 n1 n2 n3)
        ·
          exact case538 (σ := (sg n0 n1 n2 n3)) hL (kn q1 q126 q133 q136) TabOk.nil (hvv n0 n1 n2 n3)
        ·
          exact case539 (σ := (sg n0 n1 n2 n3)) hL (kn q1 q126 q133 q136) TabOk.nil (hvv n0 n1 n2 n3)
      ·
        have q137 : ((-9223372036854775808) ≤ n3 ∧ n3 ≤ (-1)) ∨ (0 ≤ n3 ∧ n3 ≤ 0) ∨ (1 ≤ n3 ∧ n3 ≤ 11) ∨ (12 ≤ n3 ∧ n3 ≤ 4095) ∨ (4096 ≤ n3 ∧ n3 ≤ 9223372036854775807) := by omega
        rcases q137 with q137 | q137 | q137 | q137 | q137
        ·
          exact case540 (σ := (sg n0 n1 n2 n3)) hL (kn q1 q126 q133 q137) TabOk.nil (hvv n0 n1 n2 n3)
        ·
          exact case541 (σ := (sg n0 n1 n2 n3)) hL (kn q1 q126 q133 q137) TabOk.nil (hvv n0 n1 n2 n3)
        ·
          exact case542 (σ := (sg n0 n1 n2 n3)) hL (kn q1 q126 q133 q137) TabOk.nil (hvv n0 n1 n2 n3)
        ·
          exact case543 (σ := (sg n0 n1 n2 n3)) hL (kn q1 q126 q133 q137) TabOk.nil (hvv n0 n1 n2 n3)
        ·
          exact case544 (σ := (sg n0 n1 n2 n3)) hL (kn q1 q126 q133 q137) TabOk.nil (hvv n0 n1 n2 n3)
      ·
        have q138 : ((-9223372036854775808) ≤ n3 ∧ n3 ≤ (-1)) ∨ (0 ≤ n3 ∧ n3 ≤ 0) ∨ (1 ≤ n3 ∧ n3 ≤ 11) ∨ (12 ≤ n3 ∧ n3 ≤ 4095) ∨ (4096 ≤ n3 ∧ n3 ≤ 9223372036854775807) := by omega
        rcases q138 with q138 | q138 | q138 | q138 | q138
        ·
          exact case545 (σ := (sg n0 n1 n2 n3)) hL (kn q1 q126 q133 q138) TabOk.nil (hvv n0 n1 n2 n3)
        ·
          exact case546 (σ := (sg n0 n1 n2 n3)) hL (kn q1 q126 q133 q138) TabOk.nil (hvv n0 n1 n2 n3)
        ·
          exact case547 (σ := (sg n0 n1 n2 n3)) hL (kn q1 q126 q133 q138) TabOk.nil (hvv n0 n1 n2 n3)
        ·
          exact case548 (σ := (sg n0 n1 n2 n3)) hL (kn q1 q126 q133 q138) TabOk.nil (hvv n0 n1 n2 n3)
        ·
          exact case549 (σ := (sg n0 n1 n2 n3)) hL (kn q1 q126 q133 q138) TabOk.nil (hvv n0 n1 n2 n3)
    ·
      have q139 : ((-9223372036854775808) ≤ n2 ∧ n2 ≤ (-1)) ∨ (0 ≤ n2 ∧ n2 ≤ 0) ∨ (1 ≤ n2 ∧ n2 ≤ 7) ∨ (8 ≤ n2 ∧ n2 ≤ 15) ∨ (16 ≤ n2 ∧ n2 ≤ 9223372036854775807) := by omega
      rcases q139 with q139 | q139 | q139 | q139 | q139
      ·
        have q140 : ((-9223372036854775808) ≤ n3 ∧ n3 ≤ (-1)) ∨ (0 ≤ n3 ∧ n3 ≤ 0) ∨ (1 ≤ n3 ∧ n3 ≤ 11) ∨ (12 ≤ n3 ∧ n3 ≤ 4095) ∨ (4096 ≤ n3 ∧ n3 ≤ 9223372036854775807) := by omega
        rcases q140 with q140 | q140 | q140 | q140 | q140
        ·
          exact case550 (σ := (sg n0 n1 n2 n3)) hL (kn q1 q126 q139 q140) TabOk.nil (hvv n0 n1 n2 n3)
        ·
          exact case551 (σ := (sg n0 n1 n2 n3)) hL (kn q1 q126 q139 q140) TabOk.nil (hvv n0 n1 n2 n3)
        ·
          exact case552 (σ := (sg n0 n1 n2 n3)) hL (kn q1 q126 q139 q140) TabOk.nil (hvv n0 n1 n2 n3)
        ·
          exact case553 (σ := (sg n0 n1 n2 n3)) hL (kn q1 q126 q139 q140) TabOk.nil (hvv n0 n1 n2 n3)
        ·
          exact case554 (σ := (sg n0 n1 n2 n3)) hL (kn q1 q126 q139 q140) TabOk.nil (hvv n0 n1 n2 n3)
      ·
        have q141 : ((-9223372036854775808) ≤ n3 ∧ n3 ≤ (-1)) ∨ (0 ≤ n3 ∧ n3 ≤ 0) ∨ (1 ≤ n3 ∧ n3 ≤ 11) ∨ (12 ≤ n3 ∧ n3 ≤ 4095) ∨ (4096 ≤ n3 ∧ n3 ≤ 9223372036854775807) := by omega
        rcases q141 with q141 | q141 | q141 | q141 | q141
        ·
          exact case555 (σ := (sg n0 n1 n2 n3)) hL (kn q1 q126 q139 q141) TabOk.nil (hvv n0 n1 n2 n3)
        ·
          exact case556 (σ := (sg n0 n1 n2 n3)) hL (kn q1 q126 q139 q141) TabOk.nil (hvv n0 n1 n2 n3)
        ·
          exact case557 (σ := (sg n0 n1 n2 n3)) hL (kn q1 q126 q139 q141) TabOk.nil (hvv n0 n1 n2 n3)
        ·
          exact case558 (σ := (sg n0 n1 n2 n3)) hL (kn q1 q126 q139 q141) TabOk.nil (hvv n0 n1 n2 n3)
        ·
          exact case559 (σ := (sg n0 n1 n2 n3)) hL (kn q1 q126 q139 q141) TabOk.nil (hvv n0 n1 n2 n3)
      ·
        have q142 : ((-9223372036854775808) ≤ n3 ∧ n3 ≤ (-1)) ∨ (0 ≤ n3 ∧ n3 ≤ 0) ∨ (1 ≤ n3 ∧ n3 ≤ 11) ∨ (12 ≤ n3 ∧ n3 ≤ 4095) ∨ (4096 ≤ n3 ∧ n3 ≤ 9223372036854775807) := by omega
        rcases q142 with q142 | q142 | q142 | q142 | q142
        ·
          exact case560 (σ := (sg n0 n1 n2 n3)) hL (kn q1 q126 q139 q142) TabOk.nil (hvv n0 n1 n2 n3)
        ·
          exact case561 (σ := (sg n0 n1 n2 n3)) hL (kn q1 q126 q139 q142) TabOk.nil (hvv n0 n1 n2 n3)
        ·
          exact case562 (σ := (sg n0 n1 n2 n3)) hL (kn q1 q126 q139 q142) TabOk.nil (hvv n0 n1 n2 n3)
        ·
          exact case563 (σ := (sg n0 n1 n2 n3)) hL (kn q1 q126 q139 q142) TabOk.nil (hvv n0 n1 n2 n3)
        ·
          exact case564 (σ := (sg n0 n1 n2 n3)) hL (kn q1 q126 q139 q142) TabOk.nil (hvv n0 n1 n2 n3)
      ·
        have q143 : ((-9223372036854775808) ≤ n3 ∧ n3 ≤ (-1)) ∨ (0 ≤ n3 ∧ n3 ≤ 0) ∨ (1 ≤ n3 ∧ n3 ≤ 11) ∨ (12 ≤ n3 ∧ n3 ≤ 4095) ∨ (4096 ≤ n3 ∧ n3 ≤ 9223372036854775807) := by omega
        rcases q143 with q143 | q143 | q143 | q143 | q143
        ·
          exact case565 (σ := (sg n0 n1 n2 n3)) hL (kn q1 q126 q139 q143) TabOk.nil (hvv n0 n1 n2 n3)
        ·
          exact case566 (σ := (sg n0 n1 n2 n3)) hL (kn q1 q126 q139 q143) TabOk.nil (hvv n0 n1 n2 n3)
        ·
          exact case567 (σ := (sg n0 n1 n2 n3)) hL (kn q1 q126 q139 q143) TabOk.nil (hvv n0 n1 n2 n3)
        ·
          exact case568 (σ := (sg n0 n1 n2 n3)) hL (kn q1 q126 q139 q143) TabOk.nil (hvv n0 n1 n2 n3)
        ·
          exact case569 (σ := (sg n0 n1 n2 n3)) hL (kn q1 q126 q139 q143) TabOk.nil (hvv n0 n1 n2 n3)
      ·
        have q144 : ((-9223372036854775808) ≤ n3 ∧ n3 ≤ (-1)) ∨ (0 ≤ n3 ∧ n3 ≤ 0) ∨ (1 ≤ n3 ∧ n3 ≤ 11) ∨ (12 ≤ n3 ∧ n3 ≤ 4095) ∨ (4096 ≤ n3 ∧ n3 ≤ 9223372036854775807) := by omega
        rcases q144 with q144 | q144 | q144 | q144 | q144
        ·
          exact case570 (σ := (sg n0 n1 n2 n3)) hL (kn q1 q126 q139 q144) TabOk.nil (hvv n0 n1 n2 n3)
        ·
          exact case571 (σ := (sg n0 n1 n2 n3)) hL (kn q1 q126 q139 q144) TabOk.nil (hvv n0 n1 n2 n3)
        ·
          exact case572 (σ := (sg n0 n1 n2 n3)) hL (kn q1 q126 q139 q144) TabOk.nil (hvv n0 n1 n2 n3)
        ·
          exact case573 (σ := (sg n0 n1 n2 n3)) hL (kn q1 q126 q139 q144) TabOk.nil (hvv n0 n1 n2 n3)
        ·
          exact case574 (σ := (sg n0 n1 n2 n3)) hL (kn q1 q126 q139 q144) TabOk.nil (hvv n0 n1 n2 n3)
    ·
      have q145 : ((-9223372036854775808) ≤ n2 ∧ n2 ≤ (-1)) ∨ (0 ≤ n2 ∧ n2 ≤ 0) ∨ (1 ≤ n2 ∧ n2 ≤ 7) ∨ (8 ≤ n2 ∧ n2 ≤ 15) ∨ (16 ≤ n2 ∧ n2 ≤ 9223372036854775807) := by omega
      rcases q145 with q145 | q145 | q145 | q145 | q145
      ·
        have q146 : ((-9223372036854775808) ≤ n3 ∧ n3 ≤ (-1)) ∨ (0 ≤ n3 ∧ n3 ≤ 0) ∨ (1 ≤ n3 ∧ n3 ≤ 11) ∨ (12 ≤ n3 ∧ n3 ≤ 4095) ∨ (4096 ≤ n3 ∧ n3 ≤ 9223372036854775807) := by omega
        rcases q146 with q146 | q146 | q146 | q146 | q146
        ·
          exact case575 (σ := (sg n0 n1 n2 n3)) hL (kn q1 q126 q145 q146) TabOk.nil (hvv n0 n1 n2 n3)
        ·
          exact case576 (σ := (sg n0 n1 n2 n3)) hL (kn q1 q126 q145 q146) TabOk.nil (hvv n0 n1 n2 n3)
        ·
          exact case577 (σ := (sg n0 n1 n2 n3)) hL (kn q1 q126 q145 q146) TabOk.nil (hvv n0 n1 n2 n3)
        ·
          exact case578 (σ := (sg n0 n1 n2 n3)) hL (kn q1 q126 q145 q146) TabOk.nil (hvv n0 n1 n2 n3)
        ·
          exact case579 (σ := (sg n0 n1 n2 n3)) hL (kn q1 q126 q145 q146) TabOk.nil (hvv n0 n1 n2 n3)
      ·
        have q147 : ((-9223372036854775808) ≤ n3 ∧ n3 ≤ (-1)) ∨ (0 ≤ n3 ∧ n3 ≤ 0) ∨ (1 ≤ n3 ∧ n3 ≤ 11) ∨ (12 ≤ n3 ∧ n3 ≤ 4095) ∨ (4096 ≤ n3 ∧ n3 ≤ 9223372036854775807) := by omega
        rcases q147 with q147 | q147 | q147 | q147 | q147
        ·
          exact case580 (σ := (sg n0 n1 n2 n3)) hL (kn q1 q126 q145 q147) TabOk.nil (hvv n0 n1 n2 n3)
        ·
          exact case581 (σ := (sg n0 n1 n2 n3)) hL (kn q1 q126 q145 q147) TabOk.nil (hvv n0 n1 n2 n3)
        ·
          exact case582 (σ := (sg n0 n1 n2 n3)) hL (kn q1 q126 q145 q147) TabOk.nil (hvv n0 n1 n2 n3)
        ·
          exact case583 (σ := (sg n0 n1 n2 n3)) hL (kn q1 q126 q145 q147) TabOk.nil (hvv n0 n1 n2 n3)
        ·
          exact case584 (σ := (sg n0 n1 n2 n3)) hL (kn q1 q126 q145 q147) TabOk.nil (hvv n0 n1 n2 n3)
      ·
        have q148 : ((-9223372036854775808) ≤ n3 ∧ n3 ≤ (-1)) ∨ (0 ≤ n3 ∧ n3 ≤ 0) ∨ (1 ≤ n3 ∧ n3 ≤ 11) ∨ (12 ≤ n3 ∧ n3 ≤ 4095) ∨ (4096 ≤ n3 ∧ n3 ≤ 9223372036854775807) := by omega
        rcases q148 with q148 | q148 | q148 | q148 | q148
        ·
          exact case585 (σ := (sg n0 n1 n2 n3)) hL (kn q1 q126 q145 q148) TabOk.nil (hvv n0 n1 n2 n3)
        ·
          exact case586 (σ := (sg n0 n1 n2 n3)) hL (kn q1 q126 q145 q148) TabOk.nil (hvv n0 n1 n2 n3)
        ·
          exact case587 (σ := (sg n0 n1 n2 n3)) hL (kn q1 q126 q145 q148) TabOk.nil (hvv n0 n1 n2 n3)
        ·
          exact case588 (σ := (sg n0 n1 n2 n3)) hL (kn q1 q126 q145 q148) TabOk.nil (hvv n0 n1 n2 n3)
        ·
          exact case589 (σ := (sg n0 n1 n2 n3)) hL (kn q1 q126 q145 q148) TabOk.nil (hvv n0 n1 n2 n3)
      ·
        have q149 : ((-9223372036854775808) ≤ n3 ∧ n3 ≤ (-1)) ∨ (0 ≤ n3 ∧ n3 ≤ 0) ∨ (1 ≤ n3 ∧ n3 ≤ 11) ∨ (12 ≤ n3 ∧ n3 ≤ 4095) ∨ (4096 ≤ n3 ∧ n3 ≤ 9223372036854775807) := by omega
        rcases q149 with q149 | q149 | q149 | q149 | q149
        ·
          exact case590 (σ := (sg n0 n1 n2 n3)) hL (kn q1 q126 q145 q149) TabOk.nil (hvv n0 n1 n2 n3)
        ·
          exact case591 (σ := (sg n0 n1 n2 n3)) hL (kn q1 q126 q145 q149) TabOk.nil (hvv n0 n1 n2 n3)
        ·
          exact case592 (σ := (sg n0 n1 n2 n3)) hL (kn q1 q126 q145 q149) TabOk.nil (hvv n0 n1 n2 n3)
        ·
          exact case593 (σ := (sg n0 n1 n2 n3)) hL (kn q1 q126 q145 q149) TabOk.nil (hvv n0 n1 n2 n3)
        ·
          exact case594 (σ := (sg n0 n1 n2 n3)) hL (kn q1 q126 q145 q149) TabOk.nil (hvv n0 n1 n2 n3)
      ·
        have q150 : ((-9223372036854775808) ≤ n3 ∧ n3 ≤ (-1)) ∨ (0 ≤ n3 ∧ n3 ≤ 0) ∨ (1 ≤ n3 ∧ n3 ≤ 11) ∨ (12 ≤ n3 ∧ n3 ≤ 4095) ∨ (4096 ≤ n3 ∧ n3 ≤ 9223372036854775807) := by omega
        rcases q150 with q150 | q150 | q150 | q150 | q150
        ·
          exact case595 (σ := (sg n0 n1 n2 n3)) hL (kn q1 q126 q145 q150) TabOk.nil (hvv n0 n1 n2 n3)
        ·
          exact case596 (σ := (sg n0 n1 n2 n3)) hL (kn q1 q126 q145 q150) TabOk.nil (hvv n0 n1 n2 n3)
        ·
          exact case597 (σ := (sg n0 n1 n2 n3)) hL (kn q1 q126 q145 q150) TabOk.nil (hvv n0 n1 n2 n3)
        ·
          exact case598 (σ := (sg n0 n1 n2 n3)) hL (kn q1 q126 q145 q150) TabOk.nil (hvv n0 n1 n2 n3)
        ·
          exact case599 (σ := (sg n0 n1 n2 n3)) hL (kn q1 q126 q145 q150) TabOk.nil (hvv n0 n1 n2 n3)
    ·
      have q151 : ((-9223372036854775808) ≤ n2 ∧ n2 ≤ (-1)) ∨ (0 ≤ n2 ∧ n2 ≤ 0) ∨ (1 ≤ n2 ∧ n2 ≤ 7) ∨ (8 ≤ n2 ∧ n2 ≤ 15) ∨ (16 ≤ n2 ∧ n2 ≤ 9223372036854775807) := by omega
      rcases q151 with q151 | q151 | q151 | q151 | q151
      ·
        have q152 : ((-9223372036854775808) ≤ n3 ∧ n3 ≤ (-1)) ∨ (0 ≤ n3 ∧ n3 ≤ 0) ∨ (1 ≤ n3 ∧ n3 ≤ 11) ∨ (12 ≤ n3 ∧ n3 ≤ 4095) ∨ (4096 ≤ n3 ∧ n3 ≤ 9223372036854775807) := by omega
        rcases q152 with q152 | q152 | q152 | q152 | q152
        ·
          exact case600 (σ := (sg n0 n1 n2 n3)) hL (kn q1 q126 q151 q152) TabOk.nil (hvv n0 n1 n2 n3)
        ·
          exact case601 (σ := (sg n0 n1 n2 n3)) hL (kn q1 q126 q151 q152) TabOk.nil (hvv n0 n1 n2 n3)
        ·
          exact case602 (σ := (sg n0 n1 n2 n3)) hL (kn q1 q126 q151 q152) TabOk.nil (hvv n0 n1 n2 n3)
        ·
          exact case603 (σ := (sg n0 n1 n2 n3)) hL (kn q1 q126 q151 q152) TabOk.nil (hvv n0 n1 n2 n3)
        ·
          exact case604 (σ := (sg n0 n1 n2 n3)) hL (kn q1 q126 q151 q152) TabOk.nil (hvv n0 n1 n2 n3)
      ·
        have q153 : ((-9223372036854775808) ≤ n3 ∧ n3 ≤ (-1)) ∨ (0 ≤ n3 ∧ n3 ≤ 0) ∨ (1 ≤ n3 ∧ n3 ≤ 11) ∨ (12 ≤ n3 ∧ n3 ≤ 4095) ∨ (4096 ≤ n3 ∧ n3 ≤ 9223372036854775807) := by omega
        rcases q153 with q153 | q153 | q153 | q153 | q153
        ·
          exact case605 (σ := (sg n0 n1 n2 n3)) hL (kn q1 q126 q151 q153) TabOk.nil (hvv n0 n1 n2 n3)
        ·
          exact case606 (σ := (sg n0 n1 n2 n3)) hL (kn q1 q126 q151 q153) TabOk.nil (hvv n0 n1 n2 n3)
        ·
          exact case607 (σ := (sg n0 n1 n2 n3)) hL (kn q1 q126 q151 q153) TabOk.nil (hvv n0 n1 n2 n3)
        ·
          exact case608 (σ := (sg n0 n1 n2 n3)) hL (kn q1 q126 q151 q153) TabOk.nil (hvv n0 n1 n2 n3)
        ·
          exact case609 (σ := (sg n0 n1 n2 n3)) hL (kn q1 q126 q151 q153) TabOk.nil (hvv n0 n1 n2 n3)
      ·
        have q154 : ((-9223372036854775808) ≤ n3 ∧ n3 ≤ (-1)) ∨ (0 ≤ n3 ∧ n3 ≤ 0) ∨ (1 ≤ n3 ∧ n3 ≤ 11) ∨ (12 ≤ n3 ∧ n3 ≤ 4095) ∨ (4096 ≤ n3 ∧ n3 ≤ 9223372036854775807) := by omega
        rcases q154 with q154 | q154 | q154 | q154 | q154
        ·
          exact case610 (σ := (sg n0 n1 n2 n3)) hL (kn q1 q126 q151 q154) TabOk.nil (hvv n0 n1 n2 n3)
        ·
          exact case611 (σ := (sg n0 n1 n2 n3)) hL (kn q1 q126 q151 q154) TabOk.nil (hvv n0 n1 n2 n3)
        ·
          exact case612 (σ := (sg n0 n1 n2 n3)) hL (kn q1 q126 q151 q154) TabOk.nil (hvv n0 n1 n2 n3)
        ·
          exact case613 (σ := (sg n0 n1 n2 n3)) hL (kn q1 q126 q151 q154) TabOk.nil (hvv n0 n1 n2 n3)
        ·
          exact case614 (σ := (sg n0 n1 n2 n3)) hL (kn q1 q126 q151 q154) TabOk.nil (hvv n0 n1 n2 n3)
      ·
        have q155 : ((-9223372036854775808) ≤ n3 ∧ n3 ≤ (-1)) ∨ (0 ≤ n3 ∧ n3 ≤ 0) ∨ (1 ≤ n3 ∧ n3 ≤ 11) ∨ (12 ≤ n3 ∧ n3 ≤ 4095) ∨ (4096 ≤ n3 ∧ n3 ≤ 9223372036854775807) := by omega
        rcases q155 with q155 | q155 | q155 | q155 | q155
        ·
          exact case615 (σ := (sg n0 n1 n2 n3)) hL (kn q1 q126 q151 q155) TabOk.nil (hvv n0 n1 n2 n3)
        ·
          exact case616 (σ := (sg n0 n1 n2 n3)) hL (kn q1 q126 q151 q155) TabOk.nil (hvv n0 n1 n2 n3)
        ·
          exact case617 (σ := (sg n0 n1 n2 n3)) hL (kn q1 q126 q151 q155) TabOk.nil (hvv n0 n1 n2 n3)
        ·
          exact case618 (σ := (sg n0 n1 n2 n3)) hL (kn q1 q126 q151 q155) TabOk.nil (hvv n0 n1 n2 n3)
        ·
          exact case619 (σ := (sg n0 n1 n2 n3)) hL (kn q1 q126 q151 q155) TabOk.nil (hvv n0 n1 n2 n3)
      ·
        have q156 : ((-9223372036854775808) ≤ n3 ∧ n3 ≤ (-1)) ∨ (0 ≤ n3 ∧ n3 ≤ 0) ∨ (1 ≤ n3 ∧ n3 ≤ 11) ∨ (12 ≤ n3 ∧ n3 ≤ 4095) ∨ (4096 ≤ n3 ∧ n3 ≤ 9223372036854775807) := by omega
        rcases q156 with q156 | q156 | q156 | q156 | q156
        ·
          exact case620 (σ := (sg n0 n1 n2 n3)) hL (kn q1 q126 q151 q156) TabOk.nil (hvv n0 n1 n2 n3)
        ·
          exact case621 (σ := (sg n0 n1 n2 n3)) hL (kn q1 q126 q151 q156) TabOk.nil (hvv n0 n1 n2 n3)
        ·
          exact case622 (σ := (sg n0 n1 n2 n3)) hL (kn q1 q126 q151 q156) TabOk.nil (hvv n0 n1 n2 n3)
        ·
          exact case623 (σ := (sg n0 n1 n2 n3)) hL (kn q1 q126 q151 q156) TabOk.nil (hvv n0 n1 n2 n3)
        ·
          exact case624 (σ := (sg n0 n1 n2 n3)) hL (kn q1 q126 q151 q156) TabOk.nil (hvv n0 n1 n2 n3)
  ·
    have q157 : ((-9223372036854775808) ≤ n1 ∧ n1 ≤ (-1)) ∨ (0 ≤ n1 ∧ n1 ≤ 0) ∨ (1 ≤ n1 ∧ n1 ≤ 7) ∨ (8 ≤ n1 ∧ n1 ≤ 15) ∨ (16 ≤ n1 ∧ n1 ≤ 9223372036854775807) := by omega
    rcases q157 with q157 | q157 | q157 | q157 | q157
    ·
      have q158 : ((-9223372036854775808) ≤ n2 ∧ n2 ≤ (-1)) ∨ (0 ≤ n2 ∧ n2 ≤ 0) ∨ (1 ≤ n2 ∧ n2 ≤ 7) ∨ (8 ≤ n2 ∧ n2 ≤ 15) ∨ (16 ≤ n2 ∧ n2 ≤ 9223372036854775807) := by omega
      rcases q158 with q158 | q158 | q158 | q158 | q158
      ·
        have q159 : ((-9223372036854775808) ≤ n3 ∧ n3 ≤ (-1)) ∨ (0 ≤ n3 ∧ n3 ≤ 0) ∨ (1 ≤ n3 ∧ n3 ≤ 11) ∨ (12 ≤ n3 ∧ n3 ≤ 4095) ∨ (4096 ≤ n3 ∧ n3 ≤ 9223372036854775807) := by omega
        rcases q159 with q159 | q159 | q159 | q159 | q159
        ·
          exact case625 (σ := (sg n0 n1 n2 n3)) hL (kn q1 q157 q158 q159) TabOk.nil (hvv n0 n1 n2 n3)
        ·
          exact case626 (σ := (sg n0 n1 n2 n3)) hL (kn q1 q157 q158 q159) TabOk.nil (hvv n0 n1 n2 n3)
        ·
          exact case627 (σ := (sg n0 n1 n2 n3)) hL (kn q1 q157 q158 q159) TabOk.nil (hvv n0 n1 n2 n3)
        ·
          exact case628 (σ := (sg n0 n1 n2 n3)) hL (kn q1 q157 q158 q159) TabOk.nil (hvv n0 n1 n2 n3)
        ·
          exact case629 (σ := (sg n0 n1 n2 n3)) hL (kn q1 q157 q158 q159) TabOk.nil (hvv n0 n1 n2 n3)
      ·
        have q160 : ((-9223372036854775808) ≤ n3 ∧ n3 ≤ (-1)) ∨ (0 ≤ n3 ∧ n3 ≤ 0) ∨ (1 ≤ n3 ∧ n3 ≤ 11) ∨ (12 ≤ n3 ∧ n3 ≤ 4095) ∨ (4096 ≤ n3 ∧ n3 ≤ 9223372036854775807) := by omega
        rcases q160 with q160 | q160 | q160 | q160 | q160
        ·
          exact case630 (σ := (sg n0 n1 n2 n3)) hL (kn q1 q157 q158 q160) TabOk.nil (hvv n0 n1 n2 n3)
        ·
          exact case631 (σ := (sg n0 n1 n2 n3)) hL (kn q1 q157 q158 q160) TabOk.nil (hvv n0 n1 n2 n3)
        ·
          exact case632 (σ := (sg n0 n1 n2 n3)) hL (kn q1 q157 q158 q160) TabOk.nil (hvv n0 n1 n2 n3)
        ·
          exact case633 (σ := (sg n0 n1 n2 n3)) hL (kn q1 q157 q158 q160) TabOk.nil (hvv n0 n1 n2 n3)
        ·
          exact case634 (σ := (sg n0 n1 n2 n3)) hL (kn q1 q157 q158 q160) TabOk.nil (hvv n0 n1 n2 n3)
      ·
        have q161 : ((-9223372036854775808) ≤ n3 ∧ n3 ≤ (-1)) ∨ (0 ≤ n3 ∧ n3 ≤ 0) ∨ (1 ≤ n3 ∧ n3 ≤ 11) ∨ (12 ≤ n3 ∧ n3 ≤ 4095) ∨ (4096 ≤ n3 ∧ n3 ≤ 9223372036854775807) := by omega
        rcases q161 with q161 | q161 | q161 | q161 | q161
        ·
          exact case635 (σ := (sg n0 n1 n2 n3)) hL (kn q1 q157 q158 q161) TabOk.nil (hvv n0 n1 n2 n3)
        ·
          exact case636 (σ := (sg n0 n1 n2 n3)) hL (kn q1 q157 q158 q161) TabOk.nil (hvv n0 n1 n2 n3)
        ·
          exact case637 (σ := (sg n0 n1 n2 n3)) hL (kn q1 q157 q158 q161) TabOk.nil (hvv n0 n1 n2 n3)
        ·
          exact case638 (σ := (sg n0 n1 n2 n3)) hL (kn q1 q157 q158 q161) TabOk.nil (hvv n0 n1 n2 n3)
        ·
          exact case639 (σ := (sg n0 n1 n2 n3)) hL (kn q1 q157 q158 q161) TabOk.nil (hvv n0 n1 n2 n3)
      ·
        have q162 : ((-9223372036854775808) ≤ n3 ∧ n3 ≤ (-1)) ∨ (0 ≤ n3 ∧ n3 ≤ 0) ∨ (1 ≤ n3 ∧ n3 ≤ 11) ∨ (12 ≤ n3 ∧ n3 ≤ 4095) ∨ (4096 ≤ n3 ∧ n3 ≤ 9223372036854775807) := by omega
        rcases q162 with q162 | q162 | q162 | q162 | q162
        ·
          exact case640 (σ := (sg n0 n1 n2 n3)) hL (kn q1 q157 q158 q162) TabOk.nil (hvv n0 n1 n2 n3)
        ·
          exact case641 (σ := (sg n0 n1 n2 n3)) hL (kn q1 q157 q158 q162) TabOk.nil (hvv n0 n1 n2 n3)
        ·
          exact case642 (σ := (sg n0 n1 n2 n3)) hL (kn q1 q157 q158 q162) TabOk.nil (hvv n0 n1 n2 n3)
        ·
          exact case643 (σ := (sg n0 n1 n2 n3)) hL (kn q1 q157 q158 q162) TabOk.nil (hvv n0 n1 n2 n3)
        ·
          exact case644 (σ := (sg n0 n1 n2 n3)) hL (kn q1 q157 q158 q162) TabOk.nil (hvv n0 n1 n2 n3)
      ·
        have q163 : ((-9223372036854775808) ≤ n3 ∧ n3 ≤ (-1)) ∨ (0 ≤ n3 ∧ n3 ≤ 0) ∨ (1 ≤ n3 ∧ n3 ≤ 11) ∨ (12 ≤ n3 ∧ n3 ≤ 4095) ∨ (4096 ≤ n3 ∧ n3 ≤ 9223372036854775807) := by omega
        rcases q163 with q163 | q163 | q163 | q163 | q163
        ·
          exact case645 (σ := (sg n0 n1 n2 n3)) hL (kn q1 q157 q158 q163) TabOk.nil (hvv n0 n1 n2 n3)
        ·
          exact case646 (σ := (sg n0 n1 n2 n3)) hL (kn q1 q157 q158 q163) TabOk.nil (hvv n0 n1 n2 n3)
        ·
          exact case647 (σ := (sg n0 n1 n2 n3)) hL (kn q1 q157 q158 q163) TabOk.nil (hvv n0 n1 n2 n3)
        ·
          exact case648 (σ := (sg n0 n1 n2 n3)) hL (kn q1 q157 q158 q163) TabOk.nil (hvv n0 n1 n2 n3)
        ·
          exact case649 (σ := (sg n0 n1 n2 n3)) hL (kn q1 q157 q158 q163) TabOk.nil (hvv n0 n1 n2 n3)
    ·
      have q164 : ((-9223372036854775808) ≤ n2 ∧ n2 ≤ (-1)) ∨ (0 ≤ n2 ∧ n2 ≤ 0) ∨ (1 ≤ n2 ∧ n2 ≤ 7) ∨ (8 ≤ n2 ∧ n2 ≤ 15) ∨ (16 ≤ n2 ∧ n2 ≤ 9223372036854775807) := by omega
      rcases q164 with q164 | q164 | q164 | q164 | q164
      ·
        have q165 : ((-9223372036854775808) ≤ n3 ∧ n3 ≤ (-1)) ∨ (0 ≤ n3 ∧ n3 ≤ 0) ∨ (1 ≤ n3 ∧ n3 ≤ 11) ∨ (12 ≤ n3 ∧ n3 ≤ 4095) ∨ (4096 ≤ n3 ∧ n3 ≤ 9223372036854775807) := by omega
        rcases q165 with q165 | q165 | q165 | q165 | q165
        ·
          exact case650 (σ := (sg n0 n1 n2 n3)) hL (kn q1 q157 q164 q165) TabOk.nil (hvv n0 n1 n2 n3)
        ·
          exact case651 (σ := (sg n0 n1 n2 n3)) hL (kn q1 q157 q164 q165) TabOk.nil (hvv n0 n1 n2 n3)
        ·
          exact case652 (σ := (sg n0 n1 n2 n3)) hL (kn q1 q157 q164 q165) TabOk.nil (hvv n0 n1 n2 n3)
        ·
          exact case653 (σ := (sg n0 n1 n2 n3)) hL (kn q1 q157 q164 q165) TabOk.nil (hvv n0 n1 n2 n3)
        ·
          exact case654 (σ := (sg n0 n1 n2 n3)) hL (kn q1 q157 q164 q165) TabOk.nil (hvv n0 n1 n2 n3)
      ·
        have q166 : ((-9223372036854775808) ≤ n3 ∧ n3 ≤ (-1)) ∨ (0 ≤ n3 ∧ n3 ≤ 0) ∨ (1 ≤ n3 ∧ n3 ≤ 11) ∨ (12 ≤ n3 ∧ n3 ≤ 4095) ∨ (4096 ≤ n3 ∧ n3 ≤ 9223372036854775807) := by omega
        rcases q166 with q166 | q166 | q166 | q166 | q166
        ·
          exact case655 (σ := (sg n0 n1 n2 n3)) hL (kn q1 q157 q164 q166) TabOk.nil (hvv n0 n1 n2 n3)
        ·
          exact case656 (σ := (sg n0 n1 n2 n3)) hL (kn q1 q157 q164 q166) TabOk.nil (hvv n0 n1 n2 n3)
        ·
          exact case657 (σ := (sg n0 n1 n2 n3)) hL (kn q1 q157 q164 q166) TabOk.nil (hvv n0 n1 n2 n3)
        ·
          exact case658 (σ := (sg n0 n1 n2 n3)) hL (kn q1 q157 q164 q166) TabOk.nil (hvv n0 n1 n2 n3)
        ·
          exact case659 (σ := (sg n0 n1 n2 n3)) hL (kn q1 q157 q164 q166) TabOk.nil (hvv n0 n1 n2 n3)
      ·
        have q167 : ((-9223372036854775808) ≤ n3 ∧ n3 ≤ (-1)) ∨ (0 ≤ n3 ∧ n3 ≤ 0) ∨ (1 ≤ n3 ∧ n3 ≤ 11) ∨ (12 ≤ n3 ∧ n3 ≤ 4095) ∨ (4096 ≤ n3 ∧ n3 ≤ 9223372036854775807) := by omega
        rcases q167 with q167 | q167 | q167 | q167 | q167
        ·
          exact case660 (σ := (sg n0 n1 n2 n3)) hL (kn q1 q157 q164 q167) TabOk.nil (hvv n0 n1 n2 n3)
        ·
          exact case661 (σ := (sg n0 n1 n2 n3)) hL (kn q1 q157 q164 q167) TabOk.nil (hvv n0 n1 n2 n3)
        ·
          exact case662 (σ := (sg n0 n1 n2 n3)) hL (kn q1 q157 q164 q167) TabOk.nil (hvv n0 n1 n2 n3)
        ·
          exact case663 (σ := (sg n0 n1 n2 n3)) hL (kn q1 q157 q164 q167) TabOk.nil (hvv n0 n1 n2 n3)
        ·
          exact case664 (σ := (sg n0 n1 n2 n3)) hL (kn q1 q157 q164 q167) TabOk.nil (hvv n0 n1 n2 n3)
      ·
        have q168 : ((-9223372036854775808) ≤ n3 ∧ n3 ≤ (-1)) ∨ (0 ≤ n3 ∧ n3 ≤ 0) ∨ (1 ≤ n3 ∧ n3 ≤ 11) ∨ (12 ≤ n3 ∧ n3 ≤ 4095) ∨ (4096 ≤ n3 ∧ n3 ≤ 9223372036854775807) := by omega
        rcases q168 with q168 | q168 | q168 | q168 | q168
        ·
          exact case665 (σ := (sg n0 n1 n2 n3)) hL (kn q1 q157 q164 q168) TabOk.nil (hvv n0 n1 n2 n3)
        ·
          exact case666 (σ := (sg n0 n1 n2 n3)) hL (kn q1 q157 q164 q168) TabOk.nil (hvv n0 n1 n2 n3)
        ·
          exact case667 (σ := (sg n0 n1 n2 n3)) hL (kn q1 q157 q164 q168) TabOk.nil (hvv n0 n1 n2 n3)
        ·
          exact case668 (σ := (sg n0 n1 n2 n3)) hL (kn q1 q157 q164 q168) TabOk.nil (hvv n0 n1 n2 n3)
        ·
          exact case669 (σ := (sg n0 n1 n2 n3)) hL (kn q1 q157 q164 q168) TabOk.nil (hvv n0 n1 n2 n3)
      ·
        have q169 : ((-9223372036854775808) ≤ n3 ∧ n3 ≤ (-1)) ∨ (0 ≤ n3 ∧ n3 ≤ 0) ∨ (1 ≤ n3 ∧ n3 ≤ 11) ∨ (12 ≤ n3 ∧ n3 ≤ 4095) ∨ (4096 ≤ n3 ∧ n3 ≤ 9223372036854775807) := by omega
        rcases q169 with q169 | q169 | q169 | q169 | q169
        ·
          exact case670 (σ := (sg n0 n1 n2 n3)) hL (kn q1 q157 q164 q169) TabOk.nil (hvv n0 n1 n2 n3)
        ·
          exact case671 (σ := (sg n0 n1 n2 n3)) hL (kn q1 q157 q164 q169) TabOk.nil (hvv n0 n1 n2 n3)
        ·
          exact case672 (σ := (sg n0 n1 n2 n3)) hL (kn q1 q157 q164 q169) TabOk.nil (hvv n0 n1 n2 n3)
        ·
          exact case673 (σ := (sg n0 n1 n2 n3)) hL (kn q1 q157 q164 q169) TabOk.nil (hvv n0 n1 n2 n3)
        ·
          exact case674 (σ := (sg n0 n1 n2 n3)) hL (kn q1 q157 q164 q169) TabOk.nil (hvv n0 n1 n2 n3)
    ·
      have q170 : ((-9223372036854775808) ≤ n2 ∧ n2 ≤ (-1)) ∨ (0 ≤ n2 ∧ n2 ≤ 0) ∨ (1 ≤ n2 ∧ n2 ≤ 7) ∨ (8 ≤ n2 ∧ n2 ≤ 15) ∨ (16 ≤ n2 ∧ n2 ≤ 9223372036854775807) := by omega
      rcases q170 with q170 | q170 | q170 | q170 | q170
      ·
        have q171 : ((-9223372036854775808) ≤ n3 ∧ n3 ≤ (-1)) ∨ (0 ≤ n3 ∧ n3 ≤ 0) ∨ (1 ≤ n3 ∧ n3 ≤ 11) ∨ (12 ≤ n3 ∧ n3 ≤ 4095) ∨ (4096 ≤ n3 ∧ n3 ≤ 9223372036854775807) := by omega
        rcases q171 with q171 | q171 | q171 | q171 | q171
        ·
          exact case675 (σ := (sg n0 n1 n2 n3)) hL (kn q1 q157 q170 q171) TabOk.nil (hvv n0 n1 n2 n3)
        ·
          exact case676 (σ := (sg n0 n1 n2 n3)) hL (kn q1 q157 q170 q171) TabOk.nil (hvv n0 n1 n2 n3)
        ·
          exact case677 (σ := (sg n0 n1 n2 n3)) hL (kn q1 q157 q170 q171) TabOk.nil (hvv n0 n1 n2 n3)
        ·
          exact case678 (σ := (sg n0 n1 n2 n3)) hL (kn q1 q157 q170 q171) TabOk.nil (hvv n0 n1 n2 n3)
        ·
          exact case679 (σ := (sg n0 n1 n2 n3)) hL (kn q1 q157 q170 q171) TabOk.nil (hvv n0 n1 n2 n3)
      ·
        have q172 : ((-9223372036854775808) ≤ n3 ∧ n3 ≤ (-1)) ∨ (0 ≤ n3 ∧ n3 ≤ 0) ∨ (1 ≤ n3 ∧ n3 ≤ 11) ∨ (12 ≤ n3 ∧ n3 ≤ 4095) ∨ (4096 ≤ n3 ∧ n3 ≤ 9223372036854775807) := by omega
        rcases q172 with q172 | q172 | q172 | q172 | q172
        ·
          exact case680 (σ := (sg n0 n1 n2 n3)) hL (kn q1 q157 q170 q172) TabOk.nil (hvv n0 n1 n2 n3)
        ·
          exact case681 (σ := (sg n0 n1 n2 n3)) hL (kn q1 q157 q170 q172) TabOk.nil (hvv n0 n1 n2 n3)
        ·
          exact case682 (σ := (sg n0 n1 n2 n3)) hL (kn q1 q157 q170 q172) TabOk.nil (hvv n0 n1 n2 n3)
        ·
          exact case683 (σ := (sg n0 n1 n2 n3)) hL (kn q1 q157 q170 q172) TabOk.nil (hvv n0 n1 n2 n3)
        ·
          exact case684 (σ := (sg n0 n1 n2 n3)) hL (kn q1 q157 q170 q172) TabOk.nil (hvv n0 n1 n2 n3)
      ·
        have q173 : ((-9223372036854775808) ≤ n3 ∧ n3 ≤ (-1)) ∨ (0 ≤ n3 ∧ n3 ≤ 0) ∨ (1 ≤ n3 ∧ n3 ≤ 11) ∨ (12 ≤ n3 ∧ n3 ≤ 4095) ∨ (4096 ≤ n3 ∧ n3 ≤ 9223372036854775807) := by omega
        rcases q173 with q173 | q173 | q173 | q173 | q173
        ·
          exact case685 (σ := (sg n0 n1 n2 n3)) hL (kn q1 q157 q170 q173) TabOk.nil (hvv n0 n1 n2 n3)
        ·
          exact case686 (σ := (sg n0 n1 n2 n3)) hL (kn q1 q157 q170 q173) TabOk.nil (hvv n0 n1 n2 n3)
        ·
          exact case687 (σ := (sg n0 n1 n2 n3)) hL (kn q1 q157 q170 q173) TabOk.nil (hvv n0 n1 n2 n3)
        ·
          exact case688 (σ := (sg n0 n1 n2 n3)) hL (kn q1 q157 q170 q173) TabOk.nil (hvv n0 n1 n2 n3)
        ·
          exact case689 (σ := (sg n0 n1 n2 n3)) hL (kn q1 q157 q170 q173) TabOk.nil (hvv n0 n1 n2 n3)
      ·
        have q174 : ((-9223372036854775808) ≤ n3 ∧ n3 ≤ (-1)) ∨ (0 ≤ n3 ∧ n3 ≤ 0) ∨ (1 ≤ n3 ∧ n3 ≤ 11) ∨ (12 ≤ n3 ∧ n3 ≤ 4095) ∨ (4096 ≤ n3 ∧ n3 ≤ 9223372036854775807) := by omega
        rcases q174 with q174 | q174 | q174 | q174 | q174
        ·
          exact case690 (σ := (sg n0 n1 n2 n3)) hL (kn q1 q157 q170 q174) TabOk.nil (hvv n0 n1 n2 n3)
        ·
          exact case691 (σ := (sg n0 n1 n2 n3)) hL (kn q1 q157 q170 q174) TabOk.nil (hvv n0 n1 n2 n3)
        ·
          exact case692 (σ := (sg n0 n1 n2 n3)) hL (kn q1 q157 q170 q174) TabOk.nil (hvv n0 n1 n2 n3)
        ·
          exact case693 (σ := (sg n0 n1 n2 n3)) hL (kn q1 q157 q170 q174) TabOk.nil (hvv n0 n1 n2 n3)
        ·
          exact case694 (σ := (sg n0 n1 n2 n3)) hL (kn q1 q157 q170 q174) TabOk.nil (hvv n0 n1 n2 n3)
      ·
        have q175 : ((-9223372036854775808) ≤ n3 ∧ n3 ≤ (-1)) ∨ (0 ≤ n3 ∧ n3 ≤ 0) ∨ (1 ≤ n3 ∧ n3 ≤ 11) ∨ (12 ≤ n3 ∧ n3 ≤ 4095) ∨ (4096 ≤ n3 ∧ n3 ≤ 9223372036854775807) := by omega
        rcases q175 with q175 | q175 | q175 | q175 | q175
        ·
          exact case695 (σ := (sg n0 n1 n2 n3)) hL (kn q1 q157 q170 q175) TabOk.nil (hvv n0 n1 n2 n3)
        ·
          exact case696 (σ := (sg n0 n1 n2 n3)) hL (kn q1 q157 q170 q175) TabOk.nil (hvv n0 n1 n2 n3)
        ·
          exact case697 (σ := (sg n0 n1 n2 n3)) hL (kn q1 q157 q170 q175) TabOk.nil (hvv n0 n1 n2 n3)
        ·
          exact case698 (σ := (sg n0 n1 n2 n3)) hL (kn q1 q157 q170 q175) TabOk.nil (hvv n0 n1 n2 n3)
        ·
          exact case699 (σ := (sg n0 n1 n2 n3)) hL (kn q1 q157 q170 q175) TabOk.nil (hvv n0 n1 n2 n3)
    ·
      have q176 : ((-9223372036854775808) ≤ n2 ∧ n2 ≤ (-1)) ∨ (0 ≤ n2 ∧ n2 ≤ 0) ∨ (1 ≤ n2 ∧ n2 ≤ 7) ∨ (8 ≤ n2 ∧ n2 ≤ 15) ∨ (16 ≤ n2 ∧ n2 ≤ 9223372036854775807) := by omega
      rcases q176 with q176 | q176 | q176 | q176 | q176
      ·
        have q177 : ((-9223372036854775808) ≤ n3 ∧ n3 ≤ (-1)) ∨ (0 ≤ n3 ∧ n3 ≤ 0) ∨ (1 ≤ n3 ∧ n3 ≤ 11) ∨ (12 ≤ n3 ∧ n3 ≤ 4095) ∨ (4096 ≤ n3 ∧ n3 ≤ 9223372036854775807) := by omega
        rcases q177 with q177 | q177 | q177 | q177 | q177
        ·
          exact case700 (σ := (sg n0 n1 n2 n3)) hL (kn q1 q157 q176 q177) TabOk.nil (hvv n0 n1 n2 n3)
        ·
          exact case701 (σ := (sg n0 n1 n2 n3)) hL (kn q1 q157 q176 q177) TabOk.nil (hvv n0 n1 n2 n3)
        ·
          exact case702 (σ := (sg n0 n1 n2 n3)) hL (kn q1 q157 q176 q177) TabOk.nil (hvv n0 n1 n2 n3)
        ·
          exact case703 (σ := (sg n0 n1 n2 n3)) hL (kn q1 q157 q176 q177) TabOk.nil (hvv n0 n1 n2 n3)
        ·
          exact case704 (σ := (sg n0 n1 n2 n3)) hL (kn q1 q157 q176 q177) TabOk.nil (hvv n0 n1 n2 n3)
      ·
        have q178 : ((-9223372036854775808) ≤ n3 ∧ n3 ≤ (-1)) ∨ (0 ≤ n3 ∧ n3 ≤ 0) ∨ (1 ≤ n3 ∧ n3 ≤ 11) ∨ (12 ≤ n3 ∧ n3 ≤ 4095) ∨ (4096 ≤ n3 ∧ n3 ≤ 9223372036854775807) := by omega
        rcases q178 with q178 | q178 | q178 | q178 | q178
        ·
          exact case705 (σ := (sg n0 n1 n2 n3)) hL (kn q1 q157 q176 q178) TabOk.nil (hvv n0 n1 n2 n3)
        ·
          exact case706 (σ := (sg n0 n1 n2 n3)) hL (kn q1 q157 q176 q178) TabOk.nil (hvv n0 n1 n2 n3)
        ·
          exact case707 (σ := (sg n0 n1 n2 n3)) hL (kn q1 q157 q176 q178) TabOk.nil (hvv n0 n1 n2 n3)
        ·
          exact case708 (σ := (sg n0 n1 n2 n3)) hL (kn q1 q157 q176 q178) TabOk.nil (hvv n0 n1 n2 n3)
        ·
          exact case709 (σ := (sg n0 n1 n2 n3)) hL (kn q1 q157 q176 q178) TabOk.nil (hvv n0 n1 n2 n3)
      ·
        have q179 : ((-9223372036854775808) ≤ n3 ∧ n3 ≤ (-1)) ∨ (0 ≤ n3 ∧ n3 ≤ 0) ∨ (1 ≤ n3 ∧ n3 ≤ 11) ∨ (12 ≤ n3 ∧ n3 ≤ 4095) ∨ (4096 ≤ n3 ∧ n3 ≤ 9223372036854775807) := by omega
        rcases q179 with q179 | q179 | q179 | q179 | q179
        ·
          exact case710 (σ := (sg n0 n1 n2 n3)) hL (kn q1 q157 q176 q179) TabOk.nil (hvv n0 n1 n2 n3)
        ·
          exact case711 (σ := (sg n0 n1 n2 n3)) hL (kn q1 q157 q176 q179) TabOk.nil (hvv n0 n1 n2 n3)
        ·
          exact case712 (σ := (sg n0 n1 n2 n3)) hL (kn q1 q157 q176 q179) TabOk.nil (hvv n0 n1 n2 n3)
        ·
          exact case713 (σ := (sg n0 n1 n2 n3)) hL (kn q1 q157 q176 q179) TabOk.nil (hvv n0 n1 n2 n3)
        ·
          exact case714 (σ := (sg n0 n1 n2 n3)) hL (kn q1 q157 q176 q179) TabOk.nil (hvv n0 n1 n2 n3)
      ·
        have q180 : ((-9223372036854775808) ≤ n3 ∧ n3 ≤ (-1)) ∨ (0 ≤ n3 ∧ n3 ≤ 0) ∨ (1 ≤ n3 ∧ n3 ≤ 11) ∨ (12 ≤ n3 ∧ n3 ≤ 4095) ∨ (4096 ≤ n3 ∧ n3 ≤ 9223372036854775807) := by omega
        rcases q180 with q180 | q180 | q180 | q180 | q180
        ·
          exact case715 (σ := (sg n0 n1 n2 n3)) hL (kn q1 q157 q176 q180) TabOk.nil (hvv n0 n1 n2 n3)
        ·
          exact case716 (σ := (sg n0 n1 n2 n3)) hL (kn q1 q157 q176 q180) TabOk.nil (hvv n0 n1 n2 n3)
        ·
          exact case717 (σ := (sg n0 n1 n2 n3)) hL (kn q1 q157 q176 q180) TabOk.nil (hvv n0 n1 n2 n3)
        ·
          exact case718 (σ := (sg n0 n1 n2 n3)) hL (kn q1 q157 q176 q180) TabOk.nil (hvv n0 n1 n2 n3)
        ·
          exact case719 (σ := (sg n0 n1 n2 n3)) hL (kn q1 q157 q176 q180) TabOk.nil (hvv n0 n1 n2 n3)
      ·
        have q181 : ((-9223372036854775808) ≤ n3 ∧ n3 ≤ (-1)) ∨ (0 ≤ n3 ∧ n3 ≤ 0) ∨ (1 ≤ n3 ∧ n3 ≤ 11) ∨ (12 ≤ n3 ∧ n3 ≤ 4095) ∨ (4096 ≤ n3 ∧ n3 ≤ 9223372036854775807) := by omega
        rcases q181 with q181 | q181 | q181 | q181 | q181
        ·
          exact case720 (σ := (sg n0 n1 n2 n3)) hL (kn q1 q157 q176 q181) TabOk.nil (hvv n0 n1 n2 n3)
        ·
          exact case721 (σ := (sg n0 n1 n2 n3)) hL (kn q1 q157 q176 q181) TabOk.nil (hvv n0 n1 n2 n3)
        ·
          exact case722 (σ := (sg n0 n1 n2 n3)) hL (kn q1 q157 q176 q181) TabOk.nil (hvv n0 n1 n2 n3)
        ·
          exact case723 (σ := (sg n0 n1 n2 n3)) hL (kn q1 q157 q176 q181) TabOk.nil (hvv n0 n1 n2 n3)
        ·
          exact case724 (σ := (sg n0 n1 n2 n3)) hL (kn q1 q157 q176 q181) TabOk.nil (hvv n0 n1 n2 n3)
    ·
      have q182 : ((-9223372036854775808) ≤ n2 ∧ n2 ≤ (-1)) ∨ (0 ≤ n2 ∧ n2 ≤ 0) ∨ (1 ≤ n2 ∧ n2 ≤ 7) ∨ (8 ≤ n2 ∧ n2 ≤ 15) ∨ (16 ≤ n2 ∧ n2 ≤ 9223372036854775807) := by omega
      rcases q182 with q182 | q182 | q182 | q182 | q182
      ·
        have q183 : ((-9223372036854775808) ≤ n3 ∧ n3 ≤ (-1)) ∨ (0 ≤ n3 ∧ n3 ≤ 0) ∨ (1 ≤ n3 ∧ n3 ≤ 11) ∨ (12 ≤ n3 ∧ n3 ≤ 4095) ∨ (4096 ≤ n3 ∧ n3 ≤ 9223372036854775807) := by omega
        rcases q183 with q183 | q183 | q183 | q183 | q183
        ·
          exact case725 (σ := (sg n0 n1 n2 n3)) hL (kn q1 q157 q182 q183) TabOk.nil (hvv n0 n1 n2 n3)
        ·
          exact case726 (σ := (sg n0 n1 n2 n3)) hL (kn q1 q157 q182 q183) TabOk.nil (hvv n0 n1 n2 n3)
        ·
          exact case727 (σ := (sg n0 n1 n2 n3)) hL (kn q1 q157 q182 q183) TabOk.nil (hvv n0 n1 n2 n3)
        ·
          exact case728 (σ := (sg n0 n1 n2 n3)) hL (kn q1 q157 q182 q183) TabOk.nil (hvv n0 n1 n2 n3)
        ·
          exact case729 (σ := (sg n0 n1 n2 n3)) hL (kn q1 q157 q182 q183) TabOk.nil (hvv n0 n1 n2 n3)
      ·
        have q184 : ((-9223372036854775808) ≤ n3 ∧ n3 ≤ (-1)) ∨ (0 ≤ n3 ∧ n3 ≤ 0) ∨ (1 ≤ n3 ∧ n3 ≤ 11) ∨ (12 ≤ n3 ∧ n3 ≤ 4095) ∨ (4096 ≤ n3 ∧ n3 ≤ 9223372036854775807) := by omega
        rcases q184 with q184 | q184 | q184 | q184 | q184
        ·
          exact case730 (σ := (sg n0 n1 n2 n3)) hL (kn q1 q157 q182 q184) TabOk.nil (hvv n0 n1 n2 n3)
        ·
          exact case731 (σ := (sg n0 n1 n2 n3)) hL (kn q1 q157 q182 q184) TabOk.nil (hvv n0 n1 n2 n3)
        ·
          exact case732 (σ := (sg n0 n1 n2 n3)) hL (kn q1 q157 q182 q184) TabOk.nil (hvv n0 n1 n2 n3)
        ·
          exact case733 (σ := (sg n0 n1 n2 n3)) hL (kn q1 q157 q182 q184) TabOk.nil (hvv n0 n1 n2 n3)
        ·
          exact case734 (σ := (sg n0 n1 n2 n3)) hL (kn q1 q157 q182 q184) TabOk.nil (hvv n0 n1 n2 n3)
      ·
        have q185 : ((-9223372036854775808) ≤ n3 ∧ n3 ≤ (-1)) ∨ (0 ≤ n3 ∧ n3 ≤ 0) ∨ (1 ≤ n3 ∧ n3 ≤ 11) ∨ (12 ≤ n3 ∧ n3 ≤ 4095) ∨ (4096 ≤ n3 ∧ n3 ≤ 9223372036854775807) := by omega
        rcases q185 with q185 | q185 | q185 | q185 | q185
        ·
          exact case735 (σ := (sg n0 n1 n2 n3)) hL (kn q1 q157 q182 q185) TabOk.nil (hvv n0 n1 n2 n3)
        ·
          exact case736 (σ := (sg n0 n1 n2 n3)) hL (kn q1 q157 q182 q185) TabOk.nil (hvv n0 n1 n2 n3)
        ·
          exact case737 (σ := (sg n0 n1 n2 n3)) hL (kn q1 q157 q182 q185) TabOk.nil (hvv n0 n1 n2 n3)
        ·
          exact case738 (σ := (sg n0 n1 n2 n3)) hL (kn q1 q157 q182 q185) TabOk.nil (hvv n0 n1 n2 n3)
        ·
          exact case739 (σ := (sg n0 n1 n2 n3)) hL (kn q1 q157 q182 q185) TabOk.nil (hvv n0 n1 n2 n3)
      ·
        have q186 : ((-9223372036854775808) ≤ n3 ∧ n3 ≤ (-1)) ∨ (0 ≤ n3 ∧ n3 ≤ 0) ∨ (1 ≤ n3 ∧ n3 ≤ 11) ∨ (12 ≤ n3 ∧ n3 ≤ 4095) ∨ (4096 ≤ n3 ∧ n3 ≤ 9223372036854775807) := by omega
        rcases q186 with q186 | q186 | q186 | q186 | q186
        ·
          exact case740 (σ := (sg n0 n1 n2 n3)) hL (kn q1 q157 q182 q186) TabOk.nil (hvv n0 n1 n2 n3)
        ·
          exact case741 (σ := (sg n0 n1 n2 n3)) hL (kn q1 q157 q182 q186) TabOk.nil (hvv n0 n1 n2 n3)
        ·
          exact case742 (σ := (sg n0 n1 n2 n3)) hL (kn q1 q157 q182 q186) TabOk.nil (hvv n0 n1 n2 n3)
        ·
          exact case743 (σ := (sg n0 n1 n2 n3)) hL (kn q1 q157 q182 q186) TabOk.nil (hvv n0 n1 n2 n3)
        ·
          exact case744 (σ := (sg n0 n1 n2 n3)) hL (kn q1 q157 q182 q186) TabOk.nil (hvv n0 n1 n2 n3)
      ·
        have q187 : ((-9223372036854775808) ≤ n3 ∧ n3 ≤ (-1)) ∨ (0 ≤ n3 ∧ n3 ≤ 0) ∨ (1 ≤ n3 ∧ n3 ≤ 11) ∨ (12 ≤ n3 ∧ n3 ≤ 4095) ∨ (4096 ≤ n3 ∧ n3 ≤ 9223372036854775807) := by omega
        rcases q187 with q187 | q187 | q187 | q187 | q187
        ·
          exact case745 (σ := (sg n0 n1 n2 n3)) hL (kn q1 q157 q182 q187) TabOk.nil (hvv n0 n1 n2 n3)
        ·
          exact case746 (σ := (sg n0 n1 n2 n3)) hL (kn q1 q157 q182 q187) TabOk.nil (hvv n0 n1 n2 n3)
        ·
          exact case747 (σ := (sg n0 n1 n2 n3)) hL (kn q1 q157 q182 q187) TabOk.nil (hvv n0 n1 n2 n3)
        ·
          exact case748 (σ := (sg n0 n1 n2 n3)) hL (kn q1 q157 q182 q187) TabOk.nil (hvv n0 n1 n2 n3)
        ·
          exact case749 (σ := (sg n0 n1 n2 n3)) hL (kn q1 q157 q182 q187) TabOk.nil (hvv n0 n1 n2 n3)
theorem contract (H : Type) (enc : TypeId × Value → H) (W : World) (base : Nat) (args : Array Value) (ds gs : List (DataW H)) (before : List MemPlace)
    (hval : ∀ (j : Nat) t v, Tryd.f4.params[j]? = some t → args[j]? = some v → Value.okWide Tryd.prog W .any base t v)
    (hW : DataW.Whole enc Tryd.prog Tryd.f4.params.toList Rows.codeBoundsSpec.vars false W args.toList ds gs before) (hL : laidMetH Tryd.prog Rows.codeBoundsRow.laid W) :
    Calls Tryd.prog 4 args W fun e W' => ∃ v, e = .returned v ∧ Rows.codeBoundsSpec.post enc Tryd.prog Tryd.f4 false true false false W args v W' := by
  have hW' := hW
  obtain ⟨p, q, hA0, hV, rfl, hfz, hnd⟩ := hW
  have hA : DataW.TrodAll enc Tryd.prog W 0 (fun _ => true) true Tryd.f4.params.toList args.toList ds p := hA0
  rw [Tryd.params4] at hA hval
  obtain ⟨v0, vs0, d0, ds0, p0, q0, hargs, rfl, rfl, h0, r0⟩ := trodAll_cons hA
  obtain ⟨v1, vs1, d1, ds1, p1, q1, rfl, rfl, rfl, h1, r1⟩ := trodAll_cons r0
  obtain ⟨v2, vs2, d2, ds2, p2, q2, rfl, rfl, rfl, h2, r2⟩ := trodAll_cons r1
  obtain ⟨v3, vs3, d3, ds3, p3, q3, rfl, rfl, rfl, h3, r3⟩ := trodAll_cons r2
  obtain ⟨rfl, rfl, rfl⟩ := trodAll_nil r3
  obtain rfl : args = #[v0, v1, v2, v3] := by cases args; simp_all
  obtain ⟨rfl, rfl⟩ := trodVars_none hV
  obtain ⟨n0, rfl, rfl, rfl, hn0⟩ := open_int Tryd.underlying3 (hval 0 3 v0 rfl rfl) h0
  obtain ⟨n1, rfl, rfl, rfl, hn1⟩ := open_int Tryd.underlying3 (hval 1 3 v1 rfl rfl) h1
  obtain ⟨n2, rfl, rfl, rfl, hn2⟩ := open_int Tryd.underlying3 (hval 2 3 v2 rfl rfl) h2
  obtain ⟨n3, rfl, rfl, rfl, hn3⟩ := open_int Tryd.underlying3 (hval 3 3 v3 rfl rfl) h3
  clear hA0
  simp only [List.append_nil] at hW'
  refine (walk W n0 hn0 n1 hn1 n2 hn2 n3 hn3 hL).mono fun e W' hh => ?_
  obtain ⟨he, hg⟩ := hh
  subst he
  exact ⟨_, rfl, _, _, _, [], [], [], hW', trodAll_cons_mk (shut_bool Tryd.underlying4 _) trodAll_mk0, trodAll_cons_mk (shut_int Tryd.underlying3 hn0) (trodAll_cons_mk (shut_int Tryd.underlying3 hn1) (trodAll_cons_mk (shut_int Tryd.underlying3 hn2) (trodAll_cons_mk (shut_int Tryd.underlying3 hn3) trodAll_mk0))), rfl, hg.frame _, fun h => Bool.noConfusion h⟩
theorem laid_met (os : Os) : laidMetH Tryd.prog Rows.codeBoundsRow.laid ((World.laidAll Tryd.prog os Rows.codeBoundsRow.laid).forCall (fun _ _ => 0) ⟨#[], #[.int .i64 0, .int .i64 0, .int .i64 0, .int .i64 0], []⟩).memory := by
  rw [MakeChecks.laidMetH_plain _ _ _ (by kernel_rfl)]
  exact laidMet_laidAll _ (by kernel_rfl) (by kernel_rfl)
theorem reads (os : Os) {H : Type} (enc : TypeId × Value → H) : ∃ places, DataW.whole enc Tryd.prog ((World.laidAll Tryd.prog os Rows.codeBoundsRow.laid).forCall (fun _ _ => 0) ⟨#[], #[.int .i64 0, .int .i64 0, .int .i64 0, .int .i64 0], []⟩).memory Tryd.f4.params.toList Rows.codeBoundsSpec.vars false #[Value.int .i64 0, .int .i64 0, .int .i64 0, .int .i64 0].toList 8 = some ([.lit (.int .i64 0), .lit (.int .i64 0), .lit (.int .i64 0), .lit (.int .i64 0)], [], places) :=
  ⟨[], by kernel_rfl⟩
theorem lifted (os : Os) (started : os.Started) (H : Type) (enc : TypeId × Value → H) (F : Stop.Interp) :
    ReturnsInHanded {} Tryd.checked os 4 .any ((OpenSpec.ofChange Rows.codeBoundsSpec).preRow enc Tryd.prog Tryd.f4 Rows.codeBoundsRow.domain false Rows.codeBoundsRow.laid) (((OpenSpec.ofChange Rows.codeBoundsSpec).at F).post enc Tryd.prog Tryd.f4 false true false false) := by
  obtain ⟨places, hx⟩ := reads os enc
  refine returnsInHanded_of_row (C := Tryd.checked) (s := OpenSpec.ofChange Rows.codeBoundsSpec) own started (by kernel_rfl) Tryd.func4
    (witness_row_atRef (enc := enc) (C := Tryd.checked) false (World.laidAll Tryd.prog os Rows.codeBoundsRow.laid) #[.int .i64 0, .int .i64 0, .int .i64 0, .int .i64 0] (World.laidAll_os _ _ _) (by kernel_rfl) (by kernel_rfl) (by kernel_rfl)
      (OpenSpec.preRow_of_cond 8 hx (by kernel_rfl) (fun k hk => by cases hk) (by kernel_rfl) (laid_met os))) ?_
  intro W base args ds gs before hval hW _ _ _ hL _ _
  exact contract H enc W base args ds gs before hval hW hL
set_option maxHeartbeats 4000000 in
theorem joined : joinedFacts Tryd.pinned.checked.prog 4 Tryd.f4 (OpenSpec.ofChange Rows.codeBoundsSpec).bare Rows.codeBoundsRow = true := by
  unfold joinedFacts
  simp only [Bool.and_eq_true]
  repeat' apply And.intro
  all_goals (as_aux_lemma => kernel_rfl)
theorem said : Rows.CodeBoundsSaid :=
  OpenClaim.holds_of_cond 4 Tryd.f4 rfl rfl rfl rfl rfl rfl rfl ⟨rfl, rfl, rfl, rfl, rfl⟩ rfl rfl rfl rfl rfl (by kernel_rfl) Tryd.func4 joined
    (of_decide_eq_true (by kernel_rfl)) (by unfold Func.isWrapper; first | (rw [if_pos (by decide +kernel)]; kernel_rfl) | (rw [if_neg (by decide +kernel)]; exact ⟨rfl, rfl⟩))
    (fun os started H enc _ F => by rw [OpenClaim.pre_eq_preRow]; exact lifted os started H enc F)
theorem plain (f : FuncId) (fn : Func) (hf : Tryd.pinned.checked.prog.funcNamed "turnkey/turnkeylaw14.CodeBounds" = some f) (hfn : Tryd.pinned.checked.prog.funcs[f]? = some fn) :
    true = Tryd.pinned.checked.prog.looks [] ∧ ∀ (j : Nat) t, fn.params[j]? = some t → Tryd.pinned.checked.prog.wantsStandIn t = false := by
  obtain rfl : f = 4 := Option.some.inj ((show Tryd.prog.funcNamed "turnkey/turnkeylaw14.CodeBounds" = some 4 by kernel_rfl).symm.trans hf) |>.symm
  obtain rfl : fn = Tryd.f4 := (Option.some.inj (Tryd.func4.symm.trans hfn)).symm
  refine ⟨by kernel_rfl, fun j t ht => ?_⟩
  rw [Tryd.params4] at ht
  have hm := Array.mem_of_getElem? ht
  have hall : ∀ t, t ∈ #[(3 : TypeId), (3 : TypeId), (3 : TypeId), (3 : TypeId)] → Tryd.prog.wantsStandIn t = false := by
    intro t h
    simp only [List.mem_toArray, List.mem_cons, List.not_mem_nil, or_false] at h
    rcases h with rfl | rfl | rfl | rfl
    · exact (show Tryd.prog.wantsStandIn 3 = false by kernel_rfl)
    · exact (show Tryd.prog.wantsStandIn 3 = false by kernel_rfl)
    · exact (show Tryd.prog.wantsStandIn 3 = false by kernel_rfl)
    · exact (show Tryd.prog.wantsStandIn 3 = false by kernel_rfl)
  exact hall t hm
theorem card : Rows.CodeBoundsCardSaid :=
  Claim7.holds_tied_plain_at .later [] _ _ _ _ said (fun _ h => by cases h) (by kernel_rfl) (fun _ h => by cases h) codeBounds_row_tie rfl ⟨rfl, rfl⟩ (by kernel_rfl) rfl plain (by kernel_rfl)
end Go.Proofs.YtkfhelmjaoepiaaDoor.codeBounds
