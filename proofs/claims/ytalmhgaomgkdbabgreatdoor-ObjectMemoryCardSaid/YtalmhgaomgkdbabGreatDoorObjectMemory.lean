/- ObjectMemory returns true for every input, and the input reads as it did; the listed errors hold what the program text lays. -/
import Derived.Test.YtalmhgaomgkdbabGreatDoorOyK3
import Derived.Deep.DeepWitnessRowRef
import Derived.Lay
set_option linter.unusedVariables false
set_option linter.unusedSimpArgs false
set_option maxRecDepth 10000000
namespace Go.Proofs.YtalmhgaomgkdbabGreatDoor.objectMemory
open Tk
open Go.ChangeShapes Go.WideShapes Go.ChangeAt Go.RowKit

theorem own : ownKnob Tryz.prog.godebug = none := by kernel_rfl
def sg (n0 : Int) (n1 : Int) (n2 : Int) : Nat → Int := fun i => if i = 0 then n0 else if i = 1 then n1 else if i = 2 then n2 else 0
theorem kn {n0 n1 n2 c r : Int} (lo0 : 0 ≤ n0) (hi0 : n0 ≤ 4294967295) (lo1 : 0 ≤ n1) (hi1 : n1 ≤ 4294967295) (lo2 : 0 ≤ n2) (hi2 : n2 ≤ 4294967295) (h0 : n0 % 40 = c) (h2 : n2 % 8 = r) :
    Known2 (sg n0 n1 n2) [(0, 4294967295), (0, 4294967295), (0, 4294967295)] [(true, .bop .rem .u32 (.var 0) (.lit 40), .lit c, true), (true, .bop .rem .u32 (.var 2) (.lit 8), .lit r, true)] := by
  have t0 : n0.tmod 40 = n0 % 40 := Int.tmod_eq_emod_of_nonneg lo0
  have t2 : n2.tmod 8 = n2 % 8 := Int.tmod_eq_emod_of_nonneg lo2
  refine ⟨?_, ?_⟩
  · intro i lo hi hr
    rcases i with _ | i
    · simp at hr
      obtain ⟨rfl, rfl⟩ := hr
      exact ⟨lo0, hi0⟩
    rcases i with _ | i
    · simp at hr
      obtain ⟨rfl, rfl⟩ := hr
      exact ⟨lo1, hi1⟩
    rcases i with _ | i
    · simp at hr
      obtain ⟨rfl, rfl⟩ := hr
      exact ⟨lo2, hi2⟩
    simp at hr
  · intro q a b t hm
    simp only [List.mem_cons, List.not_mem_nil, or_false, Prod.mk.injEq] at hm
    rcases hm with ⟨rfl, rfl, rfl, rfl⟩ | ⟨rfl, rfl, rfl, rfl⟩
    · simp [E.den, bopV, sg, t0, h0]
    · simp [E.den, bopV, sg, t2, h2]
theorem walk (W : World) (n0 : Int) (hn0 : (Lit.int .u32 n0).wf = true) (n1 : Int) (hn1 : (Lit.int .u32 n1).wf = true) (n2 : Int) (hn2 : (Lit.int .u32 n2).wf = true) (hL : laidMetH Tryz.prog laidErrs W) : Calls Tryz.prog 4 #[.int .u32 n0, .int .u32 n1, .int .u32 n2] W fun e w' => e = .returned (.bool true) ∧ Below W.heap.size W w' := by
  simp only [Lit.wf, Bool.and_eq_true, decide_eq_true_eq] at hn0
  have lo0 : 0 ≤ n0 := hn0.1
  have hi0 : n0 ≤ 4294967295 := hn0.2
  simp only [Lit.wf, Bool.and_eq_true, decide_eq_true_eq] at hn1
  have lo1 : 0 ≤ n1 := hn1.1
  have hi1 : n1 ≤ 4294967295 := hn1.2
  simp only [Lit.wf, Bool.and_eq_true, decide_eq_true_eq] at hn2
  have lo2 : 0 ≤ n2 := hn2.1
  have hi2 : n2 ≤ 4294967295 := hn2.2
  have tm0_40 : n0.tmod 40 = n0 % 40 := Int.tmod_eq_emod_of_nonneg lo0
  have tm2_8 : n2.tmod 8 = n2 % 8 := Int.tmod_eq_emod_of_nonneg lo2
  have q1 : (n0 % 40 = 0) ∨ (n0 % 40 = 1) ∨ (n0 % 40 = 2) ∨ (n0 % 40 = 3) ∨ (n0 % 40 = 4) ∨ (n0 % 40 = 5) ∨ (n0 % 40 = 6) ∨ (n0 % 40 = 7) ∨ (n0 % 40 = 8) ∨ (n0 % 40 = 9) ∨ (n0 % 40 = 10) ∨ (n0 % 40 = 11) ∨ (n0 % 40 = 12) ∨ (n0 % 40 = 13) ∨ (n0 % 40 = 14) ∨ (n0 % 40 = 15) ∨ (n0 % 40 = 16) ∨ (n0 % 40 = 17) ∨ (n0 % 40 = 18) ∨ (n0 % 40 = 19) ∨ (n0 % 40 = 20) ∨ (n0 % 40 = 21) ∨ (n0 % 40 = 22) ∨ (n0 % 40 = 23) ∨ (n0 % 40 = 24) ∨ (n0 % 40 = 25) ∨ (n0 % 40 = 26) ∨ (n0 % 40 = 27) ∨ (n0 % 40 = 28) ∨ (n0 % 40 = 29) ∨ (n0 % 40 = 30) ∨ (n0 % 40 = 31) ∨ (32 ≤ n0 % 40) := by omega
  rcases q1 with q1 | q1 | q1 | q1 | q1 | q1 | q1 | q1 | q1 | q1 | q1 | q1 | q1 | q1 | q1 | q1 | q1 | q1 | q1 | q1 | q1 | q1 | q1 | q1 | q1 | q1 | q1 | q1 | q1 | q1 | q1 | q1 | q1
  ·
    have q2 : (n2 % 8 = 0) ∨ (n2 % 8 = 1) ∨ (n2 % 8 = 2) ∨ (n2 % 8 = 3) ∨ (n2 % 8 = 4) ∨ (n2 % 8 = 5) ∨ (n2 % 8 = 6) ∨ (n2 % 8 = 7) := by omega
    rcases q2 with q2 | q2 | q2 | q2 | q2 | q2 | q2 | q2
    ·
      exact case0 (σ := (sg n0 n1 n2)) hL (kn lo0 hi0 lo1 hi1 lo2 hi2 q1 q2) TabOk.nil (fun ρ => VRs.cons (by simp [VR, E.den, sg]) (VRs.cons (by simp [VR, E.den, sg]) (VRs.cons (by simp [VR, E.den, sg]) (VRs.nil))))
    ·
      exact case1 (σ := (sg n0 n1 n2)) hL (kn lo0 hi0 lo1 hi1 lo2 hi2 q1 q2) TabOk.nil (fun ρ => VRs.cons (by simp [VR, E.den, sg]) (VRs.cons (by simp [VR, E.den, sg]) (VRs.cons (by simp [VR, E.den, sg]) (VRs.nil))))
    ·
      exact case2 (σ := (sg n0 n1 n2)) hL (kn lo0 hi0 lo1 hi1 lo2 hi2 q1 q2) TabOk.nil (fun ρ => VRs.cons (by simp [VR, E.den, sg]) (VRs.cons (by simp [VR, E.den, sg]) (VRs.cons (by simp [VR, E.den, sg]) (VRs.nil))))
    ·
      exact case3 (σ := (sg n0 n1 n2)) hL (kn lo0 hi0 lo1 hi1 lo2 hi2 q1 q2) TabOk.nil (fun ρ => VRs.cons (by simp [VR, E.den, sg]) (VRs.cons (by simp [VR, E.den, sg]) (VRs.cons (by simp [VR, E.den, sg]) (VRs.nil))))
    ·
      exact case4 (σ := (sg n0 n1 n2)) hL (kn lo0 hi0 lo1 hi1 lo2 hi2 q1 q2) TabOk.nil (fun ρ => VRs.cons (by simp [VR, E.den, sg]) (VRs.cons (by simp [VR, E.den, sg]) (VRs.cons (by simp [VR, E.den, sg]) (VRs.nil))))
    ·
      exact case5 (σ := (sg n0 n1 n2)) hL (kn lo0 hi0 lo1 hi1 lo2 hi2 q1 q2) TabOk.nil (fun ρ => VRs.cons (by simp [VR, E.den, sg]) (VRs.cons (by simp [VR, E.den, sg]) (VRs.cons (by simp [VR, E.den, sg]) (VRs.nil))))
    ·
      exact case6 (σ := (sg n0 n1 n2)) hL (kn lo0 hi0 lo1 hi1 lo2 hi2 q1 q2) TabOk.nil (fun ρ => VRs.cons (by simp [VR, E.den, sg]) (VRs.cons (by simp [VR, E.den, sg]) (VRs.cons (by simp [VR, E.den, sg]) (VRs.nil))))
    ·
      exact case7 (σ := (sg n0 n1 n2)) hL (kn lo0 hi0 lo1 hi1 lo2 hi2 q1 q2) TabOk.nil (fun ρ => VRs.cons (by simp [VR, E.den, sg]) (VRs.cons (by simp [VR, E.den, sg]) (VRs.cons (by simp [VR, E.den, sg]) (VRs.nil))))
  ·
    have q3 : (n2 % 8 = 0) ∨ (n2 % 8 = 1) ∨ (n2 % 8 = 2) ∨ (n2 % 8 = 3) ∨ (n2 % 8 = 4) ∨ (n2 % 8 = 5) ∨ (n2 % 8 = 6) ∨ (n2 % 8 = 7) := by omega
    rcases q3 with q3 | q3 | q3 | q3 | q3 | q3 | q3 | q3
    ·
      exact case8 (σ := (sg n0 n1 n2)) hL (kn lo0 hi0 lo1 hi1 lo2 hi2 q1 q3) TabOk.nil (fun ρ => VRs.cons (by simp [VR, E.den, sg]) (VRs.cons (by simp [VR, E.den, sg]) (VRs.cons (by simp [VR, E.den, sg]) (VRs.nil))))
    ·
      exact case9 (σ := (sg n0 n1 n2)) hL (kn lo0 hi0 lo1 hi1 lo2 hi2 q1 q3) TabOk.nil (fun ρ => VRs.cons (by simp [VR, E.den, sg]) (VRs.cons (by simp [VR, E.den, sg]) (VRs.cons (by simp [VR, E.den, sg]) (VRs.nil))))
    ·
      exact case10 (σ := (sg n0 n1 n2)) hL (kn lo0 hi0 lo1 hi1 lo2 hi2 q1 q3) TabOk.nil (fun ρ => VRs.cons (by simp [VR, E.den, sg]) (VRs.cons (by simp [VR, E.den, sg]) (VRs.cons (by simp [VR, E.den, sg]) (VRs.nil))))
    ·
      exact case11 (σ := (sg n0 n1 n2)) hL (kn lo0 hi0 lo1 hi1 lo2 hi2 q1 q3) TabOk.nil (fun ρ => VRs.cons (by simp [VR, E.den, sg]) (VRs.cons (by simp [VR, E.den, sg]) (VRs.cons (by simp [VR, E.den, sg]) (VRs.nil))))
    ·
      exact case12 (σ := (sg n0 n1 n2)) hL (kn lo0 hi0 lo1 hi1 lo2 hi2 q1 q3) TabOk.nil (fun ρ => VRs.cons (by simp [VR, E.den, sg]) (VRs.cons (by simp [VR, E.den, sg]) (VRs.cons (by simp [VR, E.den, sg]) (VRs.nil))))
    ·
      exact case13 (σ := (sg n0 n1 n2)) hL (kn lo0 hi0 lo1 hi1 lo2 hi2 q1 q3) TabOk.nil (fun ρ => VRs.cons (by simp [VR, E.den, sg]) (VRs.cons (by simp [VR, E.den, sg]) (VRs.cons (by simp [VR, E.den, sg]) (VRs.nil))))
    ·
      exact case14 (σ := (sg n0 n1 n2)) hL (kn lo0 hi0 lo1 hi1 lo2 hi2 q1 q3) TabOk.nil (fun ρ => VRs.cons (by simp [VR, E.den, sg]) (VRs.cons (by simp [VR, E.den, sg]) (VRs.cons (by simp [VR, E.den, sg]) (VRs.nil))))
    ·
      exact case15 (σ := (sg n0 n1 n2)) hL (kn lo0 hi0 lo1 hi1 lo2 hi2 q1 q3) TabOk.nil (fun ρ => VRs.cons (by simp [VR, E.den, sg]) (VRs.cons (by simp [VR, E.den, sg]) (VRs.cons (by simp [VR, E.den, sg]) (VRs.nil))))
  ·
    have q4 : (n2 % 8 = 0) ∨ (n2 % 8 = 1) ∨ (n2 % 8 = 2) ∨ (n2 % 8 = 3) ∨ (n2 % 8 = 4) ∨ (n2 % 8 = 5) ∨ (n2 % 8 = 6) ∨ (n2 % 8 = 7) := by omega
    rcases q4 with q4 | q4 | q4 | q4 | q4 | q4 | q4 | q4
    ·
      exact case16 (σ := (sg n0 n1 n2)) hL (kn lo0 hi0 lo1 hi1 lo2 hi2 q1 q4) TabOk.nil (fun ρ => VRs.cons (by simp [VR, E.den, sg]) (VRs.cons (by simp [VR, E.den, sg]) (VRs.cons (by simp [VR, E.den, sg]) (VRs.nil))))
    ·
      exact case17 (σ := (sg n0 n1 n2)) hL (kn lo0 hi0 lo1 hi1 lo2 hi2 q1 q4) TabOk.nil (fun ρ => VRs.cons (by simp [VR, E.den, sg]) (VRs.cons (by simp [VR, E.den, sg]) (VRs.cons (by simp [VR, E.den, sg]) (VRs.nil))))
    ·
      exact case18 (σ := (sg n0 n1 n2)) hL (kn lo0 hi0 lo1 hi1 lo2 hi2 q1 q4) TabOk.nil (fun ρ => VRs.cons (by simp [VR, E.den, sg]) (VRs.cons (by simp [VR, E.den, sg]) (VRs.cons (by simp [VR, E.den, sg]) (VRs.nil))))
    ·
      exact case19 (σ := (sg n0 n1 n2)) hL (kn lo0 hi0 lo1 hi1 lo2 hi2 q1 q4) TabOk.nil (fun ρ => VRs.cons (by simp [VR, E.den, sg]) (VRs.cons (by simp [VR, E.den, sg]) (VRs.cons (by simp [VR, E.den, sg]) (VRs.nil))))
    ·
      exact case20 (σ := (sg n0 n1 n2)) hL (kn lo0 hi0 lo1 hi1 lo2 hi2 q1 q4) TabOk.nil (fun ρ => VRs.cons (by simp [VR, E.den, sg]) (VRs.cons (by simp [VR, E.den, sg]) (VRs.cons (by simp [VR, E.den, sg]) (VRs.nil))))
    ·
      exact case21 (σ := (sg n0 n1 n2)) hL (kn lo0 hi0 lo1 hi1 lo2 hi2 q1 q4) TabOk.nil (fun ρ => VRs.cons (by simp [VR, E.den, sg]) (VRs.cons (by simp [VR, E.den, sg]) (VRs.cons (by simp [VR, E.den, sg]) (VRs.nil))))
    ·
      exact case22 (σ := (sg n0 n1 n2)) hL (kn lo0 hi0 lo1 hi1 lo2 hi2 q1 q4) TabOk.nil (fun ρ => VRs.cons (by simp [VR, E.den, sg]) (VRs.cons (by simp [VR, E.den, sg]) (VRs.cons (by simp [VR, E.den, sg]) (VRs.nil))))
    ·
      exact case23 (σ := (sg n0 n1 n2)) hL (kn lo0 hi0 lo1 hi1 lo2 hi2 q1 q4) TabOk.nil (fun ρ => VRs.cons (by simp [VR, E.den, sg]) (VRs.cons (by simp [VR, E.den, sg]) (VRs.cons (by simp [VR, E.den, sg]) (VRs.nil))))
  ·
    have q5 : (n2 % 8 = 0) ∨ (n2 % 8 = 1) ∨ (n2 % 8 = 2) ∨ (n2 % 8 = 3) ∨ (n2 % 8 = 4) ∨ (n2 % 8 = 5) ∨ (n2 % 8 = 6) ∨ (n2 % 8 = 7) := by omega
    rcases q5 with q5 | q5 | q5 | q5 | q5 | q5 | q5 | q5
    ·
      exact case24 (σ := (sg n0 n1 n2)) hL (kn lo0 hi0 lo1 hi1 lo2 hi2 q1 q5) TabOk.nil (fun ρ => VRs.cons (by simp [VR, E.den, sg]) (VRs.cons (by simp [VR, E.den, sg]) (VRs.cons (by simp [VR, E.den, sg]) (VRs.nil))))
    ·
      exact case25 (σ := (sg n0 n1 n2)) hL (kn lo0 hi0 lo1 hi1 lo2 hi2 q1 q5) TabOk.nil (fun ρ => VRs.cons (by simp [VR, E.den, sg]) (VRs.cons (by simp [VR, E.den, sg]) (VRs.cons (by simp [VR, E.den, sg]) (VRs.nil))))
    ·
      exact case26 (σ := (sg n0 n1 n2)) hL (kn lo0 hi0 lo1 hi1 lo2 hi2 q1 q5) TabOk.nil (fun ρ => VRs.cons (by simp [VR, E.den, sg]) (VRs.cons (by simp [VR, E.den, sg]) (VRs.cons (by simp [VR, E.den, sg]) (VRs.nil))))
    ·
      exact case27 (σ := (sg n0 n1 n2)) hL (kn lo0 hi0 lo1 hi1 lo2 hi2 q1 q5) TabOk.nil (fun ρ => VRs.cons (by simp [VR, E.den, sg]) (VRs.cons (by simp [VR, E.den, sg]) (VRs.cons (by simp [VR, E.den, sg]) (VRs.nil))))
    ·
      exact case28 (σ := (sg n0 n1 n2)) hL (kn lo0 hi0 lo1 hi1 lo2 hi2 q1 q5) TabOk.nil (fun ρ => VRs.cons (by simp [VR, E.den, sg]) (VRs.cons (by simp [VR, E.den, sg]) (VRs.cons (by simp [VR, E.den, sg]) (VRs.nil))))
    ·
      exact case29 (σ := (sg n0 n1 n2)) hL (kn lo0 hi0 lo1 hi1 lo2 hi2 q1 q5) TabOk.nil (fun ρ => VRs.cons (by simp [VR, E.den, sg]) (VRs.cons (by simp [VR, E.den, sg]) (VRs.cons (by simp [VR, E.den, sg]) (VRs.nil))))
    ·
      exact case30 (σ := (sg n0 n1 n2)) hL (kn lo0 hi0 lo1 hi1 lo2 hi2 q1 q5) TabOk.nil (fun ρ => VRs.cons (by simp [VR, E.den, sg]) (VRs.cons (by simp [VR, E.den, sg]) (VRs.cons (by simp [VR, E.den, sg]) (VRs.nil))))
    ·
      exact case31 (σ := (sg n0 n1 n2)) hL (kn lo0 hi0 lo1 hi1 lo2 hi2 q1 q5) TabOk.nil (fun ρ => VRs.cons (by simp [VR, E.den, sg]) (VRs.cons (by simp [VR, E.den, sg]) (VRs.cons (by simp [VR, E.den, sg]) (VRs.nil))))
  ·
    have q6 : (n2 % 8 = 0) ∨ (n2 % 8 = 1) ∨ (n2 % 8 = 2) ∨ (n2 % 8 = 3) ∨ (n2 % 8 = 4) ∨ (n2 % 8 = 5) ∨ (n2 % 8 = 6) ∨ (n2 % 8 = 7) := by omega
    rcases q6 with q6 | q6 | q6 | q6 | q6 | q6 | q6 | q6
    ·
      exact case32 (σ := (sg n0 n1 n2)) hL (kn lo0 hi0 lo1 hi1 lo2 hi2 q1 q6) TabOk.nil (fun ρ => VRs.cons (by simp [VR, E.den, sg]) (VRs.cons (by simp [VR, E.den, sg]) (VRs.cons (by simp [VR, E.den, sg]) (VRs.nil))))
    ·
      exact case33 (σ := (sg n0 n1 n2)) hL (kn lo0 hi0 lo1 hi1 lo2 hi2 q1 q6) TabOk.nil (fun ρ => VRs.cons (by simp [VR, E.den, sg]) (VRs.cons (by simp [VR, E.den, sg]) (VRs.cons (by simp [VR, E.den, sg]) (VRs.nil))))
    ·
      exact case34 (σ := (sg n0 n1 n2)) hL (kn lo0 hi0 lo1 hi1 lo2 hi2 q1 q6) TabOk.nil (fun ρ => VRs.cons (by simp [VR, E.den, sg]) (VRs.cons (by simp [VR, E.den, sg]) (VRs.cons (by simp [VR, E.den, sg]) (VRs.nil))))
    ·
      exact case35 (σ := (sg n0 n1 n2)) hL (kn lo0 hi0 lo1 hi1 lo2 hi2 q1 q6) TabOk.nil (fun ρ => VRs.cons (by simp [VR, E.den, sg]) (VRs.cons (by simp [VR, E.den, sg]) (VRs.cons (by simp [VR, E.den, sg]) (VRs.nil))))
    ·
      exact case36 (σ := (sg n0 n1 n2)) hL (kn lo0 hi0 lo1 hi1 lo2 hi2 q1 q6) TabOk.nil (fun ρ => VRs.cons (by simp [VR, E.den, sg]) (VRs.cons (by simp [VR, E.den, sg]) (VRs.cons (by simp [VR, E.den, sg]) (VRs.nil))))
    ·
      exact case37 (σ := (sg n0 n1 n2)) hL (kn lo0 hi0 lo1 hi1 lo2 hi2 q1 q6) TabOk.nil (fun ρ => VRs.cons (by simp [VR, E.den, sg]) (VRs.cons (by simp [VR, E.den, sg]) (VRs.cons (by simp [VR, E.den, sg]) (VRs.nil))))
    ·
      exact case38 (σ := (sg n0 n1 n2)) hL (kn lo0 hi0 lo1 hi1 lo2 hi2 q1 q6) TabOk.nil (fun ρ => VRs.cons (by simp [VR, E.den, sg]) (VRs.cons (by simp [VR, E.den, sg]) (VRs.cons (by simp [VR, E.den, sg]) (VRs.nil))))
    ·
      exact case39 (σ := (sg n0 n1 n2)) hL (kn lo0 hi0 lo1 hi1 lo2 hi2 q1 q6) TabOk.nil (fun ρ => VRs.cons (by simp [VR, E.den, sg]) (VRs.cons (by simp [VR, E.den, sg]) (VRs.cons (by simp [VR, E.den, sg]) (VRs.nil))))
  ·
    have q7 : (n2 % 8 = 0) ∨ (n2 % 8 = 1) ∨ (n2 % 8 = 2) ∨ (n2 % 8 = 3) ∨ (n2 % 8 = 4) ∨ (n2 % 8 = 5) ∨ (n2 % 8 = 6) ∨ (n2 % 8 = 7) := by omega
    rcases q7 with q7 | q7 | q7 | q7 | q7 | q7 | q7 | q7
    ·
      exact case40 (σ := (sg n0 n1 n2)) hL (kn lo0 hi0 lo1 hi1 lo2 hi2 q1 q7) TabOk.nil (fun ρ => VRs.cons (by simp [VR, E.den, sg]) (VRs.cons (by simp [VR, E.den, sg]) (VRs.cons (by simp [VR, E.den, sg]) (VRs.nil))))
    ·
      exact case41 (σ := (sg n0 n1 n2)) hL (kn lo0 hi0 lo1 hi1 lo2 hi2 q1 q7) TabOk.nil (fun ρ => VRs.cons (by simp [VR, E.den, sg]) (VRs.cons (by simp [VR, E.den, sg]) (VRs.cons (by simp [VR, E.den, sg]) (VRs.nil))))
    ·
      exact case42 (σ := (sg n0 n1 n2)) hL (kn lo0 hi0 lo1 hi1 lo2 hi2 q1 q7) TabOk.nil (fun ρ => VRs.cons (by simp [VR, E.den, sg]) (VRs.cons (by simp [VR, E.den, sg]) (VRs.cons (by simp [VR, E.den, sg]) (VRs.nil))))
    ·
      exact case43 (σ := (sg n0 n1 n2)) hL (kn lo0 hi0 lo1 hi1 lo2 hi2 q1 q7) TabOk.nil (fun ρ => VRs.cons (by simp [VR, E.den, sg]) (VRs.cons (by simp [VR, E.den, sg]) (VRs.cons (by simp [VR, E.den, sg]) (VRs.nil))))
    ·
      exact case44 (σ := (sg n0 n1 n2)) hL (kn lo0 hi0 lo1 hi1 lo2 hi2 q1 q7) TabOk.nil (fun ρ => VRs.cons (by simp [VR, E.den, sg]) (VRs.cons (by simp [VR, E.den, sg]) (VRs.cons (by simp [VR, E.den, sg]) (VRs.nil))))
    ·
      exact case45 (σ := (sg n0 n1 n2)) hL (kn lo0 hi0 lo1 hi1 lo2 hi2 q1 q7) TabOk.nil (fun ρ => VRs.cons (by simp [VR, E.den, sg]) (VRs.cons (by simp [VR, E.den, sg]) (VRs.cons (by simp [VR, E.den, sg]) (VRs.nil))))
    ·
      exact case46 (σ := (sg n0 n1 n2)) hL (kn lo0 hi0 lo1 hi1 lo2 hi2 q1 q7) TabOk.nil (fun ρ => VRs.cons (by simp [VR, E.den, sg]) (VRs.cons (by simp [VR, E.den, sg]) (VRs.cons (by simp [VR, E.den, sg]) (VRs.nil))))
    ·
      exact case47 (σ := (sg n0 n1 n2)) hL (kn lo0 hi0 lo1 hi1 lo2 hi2 q1 q7) TabOk.nil (fun ρ => VRs.cons (by simp [VR, E.den, sg]) (VRs.cons (by simp [VR, E.den, sg]) (VRs.cons (by simp [VR, E.den, sg]) (VRs.nil))))
  ·
    have q8 : (n2 % 8 = 0) ∨ (n2 % 8 = 1) ∨ (n2 % 8 = 2) ∨ (n2 % 8 = 3) ∨ (n2 % 8 = 4) ∨ (n2 % 8 = 5) ∨ (n2 % 8 = 6) ∨ (n2 % 8 = 7) := by omega
    rcases q8 with q8 | q8 | q8 | q8 | q8 | q8 | q8 | q8
    ·
      exact case48 (σ := (sg n0 n1 n2)) hL (kn lo0 hi0 lo1 hi1 lo2 hi2 q1 q8) TabOk.nil (fun ρ => VRs.cons (by simp [VR, E.den, sg]) (VRs.cons (by simp [VR, E.den, sg]) (VRs.cons (by simp [VR, E.den, sg]) (VRs.nil))))
    ·
      exact case49 (σ := (sg n0 n1 n2)) hL (kn lo0 hi0 lo1 hi1 lo2 hi2 q1 q8) TabOk.nil (fun ρ => VRs.cons (by simp [VR, E.den, sg]) (VRs.cons (by simp [VR, E.den, sg]) (VRs.cons (by simp [VR, E.den, sg]) (VRs.nil))))
    ·
      exact case50 (σ := (sg n0 n1 n2)) hL (kn lo0 hi0 lo1 hi1 lo2 hi2 q1 q8) TabOk.nil (fun ρ => VRs.cons (by simp [VR, E.den, sg]) (VRs.cons (by simp [VR, E.den, sg]) (VRs.cons (by simp [VR, E.den, sg]) (VRs.nil))))
    ·
      exact case51 (σ := (sg n0 n1 n2)) hL (kn lo0 hi0 lo1 hi1 lo2 hi2 q1 q8) TabOk.nil (fun ρ => VRs.cons (by simp [VR, E.den, sg]) (VRs.cons (by simp [VR, E.den, sg]) (VRs.cons (by simp [VR, E.den, sg]) (VRs.nil))))
    ·
      exact case52 (σ := (sg n0 n1 n2)) hL (kn lo0 hi0 lo1 hi1 lo2 hi2 q1 q8) TabOk.nil (fun ρ => VRs.cons (by simp [VR, E.den, sg]) (VRs.cons (by simp [VR, E.den, sg]) (VRs.cons (by simp [VR, E.den, sg]) (VRs.nil))))
    ·
      exact case53 (σ := (sg n0 n1 n2)) hL (kn lo0 hi0 lo1 hi1 lo2 hi2 q1 q8) TabOk.nil (fun ρ => VRs.cons (by simp [VR, E.den, sg]) (VRs.cons (by simp [VR, E.den, sg]) (VRs.cons (by simp [VR, E.den, sg]) (VRs.nil))))
    ·
      exact case54 (σ := (sg n0 n1 n2)) hL (kn lo0 hi0 lo1 hi1 lo2 hi2 q1 q8) TabOk.nil (fun ρ => VRs.cons (by simp [VR, E.den, sg]) (VRs.cons (by simp [VR, E.den, sg]) (VRs.cons (by simp [VR, E.den, sg]) (VRs.nil))))
    ·
      exact case55 (σ := (sg n0 n1 n2)) hL (kn lo0 hi0 lo1 hi1 lo2 hi2 q1 q8) TabOk.nil (fun ρ => VRs.cons (by simp [VR, E.den, sg]) (VRs.cons (by simp [VR, E.den, sg]) (VRs.cons (by simp [VR, E.den, sg]) (VRs.nil))))
  ·
    have q9 : (n2 % 8 = 0) ∨ (n2 % 8 = 1) ∨ (n2 % 8 = 2) ∨ (n2 % 8 = 3) ∨ (n2 % 8 = 4) ∨ (n2 % 8 = 5) ∨ (n2 % 8 = 6) ∨ (n2 % 8 = 7) := by omega
    rcases q9 with q9 | q9 | q9 | q9 | q9 | q9 | q9 | q9
    ·
      exact case56 (σ := (sg n0 n1 n2)) hL (kn lo0 hi0 lo1 hi1 lo2 hi2 q1 q9) TabOk.nil (fun ρ => VRs.cons (by simp [VR, E.den, sg]) (VRs.cons (by simp [VR, E.den, sg]) (VRs.cons (by simp [VR, E.den, sg]) (VRs.nil))))
    ·
      exact case57 (σ := (sg n0 n1 n2)) hL (kn lo0 hi0 lo1 hi1 lo2 hi2 q1 q9) TabOk.nil (fun ρ => VRs.cons (by simp [VR, E.den, sg]) (VRs.cons (by simp [VR, E.den, sg]) (VRs.cons (by simp [VR, E.den, sg]) (VRs.nil))))
    ·
      exact case58 (σ := (sg n0 n1 n2)) hL (kn lo0 hi0 lo1 hi1 lo2 hi2 q1 q9) TabOk.nil (fun ρ => VRs.cons (by simp [VR, E.den, sg]) (VRs.cons (by simp [VR, E.den, sg]) (VRs.cons (by simp [VR, E.den, sg]) (VRs.nil))))
    ·
      exact case59 (σ := (sg n0 n1 n2)) hL (kn lo0 hi0 lo1 hi1 lo2 hi2 q1 q9) TabOk.nil (fun ρ => VRs.cons (by simp [VR, E.den, sg]) (VRs.cons (by simp [VR, E.den, sg]) (VRs.cons (by simp [VR, E.den, sg]) (VRs.nil))))
    ·
      exact case60 (σ := (sg n0 n1 n2)) hL (kn lo0 hi0 lo1 hi1 lo2 hi2 q1 q9) TabOk.nil (fun ρ => VRs.cons (by simp [VR, E.den, sg]) (VRs.cons (by simp [VR, E.den, sg]) (VRs.cons (by simp [VR, E.den, sg]) (VRs.nil))))
    ·
      exact case61 (σ := (sg n0 n1 n2)) hL (kn lo0 hi0 lo1 hi1 lo2 hi2 q1 q9) TabOk.nil (fun ρ => VRs.cons (by simp [VR, E.den, sg]) (VRs.cons (by simp [VR, E.den, sg]) (VRs.cons (by simp [VR, E.den, sg]) (VRs.nil))))
    ·
      exact case62 (σ := (sg n0 n1 n2)) hL (kn lo0 hi0 lo1 hi1 lo2 hi2 q1 q9) TabOk.nil (fun ρ => VRs.cons (by simp [VR, E.den, sg]) (VRs.cons (by simp [VR, E.den, sg]) (VRs.cons (by simp [VR, E.den, sg]) (VRs.nil))))
    ·
      exact case63 (σ := (sg n0 n1 n2)) hL (kn lo0 hi0 lo1 hi1 lo2 hi2 q1 q9) TabOk.nil (fun ρ => VRs.cons (by simp [VR, E.den, sg]) (VRs.cons (by simp [VR, E.den, sg]) (VRs.cons (by simp [VR, E.den, sg]) (VRs.nil))))
  ·
    have q10 : (n2 % 8 = 0) ∨ (n2 % 8 = 1) ∨ (n2 % 8 = 2) ∨ (n2 % 8 = 3) ∨ (n2 % 8 = 4) ∨ (n2 % 8 = 5) ∨ (n2 % 8 = 6) ∨ (n2 % 8 = 7) := by omega
    rcases q10 with q10 | q10 | q10 | q10 | q10 | q10 | q10 | q10
    ·
      exact case64 (σ := (sg n0 n1 n2)) hL (kn lo0 hi0 lo1 hi1 lo2 hi2 q1 q10) TabOk.nil (fun ρ => VRs.cons (by simp [VR, E.den, sg]) (VRs.cons (by simp [VR, E.den, sg]) (VRs.cons (by simp [VR, E.den, sg]) (VRs.nil))))
    ·
      exact case65 (σ := (sg n0 n1 n2)) hL (kn lo0 hi0 lo1 hi1 lo2 hi2 q1 q10) TabOk.nil (fun ρ => VRs.cons (by simp [VR, E.den, sg]) (VRs.cons (by simp [VR, E.den, sg]) (VRs.cons (by simp [VR, E.den, sg]) (VRs.nil))))
    ·
      exact case66 (σ := (sg n0 n1 n2)) hL (kn lo0 hi0 lo1 hi1 lo2 hi2 q1 q10) TabOk.nil (fun ρ => VRs.cons (by simp [VR, E.den, sg]) (VRs.cons (by simp [VR, E.den, sg]) (VRs.cons (by simp [VR, E.den, sg]) (VRs.nil))))
    ·
      exact case67 (σ := (sg n0 n1 n2)) hL (kn lo0 hi0 lo1 hi1 lo2 hi2 q1 q10) TabOk.nil (fun ρ => VRs.cons (by simp [VR, E.den, sg]) (VRs.cons (by simp [VR, E.den, sg]) (VRs.cons (by simp [VR, E.den, sg]) (VRs.nil))))
    ·
      exact case68 (σ := (sg n0 n1 n2)) hL (kn lo0 hi0 lo1 hi1 lo2 hi2 q1 q10) TabOk.nil (fun ρ => VRs.cons (by simp [VR, E.den, sg]) (VRs.cons (by simp [VR, E.den, sg]) (VRs.cons (by simp [VR, E.den, sg]) (VRs.nil))))
    ·
      exact case69 (σ := (sg n0 n1 n2)) hL (kn lo0 hi0 lo1 hi1 lo2 hi2 q1 q10) TabOk.nil (fun ρ => VRs.cons (by simp [VR, E.den, sg]) (VRs.cons (by simp [VR, E.den, sg]) (VRs.cons (by simp [VR, E.den, sg]) (VRs.nil))))
    ·
      exact case70 (σ := (sg n0 n1 n2)) hL (kn lo0 hi0 lo1 hi1 lo2 hi2 q1 q10) TabOk.nil (fun ρ => VRs.cons (by simp [VR, E.den, sg]) (VRs.cons (by simp [VR, E.den, sg]) (VRs.cons (by simp [VR, E.den, sg]) (VRs.nil))))
    ·
      exact case71 (σ := (sg n0 n1 n2)) hL (kn lo0 hi0 lo1 hi1 lo2 hi2 q1 q10) TabOk.nil (fun ρ => VRs.cons (by simp [VR, E.den, sg]) (VRs.cons (by simp [VR, E.den, sg]) (VRs.cons (by simp [VR, E.den, sg]) (VRs.nil))))
  ·
    have q11 : (n2 % 8 = 0) ∨ (n2 % 8 = 1) ∨ (n2 % 8 = 2) ∨ (n2 % 8 = 3) ∨ (n2 % 8 = 4) ∨ (n2 % 8 = 5) ∨ (n2 % 8 = 6) ∨ (n2 % 8 = 7) := by omega
    rcases q11 with q11 | q11 | q11 | q11 | q11 | q11 | q11 | q11
    ·
      exact case72 (σ := (sg n0 n1 n2)) hL (kn lo0 hi0 lo1 hi1 lo2 hi2 q1 q11) TabOk.nil (fun ρ => VRs.cons (by simp [VR, E.den, sg]) (VRs.cons (by simp [VR, E.den, sg]) (VRs.cons (by simp [VR, E.den, sg]) (VRs.nil))))
    ·
      exact case73 (σ := (sg n0 n1 n2)) hL (kn lo0 hi0 lo1 hi1 lo2 hi2 q1 q11) TabOk.nil (fun ρ => VRs.cons (by simp [VR, E.den, sg]) (VRs.cons (by simp [VR, E.den, sg]) (VRs.cons (by simp [VR, E.den, sg]) (VRs.nil))))
    ·
      exact case74 (σ := (sg n0 n1 n2)) hL (kn lo0 hi0 lo1 hi1 lo2 hi2 q1 q11) TabOk.nil (fun ρ => VRs.cons (by simp [VR, E.den, sg]) (VRs.cons (by simp [VR, E.den, sg]) (VRs.cons (by simp [VR, E.den, sg]) (VRs.nil))))
    ·
      exact case75 (σ := (sg n0 n1 n2)) hL (kn lo0 hi0 lo1 hi1 lo2 hi2 q1 q11) TabOk.nil (fun ρ => VRs.cons (by simp [VR, E.den, sg]) (VRs.cons (by simp [VR, E.den, sg]) (VRs.cons (by simp [VR, E.den, sg]) (VRs.nil))))
    ·
      exact case76 (σ := (sg n0 n1 n2)) hL (kn lo0 hi0 lo1 hi1 lo2 hi2 q1 q11) TabOk.nil (fun ρ => VRs.cons (by simp [VR, E.den, sg]) (VRs.cons (by simp [VR, E.den, sg]) (VRs.cons (by simp [VR, E.den, sg]) (VRs.nil))))
    ·
      exact case77 (σ := (sg n0 n1 n2)) hL (kn lo0 hi0 lo1 hi1 lo2 hi2 q1 q11) TabOk.nil (fun ρ => VRs.cons (by simp [VR, E.den, sg]) (VRs.cons (by simp [VR, E.den, sg]) (VRs.cons (by simp [VR, E.den, sg]) (VRs.nil))))
    ·
      exact case78 (σ := (sg n0 n1 n2)) hL (kn lo0 hi0 lo1 hi1 lo2 hi2 q1 q11) TabOk.nil (fun ρ => VRs.cons (by simp [VR, E.den, sg]) (VRs.cons (by simp [VR, E.den, sg]) (VRs.cons (by simp [VR, E.den, sg]) (VRs.nil))))
    ·
      exact case79 (σ := (sg n0 n1 n2)) hL (kn lo0 hi0 lo1 hi1 lo2 hi2 q1 q11) TabOk.nil (fun ρ => VRs.cons (by simp [VR, E.den, sg]) (VRs.cons (by simp [VR, E.den, sg]) (VRs.cons (by simp [VR, E.den, sg]) (VRs.nil))))
  ·
    have q12 : (n2 % 8 = 0) ∨ (n2 % 8 = 1) ∨ (n2 % 8 = 2) ∨ (n2 % 8 = 3) ∨ (n2 % 8 = 4) ∨ (n2 % 8 = 5) ∨ (n2 % 8 = 6) ∨ (n2 % 8 = 7) := by omega
    rcases q12 with q12 | q12 | q12 | q12 | q12 | q12 | q12 | q12
    ·
      exact case80 (σ := (sg n0 n1 n2)) hL (kn lo0 hi0 lo1 hi1 lo2 hi2 q1 q12) TabOk.nil (fun ρ => VRs.cons (by simp [VR, E.den, sg]) (VRs.cons (by simp [VR, E.den, sg]) (VRs.cons (by simp [VR, E.den, sg]) (VRs.nil))))
    ·
      exact case81 (σ := (sg n0 n1 n2)) hL (kn lo0 hi0 lo1 hi1 lo2 hi2 q1 q12) TabOk.nil (fun ρ => VRs.cons (by simp [VR, E.den, sg]) (VRs.cons (by simp [VR, E.den, sg]) (VRs.cons (by simp [VR, E.den, sg]) (VRs.nil))))
    ·
      exact case82 (σ := (sg n0 n1 n2)) hL (kn lo0 hi0 lo1 hi1 lo2 hi2 q1 q12) TabOk.nil (fun ρ => VRs.cons (by simp [VR, E.den, sg]) (VRs.cons (by simp [VR, E.den, sg]) (VRs.cons (by simp [VR, E.den, sg]) (VRs.nil))))
    ·
      exact case83 (σ := (sg n0 n1 n2)) hL (kn lo0 hi0 lo1 hi1 lo2 hi2 q1 q12) TabOk.nil (fun ρ => VRs.cons (by simp [VR, E.den, sg]) (VRs.cons (by simp [VR, E.den, sg]) (VRs.cons (by simp [VR, E.den, sg]) (VRs.nil))))
    ·
      exact case84 (σ := (sg n0 n1 n2)) hL (kn lo0 hi0 lo1 hi1 lo2 hi2 q1 q12) TabOk.nil (fun ρ => VRs.cons (by simp [VR, E.den, sg]) (VRs.cons (by simp [VR, E.den, sg]) (VRs.cons (by simp [VR, E.den, sg]) (VRs.nil))))
    ·
      exact case85 (σ := (sg n0 n1 n2)) hL (kn lo0 hi0 lo1 hi1 lo2 hi2 q1 q12) TabOk.nil (fun ρ => VRs.cons (by simp [VR, E.den, sg]) (VRs.cons (by simp [VR, E.den, sg]) (VRs.cons (by simp [VR, E.den, sg]) (VRs.nil))))
    ·
      exact case86 (σ := (sg n0 n1 n2)) hL (kn lo0 hi0 lo1 hi1 lo2 hi2 q1 q12) TabOk.nil (fun ρ => VRs.cons (by simp [VR, E.den, sg]) (VRs.cons (by simp [VR, E.den, sg]) (VRs.cons (by simp [VR, E.den, sg]) (VRs.nil))))
    ·
      exact case87 (σ := (sg n0 n1 n2)) hL (kn lo0 hi0 lo1 hi1 lo2 hi2 q1 q12) TabOk.nil (fun ρ => VRs.cons (by simp [VR, E.den, sg]) (VRs.cons (by simp [VR, E.den, sg]) (VRs.cons (by simp [VR, E.den, sg]) (VRs.nil))))
  ·
    have q13 : (n2 % 8 = 0) ∨ (n2 % 8 = 1) ∨ (n2 % 8 = 2) ∨ (n2 % 8 = 3) ∨ (n2 % 8 = 4) ∨ (n2 % 8 = 5) ∨ (n2 % 8 = 6) ∨ (n2 % 8 = 7) := by omega
    rcases q13 with q13 | q13 | q13 | q13 | q13 | q13 | q13 | q13
    ·
      exact case88 (σ := (sg n0 n1 n2)) hL (kn lo0 hi0 lo1 hi1 lo2 hi2 q1 q13) TabOk.nil (fun ρ => VRs.cons (by simp [VR, E.den, sg]) (VRs.cons (by simp [VR, E.den, sg]) (VRs.cons (by simp [VR, E.den, sg]) (VRs.nil))))
    ·
      exact case89 (σ := (sg n0 n1 n2)) hL (kn lo0 hi0 lo1 hi1 lo2 hi2 q1 q13) TabOk.nil (fun ρ => VRs.cons (by simp [VR, E.den, sg]) (VRs.cons (by simp [VR, E.den, sg]) (VRs.cons (by simp [VR, E.den, sg]) (VRs.nil))))
    ·
      exact case90 (σ := (sg n0 n1 n2)) hL (kn lo0 hi0 lo1 hi1 lo2 hi2 q1 q13) TabOk.nil (fun ρ => VRs.cons (by simp [VR, E.den, sg]) (VRs.cons (by simp [VR, E.den, sg]) (VRs.cons (by simp [VR, E.den, sg]) (VRs.nil))))
    ·
      exact case91 (σ := (sg n0 n1 n2)) hL (kn lo0 hi0 lo1 hi1 lo2 hi2 q1 q13) TabOk.nil (fun ρ => VRs.cons (by simp [VR, E.den, sg]) (VRs.cons (by simp [VR, E.den, sg]) (VRs.cons (by simp [VR, E.den, sg]) (VRs.nil))))
    ·
      exact case92 (σ := (sg n0 n1 n2)) hL (kn lo0 hi0 lo1 hi1 lo2 hi2 q1 q13) TabOk.nil (fun ρ => VRs.cons (by simp [VR, E.den, sg]) (VRs.cons (by simp [VR, E.den, sg]) (VRs.cons (by simp [VR, E.den, sg]) (VRs.nil))))
    ·
      exact case93 (σ := (sg n0 n1 n2)) hL (kn lo0 hi0 lo1 hi1 lo2 hi2 q1 q13) TabOk.nil (fun ρ => VRs.cons (by simp [VR, E.den, sg]) (VRs.cons (by simp [VR, E.den, sg]) (VRs.cons (by simp [VR, E.den, sg]) (VRs.nil))))
    ·
      exact case94 (σ := (sg n0 n1 n2)) hL (kn lo0 hi0 lo1 hi1 lo2 hi2 q1 q13) TabOk.nil (fun ρ => VRs.cons (by simp [VR, E.den, sg]) (VRs.cons (by simp [VR, E.den, sg]) (VRs.cons (by simp [VR, E.den, sg]) (VRs.nil))))
    ·
      exact case95 (σ := (sg n0 n1 n2)) hL (kn lo0 hi0 lo1 hi1 lo2 hi2 q1 q13) TabOk.nil (fun ρ => VRs.cons (by simp [VR, E.den, sg]) (VRs.cons (by simp [VR, E.den, sg]) (VRs.cons (by simp [VR, E.den, sg]) (VRs.nil))))
  ·
    have q14 : (n2 % 8 = 0) ∨ (n2 % 8 = 1) ∨ (n2 % 8 = 2) ∨ (n2 % 8 = 3) ∨ (n2 % 8 = 4) ∨ (n2 % 8 = 5) ∨ (n2 % 8 = 6) ∨ (n2 % 8 = 7) := by omega
    rcases q14 with q14 | q14 | q14 | q14 | q14 | q14 | q14 | q14
    ·
      exact case96 (σ := (sg n0 n1 n2)) hL (kn lo0 hi0 lo1 hi1 lo2 hi2 q1 q14) TabOk.nil (fun ρ => VRs.cons (by simp [VR, E.den, sg]) (VRs.cons (by simp [VR, E.den, sg]) (VRs.cons (by simp [VR, E.den, sg]) (VRs.nil))))
    ·
      exact case97 (σ := (sg n0 n1 n2)) hL (kn lo0 hi0 lo1 hi1 lo2 hi2 q1 q14) TabOk.nil (fun ρ => VRs.cons (by simp [VR, E.den, sg]) (VRs.cons (by simp [VR, E.den, sg]) (VRs.cons (by simp [VR, E.den, sg]) (VRs.nil))))
    ·
      exact case98 (σ := (sg n0 n1 n2)) hL (kn lo0 hi0 lo1 hi1 lo2 hi2 q1 q14) TabOk.nil (fun ρ => VRs.cons (by simp [VR, E.den, sg]) (VRs.cons (by simp [VR, E.den, sg]) (VRs.cons (by simp [VR, E.den, sg]) (VRs.nil))))
    ·
      exact case99 (σ := (sg n0 n1 n2)) hL (kn lo0 hi0 lo1 hi1 lo2 hi2 q1 q14) TabOk.nil (fun ρ => VRs.cons (by simp [VR, E.den, sg]) (VRs.cons (by simp [VR, E.den, sg]) (VRs.cons (by simp [VR, E.den, sg]) (VRs.nil))))
    ·
      exact case100 (σ := (sg n0 n1 n2)) hL (kn lo0 hi0 lo1 hi1 lo2 hi2 q1 q14) TabOk.nil (fun ρ => VRs.cons (by simp [VR, E.den, sg]) (VRs.cons (by simp [VR, E.den, sg]) (VRs.cons (by simp [VR, E.den, sg]) (VRs.nil))))
    ·
      exact case101 (σ := (sg n0 n1 n2)) hL (kn lo0 hi0 lo1 hi1 lo2 hi2 q1 q14) TabOk.nil (fun ρ => VRs.cons (by simp [VR, E.den, sg]) (VRs.cons (by simp [VR, E.den, sg]) (VRs.cons (by simp [VR, E.den, sg]) (VRs.nil))))
    ·
      exact case102 (σ := (sg n0 n1 n2)) hL (kn lo0 hi0 lo1 hi1 lo2 hi2 q1 q14) TabOk.nil (fun ρ => VRs.cons (by simp [VR, E.den, sg]) (VRs.cons (by simp [VR, E.den, sg]) (VRs.cons (by simp [VR, E.den, sg]) (VRs.nil))))
    ·
      exact case103 (σ := (sg n0 n1 n2)) hL (kn lo0 hi0 lo1 hi1 lo2 hi2 q1 q14) TabOk.nil (fun ρ => VRs.cons (by simp [VR, E.den, sg]) (VRs.cons (by simp [VR, E.den, sg]) (VRs.cons (by simp [VR, E.den, sg]) (VRs.nil))))
  ·
    have q15 : (n2 % 8 = 0) ∨ (n2 % 8 = 1) ∨ (n2 % 8 = 2) ∨ (n2 % 8 = 3) ∨ (n2 % 8 = 4) ∨ (n2 % 8 = 5) ∨ (n2 % 8 = 6) ∨ (n2 % 8 = 7) := by omega
    rcases q15 with q15 | q15 | q15 | q15 | q15 | q15 | q15 | q15
    ·
      exact case104 (σ := (sg n0 n1 n2)) hL (kn lo0 hi0 lo1 hi1 lo2 hi2 q1 q15) TabOk.nil (fun ρ => VRs.cons (by simp [VR, E.den, sg]) (VRs.cons (by simp [VR, E.den, sg]) (VRs.cons (by simp [VR, E.den, sg]) (VRs.nil))))
    ·
      exact case105 (σ := (sg n0 n1 n2)) hL (kn lo0 hi0 lo1 hi1 lo2 hi2 q1 q15) TabOk.nil (fun ρ => VRs.cons (by simp [VR, E.den, sg]) (VRs.cons (by simp [VR, E.den, sg]) (VRs.cons (by simp [VR, E.den, sg]) (VRs.nil))))
    ·
      exact case106 (σ := (sg n0 n1 n2)) hL (kn lo0 hi0 lo1 hi1 lo2 hi2 q1 q15) TabOk.nil (fun ρ => VRs.cons (by simp [VR, E.den, sg]) (VRs.cons (by simp [VR, E.den, sg]) (VRs.cons (by simp [VR, E.den, sg]) (VRs.nil))))
    ·
      exact case107 (σ := (sg n0 n1 n2)) hL (kn lo0 hi0 lo1 hi1 lo2 hi2 q1 q15) TabOk.nil (fun ρ => VRs.cons (by simp [VR, E.den, sg]) (VRs.cons (by simp [VR, E.den, sg]) (VRs.cons (by simp [VR, E.den, sg]) (VRs.nil))))
    ·
      exact case108 (σ := (sg n0 n1 n2)) hL (kn lo0 hi0 lo1 hi1 lo2 hi2 q1 q15) TabOk.nil (fun ρ => VRs.cons (by simp [VR, E.den, sg]) (VRs.cons (by simp [VR, E.den, sg]) (VRs.cons (by simp [VR, E.den, sg]) (VRs.nil))))
    ·
      exact case109 (σ := (sg n0 n1 n2)) hL (kn lo0 hi0 lo1 hi1 lo2 hi2 q1 q15) TabOk.nil (fun ρ => VRs.cons (by simp [VR, E.den, sg]) (VRs.cons (by simp [VR, E.den, sg]) (VRs.cons (by simp [VR, E.den, sg]) (VRs.nil))))
    ·
      exact case110 (σ := (sg n0 n1 n2)) hL (kn lo0 hi0 lo1 hi1 lo2 hi2 q1 q15) TabOk.nil (fun ρ => VRs.cons (by simp [VR, E.den, sg]) (VRs.cons (by simp [VR, E.den, sg]) (VRs.cons (by simp [VR, E.den, sg]) (VRs.nil))))
    ·
      exact case111 (σ := (sg n0 n1 n2)) hL (kn lo0 hi0 lo1 hi1 lo2 hi2 q1 q15) TabOk.nil (fun ρ => VRs.cons (by simp [VR, E.den, sg]) (VRs.cons (by simp [VR, E.den, sg]) (VRs.cons (by simp [VR, E.den, sg]) (VRs.nil))))
  ·
    have q16 : (n2 % 8 = 0) ∨ (n2 % 8 = 1) ∨ (n2 % 8 = 2) ∨ (n2 % 8 = 3) ∨ (n2 % 8 = 4) ∨ (n2 % 8 = 5) ∨ (n2 % 8 = 6) ∨ (n2 % 8 = 7) := by omega
    rcases q16 with q16 | q16 | q16 | q16 | q16 | q16 | q16 | q16
    ·
      exact case112 (σ := (sg n0 n1 n2)) hL (kn lo0 hi0 lo1 hi1 lo2 hi2 q1 q16) TabOk.nil (fun ρ => VRs.cons (by simp [VR, E.den, sg]) (VRs.cons (by simp [VR, E.den, sg]) (VRs.cons (by simp [VR, E.den, sg]) (VRs.nil))))
    ·
      exact case113 (σ := (sg n0 n1 n2)) hL (kn lo0 hi0 lo1 hi1 lo2 hi2 q1 q16) TabOk.nil (fun ρ => VRs.cons (by simp [VR, E.den, sg]) (VRs.cons (by simp [VR, E.den, sg]) (VRs.cons (by simp [VR, E.den, sg]) (VRs.nil))))
    ·
      exact case114 (σ := (sg n0 n1 n2)) hL (kn lo0 hi0 lo1 hi1 lo2 hi2 q1 q16) TabOk.nil (fun ρ => VRs.cons (by simp [VR, E.den, sg]) (VRs.cons (by simp [VR, E.den, sg]) (VRs.cons (by simp [VR, E.den, sg]) (VRs.nil))))
    ·
      exact case115 (σ := (sg n0 n1 n2)) hL (kn lo0 hi0 lo1 hi1 lo2 hi2 q1 q16) TabOk.nil (fun ρ => VRs.cons (by simp [VR, E.den, sg]) (VRs.cons (by simp [VR, E.den, sg]) (VRs.cons (by simp [VR, E.den, sg]) (VRs.nil))))
    ·
      exact case116 (σ := (sg n0 n1 n2)) hL (kn lo0 hi0 lo1 hi1 lo2 hi2 q1 q16) TabOk.nil (fun ρ => VRs.cons (by simp [VR, E.den, sg]) (VRs.cons (by simp [VR, E.den, sg]) (VRs.cons (by simp [VR, E.den, sg]) (VRs.nil))))
    ·
      exact case117 (σ := (sg n0 n1 n2)) hL (kn lo0 hi0 lo1 hi1 lo2 hi2 q1 q16) TabOk.nil (fun ρ => VRs.cons (by simp [VR, E.den, sg]) (VRs.cons (by simp [VR, E.den, sg]) (VRs.cons (by simp [VR, E.den, sg]) (VRs.nil))))
    ·
      exact case118 (σ := (sg n0 n1 n2)) hL (kn lo0 hi0 lo1 hi1 lo2 hi2 q1 q16) TabOk.nil (fun ρ => VRs.cons (by simp [VR, E.den, sg]) (VRs.cons (by simp [VR, E.den, sg]) (VRs.cons (by simp [VR, E.den, sg]) (VRs.nil))))
    ·
      exact case119 (σ := (sg n0 n1 n2)) hL (kn lo0 hi0 lo1 hi1 lo2 hi2 q1 q16) TabOk.nil (fun ρ => VRs.cons (by simp [VR, E.den, sg]) (VRs.cons (by simp [VR, E.den, sg]) (VRs.cons (by simp [VR, E.den, sg]) (VRs.nil))))
  ·
    have q17 : (n2 % 8 = 0) ∨ (n2 % 8 = 1) ∨ (n2 % 8 = 2) ∨ (n2 % 8 = 3) ∨ (n2 % 8 = 4) ∨ (n2 % 8 = 5) ∨ (n2 % 8 = 6) ∨ (n2 % 8 = 7) := by omega
    rcases q17 with q17 | q17 | q17 | q17 | q17 | q17 | q17 | q17
    ·
      exact case120 (σ := (sg n0 n1 n2)) hL (kn lo0 hi0 lo1 hi1 lo2 hi2 q1 q17) TabOk.nil (fun ρ => VRs.cons (by simp [VR, E.den, sg]) (VRs.cons (by simp [VR, E.den, sg]) (VRs.cons (by simp [VR, E.den, sg]) (VRs.nil))))
    ·
      exact case121 (σ := (sg n0 n1 n2)) hL (kn lo0 hi0 lo1 hi1 lo2 hi2 q1 q17) TabOk.nil (fun ρ => VRs.cons (by simp [VR, E.den, sg]) (VRs.cons (by simp [VR, E.den, sg]) (VRs.cons (by simp [VR, E.den, sg]) (VRs.nil))))
    ·
      exact case122 (σ := (sg n0 n1 n2)) hL (kn lo0 hi0 lo1 hi1 lo2 hi2 q1 q17) TabOk.nil (fun ρ => VRs.cons (by simp [VR, E.den, sg]) (VRs.cons (by simp [VR, E.den, sg]) (VRs.cons (by simp [VR, E.den, sg]) (VRs.nil))))
    ·
      exact case123 (σ := (sg n0 n1 n2)) hL (kn lo0 hi0 lo1 hi1 lo2 hi2 q1 q17) TabOk.nil (fun ρ => VRs.cons (by simp [VR, E.den, sg]) (VRs.cons (by simp [VR, E.den, sg]) (VRs.cons (by simp [VR, E.den, sg]) (VRs.nil))))
    ·
      exact case124 (σ := (sg n0 n1 n2)) hL (kn lo0 hi0 lo1 hi1 lo2 hi2 q1 q17) TabOk.nil (fun ρ => VRs.cons (by simp [VR, E.den, sg]) (VRs.cons (by simp [VR, E.den, sg]) (VRs.cons (by simp [VR, E.den, sg]) (VRs.nil))))
    ·
      exact case125 (σ := (sg n0 n1 n2)) hL (kn lo0 hi0 lo1 hi1 lo2 hi2 q1 q17) TabOk.nil (fun ρ => VRs.cons (by simp [VR, E.den, sg]) (VRs.cons (by simp [VR, E.den, sg]) (VRs.cons (by simp [VR, E.den, sg]) (VRs.nil))))
    ·
      exact case126 (σ := (sg n0 n1 n2)) hL (kn lo0 hi0 lo1 hi1 lo2 hi2 q1 q17) TabOk.nil (fun ρ => VRs.cons (by simp [VR, E.den, sg]) (VRs.cons (by simp [VR, E.den, sg]) (VRs.cons (by simp [VR, E.den, sg]) (VRs.nil))))
    ·
      exact case127 (σ := (sg n0 n1 n2)) hL (kn lo0 hi0 lo1 hi1 lo2 hi2 q1 q17) TabOk.nil (fun ρ => VRs.cons (by simp [VR, E.den, sg]) (VRs.cons (by simp [VR, E.den, sg]) (VRs.cons (by simp [VR, E.den, sg]) (VRs.nil))))
  ·
    have q18 : (n2 % 8 = 0) ∨ (n2 % 8 = 1) ∨ (n2 % 8 = 2) ∨ (n2 % 8 = 3) ∨ (n2 % 8 = 4) ∨ (n2 % 8 = 5) ∨ (n2 % 8 = 6) ∨ (n2 % 8 = 7) := by omega
    rcases q18 with q18 | q18 | q18 | q18 | q18 | q18 | q18 | q18
    ·
      exact case128 (σ := (sg n0 n1 n2)) hL (kn lo0 hi0 lo1 hi1 lo2 hi2 q1 q18) TabOk.nil (fun ρ => VRs.cons (by simp [VR, E.den, sg]) (VRs.cons (by simp [VR, E.den, sg]) (VRs.cons (by simp [VR, E.den, sg]) (VRs.nil))))
    ·
      exact case129 (σ := (sg n0 n1 n2)) hL (kn lo0 hi0 lo1 hi1 lo2 hi2 q1 q18) TabOk.nil (fun ρ => VRs.cons (by simp [VR, E.den, sg]) (VRs.cons (by simp [VR, E.den, sg]) (VRs.cons (by simp [VR, E.den, sg]) (VRs.nil))))
    ·
      exact case130 (σ := (sg n0 n1 n2)) hL (kn lo0 hi0 lo1 hi1 lo2 hi2 q1 q18) TabOk.nil (fun ρ => VRs.cons (by simp [VR, E.den, sg]) (VRs.cons (by simp [VR, E.den, sg]) (VRs.cons (by simp [VR, E.den, sg]) (VRs.nil))))
    ·
      exact case131 (σ := (sg n0 n1 n2)) hL (kn lo0 hi0 lo1 hi1 lo2 hi2 q1 q18) TabOk.nil (fun ρ => VRs.cons (by simp [VR, E.den, sg]) (VRs.cons (by simp [VR, E.den, sg]) (VRs.cons (by simp [VR, E.den, sg]) (VRs.nil))))
    ·
      exact case132 (σ := (sg n0 n1 n2)) hL (kn lo0 hi0 lo1 hi1 lo2 hi2 q1 q18) TabOk.nil (fun ρ => VRs.cons (by simp [VR, E.den, sg]) (VRs.cons (by simp [VR, E.den, sg]) (VRs.cons (by simp [VR, E.den, sg]) (VRs.nil))))
    ·
      exact case133 (σ := (sg n0 n1 n2)) hL (kn lo0 hi0 lo1 hi1 lo2 hi2 q1 q18) TabOk.nil (fun ρ => VRs.cons (by simp [VR, E.den, sg]) (VRs.cons (by simp [VR, E.den, sg]) (VRs.cons (by simp [VR, E.den, sg]) (VRs.nil))))
    ·
      exact case134 (σ := (sg n0 n1 n2)) hL (kn lo0 hi0 lo1 hi1 lo2 hi2 q1 q18) TabOk.nil (fun ρ => VRs.cons (by simp [VR, E.den, sg]) (VRs.cons (by simp [VR, E.den, sg]) (VRs.cons (by simp [VR, E.den, sg]) (VRs.nil))))
    ·
      exact case135 (σ := (sg n0 n1 n2)) hL (kn lo0 hi0 lo1 hi1 lo2 hi2 q1 q18) TabOk.nil (fun ρ => VRs.cons (by simp [VR, E.den, sg]) (VRs.cons (by simp [VR, E.den, sg]) (VRs.cons (by simp [VR, E.den, sg]) (VRs.nil))))
  ·
    have q19 : (n2 % 8 = 0) ∨ (n2 % 8 = 1) ∨ (n2 % 8 = 2) ∨ (n2 % 8 = 3) ∨ (n2 % 8 = 4) ∨ (n2 % 8 = 5) ∨ (n2 % 8 = 6) ∨ (n2 % 8 = 7) := by omega
    rcases q19 with q19 | q19 | q19 | q19 | q19 | q19 | q19 | q19
    ·
      exact case136 (σ := (sg n0 n1 n2)) hL (kn lo0 hi0 lo1 hi1 lo2 hi2 q1 q19) TabOk.nil (fun ρ => VRs.cons (by simp [VR, E.den, sg]) (VRs.cons (by simp [VR, E.den, sg]) (VRs.cons (by simp [VR, E.den, sg]) (VRs.nil))))
    ·
      exact case137 (σ := (sg n0 n1 n2)) hL (kn lo0 hi0 lo1 hi1 lo2 hi2 q1 q19) TabOk.nil (fun ρ => VRs.cons (by simp [VR, E.den, sg]) (VRs.cons (by simp [VR, E.den, sg]) (VRs.cons (by simp [VR, E.den, sg]) (VRs.nil))))
    ·
      exact case138 (σ := (sg n0 n1 n2)) hL (kn lo0 hi0 lo1 hi1 lo2 hi2 q1 q19) TabOk.nil (fun ρ => VRs.cons (by simp [VR, E.den, sg]) (VRs.cons (by simp [VR, E.den, sg]) (VRs.cons (by simp [VR, E.den, sg]) (VRs.nil))))
    ·
      exact case139 (σ := (sg n0 n1 n2)) hL (kn lo0 hi0 lo1 hi1 lo2 hi2 q1 q19) TabOk.nil (fun ρ => VRs.cons (by simp [VR, E.den, sg]) (VRs.cons (by simp [VR, E.den, sg]) (VRs.cons (by simp [VR, E.den, sg]) (VRs.nil))))
    ·
      exact case140 (σ := (sg n0 n1 n2)) hL (kn lo0 hi0 lo1 hi1 lo2 hi2 q1 q19) TabOk.nil (fun ρ => VRs.cons (by simp [VR, E.den, sg]) (VRs.cons (by simp [VR, E.den, sg]) (VRs.cons (by simp [VR, E.den, sg]) (VRs.nil))))
    ·
      exact case141 (σ := (sg n0 n1 n2)) hL (kn lo0 hi0 lo1 hi1 lo2 hi2 q1 q19) TabOk.nil (fun ρ => VRs.cons (by simp [VR, E.den, sg]) (VRs.cons (by simp [VR, E.den, sg]) (VRs.cons (by simp [VR, E.den, sg]) (VRs.nil))))
    ·
      exact case142 (σ := (sg n0 n1 n2)) hL (kn lo0 hi0 lo1 hi1 lo2 hi2 q1 q19) TabOk.nil (fun ρ => VRs.cons (by simp [VR, E.den, sg]) (VRs.cons (by simp [VR, E.den, sg]) (VRs.cons (by simp [VR, E.den, sg]) (VRs.nil))))
    ·
      exact case143 (σ := (sg n0 n1 n2)) hL (kn lo0 hi0 lo1 hi1 lo2 hi2 q1 q19) TabOk.nil (fun ρ => VRs.cons (by simp [VR, E.den, sg]) (VRs.cons (by simp [VR, E.den, sg]) (VRs.cons (by simp [VR, E.den, sg]) (VRs.nil))))
  ·
    have q20 : (n2 % 8 = 0) ∨ (n2 % 8 = 1) ∨ (n2 % 8 = 2) ∨ (n2 % 8 = 3) ∨ (n2 % 8 = 4) ∨ (n2 % 8 = 5) ∨ (n2 % 8 = 6) ∨ (n2 % 8 = 7) := by omega
    rcases q20 with q20 | q20 | q20 | q20 | q20 | q20 | q20 | q20
    ·
      exact case144 (σ := (sg n0 n1 n2)) hL (kn lo0 hi0 lo1 hi1 lo2 hi2 q1 q20) TabOk.nil (fun ρ => VRs.cons (by simp [VR, E.den, sg]) (VRs.cons (by simp [VR, E.den, sg]) (VRs.cons (by simp [VR, E.den, sg]) (VRs.nil))))
    ·
      exact case145 (σ := (sg n0 n1 n2)) hL (kn lo0 hi0 lo1 hi1 lo2 hi2 q1 q20) TabOk.nil (fun ρ => VRs.cons (by simp [VR, E.den, sg]) (VRs.cons (by simp [VR, E.den, sg]) (VRs.cons (by simp [VR, E.den, sg]) (VRs.nil))))
    ·
      exact case146 (σ := (sg n0 n1 n2)) hL (kn lo0 hi0 lo1 hi1 lo2 hi2 q1 q20) TabOk.nil (fun ρ => VRs.cons (by simp [VR, E.den, sg]) (VRs.cons (by simp [VR, E.den, sg]) (VRs.cons (by simp [VR, E.den, sg]) (VRs.nil))))
    ·
      exact case147 (σ := (sg n0 n1 n2)) hL (kn lo0 hi0 lo1 hi1 lo2 hi2 q1 q20) TabOk.nil (fun ρ => VRs.cons (by simp [VR, E.den, sg]) (VRs.cons (by simp [VR, E.den, sg]) (VRs.cons (by simp [VR, E.den, sg]) (VRs.nil))))
    ·
      exact case148 (σ := (sg n0 n1 n2)) hL (kn lo0 hi0 lo1 hi1 lo2 hi2 q1 q20) TabOk.nil (fun ρ => VRs.cons (by simp [VR, E.den, sg]) (VRs.cons (by simp [VR, E.den, sg]) (VRs.cons (by simp [VR, E.den, sg]) (VRs.nil))))
    ·
      exact case149 (σ := (sg n0 n1 n2)) hL (kn lo0 hi0 lo1 hi1 lo2 hi2 q1 q20) TabOk.nil (fun ρ => VRs.cons (by simp [VR, E.den, sg]) (VRs.cons (by simp [VR, E.den, sg]) (VRs.cons (by simp [VR, E.den, sg]) (VRs.nil))))
    ·
      exact case150 (σ := (sg n0 n1 n2)) hL (kn lo0 hi0 lo1 hi1 lo2 hi2 q1 q20) TabOk.nil (fun ρ => VRs.cons (by simp [VR, E.den, sg]) (VRs.cons (by simp [VR, E.den, sg]) (VRs.cons (by simp [VR, E.den, sg]) (VRs.nil))))
    ·
      exact case151 (σ := (sg n0 n1 n2)) hL (kn lo0 hi0 lo1 hi1 lo2 hi2 q1 q20) TabOk.nil (fun ρ => VRs.cons (by simp [VR, E.den, sg]) (VRs.cons (by simp [VR, E.den, sg]) (VRs.cons (by simp [VR, E.den, sg]) (VRs.nil))))
  ·
    have q21 : (n2 % 8 = 0) ∨ (n2 % 8 = 1) ∨ (n2 % 8 = 2) ∨ (n2 % 8 = 3) ∨ (n2 % 8 = 4) ∨ (n2 % 8 = 5) ∨ (n2 % 8 = 6) ∨ (n2 % 8 = 7) := by omega
    rcases q21 with q21 | q21 | q21 | q21 | q21 | q21 | q21 | q21
    ·
      exact case152 (σ := (sg n0 n1 n2)) hL (kn lo0 hi0 lo1 hi1 lo2 hi2 q1 q21) TabOk.nil (fun ρ => VRs.cons (by simp [VR, E.den, sg]) (VRs.cons (by simp [VR, E.den, sg]) (VRs.cons (by simp [VR, E.den, sg]) (VRs.nil))))
    ·
      exact case153 (σ := (sg n0 n1 n2)) hL (kn lo0 hi0 lo1 hi1 lo2 hi2 q1 q21) TabOk.nil (fun ρ => VRs.cons (by simp [VR, E.den, sg]) (VRs.cons (by simp [VR, E.den, sg]) (VRs.cons (by simp [VR, E.den, sg]) (VRs.nil))))
    ·
      exact case154 (σ := (sg n0 n1 n2)) hL (kn lo0 hi0 lo1 hi1 lo2 hi2 q1 q21) TabOk.nil (fun ρ => VRs.cons (by simp [VR, E.den, sg]) (VRs.cons (by simp [VR, E.den, sg]) (VRs.cons (by simp [VR, E.den, sg]) (VRs.nil))))
    ·
      exact case155 (σ := (sg n0 n1 n2)) hL (kn lo0 hi0 lo1 hi1 lo2 hi2 q1 q21) TabOk.nil (fun ρ => VRs.cons (by simp [VR, E.den, sg]) (VRs.cons (by simp [VR, E.den, sg]) (VRs.cons (by simp [VR, E.den, sg]) (VRs.nil))))
    ·
      exact case156 (σ := (sg n0 n1 n2)) hL (kn lo0 hi0 lo1 hi1 lo2 hi2 q1 q21) TabOk.nil (fun ρ => VRs.cons (by simp [VR, E.den, sg]) (VRs.cons (by simp [VR, E.den, sg]) (VRs.cons (by simp [VR, E.den, sg]) (VRs.nil))))
    ·
      exact case157 (σ := (sg n0 n1 n2)) hL (kn lo0 hi0 lo1 hi1 lo2 hi2 q1 q21) TabOk.nil (fun ρ => VRs.cons (by simp [VR, E.den, sg]) (VRs.cons (by simp [VR, E.den, sg]) (VRs.cons (by simp [VR, E.den, sg]) (VRs.nil))))
    ·
      exact case158 (σ := (sg n0 n1 n2)) hL (kn lo0 hi0 lo1 hi1 lo2 hi2 q1 q21) TabOk.nil (fun ρ => VRs.cons (by simp [VR, E.den, sg]) (VRs.cons (by simp [VR, E.den, sg]) (VRs.cons (by simp [VR, E.den, sg]) (VRs.nil))))
    ·
      exact case159 (σ := (sg n0 n1 n2)) hL (kn lo0 hi0 lo1 hi1 lo2 hi2 q1 q21) TabOk.nil (fun ρ => VRs.cons (by simp [VR, E.den, sg]) (VRs.cons (by simp [VR, E.den, sg]) (VRs.cons (by simp [VR, E.den, sg]) (VRs.nil))))
  ·
    have q22 : (n2 % 8 = 0) ∨ (n2 % 8 = 1) ∨ (n2 % 8 = 2) ∨ (n2 % 8 = 3) ∨ (n2 % 8 = 4) ∨ (n2 % 8 = 5) ∨ (n2 % 8 = 6) ∨ (n2 % 8 = 7) := by omega
    rcases q22 with q22 | q22 | q22 | q22 | q22 | q22 | q22 | q22
    ·
      exact case160 (σ := (sg n0 n1 n2)) hL (kn lo0 hi0 lo1 hi1 lo2 hi2 q1 q22) TabOk.nil (fun ρ => VRs.cons (by simp [VR, E.den, sg]) (VRs.cons (by simp [VR, E.den, sg]) (VRs.cons (by simp [VR, E.den, sg]) (VRs.nil))))
    ·
      exact case161 (σ := (sg n0 n1 n2)) hL (kn lo0 hi0 lo1 hi1 lo2 hi2 q1 q22) TabOk.nil (fun ρ => VRs.cons (by simp [VR, E.den, sg]) (VRs.cons (by simp [VR, E.den, sg]) (VRs.cons (by simp [VR, E.den, sg]) (VRs.nil))))
    ·
      exact case162 (σ := (sg n0 n1 n2)) hL (kn lo0 hi0 lo1 hi1 lo2 hi2 q1 q22) TabOk.nil (fun ρ => VRs.cons (by simp [VR, E.den, sg]) (VRs.cons (by simp [VR, E.den, sg]) (VRs.cons (by simp [VR, E.den, sg]) (VRs.nil))))
    ·
      exact case163 (σ := (sg n0 n1 n2)) hL (kn lo0 hi0 lo1 hi1 lo2 hi2 q1 q22) TabOk.nil (fun ρ => VRs.cons (by simp [VR, E.den, sg]) (VRs.cons (by simp [VR, E.den, sg]) (VRs.cons (by simp [VR, E.den, sg]) (VRs.nil))))
    ·
      exact case164 (σ := (sg n0 n1 n2)) hL (kn lo0 hi0 lo1 hi1 lo2 hi2 q1 q22) TabOk.nil (fun ρ => VRs.cons (by simp [VR, E.den, sg]) (VRs.cons (by simp [VR, E.den, sg]) (VRs.cons (by simp [VR, E.den, sg]) (VRs.nil))))
    ·
      exact case165 (σ := (sg n0 n1 n2)) hL (kn lo0 hi0 lo1 hi1 lo2 hi2 q1 q22) TabOk.nil (fun ρ => VRs.cons (by simp [VR, E.den, sg]) (VRs.cons (by simp [VR, E.den, sg]) (VRs.cons (by simp [VR, E.den, sg]) (VRs.nil))))
    ·
      exact case166 (σ := (sg n0 n1 n2)) hL (kn lo0 hi0 lo1 hi1 lo2 hi2 q1 q22) TabOk.nil (fun ρ => VRs.cons (by simp [VR, E.den, sg]) (VRs.cons (by simp [VR, E.den, sg]) (VRs.cons (by simp [VR, E.den, sg]) (VRs.nil))))
    ·
      exact case167 (σ := (sg n0 n1 n2)) hL (kn lo0 hi0 lo1 hi1 lo2 hi2 q1 q22) TabOk.nil (fun ρ => VRs.cons (by simp [VR, E.den, sg]) (VRs.cons (by simp [VR, E.den, sg]) (VRs.cons (by simp [VR, E.den, sg]) (VRs.nil))))
  ·
    have q23 : (n2 % 8 = 0) ∨ (n2 % 8 = 1) ∨ (n2 % 8 = 2) ∨ (n2 % 8 = 3) ∨ (n2 % 8 = 4) ∨ (n2 % 8 = 5) ∨ (n2 % 8 = 6) ∨ (n2 % 8 = 7) := by omega
    rcases q23 with q23 | q23 | q23 | q23 | q23 | q23 | q23 | q23
    ·
      exact case168 (σ := (sg n0 n1 n2)) hL (kn lo0 hi0 lo1 hi1 lo2 hi2 q1 q23) TabOk.nil (fun ρ => VRs.cons (by simp [VR, E.den, sg]) (VRs.cons (by simp [VR, E.den, sg]) (VRs.cons (by simp [VR, E.den, sg]) (VRs.nil))))
    ·
      exact case169 (σ := (sg n0 n1 n2)) hL (kn lo0 hi0 lo1 hi1 lo2 hi2 q1 q23) TabOk.nil (fun ρ => VRs.cons (by simp [VR, E.den, sg]) (VRs.cons (by simp [VR, E.den, sg]) (VRs.cons (by simp [VR, E.den, sg]) (VRs.nil))))
    ·
      exact case170 (σ := (sg n0 n1 n2)) hL (kn lo0 hi0 lo1 hi1 lo2 hi2 q1 q23) TabOk.nil (fun ρ => VRs.cons (by simp [VR, E.den, sg]) (VRs.cons (by simp [VR, E.den, sg]) (VRs.cons (by simp [VR, E.den, sg]) (VRs.nil))))
    ·
      exact case171 (σ := (sg n0 n1 n2)) hL (kn lo0 hi0 lo1 hi1 lo2 hi2 q1 q23) TabOk.nil (fun ρ => VRs.cons (by simp [VR, E.den, sg]) (VRs.cons (by simp [VR, E.den, sg]) (VRs.cons (by simp [VR, E.den, sg]) (VRs.nil))))
    ·
      exact case172 (σ := (sg n0 n1 n2)) hL (kn lo0 hi0 lo1 hi1 lo2 hi2 q1 q23) TabOk.nil (fun ρ => VRs.cons (by simp [VR, E.den, sg]) (VRs.cons (by simp [VR, E.den, sg]) (VRs.cons (by simp [VR, E.den, sg]) (VRs.nil))))
    ·
      exact case173 (σ := (sg n0 n1 n2)) hL (kn lo0 hi0 lo1 hi1 lo2 hi2 q1 q23) TabOk.nil (fun ρ => VRs.cons (by simp [VR, E.den, sg]) (VRs.cons (by simp [VR, E.den, sg]) (VRs.cons (by simp [VR, E.den, sg]) (VRs.nil))))
    ·
      exact case174 (σ := (sg n0 n1 n2)) hL (kn lo0 hi0 lo1 hi1 lo2 hi2 q1 q23) TabOk.nil (fun ρ => VRs.cons (by simp [VR, E.den, sg]) (VRs.cons (by simp [VR, E.den, sg]) (VRs.cons (by simp [VR, E.den, sg]) (VRs.nil))))
    ·
      exact case175 (σ := (sg n0 n1 n2)) hL (kn lo0 hi0 lo1 hi1 lo2 hi2 q1 q23) TabOk.nil (fun ρ => VRs.cons (by simp [VR, E.den, sg]) (VRs.cons (by simp [VR, E.den, sg]) (VRs.cons (by simp [VR, E.den, sg]) (VRs.nil))))
  ·
    have q24 : (n2 % 8 = 0) ∨ (n2 % 8 = 1) ∨ (n2 % 8 = 2) ∨ (n2 % 8 = 3) ∨ (n2 % 8 = 4) ∨ (n2 % 8 = 5) ∨ (n2 % 8 = 6) ∨ (n2 % 8 = 7) := by omega
    rcases q24 with q24 | q24 | q24 | q24 | q24 | q24 | q24 | q24
    ·
      exact case176 (σ := (sg n0 n1 n2)) hL (kn lo0 hi0 lo1 hi1 lo2 hi2 q1 q24) TabOk.nil (fun ρ => VRs.cons (by simp [VR, E.den, sg]) (VRs.cons (by simp [VR, E.den, sg]) (VRs.cons (by simp [VR, E.den, sg]) (VRs.nil))))
    ·
      exact case177 (σ := (sg n0 n1 n2)) hL (kn lo0 hi0 lo1 hi1 lo2 hi2 q1 q24) TabOk.nil (fun ρ => VRs.cons (by simp [VR, E.den, sg]) (VRs.cons (by simp [VR, E.den, sg]) (VRs.cons (by simp [VR, E.den, sg]) (VRs.nil))))
    ·
      exact case178 (σ := (sg n0 n1 n2)) hL (kn lo0 hi0 lo1 hi1 lo2 hi2 q1 q24) TabOk.nil (fun ρ => VRs.cons (by simp [VR, E.den, sg]) (VRs.cons (by simp [VR, E.den, sg]) (VRs.cons (by simp [VR, E.den, sg]) (VRs.nil))))
    ·
      exact case179 (σ := (sg n0 n1 n2)) hL (kn lo0 hi0 lo1 hi1 lo2 hi2 q1 q24) TabOk.nil (fun ρ => VRs.cons (by simp [VR, E.den, sg]) (VRs.cons (by simp [VR, E.den, sg]) (VRs.cons (by simp [VR, E.den, sg]) (VRs.nil))))
    ·
      exact case180 (σ := (sg n0 n1 n2)) hL (kn lo0 hi0 lo1 hi1 lo2 hi2 q1 q24) TabOk.nil (fun ρ => VRs.cons (by simp [VR, E.den, sg]) (VRs.cons (by simp [VR, E.den, sg]) (VRs.cons (by simp [VR, E.den, sg]) (VRs.nil))))
    ·
      exact case181 (σ := (sg n0 n1 n2)) hL (kn lo0 hi0 lo1 hi1 lo2 hi2 q1 q24) TabOk.nil (fun ρ => VRs.cons (by simp [VR, E.den, sg]) (VRs.cons (by simp [VR, E.den, sg]) (VRs.cons (by simp [VR, E.den, sg]) (VRs.nil))))
    ·
      exact case182 (σ := (sg n0 n1 n2)) hL (kn lo0 hi0 lo1 hi1 lo2 hi2 q1 q24) TabOk.nil (fun ρ => VRs.cons (by simp [VR, E.den, sg]) (VRs.cons (by simp [VR, E.den, sg]) (VRs.cons (by simp [VR, E.den, sg]) (VRs.nil))))
    ·
      exact case183 (σ := (sg n0 n1 n2)) hL (kn lo0 hi0 lo1 hi1 lo2 hi2 q1 q24) TabOk.nil (fun ρ => VRs.cons (by simp [VR, E.den, sg]) (VRs.cons (by simp [VR, E.den, sg]) (VRs.cons (by simp [VR, E.den, sg]) (VRs.nil))))
  ·
    have q25 : (n2 % 8 = 0) ∨ (n2 % 8 = 1) ∨ (n2 % 8 = 2) ∨ (n2 % 8 = 3) ∨ (n2 % 8 = 4) ∨ (n2 % 8 = 5) ∨ (n2 % 8 = 6) ∨ (n2 % 8 = 7) := by omega
    rcases q25 with q25 | q25 | q25 | q25 | q25 | q25 | q25 | q25
    ·
      exact case184 (σ := (sg n0 n1 n2)) hL (kn lo0 hi0 lo1 hi1 lo2 hi2 q1 q25) TabOk.nil (fun ρ => VRs.cons (by simp [VR, E.den, sg]) (VRs.cons (by simp [VR, E.den, sg]) (VRs.cons (by simp [VR, E.den, sg]) (VRs.nil))))
    ·
      exact case185 (σ := (sg n0 n1 n2)) hL (kn lo0 hi0 lo1 hi1 lo2 hi2 q1 q25) TabOk.nil (fun ρ => VRs.cons (by simp [VR, E.den, sg]) (VRs.cons (by simp [VR, E.den, sg]) (VRs.cons (by simp [VR, E.den, sg]) (VRs.nil))))
    ·
      exact case186 (σ := (sg n0 n1 n2)) hL (kn lo0 hi0 lo1 hi1 lo2 hi2 q1 q25) TabOk.nil (fun ρ => VRs.cons (by simp [VR, E.den, sg]) (VRs.cons (by simp [VR, E.den, sg]) (VRs.cons (by simp [VR, E.den, sg]) (VRs.nil))))
    ·
      exact case187 (σ := (sg n0 n1 n2)) hL (kn lo0 hi0 lo1 hi1 lo2 hi2 q1 q25) TabOk.nil (fun ρ => VRs.cons (by simp [VR, E.den, sg]) (VRs.cons (by simp [VR, E.den, sg]) (VRs.cons (by simp [VR, E.den, sg]) (VRs.nil))))
    ·
      exact case188 (σ := (sg n0 n1 n2)) hL (kn lo0 hi0 lo1 hi1 lo2 hi2 q1 q25) TabOk.nil (fun ρ => VRs.cons (by simp [VR, E.den, sg]) (VRs.cons (by simp [VR, E.den, sg]) (VRs.cons (by simp [VR, E.den, sg]) (VRs.nil))))
    ·
      exact case189 (σ := (sg n0 n1 n2)) hL (kn lo0 hi0 lo1 hi1 lo2 hi2 q1 q25) TabOk.nil (fun ρ => VRs.cons (by simp [VR, E.den, sg]) (VRs.cons (by simp [VR, E.den, sg]) (VRs.cons (by simp [VR, E.den, sg]) (VRs.nil))))
    ·
      exact case190 (σ := (sg n0 n1 n2)) hL (kn lo0 hi0 lo1 hi1 lo2 hi2 q1 q25) TabOk.nil (fun ρ => VRs.cons (by simp [VR, E.den, sg]) (VRs.cons (by simp [VR, E.den, sg]) (VRs.cons (by simp [VR, E.den, sg]) (VRs.nil))))
    ·
      exact case191 (σ := (sg n0 n1 n2)) hL (kn lo0 hi0 lo1 hi1 lo2 hi2 q1 q25) TabOk.nil (fun ρ => VRs.cons (by simp [VR, E.den, sg]) (VRs.cons (by simp [VR, E.den, sg]) (VRs.cons (by simp [VR, E.den, sg]) (VRs.nil))))
  ·
    have q26 : (n2 % 8 = 0) ∨ (n2 % 8 = 1) ∨ (n2 % 8 = 2) ∨ (n2 % 8 = 3) ∨ (n2 % 8 = 4) ∨ (n2 % 8 = 5) ∨ (n2 % 8 = 6) ∨ (n2 % 8 = 7) := by omega
    rcases q26 with q26 | q26 | q26 | q26 | q26 | q26 | q26 | q26
    ·
      exact case192 (σ := (sg n0 n1 n2)) hL (kn lo0 hi0 lo1 hi1 lo2 hi2 q1 q26) TabOk.nil (fun ρ => VRs.cons (by simp [VR, E.den, sg]) (VRs.cons (by simp [VR, E.den, sg]) (VRs.cons (by simp [VR, E.den, sg]) (VRs.nil))))
    ·
      exact case193 (σ := (sg n0 n1 n2)) hL (kn lo0 hi0 lo1 hi1 lo2 hi2 q1 q26) TabOk.nil (fun ρ => VRs.cons (by simp [VR, E.den, sg]) (VRs.cons (by simp [VR, E.den, sg]) (VRs.cons (by simp [VR, E.den, sg]) (VRs.nil))))
    ·
      exact case194 (σ := (sg n0 n1 n2)) hL (kn lo0 hi0 lo1 hi1 lo2 hi2 q1 q26) TabOk.nil (fun ρ => VRs.cons (by simp [VR, E.den, sg]) (VRs.cons (by simp [VR, E.den, sg]) (VRs.cons (by simp [VR, E.den, sg]) (VRs.nil))))
    ·
      exact case195 (σ := (sg n0 n1 n2)) hL (kn lo0 hi0 lo1 hi1 lo2 hi2 q1 q26) TabOk.nil (fun ρ => VRs.cons (by simp [VR, E.den, sg]) (VRs.cons (by simp [VR, E.den, sg]) (VRs.cons (by simp [VR, E.den, sg]) (VRs.nil))))
    ·
      exact case196 (σ := (sg n0 n1 n2)) hL (kn lo0 hi0 lo1 hi1 lo2 hi2 q1 q26) TabOk.nil (fun ρ => VRs.cons (by simp [VR, E.den, sg]) (VRs.cons (by simp [VR, E.den, sg]) (VRs.cons (by simp [VR, E.den, sg]) (VRs.nil))))
    ·
      exact case197 (σ := (sg n0 n1 n2)) hL (kn lo0 hi0 lo1 hi1 lo2 hi2 q1 q26) TabOk.nil (fun ρ => VRs.cons (by simp [VR, E.den, sg]) (VRs.cons (by simp [VR, E.den, sg]) (VRs.cons (by simp [VR, E.den, sg]) (VRs.nil))))
    ·
      exact case198 (σ := (sg n0 n1 n2)) hL (kn lo0 hi0 lo1 hi1 lo2 hi2 q1 q26) TabOk.nil (fun ρ => VRs.cons (by simp [VR, E.den, sg]) (VRs.cons (by simp [VR, E.den, sg]) (VRs.cons (by simp [VR, E.den, sg]) (VRs.nil))))
    ·
      exact case199 (σ := (sg n0 n1 n2)) hL (kn lo0 hi0 lo1 hi1 lo2 hi2 q1 q26) TabOk.nil (fun ρ => VRs.cons (by simp [VR, E.den, sg]) (VRs.cons (by simp [VR, E.den, sg]) (VRs.cons (by simp [VR, E.den, sg]) (VRs.nil))))
  ·
    have q27 : (n2 % 8 = 0) ∨ (n2 % 8 = 1) ∨ (n2 % 8 = 2) ∨ (n2 % 8 = 3) ∨ (n2 % 8 = 4) ∨ (n2 % 8 = 5) ∨ (n2 % 8 = 6) ∨ (n2 % 8 = 7) := by omega
    rcases q27 with q27 | q27 | q27 | q27 | q27 | q27 | q27 | q27
    ·
      exact case200 (σ := (sg n0 n1 n2)) hL (kn lo0 hi0 lo1 hi1 lo2 hi2 q1 q27) TabOk.nil (fun ρ => VRs.cons (by simp [VR, E.den, sg]) (VRs.cons (by simp [VR, E.den, sg]) (VRs.cons (by simp [VR, E.den, sg]) (VRs.nil))))
    ·
      exact case201 (σ := (sg n0 n1 n2)) hL (kn lo0 hi0 lo1 hi1 lo2 hi2 q1 q27) TabOk.nil (fun ρ => VRs.cons (by simp [VR, E.den, sg]) (VRs.cons (by simp [VR, E.den, sg]) (VRs.cons (by simp [VR, E.den, sg]) (VRs.nil))))
    ·
      exact case202 (σ := (sg n0 n1 n2)) hL (kn lo0 hi0 lo1 hi1 lo2 hi2 q1 q27) TabOk.nil (fun ρ => VRs.cons (by simp [VR, E.den, sg]) (VRs.cons (by simp [VR, E.den, sg]) (VRs.cons (by simp [VR, E.den, sg]) (VRs.nil))))
    ·
      exact case203 (σ := (sg n0 n1 n2)) hL (kn lo0 hi0 lo1 hi1 lo2 hi2 q1 q27) TabOk.nil (fun ρ => VRs.cons (by simp [VR, E.den, sg]) (VRs.cons (by simp [VR, E.den, sg]) (VRs.cons (by simp [VR, E.den, sg]) (VRs.nil))))
    ·
      exact case204 (σ := (sg n0 n1 n2)) hL (kn lo0 hi0 lo1 hi1 lo2 hi2 q1 q27) TabOk.nil (fun ρ => VRs.cons (by simp [VR, E.den, sg]) (VRs.cons (by simp [VR, E.den, sg]) (VRs.cons (by simp [VR, E.den, sg]) (VRs.nil))))
    ·
      exact case205 (σ := (sg n0 n1 n2)) hL (kn lo0 hi0 lo1 hi1 lo2 hi2 q1 q27) TabOk.nil (fun ρ => VRs.cons (by simp [VR, E.den, sg]) (VRs.cons (by simp [VR, E.den, sg]) (VRs.cons (by simp [VR, E.den, sg]) (VRs.nil))))
    ·
      exact case206 (σ := (sg n0 n1 n2)) hL (kn lo0 hi0 lo1 hi1 lo2 hi2 q1 q27) TabOk.nil (fun ρ => VRs.cons (by simp [VR, E.den, sg]) (VRs.cons (by simp [VR, E.den, sg]) (VRs.cons (by simp [VR, E.den, sg]) (VRs.nil))))
    ·
      exact case207 (σ := (sg n0 n1 n2)) hL (kn lo0 hi0 lo1 hi1 lo2 hi2 q1 q27) TabOk.nil (fun ρ => VRs.cons (by simp [VR, E.den, sg]) (VRs.cons (by simp [VR, E.den, sg]) (VRs.cons (by simp [VR, E.den, sg]) (VRs.nil))))
  ·
    have q28 : (n2 % 8 = 0) ∨ (n2 % 8 = 1) ∨ (n2 % 8 = 2) ∨ (n2 % 8 = 3) ∨ (n2 % 8 = 4) ∨ (n2 % 8 = 5) ∨ (n2 % 8 = 6) ∨ (n2 % 8 = 7) := by omega
    rcases q28 with q28 | q28 | q28 | q28 | q28 | q28 | q28 | q28
    ·
      exact case208 (σ := (sg n0 n1 n2)) hL (kn lo0 hi0 lo1 hi1 lo2 hi2 q1 q28) TabOk.nil (fun ρ => VRs.cons (by simp [VR, E.den, sg]) (VRs.cons (by simp [VR, E.den, sg]) (VRs.cons (by simp [VR, E.den, sg]) (VRs.nil))))
    ·
      exact case209 (σ := (sg n0 n1 n2)) hL (kn lo0 hi0 lo1 hi1 lo2 hi2 q1 q28) TabOk.nil (fun ρ => VRs.cons (by simp [VR, E.den, sg]) (VRs.cons (by simp [VR, E.den, sg]) (VRs.cons (by simp [VR, E.den, sg]) (VRs.nil))))
    ·
      exact case210 (σ := (sg n0 n1 n2)) hL (kn lo0 hi0 lo1 hi1 lo2 hi2 q1 q28) TabOk.nil (fun ρ => VRs.cons (by simp [VR, E.den, sg]) (VRs.cons (by simp [VR, E.den, sg]) (VRs.cons (by simp [VR, E.den, sg]) (VRs.nil))))
    ·
      exact case211 (σ := (sg n0 n1 n2)) hL (kn lo0 hi0 lo1 hi1 lo2 hi2 q1 q28) TabOk.nil (fun ρ => VRs.cons (by simp [VR, E.den, sg]) (VRs.cons (by simp [VR, E.den, sg]) (VRs.cons (by simp [VR, E.den, sg]) (VRs.nil))))
    ·
      exact case212 (σ := (sg n0 n1 n2)) hL (kn lo0 hi0 lo1 hi1 lo2 hi2 q1 q28) TabOk.nil (fun ρ => VRs.cons (by simp [VR, E.den, sg]) (VRs.cons (by simp [VR, E.den, sg]) (VRs.cons (by simp [VR, E.den, sg]) (VRs.nil))))
    ·
      exact case213 (σ := (sg n0 n1 n2)) hL (kn lo0 hi0 lo1 hi1 lo2 hi2 q1 q28) TabOk.nil (fun ρ => VRs.cons (by simp [VR, E.den, sg]) (VRs.cons (by simp [VR, E.den, sg]) (VRs.cons (by simp [VR, E.den, sg]) (VRs.nil))))
    ·
      exact case214 (σ := (sg n0 n1 n2)) hL (kn lo0 hi0 lo1 hi1 lo2 hi2 q1 q28) TabOk.nil (fun ρ => VRs.cons (by simp [VR, E.den, sg]) (VRs.cons (by simp [VR, E.den, sg]) (VRs.cons (by simp [VR, E.den, sg]) (VRs.nil))))
    ·
      exact case215 (σ := (sg n0 n1 n2)) hL (kn lo0 hi0 lo1 hi1 lo2 hi2 q1 q28) TabOk.nil (fun ρ => VRs.cons (by simp [VR, E.den, sg]) (VRs.cons (by simp [VR, E.den, sg]) (VRs.cons (by simp [VR, E.den, sg]) (VRs.nil))))
  ·
    have q29 : (n2 % 8 = 0) ∨ (n2 % 8 = 1) ∨ (n2 % 8 = 2) ∨ (n2 % 8 = 3) ∨ (n2 % 8 = 4) ∨ (n2 % 8 = 5) ∨ (n2 % 8 = 6) ∨ (n2 % 8 = 7) := by omega
    rcases q29 with q29 | q29 | q29 | q29 | q29 | q29 | q29 | q29
    ·
      exact case216 (σ := (sg n0 n1 n2)) hL (kn lo0 hi0 lo1 hi1 lo2 hi2 q1 q29) TabOk.nil (fun ρ => VRs.cons (by simp [VR, E.den, sg]) (VRs.cons (by simp [VR, E.den, sg]) (VRs.cons (by simp [VR, E.den, sg]) (VRs.nil))))
    ·
      exact case217 (σ := (sg n0 n1 n2)) hL (kn lo0 hi0 lo1 hi1 lo2 hi2 q1 q29) TabOk.nil (fun ρ => VRs.cons (by simp [VR, E.den, sg]) (VRs.cons (by simp [VR, E.den, sg]) (VRs.cons (by simp [VR, E.den, sg]) (VRs.nil))))
    ·
      exact case218 (σ := (sg n0 n1 n2)) hL (kn lo0 hi0 lo1 hi1 lo2 hi2 q1 q29) TabOk.nil (fun ρ => VRs.cons (by simp [VR, E.den, sg]) (VRs.cons (by simp [VR, E.den, sg]) (VRs.cons (by simp [VR, E.den, sg]) (VRs.nil))))
    ·
      exact case219 (σ := (sg n0 n1 n2)) hL (kn lo0 hi0 lo1 hi1 lo2 hi2 q1 q29) TabOk.nil (fun ρ => VRs.cons (by simp [VR, E.den, sg]) (VRs.cons (by simp [VR, E.den, sg]) (VRs.cons (by simp [VR, E.den, sg]) (VRs.nil))))
    ·
      exact case220 (σ := (sg n0 n1 n2)) hL (kn lo0 hi0 lo1 hi1 lo2 hi2 q1 q29) TabOk.nil (fun ρ => VRs.cons (by simp [VR, E.den, sg]) (VRs.cons (by simp [VR, E.den, sg]) (VRs.cons (by simp [VR, E.den, sg]) (VRs.nil))))
    ·
      exact case221 (σ := (sg n0 n1 n2)) hL (kn lo0 hi0 lo1 hi1 lo2 hi2 q1 q29) TabOk.nil (fun ρ => VRs.cons (by simp [VR, E.den, sg]) (VRs.cons (by simp [VR, E.den, sg]) (VRs.cons (by simp [VR, E.den, sg]) (VRs.nil))))
    ·
      exact case222 (σ := (sg n0 n1 n2)) hL (kn lo0 hi0 lo1 hi1 lo2 hi2 q1 q29) TabOk.nil (fun ρ => VRs.cons (by simp [VR, E.den, sg]) (VRs.cons (by simp [VR, E.den, sg]) (VRs.cons (by simp [VR, E.den, sg]) (VRs.nil))))
    ·
      exact case223 (σ := (sg n0 n1 n2)) hL (kn lo0 hi0 lo1 hi1 lo2 hi2 q1 q29) TabOk.nil (fun ρ => VRs.cons (by simp [VR, E.den, sg]) (VRs.cons (by simp [VR, E.den, sg]) (VRs.cons (by simp [VR, E.den, sg]) (VRs.nil))))
  ·
    have q30 : (n2 % 8 = 0) ∨ (n2 % 8 = 1) ∨ (n2 % 8 = 2) ∨ (n2 % 8 = 3) ∨ (n2 % 8 = 4) ∨ (n2 % 8 = 5) ∨ (n2 % 8 = 6) ∨ (n2 % 8 = 7) := by omega
    rcases q30 with q30 | q30 | q30 | q30 | q30 | q30 | q30 | q30
    ·
      exact case224 (σ := (sg n0 n1 n2)) hL (kn lo0 hi0 lo1 hi1 lo2 hi2 q1 q30) TabOk.nil (fun ρ => VRs.cons (by simp [VR, E.den, sg]) (VRs.cons (by simp [VR, E.den, sg]) (VRs.cons (by simp [VR, E.den, sg]) (VRs.nil))))
    ·
      exact case225 (σ := (sg n0 n1 n2)) hL (kn lo0 hi0 lo1 hi1 lo2 hi2 q1 q30) TabOk.nil (fun ρ => VRs.cons (by simp [VR, E.den, sg]) (VRs.cons (by simp [VR, E.den, sg]) (VRs.cons (by simp [VR, E.den, sg]) (VRs.nil))))
    ·
      exact case226 (σ := (sg n0 n1 n2)) hL (kn lo0 hi0 lo1 hi1 lo2 hi2 q1 q30) TabOk.nil (fun ρ => VRs.cons (by simp [VR, E.den, sg]) (VRs.cons (by simp [VR, E.den, sg]) (VRs.cons (by simp [VR, E.den, sg]) (VRs.nil))))
    ·
      exact case227 (σ := (sg n0 n1 n2)) hL (kn lo0 hi0 lo1 hi1 lo2 hi2 q1 q30) TabOk.nil (fun ρ => VRs.cons (by simp [VR, E.den, sg]) (VRs.cons (by simp [VR, E.den, sg]) (VRs.cons (by simp [VR, E.den, sg]) (VRs.nil))))
    ·
      exact case228 (σ := (sg n0 n1 n2)) hL (kn lo0 hi0 lo1 hi1 lo2 hi2 q1 q30) TabOk.nil (fun ρ => VRs.cons (by simp [VR, E.den, sg]) (VRs.cons (by simp [VR, E.den, sg]) (VRs.cons (by simp [VR, E.den, sg]) (VRs.nil))))
    ·
      exact case229 (σ := (sg n0 n1 n2)) hL (kn lo0 hi0 lo1 hi1 lo2 hi2 q1 q30) TabOk.nil (fun ρ => VRs.cons (by simp [VR, E.den, sg]) (VRs.cons (by simp [VR, E.den, sg]) (VRs.cons (by simp [VR, E.den, sg]) (VRs.nil))))
    ·
      exact case230 (σ := (sg n0 n1 n2)) hL (kn lo0 hi0 lo1 hi1 lo2 hi2 q1 q30) TabOk.nil (fun ρ => VRs.cons (by simp [VR, E.den, sg]) (VRs.cons (by simp [VR, E.den, sg]) (VRs.cons (by simp [VR, E.den, sg]) (VRs.nil))))
    ·
      exact case231 (σ := (sg n0 n1 n2)) hL (kn lo0 hi0 lo1 hi1 lo2 hi2 q1 q30) TabOk.nil (fun ρ => VRs.cons (by simp [VR, E.den, sg]) (VRs.cons (by simp [VR, E.den, sg]) (VRs.cons (by simp [VR, E.den, sg]) (VRs.nil))))
  ·
    have q31 : (n2 % 8 = 0) ∨ (n2 % 8 = 1) ∨ (n2 % 8 = 2) ∨ (n2 % 8 = 3) ∨ (n2 % 8 = 4) ∨ (n2 % 8 = 5) ∨ (n2 % 8 = 6) ∨ (n2 % 8 = 7) := by omega
    rcases q31 with q31 | q31 | q31 | q31 | q31 | q31 | q31 | q31
    ·
      exact case232 (σ := (sg n0 n1 n2)) hL (kn lo0 hi0 lo1 hi1 lo2 hi2 q1 q31) TabOk.nil (fun ρ => VRs.cons (by simp [VR, E.den, sg]) (VRs.cons (by simp [VR, E.den, sg]) (VRs.cons (by simp [VR, E.den, sg]) (VRs.nil))))
    ·
      exact case233 (σ := (sg n0 n1 n2)) hL (kn lo0 hi0 lo1 hi1 lo2 hi2 q1 q31) TabOk.nil (fun ρ => VRs.cons (by simp [VR, E.den, sg]) (VRs.cons (by simp [VR, E.den, sg]) (VRs.cons (by simp [VR, E.den, sg]) (VRs.nil))))
    ·
      exact case234 (σ := (sg n0 n1 n2)) hL (kn lo0 hi0 lo1 hi1 lo2 hi2 q1 q31) TabOk.nil (fun ρ => VRs.cons (by simp [VR, E.den, sg]) (VRs.cons (by simp [VR, E.den, sg]) (VRs.cons (by simp [VR, E.den, sg]) (VRs.nil))))
    ·
      exact case235 (σ := (sg n0 n1 n2)) hL (kn lo0 hi0 lo1 hi1 lo2 hi2 q1 q31) TabOk.nil (fun ρ => VRs.cons (by simp [VR, E.den, sg]) (VRs.cons (by simp [VR, E.den, sg]) (VRs.cons (by simp [VR, E.den, sg]) (VRs.nil))))
    ·
      exact case236 (σ := (sg n0 n1 n2)) hL (kn lo0 hi0 lo1 hi1 lo2 hi2 q1 q31) TabOk.nil (fun ρ => VRs.cons (by simp [VR, E.den, sg]) (VRs.cons (by simp [VR, E.den, sg]) (VRs.cons (by simp [VR, E.den, sg]) (VRs.nil))))
    ·
      exact case237 (σ := (sg n0 n1 n2)) hL (kn lo0 hi0 lo1 hi1 lo2 hi2 q1 q31) TabOk.nil (fun ρ => VRs.cons (by simp [VR, E.den, sg]) (VRs.cons (by simp [VR, E.den, sg]) (VRs.cons (by simp [VR, E.den, sg]) (VRs.nil))))
    ·
      exact case238 (σ := (sg n0 n1 n2)) hL (kn lo0 hi0 lo1 hi1 lo2 hi2 q1 q31) TabOk.nil (fun ρ => VRs.cons (by simp [VR, E.den, sg]) (VRs.cons (by simp [VR, E.den, sg]) (VRs.cons (by simp [VR, E.den, sg]) (VRs.nil))))
    ·
      exact case239 (σ := (sg n0 n1 n2)) hL (kn lo0 hi0 lo1 hi1 lo2 hi2 q1 q31) TabOk.nil (fun ρ => VRs.cons (by simp [VR, E.den, sg]) (VRs.cons (by simp [VR, E.den, sg]) (VRs.cons (by simp [VR, E.den, sg]) (VRs.nil))))
  ·
    have q32 : (n2 % 8 = 0) ∨ (n2 % 8 = 1) ∨ (n2 % 8 = 2) ∨ (n2 % 8 = 3) ∨ (n2 % 8 = 4) ∨ (n2 % 8 = 5) ∨ (n2 % 8 = 6) ∨ (n2 % 8 = 7) := by omega
    rcases q32 with q32 | q32 | q32 | q32 | q32 | q32 | q32 | q32
    ·
      exact case240 (σ := (sg n0 n1 n2)) hL (kn lo0 hi0 lo1 hi1 lo2 hi2 q1 q32) TabOk.nil (fun ρ => VRs.cons (by simp [VR, E.den, sg]) (VRs.cons (by simp [VR, E.den, sg]) (VRs.cons (by simp [VR, E.den, sg]) (VRs.nil))))
    ·
      exact case241 (σ := (sg n0 n1 n2)) hL (kn lo0 hi0 lo1 hi1 lo2 hi2 q1 q32) TabOk.nil (fun ρ => VRs.cons (by simp [VR, E.den, sg]) (VRs.cons (by simp [VR, E.den, sg]) (VRs.cons (by simp [VR, E.den, sg]) (VRs.nil))))
    ·
      exact case242 (σ := (sg n0 n1 n2)) hL (kn lo0 hi0 lo1 hi1 lo2 hi2 q1 q32) TabOk.nil (fun ρ => VRs.cons (by simp [VR, E.den, sg]) (VRs.cons (by simp [VR, E.den, sg]) (VRs.cons (by simp [VR, E.den, sg]) (VRs.nil))))
    ·
      exact case243 (σ := (sg n0 n1 n2)) hL (kn lo0 hi0 lo1 hi1 lo2 hi2 q1 q32) TabOk.nil (fun ρ => VRs.cons (by simp [VR, E.den, sg]) (VRs.cons (by simp [VR, E.den, sg]) (VRs.cons (by simp [VR, E.den, sg]) (VRs.nil))))
    ·
      exact case244 (σ := (sg n0 n1 n2)) hL (kn lo0 hi0 lo1 hi1 lo2 hi2 q1 q32) TabOk.nil (fun ρ => VRs.cons (by simp [VR, E.den, sg]) (VRs.cons (by simp [VR, E.den, sg]) (VRs.cons (by simp [VR, E.den, sg]) (VRs.nil))))
    ·
      exact case245 (σ := (sg n0 n1 n2)) hL (kn lo0 hi0 lo1 hi1 lo2 hi2 q1 q32) TabOk.nil (fun ρ => VRs.cons (by simp [VR, E.den, sg]) (VRs.cons (by simp [VR, E.den, sg]) (VRs.cons (by simp [VR, E.den, sg]) (VRs.nil))))
    ·
      exact case246 (σ := (sg n0 n1 n2)) hL (kn lo0 hi0 lo1 hi1 lo2 hi2 q1 q32) TabOk.nil (fun ρ => VRs.cons (by simp [VR, E.den, sg]) (VRs.cons (by simp [VR, E.den, sg]) (VRs.cons (by simp [VR, E.den, sg]) (VRs.nil))))
    ·
      exact case247 (σ := (sg n0 n1 n2)) hL (kn lo0 hi0 lo1 hi1 lo2 hi2 q1 q32) TabOk.nil (fun ρ => VRs.cons (by simp [VR, E.den, sg]) (VRs.cons (by simp [VR, E.den, sg]) (VRs.cons (by simp [VR, E.den, sg]) (VRs.nil))))
  ·
    have q33 : (n2 % 8 = 0) ∨ (n2 % 8 = 1) ∨ (n2 % 8 = 2) ∨ (n2 % 8 = 3) ∨ (n2 % 8 = 4) ∨ (n2 % 8 = 5) ∨ (n2 % 8 = 6) ∨ (n2 % 8 = 7) := by omega
    rcases q33 with q33 | q33 | q33 | q33 | q33 | q33 | q33 | q33
    ·
      exact case248 (σ := (sg n0 n1 n2)) hL (kn lo0 hi0 lo1 hi1 lo2 hi2 q1 q33) TabOk.nil (fun ρ => VRs.cons (by simp [VR, E.den, sg]) (VRs.cons (by simp [VR, E.den, sg]) (VRs.cons (by simp [VR, E.den, sg]) (VRs.nil))))
    ·
      exact case249 (σ := (sg n0 n1 n2)) hL (kn lo0 hi0 lo1 hi1 lo2 hi2 q1 q33) TabOk.nil (fun ρ => VRs.cons (by simp [VR, E.den, sg]) (VRs.cons (by simp [VR, E.den, sg]) (VRs.cons (by simp [VR, E.den, sg]) (VRs.nil))))
    ·
      exact case250 (σ := (sg n0 n1 n2)) hL (kn lo0 hi0 lo1 hi1 lo2 hi2 q1 q33) TabOk.nil (fun ρ => VRs.cons (by simp [VR, E.den, sg]) (VRs.cons (by simp [VR, E.den, sg]) (VRs.cons (by simp [VR, E.den, sg]) (VRs.nil))))
    ·
      exact case251 (σ := (sg n0 n1 n2)) hL (kn lo0 hi0 lo1 hi1 lo2 hi2 q1 q33) TabOk.nil (fun ρ => VRs.cons (by simp [VR, E.den, sg]) (VRs.cons (by simp [VR, E.den, sg]) (VRs.cons (by simp [VR, E.den, sg]) (VRs.nil))))
    ·
      exact case252 (σ := (sg n0 n1 n2)) hL (kn lo0 hi0 lo1 hi1 lo2 hi2 q1 q33) TabOk.nil (fun ρ => VRs.cons (by simp [VR, E.den, sg]) (VRs.cons (by simp [VR, E.den, sg]) (VRs.cons (by simp [VR, E.den, sg]) (VRs.nil))))
    ·
      exact case253 (σ := (sg n0 n1 n2)) hL (kn lo0 hi0 lo1 hi1 lo2 hi2 q1 q33) TabOk.nil (fun ρ => VRs.cons (by simp [VR, E.den, sg]) (VRs.cons (by simp [VR, E.den, sg]) (VRs.cons (by simp [VR, E.den, sg]) (VRs.nil))))
    ·
      exact case254 (σ := (sg n0 n1 n2)) hL (kn lo0 hi0 lo1 hi1 lo2 hi2 q1 q33) TabOk.nil (fun ρ => VRs.cons (by simp [VR, E.den, sg]) (VRs.cons (by simp [VR, E.den, sg]) (VRs.cons (by simp [VR, E.den, sg]) (VRs.nil))))
    ·
      exact case255 (σ := (sg n0 n1 n2)) hL (kn lo0 hi0 lo1 hi1 lo2 hi2 q1 q33) TabOk.nil (fun ρ => VRs.cons (by simp [VR, E.den, sg]) (VRs.cons (by simp [VR, E.den, sg]) (VRs.cons (by simp [VR, E.den, sg]) (VRs.nil))))
  ·
    refine case256 (σ := fun i => if i = 0 then n0 else if i = 1 then n1 else if i = 2 then n2 else 0) hL ⟨?_, ?_⟩ ?_ (fun ρ => VRs.cons (by simp [VR, E.den, bT, bF]) (VRs.cons (by simp [VR, E.den, bT, bF]) (VRs.cons (by simp [VR, E.den, bT, bF]) (VRs.nil))))
    · intro i lo hi hr
      rcases i with _ | i
      · simp at hr
        obtain ⟨rfl, rfl⟩ := hr
        exact ⟨by show 0 ≤ n0; omega, by show n0 ≤ 4294967295; omega⟩
      rcases i with _ | i
      · simp at hr
        obtain ⟨rfl, rfl⟩ := hr
        exact ⟨by show 0 ≤ n1; omega, by show n1 ≤ 4294967295; omega⟩
      rcases i with _ | i
      · simp at hr
        obtain ⟨rfl, rfl⟩ := hr
        exact ⟨by show 0 ≤ n2; omega, by show n2 ≤ 4294967295; omega⟩
      simp at hr
    · intro q a b t hm
      simp only [List.mem_cons, List.not_mem_nil, or_false, Prod.mk.injEq] at hm
      obtain ⟨rfl, rfl, rfl, rfl⟩ := hm
      simp [E.den, bopV, tm0_40, tm2_8]
      try omega
    · exact TabOk.nil
theorem contract (H : Type) (enc : TypeId × Value → H) (W : World) (base : Nat) (args : Array Value) (ds gs : List (DataW H)) (before : List MemPlace)
    (hval : ∀ (j : Nat) t v, Tryz.f4.params[j]? = some t → args[j]? = some v → Value.okWide Tryz.prog W .any base t v)
    (hW : DataW.Whole enc Tryz.prog Tryz.f4.params.toList Rows.objectMemorySpec.vars false W args.toList ds gs before) (hL : laidMetH Tryz.prog Rows.objectMemoryRow.laid W) :
    Calls Tryz.prog 4 args W fun e W' => ∃ v, e = .returned v ∧ Rows.objectMemorySpec.post enc Tryz.prog Tryz.f4 false true false false W args v W' := by
  have hW' := hW
  obtain ⟨p, q, hA0, hV, rfl, hfz, hnd⟩ := hW
  have hA : DataW.TrodAll enc Tryz.prog W 0 (fun _ => true) true Tryz.f4.params.toList args.toList ds p := hA0
  rw [Tryz.params4] at hA hval
  obtain ⟨v0, vs0, d0, ds0, p0, q0, hargs, rfl, rfl, h0, r0⟩ := trodAll_cons hA
  obtain ⟨v1, vs1, d1, ds1, p1, q1, rfl, rfl, rfl, h1, r1⟩ := trodAll_cons r0
  obtain ⟨v2, vs2, d2, ds2, p2, q2, rfl, rfl, rfl, h2, r2⟩ := trodAll_cons r1
  obtain ⟨rfl, rfl, rfl⟩ := trodAll_nil r2
  obtain rfl : args = #[v0, v1, v2] := by cases args; simp_all
  obtain ⟨rfl, rfl⟩ := trodVars_none hV
  obtain ⟨n0, rfl, rfl, rfl, hn0⟩ := open_int Tryz.underlying22 (hval 0 22 v0 rfl rfl) h0
  obtain ⟨n1, rfl, rfl, rfl, hn1⟩ := open_int Tryz.underlying22 (hval 1 22 v1 rfl rfl) h1
  obtain ⟨n2, rfl, rfl, rfl, hn2⟩ := open_int Tryz.underlying22 (hval 2 22 v2 rfl rfl) h2
  clear hA0
  simp only [List.append_nil] at hW'
  refine (walk W n0 hn0 n1 hn1 n2 hn2 hL).mono fun e W' hh => ?_
  obtain ⟨he, hg⟩ := hh
  subst he
  exact ⟨_, rfl, _, _, _, [], [], [], hW', trodAll_cons_mk (shut_bool Tryz.underlying4 _) trodAll_mk0, trodAll_cons_mk (shut_int Tryz.underlying22 hn0) (trodAll_cons_mk (shut_int Tryz.underlying22 hn1) (trodAll_cons_mk (shut_int Tryz.underlying22 hn2) trodAll_mk0)), rfl, hg.frame _, fun h => Bool.noConfusion h⟩
theorem laid_met (os : Os) : laidMetH Tryz.prog Rows.objectMemoryRow.laid ((World.laidAll Tryz.prog os Rows.objectMemoryRow.laid).forCall (fun _ _ => 0) ⟨#[], #[.int .u32 0, .int .u32 0, .int .u32 0], []⟩).memory := by
  rw [MakeChecks.laidMetH_plain _ _ _ (by kernel_rfl)]
  exact laidMet_laidAll _ (by kernel_rfl) (by kernel_rfl)
theorem reads (os : Os) {H : Type} (enc : TypeId × Value → H) : ∃ places, DataW.whole enc Tryz.prog ((World.laidAll Tryz.prog os Rows.objectMemoryRow.laid).forCall (fun _ _ => 0) ⟨#[], #[.int .u32 0, .int .u32 0, .int .u32 0], []⟩).memory Tryz.f4.params.toList Rows.objectMemorySpec.vars false #[Value.int .u32 0, .int .u32 0, .int .u32 0].toList 8 = some ([.lit (.int .u32 0), .lit (.int .u32 0), .lit (.int .u32 0)], [], places) :=
  ⟨[], by kernel_rfl⟩
theorem lifted (os : Os) (started : os.Started) (H : Type) (enc : TypeId × Value → H) (F : Stop.Interp) :
    ReturnsInHanded {} Tryz.checked os 4 .any ((OpenSpec.ofChange Rows.objectMemorySpec).preRow enc Tryz.prog Tryz.f4 Rows.objectMemoryRow.domain false Rows.objectMemoryRow.laid) (((OpenSpec.ofChange Rows.objectMemorySpec).at F).post enc Tryz.prog Tryz.f4 false true false false) := by
  obtain ⟨places, hx⟩ := reads os enc
  refine returnsInHanded_of_row (C := Tryz.checked) (s := OpenSpec.ofChange Rows.objectMemorySpec) own started (by kernel_rfl) Tryz.func4
    (witness_row_atRef (enc := enc) (C := Tryz.checked) false (World.laidAll Tryz.prog os Rows.objectMemoryRow.laid) #[.int .u32 0, .int .u32 0, .int .u32 0] (World.laidAll_os _ _ _) (by kernel_rfl) (by kernel_rfl) (by kernel_rfl)
      (OpenSpec.preRow_of_cond 8 hx (by kernel_rfl) (fun k hk => by cases hk) (by kernel_rfl) (laid_met os))) ?_
  intro W base args ds gs before hval hW _ _ _ hL _ _
  exact contract H enc W base args ds gs before hval hW hL
theorem said : Rows.ObjectMemorySaid :=
  OpenClaim.holds_of_cond 4 Tryz.f4 rfl rfl rfl rfl rfl rfl rfl ⟨rfl, rfl, rfl, rfl, rfl⟩ rfl rfl rfl rfl rfl (by kernel_rfl) Tryz.func4 (by kernel_rfl)
    (of_decide_eq_true (by kernel_rfl)) (by unfold Func.isWrapper; first | (rw [if_pos (by decide +kernel)]; kernel_rfl) | (rw [if_neg (by decide +kernel)]; exact ⟨rfl, rfl⟩))
    (fun os started H enc _ F => by rw [OpenClaim.pre_eq_preRow]; exact lifted os started H enc F)
theorem plain (f : FuncId) (fn : Func) (hf : Tryz.pinned.checked.prog.funcNamed "turnkey/turnkeylaw22.ObjectMemory" = some f) (hfn : Tryz.pinned.checked.prog.funcs[f]? = some fn) :
    true = Tryz.pinned.checked.prog.looks [] ∧ ∀ (j : Nat) t, fn.params[j]? = some t → Tryz.pinned.checked.prog.wantsStandIn t = false := by
  obtain rfl : f = 4 := Option.some.inj ((show Tryz.prog.funcNamed "turnkey/turnkeylaw22.ObjectMemory" = some 4 by kernel_rfl).symm.trans hf) |>.symm
  obtain rfl : fn = Tryz.f4 := (Option.some.inj (Tryz.func4.symm.trans hfn)).symm
  refine ⟨by kernel_rfl, fun j t ht => ?_⟩
  rw [Tryz.params4] at ht
  have hm := Array.mem_of_getElem? ht
  have hall : ∀ t, t ∈ #[(22 : TypeId), (22 : TypeId), (22 : TypeId)] → Tryz.prog.wantsStandIn t = false := by
    intro t h
    simp only [List.mem_toArray, List.mem_cons, List.not_mem_nil, or_false] at h
    rcases h with rfl | rfl | rfl
    · exact (show Tryz.prog.wantsStandIn 22 = false by kernel_rfl)
    · exact (show Tryz.prog.wantsStandIn 22 = false by kernel_rfl)
    · exact (show Tryz.prog.wantsStandIn 22 = false by kernel_rfl)
  exact hall t hm
theorem card : Rows.ObjectMemoryCardSaid :=
  Claim7.holds_tied_plain_at .later [] _ _ _ _ said (fun _ h => by cases h) (by kernel_rfl) (fun _ h => by cases h) objectMemory_row_tie rfl ⟨rfl, rfl⟩ (by kernel_rfl) rfl plain (by kernel_rfl)
end Go.Proofs.YtalmhgaomgkdbabGreatDoor.objectMemory
