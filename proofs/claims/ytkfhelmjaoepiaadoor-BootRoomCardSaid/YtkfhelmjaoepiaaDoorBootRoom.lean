/- BootRoom returns true for every input, and the input reads as it did; the listed errors hold what the program text lays. -/
import Derived.Test.YtkfhelmjaoepiaaDoorBrK2
import Derived.Deep.DeepWitnessRowRef
import Derived.Lay
set_option linter.unusedVariables false
set_option linter.unusedSimpArgs false
set_option maxRecDepth 10000000
namespace Go.Proofs.YtkfhelmjaoepiaaDoor.bootRoom
open Tk
open Go.ChangeShapes Go.WideShapes Go.ChangeAt Go.RowKit

theorem own : ownKnob Tryd.prog.godebug = none := by kernel_rfl
def sg (n0 : Int) (n1 : Int) (n2 : Int) : Nat → Int := fun i => if i = 0 then n0 else if i = 1 then n1 else if i = 2 then n2 else if i = 3 then numOf n1 60 else 0
theorem walk (W : World) (n0 : Int) (hn0 : (Lit.int .i64 n0).wf = true) (n1 : Int) (hn1 : (Lit.int .i64 n1).wf = true) (n2 : Int) (hn2 : (Lit.int .i64 n2).wf = true) (hL : laidMetH Tryd.prog Rows.bootRoomRow.laid W) : Calls Tryd.prog 3 #[.int .i64 n0, .int .i64 n1, .int .i64 n2] W fun e w' => e = .returned (.bool true) ∧ Below W.heap.size W w' := by
  simp only [Lit.wf, Bool.and_eq_true, decide_eq_true_eq] at hn0
  have lo0 : -9223372036854775808 ≤ n0 := hn0.1
  have hi0 : n0 ≤ 9223372036854775807 := hn0.2
  simp only [Lit.wf, Bool.and_eq_true, decide_eq_true_eq] at hn1
  have lo1 : -9223372036854775808 ≤ n1 := hn1.1
  have hi1 : n1 ≤ 9223372036854775807 := hn1.2
  simp only [Lit.wf, Bool.and_eq_true, decide_eq_true_eq] at hn2
  have lo2 : -9223372036854775808 ≤ n2 := hn2.1
  have hi2 : n2 ≤ 9223372036854775807 := hn2.2
  obtain ⟨s3, z3⟩ := numOf_range n1 60 (by decide)
  obtain ⟨a1, b1⟩ := numOf_range n0 10 (by decide)
  have e1 : numOf n0 10 = 0 ∨ numOf n0 10 = 1 ∨ numOf n0 10 = 2 ∨ numOf n0 10 = 3 ∨ numOf n0 10 = 4 ∨ numOf n0 10 = 5 ∨ numOf n0 10 = 6 ∨ numOf n0 10 = 7 ∨ numOf n0 10 = 8 ∨ numOf n0 10 = 9 := by omega
  rcases e1 with e1 | e1 | e1 | e1 | e1 | e1 | e1 | e1 | e1 | e1
  ·
    have q2 : (numOf n1 60 = 0) ∨ (numOf n1 60 = 1) ∨ (numOf n1 60 = 2) ∨ (numOf n1 60 = 3) ∨ (4 ≤ numOf n1 60) := by omega
    rcases q2 with q2 | q2 | q2 | q2 | q2
    ·
      exact case0 (σ := (sg n0 n1 n2)) hL (Known2.nil _) (TabOk.cons num10 (by decide) (by decide) lo0 hi0 e1 (TabOk.cons num60 (by decide) (by decide) lo1 hi1 q2 (TabOk.nil))) (fun ρ => VRs.cons (by simp [VR, E.den, bT, bF, sg]) (VRs.cons (by simp [VR, E.den, bT, bF, sg]) (VRs.cons (by simp [VR, E.den, bT, bF, sg]) (VRs.nil))))
    ·
      exact case1 (σ := (sg n0 n1 n2)) hL (Known2.nil _) (TabOk.cons num10 (by decide) (by decide) lo0 hi0 e1 (TabOk.cons num60 (by decide) (by decide) lo1 hi1 q2 (TabOk.nil))) (fun ρ => VRs.cons (by simp [VR, E.den, bT, bF, sg]) (VRs.cons (by simp [VR, E.den, bT, bF, sg]) (VRs.cons (by simp [VR, E.den, bT, bF, sg]) (VRs.nil))))
    ·
      exact case2 (σ := (sg n0 n1 n2)) hL (Known2.nil _) (TabOk.cons num10 (by decide) (by decide) lo0 hi0 e1 (TabOk.cons num60 (by decide) (by decide) lo1 hi1 q2 (TabOk.nil))) (fun ρ => VRs.cons (by simp [VR, E.den, bT, bF, sg]) (VRs.cons (by simp [VR, E.den, bT, bF, sg]) (VRs.cons (by simp [VR, E.den, bT, bF, sg]) (VRs.nil))))
    ·
      exact case3 (σ := (sg n0 n1 n2)) hL (Known2.nil _) (TabOk.cons num10 (by decide) (by decide) lo0 hi0 e1 (TabOk.cons num60 (by decide) (by decide) lo1 hi1 q2 (TabOk.nil))) (fun ρ => VRs.cons (by simp [VR, E.den, bT, bF, sg]) (VRs.cons (by simp [VR, E.den, bT, bF, sg]) (VRs.cons (by simp [VR, E.den, bT, bF, sg]) (VRs.nil))))
    ·
      obtain ⟨a3, b3⟩ := numOf_range n2 4 (by decide)
      have e3 : numOf n2 4 = 0 ∨ numOf n2 4 = 1 ∨ numOf n2 4 = 2 ∨ numOf n2 4 = 3 := by omega
      rcases e3 with e3 | e3 | e3 | e3
      ·
        refine case4 (σ := fun i => if i = 0 then n0 else if i = 1 then n1 else if i = 2 then n2 else if i = 3 then numOf n1 60 else 0) hL ⟨?_, ?_⟩ ?_ (fun ρ => VRs.cons (by simp [VR, E.den, bT, bF]) (VRs.cons (by simp [VR, E.den, bT, bF]) (VRs.cons (by simp [VR, E.den, bT, bF]) (VRs.nil))))
        · intro i lo hi hr
          rcases i with _ | i
          · simp at hr
            obtain ⟨rfl, rfl⟩ := hr
            exact ⟨by show (-9223372036854775808) ≤ n0; omega, by show n0 ≤ 9223372036854775807; omega⟩
          rcases i with _ | i
          · simp at hr
            obtain ⟨rfl, rfl⟩ := hr
            exact ⟨by show (-9223372036854775808) ≤ n1; omega, by show n1 ≤ 9223372036854775807; omega⟩
          rcases i with _ | i
          · simp at hr
            obtain ⟨rfl, rfl⟩ := hr
            exact ⟨by show (-9223372036854775808) ≤ n2; omega, by show n2 ≤ 9223372036854775807; omega⟩
          rcases i with _ | i
          · simp at hr
            obtain ⟨rfl, rfl⟩ := hr
            exact ⟨by show 4 ≤ numOf n1 60; omega, by show numOf n1 60 ≤ 59; omega⟩
          simp at hr
        · intro q a b t hm
          simp at hm
        · exact TabOk.cons num10 (by decide) (by decide) lo0 hi0 (show numOf n0 10 = 0 from e1) (TabOk.cons num60 (by decide) (by decide) lo1 hi1 rfl (TabOk.cons num4 (by decide) (by decide) lo2 hi2 (show numOf n2 4 = 0 from e3) (TabOk.nil)))
      ·
        refine case5 (σ := fun i => if i = 0 then n0 else if i = 1 then n1 else if i = 2 then n2 else if i = 3 then numOf n1 60 else 0) hL ⟨?_, ?_⟩ ?_ (fun ρ => VRs.cons (by simp [VR, E.den, bT, bF]) (VRs.cons (by simp [VR, E.den, bT, bF]) (VRs.cons (by simp [VR, E.den, bT, bF]) (VRs.nil))))
        · intro i lo hi hr
          rcases i with _ | i
          · simp at hr
            obtain ⟨rfl, rfl⟩ := hr
            exact ⟨by show (-9223372036854775808) ≤ n0; omega, by show n0 ≤ 9223372036854775807; omega⟩
          rcases i with _ | i
          · simp at hr
            obtain ⟨rfl, rfl⟩ := hr
            exact ⟨by show (-9223372036854775808) ≤ n1; omega, by show n1 ≤ 9223372036854775807; omega⟩
          rcases i with _ | i
          · simp at hr
            obtain ⟨rfl, rfl⟩ := hr
            exact ⟨by show (-9223372036854775808) ≤ n2; omega, by show n2 ≤ 9223372036854775807; omega⟩
          rcases i with _ | i
          · simp at hr
            obtain ⟨rfl, rfl⟩ := hr
            exact ⟨by show 4 ≤ numOf n1 60; omega, by show numOf n1 60 ≤ 59; omega⟩
          simp at hr
        · intro q a b t hm
          simp at hm
        · exact TabOk.cons num10 (by decide) (by decide) lo0 hi0 (show numOf n0 10 = 0 from e1) (TabOk.cons num60 (by decide) (by decide) lo1 hi1 rfl (TabOk.cons num4 (by decide) (by decide) lo2 hi2 (show numOf n2 4 = 1 from e3) (TabOk.nil)))
      ·
        refine case6 (σ := fun i => if i = 0 then n0 else if i = 1 then n1 else if i = 2 then n2 else if i = 3 then numOf n1 60 else 0) hL ⟨?_, ?_⟩ ?_ (fun ρ => VRs.cons (by simp [VR, E.den, bT, bF]) (VRs.cons (by simp [VR, E.den, bT, bF]) (VRs.cons (by simp [VR, E.den, bT, bF]) (VRs.nil))))
        · intro i lo hi hr
          rcases i with _ | i
          · simp at hr
            obtain ⟨rfl, rfl⟩ := hr
            exact ⟨by show (-9223372036854775808) ≤ n0; omega, by show n0 ≤ 9223372036854775807; omega⟩
          rcases i with _ | i
          · simp at hr
            obtain ⟨rfl, rfl⟩ := hr
            exact ⟨by show (-9223372036854775808) ≤ n1; omega, by show n1 ≤ 9223372036854775807; omega⟩
          rcases i with _ | i
          · simp at hr
            obtain ⟨rfl, rfl⟩ := hr
            exact ⟨by show (-9223372036854775808) ≤ n2; omega, by show n2 ≤ 9223372036854775807; omega⟩
          rcases i with _ | i
          · simp at hr
            obtain ⟨rfl, rfl⟩ := hr
            exact ⟨by show 4 ≤ numOf n1 60; omega, by show numOf n1 60 ≤ 59; omega⟩
          simp at hr
        · intro q a b t hm
          simp at hm
        · exact TabOk.cons num10 (by decide) (by decide) lo0 hi0 (show numOf n0 10 = 0 from e1) (TabOk.cons num60 (by decide) (by decide) lo1 hi1 rfl (TabOk.cons num4 (by decide) (by decide) lo2 hi2 (show numOf n2 4 = 2 from e3) (TabOk.nil)))
      ·
        refine case7 (σ := fun i => if i = 0 then n0 else if i = 1 then n1 else if i = 2 then n2 else if i = 3 then numOf n1 60 else 0) hL ⟨?_, ?_⟩ ?_ (fun ρ => VRs.cons (by simp [VR, E.den, bT, bF]) (VRs.cons (by simp [VR, E.den, bT, bF]) (VRs.cons (by simp [VR, E.den, bT, bF]) (VRs.nil))))
        · intro i lo hi hr
          rcases i with _ | i
          · simp at hr
            obtain ⟨rfl, rfl⟩ := hr
            exact ⟨by show (-9223372036854775808) ≤ n0; omega, by show n0 ≤ 9223372036854775807; omega⟩
          rcases i with _ | i
          · simp at hr
            obtain ⟨rfl, rfl⟩ := hr
            exact ⟨by show (-9223372036854775808) ≤ n1; omega, by show n1 ≤ 9223372036854775807; omega⟩
          rcases i with _ | i
          · simp at hr
            obtain ⟨rfl, rfl⟩ := hr
            exact ⟨by show (-9223372036854775808) ≤ n2; omega, by show n2 ≤ 9223372036854775807; omega⟩
          rcases i with _ | i
          · simp at hr
            obtain ⟨rfl, rfl⟩ := hr
            exact ⟨by show 4 ≤ numOf n1 60; omega, by show numOf n1 60 ≤ 59; omega⟩
          simp at hr
        · intro q a b t hm
          simp at hm
        · exact TabOk.cons num10 (by decide) (by decide) lo0 hi0 (show numOf n0 10 = 0 from e1) (TabOk.cons num60 (by decide) (by decide) lo1 hi1 rfl (TabOk.cons num4 (by decide) (by decide) lo2 hi2 (show numOf n2 4 = 3 from e3) (TabOk.nil)))
  ·
    have q4 : (numOf n1 60 = 0) ∨ (numOf n1 60 = 1) ∨ (numOf n1 60 = 2) ∨ (numOf n1 60 = 3) ∨ (numOf n1 60 = 4) ∨ (numOf n1 60 = 5) ∨ (numOf n1 60 = 6) ∨ (numOf n1 60 = 7) ∨ (8 ≤ numOf n1 60) := by omega
    rcases q4 with q4 | q4 | q4 | q4 | q4 | q4 | q4 | q4 | q4
    ·
      exact case8 (σ := (sg n0 n1 n2)) hL (Known2.nil _) (TabOk.cons num10 (by decide) (by decide) lo0 hi0 e1 (TabOk.cons num60 (by decide) (by decide) lo1 hi1 q4 (TabOk.nil))) (fun ρ => VRs.cons (by simp [VR, E.den, bT, bF, sg]) (VRs.cons (by simp [VR, E.den, bT, bF, sg]) (VRs.cons (by simp [VR, E.den, bT, bF, sg]) (VRs.nil))))
    ·
      exact case9 (σ := (sg n0 n1 n2)) hL (Known2.nil _) (TabOk.cons num10 (by decide) (by decide) lo0 hi0 e1 (TabOk.cons num60 (by decide) (by decide) lo1 hi1 q4 (TabOk.nil))) (fun ρ => VRs.cons (by simp [VR, E.den, bT, bF, sg]) (VRs.cons (by simp [VR, E.den, bT, bF, sg]) (VRs.cons (by simp [VR, E.den, bT, bF, sg]) (VRs.nil))))
    ·
      exact case10 (σ := (sg n0 n1 n2)) hL (Known2.nil _) (TabOk.cons num10 (by decide) (by decide) lo0 hi0 e1 (TabOk.cons num60 (by decide) (by decide) lo1 hi1 q4 (TabOk.nil))) (fun ρ => VRs.cons (by simp [VR, E.den, bT, bF, sg]) (VRs.cons (by simp [VR, E.den, bT, bF, sg]) (VRs.cons (by simp [VR, E.den, bT, bF, sg]) (VRs.nil))))
    ·
      exact case11 (σ := (sg n0 n1 n2)) hL (Known2.nil _) (TabOk.cons num10 (by decide) (by decide) lo0 hi0 e1 (TabOk.cons num60 (by decide) (by decide) lo1 hi1 q4 (TabOk.nil))) (fun ρ => VRs.cons (by simp [VR, E.den, bT, bF, sg]) (VRs.cons (by simp [VR, E.den, bT, bF, sg]) (VRs.cons (by simp [VR, E.den, bT, bF, sg]) (VRs.nil))))
    ·
      exact case12 (σ := (sg n0 n1 n2)) hL (Known2.nil _) (TabOk.cons num10 (by decide) (by decide) lo0 hi0 e1 (TabOk.cons num60 (by decide) (by decide) lo1 hi1 q4 (TabOk.nil))) (fun ρ => VRs.cons (by simp [VR, E.den, bT, bF, sg]) (VRs.cons (by simp [VR, E.den, bT, bF, sg]) (VRs.cons (by simp [VR, E.den, bT, bF, sg]) (VRs.nil))))
    ·
      exact case13 (σ := (sg n0 n1 n2)) hL (Known2.nil _) (TabOk.cons num10 (by decide) (by decide) lo0 hi0 e1 (TabOk.cons num60 (by decide) (by decide) lo1 hi1 q4 (TabOk.nil))) (fun ρ => VRs.cons (by simp [VR, E.den, bT, bF, sg]) (VRs.cons (by simp [VR, E.den, bT, bF, sg]) (VRs.cons (by simp [VR, E.den, bT, bF, sg]) (VRs.nil))))
    ·
      exact case14 (σ := (sg n0 n1 n2)) hL (Known2.nil _) (TabOk.cons num10 (by decide) (by decide) lo0 hi0 e1 (TabOk.cons num60 (by decide) (by decide) lo1 hi1 q4 (TabOk.nil))) (fun ρ => VRs.cons (by simp [VR, E.den, bT, bF, sg]) (VRs.cons (by simp [VR, E.den, bT, bF, sg]) (VRs.cons (by simp [VR, E.den, bT, bF, sg]) (VRs.nil))))
    ·
      exact case15 (σ := (sg n0 n1 n2)) hL (Known2.nil _) (TabOk.cons num10 (by decide) (by decide) lo0 hi0 e1 (TabOk.cons num60 (by decide) (by decide) lo1 hi1 q4 (TabOk.nil))) (fun ρ => VRs.cons (by simp [VR, E.den, bT, bF, sg]) (VRs.cons (by simp [VR, E.den, bT, bF, sg]) (VRs.cons (by simp [VR, E.den, bT, bF, sg]) (VRs.nil))))
    ·
      obtain ⟨a5, b5⟩ := numOf_range n2 4 (by decide)
      have e5 : numOf n2 4 = 0 ∨ numOf n2 4 = 1 ∨ numOf n2 4 = 2 ∨ numOf n2 4 = 3 := by omega
      rcases e5 with e5 | e5 | e5 | e5
      ·
        refine case16 (σ := fun i => if i = 0 then n0 else if i = 1 then n1 else if i = 2 then n2 else if i = 3 then numOf n1 60 else 0) hL ⟨?_, ?_⟩ ?_ (fun ρ => VRs.cons (by simp [VR, E.den, bT, bF]) (VRs.cons (by simp [VR, E.den, bT, bF]) (VRs.cons (by simp [VR, E.den, bT, bF]) (VRs.nil))))
        · intro i lo hi hr
          rcases i with _ | i
          · simp at hr
            obtain ⟨rfl, rfl⟩ := hr
            exact ⟨by show (-9223372036854775808) ≤ n0; omega, by show n0 ≤ 9223372036854775807; omega⟩
          rcases i with _ | i
          · simp at hr
            obtain ⟨rfl, rfl⟩ := hr
            exact ⟨by show (-9223372036854775808) ≤ n1; omega, by show n1 ≤ 9223372036854775807; omega⟩
          rcases i with _ | i
          · simp at hr
            obtain ⟨rfl, rfl⟩ := hr
            exact ⟨by show (-9223372036854775808) ≤ n2; omega, by show n2 ≤ 9223372036854775807; omega⟩
          rcases i with _ | i
          · simp at hr
            obtain ⟨rfl, rfl⟩ := hr
            exact ⟨by show 8 ≤ numOf n1 60; omega, by show numOf n1 60 ≤ 59; omega⟩
          simp at hr
        · intro q a b t hm
          simp at hm
        · exact TabOk.cons num10 (by decide) (by decide) lo0 hi0 (show numOf n0 10 = 1 from e1) (TabOk.cons num60 (by decide) (by decide) lo1 hi1 rfl (TabOk.cons num4 (by decide) (by decide) lo2 hi2 (show numOf n2 4 = 0 from e5) (TabOk.nil)))
      ·
        refine case17 (σ := fun i => if i = 0 then n0 else if i = 1 then n1 else if i = 2 then n2 else if i = 3 then numOf n1 60 else 0) hL ⟨?_, ?_⟩ ?_ (fun ρ => VRs.cons (by simp [VR, E.den, bT, bF]) (VRs.cons (by simp [VR, E.den, bT, bF]) (VRs.cons (by simp [VR, E.den, bT, bF]) (VRs.nil))))
        · intro i lo hi hr
          rcases i with _ | i
          · simp at hr
            obtain ⟨rfl, rfl⟩ := hr
            exact ⟨by show (-9223372036854775808) ≤ n0; omega, by show n0 ≤ 9223372036854775807; omega⟩
          rcases i with _ | i
          · simp at hr
            obtain ⟨rfl, rfl⟩ := hr
            exact ⟨by show (-9223372036854775808) ≤ n1; omega, by show n1 ≤ 9223372036854775807; omega⟩
          rcases i with _ | i
          · simp at hr
            obtain ⟨rfl, rfl⟩ := hr
            exact ⟨by show (-9223372036854775808) ≤ n2; omega, by show n2 ≤ 9223372036854775807; omega⟩
          rcases i with _ | i
          · simp at hr
            obtain ⟨rfl, rfl⟩ := hr
            exact ⟨by show 8 ≤ numOf n1 60; omega, by show numOf n1 60 ≤ 59; omega⟩
          simp at hr
        · intro q a b t hm
          simp at hm
        · exact TabOk.cons num10 (by decide) (by decide) lo0 hi0 (show numOf n0 10 = 1 from e1) (TabOk.cons num60 (by decide) (by decide) lo1 hi1 rfl (TabOk.cons num4 (by decide) (by decide) lo2 hi2 (show numOf n2 4 = 1 from e5) (TabOk.nil)))
      ·
        refine case18 (σ := fun i => if i = 0 then n0 else if i = 1 then n1 else if i = 2 then n2 else if i = 3 then numOf n1 60 else 0) hL ⟨?_, ?_⟩ ?_ (fun ρ => VRs.cons (by simp [VR, E.den, bT, bF]) (VRs.cons (by simp [VR, E.den, bT, bF]) (VRs.cons (by simp [VR, E.den, bT, bF]) (VRs.nil))))
        · intro i lo hi hr
          rcases i with _ | i
          · simp at hr
            obtain ⟨rfl, rfl⟩ := hr
            exact ⟨by show (-9223372036854775808) ≤ n0; omega, by show n0 ≤ 9223372036854775807; omega⟩
          rcases i with _ | i
          · simp at hr
            obtain ⟨rfl, rfl⟩ := hr
            exact ⟨by show (-9223372036854775808) ≤ n1; omega, by show n1 ≤ 9223372036854775807; omega⟩
          rcases i with _ | i
          · simp at hr
            obtain ⟨rfl, rfl⟩ := hr
            exact ⟨by show (-9223372036854775808) ≤ n2; omega, by show n2 ≤ 9223372036854775807; omega⟩
          rcases i with _ | i
          · simp at hr
            obtain ⟨rfl, rfl⟩ := hr
            exact ⟨by show 8 ≤ numOf n1 60; omega, by show numOf n1 60 ≤ 59; omega⟩
          simp at hr
        · intro q a b t hm
          simp at hm
        · exact TabOk.cons num10 (by decide) (by decide) lo0 hi0 (show numOf n0 10 = 1 from e1) (TabOk.cons num60 (by decide) (by decide) lo1 hi1 rfl (TabOk.cons num4 (by decide) (by decide) lo2 hi2 (show numOf n2 4 = 2 from e5) (TabOk.nil)))
      ·
        refine case19 (σ := fun i => if i = 0 then n0 else if i = 1 then n1 else if i = 2 then n2 else if i = 3 then numOf n1 60 else 0) hL ⟨?_, ?_⟩ ?_ (fun ρ => VRs.cons (by simp [VR, E.den, bT, bF]) (VRs.cons (by simp [VR, E.den, bT, bF]) (VRs.cons (by simp [VR, E.den, bT, bF]) (VRs.nil))))
        · intro i lo hi hr
          rcases i with _ | i
          · simp at hr
            obtain ⟨rfl, rfl⟩ := hr
            exact ⟨by show (-9223372036854775808) ≤ n0; omega, by show n0 ≤ 9223372036854775807; omega⟩
          rcases i with _ | i
          · simp at hr
            obtain ⟨rfl, rfl⟩ := hr
            exact ⟨by show (-9223372036854775808) ≤ n1; omega, by show n1 ≤ 9223372036854775807; omega⟩
          rcases i with _ | i
          · simp at hr
            obtain ⟨rfl, rfl⟩ := hr
            exact ⟨by show (-9223372036854775808) ≤ n2; omega, by show n2 ≤ 9223372036854775807; omega⟩
          rcases i with _ | i
          · simp at hr
            obtain ⟨rfl, rfl⟩ := hr
            exact ⟨by show 8 ≤ numOf n1 60; omega, by show numOf n1 60 ≤ 59; omega⟩
          simp at hr
        · intro q a b t hm
          simp at hm
        · exact TabOk.cons num10 (by decide) (by decide) lo0 hi0 (show numOf n0 10 = 1 from e1) (TabOk.cons num60 (by decide) (by decide) lo1 hi1 rfl (TabOk.cons num4 (by decide) (by decide) lo2 hi2 (show numOf n2 4 = 3 from e5) (TabOk.nil)))
  ·
    have q6 : (numOf n1 60 = 0) ∨ (numOf n1 60 = 1) ∨ (numOf n1 60 = 2) ∨ (numOf n1 60 = 3) ∨ (numOf n1 60 = 4) ∨ (numOf n1 60 = 5) ∨ (numOf n1 60 = 6) ∨ (numOf n1 60 = 7) ∨ (numOf n1 60 = 8) ∨ (numOf n1 60 = 9) ∨ (numOf n1 60 = 10) ∨ (numOf n1 60 = 11) ∨ (12 ≤ numOf n1 60) := by omega
    rcases q6 with q6 | q6 | q6 | q6 | q6 | q6 | q6 | q6 | q6 | q6 | q6 | q6 | q6
    ·
      exact case20 (σ := (sg n0 n1 n2)) hL (Known2.nil _) (TabOk.cons num10 (by decide) (by decide) lo0 hi0 e1 (TabOk.cons num60 (by decide) (by decide) lo1 hi1 q6 (TabOk.nil))) (fun ρ => VRs.cons (by simp [VR, E.den, bT, bF, sg]) (VRs.cons (by simp [VR, E.den, bT, bF, sg]) (VRs.cons (by simp [VR, E.den, bT, bF, sg]) (VRs.nil))))
    ·
      exact case21 (σ := (sg n0 n1 n2)) hL (Known2.nil _) (TabOk.cons num10 (by decide) (by decide) lo0 hi0 e1 (TabOk.cons num60 (by decide) (by decide) lo1 hi1 q6 (TabOk.nil))) (fun ρ => VRs.cons (by simp [VR, E.den, bT, bF, sg]) (VRs.cons (by simp [VR, E.den, bT, bF, sg]) (VRs.cons (by simp [VR, E.den, bT, bF, sg]) (VRs.nil))))
    ·
      exact case22 (σ := (sg n0 n1 n2)) hL (Known2.nil _) (TabOk.cons num10 (by decide) (by decide) lo0 hi0 e1 (TabOk.cons num60 (by decide) (by decide) lo1 hi1 q6 (TabOk.nil))) (fun ρ => VRs.cons (by simp [VR, E.den, bT, bF, sg]) (VRs.cons (by simp [VR, E.den, bT, bF, sg]) (VRs.cons (by simp [VR, E.den, bT, bF, sg]) (VRs.nil))))
    ·
      exact case23 (σ := (sg n0 n1 n2)) hL (Known2.nil _) (TabOk.cons num10 (by decide) (by decide) lo0 hi0 e1 (TabOk.cons num60 (by decide) (by decide) lo1 hi1 q6 (TabOk.nil))) (fun ρ => VRs.cons (by simp [VR, E.den, bT, bF, sg]) (VRs.cons (by simp [VR, E.den, bT, bF, sg]) (VRs.cons (by simp [VR, E.den, bT, bF, sg]) (VRs.nil))))
    ·
      exact case24 (σ := (sg n0 n1 n2)) hL (Known2.nil _) (TabOk.cons num10 (by decide) (by decide) lo0 hi0 e1 (TabOk.cons num60 (by decide) (by decide) lo1 hi1 q6 (TabOk.nil))) (fun ρ => VRs.cons (by simp [VR, E.den, bT, bF, sg]) (VRs.cons (by simp [VR, E.den, bT, bF, sg]) (VRs.cons (by simp [VR, E.den, bT, bF, sg]) (VRs.nil))))
    ·
      exact case25 (σ := (sg n0 n1 n2)) hL (Known2.nil _) (TabOk.cons num10 (by decide) (by decide) lo0 hi0 e1 (TabOk.cons num60 (by decide) (by decide) lo1 hi1 q6 (TabOk.nil))) (fun ρ => VRs.cons (by simp [VR, E.den, bT, bF, sg]) (VRs.cons (by simp [VR, E.den, bT, bF, sg]) (VRs.cons (by simp [VR, E.den, bT, bF, sg]) (VRs.nil))))
    ·
      exact case26 (σ := (sg n0 n1 n2)) hL (Known2.nil _) (TabOk.cons num10 (by decide) (by decide) lo0 hi0 e1 (TabOk.cons num60 (by decide) (by decide) lo1 hi1 q6 (TabOk.nil))) (fun ρ => VRs.cons (by simp [VR, E.den, bT, bF, sg]) (VRs.cons (by simp [VR, E.den, bT, bF, sg]) (VRs.cons (by simp [VR, E.den, bT, bF, sg]) (VRs.nil))))
    ·
      exact case27 (σ := (sg n0 n1 n2)) hL (Known2.nil _) (TabOk.cons num10 (by decide) (by decide) lo0 hi0 e1 (TabOk.cons num60 (by decide) (by decide) lo1 hi1 q6 (TabOk.nil))) (fun ρ => VRs.cons (by simp [VR, E.den, bT, bF, sg]) (VRs.cons (by simp [VR, E.den, bT, bF, sg]) (VRs.cons (by simp [VR, E.den, bT, bF, sg]) (VRs.nil))))
    ·
      exact case28 (σ := (sg n0 n1 n2)) hL (Known2.nil _) (TabOk.cons num10 (by decide) (by decide) lo0 hi0 e1 (TabOk.cons num60 (by decide) (by decide) lo1 hi1 q6 (TabOk.nil))) (fun ρ => VRs.cons (by simp [VR, E.den, bT, bF, sg]) (VRs.cons (by simp [VR, E.den, bT, bF, sg]) (VRs.cons (by simp [VR, E.den, bT, bF, sg]) (VRs.nil))))
    ·
      exact case29 (σ := (sg n0 n1 n2)) hL (Known2.nil _) (TabOk.cons num10 (by decide) (by decide) lo0 hi0 e1 (TabOk.cons num60 (by decide) (by decide) lo1 hi1 q6 (TabOk.nil))) (fun ρ => VRs.cons (by simp [VR, E.den, bT, bF, sg]) (VRs.cons (by simp [VR, E.den, bT, bF, sg]) (VRs.cons (by simp [VR, E.den, bT, bF, sg]) (VRs.nil))))
    ·
      exact case30 (σ := (sg n0 n1 n2)) hL (Known2.nil _) (TabOk.cons num10 (by decide) (by decide) lo0 hi0 e1 (TabOk.cons num60 (by decide) (by decide) lo1 hi1 q6 (TabOk.nil))) (fun ρ => VRs.cons (by simp [VR, E.den, bT, bF, sg]) (VRs.cons (by simp [VR, E.den, bT, bF, sg]) (VRs.cons (by simp [VR, E.den, bT, bF, sg]) (VRs.nil))))
    ·
      exact case31 (σ := (sg n0 n1 n2)) hL (Known2.nil _) (TabOk.cons num10 (by decide) (by decide) lo0 hi0 e1 (TabOk.cons num60 (by decide) (by decide) lo1 hi1 q6 (TabOk.nil))) (fun ρ => VRs.cons (by simp [VR, E.den, bT, bF, sg]) (VRs.cons (by simp [VR, E.den, bT, bF, sg]) (VRs.cons (by simp [VR, E.den, bT, bF, sg]) (VRs.nil))))
    ·
      obtain ⟨a7, b7⟩ := numOf_range n2 4 (by decide)
      have e7 : numOf n2 4 = 0 ∨ numOf n2 4 = 1 ∨ numOf n2 4 = 2 ∨ numOf n2 4 = 3 := by omega
      rcases e7 with e7 | e7 | e7 | e7
      ·
        refine case32 (σ := fun i => if i = 0 then n0 else if i = 1 then n1 else if i = 2 then n2 else if i = 3 then numOf n1 60 else 0) hL ⟨?_, ?_⟩ ?_ (fun ρ => VRs.cons (by simp [VR, E.den, bT, bF]) (VRs.cons (by simp [VR, E.den, bT, bF]) (VRs.cons (by simp [VR, E.den, bT, bF]) (VRs.nil))))
        · intro i lo hi hr
          rcases i with _ | i
          · simp at hr
            obtain ⟨rfl, rfl⟩ := hr
            exact ⟨by show (-9223372036854775808) ≤ n0; omega, by show n0 ≤ 9223372036854775807; omega⟩
          rcases i with _ | i
          · simp at hr
            obtain ⟨rfl, rfl⟩ := hr
            exact ⟨by show (-9223372036854775808) ≤ n1; omega, by show n1 ≤ 9223372036854775807; omega⟩
          rcases i with _ | i
          · simp at hr
            obtain ⟨rfl, rfl⟩ := hr
            exact ⟨by show (-9223372036854775808) ≤ n2; omega, by show n2 ≤ 9223372036854775807; omega⟩
          rcases i with _ | i
          · simp at hr
            obtain ⟨rfl, rfl⟩ := hr
            exact ⟨by show 12 ≤ numOf n1 60; omega, by show numOf n1 60 ≤ 59; omega⟩
          simp at hr
        · intro q a b t hm
          simp at hm
        · exact TabOk.cons num10 (by decide) (by decide) lo0 hi0 (show numOf n0 10 = 2 from e1) (TabOk.cons num60 (by decide) (by decide) lo1 hi1 rfl (TabOk.cons num4 (by decide) (by decide) lo2 hi2 (show numOf n2 4 = 0 from e7) (TabOk.nil)))
      ·
        refine case33 (σ := fun i => if i = 0 then n0 else if i = 1 then n1 else if i = 2 then n2 else if i = 3 then numOf n1 60 else 0) hL ⟨?_, ?_⟩ ?_ (fun ρ => VRs.cons (by simp [VR, E.den, bT, bF]) (VRs.cons (by simp [VR, E.den, bT, bF]) (VRs.cons (by simp [VR, E.den, bT, bF]) (VRs.nil))))
        · intro i lo hi hr
          rcases i with _ | i
          · simp at hr
            obtain ⟨rfl, rfl⟩ := hr
            exact ⟨by show (-9223372036854775808) ≤ n0; omega, by show n0 ≤ 9223372036854775807; omega⟩
          rcases i with _ | i
          · simp at hr
            obtain ⟨rfl, rfl⟩ := hr
            exact ⟨by show (-9223372036854775808) ≤ n1; omega, by show n1 ≤ 9223372036854775807; omega⟩
          rcases i with _ | i
          · simp at hr
            obtain ⟨rfl, rfl⟩ := hr
            exact ⟨by show (-9223372036854775808) ≤ n2; omega, by show n2 ≤ 9223372036854775807; omega⟩
          rcases i with _ | i
          · simp at hr
            obtain ⟨rfl, rfl⟩ := hr
            exact ⟨by show 12 ≤ numOf n1 60; omega, by show numOf n1 60 ≤ 59; omega⟩
          simp at hr
        · intro q a b t hm
          simp at hm
        · exact TabOk.cons num10 (by decide) (by decide) lo0 hi0 (show numOf n0 10 = 2 from e1) (TabOk.cons num60 (by decide) (by decide) lo1 hi1 rfl (TabOk.cons num4 (by decide) (by decide) lo2 hi2 (show numOf n2 4 = 1 from e7) (TabOk.nil)))
      ·
        refine case34 (σ := fun i => if i = 0 then n0 else if i = 1 then n1 else if i = 2 then n2 else if i = 3 then numOf n1 60 else 0) hL ⟨?_, ?_⟩ ?_ (fun ρ => VRs.cons (by simp [VR, E.den, bT, bF]) (VRs.cons (by simp [VR, E.den, bT, bF]) (VRs.cons (by simp [VR, E.den, bT, bF]) (VRs.nil))))
        · intro i lo hi hr
          rcases i with _ | i
          · simp at hr
            obtain ⟨rfl, rfl⟩ := hr
            exact ⟨by show (-9223372036854775808) ≤ n0; omega, by show n0 ≤ 9223372036854775807; omega⟩
          rcases i with _ | i
          · simp at hr
            obtain ⟨rfl, rfl⟩ := hr
            exact ⟨by show (-9223372036854775808) ≤ n1; omega, by show n1 ≤ 9223372036854775807; omega⟩
          rcases i with _ | i
          · simp at hr
            obtain ⟨rfl, rfl⟩ := hr
            exact ⟨by show (-9223372036854775808) ≤ n2; omega, by show n2 ≤ 9223372036854775807; omega⟩
          rcases i with _ | i
          · simp at hr
            obtain ⟨rfl, rfl⟩ := hr
            exact ⟨by show 12 ≤ numOf n1 60; omega, by show numOf n1 60 ≤ 59; omega⟩
          simp at hr
        · intro q a b t hm
          simp at hm
        · exact TabOk.cons num10 (by decide) (by decide) lo0 hi0 (show numOf n0 10 = 2 from e1) (TabOk.cons num60 (by decide) (by decide) lo1 hi1 rfl (TabOk.cons num4 (by decide) (by decide) lo2 hi2 (show numOf n2 4 = 2 from e7) (TabOk.nil)))
      ·
        refine case35 (σ := fun i => if i = 0 then n0 else if i = 1 then n1 else if i = 2 then n2 else if i = 3 then numOf n1 60 else 0) hL ⟨?_, ?_⟩ ?_ (fun ρ => VRs.cons (by simp [VR, E.den, bT, bF]) (VRs.cons (by simp [VR, E.den, bT, bF]) (VRs.cons (by simp [VR, E.den, bT, bF]) (VRs.nil))))
        · intro i lo hi hr
          rcases i with _ | i
          · simp at hr
            obtain ⟨rfl, rfl⟩ := hr
            exact ⟨by show (-9223372036854775808) ≤ n0; omega, by show n0 ≤ 9223372036854775807; omega⟩
          rcases i with _ | i
          · simp at hr
            obtain ⟨rfl, rfl⟩ := hr
            exact ⟨by show (-9223372036854775808) ≤ n1; omega, by show n1 ≤ 9223372036854775807; omega⟩
          rcases i with _ | i
          · simp at hr
            obtain ⟨rfl, rfl⟩ := hr
            exact ⟨by show (-9223372036854775808) ≤ n2; omega, by show n2 ≤ 9223372036854775807; omega⟩
          rcases i with _ | i
          · simp at hr
            obtain ⟨rfl, rfl⟩ := hr
            exact ⟨by show 12 ≤ numOf n1 60; omega, by show numOf n1 60 ≤ 59; omega⟩
          simp at hr
        · intro q a b t hm
          simp at hm
        · exact TabOk.cons num10 (by decide) (by decide) lo0 hi0 (show numOf n0 10 = 2 from e1) (TabOk.cons num60 (by decide) (by decide) lo1 hi1 rfl (TabOk.cons num4 (by decide) (by decide) lo2 hi2 (show numOf n2 4 = 3 from e7) (TabOk.nil)))
  ·
    have q8 : (numOf n1 60 = 0) ∨ (numOf n1 60 = 1) ∨ (numOf n1 60 = 2) ∨ (numOf n1 60 = 3) ∨ (numOf n1 60 = 4) ∨ (numOf n1 60 = 5) ∨ (numOf n1 60 = 6) ∨ (numOf n1 60 = 7) ∨ (numOf n1 60 = 8) ∨ (numOf n1 60 = 9) ∨ (numOf n1 60 = 10) ∨ (numOf n1 60 = 11) ∨ (numOf n1 60 = 12) ∨ (numOf n1 60 = 13) ∨ (numOf n1 60 = 14) ∨ (numOf n1 60 = 15) ∨ (16 ≤ numOf n1 60) := by omega
    rcases q8 with q8 | q8 | q8 | q8 | q8 | q8 | q8 | q8 | q8 | q8 | q8 | q8 | q8 | q8 | q8 | q8 | q8
    ·
      exact case36 (σ := (sg n0 n1 n2)) hL (Known2.nil _) (TabOk.cons num10 (by decide) (by decide) lo0 hi0 e1 (TabOk.cons num60 (by decide) (by decide) lo1 hi1 q8 (TabOk.nil))) (fun ρ => VRs.cons (by simp [VR, E.den, bT, bF, sg]) (VRs.cons (by simp [VR, E.den, bT, bF, sg]) (VRs.cons (by simp [VR, E.den, bT, bF, sg]) (VRs.nil))))
    ·
      exact case37 (σ := (sg n0 n1 n2)) hL (Known2.nil _) (TabOk.cons num10 (by decide) (by decide) lo0 hi0 e1 (TabOk.cons num60 (by decide) (by decide) lo1 hi1 q8 (TabOk.nil))) (fun ρ => VRs.cons (by simp [VR, E.den, bT, bF, sg]) (VRs.cons (by simp [VR, E.den, bT, bF, sg]) (VRs.cons (by simp [VR, E.den, bT, bF, sg]) (VRs.nil))))
    ·
      exact case38 (σ := (sg n0 n1 n2)) hL (Known2.nil _) (TabOk.cons num10 (by decide) (by decide) lo0 hi0 e1 (TabOk.cons num60 (by decide) (by decide) lo1 hi1 q8 (TabOk.nil))) (fun ρ => VRs.cons (by simp [VR, E.den, bT, bF, sg]) (VRs.cons (by simp [VR, E.den, bT, bF, sg]) (VRs.cons (by simp [VR, E.den, bT, bF, sg]) (VRs.nil))))
    ·
      exact case39 (σ := (sg n0 n1 n2)) hL (Known2.nil _) (TabOk.cons num10 (by decide) (by decide) lo0 hi0 e1 (TabOk.cons num60 (by decide) (by decide) lo1 hi1 q8 (TabOk.nil))) (fun ρ => VRs.cons (by simp [VR, E.den, bT, bF, sg]) (VRs.cons (by simp [VR, E.den, bT, bF, sg]) (VRs.cons (by simp [VR, E.den, bT, bF, sg]) (VRs.nil))))
    ·
      exact case40 (σ := (sg n0 n1 n2)) hL (Known2.nil _) (TabOk.cons num10 (by decide) (by decide) lo0 hi0 e1 (TabOk.cons num60 (by decide) (by decide) lo1 hi1 q8 (TabOk.nil))) (fun ρ => VRs.cons (by simp [VR, E.den, bT, bF, sg]) (VRs.cons (by simp [VR, E.den, bT, bF, sg]) (VRs.cons (by simp [VR, E.den, bT, bF, sg]) (VRs.nil))))
    ·
      exact case41 (σ := (sg n0 n1 n2)) hL (Known2.nil _) (TabOk.cons num10 (by decide) (by decide) lo0 hi0 e1 (TabOk.cons num60 (by decide) (by decide) lo1 hi1 q8 (TabOk.nil))) (fun ρ => VRs.cons (by simp [VR, E.den, bT, bF, sg]) (VRs.cons (by simp [VR, E.den, bT, bF, sg]) (VRs.cons (by simp [VR, E.den, bT, bF, sg]) (VRs.nil))))
    ·
      exact case42 (σ := (sg n0 n1 n2)) hL (Known2.nil _) (TabOk.cons num10 (by decide) (by decide) lo0 hi0 e1 (TabOk.cons num60 (by decide) (by decide) lo1 hi1 q8 (TabOk.nil))) (fun ρ => VRs.cons (by simp [VR, E.den, bT, bF, sg]) (VRs.cons (by simp [VR, E.den, bT, bF, sg]) (VRs.cons (by simp [VR, E.den, bT, bF, sg]) (VRs.nil))))
    ·
      exact case43 (σ := (sg n0 n1 n2)) hL (Known2.nil _) (TabOk.cons num10 (by decide) (by decide) lo0 hi0 e1 (TabOk.cons num60 (by decide) (by decide) lo1 hi1 q8 (TabOk.nil))) (fun ρ => VRs.cons (by simp [VR, E.den, bT, bF, sg]) (VRs.cons (by simp [VR, E.den, bT, bF, sg]) (VRs.cons (by simp [VR, E.den, bT, bF, sg]) (VRs.nil))))
    ·
      exact case44 (σ := (sg n0 n1 n2)) hL (Known2.nil _) (TabOk.cons num10 (by decide) (by decide) lo0 hi0 e1 (TabOk.cons num60 (by decide) (by decide) lo1 hi1 q8 (TabOk.nil))) (fun ρ => VRs.cons (by simp [VR, E.den, bT, bF, sg]) (VRs.cons (by simp [VR, E.den, bT, bF, sg]) (VRs.cons (by simp [VR, E.den, bT, bF, sg]) (VRs.nil))))
    ·
      exact case45 (σ := (sg n0 n1 n2)) hL (Known2.nil _) (TabOk.cons num10 (by decide) (by decide) lo0 hi0 e1 (TabOk.cons num60 (by decide) (by decide) lo1 hi1 q8 (TabOk.nil))) (fun ρ => VRs.cons (by simp [VR, E.den, bT, bF, sg]) (VRs.cons (by simp [VR, E.den, bT, bF, sg]) (VRs.cons (by simp [VR, E.den, bT, bF, sg]) (VRs.nil))))
    ·
      exact case46 (σ := (sg n0 n1 n2)) hL (Known2.nil _) (TabOk.cons num10 (by decide) (by decide) lo0 hi0 e1 (TabOk.cons num60 (by decide) (by decide) lo1 hi1 q8 (TabOk.nil))) (fun ρ => VRs.cons (by simp [VR, E.den, bT, bF, sg]) (VRs.cons (by simp [VR, E.den, bT, bF, sg]) (VRs.cons (by simp [VR, E.den, bT, bF, sg]) (VRs.nil))))
    ·
      exact case47 (σ := (sg n0 n1 n2)) hL (Known2.nil _) (TabOk.cons num10 (by decide) (by decide) lo0 hi0 e1 (TabOk.cons num60 (by decide) (by decide) lo1 hi1 q8 (TabOk.nil))) (fun ρ => VRs.cons (by simp [VR, E.den, bT, bF, sg]) (VRs.cons (by simp [VR, E.den, bT, bF, sg]) (VRs.cons (by simp [VR, E.den, bT, bF, sg]) (VRs.nil))))
    ·
      exact case48 (σ := (sg n0 n1 n2)) hL (Known2.nil _) (TabOk.cons num10 (by decide) (by decide) lo0 hi0 e1 (TabOk.cons num60 (by decide) (by decide) lo1 hi1 q8 (TabOk.nil))) (fun ρ => VRs.cons (by simp [VR, E.den, bT, bF, sg]) (VRs.cons (by simp [VR, E.den, bT, bF, sg]) (VRs.cons (by simp [VR, E.den, bT, bF, sg]) (VRs.nil))))
    ·
      exact case49 (σ := (sg n0 n1 n2)) hL (Known2.nil _) (TabOk.cons num10 (by decide) (by decide) lo0 hi0 e1 (TabOk.cons num60 (by decide) (by decide) lo1 hi1 q8 (TabOk.nil))) (fun ρ => VRs.cons (by simp [VR, E.den, bT, bF, sg]) (VRs.cons (by simp [VR, E.den, bT, bF, sg]) (VRs.cons (by simp [VR, E.den, bT, bF, sg]) (VRs.nil))))
    ·
      exact case50 (σ := (sg n0 n1 n2)) hL (Known2.nil _) (TabOk.cons num10 (by decide) (by decide) lo0 hi0 e1 (TabOk.cons num60 (by decide) (by decide) lo1 hi1 q8 (TabOk.nil))) (fun ρ => VRs.cons (by simp [VR, E.den, bT, bF, sg]) (VRs.cons (by simp [VR, E.den, bT, bF, sg]) (VRs.cons (by simp [VR, E.den, bT, bF, sg]) (VRs.nil))))
    ·
      exact case51 (σ := (sg n0 n1 n2)) hL (Known2.nil _) (TabOk.cons num10 (by decide) (by decide) lo0 hi0 e1 (TabOk.cons num60 (by decide) (by decide) lo1 hi1 q8 (TabOk.nil))) (fun ρ => VRs.cons (by simp [VR, E.den, bT, bF, sg]) (VRs.cons (by simp [VR, E.den, bT, bF, sg]) (VRs.cons (by simp [VR, E.den, bT, bF, sg]) (VRs.nil))))
    ·
      obtain ⟨a9, b9⟩ := numOf_range n2 4 (by decide)
      have e9 : numOf n2 4 = 0 ∨ numOf n2 4 = 1 ∨ numOf n2 4 = 2 ∨ numOf n2 4 = 3 := by omega
      rcases e9 with e9 | e9 | e9 | e9
      ·
        refine case52 (σ := fun i => if i = 0 then n0 else if i = 1 then n1 else if i = 2 then n2 else if i = 3 then numOf n1 60 else 0) hL ⟨?_, ?_⟩ ?_ (fun ρ => VRs.cons (by simp [VR, E.den, bT, bF]) (VRs.cons (by simp [VR, E.den, bT, bF]) (VRs.cons (by simp [VR, E.den, bT, bF]) (VRs.nil))))
        · intro i lo hi hr
          rcases i with _ | i
          · simp at hr
            obtain ⟨rfl, rfl⟩ := hr
            exact ⟨by show (-9223372036854775808) ≤ n0; omega, by show n0 ≤ 9223372036854775807; omega⟩
          rcases i with _ | i
          · simp at hr
            obtain ⟨rfl, rfl⟩ := hr
            exact ⟨by show (-9223372036854775808) ≤ n1; omega, by show n1 ≤ 9223372036854775807; omega⟩
          rcases i with _ | i
          · simp at hr
            obtain ⟨rfl, rfl⟩ := hr
            exact ⟨by show (-9223372036854775808) ≤ n2; omega, by show n2 ≤ 9223372036854775807; omega⟩
          rcases i with _ | i
          · simp at hr
            obtain ⟨rfl, rfl⟩ := hr
            exact ⟨by show 16 ≤ numOf n1 60; omega, by show numOf n1 60 ≤ 59; omega⟩
          simp at hr
        · intro q a b t hm
          simp at hm
        · exact TabOk.cons num10 (by decide) (by decide) lo0 hi0 (show numOf n0 10 = 3 from e1) (TabOk.cons num60 (by decide) (by decide) lo1 hi1 rfl (TabOk.cons num4 (by decide) (by decide) lo2 hi2 (show numOf n2 4 = 0 from e9) (TabOk.nil)))
      ·
        refine case53 (σ := fun i => if i = 0 then n0 else if i = 1 then n1 else if i = 2 then n2 else if i = 3 then numOf n1 60 else 0) hL ⟨?_, ?_⟩ ?_ (fun ρ => VRs.cons (by simp [VR, E.den, bT, bF]) (VRs.cons (by simp [VR, E.den, bT, bF]) (VRs.cons (by simp [VR, E.den, bT, bF]) (VRs.nil))))
        · intro i lo hi hr
          rcases i with _ | i
          · simp at hr
            obtain ⟨rfl, rfl⟩ := hr
            exact ⟨by show (-9223372036854775808) ≤ n0; omega, by show n0 ≤ 9223372036854775807; omega⟩
          rcases i with _ | i
          · simp at hr
            obtain ⟨rfl, rfl⟩ := hr
            exact ⟨by show (-9223372036854775808) ≤ n1; omega, by show n1 ≤ 9223372036854775807; omega⟩
          rcases i with _ | i
          · simp at hr
            obtain ⟨rfl, rfl⟩ := hr
            exact ⟨by show (-9223372036854775808) ≤ n2; omega, by show n2 ≤ 9223372036854775807; omega⟩
          rcases i with _ | i
          · simp at hr
            obtain ⟨rfl, rfl⟩ := hr
            exact ⟨by show 16 ≤ numOf n1 60; omega, by show numOf n1 60 ≤ 59; omega⟩
          simp at hr
        · intro q a b t hm
          simp at hm
        · exact TabOk.cons num10 (by decide) (by decide) lo0 hi0 (show numOf n0 10 = 3 from e1) (TabOk.cons num60 (by decide) (by decide) lo1 hi1 rfl (TabOk.cons num4 (by decide) (by decide) lo2 hi2 (show numOf n2 4 = 1 from e9) (TabOk.nil)))
      ·
        refine case54 (σ := fun i => if i = 0 then n0 else if i = 1 then n1 else if i = 2 then n2 else if i = 3 then numOf n1 60 else 0) hL ⟨?_, ?_⟩ ?_ (fun ρ => VRs.cons (by simp [VR, E.den, bT, bF]) (VRs.cons (by simp [VR, E.den, bT, bF]) (VRs.cons (by simp [VR, E.den, bT, bF]) (VRs.nil))))
        · intro i lo hi hr
          rcases i with _ | i
          · simp at hr
            obtain ⟨rfl, rfl⟩ := hr
            exact ⟨by show (-9223372036854775808) ≤ n0; omega, by show n0 ≤ 9223372036854775807; omega⟩
          rcases i with _ | i
          · simp at hr
            obtain ⟨rfl, rfl⟩ := hr
            exact ⟨by show (-9223372036854775808) ≤ n1; omega, by show n1 ≤ 9223372036854775807; omega⟩
          rcases i with _ | i
          · simp at hr
            obtain ⟨rfl, rfl⟩ := hr
            exact ⟨by show (-9223372036854775808) ≤ n2; omega, by show n2 ≤ 9223372036854775807; omega⟩
          rcases i with _ | i
          · simp at hr
            obtain ⟨rfl, rfl⟩ := hr
            exact ⟨by show 16 ≤ numOf n1 60; omega, by show numOf n1 60 ≤ 59; omega⟩
          simp at hr
        · intro q a b t hm
          simp at hm
        · exact TabOk.cons num10 (by decide) (by decide) lo0 hi0 (show numOf n0 10 = 3 from e1) (TabOk.cons num60 (by decide) (by decide) lo1 hi1 rfl (TabOk.cons num4 (by decide) (by decide) lo2 hi2 (show numOf n2 4 = 2 from e9) (TabOk.nil)))
      ·
        refine case55 (σ := fun i => if i = 0 then n0 else if i = 1 then n1 else if i = 2 then n2 else if i = 3 then numOf n1 60 else 0) hL ⟨?_, ?_⟩ ?_ (fun ρ => VRs.cons (by simp [VR, E.den, bT, bF]) (VRs.cons (by simp [VR, E.den, bT, bF]) (VRs.cons (by simp [VR, E.den, bT, bF]) (VRs.nil))))
        · intro i lo hi hr
          rcases i with _ | i
          · simp at hr
            obtain ⟨rfl, rfl⟩ := hr
            exact ⟨by show (-9223372036854775808) ≤ n0; omega, by show n0 ≤ 9223372036854775807; omega⟩
          rcases i with _ | i
          · simp at hr
            obtain ⟨rfl, rfl⟩ := hr
            exact ⟨by show (-9223372036854775808) ≤ n1; omega, by show n1 ≤ 9223372036854775807; omega⟩
          rcases i with _ | i
          · simp at hr
            obtain ⟨rfl, rfl⟩ := hr
            exact ⟨by show (-9223372036854775808) ≤ n2; omega, by show n2 ≤ 9223372036854775807; omega⟩
          rcases i with _ | i
          · simp at hr
            obtain ⟨rfl, rfl⟩ := hr
            exact ⟨by show 16 ≤ numOf n1 60; omega, by show numOf n1 60 ≤ 59; omega⟩
          simp at hr
        · intro q a b t hm
          simp at hm
        · exact TabOk.cons num10 (by decide) (by decide) lo0 hi0 (show numOf n0 10 = 3 from e1) (TabOk.cons num60 (by decide) (by decide) lo1 hi1 rfl (TabOk.cons num4 (by decide) (by decide) lo2 hi2 (show numOf n2 4 = 3 from e9) (TabOk.nil)))
  ·
    have q10 : (numOf n1 60 = 0) ∨ (numOf n1 60 = 1) ∨ (numOf n1 60 = 2) ∨ (numOf n1 60 = 3) ∨ (numOf n1 60 = 4) ∨ (numOf n1 60 = 5) ∨ (numOf n1 60 = 6) ∨ (numOf n1 60 = 7) ∨ (numOf n1 60 = 8) ∨ (numOf n1 60 = 9) ∨ (numOf n1 60 = 10) ∨ (numOf n1 60 = 11) ∨ (numOf n1 60 = 12) ∨ (numOf n1 60 = 13) ∨ (numOf n1 60 = 14) ∨ (numOf n1 60 = 15) ∨ (numOf n1 60 = 16) ∨ (numOf n1 60 = 17) ∨ (numOf n1 60 = 18) ∨ (numOf n1 60 = 19) ∨ (20 ≤ numOf n1 60) := by omega
    rcases q10 with q10 | q10 | q10 | q10 | q10 | q10 | q10 | q10 | q10 | q10 | q10 | q10 | q10 | q10 | q10 | q10 | q10 | q10 | q10 | q10 | q10
    ·
      exact case56 (σ := (sg n0 n1 n2)) hL (Known2.nil _) (TabOk.cons num10 (by decide) (by decide) lo0 hi0 e1 (TabOk.cons num60 (by decide) (by decide) lo1 hi1 q10 (TabOk.nil))) (fun ρ => VRs.cons (by simp [VR, E.den, bT, bF, sg]) (VRs.cons (by simp [VR, E.den, bT, bF, sg]) (VRs.cons (by simp [VR, E.den, bT, bF, sg]) (VRs.nil))))
    ·
      exact case57 (σ := (sg n0 n1 n2)) hL (Known2.nil _) (TabOk.cons num10 (by decide) (by decide) lo0 hi0 e1 (TabOk.cons num60 (by decide) (by decide) lo1 hi1 q10 (TabOk.nil))) (fun ρ => VRs.cons (by simp [VR, E.den, bT, bF, sg]) (VRs.cons (by simp [VR, E.den, bT, bF, sg]) (VRs.cons (by simp [VR, E.den, bT, bF, sg]) (VRs.nil))))
    ·
      exact case58 (σ := (sg n0 n1 n2)) hL (Known2.nil _) (TabOk.cons num10 (by decide) (by decide) lo0 hi0 e1 (TabOk.cons num60 (by decide) (by decide) lo1 hi1 q10 (TabOk.nil))) (fun ρ => VRs.cons (by simp [VR, E.den, bT, bF, sg]) (VRs.cons (by simp [VR, E.den, bT, bF, sg]) (VRs.cons (by simp [VR, E.den, bT, bF, sg]) (VRs.nil))))
    ·
      exact case59 (σ := (sg n0 n1 n2)) hL (Known2.nil _) (TabOk.cons num10 (by decide) (by decide) lo0 hi0 e1 (TabOk.cons num60 (by decide) (by decide) lo1 hi1 q10 (TabOk.nil))) (fun ρ => VRs.cons (by simp [VR, E.den, bT, bF, sg]) (VRs.cons (by simp [VR, E.den, bT, bF, sg]) (VRs.cons (by simp [VR, E.den, bT, bF, sg]) (VRs.nil))))
    ·
      exact case60 (σ := (sg n0 n1 n2)) hL (Known2.nil _) (TabOk.cons num10 (by decide) (by decide) lo0 hi0 e1 (TabOk.cons num60 (by decide) (by decide) lo1 hi1 q10 (TabOk.nil))) (fun ρ => VRs.cons (by simp [VR, E.den, bT, bF, sg]) (VRs.cons (by simp [VR, E.den, bT, bF, sg]) (VRs.cons (by simp [VR, E.den, bT, bF, sg]) (VRs.nil))))
    ·
      exact case61 (σ := (sg n0 n1 n2)) hL (Known2.nil _) (TabOk.cons num10 (by decide) (by decide) lo0 hi0 e1 (TabOk.cons num60 (by decide) (by decide) lo1 hi1 q10 (TabOk.nil))) (fun ρ => VRs.cons (by simp [VR, E.den, bT, bF, sg]) (VRs.cons (by simp [VR, E.den, bT, bF, sg]) (VRs.cons (by simp [VR, E.den, bT, bF, sg]) (VRs.nil))))
    ·
      exact case62 (σ := (sg n0 n1 n2)) hL (Known2.nil _) (TabOk.cons num10 (by decide) (by decide) lo0 hi0 e1 (TabOk.cons num60 (by decide) (by decide) lo1 hi1 q10 (TabOk.nil))) (fun ρ => VRs.cons (by simp [VR, E.den, bT, bF, sg]) (VRs.cons (by simp [VR, E.den, bT, bF, sg]) (VRs.cons (by simp [VR, E.den, bT, bF, sg]) (VRs.nil))))
    ·
      exact case63 (σ := (sg n0 n1 n2)) hL (Known2.nil _) (TabOk.cons num10 (by decide) (by decide) lo0 hi0 e1 (TabOk.cons num60 (by decide) (by decide) lo1 hi1 q10 (TabOk.nil))) (fun ρ => VRs.cons (by simp [VR, E.den, bT, bF, sg]) (VRs.cons (by simp [VR, E.den, bT, bF, sg]) (VRs.cons (by simp [VR, E.den, bT, bF, sg]) (VRs.nil))))
    ·
      exact case64 (σ := (sg n0 n1 n2)) hL (Known2.nil _) (TabOk.cons num10 (by decide) (by decide) lo0 hi0 e1 (TabOk.cons num60 (by decide) (by decide) lo1 hi1 q10 (TabOk.nil))) (fun ρ => VRs.cons (by simp [VR, E.den, bT, bF, sg]) (VRs.cons (by simp [VR, E.den, bT, bF, sg]) (VRs.cons (by simp [VR, E.den, bT, bF, sg]) (VRs.nil))))
    ·
      exact case65 (σ := (sg n0 n1 n2)) hL (Known2.nil _) (TabOk.cons num10 (by decide) (by decide) lo0 hi0 e1 (TabOk.cons num60 (by decide) (by decide) lo1 hi1 q10 (TabOk.nil))) (fun ρ => VRs.cons (by simp [VR, E.den, bT, bF, sg]) (VRs.cons (by simp [VR, E.den, bT, bF, sg]) (VRs.cons (by simp [VR, E.den, bT, bF, sg]) (VRs.nil))))
    ·
      exact case66 (σ := (sg n0 n1 n2)) hL (Known2.nil _) (TabOk.cons num10 (by decide) (by decide) lo0 hi0 e1 (TabOk.cons num60 (by decide) (by decide) lo1 hi1 q10 (TabOk.nil))) (fun ρ => VRs.cons (by simp [VR, E.den, bT, bF, sg]) (VRs.cons (by simp [VR, E.den, bT, bF, sg]) (VRs.cons (by simp [VR, E.den, bT, bF, sg]) (VRs.nil))))
    ·
      exact case67 (σ := (sg n0 n1 n2)) hL (Known2.nil _) (TabOk.cons num10 (by decide) (by decide) lo0 hi0 e1 (TabOk.cons num60 (by decide) (by decide) lo1 hi1 q10 (TabOk.nil))) (fun ρ => VRs.cons (by simp [VR, E.den, bT, bF, sg]) (VRs.cons (by simp [VR, E.den, bT, bF, sg]) (VRs.cons (by simp [VR, E.den, bT, bF, sg]) (VRs.nil))))
    ·
      exact case68 (σ := (sg n0 n1 n2)) hL (Known2.nil _) (TabOk.cons num10 (by decide) (by decide) lo0 hi0 e1 (TabOk.cons num60 (by decide) (by decide) lo1 hi1 q10 (TabOk.nil))) (fun ρ => VRs.cons (by simp [VR, E.den, bT, bF, sg]) (VRs.cons (by simp [VR, E.den, bT, bF, sg]) (VRs.cons (by simp [VR, E.den, bT, bF, sg]) (VRs.nil))))
    ·
      exact case69 (σ := (sg n0 n1 n2)) hL (Known2.nil _) (TabOk.cons num10 (by decide) (by decide) lo0 hi0 e1 (TabOk.cons num60 (by decide) (by decide) lo1 hi1 q10 (TabOk.nil))) (fun ρ => VRs.cons (by simp [VR, E.den, bT, bF, sg]) (VRs.cons (by simp [VR, E.den, bT, bF, sg]) (VRs.cons (by simp [VR, E.den, bT, bF, sg]) (VRs.nil))))
    ·
      exact case70 (σ := (sg n0 n1 n2)) hL (Known2.nil _) (TabOk.cons num10 (by decide) (by decide) lo0 hi0 e1 (TabOk.cons num60 (by decide) (by decide) lo1 hi1 q10 (TabOk.nil))) (fun ρ => VRs.cons (by simp [VR, E.den, bT, bF, sg]) (VRs.cons (by simp [VR, E.den, bT, bF, sg]) (VRs.cons (by simp [VR, E.den, bT, bF, sg]) (VRs.nil))))
    ·
      exact case71 (σ := (sg n0 n1 n2)) hL (Known2.nil _) (TabOk.cons num10 (by decide) (by decide) lo0 hi0 e1 (TabOk.cons num60 (by decide) (by decide) lo1 hi1 q10 (TabOk.nil))) (fun ρ => VRs.cons (by simp [VR, E.den, bT, bF, sg]) (VRs.cons (by simp [VR, E.den, bT, bF, sg]) (VRs.cons (by simp [VR, E.den, bT, bF, sg]) (VRs.nil))))
    ·
      exact case72 (σ := (sg n0 n1 n2)) hL (Known2.nil _) (TabOk.cons num10 (by decide) (by decide) lo0 hi0 e1 (TabOk.cons num60 (by decide) (by decide) lo1 hi1 q10 (TabOk.nil))) (fun ρ => VRs.cons (by simp [VR, E.den, bT, bF, sg]) (VRs.cons (by simp [VR, E.den, bT, bF, sg]) (VRs.cons (by simp [VR, E.den, bT, bF, sg]) (VRs.nil))))
    ·
      exact case73 (σ := (sg n0 n1 n2)) hL (Known2.nil _) (TabOk.cons num10 (by decide) (by decide) lo0 hi0 e1 (TabOk.cons num60 (by decide) (by decide) lo1 hi1 q10 (TabOk.nil))) (fun ρ => VRs.cons (by simp [VR, E.den, bT, bF, sg]) (VRs.cons (by simp [VR, E.den, bT, bF, sg]) (VRs.cons (by simp [VR, E.den, bT, bF, sg]) (VRs.nil))))
    ·
      exact case74 (σ := (sg n0 n1 n2)) hL (Known2.nil _) (TabOk.cons num10 (by decide) (by decide) lo0 hi0 e1 (TabOk.cons num60 (by decide) (by decide) lo1 hi1 q10 (TabOk.nil))) (fun ρ => VRs.cons (by simp [VR, E.den, bT, bF, sg]) (VRs.cons (by simp [VR, E.den, bT, bF, sg]) (VRs.cons (by simp [VR, E.den, bT, bF, sg]) (VRs.nil))))
    ·
      exact case75 (σ := (sg n0 n1 n2)) hL (Known2.nil _) (TabOk.cons num10 (by decide) (by decide) lo0 hi0 e1 (TabOk.cons num60 (by decide) (by decide) lo1 hi1 q10 (TabOk.nil))) (fun ρ => VRs.cons (by simp [VR, E.den, bT, bF, sg]) (VRs.cons (by simp [VR, E.den, bT, bF, sg]) (VRs.cons (by simp [VR, E.den, bT, bF, sg]) (VRs.nil))))
    ·
      obtain ⟨a11, b11⟩ := numOf_range n2 4 (by decide)
      have e11 : numOf n2 4 = 0 ∨ numOf n2 4 = 1 ∨ numOf n2 4 = 2 ∨ numOf n2 4 = 3 := by omega
      rcases e11 with e11 | e11 | e11 | e11
      ·
        refine case76 (σ := fun i => if i = 0 then n0 else if i = 1 then n1 else if i = 2 then n2 else if i = 3 then numOf n1 60 else 0) hL ⟨?_, ?_⟩ ?_ (fun ρ => VRs.cons (by simp [VR, E.den, bT, bF]) (VRs.cons (by simp [VR, E.den, bT, bF]) (VRs.cons (by simp [VR, E.den, bT, bF]) (VRs.nil))))
        · intro i lo hi hr
          rcases i with _ | i
          · simp at hr
            obtain ⟨rfl, rfl⟩ := hr
            exact ⟨by show (-9223372036854775808) ≤ n0; omega, by show n0 ≤ 9223372036854775807; omega⟩
          rcases i with _ | i
          · simp at hr
            obtain ⟨rfl, rfl⟩ := hr
            exact ⟨by show (-9223372036854775808) ≤ n1; omega, by show n1 ≤ 9223372036854775807; omega⟩
          rcases i with _ | i
          · simp at hr
            obtain ⟨rfl, rfl⟩ := hr
            exact ⟨by show (-9223372036854775808) ≤ n2; omega, by show n2 ≤ 9223372036854775807; omega⟩
          rcases i with _ | i
          · simp at hr
            obtain ⟨rfl, rfl⟩ := hr
            exact ⟨by show 20 ≤ numOf n1 60; omega, by show numOf n1 60 ≤ 59; omega⟩
          simp at hr
        · intro q a b t hm
          simp at hm
        · exact TabOk.cons num10 (by decide) (by decide) lo0 hi0 (show numOf n0 10 = 4 from e1) (TabOk.cons num60 (by decide) (by decide) lo1 hi1 rfl (TabOk.cons num4 (by decide) (by decide) lo2 hi2 (show numOf n2 4 = 0 from e11) (TabOk.nil)))
      ·
        refine case77 (σ := fun i => if i = 0 then n0 else if i = 1 then n1 else if i = 2 then n2 else if i = 3 then numOf n1 60 else 0) hL ⟨?_, ?_⟩ ?_ (fun ρ => VRs.cons (by simp [VR, E.den, bT, bF]) (VRs.cons (by simp [VR, E.den, bT, bF]) (VRs.cons (by simp [VR, E.den, bT, bF]) (VRs.nil))))
        · intro i lo hi hr
          rcases i with _ | i
          · simp at hr
            obtain ⟨rfl, rfl⟩ := hr
            exact ⟨by show (-9223372036854775808) ≤ n0; omega, by show n0 ≤ 9223372036854775807; omega⟩
          rcases i with _ | i
          · simp at hr
            obtain ⟨rfl, rfl⟩ := hr
            exact ⟨by show (-9223372036854775808) ≤ n1; omega, by show n1 ≤ 9223372036854775807; omega⟩
          rcases i with _ | i
          · simp at hr
            obtain ⟨rfl, rfl⟩ := hr
            exact ⟨by show (-9223372036854775808) ≤ n2; omega, by show n2 ≤ 9223372036854775807; omega⟩
          rcases i with _ | i
          · simp at hr
            obtain ⟨rfl, rfl⟩ := hr
            exact ⟨by show 20 ≤ numOf n1 60; omega, by show numOf n1 60 ≤ 59; omega⟩
          simp at hr
        · intro q a b t hm
          simp at hm
        · exact TabOk.cons num10 (by decide) (by decide) lo0 hi0 (show numOf n0 10 = 4 from e1) (TabOk.cons num60 (by decide) (by decide) lo1 hi1 rfl (TabOk.cons num4 (by decide) (by decide) lo2 hi2 (show numOf n2 4 = 1 from e11) (TabOk.nil)))
      ·
        refine case78 (σ := fun i => if i = 0 then n0 else if i = 1 then n1 else if i = 2 then n2 else if i = 3 then numOf n1 60 else 0) hL ⟨?_, ?_⟩ ?_ (fun ρ => VRs.cons (by simp [VR, E.den, bT, bF]) (VRs.cons (by simp [VR, E.den, bT, bF]) (VRs.cons (by simp [VR, E.den, bT, bF]) (VRs.nil))))
        · intro i lo hi hr
          rcases i with _ | i
          · simp at hr
            obtain ⟨rfl, rfl⟩ := hr
            exact ⟨by show (-9223372036854775808) ≤ n0; omega, by show n0 ≤ 9223372036854775807; omega⟩
          rcases i with _ | i
          · simp at hr
            obtain ⟨rfl, rfl⟩ := hr
            exact ⟨by show (-9223372036854775808) ≤ n1; omega, by show n1 ≤ 9223372036854775807; omega⟩
          rcases i with _ | i
          · simp at hr
            obtain ⟨rfl, rfl⟩ := hr
            exact ⟨by show (-9223372036854775808) ≤ n2; omega, by show n2 ≤ 9223372036854775807; omega⟩
          rcases i with _ | i
          · simp at hr
            obtain ⟨rfl, rfl⟩ := hr
            exact ⟨by show 20 ≤ numOf n1 60; omega, by show numOf n1 60 ≤ 59; omega⟩
          simp at hr
        · intro q a b t hm
          simp at hm
        · exact TabOk.cons num10 (by decide) (by decide) lo0 hi0 (show numOf n0 10 = 4 from e1) (TabOk.cons num60 (by decide) (by decide) lo1 hi1 rfl (TabOk.cons num4 (by decide) (by decide) lo2 hi2 (show numOf n2 4 = 2 from e11) (TabOk.nil)))
      ·
        refine case79 (σ := fun i => if i = 0 then n0 else if i = 1 then n1 else if i = 2 then n2 else if i = 3 then numOf n1 60 else 0) hL ⟨?_, ?_⟩ ?_ (fun ρ => VRs.cons (by simp [VR, E.den, bT, bF]) (VRs.cons (by simp [VR, E.den, bT, bF]) (VRs.cons (by simp [VR, E.den, bT, bF]) (VRs.nil))))
        · intro i lo hi hr
          rcases i with _ | i
          · simp at hr
            obtain ⟨rfl, rfl⟩ := hr
            exact ⟨by show (-9223372036854775808) ≤ n0; omega, by show n0 ≤ 9223372036854775807; omega⟩
          rcases i with _ | i
          · simp at hr
            obtain ⟨rfl, rfl⟩ := hr
            exact ⟨by show (-9223372036854775808) ≤ n1; omega, by show n1 ≤ 9223372036854775807; omega⟩
          rcases i with _ | i
          · simp at hr
            obtain ⟨rfl, rfl⟩ := hr
            exact ⟨by show (-9223372036854775808) ≤ n2; omega, by show n2 ≤ 9223372036854775807; omega⟩
          rcases i with _ | i
          · simp at hr
            obtain ⟨rfl, rfl⟩ := hr
            exact ⟨by show 20 ≤ numOf n1 60; omega, by show numOf n1 60 ≤ 59; omega⟩
          simp at hr
        · intro q a b t hm
          simp at hm
        · exact TabOk.cons num10 (by decide) (by decide) lo0 hi0 (show numOf n0 10 = 4 from e1) (TabOk.cons num60 (by decide) (by decide) lo1 hi1 rfl (TabOk.cons num4 (by decide) (by decide) lo2 hi2 (show numOf n2 4 = 3 from e11) (TabOk.nil)))
  ·
    have q12 : (numOf n1 60 = 0) ∨ (numOf n1 60 = 1) ∨ (numOf n1 60 = 2) ∨ (numOf n1 60 = 3) ∨ (numOf n1 60 = 4) ∨ (numOf n1 60 = 5) ∨ (numOf n1 60 = 6) ∨ (numOf n1 60 = 7) ∨ (numOf n1 60 = 8) ∨ (numOf n1 60 = 9) ∨ (numOf n1 60 = 10) ∨ (numOf n1 60 = 11) ∨ (numOf n1 60 = 12) ∨ (numOf n1 60 = 13) ∨ (numOf n1 60 = 14) ∨ (numOf n1 60 = 15) ∨ (numOf n1 60 = 16) ∨ (numOf n1 60 = 17) ∨ (numOf n1 60 = 18) ∨ (numOf n1 60 = 19) ∨ (numOf n1 60 = 20) ∨ (numOf n1 60 = 21) ∨ (numOf n1 60 = 22) ∨ (numOf n1 60 = 23) ∨ (24 ≤ numOf n1 60) := by omega
    rcases q12 with q12 | q12 | q12 | q12 | q12 | q12 | q12 | q12 | q12 | q12 | q12 | q12 | q12 | q12 | q12 | q12 | q12 | q12 | q12 | q12 | q12 | q12 | q12 | q12 | q12
    ·
      exact case80 (σ := (sg n0 n1 n2)) hL (Known2.nil _) (TabOk.cons num10 (by decide) (by decide) lo0 hi0 e1 (TabOk.cons num60 (by decide) (by decide) lo1 hi1 q12 (TabOk.nil))) (fun ρ => VRs.cons (by simp [VR, E.den, bT, bF, sg]) (VRs.cons (by simp [VR, E.den, bT, bF, sg]) (VRs.cons (by simp [VR, E.den, bT, bF, sg]) (VRs.nil))))
    ·
      exact case81 (σ := (sg n0 n1 n2)) hL (Known2.nil _) (TabOk.cons num10 (by decide) (by decide) lo0 hi0 e1 (TabOk.cons num60 (by decide) (by decide) lo1 hi1 q12 (TabOk.nil))) (fun ρ => VRs.cons (by simp [VR, E.den, bT, bF, sg]) (VRs.cons (by simp [VR, E.den, bT, bF, sg]) (VRs.cons (by simp [VR, E.den, bT, bF, sg]) (VRs.nil))))
    ·
      exact case82 (σ := (sg n0 n1 n2)) hL (Known2.nil _) (TabOk.cons num10 (by decide) (by decide) lo0 hi0 e1 (TabOk.cons num60 (by decide) (by decide) lo1 hi1 q12 (TabOk.nil))) (fun ρ => VRs.cons (by simp [VR, E.den, bT, bF, sg]) (VRs.cons (by simp [VR, E.den, bT, bF, sg]) (VRs.cons (by simp [VR, E.den, bT, bF, sg]) (VRs.nil))))
    ·
      exact case83 (σ := (sg n0 n1 n2)) hL (Known2.nil _) (TabOk.cons num10 (by decide) (by decide) lo0 hi0 e1 (TabOk.cons num60 (by decide) (by decide) lo1 hi1 q12 (TabOk.nil))) (fun ρ => VRs.cons (by simp [VR, E.den, bT, bF, sg]) (VRs.cons (by simp [VR, E.den, bT, bF, sg]) (VRs.cons (by simp [VR, E.den, bT, bF, sg]) (VRs.nil))))
    ·
      exact case84 (σ := (sg n0 n1 n2)) hL (Known2.nil _) (TabOk.cons num10 (by decide) (by decide) lo0 hi0 e1 (TabOk.cons num60 (by decide) (by decide) lo1 hi1 q12 (TabOk.nil))) (fun ρ => VRs.cons (by simp [VR, E.den, bT, bF, sg]) (VRs.cons (by simp [VR, E.den, bT, bF, sg]) (VRs.cons (by simp [VR, E.den, bT, bF, sg]) (VRs.nil))))
    ·
      exact case85 (σ := (sg n0 n1 n2)) hL (Known2.nil _) (TabOk.cons num10 (by decide) (by decide) lo0 hi0 e1 (TabOk.cons num60 (by decide) (by decide) lo1 hi1 q12 (TabOk.nil))) (fun ρ => VRs.cons (by simp [VR, E.den, bT, bF, sg]) (VRs.cons (by simp [VR, E.den, bT, bF, sg]) (VRs.cons (by simp [VR, E.den, bT, bF, sg]) (VRs.nil))))
    ·
      exact case86 (σ := (sg n0 n1 n2)) hL (Known2.nil _) (TabOk.cons num10 (by decide) (by decide) lo0 hi0 e1 (TabOk.cons num60 (by decide) (by decide) lo1 hi1 q12 (TabOk.nil))) (fun ρ => VRs.cons (by simp [VR, E.den, bT, bF, sg]) (VRs.cons (by simp [VR, E.den, bT, bF, sg]) (VRs.cons (by simp [VR, E.den, bT, bF, sg]) (VRs.nil))))
    ·
      exact case87 (σ := (sg n0 n1 n2)) hL (Known2.nil _) (TabOk.cons num10 (by decide) (by decide) lo0 hi0 e1 (TabOk.cons num60 (by decide) (by decide) lo1 hi1 q12 (TabOk.nil))) (fun ρ => VRs.cons (by simp [VR, E.den, bT, bF, sg]) (VRs.cons (by simp [VR, E.den, bT, bF, sg]) (VRs.cons (by simp [VR, E.den, bT, bF, sg]) (VRs.nil))))
    ·
      exact case88 (σ := (sg n0 n1 n2)) hL (Known2.nil _) (TabOk.cons num10 (by decide) (by decide) lo0 hi0 e1 (TabOk.cons num60 (by decide) (by decide) lo1 hi1 q12 (TabOk.nil))) (fun ρ => VRs.cons (by simp [VR, E.den, bT, bF, sg]) (VRs.cons (by simp [VR, E.den, bT, bF, sg]) (VRs.cons (by simp [VR, E.den, bT, bF, sg]) (VRs.nil))))
    ·
      exact case89 (σ := (sg n0 n1 n2)) hL (Known2.nil _) (TabOk.cons num10 (by decide) (by decide) lo0 hi0 e1 (TabOk.cons num60 (by decide) (by decide) lo1 hi1 q12 (TabOk.nil))) (fun ρ => VRs.cons (by simp [VR, E.den, bT, bF, sg]) (VRs.cons (by simp [VR, E.den, bT, bF, sg]) (VRs.cons (by simp [VR, E.den, bT, bF, sg]) (VRs.nil))))
    ·
      exact case90 (σ := (sg n0 n1 n2)) hL (Known2.nil _) (TabOk.cons num10 (by decide) (by decide) lo0 hi0 e1 (TabOk.cons num60 (by decide) (by decide) lo1 hi1 q12 (TabOk.nil))) (fun ρ => VRs.cons (by simp [VR, E.den, bT, bF, sg]) (VRs.cons (by simp [VR, E.den, bT, bF, sg]) (VRs.cons (by simp [VR, E.den, bT, bF, sg]) (VRs.nil))))
    ·
      exact case91 (σ := (sg n0 n1 n2)) hL (Known2.nil _) (TabOk.cons num10 (by decide) (by decide) lo0 hi0 e1 (TabOk.cons num60 (by decide) (by decide) lo1 hi1 q12 (TabOk.nil))) (fun ρ => VRs.cons (by simp [VR, E.den, bT, bF, sg]) (VRs.cons (by simp [VR, E.den, bT, bF, sg]) (VRs.cons (by simp [VR, E.den, bT, bF, sg]) (VRs.nil))))
    ·
      exact case92 (σ := (sg n0 n1 n2)) hL (Known2.nil _) (TabOk.cons num10 (by decide) (by decide) lo0 hi0 e1 (TabOk.cons num60 (by decide) (by decide) lo1 hi1 q12 (TabOk.nil))) (fun ρ => VRs.cons (by simp [VR, E.den, bT, bF, sg]) (VRs.cons (by simp [VR, E.den, bT, bF, sg]) (VRs.cons (by simp [VR, E.den, bT, bF, sg]) (VRs.nil))))
    ·
      exact case93 (σ := (sg n0 n1 n2)) hL (Known2.nil _) (TabOk.cons num10 (by decide) (by decide) lo0 hi0 e1 (TabOk.cons num60 (by decide) (by decide) lo1 hi1 q12 (TabOk.nil))) (fun ρ => VRs.cons (by simp [VR, E.den, bT, bF, sg]) (VRs.cons (by simp [VR, E.den, bT, bF, sg]) (VRs.cons (by simp [VR, E.den, bT, bF, sg]) (VRs.nil))))
    ·
      exact case94 (σ := (sg n0 n1 n2)) hL (Known2.nil _) (TabOk.cons num10 (by decide) (by decide) lo0 hi0 e1 (TabOk.cons num60 (by decide) (by decide) lo1 hi1 q12 (TabOk.nil))) (fun ρ => VRs.cons (by simp [VR, E.den, bT, bF, sg]) (VRs.cons (by simp [VR, E.den, bT, bF, sg]) (VRs.cons (by simp [VR, E.den, bT, bF, sg]) (VRs.nil))))
    ·
      exact case95 (σ := (sg n0 n1 n2)) hL (Known2.nil _) (TabOk.cons num10 (by decide) (by decide) lo0 hi0 e1 (TabOk.cons num60 (by decide) (by decide) lo1 hi1 q12 (TabOk.nil))) (fun ρ => VRs.cons (by simp [VR, E.den, bT, bF, sg]) (VRs.cons (by simp [VR, E.den, bT, bF, sg]) (VRs.cons (by simp [VR, E.den, bT, bF, sg]) (VRs.nil))))
    ·
      exact case96 (σ := (sg n0 n1 n2)) hL (Known2.nil _) (TabOk.cons num10 (by decide) (by decide) lo0 hi0 e1 (TabOk.cons num60 (by decide) (by decide) lo1 hi1 q12 (TabOk.nil))) (fun ρ => VRs.cons (by simp [VR, E.den, bT, bF, sg]) (VRs.cons (by simp [VR, E.den, bT, bF, sg]) (VRs.cons (by simp [VR, E.den, bT, bF, sg]) (VRs.nil))))
    ·
      exact case97 (σ := (sg n0 n1 n2)) hL (Known2.nil _) (TabOk.cons num10 (by decide) (by decide) lo0 hi0 e1 (TabOk.cons num60 (by decide) (by decide) lo1 hi1 q12 (TabOk.nil))) (fun ρ => VRs.cons (by simp [VR, E.den, bT, bF, sg]) (VRs.cons (by simp [VR, E.den, bT, bF, sg]) (VRs.cons (by simp [VR, E.den, bT, bF, sg]) (VRs.nil))))
    ·
      exact case98 (σ := (sg n0 n1 n2)) hL (Known2.nil _) (TabOk.cons num10 (by decide) (by decide) lo0 hi0 e1 (TabOk.cons num60 (by decide) (by decide) lo1 hi1 q12 (TabOk.nil))) (fun ρ => VRs.cons (by simp [VR, E.den, bT, bF, sg]) (VRs.cons (by simp [VR, E.den, bT, bF, sg]) (VRs.cons (by simp [VR, E.den, bT, bF, sg]) (VRs.nil))))
    ·
      exact case99 (σ := (sg n0 n1 n2)) hL (Known2.nil _) (TabOk.cons num10 (by decide) (by decide) lo0 hi0 e1 (TabOk.cons num60 (by decide) (by decide) lo1 hi1 q12 (TabOk.nil))) (fun ρ => VRs.cons (by simp [VR, E.den, bT, bF, sg]) (VRs.cons (by simp [VR, E.den, bT, bF, sg]) (VRs.cons (by simp [VR, E.den, bT, bF, sg]) (VRs.nil))))
    ·
      exact case100 (σ := (sg n0 n1 n2)) hL (Known2.nil _) (TabOk.cons num10 (by decide) (by decide) lo0 hi0 e1 (TabOk.cons num60 (by decide) (by decide) lo1 hi1 q12 (TabOk.nil))) (fun ρ => VRs.cons (by simp [VR, E.den, bT, bF, sg]) (VRs.cons (by simp [VR, E.den, bT, bF, sg]) (VRs.cons (by simp [VR, E.den, bT, bF, sg]) (VRs.nil))))
    ·
      exact case101 (σ := (sg n0 n1 n2)) hL (Known2.nil _) (TabOk.cons num10 (by decide) (by decide) lo0 hi0 e1 (TabOk.cons num60 (by decide) (by decide) lo1 hi1 q12 (TabOk.nil))) (fun ρ => VRs.cons (by simp [VR, E.den, bT, bF, sg]) (VRs.cons (by simp [VR, E.den, bT, bF, sg]) (VRs.cons (by simp [VR, E.den, bT, bF, sg]) (VRs.nil))))
    ·
      exact case102 (σ := (sg n0 n1 n2)) hL (Known2.nil _) (TabOk.cons num10 (by decide) (by decide) lo0 hi0 e1 (TabOk.cons num60 (by decide) (by decide) lo1 hi1 q12 (TabOk.nil))) (fun ρ => VRs.cons (by simp [VR, E.den, bT, bF, sg]) (VRs.cons (by simp [VR, E.den, bT, bF, sg]) (VRs.cons (by simp [VR, E.den, bT, bF, sg]) (VRs.nil))))
    ·
      exact case103 (σ := (sg n0 n1 n2)) hL (Known2.nil _) (TabOk.cons num10 (by decide) (by decide) lo0 hi0 e1 (TabOk.cons num60 (by decide) (by decide) lo1 hi1 q12 (TabOk.nil))) (fun ρ => VRs.cons (by simp [VR, E.den, bT, bF, sg]) (VRs.cons (by simp [VR, E.den, bT, bF, sg]) (VRs.cons (by simp [VR, E.den, bT, bF, sg]) (VRs.nil))))
    ·
      obtain ⟨a13, b13⟩ := numOf_range n2 4 (by decide)
      have e13 : numOf n2 4 = 0 ∨ numOf n2 4 = 1 ∨ numOf n2 4 = 2 ∨ numOf n2 4 = 3 := by omega
      rcases e13 with e13 | e13 | e13 | e13
      ·
        refine case104 (σ := fun i => if i = 0 then n0 else if i = 1 then n1 else if i = 2 then n2 else if i = 3 then numOf n1 60 else 0) hL ⟨?_, ?_⟩ ?_ (fun ρ => VRs.cons (by simp [VR, E.den, bT, bF]) (VRs.cons (by simp [VR, E.den, bT, bF]) (VRs.cons (by simp [VR, E.den, bT, bF]) (VRs.nil))))
        · intro i lo hi hr
          rcases i with _ | i
          · simp at hr
            obtain ⟨rfl, rfl⟩ := hr
            exact ⟨by show (-9223372036854775808) ≤ n0; omega, by show n0 ≤ 9223372036854775807; omega⟩
          rcases i with _ | i
          · simp at hr
            obtain ⟨rfl, rfl⟩ := hr
            exact ⟨by show (-9223372036854775808) ≤ n1; omega, by show n1 ≤ 9223372036854775807; omega⟩
          rcases i with _ | i
          · simp at hr
            obtain ⟨rfl, rfl⟩ := hr
            exact ⟨by show (-9223372036854775808) ≤ n2; omega, by show n2 ≤ 9223372036854775807; omega⟩
          rcases i with _ | i
          · simp at hr
            obtain ⟨rfl, rfl⟩ := hr
            exact ⟨by show 24 ≤ numOf n1 60; omega, by show numOf n1 60 ≤ 59; omega⟩
          simp at hr
        · intro q a b t hm
          simp at hm
        · exact TabOk.cons num10 (by decide) (by decide) lo0 hi0 (show numOf n0 10 = 5 from e1) (TabOk.cons num60 (by decide) (by decide) lo1 hi1 rfl (TabOk.cons num4 (by decide) (by decide) lo2 hi2 (show numOf n2 4 = 0 from e13) (TabOk.nil)))
      ·
        refine case105 (σ := fun i => if i = 0 then n0 else if i = 1 then n1 else if i = 2 then n2 else if i = 3 then numOf n1 60 else 0) hL ⟨?_, ?_⟩ ?_ (fun ρ => VRs.cons (by simp [VR, E.den, bT, bF]) (VRs.cons (by simp [VR, E.den, bT, bF]) (VRs.cons (by simp [VR, E.den, bT, bF]) (VRs.nil))))
        · intro i lo hi hr
          rcases i with _ | i
          · simp at hr
            obtain ⟨rfl, rfl⟩ := hr
            exact ⟨by show (-9223372036854775808) ≤ n0; omega, by show n0 ≤ 9223372036854775807; omega⟩
          rcases i with _ | i
          · simp at hr
            obtain ⟨rfl, rfl⟩ := hr
            exact ⟨by show (-9223372036854775808) ≤ n1; omega, by show n1 ≤ 9223372036854775807; omega⟩
          rcases i with _ | i
          · simp at hr
            obtain ⟨rfl, rfl⟩ := hr
            exact ⟨by show (-9223372036854775808) ≤ n2; omega, by show n2 ≤ 9223372036854775807; omega⟩
          rcases i with _ | i
          · simp at hr
            obtain ⟨rfl, rfl⟩ := hr
            exact ⟨by show 24 ≤ numOf n1 60; omega, by show numOf n1 60 ≤ 59; omega⟩
          simp at hr
        · intro q a b t hm
          simp at hm
        · exact TabOk.cons num10 (by decide) (by decide) lo0 hi0 (show numOf n0 10 = 5 from e1) (TabOk.cons num60 (by decide) (by decide) lo1 hi1 rfl (TabOk.cons num4 (by decide) (by decide) lo2 hi2 (show numOf n2 4 = 1 from e13) (TabOk.nil)))
      ·
        refine case106 (σ := fun i => if i = 0 then n0 else if i = 1 then n1 else if i = 2 then n2 else if i = 3 then numOf n1 60 else 0) hL ⟨?_, ?_⟩ ?_ (fun ρ => VRs.cons (by simp [VR, E.den, bT, bF]) (VRs.cons (by simp [VR, E.den, bT, bF]) (VRs.cons (by simp [VR, E.den, bT, bF]) (VRs.nil))))
        · intro i lo hi hr
          rcases i with _ | i
          · simp at hr
            obtain ⟨rfl, rfl⟩ := hr
            exact ⟨by show (-9223372036854775808) ≤ n0; omega, by show n0 ≤ 9223372036854775807; omega⟩
          rcases i with _ | i
          · simp at hr
            obtain ⟨rfl, rfl⟩ := hr
            exact ⟨by show (-9223372036854775808) ≤ n1; omega, by show n1 ≤ 9223372036854775807; omega⟩
          rcases i with _ | i
          · simp at hr
            obtain ⟨rfl, rfl⟩ := hr
            exact ⟨by show (-9223372036854775808) ≤ n2; omega, by show n2 ≤ 9223372036854775807; omega⟩
          rcases i with _ | i
          · simp at hr
            obtain ⟨rfl, rfl⟩ := hr
            exact ⟨by show 24 ≤ numOf n1 60; omega, by show numOf n1 60 ≤ 59; omega⟩
          simp at hr
        · intro q a b t hm
          simp at hm
        · exact TabOk.cons num10 (by decide) (by decide) lo0 hi0 (show numOf n0 10 = 5 from e1) (TabOk.cons num60 (by decide) (by decide) lo1 hi1 rfl (TabOk.cons num4 (by decide) (by decide) lo2 hi2 (show numOf n2 4 = 2 from e13) (TabOk.nil)))
      ·
        refine case107 (σ := fun i => if i = 0 then n0 else if i = 1 then n1 else if i = 2 then n2 else if i = 3 then numOf n1 60 else 0) hL ⟨?_, ?_⟩ ?_ (fun ρ => VRs.cons (by simp [VR, E.den, bT, bF]) (VRs.cons (by simp [VR, E.den, bT, bF]) (VRs.cons (by simp [VR, E.den, bT, bF]) (VRs.nil))))
        · intro i lo hi hr
          rcases i with _ | i
          · simp at hr
            obtain ⟨rfl, rfl⟩ := hr
            exact ⟨by show (-9223372036854775808) ≤ n0; omega, by show n0 ≤ 9223372036854775807; omega⟩
          rcases i with _ | i
          · simp at hr
            obtain ⟨rfl, rfl⟩ := hr
            exact ⟨by show (-9223372036854775808) ≤ n1; omega, by show n1 ≤ 9223372036854775807; omega⟩
          rcases i with _ | i
          · simp at hr
            obtain ⟨rfl, rfl⟩ := hr
            exact ⟨by show (-9223372036854775808) ≤ n2; omega, by show n2 ≤ 9223372036854775807; omega⟩
          rcases i with _ | i
          · simp at hr
            obtain ⟨rfl, rfl⟩ := hr
            exact ⟨by show 24 ≤ numOf n1 60; omega, by show numOf n1 60 ≤ 59; omega⟩
          simp at hr
        · intro q a b t hm
          simp at hm
        · exact TabOk.cons num10 (by decide) (by decide) lo0 hi0 (show numOf n0 10 = 5 from e1) (TabOk.cons num60 (by decide) (by decide) lo1 hi1 rfl (TabOk.cons num4 (by decide) (by decide) lo2 hi2 (show numOf n2 4 = 3 from e13) (TabOk.nil)))
  ·
    have q14 : (numOf n1 60 = 0) ∨ (numOf n1 60 = 1) ∨ (numOf n1 60 = 2) ∨ (numOf n1 60 = 3) ∨ (numOf n1 60 = 4) ∨ (numOf n1 60 = 5) ∨ (numOf n1 60 = 6) ∨ (numOf n1 60 = 7) ∨ (numOf n1 60 = 8) ∨ (numOf n1 60 = 9) ∨ (numOf n1 60 = 10) ∨ (numOf n1 60 = 11) ∨ (numOf n1 60 = 12) ∨ (numOf n1 60 = 13) ∨ (numOf n1 60 = 14) ∨ (numOf n1 60 = 15) ∨ (numOf n1 60 = 16) ∨ (numOf n1 60 = 17) ∨ (numOf n1 60 = 18) ∨ (numOf n1 60 = 19) ∨ (numOf n1 60 = 20) ∨ (numOf n1 60 = 21) ∨ (numOf n1 60 = 22) ∨ (numOf n1 60 = 23) ∨ (numOf n1 60 = 24) ∨ (numOf n1 60 = 25) ∨ (numOf n1 60 = 26) ∨ (numOf n1 60 = 27) ∨ (28 ≤ numOf n1 60) := by omega
    rcases q14 with q14 | q14 | q14 | q14 | q14 | q14 | q14 | q14 | q14 | q14 | q14 | q14 | q14 | q14 | q14 | q14 | q14 | q14 | q14 | q14 | q14 | q14 | q14 | q14 | q14 | q14 | q14 | q14 | q14
    ·
      exact case108 (σ := (sg n0 n1 n2)) hL (Known2.nil _) (TabOk.cons num10 (by decide) (by decide) lo0 hi0 e1 (TabOk.cons num60 (by decide) (by decide) lo1 hi1 q14 (TabOk.nil))) (fun ρ => VRs.cons (by simp [VR, E.den, bT, bF, sg]) (VRs.cons (by simp [VR, E.den, bT, bF, sg]) (VRs.cons (by simp [VR, E.den, bT, bF, sg]) (VRs.nil))))
    ·
      exact case109 (σ := (sg n0 n1 n2)) hL (Known2.nil _) (TabOk.cons num10 (by decide) (by decide) lo0 hi0 e1 (TabOk.cons num60 (by decide) (by decide) lo1 hi1 q14 (TabOk.nil))) (fun ρ => VRs.cons (by simp [VR, E.den, bT, bF, sg]) (VRs.cons (by simp [VR, E.den, bT, bF, sg]) (VRs.cons (by simp [VR, E.den, bT, bF, sg]) (VRs.nil))))
    ·
      exact case110 (σ := (sg n0 n1 n2)) hL (Known2.nil _) (TabOk.cons num10 (by decide) (by decide) lo0 hi0 e1 (TabOk.cons num60 (by decide) (by decide) lo1 hi1 q14 (TabOk.nil))) (fun ρ => VRs.cons (by simp [VR, E.den, bT, bF, sg]) (VRs.cons (by simp [VR, E.den, bT, bF, sg]) (VRs.cons (by simp [VR, E.den, bT, bF, sg]) (VRs.nil))))
    ·
      exact case111 (σ := (sg n0 n1 n2)) hL (Known2.nil _) (TabOk.cons num10 (by decide) (by decide) lo0 hi0 e1 (TabOk.cons num60 (by decide) (by decide) lo1 hi1 q14 (TabOk.nil))) (fun ρ => VRs.cons (by simp [VR, E.den, bT, bF, sg]) (VRs.cons (by simp [VR, E.den, bT, bF, sg]) (VRs.cons (by simp [VR, E.den, bT, bF, sg]) (VRs.nil))))
    ·
      exact case112 (σ := (sg n0 n1 n2)) hL (Known2.nil _) (TabOk.cons num10 (by decide) (by decide) lo0 hi0 e1 (TabOk.cons num60 (by decide) (by decide) lo1 hi1 q14 (TabOk.nil))) (fun ρ => VRs.cons (by simp [VR, E.den, bT, bF, sg]) (VRs.cons (by simp [VR, E.den, bT, bF, sg]) (VRs.cons (by simp [VR, E.den, bT, bF, sg]) (VRs.nil))))
    ·
      exact case113 (σ := (sg n0 n1 n2)) hL (Known2.nil _) (TabOk.cons num10 (by decide) (by decide) lo0 hi0 e1 (TabOk.cons num60 (by decide) (by decide) lo1 hi1 q14 (TabOk.nil))) (fun ρ => VRs.cons (by simp [VR, E.den, bT, bF, sg]) (VRs.cons (by simp [VR, E.den, bT, bF, sg]) (VRs.cons (by simp [VR, E.den, bT, bF, sg]) (VRs.nil))))
    ·
      exact case114 (σ := (sg n0 n1 n2)) hL (Known2.nil _) (TabOk.cons num10 (by decide) (by decide) lo0 hi0 e1 (TabOk.cons num60 (by decide) (by decide) lo1 hi1 q14 (TabOk.nil))) (fun ρ => VRs.cons (by simp [VR, E.den, bT, bF, sg]) (VRs.cons (by simp [VR, E.den, bT, bF, sg]) (VRs.cons (by simp [VR, E.den, bT, bF, sg]) (VRs.nil))))
    ·
      exact case115 (σ := (sg n0 n1 n2)) hL (Known2.nil _) (TabOk.cons num10 (by decide) (by decide) lo0 hi0 e1 (TabOk.cons num60 (by decide) (by decide) lo1 hi1 q14 (TabOk.nil))) (fun ρ => VRs.cons (by simp [VR, E.den, bT, bF, sg]) (VRs.cons (by simp [VR, E.den, bT, bF, sg]) (VRs.cons (by simp [VR, E.den, bT, bF, sg]) (VRs.nil))))
    ·
      exact case116 (σ := (sg n0 n1 n2)) hL (Known2.nil _) (TabOk.cons num10 (by decide) (by decide) lo0 hi0 e1 (TabOk.cons num60 (by decide) (by decide) lo1 hi1 q14 (TabOk.nil))) (fun ρ => VRs.cons (by simp [VR, E.den, bT, bF, sg]) (VRs.cons (by simp [VR, E.den, bT, bF, sg]) (VRs.cons (by simp [VR, E.den, bT, bF, sg]) (VRs.nil))))
    ·
      exact case117 (σ := (sg n0 n1 n2)) hL (Known2.nil _) (TabOk.cons num10 (by decide) (by decide) lo0 hi0 e1 (TabOk.cons num60 (by decide) (by decide) lo1 hi1 q14 (TabOk.nil))) (fun ρ => VRs.cons (by simp [VR, E.den, bT, bF, sg]) (VRs.cons (by simp [VR, E.den, bT, bF, sg]) (VRs.cons (by simp [VR, E.den, bT, bF, sg]) (VRs.nil))))
    ·
      exact case118 (σ := (sg n0 n1 n2)) hL (Known2.nil _) (TabOk.cons num10 (by decide) (by decide) lo0 hi0 e1 (TabOk.cons num60 (by decide) (by decide) lo1 hi1 q14 (TabOk.nil))) (fun ρ => VRs.cons (by simp [VR, E.den, bT, bF, sg]) (VRs.cons (by simp [VR, E.den, bT, bF, sg]) (VRs.cons (by simp [VR, E.den, bT, bF, sg]) (VRs.nil))))
    ·
      exact case119 (σ := (sg n0 n1 n2)) hL (Known2.nil _) (TabOk.cons num10 (by decide) (by decide) lo0 hi0 e1 (TabOk.cons num60 (by decide) (by decide) lo1 hi1 q14 (TabOk.nil))) (fun ρ => VRs.cons (by simp [VR, E.den, bT, bF, sg]) (VRs.cons (by simp [VR, E.den, bT, bF, sg]) (VRs.cons (by simp [VR, E.den, bT, bF, sg]) (VRs.nil))))
    ·
      exact case120 (σ := (sg n0 n1 n2)) hL (Known2.nil _) (TabOk.cons num10 (by decide) (by decide) lo0 hi0 e1 (TabOk.cons num60 (by decide) (by decide) lo1 hi1 q14 (TabOk.nil))) (fun ρ => VRs.cons (by simp [VR, E.den, bT, bF, sg]) (VRs.cons (by simp [VR, E.den, bT, bF, sg]) (VRs.cons (by simp [VR, E.den, bT, bF, sg]) (VRs.nil))))
    ·
      exact case121 (σ := (sg n0 n1 n2)) hL (Known2.nil _) (TabOk.cons num10 (by decide) (by decide) lo0 hi0 e1 (TabOk.cons num60 (by decide) (by decide) lo1 hi1 q14 (TabOk.nil))) (fun ρ => VRs.cons (by simp [VR, E.den, bT, bF, sg]) (VRs.cons (by simp [VR, E.den, bT, bF, sg]) (VRs.cons (by simp [VR, E.den, bT, bF, sg]) (VRs.nil))))
    ·
      exact case122 (σ := (sg n0 n1 n2)) hL (Known2.nil _) (TabOk.cons num10 (by decide) (by decide) lo0 hi0 e1 (TabOk.cons num60 (by decide) (by decide) lo1 hi1 q14 (TabOk.nil))) (fun ρ => VRs.cons (by simp [VR, E.den, bT, bF, sg]) (VRs.cons (by simp [VR, E.den, bT, bF, sg]) (VRs.cons (by simp [VR, E.den, bT, bF, sg]) (VRs.nil))))
    ·
      exact case123 (σ := (sg n0 n1 n2)) hL (Known2.nil _) (TabOk.cons num10 (by decide) (by decide) lo0 hi0 e1 (TabOk.cons num60 (by decide) (by decide) lo1 hi1 q14 (TabOk.nil))) (fun ρ => VRs.cons (by simp [VR, E.den, bT, bF, sg]) (VRs.cons (by simp [VR, E.den, bT, bF, sg]) (VRs.cons (by simp [VR, E.den, bT, bF, sg]) (VRs.nil))))
    ·
      exact case124 (σ := (sg n0 n1 n2)) hL (Known2.nil _) (TabOk.cons num10 (by decide) (by decide) lo0 hi0 e1 (TabOk.cons num60 (by decide) (by decide) lo1 hi1 q14 (TabOk.nil))) (fun ρ => VRs.cons (by simp [VR, E.den, bT, bF, sg]) (VRs.cons (by simp [VR, E.den, bT, bF, sg]) (VRs.cons (by simp [VR, E.den, bT, bF, sg]) (VRs.nil))))
    ·
      exact case125 (σ := (sg n0 n1 n2)) hL (Known2.nil _) (TabOk.cons num10 (by decide) (by decide) lo0 hi0 e1 (TabOk.cons num60 (by decide) (by decide) lo1 hi1 q14 (TabOk.nil))) (fun ρ => VRs.cons (by simp [VR, E.den, bT, bF, sg]) (VRs.cons (by simp [VR, E.den, bT, bF, sg]) (VRs.cons (by simp [VR, E.den, bT, bF, sg]) (VRs.nil))))
    ·
      exact case126 (σ := (sg n0 n1 n2)) hL (Known2.nil _) (TabOk.cons num10 (by decide) (by decide) lo0 hi0 e1 (TabOk.cons num60 (by decide) (by decide) lo1 hi1 q14 (TabOk.nil))) (fun ρ => VRs.cons (by simp [VR, E.den, bT, bF, sg]) (VRs.cons (by simp [VR, E.den, bT, bF, sg]) (VRs.cons (by simp [VR, E.den, bT, bF, sg]) (VRs.nil))))
    ·
      exact case127 (σ := (sg n0 n1 n2)) hL (Known2.nil _) (TabOk.cons num10 (by decide) (by decide) lo0 hi0 e1 (TabOk.cons num60 (by decide) (by decide) lo1 hi1 q14 (TabOk.nil))) (fun ρ => VRs.cons (by simp [VR, E.den, bT, bF, sg]) (VRs.cons (by simp [VR, E.den, bT, bF, sg]) (VRs.cons (by simp [VR, E.den, bT, bF, sg]) (VRs.nil))))
    ·
      exact case128 (σ := (sg n0 n1 n2)) hL (Known2.nil _) (TabOk.cons num10 (by decide) (by decide) lo0 hi0 e1 (TabOk.cons num60 (by decide) (by decide) lo1 hi1 q14 (TabOk.nil))) (fun ρ => VRs.cons (by simp [VR, E.den, bT, bF, sg]) (VRs.cons (by simp [VR, E.den, bT, bF, sg]) (VRs.cons (by simp [VR, E.den, bT, bF, sg]) (VRs.nil))))
    ·
      exact case129 (σ := (sg n0 n1 n2)) hL (Known2.nil _) (TabOk.cons num10 (by decide) (by decide) lo0 hi0 e1 (TabOk.cons num60 (by decide) (by decide) lo1 hi1 q14 (TabOk.nil))) (fun ρ => VRs.cons (by simp [VR, E.den, bT, bF, sg]) (VRs.cons (by simp [VR, E.den, bT, bF, sg]) (VRs.cons (by simp [VR, E.den, bT, bF, sg]) (VRs.nil))))
    ·
      exact case130 (σ := (sg n0 n1 n2)) hL (Known2.nil _) (TabOk.cons num10 (by decide) (by decide) lo0 hi0 e1 (TabOk.cons num60 (by decide) (by decide) lo1 hi1 q14 (TabOk.nil))) (fun ρ => VRs.cons (by simp [VR, E.den, bT, bF, sg]) (VRs.cons (by simp [VR, E.den, bT, bF, sg]) (VRs.cons (by simp [VR, E.den, bT, bF, sg]) (VRs.nil))))
    ·
      exact case131 (σ := (sg n0 n1 n2)) hL (Known2.nil _) (TabOk.cons num10 (by decide) (by decide) lo0 hi0 e1 (TabOk.cons num60 (by decide) (by decide) lo1 hi1 q14 (TabOk.nil))) (fun ρ => VRs.cons (by simp [VR, E.den, bT, bF, sg]) (VRs.cons (by simp [VR, E.den, bT, bF, sg]) (VRs.cons (by simp [VR, E.den, bT, bF, sg]) (VRs.nil))))
    ·
      exact case132 (σ := (sg n0 n1 n2)) hL (Known2.nil _) (TabOk.cons num10 (by decide) (by decide) lo0 hi0 e1 (TabOk.cons num60 (by decide) (by decide) lo1 hi1 q14 (TabOk.nil))) (fun ρ => VRs.cons (by simp [VR, E.den, bT, bF, sg]) (VRs.cons (by simp [VR, E.den, bT, bF, sg]) (VRs.cons (by simp [VR, E.den, bT, bF, sg]) (VRs.nil))))
    ·
      exact case133 (σ := (sg n0 n1 n2)) hL (Known2.nil _) (TabOk.cons num10 (by decide) (by decide) lo0 hi0 e1 (TabOk.cons num60 (by decide) (by decide) lo1 hi1 q14 (TabOk.nil))) (fun ρ => VRs.cons (by simp [VR, E.den, bT, bF, sg]) (VRs.cons (by simp [VR, E.den, bT, bF, sg]) (VRs.cons (by simp [VR, E.den, bT, bF, sg]) (VRs.nil))))
    ·
      exact case134 (σ := (sg n0 n1 n2)) hL (Known2.nil _) (TabOk.cons num10 (by decide) (by decide) lo0 hi0 e1 (TabOk.cons num60 (by decide) (by decide) lo1 hi1 q14 (TabOk.nil))) (fun ρ => VRs.cons (by simp [VR, E.den, bT, bF, sg]) (VRs.cons (by simp [VR, E.den, bT, bF, sg]) (VRs.cons (by simp [VR, E.den, bT, bF, sg]) (VRs.nil))))
    ·
      exact case135 (σ := (sg n0 n1 n2)) hL (Known2.nil _) (TabOk.cons num10 (by decide) (by decide) lo0 hi0 e1 (TabOk.cons num60 (by decide) (by decide) lo1 hi1 q14 (TabOk.nil))) (fun ρ => VRs.cons (by simp [VR, E.den, bT, bF, sg]) (VRs.cons (by simp [VR, E.den, bT, bF, sg]) (VRs.cons (by simp [VR, E.den, bT, bF, sg]) (VRs.nil))))
    ·
      obtain ⟨a15, b15⟩ := numOf_range n2 4 (by decide)
      have e15 : numOf n2 4 = 0 ∨ numOf n2 4 = 1 ∨ numOf n2 4 = 2 ∨ numOf n2 4 = 3 := by omega
      rcases e15 with e15 | e15 | e15 | e15
      ·
        refine case136 (σ := fun i => if i = 0 then n0 else if i = 1 then n1 else if i = 2 then n2 else if i = 3 then numOf n1 60 else 0) hL ⟨?_, ?_⟩ ?_ (fun ρ => VRs.cons (by simp [VR, E.den, bT, bF]) (VRs.cons (by simp [VR, E.den, bT, bF]) (VRs.cons (by simp [VR, E.den, bT, bF]) (VRs.nil))))
        · intro i lo hi hr
          rcases i with _ | i
          · simp at hr
            obtain ⟨rfl, rfl⟩ := hr
            exact ⟨by show (-9223372036854775808) ≤ n0; omega, by show n0 ≤ 9223372036854775807; omega⟩
          rcases i with _ | i
          · simp at hr
            obtain ⟨rfl, rfl⟩ := hr
            exact ⟨by show (-9223372036854775808) ≤ n1; omega, by show n1 ≤ 9223372036854775807; omega⟩
          rcases i with _ | i
          · simp at hr
            obtain ⟨rfl, rfl⟩ := hr
            exact ⟨by show (-9223372036854775808) ≤ n2; omega, by show n2 ≤ 9223372036854775807; omega⟩
          rcases i with _ | i
          · simp at hr
            obtain ⟨rfl, rfl⟩ := hr
            exact ⟨by show 28 ≤ numOf n1 60; omega, by show numOf n1 60 ≤ 59; omega⟩
          simp at hr
        · intro q a b t hm
          simp at hm
        · exact TabOk.cons num10 (by decide) (by decide) lo0 hi0 (show numOf n0 10 = 6 from e1) (TabOk.cons num60 (by decide) (by decide) lo1 hi1 rfl (TabOk.cons num4 (by decide) (by decide) lo2 hi2 (show numOf n2 4 = 0 from e15) (TabOk.nil)))
      ·
        refine case137 (σ := fun i => if i = 0 then n0 else if i = 1 then n1 else if i = 2 then n2 else if i = 3 then numOf n1 60 else 0) hL ⟨?_, ?_⟩ ?_ (fun ρ => VRs.cons (by simp [VR, E.den, bT, bF]) (VRs.cons (by simp [VR, E.den, bT, bF]) (VRs.cons (by simp [VR, E.den, bT, bF]) (VRs.nil))))
        · intro i lo hi hr
          rcases i with _ | i
          · simp at hr
            obtain ⟨rfl, rfl⟩ := hr
            exact ⟨by show (-9223372036854775808) ≤ n0; omega, by show n0 ≤ 9223372036854775807; omega⟩
          rcases i with _ | i
          · simp at hr
            obtain ⟨rfl, rfl⟩ := hr
            exact ⟨by show (-9223372036854775808) ≤ n1; omega, by show n1 ≤ 9223372036854775807; omega⟩
          rcases i with _ | i
          · simp at hr
            obtain ⟨rfl, rfl⟩ := hr
            exact ⟨by show (-9223372036854775808) ≤ n2; omega, by show n2 ≤ 9223372036854775807; omega⟩
          rcases i with _ | i
          · simp at hr
            obtain ⟨rfl, rfl⟩ := hr
            exact ⟨by show 28 ≤ numOf n1 60; omega, by show numOf n1 60 ≤ 59; omega⟩
          simp at hr
        · intro q a b t hm
          simp at hm
        · exact TabOk.cons num10 (by decide) (by decide) lo0 hi0 (show numOf n0 10 = 6 from e1) (TabOk.cons num60 (by decide) (by decide) lo1 hi1 rfl (TabOk.cons num4 (by decide) (by decide) lo2 hi2 (show numOf n2 4 = 1 from e15) (TabOk.nil)))
      ·
        refine case138 (σ := fun i => if i = 0 then n0 else if i = 1 then n1 else if i = 2 then n2 else if i = 3 then numOf n1 60 else 0) hL ⟨?_, ?_⟩ ?_ (fun ρ => VRs.cons (by simp [VR, E.den, bT, bF]) (VRs.cons (by simp [VR, E.den, bT, bF]) (VRs.cons (by simp [VR, E.den, bT, bF]) (VRs.nil))))
        · intro i lo hi hr
          rcases i with _ | i
          · simp at hr
            obtain ⟨rfl, rfl⟩ := hr
            exact ⟨by show (-9223372036854775808) ≤ n0; omega, by show n0 ≤ 9223372036854775807; omega⟩
          rcases i with _ | i
          · simp at hr
            obtain ⟨rfl, rfl⟩ := hr
            exact ⟨by show (-9223372036854775808) ≤ n1; omega, by show n1 ≤ 9223372036854775807; omega⟩
          rcases i with _ | i
          · simp at hr
            obtain ⟨rfl, rfl⟩ := hr
            exact ⟨by show (-9223372036854775808) ≤ n2; omega, by show n2 ≤ 9223372036854775807; omega⟩
          rcases i with _ | i
          · simp at hr
            obtain ⟨rfl, rfl⟩ := hr
            exact ⟨by show 28 ≤ numOf n1 60; omega, by show numOf n1 60 ≤ 59; omega⟩
          simp at hr
        · intro q a b t hm
          simp at hm
        · exact TabOk.cons num10 (by decide) (by decide) lo0 hi0 (show numOf n0 10 = 6 from e1) (TabOk.cons num60 (by decide) (by decide) lo1 hi1 rfl (TabOk.cons num4 (by decide) (by decide) lo2 hi2 (show numOf n2 4 = 2 from e15) (TabOk.nil)))
      ·
        refine case139 (σ := fun i => if i = 0 then n0 else if i = 1 then n1 else if i = 2 then n2 else if i = 3 then numOf n1 60 else 0) hL ⟨?_, ?_⟩ ?_ (fun ρ => VRs.cons (by simp [VR, E.den, bT, bF]) (VRs.cons (by simp [VR, E.den, bT, bF]) (VRs.cons (by simp [VR, E.den, bT, bF]) (VRs.nil))))
        · intro i lo hi hr
          rcases i with _ | i
          · simp at hr
            obtain ⟨rfl, rfl⟩ := hr
            exact ⟨by show (-9223372036854775808) ≤ n0; omega, by show n0 ≤ 9223372036854775807; omega⟩
          rcases i with _ | i
          · simp at hr
            obtain ⟨rfl, rfl⟩ := hr
            exact ⟨by show (-9223372036854775808) ≤ n1; omega, by show n1 ≤ 9223372036854775807; omega⟩
          rcases i with _ | i
          · simp at hr
            obtain ⟨rfl, rfl⟩ := hr
            exact ⟨by show (-9223372036854775808) ≤ n2; omega, by show n2 ≤ 9223372036854775807; omega⟩
          rcases i with _ | i
          · simp at hr
            obtain ⟨rfl, rfl⟩ := hr
            exact ⟨by show 28 ≤ numOf n1 60; omega, by show numOf n1 60 ≤ 59; omega⟩
          simp at hr
        · intro q a b t hm
          simp at hm
        · exact TabOk.cons num10 (by decide) (by decide) lo0 hi0 (show numOf n0 10 = 6 from e1) (TabOk.cons num60 (by decide) (by decide) lo1 hi1 rfl (TabOk.cons num4 (by decide) (by decide) lo2 hi2 (show numOf n2 4 = 3 from e15) (TabOk.nil)))
  ·
    have q16 : (numOf n1 60 = 0) ∨ (numOf n1 60 = 1) ∨ (numOf n1 60 = 2) ∨ (numOf n1 60 = 3) ∨ (numOf n1 60 = 4) ∨ (numOf n1 60 = 5) ∨ (numOf n1 60 = 6) ∨ (numOf n1 60 = 7) ∨ (numOf n1 60 = 8) ∨ (numOf n1 60 = 9) ∨ (numOf n1 60 = 10) ∨ (numOf n1 60 = 11) ∨ (numOf n1 60 = 12) ∨ (numOf n1 60 = 13) ∨ (numOf n1 60 = 14) ∨ (numOf n1 60 = 15) ∨ (numOf n1 60 = 16) ∨ (numOf n1 60 = 17) ∨ (numOf n1 60 = 18) ∨ (numOf n1 60 = 19) ∨ (numOf n1 60 = 20) ∨ (numOf n1 60 = 21) ∨ (numOf n1 60 = 22) ∨ (numOf n1 60 = 23) ∨ (numOf n1 60 = 24) ∨ (numOf n1 60 = 25) ∨ (numOf n1 60 = 26) ∨ (numOf n1 60 = 27) ∨ (numOf n1 60 = 28) ∨ (numOf n1 60 = 29) ∨ (numOf n1 60 = 30) ∨ (numOf n1 60 = 31) ∨ (32 ≤ numOf n1 60) := by omega
    rcases q16 with q16 | q16 | q16 | q16 | q16 | q16 | q16 | q16 | q16 | q16 | q16 | q16 | q16 | q16 | q16 | q16 | q16 | q16 | q16 | q16 | q16 | q16 | q16 | q16 | q16 | q16 | q16 | q16 | q16 | q16 | q16 | q16 | q16
    ·
      exact case140 (σ := (sg n0 n1 n2)) hL (Known2.nil _) (TabOk.cons num10 (by decide) (by decide) lo0 hi0 e1 (TabOk.cons num60 (by decide) (by decide) lo1 hi1 q16 (TabOk.nil))) (fun ρ => VRs.cons (by simp [VR, E.den, bT, bF, sg]) (VRs.cons (by simp [VR, E.den, bT, bF, sg]) (VRs.cons (by simp [VR, E.den, bT, bF, sg]) (VRs.nil))))
    ·
      exact case141 (σ := (sg n0 n1 n2)) hL (Known2.nil _) (TabOk.cons num10 (by decide) (by decide) lo0 hi0 e1 (TabOk.cons num60 (by decide) (by decide) lo1 hi1 q16 (TabOk.nil))) (fun ρ => VRs.cons (by simp [VR, E.den, bT, bF, sg]) (VRs.cons (by simp [VR, E.den, bT, bF, sg]) (VRs.cons (by simp [VR, E.den, bT, bF, sg]) (VRs.nil))))
    ·
      exact case142 (σ := (sg n0 n1 n2)) hL (Known2.nil _) (TabOk.cons num10 (by decide) (by decide) lo0 hi0 e1 (TabOk.cons num60 (by decide) (by decide) lo1 hi1 q16 (TabOk.nil))) (fun ρ => VRs.cons (by simp [VR, E.den, bT, bF, sg]) (VRs.cons (by simp [VR, E.den, bT, bF, sg]) (VRs.cons (by simp [VR, E.den, bT, bF, sg]) (VRs.nil))))
    ·
      exact case143 (σ := (sg n0 n1 n2)) hL (Known2.nil _) (TabOk.cons num10 (by decide) (by decide) lo0 hi0 e1 (TabOk.cons num60 (by decide) (by decide) lo1 hi1 q16 (TabOk.nil))) (fun ρ => VRs.cons (by simp [VR, E.den, bT, bF, sg]) (VRs.cons (by simp [VR, E.den, bT, bF, sg]) (VRs.cons (by simp [VR, E.den, bT, bF, sg]) (VRs.nil))))
    ·
      exact case144 (σ := (sg n0 n1 n2)) hL (Known2.nil _) (TabOk.cons num10 (by decide) (by decide) lo0 hi0 e1 (TabOk.cons num60 (by decide) (by decide) lo1 hi1 q16 (TabOk.nil))) (fun ρ => VRs.cons (by simp [VR, E.den, bT, bF, sg]) (VRs.cons (by simp [VR, E.den, bT, bF, sg]) (VRs.cons (by simp [VR, E.den, bT, bF, sg]) (VRs.nil))))
    ·
      exact case145 (σ := (sg n0 n1 n2)) hL (Known2.nil _) (TabOk.cons num10 (by decide) (by decide) lo0 hi0 e1 (TabOk.cons num60 (by decide) (by decide) lo1 hi1 q16 (TabOk.nil))) (fun ρ => VRs.cons (by simp [VR, E.den, bT, bF, sg]) (VRs.cons (by simp [VR, E.den, bT, bF, sg]) (VRs.cons (by simp [VR, E.den, bT, bF, sg]) (VRs.nil))))
    ·
      exact case146 (σ := (sg n0 n1 n2)) hL (Known2.nil _) (TabOk.cons num10 (by decide) (by decide) lo0 hi0 e1 (TabOk.cons num60 (by decide) (by decide) lo1 hi1 q16 (TabOk.nil))) (fun ρ => VRs.cons (by simp [VR, E.den, bT, bF, sg]) (VRs.cons (by simp [VR, E.den, bT, bF, sg]) (VRs.cons (by simp [VR, E.den, bT, bF, sg]) (VRs.nil))))
    ·
      exact case147 (σ := (sg n0 n1 n2)) hL (Known2.nil _) (TabOk.cons num10 (by decide) (by decide) lo0 hi0 e1 (TabOk.cons num60 (by decide) (by decide) lo1 hi1 q16 (TabOk.nil))) (fun ρ => VRs.cons (by simp [VR, E.den, bT, bF, sg]) (VRs.cons (by simp [VR, E.den, bT, bF, sg]) (VRs.cons (by simp [VR, E.den, bT, bF, sg]) (VRs.nil))))
    ·
      exact case148 (σ := (sg n0 n1 n2)) hL (Known2.nil _) (TabOk.cons num10 (by decide) (by decide) lo0 hi0 e1 (TabOk.cons num60 (by decide) (by decide) lo1 hi1 q16 (TabOk.nil))) (fun ρ => VRs.cons (by simp [VR, E.den, bT, bF, sg]) (VRs.cons (by simp [VR, E.den, bT, bF, sg]) (VRs.cons (by simp [VR, E.den, bT, bF, sg]) (VRs.nil))))
    ·
      exact case149 (σ := (sg n0 n1 n2)) hL (Known2.nil _) (TabOk.cons num10 (by decide) (by decide) lo0 hi0 e1 (TabOk.cons num60 (by decide) (by decide) lo1 hi1 q16 (TabOk.nil))) (fun ρ => VRs.cons (by simp [VR, E.den, bT, bF, sg]) (VRs.cons (by simp [VR, E.den, bT, bF, sg]) (VRs.cons (by simp [VR, E.den, bT, bF, sg]) (VRs.nil))))
    ·
      exact case150 (σ := (sg n0 n1 n2)) hL (Known2.nil _) (TabOk.cons num10 (by decide) (by decide) lo0 hi0 e1 (TabOk.cons num60 (by decide) (by decide) lo1 hi1 q16 (TabOk.nil))) (fun ρ => VRs.cons (by simp [VR, E.den, bT, bF, sg]) (VRs.cons (by simp [VR, E.den, bT, bF, sg]) (VRs.cons (by simp [VR, E.den, bT, bF, sg]) (VRs.nil))))
    ·
      exact case151 (σ := (sg n0 n1 n2)) hL (Known2.nil _) (TabOk.cons num10 (by decide) (by decide) lo0 hi0 e1 (TabOk.cons num60 (by decide) (by decide) lo1 hi1 q16 (TabOk.nil))) (fun ρ => VRs.cons (by simp [VR, E.den, bT, bF, sg]) (VRs.cons (by simp [VR, E.den, bT, bF, sg]) (VRs.cons (by simp [VR, E.den, bT, bF, sg]) (VRs.nil))))
    ·
      exact case152 (σ := (sg n0 n1 n2)) hL (Known2.nil _) (TabOk.cons num10 (by decide) (by decide) lo0 hi0 e1 (TabOk.cons num60 (by decide) (by decide) lo1 hi1 q16 (TabOk.nil))) (fun ρ => VRs.cons (by simp [VR, E.den, bT, bF, sg]) (VRs.cons (by simp [VR, E.den, bT, bF, sg]) (VRs.cons (by simp [VR, E.den, bT, bF, sg]) (VRs.nil))))
    ·
      exact case153 (σ := (sg n0 n1 n2)) hL (Known2.nil _) (TabOk.cons num10 (by decide) (by decide) lo0 hi0 e1 (TabOk.cons num60 (by decide) (by decide) lo1 hi1 q16 (TabOk.nil))) (fun ρ => VRs.cons (by simp [VR, E.den, bT, bF, sg]) (VRs.cons (by simp [VR, E.den, bT, bF, sg]) (VRs.cons (by simp [VR, E.den, bT, bF, sg]) (VRs.nil))))
    ·
      exact case154 (σ := (sg n0 n1 n2)) hL (Known2.nil _) (TabOk.cons num10 (by decide) (by decide) lo0 hi0 e1 (TabOk.cons num60 (by decide) (by decide) lo1 hi1 q16 (TabOk.nil))) (fun ρ => VRs.cons (by simp [VR, E.den, bT, bF, sg]) (VRs.cons (by simp [VR, E.den, bT, bF, sg]) (VRs.cons (by simp [VR, E.den, bT, bF, sg]) (VRs.nil))))
    ·
      exact case155 (σ := (sg n0 n1 n2)) hL (Known2.nil _) (TabOk.cons num10 (by decide) (by decide) lo0 hi0 e1 (TabOk.cons num60 (by decide) (by decide) lo1 hi1 q16 (TabOk.nil))) (fun ρ => VRs.cons (by simp [VR, E.den, bT, bF, sg]) (VRs.cons (by simp [VR, E.den, bT, bF, sg]) (VRs.cons (by simp [VR, E.den, bT, bF, sg]) (VRs.nil))))
    ·
      exact case156 (σ := (sg n0 n1 n2)) hL (Known2.nil _) (TabOk.cons num10 (by decide) (by decide) lo0 hi0 e1 (TabOk.cons num60 (by decide) (by decide) lo1 hi1 q16 (TabOk.nil))) (fun ρ => VRs.cons (by simp [VR, E.den, bT, bF, sg]) (VRs.cons (by simp [VR, E.den, bT, bF, sg]) (VRs.cons (by simp [VR, E.den, bT, bF, sg]) (VRs.nil))))
    ·
      exact case157 (σ := (sg n0 n1 n2)) hL (Known2.nil _) (TabOk.cons num10 (by decide) (by decide) lo0 hi0 e1 (TabOk.cons num60 (by decide) (by decide) lo1 hi1 q16 (TabOk.nil))) (fun ρ => VRs.cons (by simp [VR, E.den, bT, bF, sg]) (VRs.cons (by simp [VR, E.den, bT, bF, sg]) (VRs.cons (by simp [VR, E.den, bT, bF, sg]) (VRs.nil))))
    ·
      exact case158 (σ := (sg n0 n1 n2)) hL (Known2.nil _) (TabOk.cons num10 (by decide) (by decide) lo0 hi0 e1 (TabOk.cons num60 (by decide) (by decide) lo1 hi1 q16 (TabOk.nil))) (fun ρ => VRs.cons (by simp [VR, E.den, bT, bF, sg]) (VRs.cons (by simp [VR, E.den, bT, bF, sg]) (VRs.cons (by simp [VR, E.den, bT, bF, sg]) (VRs.nil))))
    ·
      exact case159 (σ := (sg n0 n1 n2)) hL (Known2.nil _) (TabOk.cons num10 (by decide) (by decide) lo0 hi0 e1 (TabOk.cons num60 (by decide) (by decide) lo1 hi1 q16 (TabOk.nil))) (fun ρ => VRs.cons (by simp [VR, E.den, bT, bF, sg]) (VRs.cons (by simp [VR, E.den, bT, bF, sg]) (VRs.cons (by simp [VR, E.den, bT, bF, sg]) (VRs.nil))))
    ·
      exact case160 (σ := (sg n0 n1 n2)) hL (Known2.nil _) (TabOk.cons num10 (by decide) (by decide) lo0 hi0 e1 (TabOk.cons num60 (by decide) (by decide) lo1 hi1 q16 (TabOk.nil))) (fun ρ => VRs.cons (by simp [VR, E.den, bT, bF, sg]) (VRs.cons (by simp [VR, E.den, bT, bF, sg]) (VRs.cons (by simp [VR, E.den, bT, bF, sg]) (VRs.nil))))
    ·
      exact case161 (σ := (sg n0 n1 n2)) hL (Known2.nil _) (TabOk.cons num10 (by decide) (by decide) lo0 hi0 e1 (TabOk.cons num60 (by decide) (by decide) lo1 hi1 q16 (TabOk.nil))) (fun ρ => VRs.cons (by simp [VR, E.den, bT, bF, sg]) (VRs.cons (by simp [VR, E.den, bT, bF, sg]) (VRs.cons (by simp [VR, E.den, bT, bF, sg]) (VRs.nil))))
    ·
      exact case162 (σ := (sg n0 n1 n2)) hL (Known2.nil _) (TabOk.cons num10 (by decide) (by decide) lo0 hi0 e1 (TabOk.cons num60 (by decide) (by decide) lo1 hi1 q16 (TabOk.nil))) (fun ρ => VRs.cons (by simp [VR, E.den, bT, bF, sg]) (VRs.cons (by simp [VR, E.den, bT, bF, sg]) (VRs.cons (by simp [VR, E.den, bT, bF, sg]) (VRs.nil))))
    ·
      exact case163 (σ := (sg n0 n1 n2)) hL (Known2.nil _) (TabOk.cons num10 (by decide) (by decide) lo0 hi0 e1 (TabOk.cons num60 (by decide) (by decide) lo1 hi1 q16 (TabOk.nil))) (fun ρ => VRs.cons (by simp [VR, E.den, bT, bF, sg]) (VRs.cons (by simp [VR, E.den, bT, bF, sg]) (VRs.cons (by simp [VR, E.den, bT, bF, sg]) (VRs.nil))))
    ·
      exact case164 (σ := (sg n0 n1 n2)) hL (Known2.nil _) (TabOk.cons num10 (by decide) (by decide) lo0 hi0 e1 (TabOk.cons num60 (by decide) (by decide) lo1 hi1 q16 (TabOk.nil))) (fun ρ => VRs.cons (by simp [VR, E.den, bT, bF, sg]) (VRs.cons (by simp [VR, E.den, bT, bF, sg]) (VRs.cons (by simp [VR, E.den, bT, bF, sg]) (VRs.nil))))
    ·
      exact case165 (σ := (sg n0 n1 n2)) hL (Known2.nil _) (TabOk.cons num10 (by decide) (by decide) lo0 hi0 e1 (TabOk.cons num60 (by decide) (by decide) lo1 hi1 q16 (TabOk.nil))) (fun ρ => VRs.cons (by simp [VR, E.den, bT, bF, sg]) (VRs.cons (by simp [VR, E.den, bT, bF, sg]) (VRs.cons (by simp [VR, E.den, bT, bF, sg]) (VRs.nil))))
    ·
      exact case166 (σ := (sg n0 n1 n2)) hL (Known2.nil _) (TabOk.cons num10 (by decide) (by decide) lo0 hi0 e1 (TabOk.cons num60 (by decide) (by decide) lo1 hi1 q16 (TabOk.nil))) (fun ρ => VRs.cons (by simp [VR, E.den, bT, bF, sg]) (VRs.cons (by simp [VR, E.den, bT, bF, sg]) (VRs.cons (by simp [VR, E.den, bT, bF, sg]) (VRs.nil))))
    ·
      exact case167 (σ := (sg n0 n1 n2)) hL (Known2.nil _) (TabOk.cons num10 (by decide) (by decide) lo0 hi0 e1 (TabOk.cons num60 (by decide) (by decide) lo1 hi1 q16 (TabOk.nil))) (fun ρ => VRs.cons (by simp [VR, E.den, bT, bF, sg]) (VRs.cons (by simp [VR, E.den, bT, bF, sg]) (VRs.cons (by simp [VR, E.den, bT, bF, sg]) (VRs.nil))))
    ·
      exact case168 (σ := (sg n0 n1 n2)) hL (Known2.nil _) (TabOk.cons num10 (by decide) (by decide) lo0 hi0 e1 (TabOk.cons num60 (by decide) (by decide) lo1 hi1 q16 (TabOk.nil))) (fun ρ => VRs.cons (by simp [VR, E.den, bT, bF, sg]) (VRs.cons (by simp [VR, E.den, bT, bF, sg]) (VRs.cons (by simp [VR, E.den, bT, bF, sg]) (VRs.nil))))
    ·
      exact case169 (σ := (sg n0 n1 n2)) hL (Known2.nil _) (TabOk.cons num10 (by decide) (by decide) lo0 hi0 e1 (TabOk.cons num60 (by decide) (by decide) lo1 hi1 q16 (TabOk.nil))) (fun ρ => VRs.cons (by simp [VR, E.den, bT, bF, sg]) (VRs.cons (by simp [VR, E.den, bT, bF, sg]) (VRs.cons (by simp [VR, E.den, bT, bF, sg]) (VRs.nil))))
    ·
      exact case170 (σ := (sg n0 n1 n2)) hL (Known2.nil _) (TabOk.cons num10 (by decide) (by decide) lo0 hi0 e1 (TabOk.cons num60 (by decide) (by decide) lo1 hi1 q16 (TabOk.nil))) (fun ρ => VRs.cons (by simp [VR, E.den, bT, bF, sg]) (VRs.cons (by simp [VR, E.den, bT, bF, sg]) (VRs.cons (by simp [VR, E.den, bT, bF, sg]) (VRs.nil))))
    ·
      exact case171 (σ := (sg n0 n1 n2)) hL (Known2.nil _) (TabOk.cons num10 (by decide) (by decide) lo0 hi0 e1 (TabOk.cons num60 (by decide) (by decide) lo1 hi1 q16 (TabOk.nil))) (fun ρ => VRs.cons (by simp [VR, E.den, bT, bF, sg]) (VRs.cons (by simp [VR, E.den, bT, bF, sg]) (VRs.cons (by simp [VR, E.den, bT, bF, sg]) (VRs.nil))))
    ·
      obtain ⟨a17, b17⟩ := numOf_range n2 4 (by decide)
      have e17 : numOf n2 4 = 0 ∨ numOf n2 4 = 1 ∨ numOf n2 4 = 2 ∨ numOf n2 4 = 3 := by omega
      rcases e17 with e17 | e17 | e17 | e17
      ·
        refine case172 (σ := fun i => if i = 0 then n0 else if i = 1 then n1 else if i = 2 then n2 else if i = 3 then numOf n1 60 else 0) hL ⟨?_, ?_⟩ ?_ (fun ρ => VRs.cons (by simp [VR, E.den, bT, bF]) (VRs.cons (by simp [VR, E.den, bT, bF]) (VRs.cons (by simp [VR, E.den, bT, bF]) (VRs.nil))))
        · intro i lo hi hr
          rcases i with _ | i
          · simp at hr
            obtain ⟨rfl, rfl⟩ := hr
            exact ⟨by show (-9223372036854775808) ≤ n0; omega, by show n0 ≤ 9223372036854775807; omega⟩
          rcases i with _ | i
          · simp at hr
            obtain ⟨rfl, rfl⟩ := hr
            exact ⟨by show (-9223372036854775808) ≤ n1; omega, by show n1 ≤ 9223372036854775807; omega⟩
          rcases i with _ | i
          · simp at hr
            obtain ⟨rfl, rfl⟩ := hr
            exact ⟨by show (-9223372036854775808) ≤ n2; omega, by show n2 ≤ 9223372036854775807; omega⟩
          rcases i with _ | i
          · simp at hr
            obtain ⟨rfl, rfl⟩ := hr
            exact ⟨by show 32 ≤ numOf n1 60; omega, by show numOf n1 60 ≤ 59; omega⟩
          simp at hr
        · intro q a b t hm
          simp at hm
        · exact TabOk.cons num10 (by decide) (by decide) lo0 hi0 (show numOf n0 10 = 7 from e1) (TabOk.cons num60 (by decide) (by decide) lo1 hi1 rfl (TabOk.cons num4 (by decide) (by decide) lo2 hi2 (show numOf n2 4 = 0 from e17) (TabOk.nil)))
      ·
        refine case173 (σ := fun i => if i = 0 then n0 else if i = 1 then n1 else if i = 2 then n2 else if i = 3 then numOf n1 60 else 0) hL ⟨?_, ?_⟩ ?_ (fun ρ => VRs.cons (by simp [VR, E.den, bT, bF]) (VRs.cons (by simp [VR, E.den, bT, bF]) (VRs.cons (by simp [VR, E.den, bT, bF]) (VRs.nil))))
        · intro i lo hi hr
          rcases i with _ | i
          · simp at hr
            obtain ⟨rfl, rfl⟩ := hr
            exact ⟨by show (-9223372036854775808) ≤ n0; omega, by show n0 ≤ 9223372036854775807; omega⟩
          rcases i with _ | i
          · simp at hr
            obtain ⟨rfl, rfl⟩ := hr
            exact ⟨by show (-9223372036854775808) ≤ n1; omega, by show n1 ≤ 9223372036854775807; omega⟩
          rcases i with _ | i
          · simp at hr
            obtain ⟨rfl, rfl⟩ := hr
            exact ⟨by show (-9223372036854775808) ≤ n2; omega, by show n2 ≤ 9223372036854775807; omega⟩
          rcases i with _ | i
          · simp at hr
            obtain ⟨rfl, rfl⟩ := hr
            exact ⟨by show 32 ≤ numOf n1 60; omega, by show numOf n1 60 ≤ 59; omega⟩
          simp at hr
        · intro q a b t hm
          simp at hm
        · exact TabOk.cons num10 (by decide) (by decide) lo0 hi0 (show numOf n0 10 = 7 from e1) (TabOk.cons num60 (by decide) (by decide) lo1 hi1 rfl (TabOk.cons num4 (by decide) (by decide) lo2 hi2 (show numOf n2 4 = 1 from e17) (TabOk.nil)))
      ·
        refine case174 (σ := fun i => if i = 0 then n0 else if i = 1 then n1 else if i = 2 then n2 else if i = 3 then numOf n1 60 else 0) hL ⟨?_, ?_⟩ ?_ (fun ρ => VRs.cons (by simp [VR, E.den, bT, bF]) (VRs.cons (by simp [VR, E.den, bT, bF]) (VRs.cons (by simp [VR, E.den, bT, bF]) (VRs.nil))))
        · intro i lo hi hr
          rcases i with _ | i
          · simp at hr
            obtain ⟨rfl, rfl⟩ := hr
            exact ⟨by show (-9223372036854775808) ≤ n0; omega, by show n0 ≤ 9223372036854775807; omega⟩
          rcases i with _ | i
          · simp at hr
            obtain ⟨rfl, rfl⟩ := hr
            exact ⟨by show (-9223372036854775808) ≤ n1; omega, by show n1 ≤ 9223372036854775807; omega⟩
          rcases i with _ | i
          · simp at hr
            obtain ⟨rfl, rfl⟩ := hr
            exact ⟨by show (-9223372036854775808) ≤ n2; omega, by show n2 ≤ 9223372036854775807; omega⟩
          rcases i with _ | i
          · simp at hr
            obtain ⟨rfl, rfl⟩ := hr
            exact ⟨by show 32 ≤ numOf n1 60; omega, by show numOf n1 60 ≤ 59; omega⟩
          simp at hr
        · intro q a b t hm
          simp at hm
        · exact TabOk.cons num10 (by decide) (by decide) lo0 hi0 (show numOf n0 10 = 7 from e1) (TabOk.cons num60 (by decide) (by decide) lo1 hi1 rfl (TabOk.cons num4 (by decide) (by decide) lo2 hi2 (show numOf n2 4 = 2 from e17) (TabOk.nil)))
      ·
        refine case175 (σ := fun i => if i = 0 then n0 else if i = 1 then n1 else if i = 2 then n2 else if i = 3 then numOf n1 60 else 0) hL ⟨?_, ?_⟩ ?_ (fun ρ => VRs.cons (by simp [VR, E.den, bT, bF]) (VRs.cons (by simp [VR, E.den, bT, bF]) (VRs.cons (by simp [VR, E.den, bT, bF]) (VRs.nil))))
        · intro i lo hi hr
          rcases i with _ | i
          · simp at hr
            obtain ⟨rfl, rfl⟩ := hr
            exact ⟨by show (-9223372036854775808) ≤ n0; omega, by show n0 ≤ 9223372036854775807; omega⟩
          rcases i with _ | i
          · simp at hr
            obtain ⟨rfl, rfl⟩ := hr
            exact ⟨by show (-9223372036854775808) ≤ n1; omega, by show n1 ≤ 9223372036854775807; omega⟩
          rcases i with _ | i
          · simp at hr
            obtain ⟨rfl, rfl⟩ := hr
            exact ⟨by show (-9223372036854775808) ≤ n2; omega, by show n2 ≤ 9223372036854775807; omega⟩
          rcases i with _ | i
          · simp at hr
            obtain ⟨rfl, rfl⟩ := hr
            exact ⟨by show 32 ≤ numOf n1 60; omega, by show numOf n1 60 ≤ 59; omega⟩
          simp at hr
        · intro q a b t hm
          simp at hm
        · exact TabOk.cons num10 (by decide) (by decide) lo0 hi0 (show numOf n0 10 = 7 from e1) (TabOk.cons num60 (by decide) (by decide) lo1 hi1 rfl (TabOk.cons num4 (by decide) (by decide) lo2 hi2 (show numOf n2 4 = 3 from e17) (TabOk.nil)))
  ·
    have q18 : (numOf n1 60 = 0) ∨ (numOf n1 60 = 1) ∨ (numOf n1 60 = 2) ∨ (numOf n1 60 = 3) ∨ (numOf n1 60 = 4) ∨ (numOf n1 60 = 5) ∨ (numOf n1 60 = 6) ∨ (numOf n1 60 = 7) ∨ (numOf n1 60 = 8) ∨ (numOf n1 60 = 9) ∨ (numOf n1 60 = 10) ∨ (numOf n1 60 = 11) ∨ (numOf n1 60 = 12) ∨ (numOf n1 60 = 13) ∨ (numOf n1 60 = 14) ∨ (numOf n1 60 = 15) ∨ (numOf n1 60 = 16) ∨ (numOf n1 60 = 17) ∨ (numOf n1 60 = 18) ∨ (numOf n1 60 = 19) ∨ (numOf n1 60 = 20) ∨ (numOf n1 60 = 21) ∨ (numOf n1 60 = 22) ∨ (numOf n1 60 = 23) ∨ (numOf n1 60 = 24) ∨ (numOf n1 60 = 25) ∨ (numOf n1 60 = 26) ∨ (numOf n1 60 = 27) ∨ (numOf n1 60 = 28) ∨ (numOf n1 60 = 29) ∨ (numOf n1 60 = 30) ∨ (numOf n1 60 = 31) ∨ (numOf n1 60 = 32) ∨ (numOf n1 60 = 33) ∨ (numOf n1 60 = 34) ∨ (numOf n1 60 = 35) ∨ (36 ≤ numOf n1 60) := by omega
    rcases q18 with q18 | q18 | q18 | q18 | q18 | q18 | q18 | q18 | q18 | q18 | q18 | q18 | q18 | q18 | q18 | q18 | q18 | q18 | q18 | q18 | q18 | q18 | q18 | q18 | q18 | q18 | q18 | q18 | q18 | q18 | q18 | q18 | q18 | q18 | q18 | q18 | q18
    ·
      exact case176 (σ := (sg n0 n1 n2)) hL (Known2.nil _) (TabOk.cons num10 (by decide) (by decide) lo0 hi0 e1 (TabOk.cons num60 (by decide) (by decide) lo1 hi1 q18 (TabOk.nil))) (fun ρ => VRs.cons (by simp [VR, E.den, bT, bF, sg]) (VRs.cons (by simp [VR, E.den, bT, bF, sg]) (VRs.cons (by simp [VR, E.den, bT, bF, sg]) (VRs.nil))))
    ·
      exact case177 (σ := (sg n0 n1 n2)) hL (Known2.nil _) (TabOk.cons num10 (by decide) (by decide) lo0 hi0 e1 (TabOk.cons num60 (by decide) (by decide) lo1 hi1 q18 (TabOk.nil))) (fun ρ => VRs.cons (by simp [VR, E.den, bT, bF, sg]) (VRs.cons (by simp [VR, E.den, bT, bF, sg]) (VRs.cons (by simp [VR, E.den, bT, bF, sg]) (VRs.nil))))
    ·
      exact case178 (σ := (sg n0 n1 n2)) hL (Known2.nil _) (TabOk.cons num10 (by decide) (by decide) lo0 hi0 e1 (TabOk.cons num60 (by decide) (by decide) lo1 hi1 q18 (TabOk.nil))) (fun ρ => VRs.cons (by simp [VR, E.den, bT, bF, sg]) (VRs.cons (by simp [VR, E.den, bT, bF, sg]) (VRs.cons (by simp [VR, E.den, bT, bF, sg]) (VRs.nil))))
    ·
      exact case179 (σ := (sg n0 n1 n2)) hL (Known2.nil _) (TabOk.cons num10 (by decide) (by decide) lo0 hi0 e1 (TabOk.cons num60 (by decide) (by decide) lo1 hi1 q18 (TabOk.nil))) (fun ρ => VRs.cons (by simp [VR, E.den, bT, bF, sg]) (VRs.cons (by simp [VR, E.den, bT, bF, sg]) (VRs.cons (by simp [VR, E.den, bT, bF, sg]) (VRs.nil))))
    ·
      exact case180 (σ := (sg n0 n1 n2)) hL (Known2.nil _) (TabOk.cons num10 (by decide) (by decide) lo0 hi0 e1 (TabOk.cons num60 (by decide) (by decide) lo1 hi1 q18 (TabOk.nil))) (fun ρ => VRs.cons (by simp [VR, E.den, bT, bF, sg]) (VRs.cons (by simp [VR, E.den, bT, bF, sg]) (VRs.cons (by simp [VR, E.den, bT, bF, sg]) (VRs.nil))))
    ·
      exact case181 (σ := (sg n0 n1 n2)) hL (Known2.nil _) (TabOk.cons num10 (by decide) (by decide) lo0 hi0 e1 (TabOk.cons num60 (by decide) (by decide) lo1 hi1 q18 (TabOk.nil))) (fun ρ => VRs.cons (by simp [VR, E.den, bT, bF, sg]) (VRs.cons (by simp [VR, E.den, bT, bF, sg]) (VRs.cons (by simp [VR, E.den, bT, bF, sg]) (VRs.nil))))
    ·
      exact case182 (σ := (sg n0 n1 n2)) hL (Known2.nil _) (TabOk.cons num10 (by decide) (by decide) lo0 hi0 e1 (TabOk.cons num60 (by decide) (by decide) lo1 hi1 q18 (TabOk.nil))) (fun ρ => VRs.cons (by simp [VR, E.den, bT, bF, sg]) (VRs.cons (by simp [VR, E.den, bT, bF, sg]) (VRs.cons (by simp [VR, E.den, bT, bF, sg]) (VRs.nil))))
    ·
      exact case183 (σ := (sg n0 n1 n2)) hL (Known2.nil _) (TabOk.cons num10 (by decide) (by decide) lo0 hi0 e1 (TabOk.cons num60 (by decide) (by decide) lo1 hi1 q18 (TabOk.nil))) (fun ρ => VRs.cons (by simp [VR, E.den, bT, bF, sg]) (VRs.cons (by simp [VR, E.den, bT, bF, sg]) (VRs.cons (by simp [VR, E.den, bT, bF, sg]) (VRs.nil))))
    ·
      exact case184 (σ := (sg n0 n1 n2)) hL (Known2.nil _) (TabOk.cons num10 (by decide) (by decide) lo0 hi0 e1 (TabOk.cons num60 (by decide) (by decide) lo1 hi1 q18 (TabOk.nil))) (fun ρ => VRs.cons (by simp [VR, E.den, bT, bF, sg]) (VRs.cons (by simp [VR, E.den, bT, bF, sg]) (VRs.cons (by simp [VR, E.den, bT, bF, sg]) (VRs.nil))))
    ·
      exact case185 (σ := (sg n0 n1 n2)) hL (Known2.nil _) (TabOk.cons num10 (by decide) (by decide) lo0 hi0 e1 (TabOk.cons num60 (by decide) (by decide) lo1 hi1 q18 (TabOk.nil))) (fun ρ => VRs.cons (by simp [VR, E.den, bT, bF, sg]) (VRs.cons (by simp [VR, E.den, bT, bF, sg]) (VRs.cons (by simp [VR, E.den, bT, bF, sg]) (VRs.nil))))
    ·
      exact case186 (σ := (sg n0 n1 n2)) hL (Known2.nil _) (TabOk.cons num10 (by decide) (by decide) lo0 hi0 e1 (TabOk.cons num60 (by decide) (by decide) lo1 hi1 q18 (TabOk.nil))) (fun ρ => VRs.cons (by simp [VR, E.den, bT, bF, sg]) (VRs.cons (by simp [VR, E.den, bT, bF, sg]) (VRs.cons (by simp [VR, E.den, bT, bF, sg]) (VRs.nil))))
    ·
      exact case187 (σ := (sg n0 n1 n2)) hL (Known2.nil _) (TabOk.cons num10 (by decide) (by decide) lo0 hi0 e1 (TabOk.cons num60 (by decide) (by decide) lo1 hi1 q18 (TabOk.nil))) (fun ρ => VRs.cons (by simp [VR, E.den, bT, bF, sg]) (VRs.cons (by simp [VR, E.den, bT, bF, sg]) (VRs.cons (by simp [VR, E.den, bT, bF, sg]) (VRs.nil))))
    ·
      exact case188 (σ := (sg n0 n1 n2)) hL (Known2.nil _) (TabOk.cons num10 (by decide) (by decide) lo0 hi0 e1 (TabOk.cons num60 (by decide) (by decide) lo1 hi1 q18 (TabOk.nil))) (fun ρ => VRs.cons (by simp [VR, E.den, bT, bF, sg]) (VRs.cons (by simp [VR, E.den, bT, bF, sg]) (VRs.cons (by simp [VR, E.den, bT, bF, sg]) (VRs.nil))))
    ·
      exact case189 (σ := (sg n0 n1 n2)) hL (Known2.nil _) (TabOk.cons num10 (by decide) (by decide) lo0 hi0 e1 (TabOk.cons num60 (by decide) (by decide) lo1 hi1 q18 (TabOk.nil))) (fun ρ => VRs.cons (by simp [VR, E.den, bT, bF, sg]) (VRs.cons (by simp [VR, E.den, bT, bF, sg]) (VRs.cons (by simp [VR, E.den, bT, bF, sg]) (VRs.nil))))
    ·
      exact case190 (σ := (sg n0 n1 n2)) hL (Known2.nil _) (TabOk.cons num10 (by decide) (by decide) lo0 hi0 e1 (TabOk.cons num60 (by decide) (by decide) lo1 hi1 q18 (TabOk.nil))) (fun ρ => VRs.cons (by simp [VR, E.den, bT, bF, sg]) (VRs.cons (by simp [VR, E.den, bT, bF, sg]) (VRs.cons (by simp [VR, E.den, bT, bF, sg]) (VRs.nil))))
    ·
      exact case191 (σ := (sg n0 n1 n2)) hL (Known2.nil _) (TabOk.cons num10 (by decide) (by decide) lo0 hi0 e1 (TabOk.cons num60 (by decide) (by decide) lo1 hi1 q18 (TabOk.nil))) (fun ρ => VRs.cons (by simp [VR, E.den, bT, bF, sg]) (VRs.cons (by simp [VR, E.den, bT, bF, sg]) (VRs.cons (by simp [VR, E.den, bT, bF, sg]) (VRs.nil))))
    ·
      exact case192 (σ := (sg n0 n1 n2)) hL (Known2.nil _) (TabOk.cons num10 (by decide) (by decide) lo0 hi0 e1 (TabOk.cons num60 (by decide) (by decide) lo1 hi1 q18 (TabOk.nil))) (fun ρ => VRs.cons (by simp [VR, E.den, bT, bF, sg]) (VRs.cons (by simp [VR, E.den, bT, bF, sg]) (VRs.cons (by simp [VR, E.den, bT, bF, sg]) (VRs.nil))))
    ·
      exact case193 (σ := (sg n0 n1 n2)) hL (Known2.nil _) (TabOk.cons num10 (by decide) (by decide) lo0 hi0 e1 (TabOk.cons num60 (by decide) (by decide) lo1 hi1 q18 (TabOk.nil))) (fun ρ => VRs.cons (by simp [VR, E.den, bT, bF, sg]) (VRs.cons (by simp [VR, E.den, bT, bF, sg]) (VRs.cons (by simp [VR, E.den, bT, bF, sg]) (VRs.nil))))
    ·
      exact case194 (σ := (sg n0 n1 n2)) hL (Known2.nil _) (TabOk.cons num10 (by decide) (by decide) lo0 hi0 e1 (TabOk.cons num60 (by decide) (by decide) lo1 hi1 q18 (TabOk.nil))) (fun ρ => VRs.cons (by simp [VR, E.den, bT, bF, sg]) (VRs.cons (by simp [VR, E.den, bT, bF, sg]) (VRs.cons (by simp [VR, E.den, bT, bF, sg]) (VRs.nil))))
    ·
      exact case195 (σ := (sg n0 n1 n2)) hL (Known2.nil _) (TabOk.cons num10 (by decide) (by decide) lo0 hi0 e1 (TabOk.cons num60 (by decide) (by decide) lo1 hi1 q18 (TabOk.nil))) (fun ρ => VRs.cons (by simp [VR, E.den, bT, bF, sg]) (VRs.cons (by simp [VR, E.den, bT, bF, sg]) (VRs.cons (by simp [VR, E.den, bT, bF, sg]) (VRs.nil))))
    ·
      exact case196 (σ := (sg n0 n1 n2)) hL (Known2.nil _) (TabOk.cons num10 (by decide) (by decide) lo0 hi0 e1 (TabOk.cons num60 (by decide) (by decide) lo1 hi1 q18 (TabOk.nil))) (fun ρ => VRs.cons (by simp [VR, E.den, bT, bF, sg]) (VRs.cons (by simp [VR, E.den, bT, bF, sg]) (VRs.cons (by simp [VR, E.den, bT, bF, sg]) (VRs.nil))))
    ·
      exact case197 (σ := (sg n0 n1 n2)) hL (Known2.nil _) (TabOk.cons num10 (by decide) (by decide) lo0 hi0 e1 (TabOk.cons num60 (by decide) (by decide) lo1 hi1 q18 (TabOk.nil))) (fun ρ => VRs.cons (by simp [VR, E.den, bT, bF, sg]) (VRs.cons (by simp [VR, E.den, bT, bF, sg]) (VRs.cons (by simp [VR, E.den, bT, bF, sg]) (VRs.nil))))
    ·
      exact case198 (σ := (sg n0 n1 n2)) hL (Known2.nil _) (TabOk.cons num10 (by decide) (by decide) lo0 hi0 e1 (TabOk.cons num60 (by decide) (by decide) lo1 hi1 q18 (TabOk.nil))) (fun ρ => VRs.cons (by simp [VR, E.den, bT, bF, sg]) (VRs.cons (by simp [VR, E.den, bT, bF, sg]) (VRs.cons (by simp [VR, E.den, bT, bF, sg]) (VRs.nil))))
    ·
      exact case199 (σ := (sg n0 n1 n2)) hL (Known2.nil _) (TabOk.cons num10 (by decide) (by decide) lo0 hi0 e1 (TabOk.cons num60 (by decide) (by decide) lo1 hi1 q18 (TabOk.nil))) (fun ρ => VRs.cons (by simp [VR, E.den, bT, bF, sg]) (VRs.cons (by simp [VR, E.den, bT, bF, sg]) (VRs.cons (by simp [VR, E.den, bT, bF, sg]) (VRs.nil))))
    ·
      exact case200 (σ := (sg n0 n1 n2)) hL (Known2.nil _) (TabOk.cons num10 (by decide) (by decide) lo0 hi0 e1 (TabOk.cons num60 (by decide) (by decide) lo1 hi1 q18 (TabOk.nil))) (fun ρ => VRs.cons (by simp [VR, E.den, bT, bF, sg]) (VRs.cons (by simp [VR, E.den, bT, bF, sg]) (VRs.cons (by simp [VR, E.den, bT, bF, sg]) (VRs.nil))))
    ·
      exact case201 (σ := (sg n0 n1 n2)) hL (Known2.nil _) (TabOk.cons num10 (by decide) (by decide) lo0 hi0 e1 (TabOk.cons num60 (by decide) (by decide) lo1 hi1 q18 (TabOk.nil))) (fun ρ => VRs.cons (by simp [VR, E.den, bT, bF, sg]) (VRs.cons (by simp [VR, E.den, bT, bF, sg]) (VRs.cons (by simp [VR, E.den, bT, bF, sg]) (VRs.nil))))
    ·
      exact case202 (σ := (sg n0 n1 n2)) hL (Known2.nil _) (TabOk.cons num10 (by decide) (by decide) lo0 hi0 e1 (TabOk.cons num60 (by decide) (by decide) lo1 hi1 q18 (TabOk.nil))) (fun ρ => VRs.cons (by simp [VR, E.den, bT, bF, sg]) (VRs.cons (by simp [VR, E.den, bT, bF, sg]) (VRs.cons (by simp [VR, E.den, bT, bF, sg]) (VRs.nil))))
    ·
      exact case203 (σ := (sg n0 n1 n2)) hL (Known2.nil _) (TabOk.cons num10 (by decide) (by decide) lo0 hi0 e1 (TabOk.cons num60 (by decide) (by decide) lo1 hi1 q18 (TabOk.nil))) (fun ρ => VRs.cons (by simp [VR, E.den, bT, bF, sg]) (VRs.cons (by simp [VR, E.den, bT, bF, sg]) (VRs.cons (by simp [VR, E.den, bT, bF, sg]) (VRs.nil))))
    ·
      exact case204 (σ := (sg n0 n1 n2)) hL (Known2.nil _) (TabOk.cons num10 (by decide) (by decide) lo0 hi0 e1 (TabOk.cons num60 (by decide) (by decide) lo1 hi1 q18 (TabOk.nil))) (fun ρ => VRs.cons (by simp [VR, E.den, bT, bF, sg]) (VRs.cons (by simp [VR, E.den, bT, bF, sg]) (VRs.cons (by simp [VR, E.den, bT, bF, sg]) (VRs.nil))))
    ·
      exact case205 (σ := (sg n0 n1 n2)) hL (Known2.nil _) (TabOk.cons num10 (by decide) (by decide) lo0 hi0 e1 (TabOk.cons num60 (by decide) (by decide) lo1 hi1 q18 (TabOk.nil))) (fun ρ => VRs.cons (by simp [VR, E.den, bT, bF, sg]) (VRs.cons (by simp [VR, E.den, bT, bF, sg]) (VRs.cons (by simp [VR, E.den, bT, bF, sg]) (VRs.nil))))
    ·
      exact case206 (σ := (sg n0 n1 n2)) hL (Known2.nil _) (TabOk.cons num10 (by decide) (by decide) lo0 hi0 e1 (TabOk.cons num60 (by decide) (by decide) lo1 hi1 q18 (TabOk.nil))) (fun ρ => VRs.cons (by simp [VR, E.den, bT, bF, sg]) (VRs.cons (by simp [VR, E.den, bT, bF, sg]) (VRs.cons (by simp [VR, E.den, bT, bF, sg]) (VRs.nil))))
    ·
      exact case207 (σ := (sg n0 n1 n2)) hL (Known2.nil _) (TabOk.cons num10 (by decide) (by decide) lo0 hi0 e1 (TabOk.cons num60 (by decide) (by decide) lo1 hi1 q18 (TabOk.nil))) (fun ρ => VRs.cons (by simp [VR, E.den, bT, bF, sg]) (VRs.cons (by simp [VR, E.den, bT, bF, sg]) (VRs.cons (by simp [VR, E.den, bT, bF, sg]) (VRs.nil))))
    ·
      exact case208 (σ := (sg n0 n1 n2)) hL (Known2.nil _) (TabOk.cons num10 (by decide) (by decide) lo0 hi0 e1 (TabOk.cons num60 (by decide) (by decide) lo1 hi1 q18 (TabOk.nil))) (fun ρ => VRs.cons (by simp [VR, E.den, bT, bF, sg]) (VRs.cons (by simp [VR, E.den, bT, bF, sg]) (VRs.cons (by simp [VR, E.den, bT, bF, sg]) (VRs.nil))))
    ·
      exact case209 (σ := (sg n0 n1 n2)) hL (Known2.nil _) (TabOk.cons num10 (by decide) (by decide) lo0 hi0 e1 (TabOk.cons num60 (by decide) (by decide) lo1 hi1 q18 (TabOk.nil))) (fun ρ => VRs.cons (by simp [VR, E.den, bT, bF, sg]) (VRs.cons (by simp [VR, E.den, bT, bF, sg]) (VRs.cons (by simp [VR, E.den, bT, bF, sg]) (VRs.nil))))
    ·
      exact case210 (σ := (sg n0 n1 n2)) hL (Known2.nil _) (TabOk.cons num10 (by decide) (by decide) lo0 hi0 e1 (TabOk.cons num60 (by decide) (by decide) lo1 hi1 q18 (TabOk.nil))) (fun ρ => VRs.cons (by simp [VR, E.den, bT, bF, sg]) (VRs.cons (by simp [VR, E.den, bT, bF, sg]) (VRs.cons (by simp [VR, E.den, bT, bF, sg]) (VRs.nil))))
    ·
      exact case211 (σ := (sg n0 n1 n2)) hL (Known2.nil _) (TabOk.cons num10 (by decide) (by decide) lo0 hi0 e1 (TabOk.cons num60 (by decide) (by decide) lo1 hi1 q18 (TabOk.nil))) (fun ρ => VRs.cons (by simp [VR, E.den, bT, bF, sg]) (VRs.cons (by simp [VR, E.den, bT, bF, sg]) (VRs.cons (by simp [VR, E.den, bT, bF, sg]) (VRs.nil))))
    ·
      refine case212 (σ := fun i => if i = 0 then n0 else if i = 1 then n1 else if i = 2 then n2 else if i = 3 then numOf n1 60 else 0) hL ⟨?_, ?_⟩ ?_ (fun ρ => VRs.cons (by simp [VR, E.den, bT, bF]) (VRs.cons (by simp [VR, E.den, bT, bF]) (VRs.cons (by simp [VR, E.den, bT, bF]) (VRs.nil))))
      · intro i lo hi hr
        rcases i with _ | i
        · simp at hr
          obtain ⟨rfl, rfl⟩ := hr
          exact ⟨by show (-9223372036854775808) ≤ n0; omega, by show n0 ≤ 9223372036854775807; omega⟩
        rcases i with _ | i
        · simp at hr
          obtain ⟨rfl, rfl⟩ := hr
          exact ⟨by show (-9223372036854775808) ≤ n1; omega, by show n1 ≤ 9223372036854775807; omega⟩
        rcases i with _ | i
        · simp at hr
          obtain ⟨rfl, rfl⟩ := hr
          exact ⟨by show (-9223372036854775808) ≤ n2; omega, by show n2 ≤ 9223372036854775807; omega⟩
        rcases i with _ | i
        · simp at hr
          obtain ⟨rfl, rfl⟩ := hr
          exact ⟨by show 36 ≤ numOf n1 60; omega, by show numOf n1 60 ≤ 59; omega⟩
        simp at hr
      · intro q a b t hm
        simp at hm
      · exact TabOk.cons num10 (by decide) (by decide) lo0 hi0 (show numOf n0 10 = 8 from e1) (TabOk.cons num60 (by decide) (by decide) lo1 hi1 rfl (TabOk.nil))
  ·
    have q19 : (numOf n1 60 = 0) ∨ (numOf n1 60 = 1) ∨ (numOf n1 60 = 2) ∨ (numOf n1 60 = 3) ∨ (numOf n1 60 = 4) ∨ (numOf n1 60 = 5) ∨ (numOf n1 60 = 6) ∨ (numOf n1 60 = 7) ∨ (numOf n1 60 = 8) ∨ (numOf n1 60 = 9) ∨ (numOf n1 60 = 10) ∨ (numOf n1 60 = 11) ∨ (numOf n1 60 = 12) ∨ (numOf n1 60 = 13) ∨ (numOf n1 60 = 14) ∨ (numOf n1 60 = 15) ∨ (numOf n1 60 = 16) ∨ (numOf n1 60 = 17) ∨ (numOf n1 60 = 18) ∨ (numOf n1 60 = 19) ∨ (numOf n1 60 = 20) ∨ (numOf n1 60 = 21) ∨ (numOf n1 60 = 22) ∨ (numOf n1 60 = 23) ∨ (numOf n1 60 = 24) ∨ (numOf n1 60 = 25) ∨ (numOf n1 60 = 26) ∨ (numOf n1 60 = 27) ∨ (numOf n1 60 = 28) ∨ (numOf n1 60 = 29) ∨ (numOf n1 60 = 30) ∨ (numOf n1 60 = 31) ∨ (numOf n1 60 = 32) ∨ (numOf n1 60 = 33) ∨ (numOf n1 60 = 34) ∨ (numOf n1 60 = 35) ∨ (36 ≤ numOf n1 60) := by omega
    rcases q19 with q19 | q19 | q19 | q19 | q19 | q19 | q19 | q19 | q19 | q19 | q19 | q19 | q19 | q19 | q19 | q19 | q19 | q19 | q19 | q19 | q19 | q19 | q19 | q19 | q19 | q19 | q19 | q19 | q19 | q19 | q19 | q19 | q19 | q19 | q19 | q19 | q19
    ·
      exact case213 (σ := (sg n0 n1 n2)) hL (Known2.nil _) (TabOk.cons num10 (by decide) (by decide) lo0 hi0 e1 (TabOk.cons num60 (by decide) (by decide) lo1 hi1 q19 (TabOk.nil))) (fun ρ => VRs.cons (by simp [VR, E.den, bT, bF, sg]) (VRs.cons (by simp [VR, E.den, bT, bF, sg]) (VRs.cons (by simp [VR, E.den, bT, bF, sg]) (VRs.nil))))
    ·
      exact case214 (σ := (sg n0 n1 n2)) hL (Known2.nil _) (TabOk.cons num10 (by decide) (by decide) lo0 hi0 e1 (TabOk.cons num60 (by decide) (by decide) lo1 hi1 q19 (TabOk.nil))) (fun ρ => VRs.cons (by simp [VR, E.den, bT, bF, sg]) (VRs.cons (by simp [VR, E.den, bT, bF, sg]) (VRs.cons (by simp [VR, E.den, bT, bF, sg]) (VRs.nil))))
    ·
      exact case215 (σ := (sg n0 n1 n2)) hL (Known2.nil _) (TabOk.cons num10 (by decide) (by decide) lo0 hi0 e1 (TabOk.cons num60 (by decide) (by decide) lo1 hi1 q19 (TabOk.nil))) (fun ρ => VRs.cons (by simp [VR, E.den, bT, bF, sg]) (VRs.cons (by simp [VR, E.den, bT, bF, sg]) (VRs.cons (by simp [VR, E.den, bT, bF, sg]) (VRs.nil))))
    ·
      exact case216 (σ := (sg n0 n1 n2)) hL (Known2.nil _) (TabOk.cons num10 (by decide) (by decide) lo0 hi0 e1 (TabOk.cons num60 (by decide) (by decide) lo1 hi1 q19 (TabOk.nil))) (fun ρ => VRs.cons (by simp [VR, E.den, bT, bF, sg]) (VRs.cons (by simp [VR, E.den, bT, bF, sg]) (VRs.cons (by simp [VR, E.den, bT, bF, sg]) (VRs.nil))))
    ·
      exact case217 (σ := (sg n0 n1 n2)) hL (Known2.nil _) (TabOk.cons num10 (by decide) (by decide) lo0 hi0 e1 (TabOk.cons num60 (by decide) (by decide) lo1 hi1 q19 (TabOk.nil))) (fun ρ => VRs.cons (by simp [VR, E.den, bT, bF, sg]) (VRs.cons (by simp [VR, E.den, bT, bF, sg]) (VRs.cons (by simp [VR, E.den, bT, bF, sg]) (VRs.nil))))
    ·
      exact case218 (σ := (sg n0 n1 n2)) hL (Known2.nil _) (TabOk.cons num10 (by decide) (by decide) lo0 hi0 e1 (TabOk.cons num60 (by decide) (by decide) lo1 hi1 q19 (TabOk.nil))) (fun ρ => VRs.cons (by simp [VR, E.den, bT, bF, sg]) (VRs.cons (by simp [VR, E.den, bT, bF, sg]) (VRs.cons (by simp [VR, E.den, bT, bF, sg]) (VRs.nil))))
    ·
      exact case219 (σ := (sg n0 n1 n2)) hL (Known2.nil _) (TabOk.cons num10 (by decide) (by decide) lo0 hi0 e1 (TabOk.cons num60 (by decide) (by decide) lo1 hi1 q19 (TabOk.nil))) (fun ρ => VRs.cons (by simp [VR, E.den, bT, bF, sg]) (VRs.cons (by simp [VR, E.den, bT, bF, sg]) (VRs.cons (by simp [VR, E.den, bT, bF, sg]) (VRs.nil))))
    ·
      exact case220 (σ := (sg n0 n1 n2)) hL (Known2.nil _) (TabOk.cons num10 (by decide) (by decide) lo0 hi0 e1 (TabOk.cons num60 (by decide) (by decide) lo1 hi1 q19 (TabOk.nil))) (fun ρ => VRs.cons (by simp [VR, E.den, bT, bF, sg]) (VRs.cons (by simp [VR, E.den, bT, bF, sg]) (VRs.cons (by simp [VR, E.den, bT, bF, sg]) (VRs.nil))))
    ·
      exact case221 (σ := (sg n0 n1 n2)) hL (Known2.nil _) (TabOk.cons num10 (by decide) (by decide) lo0 hi0 e1 (TabOk.cons num60 (by decide) (by decide) lo1 hi1 q19 (TabOk.nil))) (fun ρ => VRs.cons (by simp [VR, E.den, bT, bF, sg]) (VRs.cons (by simp [VR, E.den, bT, bF, sg]) (VRs.cons (by simp [VR, E.den, bT, bF, sg]) (VRs.nil))))
    ·
      exact case222 (σ := (sg n0 n1 n2)) hL (Known2.nil _) (TabOk.cons num10 (by decide) (by decide) lo0 hi0 e1 (TabOk.cons num60 (by decide) (by decide) lo1 hi1 q19 (TabOk.nil))) (fun ρ => VRs.cons (by simp [VR, E.den, bT, bF, sg]) (VRs.cons (by simp [VR, E.den, bT, bF, sg]) (VRs.cons (by simp [VR, E.den, bT, bF, sg]) (VRs.nil))))
    ·
      exact case223 (σ := (sg n0 n1 n2)) hL (Known2.nil _) (TabOk.cons num10 (by decide) (by decide) lo0 hi0 e1 (TabOk.cons num60 (by decide) (by decide) lo1 hi1 q19 (TabOk.nil))) (fun ρ => VRs.cons (by simp [VR, E.den, bT, bF, sg]) (VRs.cons (by simp [VR, E.den, bT, bF, sg]) (VRs.cons (by simp [VR, E.den, bT, bF, sg]) (VRs.nil))))
    ·
      exact case224 (σ := (sg n0 n1 n2)) hL (Known2.nil _) (TabOk.cons num10 (by decide) (by decide) lo0 hi0 e1 (TabOk.cons num60 (by decide) (by decide) lo1 hi1 q19 (TabOk.nil))) (fun ρ => VRs.cons (by simp [VR, E.den, bT, bF, sg]) (VRs.cons (by simp [VR, E.den, bT, bF, sg]) (VRs.cons (by simp [VR, E.den, bT, bF, sg]) (VRs.nil))))
    ·
      exact case225 (σ := (sg n0 n1 n2)) hL (Known2.nil _) (TabOk.cons num10 (by decide) (by decide) lo0 hi0 e1 (TabOk.cons num60 (by decide) (by decide) lo1 hi1 q19 (TabOk.nil))) (fun ρ => VRs.cons (by simp [VR, E.den, bT, bF, sg]) (VRs.cons (by simp [VR, E.den, bT, bF, sg]) (VRs.cons (by simp [VR, E.den, bT, bF, sg]) (VRs.nil))))
    ·
      exact case226 (σ := (sg n0 n1 n2)) hL (Known2.nil _) (TabOk.cons num10 (by decide) (by decide) lo0 hi0 e1 (TabOk.cons num60 (by decide) (by decide) lo1 hi1 q19 (TabOk.nil))) (fun ρ => VRs.cons (by simp [VR, E.den, bT, bF, sg]) (VRs.cons (by simp [VR, E.den, bT, bF, sg]) (VRs.cons (by simp [VR, E.den, bT, bF, sg]) (VRs.nil))))
    ·
      exact case227 (σ := (sg n0 n1 n2)) hL (Known2.nil _) (TabOk.cons num10 (by decide) (by decide) lo0 hi0 e1 (TabOk.cons num60 (by decide) (by decide) lo1 hi1 q19 (TabOk.nil))) (fun ρ => VRs.cons (by simp [VR, E.den, bT, bF, sg]) (VRs.cons (by simp [VR, E.den, bT, bF, sg]) (VRs.cons (by simp [VR, E.den, bT, bF, sg]) (VRs.nil))))
    ·
      exact case228 (σ := (sg n0 n1 n2)) hL (Known2.nil _) (TabOk.cons num10 (by decide) (by decide) lo0 hi0 e1 (TabOk.cons num60 (by decide) (by decide) lo1 hi1 q19 (TabOk.nil))) (fun ρ => VRs.cons (by simp [VR, E.den, bT, bF, sg]) (VRs.cons (by simp [VR, E.den, bT, bF, sg]) (VRs.cons (by simp [VR, E.den, bT, bF, sg]) (VRs.nil))))
    ·
      exact case229 (σ := (sg n0 n1 n2)) hL (Known2.nil _) (TabOk.cons num10 (by decide) (by decide) lo0 hi0 e1 (TabOk.cons num60 (by decide) (by decide) lo1 hi1 q19 (TabOk.nil))) (fun ρ => VRs.cons (by simp [VR, E.den, bT, bF, sg]) (VRs.cons (by simp [VR, E.den, bT, bF, sg]) (VRs.cons (by simp [VR, E.den, bT, bF, sg]) (VRs.nil))))
    ·
      exact case230 (σ := (sg n0 n1 n2)) hL (Known2.nil _) (TabOk.cons num10 (by decide) (by decide) lo0 hi0 e1 (TabOk.cons num60 (by decide) (by decide) lo1 hi1 q19 (TabOk.nil))) (fun ρ => VRs.cons (by simp [VR, E.den, bT, bF, sg]) (VRs.cons (by simp [VR, E.den, bT, bF, sg]) (VRs.cons (by simp [VR, E.den, bT, bF, sg]) (VRs.nil))))
    ·
      exact case231 (σ := (sg n0 n1 n2)) hL (Known2.nil _) (TabOk.cons num10 (by decide) (by decide) lo0 hi0 e1 (TabOk.cons num60 (by decide) (by decide) lo1 hi1 q19 (TabOk.nil))) (fun ρ => VRs.cons (by simp [VR, E.den, bT, bF, sg]) (VRs.cons (by simp [VR, E.den, bT, bF, sg]) (VRs.cons (by simp [VR, E.den, bT, bF, sg]) (VRs.nil))))
    ·
      exact case232 (σ := (sg n0 n1 n2)) hL (Known2.nil _) (TabOk.cons num10 (by decide) (by decide) lo0 hi0 e1 (TabOk.cons num60 (by decide) (by decide) lo1 hi1 q19 (TabOk.nil))) (fun ρ => VRs.cons (by simp [VR, E.den, bT, bF, sg]) (VRs.cons (by simp [VR, E.den, bT, bF, sg]) (VRs.cons (by simp [VR, E.den, bT, bF, sg]) (VRs.nil))))
    ·
      exact case233 (σ := (sg n0 n1 n2)) hL (Known2.nil _) (TabOk.cons num10 (by decide) (by decide) lo0 hi0 e1 (TabOk.cons num60 (by decide) (by decide) lo1 hi1 q19 (TabOk.nil))) (fun ρ => VRs.cons (by simp [VR, E.den, bT, bF, sg]) (VRs.cons (by simp [VR, E.den, bT, bF, sg]) (VRs.cons (by simp [VR, E.den, bT, bF, sg]) (VRs.nil))))
    ·
      exact case234 (σ := (sg n0 n1 n2)) hL (Known2.nil _) (TabOk.cons num10 (by decide) (by decide) lo0 hi0 e1 (TabOk.cons num60 (by decide) (by decide) lo1 hi1 q19 (TabOk.nil))) (fun ρ => VRs.cons (by simp [VR, E.den, bT, bF, sg]) (VRs.cons (by simp [VR, E.den, bT, bF, sg]) (VRs.cons (by simp [VR, E.den, bT, bF, sg]) (VRs.nil))))
    ·
      exact case235 (σ := (sg n0 n1 n2)) hL (Known2.nil _) (TabOk.cons num10 (by decide) (by decide) lo0 hi0 e1 (TabOk.cons num60 (by decide) (by decide) lo1 hi1 q19 (TabOk.nil))) (fun ρ => VRs.cons (by simp [VR, E.den, bT, bF, sg]) (VRs.cons (by simp [VR, E.den, bT, bF, sg]) (VRs.cons (by simp [VR, E.den, bT, bF, sg]) (VRs.nil))))
    ·
      exact case236 (σ := (sg n0 n1 n2)) hL (Known2.nil _) (TabOk.cons num10 (by decide) (by decide) lo0 hi0 e1 (TabOk.cons num60 (by decide) (by decide) lo1 hi1 q19 (TabOk.nil))) (fun ρ => VRs.cons (by simp [VR, E.den, bT, bF, sg]) (VRs.cons (by simp [VR, E.den, bT, bF, sg]) (VRs.cons (by simp [VR, E.den, bT, bF, sg]) (VRs.nil))))
    ·
      exact case237 (σ := (sg n0 n1 n2)) hL (Known2.nil _) (TabOk.cons num10 (by decide) (by decide) lo0 hi0 e1 (TabOk.cons num60 (by decide) (by decide) lo1 hi1 q19 (TabOk.nil))) (fun ρ => VRs.cons (by simp [VR, E.den, bT, bF, sg]) (VRs.cons (by simp [VR, E.den, bT, bF, sg]) (VRs.cons (by simp [VR, E.den, bT, bF, sg]) (VRs.nil))))
    ·
      exact case238 (σ := (sg n0 n1 n2)) hL (Known2.nil _) (TabOk.cons num10 (by decide) (by decide) lo0 hi0 e1 (TabOk.cons num60 (by decide) (by decide) lo1 hi1 q19 (TabOk.nil))) (fun ρ => VRs.cons (by simp [VR, E.den, bT, bF, sg]) (VRs.cons (by simp [VR, E.den, bT, bF, sg]) (VRs.cons (by simp [VR, E.den, bT, bF, sg]) (VRs.nil))))
    ·
      exact case239 (σ := (sg n0 n1 n2)) hL (Known2.nil _) (TabOk.cons num10 (by decide) (by decide) lo0 hi0 e1 (TabOk.cons num60 (by decide) (by decide) lo1 hi1 q19 (TabOk.nil))) (fun ρ => VRs.cons (by simp [VR, E.den, bT, bF, sg]) (VRs.cons (by simp [VR, E.den, bT, bF, sg]) (VRs.cons (by simp [VR, E.den, bT, bF, sg]) (VRs.nil))))
    ·
      exact case240 (σ := (sg n0 n1 n2)) hL (Known2.nil _) (TabOk.cons num10 (by decide) (by decide) lo0 hi0 e1 (TabOk.cons num60 (by decide) (by decide) lo1 hi1 q19 (TabOk.nil))) (fun ρ => VRs.cons (by simp [VR, E.den, bT, bF, sg]) (VRs.cons (by simp [VR, E.den, bT, bF, sg]) (VRs.cons (by simp [VR, E.den, bT, bF, sg]) (VRs.nil))))
    ·
      exact case241 (σ := (sg n0 n1 n2)) hL (Known2.nil _) (TabOk.cons num10 (by decide) (by decide) lo0 hi0 e1 (TabOk.cons num60 (by decide) (by decide) lo1 hi1 q19 (TabOk.nil))) (fun ρ => VRs.cons (by simp [VR, E.den, bT, bF, sg]) (VRs.cons (by simp [VR, E.den, bT, bF, sg]) (VRs.cons (by simp [VR, E.den, bT, bF, sg]) (VRs.nil))))
    ·
      exact case242 (σ := (sg n0 n1 n2)) hL (Known2.nil _) (TabOk.cons num10 (by decide) (by decide) lo0 hi0 e1 (TabOk.cons num60 (by decide) (by decide) lo1 hi1 q19 (TabOk.nil))) (fun ρ => VRs.cons (by simp [VR, E.den, bT, bF, sg]) (VRs.cons (by simp [VR, E.den, bT, bF, sg]) (VRs.cons (by simp [VR, E.den, bT, bF, sg]) (VRs.nil))))
    ·
      exact case243 (σ := (sg n0 n1 n2)) hL (Known2.nil _) (TabOk.cons num10 (by decide) (by decide) lo0 hi0 e1 (TabOk.cons num60 (by decide) (by decide) lo1 hi1 q19 (TabOk.nil))) (fun ρ => VRs.cons (by simp [VR, E.den, bT, bF, sg]) (VRs.cons (by simp [VR, E.den, bT, bF, sg]) (VRs.cons (by simp [VR, E.den, bT, bF, sg]) (VRs.nil))))
    ·
      exact case244 (σ := (sg n0 n1 n2)) hL (Known2.nil _) (TabOk.cons num10 (by decide) (by decide) lo0 hi0 e1 (TabOk.cons num60 (by decide) (by decide) lo1 hi1 q19 (TabOk.nil))) (fun ρ => VRs.cons (by simp [VR, E.den, bT, bF, sg]) (VRs.cons (by simp [VR, E.den, bT, bF, sg]) (VRs.cons (by simp [VR, E.den, bT, bF, sg]) (VRs.nil))))
    ·
      exact case245 (σ := (sg n0 n1 n2)) hL (Known2.nil _) (TabOk.cons num10 (by decide) (by decide) lo0 hi0 e1 (TabOk.cons num60 (by decide) (by decide) lo1 hi1 q19 (TabOk.nil))) (fun ρ => VRs.cons (by simp [VR, E.den, bT, bF, sg]) (VRs.cons (by simp [VR, E.den, bT, bF, sg]) (VRs.cons (by simp [VR, E.den, bT, bF, sg]) (VRs.nil))))
    ·
      exact case246 (σ := (sg n0 n1 n2)) hL (Known2.nil _) (TabOk.cons num10 (by decide) (by decide) lo0 hi0 e1 (TabOk.cons num60 (by decide) (by decide) lo1 hi1 q19 (TabOk.nil))) (fun ρ => VRs.cons (by simp [VR, E.den, bT, bF, sg]) (VRs.cons (by simp [VR, E.den, bT, bF, sg]) (VRs.cons (by simp [VR, E.den, bT, bF, sg]) (VRs.nil))))
    ·
      exact case247 (σ := (sg n0 n1 n2)) hL (Known2.nil _) (TabOk.cons num10 (by decide) (by decide) lo0 hi0 e1 (TabOk.cons num60 (by decide) (by decide) lo1 hi1 q19 (TabOk.nil))) (fun ρ => VRs.cons (by simp [VR, E.den, bT, bF, sg]) (VRs.cons (by simp [VR, E.den, bT, bF, sg]) (VRs.cons (by simp [VR, E.den, bT, bF, sg]) (VRs.nil))))
    ·
      exact case248 (σ := (sg n0 n1 n2)) hL (Known2.nil _) (TabOk.cons num10 (by decide) (by decide) lo0 hi0 e1 (TabOk.cons num60 (by decide) (by decide) lo1 hi1 q19 (TabOk.nil))) (fun ρ => VRs.cons (by simp [VR, E.den, bT, bF, sg]) (VRs.cons (by simp [VR, E.den, bT, bF, sg]) (VRs.cons (by simp [VR, E.den, bT, bF, sg]) (VRs.nil))))
    ·
      refine case249 (σ := fun i => if i = 0 then n0 else if i = 1 then n1 else if i = 2 then n2 else if i = 3 then numOf n1 60 else 0) hL ⟨?_, ?_⟩ ?_ (fun ρ => VRs.cons (by simp [VR, E.den, bT, bF]) (VRs.cons (by simp [VR, E.den, bT, bF]) (VRs.cons (by simp [VR, E.den, bT, bF]) (VRs.nil))))
      · intro i lo hi hr
        rcases i with _ | i
        · simp at hr
          obtain ⟨rfl, rfl⟩ := hr
          exact ⟨by show (-9223372036854775808) ≤ n0; omega, by show n0 ≤ 9223372036854775807; omega⟩
        rcases i with _ | i
        · simp at hr
          obtain ⟨rfl, rfl⟩ := hr
          exact ⟨by show (-9223372036854775808) ≤ n1; omega, by show n1 ≤ 9223372036854775807; omega⟩
        rcases i with _ | i
        · simp at hr
          obtain ⟨rfl, rfl⟩ := hr
          exact ⟨by show (-9223372036854775808) ≤ n2; omega, by show n2 ≤ 9223372036854775807; omega⟩
        rcases i with _ | i
        · simp at hr
          obtain ⟨rfl, rfl⟩ := hr
          exact ⟨by show 36 ≤ numOf n1 60; omega, by show numOf n1 60 ≤ 59; omega⟩
        simp at hr
      · intro q a b t hm
        simp at hm
      · exact TabOk.cons num10 (by decide) (by decide) lo0 hi0 (show numOf n0 10 = 9 from e1) (TabOk.cons num60 (by decide) (by decide) lo1 hi1 rfl (TabOk.nil))
theorem contract (H : Type) (enc : TypeId × Value → H) (W : World) (base : Nat) (args : Array Value) (ds gs : List (DataW H)) (before : List MemPlace)
    (hval : ∀ (j : Nat) t v, Tryd.f3.params[j]? = some t → args[j]? = some v → Value.okWide Tryd.prog W .any base t v)
    (hW : DataW.Whole enc Tryd.prog Tryd.f3.params.toList Rows.bootRoomSpec.vars false W args.toList ds gs before) (hL : laidMetH Tryd.prog Rows.bootRoomRow.laid W) :
    Calls Tryd.prog 3 args W fun e W' => ∃ v, e = .returned v ∧ Rows.bootRoomSpec.post enc Tryd.prog Tryd.f3 false true false false W args v W' := by
  have hW' := hW
  obtain ⟨p, q, hA0, hV, rfl, hfz, hnd⟩ := hW
  have hA : DataW.TrodAll enc Tryd.prog W 0 (fun _ => true) true Tryd.f3.params.toList args.toList ds p := hA0
  rw [Tryd.params3] at hA hval
  obtain ⟨v0, vs0, d0, ds0, p0, q0, hargs, rfl, rfl, h0, r0⟩ := trodAll_cons hA
  obtain ⟨v1, vs1, d1, ds1, p1, q1, rfl, rfl, rfl, h1, r1⟩ := trodAll_cons r0
  obtain ⟨v2, vs2, d2, ds2, p2, q2, rfl, rfl, rfl, h2, r2⟩ := trodAll_cons r1
  obtain ⟨rfl, rfl, rfl⟩ := trodAll_nil r2
  obtain rfl : args = #[v0, v1, v2] := by cases args; simp_all
  obtain ⟨rfl, rfl⟩ := trodVars_none hV
  obtain ⟨n0, rfl, rfl, rfl, hn0⟩ := open_int Tryd.underlying3 (hval 0 3 v0 rfl rfl) h0
  obtain ⟨n1, rfl, rfl, rfl, hn1⟩ := open_int Tryd.underlying3 (hval 1 3 v1 rfl rfl) h1
  obtain ⟨n2, rfl, rfl, rfl, hn2⟩ := open_int Tryd.underlying3 (hval 2 3 v2 rfl rfl) h2
  clear hA0
  simp only [List.append_nil] at hW'
  refine (walk W n0 hn0 n1 hn1 n2 hn2 hL).mono fun e W' hh => ?_
  obtain ⟨he, hg⟩ := hh
  subst he
  exact ⟨_, rfl, _, _, _, [], [], [], hW', trodAll_cons_mk (shut_bool Tryd.underlying4 _) trodAll_mk0, trodAll_cons_mk (shut_int Tryd.underlying3 hn0) (trodAll_cons_mk (shut_int Tryd.underlying3 hn1) (trodAll_cons_mk (shut_int Tryd.underlying3 hn2) trodAll_mk0)), rfl, hg.frame _, fun h => Bool.noConfusion h⟩
theorem laid_met (os : Os) : laidMetH Tryd.prog Rows.bootRoomRow.laid ((World.laidAll Tryd.prog os Rows.bootRoomRow.laid).forCall (fun _ _ => 0) ⟨#[], #[.int .i64 0, .int .i64 0, .int .i64 0], []⟩).memory := by
  rw [MakeChecks.laidMetH_plain _ _ _ (by kernel_rfl)]
  exact laidMet_laidAll _ (by kernel_rfl) (by kernel_rfl)
theorem reads (os : Os) {H : Type} (enc : TypeId × Value → H) : ∃ places, DataW.whole enc Tryd.prog ((World.laidAll Tryd.prog os Rows.bootRoomRow.laid).forCall (fun _ _ => 0) ⟨#[], #[.int .i64 0, .int .i64 0, .int .i64 0], []⟩).memory Tryd.f3.params.toList Rows.bootRoomSpec.vars false #[Value.int .i64 0, .int .i64 0, .int .i64 0].toList 8 = some ([.lit (.int .i64 0), .lit (.int .i64 0), .lit (.int .i64 0)], [], places) :=
  ⟨[], by kernel_rfl⟩
theorem lifted (os : Os) (started : os.Started) (H : Type) (enc : TypeId × Value → H) (F : Stop.Interp) :
    ReturnsInHanded {} Tryd.checked os 3 .any ((OpenSpec.ofChange Rows.bootRoomSpec).preRow enc Tryd.prog Tryd.f3 Rows.bootRoomRow.domain false Rows.bootRoomRow.laid) (((OpenSpec.ofChange Rows.bootRoomSpec).at F).post enc Tryd.prog Tryd.f3 false true false false) := by
  obtain ⟨places, hx⟩ := reads os enc
  refine returnsInHanded_of_row (C := Tryd.checked) (s := OpenSpec.ofChange Rows.bootRoomSpec) own started (by kernel_rfl) Tryd.func3
    (witness_row_atRef (enc := enc) (C := Tryd.checked) false (World.laidAll Tryd.prog os Rows.bootRoomRow.laid) #[.int .i64 0, .int .i64 0, .int .i64 0] (World.laidAll_os _ _ _) (by kernel_rfl) (by kernel_rfl) (by kernel_rfl)
      (OpenSpec.preRow_of_cond 8 hx (by kernel_rfl) (fun k hk => by cases hk) (by kernel_rfl) (laid_met os))) ?_
  intro W base args ds gs before hval hW _ _ _ hL _ _
  exact contract H enc W base args ds gs before hval hW hL
theorem said : Rows.BootRoomSaid :=
  OpenClaim.holds_of_cond 3 Tryd.f3 rfl rfl rfl rfl rfl rfl rfl ⟨rfl, rfl, rfl, rfl, rfl⟩ rfl rfl rfl rfl rfl (by kernel_rfl) Tryd.func3 (by kernel_rfl)
    (of_decide_eq_true (by kernel_rfl)) (by unfold Func.isWrapper; first | (rw [if_pos (by decide +kernel)]; kernel_rfl) | (rw [if_neg (by decide +kernel)]; exact ⟨rfl, rfl⟩))
    (fun os started H enc _ F => by rw [OpenClaim.pre_eq_preRow]; exact lifted os started H enc F)
theorem plain (f : FuncId) (fn : Func) (hf : Tryd.pinned.checked.prog.funcNamed "turnkey/turnkeylaw26.BootRoom" = some f) (hfn : Tryd.pinned.checked.prog.funcs[f]? = some fn) :
    true = Tryd.pinned.checked.prog.looks [] ∧ ∀ (j : Nat) t, fn.params[j]? = some t → Tryd.pinned.checked.prog.wantsStandIn t = false := by
  obtain rfl : f = 3 := Option.some.inj ((show Tryd.prog.funcNamed "turnkey/turnkeylaw26.BootRoom" = some 3 by kernel_rfl).symm.trans hf) |>.symm
  obtain rfl : fn = Tryd.f3 := (Option.some.inj (Tryd.func3.symm.trans hfn)).symm
  refine ⟨by kernel_rfl, fun j t ht => ?_⟩
  rw [Tryd.params3] at ht
  have hm := Array.mem_of_getElem? ht
  have hall : ∀ t, t ∈ #[(3 : TypeId), (3 : TypeId), (3 : TypeId)] → Tryd.prog.wantsStandIn t = false := by
    intro t h
    simp only [List.mem_toArray, List.mem_cons, List.not_mem_nil, or_false] at h
    rcases h with rfl | rfl | rfl
    · exact (show Tryd.prog.wantsStandIn 3 = false by kernel_rfl)
    · exact (show Tryd.prog.wantsStandIn 3 = false by kernel_rfl)
    · exact (show Tryd.prog.wantsStandIn 3 = false by kernel_rfl)
  exact hall t hm
theorem card : Rows.BootRoomCardSaid :=
  Claim7.holds_tied_plain_at .later [] _ _ _ _ said (fun _ h => by cases h) (by kernel_rfl) (fun _ h => by cases h) bootRoom_row_tie rfl ⟨rfl, rfl⟩ (by kernel_rfl) rfl plain (by kernel_rfl)
end Go.Proofs.YtkfhelmjaoepiaaDoor.bootRoom
