/- GraphReaches returns true for every input, and the input reads as it did; the listed errors hold what the program text lays. -/
import Derived.Test.YtflipohebkkkbabDoorGrK1
import Derived.Deep.DeepWitnessRowRef
import Derived.Lay
set_option linter.unusedVariables false
set_option linter.unusedSimpArgs false
set_option maxRecDepth 10000000
namespace Go.Proofs.YtflipohebkkkbabDoor.graphReaches
open Tk
open Go.ChangeShapes Go.WideShapes Go.ChangeAt Go.RowKit

theorem own : ownKnob Tryd.prog.godebug = none := by kernel_rfl
def sg (n0 : Int) (n1 : Int) : Nat → Int := fun i => if i = 0 then n0 else if i = 1 then n1 else 0
theorem walk (W : World) (n0 : Int) (hn0 : (Lit.int .i64 n0).wf = true) (n1 : Int) (hn1 : (Lit.int .i64 n1).wf = true) (hL : laidMetH Tryd.prog laidErrs W) : Calls Tryd.prog 4 #[.int .i64 n0, .int .i64 n1] W fun e w' => e = .returned (.bool true) ∧ Below W.heap.size W w' := by
  simp only [Lit.wf, Bool.and_eq_true, decide_eq_true_eq] at hn0
  have lo0 : -9223372036854775808 ≤ n0 := hn0.1
  have hi0 : n0 ≤ 9223372036854775807 := hn0.2
  simp only [Lit.wf, Bool.and_eq_true, decide_eq_true_eq] at hn1
  have lo1 : -9223372036854775808 ≤ n1 := hn1.1
  have hi1 : n1 ≤ 9223372036854775807 := hn1.2
  obtain ⟨a1, b1⟩ := numOf_range n0 7 (by decide)
  have e1 : numOf n0 7 = 0 ∨ numOf n0 7 = 1 ∨ numOf n0 7 = 2 ∨ numOf n0 7 = 3 ∨ numOf n0 7 = 4 ∨ numOf n0 7 = 5 ∨ numOf n0 7 = 6 := by omega
  rcases e1 with e1 | e1 | e1 | e1 | e1 | e1 | e1
  ·
    obtain ⟨a2, b2⟩ := numOf_range n1 3 (by decide)
    have e2 : numOf n1 3 = 0 ∨ numOf n1 3 = 1 ∨ numOf n1 3 = 2 := by omega
    rcases e2 with e2 | e2 | e2
    ·
      exact case0 (σ := (sg n0 n1)) hL (Known2.nil _) (TabOk.cons num7 (by decide) (by decide) lo0 hi0 e1 (TabOk.cons num3 (by decide) (by decide) lo1 hi1 e2 (TabOk.nil))) (fun ρ => VRs.cons (by simp [VR, E.den, sg]) (VRs.cons (by simp [VR, E.den, sg]) (VRs.nil)))
    ·
      exact case1 (σ := (sg n0 n1)) hL (Known2.nil _) (TabOk.cons num7 (by decide) (by decide) lo0 hi0 e1 (TabOk.cons num3 (by decide) (by decide) lo1 hi1 e2 (TabOk.nil))) (fun ρ => VRs.cons (by simp [VR, E.den, sg]) (VRs.cons (by simp [VR, E.den, sg]) (VRs.nil)))
    ·
      exact case2 (σ := (sg n0 n1)) hL (Known2.nil _) (TabOk.cons num7 (by decide) (by decide) lo0 hi0 e1 (TabOk.cons num3 (by decide) (by decide) lo1 hi1 e2 (TabOk.nil))) (fun ρ => VRs.cons (by simp [VR, E.den, sg]) (VRs.cons (by simp [VR, E.den, sg]) (VRs.nil)))
  ·
    obtain ⟨a3, b3⟩ := numOf_range n1 4 (by decide)
    have e3 : numOf n1 4 = 0 ∨ numOf n1 4 = 1 ∨ numOf n1 4 = 2 ∨ numOf n1 4 = 3 := by omega
    rcases e3 with e3 | e3 | e3 | e3
    ·
      exact case3 (σ := (sg n0 n1)) hL (Known2.nil _) (TabOk.cons num7 (by decide) (by decide) lo0 hi0 e1 (TabOk.cons num4 (by decide) (by decide) lo1 hi1 e3 (TabOk.nil))) (fun ρ => VRs.cons (by simp [VR, E.den, sg]) (VRs.cons (by simp [VR, E.den, sg]) (VRs.nil)))
    ·
      exact case4 (σ := (sg n0 n1)) hL (Known2.nil _) (TabOk.cons num7 (by decide) (by decide) lo0 hi0 e1 (TabOk.cons num4 (by decide) (by decide) lo1 hi1 e3 (TabOk.nil))) (fun ρ => VRs.cons (by simp [VR, E.den, sg]) (VRs.cons (by simp [VR, E.den, sg]) (VRs.nil)))
    ·
      exact case5 (σ := (sg n0 n1)) hL (Known2.nil _) (TabOk.cons num7 (by decide) (by decide) lo0 hi0 e1 (TabOk.cons num4 (by decide) (by decide) lo1 hi1 e3 (TabOk.nil))) (fun ρ => VRs.cons (by simp [VR, E.den, sg]) (VRs.cons (by simp [VR, E.den, sg]) (VRs.nil)))
    ·
      exact case6 (σ := (sg n0 n1)) hL (Known2.nil _) (TabOk.cons num7 (by decide) (by decide) lo0 hi0 e1 (TabOk.cons num4 (by decide) (by decide) lo1 hi1 e3 (TabOk.nil))) (fun ρ => VRs.cons (by simp [VR, E.den, sg]) (VRs.cons (by simp [VR, E.den, sg]) (VRs.nil)))
  ·
    obtain ⟨a4, b4⟩ := numOf_range n1 5 (by decide)
    have e4 : numOf n1 5 = 0 ∨ numOf n1 5 = 1 ∨ numOf n1 5 = 2 ∨ numOf n1 5 = 3 ∨ numOf n1 5 = 4 := by omega
    rcases e4 with e4 | e4 | e4 | e4 | e4
    ·
      exact case7 (σ := (sg n0 n1)) hL (Known2.nil _) (TabOk.cons num7 (by decide) (by decide) lo0 hi0 e1 (TabOk.cons num5 (by decide) (by decide) lo1 hi1 e4 (TabOk.nil))) (fun ρ => VRs.cons (by simp [VR, E.den, sg]) (VRs.cons (by simp [VR, E.den, sg]) (VRs.nil)))
    ·
      exact case8 (σ := (sg n0 n1)) hL (Known2.nil _) (TabOk.cons num7 (by decide) (by decide) lo0 hi0 e1 (TabOk.cons num5 (by decide) (by decide) lo1 hi1 e4 (TabOk.nil))) (fun ρ => VRs.cons (by simp [VR, E.den, sg]) (VRs.cons (by simp [VR, E.den, sg]) (VRs.nil)))
    ·
      exact case9 (σ := (sg n0 n1)) hL (Known2.nil _) (TabOk.cons num7 (by decide) (by decide) lo0 hi0 e1 (TabOk.cons num5 (by decide) (by decide) lo1 hi1 e4 (TabOk.nil))) (fun ρ => VRs.cons (by simp [VR, E.den, sg]) (VRs.cons (by simp [VR, E.den, sg]) (VRs.nil)))
    ·
      exact case10 (σ := (sg n0 n1)) hL (Known2.nil _) (TabOk.cons num7 (by decide) (by decide) lo0 hi0 e1 (TabOk.cons num5 (by decide) (by decide) lo1 hi1 e4 (TabOk.nil))) (fun ρ => VRs.cons (by simp [VR, E.den, sg]) (VRs.cons (by simp [VR, E.den, sg]) (VRs.nil)))
    ·
      exact case11 (σ := (sg n0 n1)) hL (Known2.nil _) (TabOk.cons num7 (by decide) (by decide) lo0 hi0 e1 (TabOk.cons num5 (by decide) (by decide) lo1 hi1 e4 (TabOk.nil))) (fun ρ => VRs.cons (by simp [VR, E.den, sg]) (VRs.cons (by simp [VR, E.den, sg]) (VRs.nil)))
  ·
    obtain ⟨a5, b5⟩ := numOf_range n1 6 (by decide)
    have e5 : numOf n1 6 = 0 ∨ numOf n1 6 = 1 ∨ numOf n1 6 = 2 ∨ numOf n1 6 = 3 ∨ numOf n1 6 = 4 ∨ numOf n1 6 = 5 := by omega
    rcases e5 with e5 | e5 | e5 | e5 | e5 | e5
    ·
      exact case12 (σ := (sg n0 n1)) hL (Known2.nil _) (TabOk.cons num7 (by decide) (by decide) lo0 hi0 e1 (TabOk.cons num6 (by decide) (by decide) lo1 hi1 e5 (TabOk.nil))) (fun ρ => VRs.cons (by simp [VR, E.den, sg]) (VRs.cons (by simp [VR, E.den, sg]) (VRs.nil)))
    ·
      exact case13 (σ := (sg n0 n1)) hL (Known2.nil _) (TabOk.cons num7 (by decide) (by decide) lo0 hi0 e1 (TabOk.cons num6 (by decide) (by decide) lo1 hi1 e5 (TabOk.nil))) (fun ρ => VRs.cons (by simp [VR, E.den, sg]) (VRs.cons (by simp [VR, E.den, sg]) (VRs.nil)))
    ·
      exact case14 (σ := (sg n0 n1)) hL (Known2.nil _) (TabOk.cons num7 (by decide) (by decide) lo0 hi0 e1 (TabOk.cons num6 (by decide) (by decide) lo1 hi1 e5 (TabOk.nil))) (fun ρ => VRs.cons (by simp [VR, E.den, sg]) (VRs.cons (by simp [VR, E.den, sg]) (VRs.nil)))
    ·
      exact case15 (σ := (sg n0 n1)) hL (Known2.nil _) (TabOk.cons num7 (by decide) (by decide) lo0 hi0 e1 (TabOk.cons num6 (by decide) (by decide) lo1 hi1 e5 (TabOk.nil))) (fun ρ => VRs.cons (by simp [VR, E.den, sg]) (VRs.cons (by simp [VR, E.den, sg]) (VRs.nil)))
    ·
      exact case16 (σ := (sg n0 n1)) hL (Known2.nil _) (TabOk.cons num7 (by decide) (by decide) lo0 hi0 e1 (TabOk.cons num6 (by decide) (by decide) lo1 hi1 e5 (TabOk.nil))) (fun ρ => VRs.cons (by simp [VR, E.den, sg]) (VRs.cons (by simp [VR, E.den, sg]) (VRs.nil)))
    ·
      exact case17 (σ := (sg n0 n1)) hL (Known2.nil _) (TabOk.cons num7 (by decide) (by decide) lo0 hi0 e1 (TabOk.cons num6 (by decide) (by decide) lo1 hi1 e5 (TabOk.nil))) (fun ρ => VRs.cons (by simp [VR, E.den, sg]) (VRs.cons (by simp [VR, E.den, sg]) (VRs.nil)))
  ·
    obtain ⟨a6, b6⟩ := numOf_range n1 7 (by decide)
    have e6 : numOf n1 7 = 0 ∨ numOf n1 7 = 1 ∨ numOf n1 7 = 2 ∨ numOf n1 7 = 3 ∨ numOf n1 7 = 4 ∨ numOf n1 7 = 5 ∨ numOf n1 7 = 6 := by omega
    rcases e6 with e6 | e6 | e6 | e6 | e6 | e6 | e6
    ·
      exact case18 (σ := (sg n0 n1)) hL (Known2.nil _) (TabOk.cons num7 (by decide) (by decide) lo0 hi0 e1 (TabOk.cons num7 (by decide) (by decide) lo1 hi1 e6 (TabOk.nil))) (fun ρ => VRs.cons (by simp [VR, E.den, sg]) (VRs.cons (by simp [VR, E.den, sg]) (VRs.nil)))
    ·
      exact case19 (σ := (sg n0 n1)) hL (Known2.nil _) (TabOk.cons num7 (by decide) (by decide) lo0 hi0 e1 (TabOk.cons num7 (by decide) (by decide) lo1 hi1 e6 (TabOk.nil))) (fun ρ => VRs.cons (by simp [VR, E.den, sg]) (VRs.cons (by simp [VR, E.den, sg]) (VRs.nil)))
    ·
      exact case20 (σ := (sg n0 n1)) hL (Known2.nil _) (TabOk.cons num7 (by decide) (by decide) lo0 hi0 e1 (TabOk.cons num7 (by decide) (by decide) lo1 hi1 e6 (TabOk.nil))) (fun ρ => VRs.cons (by simp [VR, E.den, sg]) (VRs.cons (by simp [VR, E.den, sg]) (VRs.nil)))
    ·
      exact case21 (σ := (sg n0 n1)) hL (Known2.nil _) (TabOk.cons num7 (by decide) (by decide) lo0 hi0 e1 (TabOk.cons num7 (by decide) (by decide) lo1 hi1 e6 (TabOk.nil))) (fun ρ => VRs.cons (by simp [VR, E.den, sg]) (VRs.cons (by simp [VR, E.den, sg]) (VRs.nil)))
    ·
      exact case22 (σ := (sg n0 n1)) hL (Known2.nil _) (TabOk.cons num7 (by decide) (by decide) lo0 hi0 e1 (TabOk.cons num7 (by decide) (by decide) lo1 hi1 e6 (TabOk.nil))) (fun ρ => VRs.cons (by simp [VR, E.den, sg]) (VRs.cons (by simp [VR, E.den, sg]) (VRs.nil)))
    ·
      exact case23 (σ := (sg n0 n1)) hL (Known2.nil _) (TabOk.cons num7 (by decide) (by decide) lo0 hi0 e1 (TabOk.cons num7 (by decide) (by decide) lo1 hi1 e6 (TabOk.nil))) (fun ρ => VRs.cons (by simp [VR, E.den, sg]) (VRs.cons (by simp [VR, E.den, sg]) (VRs.nil)))
    ·
      exact case24 (σ := (sg n0 n1)) hL (Known2.nil _) (TabOk.cons num7 (by decide) (by decide) lo0 hi0 e1 (TabOk.cons num7 (by decide) (by decide) lo1 hi1 e6 (TabOk.nil))) (fun ρ => VRs.cons (by simp [VR, E.den, sg]) (VRs.cons (by simp [VR, E.den, sg]) (VRs.nil)))
  ·
    obtain ⟨a7, b7⟩ := numOf_range n1 8 (by decide)
    have e7 : numOf n1 8 = 0 ∨ numOf n1 8 = 1 ∨ numOf n1 8 = 2 ∨ numOf n1 8 = 3 ∨ numOf n1 8 = 4 ∨ numOf n1 8 = 5 ∨ numOf n1 8 = 6 ∨ numOf n1 8 = 7 := by omega
    rcases e7 with e7 | e7 | e7 | e7 | e7 | e7 | e7 | e7
    ·
      exact case25 (σ := (sg n0 n1)) hL (Known2.nil _) (TabOk.cons num7 (by decide) (by decide) lo0 hi0 e1 (TabOk.cons num8 (by decide) (by decide) lo1 hi1 e7 (TabOk.nil))) (fun ρ => VRs.cons (by simp [VR, E.den, sg]) (VRs.cons (by simp [VR, E.den, sg]) (VRs.nil)))
    ·
      exact case26 (σ := (sg n0 n1)) hL (Known2.nil _) (TabOk.cons num7 (by decide) (by decide) lo0 hi0 e1 (TabOk.cons num8 (by decide) (by decide) lo1 hi1 e7 (TabOk.nil))) (fun ρ => VRs.cons (by simp [VR, E.den, sg]) (VRs.cons (by simp [VR, E.den, sg]) (VRs.nil)))
    ·
      exact case27 (σ := (sg n0 n1)) hL (Known2.nil _) (TabOk.cons num7 (by decide) (by decide) lo0 hi0 e1 (TabOk.cons num8 (by decide) (by decide) lo1 hi1 e7 (TabOk.nil))) (fun ρ => VRs.cons (by simp [VR, E.den, sg]) (VRs.cons (by simp [VR, E.den, sg]) (VRs.nil)))
    ·
      exact case28 (σ := (sg n0 n1)) hL (Known2.nil _) (TabOk.cons num7 (by decide) (by decide) lo0 hi0 e1 (TabOk.cons num8 (by decide) (by decide) lo1 hi1 e7 (TabOk.nil))) (fun ρ => VRs.cons (by simp [VR, E.den, sg]) (VRs.cons (by simp [VR, E.den, sg]) (VRs.nil)))
    ·
      exact case29 (σ := (sg n0 n1)) hL (Known2.nil _) (TabOk.cons num7 (by decide) (by decide) lo0 hi0 e1 (TabOk.cons num8 (by decide) (by decide) lo1 hi1 e7 (TabOk.nil))) (fun ρ => VRs.cons (by simp [VR, E.den, sg]) (VRs.cons (by simp [VR, E.den, sg]) (VRs.nil)))
    ·
      exact case30 (σ := (sg n0 n1)) hL (Known2.nil _) (TabOk.cons num7 (by decide) (by decide) lo0 hi0 e1 (TabOk.cons num8 (by decide) (by decide) lo1 hi1 e7 (TabOk.nil))) (fun ρ => VRs.cons (by simp [VR, E.den, sg]) (VRs.cons (by simp [VR, E.den, sg]) (VRs.nil)))
    ·
      exact case31 (σ := (sg n0 n1)) hL (Known2.nil _) (TabOk.cons num7 (by decide) (by decide) lo0 hi0 e1 (TabOk.cons num8 (by decide) (by decide) lo1 hi1 e7 (TabOk.nil))) (fun ρ => VRs.cons (by simp [VR, E.den, sg]) (VRs.cons (by simp [VR, E.den, sg]) (VRs.nil)))
    ·
      exact case32 (σ := (sg n0 n1)) hL (Known2.nil _) (TabOk.cons num7 (by decide) (by decide) lo0 hi0 e1 (TabOk.cons num8 (by decide) (by decide) lo1 hi1 e7 (TabOk.nil))) (fun ρ => VRs.cons (by simp [VR, E.den, sg]) (VRs.cons (by simp [VR, E.den, sg]) (VRs.nil)))
  ·
    obtain ⟨a8, b8⟩ := numOf_range n1 9 (by decide)
    have e8 : numOf n1 9 = 0 ∨ numOf n1 9 = 1 ∨ numOf n1 9 = 2 ∨ numOf n1 9 = 3 ∨ numOf n1 9 = 4 ∨ numOf n1 9 = 5 ∨ numOf n1 9 = 6 ∨ numOf n1 9 = 7 ∨ numOf n1 9 = 8 := by omega
    rcases e8 with e8 | e8 | e8 | e8 | e8 | e8 | e8 | e8 | e8
    ·
      exact case33 (σ := (sg n0 n1)) hL (Known2.nil _) (TabOk.cons num7 (by decide) (by decide) lo0 hi0 e1 (TabOk.cons num9 (by decide) (by decide) lo1 hi1 e8 (TabOk.nil))) (fun ρ => VRs.cons (by simp [VR, E.den, sg]) (VRs.cons (by simp [VR, E.den, sg]) (VRs.nil)))
    ·
      exact case34 (σ := (sg n0 n1)) hL (Known2.nil _) (TabOk.cons num7 (by decide) (by decide) lo0 hi0 e1 (TabOk.cons num9 (by decide) (by decide) lo1 hi1 e8 (TabOk.nil))) (fun ρ => VRs.cons (by simp [VR, E.den, sg]) (VRs.cons (by simp [VR, E.den, sg]) (VRs.nil)))
    ·
      exact case35 (σ := (sg n0 n1)) hL (Known2.nil _) (TabOk.cons num7 (by decide) (by decide) lo0 hi0 e1 (TabOk.cons num9 (by decide) (by decide) lo1 hi1 e8 (TabOk.nil))) (fun ρ => VRs.cons (by simp [VR, E.den, sg]) (VRs.cons (by simp [VR, E.den, sg]) (VRs.nil)))
    ·
      exact case36 (σ := (sg n0 n1)) hL (Known2.nil _) (TabOk.cons num7 (by decide) (by decide) lo0 hi0 e1 (TabOk.cons num9 (by decide) (by decide) lo1 hi1 e8 (TabOk.nil))) (fun ρ => VRs.cons (by simp [VR, E.den, sg]) (VRs.cons (by simp [VR, E.den, sg]) (VRs.nil)))
    ·
      exact case37 (σ := (sg n0 n1)) hL (Known2.nil _) (TabOk.cons num7 (by decide) (by decide) lo0 hi0 e1 (TabOk.cons num9 (by decide) (by decide) lo1 hi1 e8 (TabOk.nil))) (fun ρ => VRs.cons (by simp [VR, E.den, sg]) (VRs.cons (by simp [VR, E.den, sg]) (VRs.nil)))
    ·
      exact case38 (σ := (sg n0 n1)) hL (Known2.nil _) (TabOk.cons num7 (by decide) (by decide) lo0 hi0 e1 (TabOk.cons num9 (by decide) (by decide) lo1 hi1 e8 (TabOk.nil))) (fun ρ => VRs.cons (by simp [VR, E.den, sg]) (VRs.cons (by simp [VR, E.den, sg]) (VRs.nil)))
    ·
      exact case39 (σ := (sg n0 n1)) hL (Known2.nil _) (TabOk.cons num7 (by decide) (by decide) lo0 hi0 e1 (TabOk.cons num9 (by decide) (by decide) lo1 hi1 e8 (TabOk.nil))) (fun ρ => VRs.cons (by simp [VR, E.den, sg]) (VRs.cons (by simp [VR, E.den, sg]) (VRs.nil)))
    ·
      exact case40 (σ := (sg n0 n1)) hL (Known2.nil _) (TabOk.cons num7 (by decide) (by decide) lo0 hi0 e1 (TabOk.cons num9 (by decide) (by decide) lo1 hi1 e8 (TabOk.nil))) (fun ρ => VRs.cons (by simp [VR, E.den, sg]) (VRs.cons (by simp [VR, E.den, sg]) (VRs.nil)))
    ·
      exact case41 (σ := (sg n0 n1)) hL (Known2.nil _) (TabOk.cons num7 (by decide) (by decide) lo0 hi0 e1 (TabOk.cons num9 (by decide) (by decide) lo1 hi1 e8 (TabOk.nil))) (fun ρ => VRs.cons (by simp [VR, E.den, sg]) (VRs.cons (by simp [VR, E.den, sg]) (VRs.nil)))
theorem contract (H : Type) (enc : TypeId × Value → H) (W : World) (base : Nat) (args : Array Value) (ds gs : List (DataW H)) (before : List MemPlace)
    (hval : ∀ (j : Nat) t v, Tryd.f4.params[j]? = some t → args[j]? = some v → Value.okWide Tryd.prog W .any base t v)
    (hW : DataW.Whole enc Tryd.prog Tryd.f4.params.toList Rows.graphReachesSpec.vars false W args.toList ds gs before) (hL : laidMetH Tryd.prog Rows.graphReachesRow.laid W) :
    Calls Tryd.prog 4 args W fun e W' => ∃ v, e = .returned v ∧ Rows.graphReachesSpec.post enc Tryd.prog Tryd.f4 false true false false W args v W' := by
  have hW' := hW
  obtain ⟨p, q, hA0, hV, rfl, hfz, hnd⟩ := hW
  have hA : DataW.TrodAll enc Tryd.prog W 0 (fun _ => true) true Tryd.f4.params.toList args.toList ds p := hA0
  rw [Tryd.params4] at hA hval
  obtain ⟨v0, vs0, d0, ds0, p0, q0, hargs, rfl, rfl, h0, r0⟩ := trodAll_cons hA
  obtain ⟨v1, vs1, d1, ds1, p1, q1, rfl, rfl, rfl, h1, r1⟩ := trodAll_cons r0
  obtain ⟨rfl, rfl, rfl⟩ := trodAll_nil r1
  obtain rfl : args = #[v0, v1] := by cases args; simp_all
  obtain ⟨rfl, rfl⟩ := trodVars_none hV
  obtain ⟨n0, rfl, rfl, rfl, hn0⟩ := open_int Tryd.underlying3 (hval 0 3 v0 rfl rfl) h0
  obtain ⟨n1, rfl, rfl, rfl, hn1⟩ := open_int Tryd.underlying3 (hval 1 3 v1 rfl rfl) h1
  clear hA0
  simp only [List.append_nil] at hW'
  refine (walk W n0 hn0 n1 hn1 hL).mono fun e W' hh => ?_
  obtain ⟨he, hg⟩ := hh
  subst he
  exact ⟨_, rfl, _, _, _, [], [], [], hW', trodAll_cons_mk (shut_bool Tryd.underlying4 _) trodAll_mk0, trodAll_cons_mk (shut_int Tryd.underlying3 hn0) (trodAll_cons_mk (shut_int Tryd.underlying3 hn1) trodAll_mk0), rfl, hg.frame _, fun h => Bool.noConfusion h⟩
theorem laid_met (os : Os) : laidMetH Tryd.prog Rows.graphReachesRow.laid ((World.laidAll Tryd.prog os Rows.graphReachesRow.laid).forCall (fun _ _ => 0) ⟨#[], #[.int .i64 0, .int .i64 0], []⟩).memory := by
  rw [MakeChecks.laidMetH_plain _ _ _ (by kernel_rfl)]
  exact laidMet_laidAll _ (by kernel_rfl) (by kernel_rfl)
theorem reads (os : Os) {H : Type} (enc : TypeId × Value → H) : ∃ places, DataW.whole enc Tryd.prog ((World.laidAll Tryd.prog os Rows.graphReachesRow.laid).forCall (fun _ _ => 0) ⟨#[], #[.int .i64 0, .int .i64 0], []⟩).memory Tryd.f4.params.toList Rows.graphReachesSpec.vars false #[Value.int .i64 0, .int .i64 0].toList 8 = some ([.lit (.int .i64 0), .lit (.int .i64 0)], [], places) :=
  ⟨[], by kernel_rfl⟩
theorem lifted (os : Os) (started : os.Started) (H : Type) (enc : TypeId × Value → H) (F : Stop.Interp) :
    ReturnsInHanded {} Tryd.checked os 4 .any ((OpenSpec.ofChange Rows.graphReachesSpec).preRow enc Tryd.prog Tryd.f4 Rows.graphReachesRow.domain false Rows.graphReachesRow.laid) (((OpenSpec.ofChange Rows.graphReachesSpec).at F).post enc Tryd.prog Tryd.f4 false true false false) := by
  obtain ⟨places, hx⟩ := reads os enc
  refine returnsInHanded_of_row (C := Tryd.checked) (s := OpenSpec.ofChange Rows.graphReachesSpec) own started (by kernel_rfl) Tryd.func4
    (witness_row_atRef (enc := enc) (C := Tryd.checked) false (World.laidAll Tryd.prog os Rows.graphReachesRow.laid) #[.int .i64 0, .int .i64 0] (World.laidAll_os _ _ _) (by kernel_rfl) (by kernel_rfl) (by kernel_rfl)
      (OpenSpec.preRow_of_cond 8 hx (by kernel_rfl) (fun k hk => by cases hk) (by kernel_rfl) (laid_met os))) ?_
  intro W base args ds gs before hval hW _ _ _ hL _ _
  exact contract H enc W base args ds gs before hval hW hL
theorem said : Rows.GraphReachesSaid :=
  OpenClaim.holds_of_cond 4 Tryd.f4 rfl rfl rfl rfl rfl rfl rfl ⟨rfl, rfl, rfl, rfl, rfl⟩ rfl rfl rfl rfl rfl (by kernel_rfl) Tryd.func4 (by kernel_rfl)
    (of_decide_eq_true (by kernel_rfl)) (by unfold Func.isWrapper; first | (rw [if_pos (by decide +kernel)]; kernel_rfl) | (rw [if_neg (by decide +kernel)]; exact ⟨rfl, rfl⟩))
    (fun os started H enc _ F => by rw [OpenClaim.pre_eq_preRow]; exact lifted os started H enc F)
theorem plain (f : FuncId) (fn : Func) (hf : Tryd.pinned.checked.prog.funcNamed "turnkey/turnkeylaw25.GraphReaches" = some f) (hfn : Tryd.pinned.checked.prog.funcs[f]? = some fn) :
    false = Tryd.pinned.checked.prog.looks [] ∧ ∀ (j : Nat) t, fn.params[j]? = some t → Tryd.pinned.checked.prog.wantsStandIn t = false := by
  obtain rfl : f = 4 := Option.some.inj ((show Tryd.prog.funcNamed "turnkey/turnkeylaw25.GraphReaches" = some 4 by kernel_rfl).symm.trans hf) |>.symm
  obtain rfl : fn = Tryd.f4 := (Option.some.inj (Tryd.func4.symm.trans hfn)).symm
  refine ⟨by kernel_rfl, fun j t ht => ?_⟩
  rw [Tryd.params4] at ht
  have hm := Array.mem_of_getElem? ht
  have hall : ∀ t, t ∈ #[(3 : TypeId), (3 : TypeId)] → Tryd.prog.wantsStandIn t = false := by
    intro t h
    simp only [List.mem_toArray, List.mem_cons, List.not_mem_nil, or_false] at h
    rcases h with rfl | rfl
    · exact (show Tryd.prog.wantsStandIn 3 = false by kernel_rfl)
    · exact (show Tryd.prog.wantsStandIn 3 = false by kernel_rfl)
  exact hall t hm
theorem card : Rows.GraphReachesCardSaid :=
  Claim7.holds_tied_plain_at .later [] _ _ _ _ said (fun _ h => by cases h) (by kernel_rfl) (fun _ h => by cases h) graphReaches_row_tie rfl ⟨rfl, rfl⟩ (by kernel_rfl) rfl plain (by kernel_rfl)
end Go.Proofs.YtflipohebkkkbabDoor.graphReaches
