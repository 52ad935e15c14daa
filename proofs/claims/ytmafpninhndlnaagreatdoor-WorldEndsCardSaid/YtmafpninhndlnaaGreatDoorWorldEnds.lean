/- WorldEnds returns true for every input, and the input reads as it did; the listed errors hold what the program text lays. -/
import Derived.Test.YtmafpninhndlnaaGreatDoorWeK0
import Derived.Deep.DeepWitnessRowRef
import Derived.Lay
set_option linter.unusedVariables false
set_option linter.unusedSimpArgs false
set_option maxRecDepth 10000000
namespace Go.Proofs.YtmafpninhndlnaaGreatDoor.worldEnds
open Tk
open Go.ChangeShapes Go.WideShapes Go.ChangeAt Go.RowKit

theorem own : ownKnob Tryz.prog.godebug = none := by kernel_rfl
def sg (n0 : Int) (n1 : Int) : Nat → Int := fun i => if i = 0 then n0 else if i = 1 then n1 else 0
theorem hvv (n0 : Int) (n1 : Int) : ∀ ρ, VRs (sg n0 n1) ρ [.int .i64 (.var 0), .int .i64 (.var 1)] (#[.int .i64 n0, .int .i64 n1] : Array Go.Value).toList := fun ρ => VRs.cons (by simp [VR, E.den, sg]) (VRs.cons (by simp [VR, E.den, sg]) (VRs.nil))
theorem walk (W : World) (n0 : Int) (hn0 : (Lit.int .i64 n0).wf = true) (n1 : Int) (hn1 : (Lit.int .i64 n1).wf = true) (hL : laidMetH Tryz.prog Rows.worldEndsRow.laid W) : Calls Tryz.prog 5 #[.int .i64 n0, .int .i64 n1] W fun e w' => e = .returned (.bool true) ∧ Below W.heap.size W w' := by
  simp only [Lit.wf, Bool.and_eq_true, decide_eq_true_eq] at hn0
  have lo0 : -9223372036854775808 ≤ n0 := hn0.1
  have hi0 : n0 ≤ 9223372036854775807 := hn0.2
  simp only [Lit.wf, Bool.and_eq_true, decide_eq_true_eq] at hn1
  have lo1 : -9223372036854775808 ≤ n1 := hn1.1
  have hi1 : n1 ≤ 9223372036854775807 := hn1.2
  obtain ⟨a1, b1⟩ := Tk.numOf_range n0 20 (by decide)
  have e1 : Tk.numOf n0 20 = 0 ∨ Tk.numOf n0 20 = 1 ∨ Tk.numOf n0 20 = 2 ∨ Tk.numOf n0 20 = 3 ∨ Tk.numOf n0 20 = 4 ∨ Tk.numOf n0 20 = 5 ∨ Tk.numOf n0 20 = 6 ∨ Tk.numOf n0 20 = 7 ∨ Tk.numOf n0 20 = 8 ∨ Tk.numOf n0 20 = 9 ∨ Tk.numOf n0 20 = 10 ∨ Tk.numOf n0 20 = 11 ∨ Tk.numOf n0 20 = 12 ∨ Tk.numOf n0 20 = 13 ∨ Tk.numOf n0 20 = 14 ∨ Tk.numOf n0 20 = 15 ∨ Tk.numOf n0 20 = 16 ∨ Tk.numOf n0 20 = 17 ∨ Tk.numOf n0 20 = 18 ∨ Tk.numOf n0 20 = 19 := by omega
  rcases e1 with e1 | e1 | e1 | e1 | e1 | e1 | e1 | e1 | e1 | e1 | e1 | e1 | e1 | e1 | e1 | e1 | e1 | e1 | e1 | e1
  ·
    obtain ⟨a2, b2⟩ := Tk.numOf_range n1 3 (by decide)
    have e2 : Tk.numOf n1 3 = 0 ∨ Tk.numOf n1 3 = 1 ∨ Tk.numOf n1 3 = 2 := by omega
    rcases e2 with e2 | e2 | e2
    ·
      exact case0 (σ := (sg n0 n1)) hL (Known2.nil _) (TabOk.cons num20 (by decide) (by decide) lo0 hi0 e1 (TabOk.cons num3 (by decide) (by decide) lo1 hi1 e2 (TabOk.nil))) (hvv n0 n1)
    ·
      exact case1 (σ := (sg n0 n1)) hL (Known2.nil _) (TabOk.cons num20 (by decide) (by decide) lo0 hi0 e1 (TabOk.cons num3 (by decide) (by decide) lo1 hi1 e2 (TabOk.nil))) (hvv n0 n1)
    ·
      exact case2 (σ := (sg n0 n1)) hL (Known2.nil _) (TabOk.cons num20 (by decide) (by decide) lo0 hi0 e1 (TabOk.cons num3 (by decide) (by decide) lo1 hi1 e2 (TabOk.nil))) (hvv n0 n1)
  ·
    obtain ⟨a3, b3⟩ := Tk.numOf_range n1 3 (by decide)
    have e3 : Tk.numOf n1 3 = 0 ∨ Tk.numOf n1 3 = 1 ∨ Tk.numOf n1 3 = 2 := by omega
    rcases e3 with e3 | e3 | e3
    ·
      exact case3 (σ := (sg n0 n1)) hL (Known2.nil _) (TabOk.cons num20 (by decide) (by decide) lo0 hi0 e1 (TabOk.cons num3 (by decide) (by decide) lo1 hi1 e3 (TabOk.nil))) (hvv n0 n1)
    ·
      exact case4 (σ := (sg n0 n1)) hL (Known2.nil _) (TabOk.cons num20 (by decide) (by decide) lo0 hi0 e1 (TabOk.cons num3 (by decide) (by decide) lo1 hi1 e3 (TabOk.nil))) (hvv n0 n1)
    ·
      exact case5 (σ := (sg n0 n1)) hL (Known2.nil _) (TabOk.cons num20 (by decide) (by decide) lo0 hi0 e1 (TabOk.cons num3 (by decide) (by decide) lo1 hi1 e3 (TabOk.nil))) (hvv n0 n1)
  ·
    obtain ⟨a4, b4⟩ := Tk.numOf_range n1 3 (by decide)
    have e4 : Tk.numOf n1 3 = 0 ∨ Tk.numOf n1 3 = 1 ∨ Tk.numOf n1 3 = 2 := by omega
    rcases e4 with e4 | e4 | e4
    ·
      exact case6 (σ := (sg n0 n1)) hL (Known2.nil _) (TabOk.cons num20 (by decide) (by decide) lo0 hi0 e1 (TabOk.cons num3 (by decide) (by decide) lo1 hi1 e4 (TabOk.nil))) (hvv n0 n1)
    ·
      exact case7 (σ := (sg n0 n1)) hL (Known2.nil _) (TabOk.cons num20 (by decide) (by decide) lo0 hi0 e1 (TabOk.cons num3 (by decide) (by decide) lo1 hi1 e4 (TabOk.nil))) (hvv n0 n1)
    ·
      exact case8 (σ := (sg n0 n1)) hL (Known2.nil _) (TabOk.cons num20 (by decide) (by decide) lo0 hi0 e1 (TabOk.cons num3 (by decide) (by decide) lo1 hi1 e4 (TabOk.nil))) (hvv n0 n1)
  ·
    obtain ⟨a5, b5⟩ := Tk.numOf_range n1 3 (by decide)
    have e5 : Tk.numOf n1 3 = 0 ∨ Tk.numOf n1 3 = 1 ∨ Tk.numOf n1 3 = 2 := by omega
    rcases e5 with e5 | e5 | e5
    ·
      exact case9 (σ := (sg n0 n1)) hL (Known2.nil _) (TabOk.cons num20 (by decide) (by decide) lo0 hi0 e1 (TabOk.cons num3 (by decide) (by decide) lo1 hi1 e5 (TabOk.nil))) (hvv n0 n1)
    ·
      exact case10 (σ := (sg n0 n1)) hL (Known2.nil _) (TabOk.cons num20 (by decide) (by decide) lo0 hi0 e1 (TabOk.cons num3 (by decide) (by decide) lo1 hi1 e5 (TabOk.nil))) (hvv n0 n1)
    ·
      exact case11 (σ := (sg n0 n1)) hL (Known2.nil _) (TabOk.cons num20 (by decide) (by decide) lo0 hi0 e1 (TabOk.cons num3 (by decide) (by decide) lo1 hi1 e5 (TabOk.nil))) (hvv n0 n1)
  ·
    obtain ⟨a6, b6⟩ := Tk.numOf_range n1 3 (by decide)
    have e6 : Tk.numOf n1 3 = 0 ∨ Tk.numOf n1 3 = 1 ∨ Tk.numOf n1 3 = 2 := by omega
    rcases e6 with e6 | e6 | e6
    ·
      exact case12 (σ := (sg n0 n1)) hL (Known2.nil _) (TabOk.cons num20 (by decide) (by decide) lo0 hi0 e1 (TabOk.cons num3 (by decide) (by decide) lo1 hi1 e6 (TabOk.nil))) (hvv n0 n1)
    ·
      exact case13 (σ := (sg n0 n1)) hL (Known2.nil _) (TabOk.cons num20 (by decide) (by decide) lo0 hi0 e1 (TabOk.cons num3 (by decide) (by decide) lo1 hi1 e6 (TabOk.nil))) (hvv n0 n1)
    ·
      exact case14 (σ := (sg n0 n1)) hL (Known2.nil _) (TabOk.cons num20 (by decide) (by decide) lo0 hi0 e1 (TabOk.cons num3 (by decide) (by decide) lo1 hi1 e6 (TabOk.nil))) (hvv n0 n1)
  ·
    obtain ⟨a7, b7⟩ := Tk.numOf_range n1 3 (by decide)
    have e7 : Tk.numOf n1 3 = 0 ∨ Tk.numOf n1 3 = 1 ∨ Tk.numOf n1 3 = 2 := by omega
    rcases e7 with e7 | e7 | e7
    ·
      exact case15 (σ := (sg n0 n1)) hL (Known2.nil _) (TabOk.cons num20 (by decide) (by decide) lo0 hi0 e1 (TabOk.cons num3 (by decide) (by decide) lo1 hi1 e7 (TabOk.nil))) (hvv n0 n1)
    ·
      exact case16 (σ := (sg n0 n1)) hL (Known2.nil _) (TabOk.cons num20 (by decide) (by decide) lo0 hi0 e1 (TabOk.cons num3 (by decide) (by decide) lo1 hi1 e7 (TabOk.nil))) (hvv n0 n1)
    ·
      exact case17 (σ := (sg n0 n1)) hL (Known2.nil _) (TabOk.cons num20 (by decide) (by decide) lo0 hi0 e1 (TabOk.cons num3 (by decide) (by decide) lo1 hi1 e7 (TabOk.nil))) (hvv n0 n1)
  ·
    obtain ⟨a8, b8⟩ := Tk.numOf_range n1 3 (by decide)
    have e8 : Tk.numOf n1 3 = 0 ∨ Tk.numOf n1 3 = 1 ∨ Tk.numOf n1 3 = 2 := by omega
    rcases e8 with e8 | e8 | e8
    ·
      exact case18 (σ := (sg n0 n1)) hL (Known2.nil _) (TabOk.cons num20 (by decide) (by decide) lo0 hi0 e1 (TabOk.cons num3 (by decide) (by decide) lo1 hi1 e8 (TabOk.nil))) (hvv n0 n1)
    ·
      exact case19 (σ := (sg n0 n1)) hL (Known2.nil _) (TabOk.cons num20 (by decide) (by decide) lo0 hi0 e1 (TabOk.cons num3 (by decide) (by decide) lo1 hi1 e8 (TabOk.nil))) (hvv n0 n1)
    ·
      exact case20 (σ := (sg n0 n1)) hL (Known2.nil _) (TabOk.cons num20 (by decide) (by decide) lo0 hi0 e1 (TabOk.cons num3 (by decide) (by decide) lo1 hi1 e8 (TabOk.nil))) (hvv n0 n1)
  ·
    obtain ⟨a9, b9⟩ := Tk.numOf_range n1 3 (by decide)
    have e9 : Tk.numOf n1 3 = 0 ∨ Tk.numOf n1 3 = 1 ∨ Tk.numOf n1 3 = 2 := by omega
    rcases e9 with e9 | e9 | e9
    ·
      exact case21 (σ := (sg n0 n1)) hL (Known2.nil _) (TabOk.cons num20 (by decide) (by decide) lo0 hi0 e1 (TabOk.cons num3 (by decide) (by decide) lo1 hi1 e9 (TabOk.nil))) (hvv n0 n1)
    ·
      exact case22 (σ := (sg n0 n1)) hL (Known2.nil _) (TabOk.cons num20 (by decide) (by decide) lo0 hi0 e1 (TabOk.cons num3 (by decide) (by decide) lo1 hi1 e9 (TabOk.nil))) (hvv n0 n1)
    ·
      exact case23 (σ := (sg n0 n1)) hL (Known2.nil _) (TabOk.cons num20 (by decide) (by decide) lo0 hi0 e1 (TabOk.cons num3 (by decide) (by decide) lo1 hi1 e9 (TabOk.nil))) (hvv n0 n1)
  ·
    obtain ⟨a10, b10⟩ := Tk.numOf_range n1 3 (by decide)
    have e10 : Tk.numOf n1 3 = 0 ∨ Tk.numOf n1 3 = 1 ∨ Tk.numOf n1 3 = 2 := by omega
    rcases e10 with e10 | e10 | e10
    ·
      exact case24 (σ := (sg n0 n1)) hL (Known2.nil _) (TabOk.cons num20 (by decide) (by decide) lo0 hi0 e1 (TabOk.cons num3 (by decide) (by decide) lo1 hi1 e10 (TabOk.nil))) (hvv n0 n1)
    ·
      exact case25 (σ := (sg n0 n1)) hL (Known2.nil _) (TabOk.cons num20 (by decide) (by decide) lo0 hi0 e1 (TabOk.cons num3 (by decide) (by decide) lo1 hi1 e10 (TabOk.nil))) (hvv n0 n1)
    ·
      exact case26 (σ := (sg n0 n1)) hL (Known2.nil _) (TabOk.cons num20 (by decide) (by decide) lo0 hi0 e1 (TabOk.cons num3 (by decide) (by decide) lo1 hi1 e10 (TabOk.nil))) (hvv n0 n1)
  ·
    obtain ⟨a11, b11⟩ := Tk.numOf_range n1 3 (by decide)
    have e11 : Tk.numOf n1 3 = 0 ∨ Tk.numOf n1 3 = 1 ∨ Tk.numOf n1 3 = 2 := by omega
    rcases e11 with e11 | e11 | e11
    ·
      exact case27 (σ := (sg n0 n1)) hL (Known2.nil _) (TabOk.cons num20 (by decide) (by decide) lo0 hi0 e1 (TabOk.cons num3 (by decide) (by decide) lo1 hi1 e11 (TabOk.nil))) (hvv n0 n1)
    ·
      exact case28 (σ := (sg n0 n1)) hL (Known2.nil _) (TabOk.cons num20 (by decide) (by decide) lo0 hi0 e1 (TabOk.cons num3 (by decide) (by decide) lo1 hi1 e11 (TabOk.nil))) (hvv n0 n1)
    ·
      exact case29 (σ := (sg n0 n1)) hL (Known2.nil _) (TabOk.cons num20 (by decide) (by decide) lo0 hi0 e1 (TabOk.cons num3 (by decide) (by decide) lo1 hi1 e11 (TabOk.nil))) (hvv n0 n1)
  ·
    obtain ⟨a12, b12⟩ := Tk.numOf_range n1 3 (by decide)
    have e12 : Tk.numOf n1 3 = 0 ∨ Tk.numOf n1 3 = 1 ∨ Tk.numOf n1 3 = 2 := by omega
    rcases e12 with e12 | e12 | e12
    ·
      exact case30 (σ := (sg n0 n1)) hL (Known2.nil _) (TabOk.cons num20 (by decide) (by decide) lo0 hi0 e1 (TabOk.cons num3 (by decide) (by decide) lo1 hi1 e12 (TabOk.nil))) (hvv n0 n1)
    ·
      exact case31 (σ := (sg n0 n1)) hL (Known2.nil _) (TabOk.cons num20 (by decide) (by decide) lo0 hi0 e1 (TabOk.cons num3 (by decide) (by decide) lo1 hi1 e12 (TabOk.nil))) (hvv n0 n1)
    ·
      exact case32 (σ := (sg n0 n1)) hL (Known2.nil _) (TabOk.cons num20 (by decide) (by decide) lo0 hi0 e1 (TabOk.cons num3 (by decide) (by decide) lo1 hi1 e12 (TabOk.nil))) (hvv n0 n1)
  ·
    obtain ⟨a13, b13⟩ := Tk.numOf_range n1 3 (by decide)
    have e13 : Tk.numOf n1 3 = 0 ∨ Tk.numOf n1 3 = 1 ∨ Tk.numOf n1 3 = 2 := by omega
    rcases e13 with e13 | e13 | e13
    ·
      exact case33 (σ := (sg n0 n1)) hL (Known2.nil _) (TabOk.cons num20 (by decide) (by decide) lo0 hi0 e1 (TabOk.cons num3 (by decide) (by decide) lo1 hi1 e13 (TabOk.nil))) (hvv n0 n1)
    ·
      exact case34 (σ := (sg n0 n1)) hL (Known2.nil _) (TabOk.cons num20 (by decide) (by decide) lo0 hi0 e1 (TabOk.cons num3 (by decide) (by decide) lo1 hi1 e13 (TabOk.nil))) (hvv n0 n1)
    ·
      exact case35 (σ := (sg n0 n1)) hL (Known2.nil _) (TabOk.cons num20 (by decide) (by decide) lo0 hi0 e1 (TabOk.cons num3 (by decide) (by decide) lo1 hi1 e13 (TabOk.nil))) (hvv n0 n1)
  ·
    obtain ⟨a14, b14⟩ := Tk.numOf_range n1 3 (by decide)
    have e14 : Tk.numOf n1 3 = 0 ∨ Tk.numOf n1 3 = 1 ∨ Tk.numOf n1 3 = 2 := by omega
    rcases e14 with e14 | e14 | e14
    ·
      exact case36 (σ := (sg n0 n1)) hL (Known2.nil _) (TabOk.cons num20 (by decide) (by decide) lo0 hi0 e1 (TabOk.cons num3 (by decide) (by decide) lo1 hi1 e14 (TabOk.nil))) (hvv n0 n1)
    ·
      exact case37 (σ := (sg n0 n1)) hL (Known2.nil _) (TabOk.cons num20 (by decide) (by decide) lo0 hi0 e1 (TabOk.cons num3 (by decide) (by decide) lo1 hi1 e14 (TabOk.nil))) (hvv n0 n1)
    ·
      exact case38 (σ := (sg n0 n1)) hL (Known2.nil _) (TabOk.cons num20 (by decide) (by decide) lo0 hi0 e1 (TabOk.cons num3 (by decide) (by decide) lo1 hi1 e14 (TabOk.nil))) (hvv n0 n1)
  ·
    obtain ⟨a15, b15⟩ := Tk.numOf_range n1 3 (by decide)
    have e15 : Tk.numOf n1 3 = 0 ∨ Tk.numOf n1 3 = 1 ∨ Tk.numOf n1 3 = 2 := by omega
    rcases e15 with e15 | e15 | e15
    ·
      exact case39 (σ := (sg n0 n1)) hL (Known2.nil _) (TabOk.cons num20 (by decide) (by decide) lo0 hi0 e1 (TabOk.cons num3 (by decide) (by decide) lo1 hi1 e15 (TabOk.nil))) (hvv n0 n1)
    ·
      exact case40 (σ := (sg n0 n1)) hL (Known2.nil _) (TabOk.cons num20 (by decide) (by decide) lo0 hi0 e1 (TabOk.cons num3 (by decide) (by decide) lo1 hi1 e15 (TabOk.nil))) (hvv n0 n1)
    ·
      exact case41 (σ := (sg n0 n1)) hL (Known2.nil _) (TabOk.cons num20 (by decide) (by decide) lo0 hi0 e1 (TabOk.cons num3 (by decide) (by decide) lo1 hi1 e15 (TabOk.nil))) (hvv n0 n1)
  ·
    obtain ⟨a16, b16⟩ := Tk.numOf_range n1 3 (by decide)
    have e16 : Tk.numOf n1 3 = 0 ∨ Tk.numOf n1 3 = 1 ∨ Tk.numOf n1 3 = 2 := by omega
    rcases e16 with e16 | e16 | e16
    ·
      exact case42 (σ := (sg n0 n1)) hL (Known2.nil _) (TabOk.cons num20 (by decide) (by decide) lo0 hi0 e1 (TabOk.cons num3 (by decide) (by decide) lo1 hi1 e16 (TabOk.nil))) (hvv n0 n1)
    ·
      exact case43 (σ := (sg n0 n1)) hL (Known2.nil _) (TabOk.cons num20 (by decide) (by decide) lo0 hi0 e1 (TabOk.cons num3 (by decide) (by decide) lo1 hi1 e16 (TabOk.nil))) (hvv n0 n1)
    ·
      exact case44 (σ := (sg n0 n1)) hL (Known2.nil _) (TabOk.cons num20 (by decide) (by decide) lo0 hi0 e1 (TabOk.cons num3 (by decide) (by decide) lo1 hi1 e16 (TabOk.nil))) (hvv n0 n1)
  ·
    obtain ⟨a17, b17⟩ := Tk.numOf_range n1 3 (by decide)
    have e17 : Tk.numOf n1 3 = 0 ∨ Tk.numOf n1 3 = 1 ∨ Tk.numOf n1 3 = 2 := by omega
    rcases e17 with e17 | e17 | e17
    ·
      exact case45 (σ := (sg n0 n1)) hL (Known2.nil _) (TabOk.cons num20 (by decide) (by decide) lo0 hi0 e1 (TabOk.cons num3 (by decide) (by decide) lo1 hi1 e17 (TabOk.nil))) (hvv n0 n1)
    ·
      exact case46 (σ := (sg n0 n1)) hL (Known2.nil _) (TabOk.cons num20 (by decide) (by decide) lo0 hi0 e1 (TabOk.cons num3 (by decide) (by decide) lo1 hi1 e17 (TabOk.nil))) (hvv n0 n1)
    ·
      exact case47 (σ := (sg n0 n1)) hL (Known2.nil _) (TabOk.cons num20 (by decide) (by decide) lo0 hi0 e1 (TabOk.cons num3 (by decide) (by decide) lo1 hi1 e17 (TabOk.nil))) (hvv n0 n1)
  ·
    obtain ⟨a18, b18⟩ := Tk.numOf_range n1 3 (by decide)
    have e18 : Tk.numOf n1 3 = 0 ∨ Tk.numOf n1 3 = 1 ∨ Tk.numOf n1 3 = 2 := by omega
    rcases e18 with e18 | e18 | e18
    ·
      exact case48 (σ := (sg n0 n1)) hL (Known2.nil _) (TabOk.cons num20 (by decide) (by decide) lo0 hi0 e1 (TabOk.cons num3 (by decide) (by decide) lo1 hi1 e18 (TabOk.nil))) (hvv n0 n1)
    ·
      exact case49 (σ := (sg n0 n1)) hL (Known2.nil _) (TabOk.cons num20 (by decide) (by decide) lo0 hi0 e1 (TabOk.cons num3 (by decide) (by decide) lo1 hi1 e18 (TabOk.nil))) (hvv n0 n1)
    ·
      exact case50 (σ := (sg n0 n1)) hL (Known2.nil _) (TabOk.cons num20 (by decide) (by decide) lo0 hi0 e1 (TabOk.cons num3 (by decide) (by decide) lo1 hi1 e18 (TabOk.nil))) (hvv n0 n1)
  ·
    obtain ⟨a19, b19⟩ := Tk.numOf_range n1 3 (by decide)
    have e19 : Tk.numOf n1 3 = 0 ∨ Tk.numOf n1 3 = 1 ∨ Tk.numOf n1 3 = 2 := by omega
    rcases e19 with e19 | e19 | e19
    ·
      exact case51 (σ := (sg n0 n1)) hL (Known2.nil _) (TabOk.cons num20 (by decide) (by decide) lo0 hi0 e1 (TabOk.cons num3 (by decide) (by decide) lo1 hi1 e19 (TabOk.nil))) (hvv n0 n1)
    ·
      exact case52 (σ := (sg n0 n1)) hL (Known2.nil _) (TabOk.cons num20 (by decide) (by decide) lo0 hi0 e1 (TabOk.cons num3 (by decide) (by decide) lo1 hi1 e19 (TabOk.nil))) (hvv n0 n1)
    ·
      exact case53 (σ := (sg n0 n1)) hL (Known2.nil _) (TabOk.cons num20 (by decide) (by decide) lo0 hi0 e1 (TabOk.cons num3 (by decide) (by decide) lo1 hi1 e19 (TabOk.nil))) (hvv n0 n1)
  ·
    obtain ⟨a20, b20⟩ := Tk.numOf_range n1 3 (by decide)
    have e20 : Tk.numOf n1 3 = 0 ∨ Tk.numOf n1 3 = 1 ∨ Tk.numOf n1 3 = 2 := by omega
    rcases e20 with e20 | e20 | e20
    ·
      exact case54 (σ := (sg n0 n1)) hL (Known2.nil _) (TabOk.cons num20 (by decide) (by decide) lo0 hi0 e1 (TabOk.cons num3 (by decide) (by decide) lo1 hi1 e20 (TabOk.nil))) (hvv n0 n1)
    ·
      exact case55 (σ := (sg n0 n1)) hL (Known2.nil _) (TabOk.cons num20 (by decide) (by decide) lo0 hi0 e1 (TabOk.cons num3 (by decide) (by decide) lo1 hi1 e20 (TabOk.nil))) (hvv n0 n1)
    ·
      exact case56 (σ := (sg n0 n1)) hL (Known2.nil _) (TabOk.cons num20 (by decide) (by decide) lo0 hi0 e1 (TabOk.cons num3 (by decide) (by decide) lo1 hi1 e20 (TabOk.nil))) (hvv n0 n1)
  ·
    obtain ⟨a21, b21⟩ := Tk.numOf_range n1 3 (by decide)
    have e21 : Tk.numOf n1 3 = 0 ∨ Tk.numOf n1 3 = 1 ∨ Tk.numOf n1 3 = 2 := by omega
    rcases e21 with e21 | e21 | e21
    ·
      exact case57 (σ := (sg n0 n1)) hL (Known2.nil _) (TabOk.cons num20 (by decide) (by decide) lo0 hi0 e1 (TabOk.cons num3 (by decide) (by decide) lo1 hi1 e21 (TabOk.nil))) (hvv n0 n1)
    ·
      exact case58 (σ := (sg n0 n1)) hL (Known2.nil _) (TabOk.cons num20 (by decide) (by decide) lo0 hi0 e1 (TabOk.cons num3 (by decide) (by decide) lo1 hi1 e21 (TabOk.nil))) (hvv n0 n1)
    ·
      exact case59 (σ := (sg n0 n1)) hL (Known2.nil _) (TabOk.cons num20 (by decide) (by decide) lo0 hi0 e1 (TabOk.cons num3 (by decide) (by decide) lo1 hi1 e21 (TabOk.nil))) (hvv n0 n1)
theorem contract (H : Type) (enc : TypeId × Value → H) (W : World) (base : Nat) (args : Array Value) (ds gs : List (DataW H)) (before : List MemPlace)
    (hval : ∀ (j : Nat) t v, Tryz.f5.params[j]? = some t → args[j]? = some v → Value.okWide Tryz.prog W .any base t v)
    (hW : DataW.Whole enc Tryz.prog Tryz.f5.params.toList Rows.worldEndsSpec.vars false W args.toList ds gs before) (hL : laidMetH Tryz.prog Rows.worldEndsRow.laid W) :
    Calls Tryz.prog 5 args W fun e W' => ∃ v, e = .returned v ∧ Rows.worldEndsSpec.post enc Tryz.prog Tryz.f5 false true false false W args v W' := by
  have hW' := hW
  obtain ⟨p, q, hA0, hV, rfl, hfz, hnd⟩ := hW
  have hA : DataW.TrodAll enc Tryz.prog W 0 (fun _ => true) true Tryz.f5.params.toList args.toList ds p := hA0
  rw [Tryz.params5] at hA hval
  obtain ⟨v0, vs0, d0, ds0, p0, q0, hargs, rfl, rfl, h0, r0⟩ := trodAll_cons hA
  obtain ⟨v1, vs1, d1, ds1, p1, q1, rfl, rfl, rfl, h1, r1⟩ := trodAll_cons r0
  obtain ⟨rfl, rfl, rfl⟩ := trodAll_nil r1
  obtain rfl : args = #[v0, v1] := by cases args; simp_all
  obtain ⟨rfl, rfl⟩ := trodVars_none hV
  obtain ⟨n0, rfl, rfl, rfl, hn0⟩ := open_int Tryz.underlying3 (hval 0 3 v0 rfl rfl) h0
  obtain ⟨n1, rfl, rfl, rfl, hn1⟩ := open_int Tryz.underlying3 (hval 1 3 v1 rfl rfl) h1
  clear hA0
  simp only [List.append_nil] at hW'
  refine (walk W n0 hn0 n1 hn1 hL).mono fun e W' hh => ?_
  obtain ⟨he, hg⟩ := hh
  subst he
  exact ⟨_, rfl, _, _, _, [], [], [], hW', trodAll_cons_mk (shut_bool Tryz.underlying4 _) trodAll_mk0, trodAll_cons_mk (shut_int Tryz.underlying3 hn0) (trodAll_cons_mk (shut_int Tryz.underlying3 hn1) trodAll_mk0), rfl, hg.frame _, fun h => Bool.noConfusion h⟩
theorem laid_met (os : Os) : laidMetH Tryz.prog Rows.worldEndsRow.laid ((World.laidAll Tryz.prog os Rows.worldEndsRow.laid).forCall (fun _ _ => 0) ⟨#[], #[.int .i64 0, .int .i64 0], []⟩).memory := by
  rw [MakeChecks.laidMetH_plain _ _ _ (by kernel_rfl)]
  exact laidMet_laidAll _ (by kernel_rfl) (by kernel_rfl)
theorem reads (os : Os) {H : Type} (enc : TypeId × Value → H) : ∃ places, DataW.whole enc Tryz.prog ((World.laidAll Tryz.prog os Rows.worldEndsRow.laid).forCall (fun _ _ => 0) ⟨#[], #[.int .i64 0, .int .i64 0], []⟩).memory Tryz.f5.params.toList Rows.worldEndsSpec.vars false #[Value.int .i64 0, .int .i64 0].toList 8 = some ([.lit (.int .i64 0), .lit (.int .i64 0)], [], places) :=
  ⟨[], by kernel_rfl⟩
theorem lifted (os : Os) (started : os.Started) (H : Type) (enc : TypeId × Value → H) (F : Stop.Interp) :
    ReturnsInHanded {} Tryz.checked os 5 .any ((OpenSpec.ofChange Rows.worldEndsSpec).preRow enc Tryz.prog Tryz.f5 Rows.worldEndsRow.domain false Rows.worldEndsRow.laid) (((OpenSpec.ofChange Rows.worldEndsSpec).at F).post enc Tryz.prog Tryz.f5 false true false false) := by
  obtain ⟨places, hx⟩ := reads os enc
  refine returnsInHanded_of_row (C := Tryz.checked) (s := OpenSpec.ofChange Rows.worldEndsSpec) own started (by kernel_rfl) Tryz.func5
    (witness_row_atRef (enc := enc) (C := Tryz.checked) false (World.laidAll Tryz.prog os Rows.worldEndsRow.laid) #[.int .i64 0, .int .i64 0] (World.laidAll_os _ _ _) (by kernel_rfl) (by kernel_rfl) (by kernel_rfl)
      (OpenSpec.preRow_of_cond 8 hx (by kernel_rfl) (fun k hk => by cases hk) (by kernel_rfl) (laid_met os))) ?_
  intro W base args ds gs before hval hW _ _ _ hL _ _
  exact contract H enc W base args ds gs before hval hW hL
set_option maxHeartbeats 4000000 in
theorem joined : joinedFacts Tryz.pinned.checked.prog 5 Tryz.f5 (OpenSpec.ofChange Rows.worldEndsSpec).bare Rows.worldEndsRow = true := by
  unfold joinedFacts
  simp only [Bool.and_eq_true]
  repeat' apply And.intro
  all_goals (as_aux_lemma => kernel_rfl)
theorem said : Rows.WorldEndsSaid :=
  OpenClaim.holds_of_cond 5 Tryz.f5 rfl rfl rfl rfl rfl rfl rfl ⟨rfl, rfl, rfl, rfl, rfl⟩ rfl rfl rfl rfl rfl (by kernel_rfl) Tryz.func5 joined
    (of_decide_eq_true (by kernel_rfl)) (by unfold Func.isWrapper; first | (rw [if_pos (by decide +kernel)]; kernel_rfl) | (rw [if_neg (by decide +kernel)]; exact ⟨rfl, rfl⟩))
    (fun os started H enc _ F => by rw [OpenClaim.pre_eq_preRow]; exact lifted os started H enc F)
theorem plain (f : FuncId) (fn : Func) (hf : Tryz.pinned.checked.prog.funcNamed "turnkey/turnkeylaw27.WorldEnds" = some f) (hfn : Tryz.pinned.checked.prog.funcs[f]? = some fn) :
    true = Tryz.pinned.checked.prog.looks [] ∧ ∀ (j : Nat) t, fn.params[j]? = some t → Tryz.pinned.checked.prog.wantsStandIn t = false := by
  obtain rfl : f = 5 := Option.some.inj ((show Tryz.prog.funcNamed "turnkey/turnkeylaw27.WorldEnds" = some 5 by kernel_rfl).symm.trans hf) |>.symm
  obtain rfl : fn = Tryz.f5 := (Option.some.inj (Tryz.func5.symm.trans hfn)).symm
  refine ⟨by kernel_rfl, fun j t ht => ?_⟩
  rw [Tryz.params5] at ht
  have hm := Array.mem_of_getElem? ht
  have hall : ∀ t, t ∈ #[(3 : TypeId), (3 : TypeId)] → Tryz.prog.wantsStandIn t = false := by
    intro t h
    simp only [List.mem_toArray, List.mem_cons, List.not_mem_nil, or_false] at h
    rcases h with rfl | rfl
    · exact (show Tryz.prog.wantsStandIn 3 = false by kernel_rfl)
    · exact (show Tryz.prog.wantsStandIn 3 = false by kernel_rfl)
  exact hall t hm
theorem card : Rows.WorldEndsCardSaid :=
  Claim7.holds_tied_plain_at .later [] _ _ _ _ said (fun _ h => by cases h) (by as_aux_lemma => kernel_rfl) (fun _ h => by cases h) worldEnds_row_tie rfl ⟨rfl, rfl⟩ (by as_aux_lemma => kernel_rfl) rfl plain (by as_aux_lemma => kernel_rfl)
end Go.Proofs.YtmafpninhndlnaaGreatDoor.worldEnds
