/- AsmWrong returns true for every input, and the input reads as it did; the listed errors hold what the program text lays. -/
import Derived.Test.YtnedpimammoekaaDoorAwK0
import Derived.Deep.DeepWitnessRowRef
import Derived.Lay
set_option linter.unusedVariables false
set_option linter.unusedSimpArgs false
set_option maxRecDepth 10000000
namespace Go.Proofs.YtnedpimammoekaaDoor.asmWrong
open Tk
open Go.ChangeShapes Go.WideShapes Go.ChangeAt Go.RowKit

theorem own : ownKnob Tryd.prog.godebug = none := by kernel_rfl
def sg (n0 : Int) : Nat → Int := fun i => if i = 0 then n0 else 0
theorem hvv (n0 : Int) : ∀ ρ, VRs (sg n0) ρ [.int .i64 (.var 0)] (#[.int .i64 n0] : Array Go.Value).toList := fun ρ => VRs.cons (by simp [VR, E.den, sg]) (VRs.nil)
theorem walk (W : World) (n0 : Int) (hn0 : (Lit.int .i64 n0).wf = true) (hL : laidMetH Tryd.prog Rows.asmWrongRow.laid W) : Calls Tryd.prog 3 #[.int .i64 n0] W fun e w' => e = .returned (.bool true) ∧ Below W.heap.size W w' := by
  simp only [Lit.wf, Bool.and_eq_true, decide_eq_true_eq] at hn0
  have lo0 : -9223372036854775808 ≤ n0 := hn0.1
  have hi0 : n0 ≤ 9223372036854775807 := hn0.2
  obtain ⟨a1, b1⟩ := Tk.numOf_range n0 10 (by decide)
  have e1 : Tk.numOf n0 10 = 0 ∨ Tk.numOf n0 10 = 1 ∨ Tk.numOf n0 10 = 2 ∨ Tk.numOf n0 10 = 3 ∨ Tk.numOf n0 10 = 4 ∨ Tk.numOf n0 10 = 5 ∨ Tk.numOf n0 10 = 6 ∨ Tk.numOf n0 10 = 7 ∨ Tk.numOf n0 10 = 8 ∨ Tk.numOf n0 10 = 9 := by omega
  rcases e1 with e1 | e1 | e1 | e1 | e1 | e1 | e1 | e1 | e1 | e1
  ·
    obtain ⟨a2, b2⟩ := Tk.numOf_range n0 7 (by decide)
    have e2 : Tk.numOf n0 7 = 0 ∨ Tk.numOf n0 7 = 1 ∨ Tk.numOf n0 7 = 2 ∨ Tk.numOf n0 7 = 3 ∨ Tk.numOf n0 7 = 4 ∨ Tk.numOf n0 7 = 5 ∨ Tk.numOf n0 7 = 6 := by omega
    rcases e2 with e2 | e2 | e2 | e2 | e2 | e2 | e2
    ·
      exact case0 (σ := (sg n0)) hL (Known2.nil _) (TabOk.cons num10 (by decide) (by decide) lo0 hi0 e1 (TabOk.cons num7 (by decide) (by decide) lo0 hi0 e2 (TabOk.nil))) (hvv n0)
    ·
      exact case1 (σ := (sg n0)) hL (Known2.nil _) (TabOk.cons num10 (by decide) (by decide) lo0 hi0 e1 (TabOk.cons num7 (by decide) (by decide) lo0 hi0 e2 (TabOk.nil))) (hvv n0)
    ·
      exact case2 (σ := (sg n0)) hL (Known2.nil _) (TabOk.cons num10 (by decide) (by decide) lo0 hi0 e1 (TabOk.cons num7 (by decide) (by decide) lo0 hi0 e2 (TabOk.nil))) (hvv n0)
    ·
      exact case3 (σ := (sg n0)) hL (Known2.nil _) (TabOk.cons num10 (by decide) (by decide) lo0 hi0 e1 (TabOk.cons num7 (by decide) (by decide) lo0 hi0 e2 (TabOk.nil))) (hvv n0)
    ·
      exact case4 (σ := (sg n0)) hL (Known2.nil _) (TabOk.cons num10 (by decide) (by decide) lo0 hi0 e1 (TabOk.cons num7 (by decide) (by decide) lo0 hi0 e2 (TabOk.nil))) (hvv n0)
    ·
      exact case5 (σ := (sg n0)) hL (Known2.nil _) (TabOk.cons num10 (by decide) (by decide) lo0 hi0 e1 (TabOk.cons num7 (by decide) (by decide) lo0 hi0 e2 (TabOk.nil))) (hvv n0)
    ·
      exact case6 (σ := (sg n0)) hL (Known2.nil _) (TabOk.cons num10 (by decide) (by decide) lo0 hi0 e1 (TabOk.cons num7 (by decide) (by decide) lo0 hi0 e2 (TabOk.nil))) (hvv n0)
  ·
    obtain ⟨a3, b3⟩ := Tk.numOf_range n0 7 (by decide)
    have e3 : Tk.numOf n0 7 = 0 ∨ Tk.numOf n0 7 = 1 ∨ Tk.numOf n0 7 = 2 ∨ Tk.numOf n0 7 = 3 ∨ Tk.numOf n0 7 = 4 ∨ Tk.numOf n0 7 = 5 ∨ Tk.numOf n0 7 = 6 := by omega
    rcases e3 with e3 | e3 | e3 | e3 | e3 | e3 | e3
    ·
      exact case7 (σ := (sg n0)) hL (Known2.nil _) (TabOk.cons num10 (by decide) (by decide) lo0 hi0 e1 (TabOk.cons num7 (by decide) (by decide) lo0 hi0 e3 (TabOk.nil))) (hvv n0)
    ·
      exact case8 (σ := (sg n0)) hL (Known2.nil _) (TabOk.cons num10 (by decide) (by decide) lo0 hi0 e1 (TabOk.cons num7 (by decide) (by decide) lo0 hi0 e3 (TabOk.nil))) (hvv n0)
    ·
      exact case9 (σ := (sg n0)) hL (Known2.nil _) (TabOk.cons num10 (by decide) (by decide) lo0 hi0 e1 (TabOk.cons num7 (by decide) (by decide) lo0 hi0 e3 (TabOk.nil))) (hvv n0)
    ·
      exact case10 (σ := (sg n0)) hL (Known2.nil _) (TabOk.cons num10 (by decide) (by decide) lo0 hi0 e1 (TabOk.cons num7 (by decide) (by decide) lo0 hi0 e3 (TabOk.nil))) (hvv n0)
    ·
      exact case11 (σ := (sg n0)) hL (Known2.nil _) (TabOk.cons num10 (by decide) (by decide) lo0 hi0 e1 (TabOk.cons num7 (by decide) (by decide) lo0 hi0 e3 (TabOk.nil))) (hvv n0)
    ·
      exact case12 (σ := (sg n0)) hL (Known2.nil _) (TabOk.cons num10 (by decide) (by decide) lo0 hi0 e1 (TabOk.cons num7 (by decide) (by decide) lo0 hi0 e3 (TabOk.nil))) (hvv n0)
    ·
      exact case13 (σ := (sg n0)) hL (Known2.nil _) (TabOk.cons num10 (by decide) (by decide) lo0 hi0 e1 (TabOk.cons num7 (by decide) (by decide) lo0 hi0 e3 (TabOk.nil))) (hvv n0)
  ·
    obtain ⟨a4, b4⟩ := Tk.numOf_range n0 7 (by decide)
    have e4 : Tk.numOf n0 7 = 0 ∨ Tk.numOf n0 7 = 1 ∨ Tk.numOf n0 7 = 2 ∨ Tk.numOf n0 7 = 3 ∨ Tk.numOf n0 7 = 4 ∨ Tk.numOf n0 7 = 5 ∨ Tk.numOf n0 7 = 6 := by omega
    rcases e4 with e4 | e4 | e4 | e4 | e4 | e4 | e4
    ·
      exact case14 (σ := (sg n0)) hL (Known2.nil _) (TabOk.cons num10 (by decide) (by decide) lo0 hi0 e1 (TabOk.cons num7 (by decide) (by decide) lo0 hi0 e4 (TabOk.nil))) (hvv n0)
    ·
      exact case15 (σ := (sg n0)) hL (Known2.nil _) (TabOk.cons num10 (by decide) (by decide) lo0 hi0 e1 (TabOk.cons num7 (by decide) (by decide) lo0 hi0 e4 (TabOk.nil))) (hvv n0)
    ·
      exact case16 (σ := (sg n0)) hL (Known2.nil _) (TabOk.cons num10 (by decide) (by decide) lo0 hi0 e1 (TabOk.cons num7 (by decide) (by decide) lo0 hi0 e4 (TabOk.nil))) (hvv n0)
    ·
      exact case17 (σ := (sg n0)) hL (Known2.nil _) (TabOk.cons num10 (by decide) (by decide) lo0 hi0 e1 (TabOk.cons num7 (by decide) (by decide) lo0 hi0 e4 (TabOk.nil))) (hvv n0)
    ·
      exact case18 (σ := (sg n0)) hL (Known2.nil _) (TabOk.cons num10 (by decide) (by decide) lo0 hi0 e1 (TabOk.cons num7 (by decide) (by decide) lo0 hi0 e4 (TabOk.nil))) (hvv n0)
    ·
      exact case19 (σ := (sg n0)) hL (Known2.nil _) (TabOk.cons num10 (by decide) (by decide) lo0 hi0 e1 (TabOk.cons num7 (by decide) (by decide) lo0 hi0 e4 (TabOk.nil))) (hvv n0)
    ·
      exact case20 (σ := (sg n0)) hL (Known2.nil _) (TabOk.cons num10 (by decide) (by decide) lo0 hi0 e1 (TabOk.cons num7 (by decide) (by decide) lo0 hi0 e4 (TabOk.nil))) (hvv n0)
  ·
    obtain ⟨a5, b5⟩ := Tk.numOf_range n0 7 (by decide)
    have e5 : Tk.numOf n0 7 = 0 ∨ Tk.numOf n0 7 = 1 ∨ Tk.numOf n0 7 = 2 ∨ Tk.numOf n0 7 = 3 ∨ Tk.numOf n0 7 = 4 ∨ Tk.numOf n0 7 = 5 ∨ Tk.numOf n0 7 = 6 := by omega
    rcases e5 with e5 | e5 | e5 | e5 | e5 | e5 | e5
    ·
      exact case21 (σ := (sg n0)) hL (Known2.nil _) (TabOk.cons num10 (by decide) (by decide) lo0 hi0 e1 (TabOk.cons num7 (by decide) (by decide) lo0 hi0 e5 (TabOk.nil))) (hvv n0)
    ·
      exact case22 (σ := (sg n0)) hL (Known2.nil _) (TabOk.cons num10 (by decide) (by decide) lo0 hi0 e1 (TabOk.cons num7 (by decide) (by decide) lo0 hi0 e5 (TabOk.nil))) (hvv n0)
    ·
      exact case23 (σ := (sg n0)) hL (Known2.nil _) (TabOk.cons num10 (by decide) (by decide) lo0 hi0 e1 (TabOk.cons num7 (by decide) (by decide) lo0 hi0 e5 (TabOk.nil))) (hvv n0)
    ·
      exact case24 (σ := (sg n0)) hL (Known2.nil _) (TabOk.cons num10 (by decide) (by decide) lo0 hi0 e1 (TabOk.cons num7 (by decide) (by decide) lo0 hi0 e5 (TabOk.nil))) (hvv n0)
    ·
      exact case25 (σ := (sg n0)) hL (Known2.nil _) (TabOk.cons num10 (by decide) (by decide) lo0 hi0 e1 (TabOk.cons num7 (by decide) (by decide) lo0 hi0 e5 (TabOk.nil))) (hvv n0)
    ·
      exact case26 (σ := (sg n0)) hL (Known2.nil _) (TabOk.cons num10 (by decide) (by decide) lo0 hi0 e1 (TabOk.cons num7 (by decide) (by decide) lo0 hi0 e5 (TabOk.nil))) (hvv n0)
    ·
      exact case27 (σ := (sg n0)) hL (Known2.nil _) (TabOk.cons num10 (by decide) (by decide) lo0 hi0 e1 (TabOk.cons num7 (by decide) (by decide) lo0 hi0 e5 (TabOk.nil))) (hvv n0)
  ·
    obtain ⟨a6, b6⟩ := Tk.numOf_range n0 7 (by decide)
    have e6 : Tk.numOf n0 7 = 0 ∨ Tk.numOf n0 7 = 1 ∨ Tk.numOf n0 7 = 2 ∨ Tk.numOf n0 7 = 3 ∨ Tk.numOf n0 7 = 4 ∨ Tk.numOf n0 7 = 5 ∨ Tk.numOf n0 7 = 6 := by omega
    rcases e6 with e6 | e6 | e6 | e6 | e6 | e6 | e6
    ·
      exact case28 (σ := (sg n0)) hL (Known2.nil _) (TabOk.cons num10 (by decide) (by decide) lo0 hi0 e1 (TabOk.cons num7 (by decide) (by decide) lo0 hi0 e6 (TabOk.nil))) (hvv n0)
    ·
      exact case29 (σ := (sg n0)) hL (Known2.nil _) (TabOk.cons num10 (by decide) (by decide) lo0 hi0 e1 (TabOk.cons num7 (by decide) (by decide) lo0 hi0 e6 (TabOk.nil))) (hvv n0)
    ·
      exact case30 (σ := (sg n0)) hL (Known2.nil _) (TabOk.cons num10 (by decide) (by decide) lo0 hi0 e1 (TabOk.cons num7 (by decide) (by decide) lo0 hi0 e6 (TabOk.nil))) (hvv n0)
    ·
      exact case31 (σ := (sg n0)) hL (Known2.nil _) (TabOk.cons num10 (by decide) (by decide) lo0 hi0 e1 (TabOk.cons num7 (by decide) (by decide) lo0 hi0 e6 (TabOk.nil))) (hvv n0)
    ·
      exact case32 (σ := (sg n0)) hL (Known2.nil _) (TabOk.cons num10 (by decide) (by decide) lo0 hi0 e1 (TabOk.cons num7 (by decide) (by decide) lo0 hi0 e6 (TabOk.nil))) (hvv n0)
    ·
      exact case33 (σ := (sg n0)) hL (Known2.nil _) (TabOk.cons num10 (by decide) (by decide) lo0 hi0 e1 (TabOk.cons num7 (by decide) (by decide) lo0 hi0 e6 (TabOk.nil))) (hvv n0)
    ·
      exact case34 (σ := (sg n0)) hL (Known2.nil _) (TabOk.cons num10 (by decide) (by decide) lo0 hi0 e1 (TabOk.cons num7 (by decide) (by decide) lo0 hi0 e6 (TabOk.nil))) (hvv n0)
  ·
    obtain ⟨a7, b7⟩ := Tk.numOf_range n0 7 (by decide)
    have e7 : Tk.numOf n0 7 = 0 ∨ Tk.numOf n0 7 = 1 ∨ Tk.numOf n0 7 = 2 ∨ Tk.numOf n0 7 = 3 ∨ Tk.numOf n0 7 = 4 ∨ Tk.numOf n0 7 = 5 ∨ Tk.numOf n0 7 = 6 := by omega
    rcases e7 with e7 | e7 | e7 | e7 | e7 | e7 | e7
    ·
      exact case35 (σ := (sg n0)) hL (Known2.nil _) (TabOk.cons num10 (by decide) (by decide) lo0 hi0 e1 (TabOk.cons num7 (by decide) (by decide) lo0 hi0 e7 (TabOk.nil))) (hvv n0)
    ·
      exact case36 (σ := (sg n0)) hL (Known2.nil _) (TabOk.cons num10 (by decide) (by decide) lo0 hi0 e1 (TabOk.cons num7 (by decide) (by decide) lo0 hi0 e7 (TabOk.nil))) (hvv n0)
    ·
      exact case37 (σ := (sg n0)) hL (Known2.nil _) (TabOk.cons num10 (by decide) (by decide) lo0 hi0 e1 (TabOk.cons num7 (by decide) (by decide) lo0 hi0 e7 (TabOk.nil))) (hvv n0)
    ·
      exact case38 (σ := (sg n0)) hL (Known2.nil _) (TabOk.cons num10 (by decide) (by decide) lo0 hi0 e1 (TabOk.cons num7 (by decide) (by decide) lo0 hi0 e7 (TabOk.nil))) (hvv n0)
    ·
      exact case39 (σ := (sg n0)) hL (Known2.nil _) (TabOk.cons num10 (by decide) (by decide) lo0 hi0 e1 (TabOk.cons num7 (by decide) (by decide) lo0 hi0 e7 (TabOk.nil))) (hvv n0)
    ·
      exact case40 (σ := (sg n0)) hL (Known2.nil _) (TabOk.cons num10 (by decide) (by decide) lo0 hi0 e1 (TabOk.cons num7 (by decide) (by decide) lo0 hi0 e7 (TabOk.nil))) (hvv n0)
    ·
      exact case41 (σ := (sg n0)) hL (Known2.nil _) (TabOk.cons num10 (by decide) (by decide) lo0 hi0 e1 (TabOk.cons num7 (by decide) (by decide) lo0 hi0 e7 (TabOk.nil))) (hvv n0)
  ·
    obtain ⟨a8, b8⟩ := Tk.numOf_range n0 7 (by decide)
    have e8 : Tk.numOf n0 7 = 0 ∨ Tk.numOf n0 7 = 1 ∨ Tk.numOf n0 7 = 2 ∨ Tk.numOf n0 7 = 3 ∨ Tk.numOf n0 7 = 4 ∨ Tk.numOf n0 7 = 5 ∨ Tk.numOf n0 7 = 6 := by omega
    rcases e8 with e8 | e8 | e8 | e8 | e8 | e8 | e8
    ·
      exact case42 (σ := (sg n0)) hL (Known2.nil _) (TabOk.cons num10 (by decide) (by decide) lo0 hi0 e1 (TabOk.cons num7 (by decide) (by decide) lo0 hi0 e8 (TabOk.nil))) (hvv n0)
    ·
      exact case43 (σ := (sg n0)) hL (Known2.nil _) (TabOk.cons num10 (by decide) (by decide) lo0 hi0 e1 (TabOk.cons num7 (by decide) (by decide) lo0 hi0 e8 (TabOk.nil))) (hvv n0)
    ·
      exact case44 (σ := (sg n0)) hL (Known2.nil _) (TabOk.cons num10 (by decide) (by decide) lo0 hi0 e1 (TabOk.cons num7 (by decide) (by decide) lo0 hi0 e8 (TabOk.nil))) (hvv n0)
    ·
      exact case45 (σ := (sg n0)) hL (Known2.nil _) (TabOk.cons num10 (by decide) (by decide) lo0 hi0 e1 (TabOk.cons num7 (by decide) (by decide) lo0 hi0 e8 (TabOk.nil))) (hvv n0)
    ·
      exact case46 (σ := (sg n0)) hL (Known2.nil _) (TabOk.cons num10 (by decide) (by decide) lo0 hi0 e1 (TabOk.cons num7 (by decide) (by decide) lo0 hi0 e8 (TabOk.nil))) (hvv n0)
    ·
      exact case47 (σ := (sg n0)) hL (Known2.nil _) (TabOk.cons num10 (by decide) (by decide) lo0 hi0 e1 (TabOk.cons num7 (by decide) (by decide) lo0 hi0 e8 (TabOk.nil))) (hvv n0)
    ·
      exact case48 (σ := (sg n0)) hL (Known2.nil _) (TabOk.cons num10 (by decide) (by decide) lo0 hi0 e1 (TabOk.cons num7 (by decide) (by decide) lo0 hi0 e8 (TabOk.nil))) (hvv n0)
  ·
    obtain ⟨a9, b9⟩ := Tk.numOf_range n0 7 (by decide)
    have e9 : Tk.numOf n0 7 = 0 ∨ Tk.numOf n0 7 = 1 ∨ Tk.numOf n0 7 = 2 ∨ Tk.numOf n0 7 = 3 ∨ Tk.numOf n0 7 = 4 ∨ Tk.numOf n0 7 = 5 ∨ Tk.numOf n0 7 = 6 := by omega
    rcases e9 with e9 | e9 | e9 | e9 | e9 | e9 | e9
    ·
      exact case49 (σ := (sg n0)) hL (Known2.nil _) (TabOk.cons num10 (by decide) (by decide) lo0 hi0 e1 (TabOk.cons num7 (by decide) (by decide) lo0 hi0 e9 (TabOk.nil))) (hvv n0)
    ·
      exact case50 (σ := (sg n0)) hL (Known2.nil _) (TabOk.cons num10 (by decide) (by decide) lo0 hi0 e1 (TabOk.cons num7 (by decide) (by decide) lo0 hi0 e9 (TabOk.nil))) (hvv n0)
    ·
      exact case51 (σ := (sg n0)) hL (Known2.nil _) (TabOk.cons num10 (by decide) (by decide) lo0 hi0 e1 (TabOk.cons num7 (by decide) (by decide) lo0 hi0 e9 (TabOk.nil))) (hvv n0)
    ·
      exact case52 (σ := (sg n0)) hL (Known2.nil _) (TabOk.cons num10 (by decide) (by decide) lo0 hi0 e1 (TabOk.cons num7 (by decide) (by decide) lo0 hi0 e9 (TabOk.nil))) (hvv n0)
    ·
      exact case53 (σ := (sg n0)) hL (Known2.nil _) (TabOk.cons num10 (by decide) (by decide) lo0 hi0 e1 (TabOk.cons num7 (by decide) (by decide) lo0 hi0 e9 (TabOk.nil))) (hvv n0)
    ·
      exact case54 (σ := (sg n0)) hL (Known2.nil _) (TabOk.cons num10 (by decide) (by decide) lo0 hi0 e1 (TabOk.cons num7 (by decide) (by decide) lo0 hi0 e9 (TabOk.nil))) (hvv n0)
    ·
      exact case55 (σ := (sg n0)) hL (Known2.nil _) (TabOk.cons num10 (by decide) (by decide) lo0 hi0 e1 (TabOk.cons num7 (by decide) (by decide) lo0 hi0 e9 (TabOk.nil))) (hvv n0)
  ·
    obtain ⟨a10, b10⟩ := Tk.numOf_range n0 7 (by decide)
    have e10 : Tk.numOf n0 7 = 0 ∨ Tk.numOf n0 7 = 1 ∨ Tk.numOf n0 7 = 2 ∨ Tk.numOf n0 7 = 3 ∨ Tk.numOf n0 7 = 4 ∨ Tk.numOf n0 7 = 5 ∨ Tk.numOf n0 7 = 6 := by omega
    rcases e10 with e10 | e10 | e10 | e10 | e10 | e10 | e10
    ·
      exact case56 (σ := (sg n0)) hL (Known2.nil _) (TabOk.cons num10 (by decide) (by decide) lo0 hi0 e1 (TabOk.cons num7 (by decide) (by decide) lo0 hi0 e10 (TabOk.nil))) (hvv n0)
    ·
      exact case57 (σ := (sg n0)) hL (Known2.nil _) (TabOk.cons num10 (by decide) (by decide) lo0 hi0 e1 (TabOk.cons num7 (by decide) (by decide) lo0 hi0 e10 (TabOk.nil))) (hvv n0)
    ·
      exact case58 (σ := (sg n0)) hL (Known2.nil _) (TabOk.cons num10 (by decide) (by decide) lo0 hi0 e1 (TabOk.cons num7 (by decide) (by decide) lo0 hi0 e10 (TabOk.nil))) (hvv n0)
    ·
      exact case59 (σ := (sg n0)) hL (Known2.nil _) (TabOk.cons num10 (by decide) (by decide) lo0 hi0 e1 (TabOk.cons num7 (by decide) (by decide) lo0 hi0 e10 (TabOk.nil))) (hvv n0)
    ·
      exact case60 (σ := (sg n0)) hL (Known2.nil _) (TabOk.cons num10 (by decide) (by decide) lo0 hi0 e1 (TabOk.cons num7 (by decide) (by decide) lo0 hi0 e10 (TabOk.nil))) (hvv n0)
    ·
      exact case61 (σ := (sg n0)) hL (Known2.nil _) (TabOk.cons num10 (by decide) (by decide) lo0 hi0 e1 (TabOk.cons num7 (by decide) (by decide) lo0 hi0 e10 (TabOk.nil))) (hvv n0)
    ·
      exact case62 (σ := (sg n0)) hL (Known2.nil _) (TabOk.cons num10 (by decide) (by decide) lo0 hi0 e1 (TabOk.cons num7 (by decide) (by decide) lo0 hi0 e10 (TabOk.nil))) (hvv n0)
  ·
    obtain ⟨a11, b11⟩ := Tk.numOf_range n0 7 (by decide)
    have e11 : Tk.numOf n0 7 = 0 ∨ Tk.numOf n0 7 = 1 ∨ Tk.numOf n0 7 = 2 ∨ Tk.numOf n0 7 = 3 ∨ Tk.numOf n0 7 = 4 ∨ Tk.numOf n0 7 = 5 ∨ Tk.numOf n0 7 = 6 := by omega
    rcases e11 with e11 | e11 | e11 | e11 | e11 | e11 | e11
    ·
      exact case63 (σ := (sg n0)) hL (Known2.nil _) (TabOk.cons num10 (by decide) (by decide) lo0 hi0 e1 (TabOk.cons num7 (by decide) (by decide) lo0 hi0 e11 (TabOk.nil))) (hvv n0)
    ·
      exact case64 (σ := (sg n0)) hL (Known2.nil _) (TabOk.cons num10 (by decide) (by decide) lo0 hi0 e1 (TabOk.cons num7 (by decide) (by decide) lo0 hi0 e11 (TabOk.nil))) (hvv n0)
    ·
      exact case65 (σ := (sg n0)) hL (Known2.nil _) (TabOk.cons num10 (by decide) (by decide) lo0 hi0 e1 (TabOk.cons num7 (by decide) (by decide) lo0 hi0 e11 (TabOk.nil))) (hvv n0)
    ·
      exact case66 (σ := (sg n0)) hL (Known2.nil _) (TabOk.cons num10 (by decide) (by decide) lo0 hi0 e1 (TabOk.cons num7 (by decide) (by decide) lo0 hi0 e11 (TabOk.nil))) (hvv n0)
    ·
      exact case67 (σ := (sg n0)) hL (Known2.nil _) (TabOk.cons num10 (by decide) (by decide) lo0 hi0 e1 (TabOk.cons num7 (by decide) (by decide) lo0 hi0 e11 (TabOk.nil))) (hvv n0)
    ·
      exact case68 (σ := (sg n0)) hL (Known2.nil _) (TabOk.cons num10 (by decide) (by decide) lo0 hi0 e1 (TabOk.cons num7 (by decide) (by decide) lo0 hi0 e11 (TabOk.nil))) (hvv n0)
    ·
      exact case69 (σ := (sg n0)) hL (Known2.nil _) (TabOk.cons num10 (by decide) (by decide) lo0 hi0 e1 (TabOk.cons num7 (by decide) (by decide) lo0 hi0 e11 (TabOk.nil))) (hvv n0)
theorem contract (H : Type) (enc : TypeId × Value → H) (W : World) (base : Nat) (args : Array Value) (ds gs : List (DataW H)) (before : List MemPlace)
    (hval : ∀ (j : Nat) t v, Tryd.f3.params[j]? = some t → args[j]? = some v → Value.okWide Tryd.prog W .any base t v)
    (hW : DataW.Whole enc Tryd.prog Tryd.f3.params.toList Rows.asmWrongSpec.vars false W args.toList ds gs before) (hL : laidMetH Tryd.prog Rows.asmWrongRow.laid W) :
    Calls Tryd.prog 3 args W fun e W' => ∃ v, e = .returned v ∧ Rows.asmWrongSpec.post enc Tryd.prog Tryd.f3 false true false false W args v W' := by
  have hW' := hW
  obtain ⟨p, q, hA0, hV, rfl, hfz, hnd⟩ := hW
  have hA : DataW.TrodAll enc Tryd.prog W 0 (fun _ => true) true Tryd.f3.params.toList args.toList ds p := hA0
  rw [Tryd.params3] at hA hval
  obtain ⟨v0, vs0, d0, ds0, p0, q0, hargs, rfl, rfl, h0, r0⟩ := trodAll_cons hA
  obtain ⟨rfl, rfl, rfl⟩ := trodAll_nil r0
  obtain rfl : args = #[v0] := by cases args; simp_all
  obtain ⟨rfl, rfl⟩ := trodVars_none hV
  obtain ⟨n0, rfl, rfl, rfl, hn0⟩ := open_int Tryd.underlying3 (hval 0 3 v0 rfl rfl) h0
  clear hA0
  simp only [List.append_nil] at hW'
  refine (walk W n0 hn0 hL).mono fun e W' hh => ?_
  obtain ⟨he, hg⟩ := hh
  subst he
  exact ⟨_, rfl, _, _, _, [], [], [], hW', trodAll_cons_mk (shut_bool Tryd.underlying4 _) trodAll_mk0, trodAll_cons_mk (shut_int Tryd.underlying3 hn0) trodAll_mk0, rfl, hg.frame _, fun h => Bool.noConfusion h⟩
theorem laid_met (os : Os) : laidMetH Tryd.prog Rows.asmWrongRow.laid ((World.laidAll Tryd.prog os Rows.asmWrongRow.laid).forCall (fun _ _ => 0) ⟨#[], #[.int .i64 0], []⟩).memory := by
  rw [MakeChecks.laidMetH_plain _ _ _ (by kernel_rfl)]
  exact laidMet_laidAll _ (by kernel_rfl) (by kernel_rfl)
theorem reads (os : Os) {H : Type} (enc : TypeId × Value → H) : ∃ places, DataW.whole enc Tryd.prog ((World.laidAll Tryd.prog os Rows.asmWrongRow.laid).forCall (fun _ _ => 0) ⟨#[], #[.int .i64 0], []⟩).memory Tryd.f3.params.toList Rows.asmWrongSpec.vars false #[Value.int .i64 0].toList 8 = some ([.lit (.int .i64 0)], [], places) :=
  ⟨[], by kernel_rfl⟩
theorem lifted (os : Os) (started : os.Started) (H : Type) (enc : TypeId × Value → H) (F : Stop.Interp) :
    ReturnsInHanded {} Tryd.checked os 3 .any ((OpenSpec.ofChange Rows.asmWrongSpec).preRow enc Tryd.prog Tryd.f3 Rows.asmWrongRow.domain false Rows.asmWrongRow.laid) (((OpenSpec.ofChange Rows.asmWrongSpec).at F).post enc Tryd.prog Tryd.f3 false true false false) := by
  obtain ⟨places, hx⟩ := reads os enc
  refine returnsInHanded_of_row (C := Tryd.checked) (s := OpenSpec.ofChange Rows.asmWrongSpec) own started (by kernel_rfl) Tryd.func3
    (witness_row_atRef (enc := enc) (C := Tryd.checked) false (World.laidAll Tryd.prog os Rows.asmWrongRow.laid) #[.int .i64 0] (World.laidAll_os _ _ _) (by kernel_rfl) (by kernel_rfl) (by kernel_rfl)
      (OpenSpec.preRow_of_cond 8 hx (by kernel_rfl) (fun k hk => by cases hk) (by kernel_rfl) (laid_met os))) ?_
  intro W base args ds gs before hval hW _ _ _ hL _ _
  exact contract H enc W base args ds gs before hval hW hL
set_option maxHeartbeats 4000000 in
theorem joined : joinedFacts Tryd.pinned.checked.prog 3 Tryd.f3 (OpenSpec.ofChange Rows.asmWrongSpec).bare Rows.asmWrongRow = true := by
  unfold joinedFacts
  simp only [Bool.and_eq_true]
  repeat' apply And.intro
  all_goals (as_aux_lemma => kernel_rfl)
theorem said : Rows.AsmWrongSaid :=
  OpenClaim.holds_of_cond 3 Tryd.f3 rfl rfl rfl rfl rfl rfl rfl ⟨rfl, rfl, rfl, rfl, rfl⟩ rfl rfl rfl rfl rfl (by kernel_rfl) Tryd.func3 joined
    (of_decide_eq_true (by kernel_rfl)) (by unfold Func.isWrapper; first | (rw [if_pos (by decide +kernel)]; kernel_rfl) | (rw [if_neg (by decide +kernel)]; exact ⟨rfl, rfl⟩))
    (fun os started H enc _ F => by rw [OpenClaim.pre_eq_preRow]; exact lifted os started H enc F)
theorem plain (f : FuncId) (fn : Func) (hf : Tryd.pinned.checked.prog.funcNamed "turnkey/turnkeylaw15.AsmWrong" = some f) (hfn : Tryd.pinned.checked.prog.funcs[f]? = some fn) :
    true = Tryd.pinned.checked.prog.looks [] ∧ ∀ (j : Nat) t, fn.params[j]? = some t → Tryd.pinned.checked.prog.wantsStandIn t = false := by
  obtain rfl : f = 3 := Option.some.inj ((show Tryd.prog.funcNamed "turnkey/turnkeylaw15.AsmWrong" = some 3 by kernel_rfl).symm.trans hf) |>.symm
  obtain rfl : fn = Tryd.f3 := (Option.some.inj (Tryd.func3.symm.trans hfn)).symm
  refine ⟨by kernel_rfl, fun j t ht => ?_⟩
  rw [Tryd.params3] at ht
  have hm := Array.mem_of_getElem? ht
  have hall : ∀ t, t ∈ #[(3 : TypeId)] → Tryd.prog.wantsStandIn t = false := by
    intro t h
    simp only [List.mem_toArray, List.mem_cons, List.not_mem_nil, or_false] at h
    subst h
    exact (show Tryd.prog.wantsStandIn 3 = false by kernel_rfl)
  exact hall t hm
theorem card : Rows.AsmWrongCardSaid :=
  Claim7.holds_tied_plain_at .later [] _ _ _ _ said (fun _ h => by cases h) (by as_aux_lemma => kernel_rfl) (fun _ h => by cases h) asmWrong_row_tie rfl ⟨rfl, rfl⟩ (by as_aux_lemma => kernel_rfl) rfl plain (by as_aux_lemma => kernel_rfl)
end Go.Proofs.YtnedpimammoekaaDoor.asmWrong
