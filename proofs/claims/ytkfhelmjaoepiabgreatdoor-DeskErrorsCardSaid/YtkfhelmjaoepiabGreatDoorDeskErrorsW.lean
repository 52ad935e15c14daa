/- DeskErrors returns true for every input, and the input reads as it did; the listed errors hold what the program text lays. -/
import Derived.Test.YtkfhelmjaoepiabGreatDoorDeK1
import Derived.Deep.DeepWitnessRowRef
import Derived.Lay
set_option linter.unusedVariables false
set_option linter.unusedSimpArgs false
set_option maxRecDepth 10000000
namespace Go.Proofs.YtkfhelmjaoepiabGreatDoor.deskErrors
open Tk
open Go.ChangeShapes Go.WideShapes Go.ChangeAt Go.RowKit

theorem own : ownKnob Tryz.prog.godebug = none := by kernel_rfl
def sg (n0 : Int) : Nat → Int := fun i => if i = 0 then n0 else 0
theorem md {n c m k d : Int} (hd : k % m = 0 ∧ c % m = d) (h : n % k = c) : n % m = d := by
  subst h
  rw [← hd.2]
  exact (Int.emod_emod_of_dvd n (Int.dvd_of_emod_eq_zero hd.1)).symm
theorem nm {n c : Int} (k : Int) (hk : 0 < k) (h : n % k = c) : Tk.numOf n k = c := by
  subst h
  unfold Tk.numOf
  have h0 := Int.emod_nonneg n (by omega : k ≠ 0)
  have h2 := Int.emod_lt_of_pos n hk
  have h1 := @Int.tmod_eq_emod n k
  rw [h1]
  split
  · split <;> omega
  · rename_i hn
    have hna : (k.natAbs : Int) = k := by omega
    have : n % k ≠ 0 := fun e => hn (Or.inr (Int.dvd_of_emod_eq_zero e))
    split <;> omega
theorem tb {n0 a b c d : Int} (lo0 : -9223372036854775808 ≤ n0) (hi0 : n0 ≤ 9223372036854775807) (h1 : n0 % 11 = a) (h2 : n0 % 10 = b) (h3 : n0 % 8 = c) (h4 : n0 % 2 = d) :
    TabOk Tryz.prog bad 8 (sg n0) [(0, 11, .lit a), (0, 10, .lit b), (0, 8, .lit c), (0, 2, .lit d)] :=
  TabOk.cons num11 (by decide) (by decide) lo0 hi0 (nm 11 (by decide) h1) (TabOk.cons num10 (by decide) (by decide) lo0 hi0 (nm 10 (by decide) h2) (TabOk.cons num8 (by decide) (by decide) lo0 hi0 (nm 8 (by decide) h3) (TabOk.cons num2 (by decide) (by decide) lo0 hi0 (nm 2 (by decide) h4) TabOk.nil)))
theorem hvv (n0 : Int) : ∀ ρ, VRs (sg n0) ρ [.int .i64 (.var 0)] (#[.int .i64 n0] : Array Go.Value).toList := fun ρ => VRs.cons (by simp [VR, E.den, sg]) (VRs.nil)
set_option maxHeartbeats 100000000 in
theorem walk (W : World) (n0 : Int) (hn0 : (Lit.int .i64 n0).wf = true) (hL : laidMetH Tryz.prog Rows.deskErrorsRow.laid W) : Calls Tryz.prog 6 #[.int .i64 n0] W fun e w' => e = .returned (.bool true) ∧ Below W.heap.size W w' := by
  simp only [Lit.wf, Bool.and_eq_true, decide_eq_true_eq] at hn0
  have lo0 : -9223372036854775808 ≤ n0 := hn0.1
  have hi0 : n0 ≤ 9223372036854775807 := hn0.2
  have q1 : (n0 % 11 = 0) ∨ (n0 % 11 = 1) ∨ (n0 % 11 = 2) ∨ (n0 % 11 = 3) ∨ (n0 % 11 = 4) ∨ (n0 % 11 = 5) ∨ (n0 % 11 = 6) ∨ (n0 % 11 = 7) ∨ (n0 % 11 = 8) ∨ (n0 % 11 = 9) ∨ (n0 % 11 = 10) := by omega
  rcases q1 with q1 | q1 | q1 | q1 | q1 | q1 | q1 | q1 | q1 | q1 | q1
  ·
    have q2 : (n0 % 40 = 0) ∨ (n0 % 40 = 1) ∨ (n0 % 40 = 2) ∨ (n0 % 40 = 3) ∨ (n0 % 40 = 4) ∨ (n0 % 40 = 5) ∨ (n0 % 40 = 6) ∨ (n0 % 40 = 7) ∨ (n0 % 40 = 8) ∨ (n0 % 40 = 9) ∨ (n0 % 40 = 10) ∨ (n0 % 40 = 11) ∨ (n0 % 40 = 12) ∨ (n0 % 40 = 13) ∨ (n0 % 40 = 14) ∨ (n0 % 40 = 15) ∨ (n0 % 40 = 16) ∨ (n0 % 40 = 17) ∨ (n0 % 40 = 18) ∨ (n0 % 40 = 19) ∨ (n0 % 40 = 20) ∨ (n0 % 40 = 21) ∨ (n0 % 40 = 22) ∨ (n0 % 40 = 23) ∨ (n0 % 40 = 24) ∨ (n0 % 40 = 25) ∨ (n0 % 40 = 26) ∨ (n0 % 40 = 27) ∨ (n0 % 40 = 28) ∨ (n0 % 40 = 29) ∨ (n0 % 40 = 30) ∨ (n0 % 40 = 31) ∨ (n0 % 40 = 32) ∨ (n0 % 40 = 33) ∨ (n0 % 40 = 34) ∨ (n0 % 40 = 35) ∨ (n0 % 40 = 36) ∨ (n0 % 40 = 37) ∨ (n0 % 40 = 38) ∨ (n0 % 40 = 39) := by omega
    rcases q2 with q2 | q2 | q2 | q2 | q2 | q2 | q2 | q2 | q2 | q2 | q2 | q2 | q2 | q2 | q2 | q2 | q2 | q2 | q2 | q2 | q2 | q2 | q2 | q2 | q2 | q2 | q2 | q2 | q2 | q2 | q2 | q2 | q2 | q2 | q2 | q2 | q2 | q2 | q2 | q2
    ·
      exact case0 (σ := (sg n0)) hL (Known2.nil _) (tb lo0 hi0 q1 (md (by decide) q2) (md (by decide) q2) (md (by decide) q2)) (hvv n0)
    ·
      exact case1 (σ := (sg n0)) hL (Known2.nil _) (tb lo0 hi0 q1 (md (by decide) q2) (md (by decide) q2) (md (by decide) q2)) (hvv n0)
    ·
      exact case2 (σ := (sg n0)) hL (Known2.nil _) (tb lo0 hi0 q1 (md (by decide) q2) (md (by decide) q2) (md (by decide) q2)) (hvv n0)
    ·
      exact case3 (σ := (sg n0)) hL (Known2.nil _) (tb lo0 hi0 q1 (md (by decide) q2) (md (by decide) q2) (md (by decide) q2)) (hvv n0)
    ·
      exact case4 (σ := (sg n0)) hL (Known2.nil _) (tb lo0 hi0 q1 (md (by decide) q2) (md (by decide) q2) (md (by decide) q2)) (hvv n0)
    ·
      exact case5 (σ := (sg n0)) hL (Known2.nil _) (tb lo0 hi0 q1 (md (by decide) q2) (md (by decide) q2) (md (by decide) q2)) (hvv n0)
    ·
      exact case6 (σ := (sg n0)) hL (Known2.nil _) (tb lo0 hi0 q1 (md (by decide) q2) (md (by decide) q2) (md (by decide) q2)) (hvv n0)
    ·
      exact case7 (σ := (sg n0)) hL (Known2.nil _) (tb lo0 hi0 q1 (md (by decide) q2) (md (by decide) q2) (md (by decide) q2)) (hvv n0)
    ·
      exact case8 (σ := (sg n0)) hL (Known2.nil _) (tb lo0 hi0 q1 (md (by decide) q2) (md (by decide) q2) (md (by decide) q2)) (hvv n0)
    ·
      exact case9 (σ := (sg n0)) hL (Known2.nil _) (tb lo0 hi0 q1 (md (by decide) q2) (md (by decide) q2) (md (by decide) q2)) (hvv n0)
    ·
      exact case10 (σ := (sg n0)) hL (Known2.nil _) (tb lo0 hi0 q1 (md (by decide) q2) (md (by decide) q2) (md (by decide) q2)) (hvv n0)
    ·
      exact case11 (σ := (sg n0)) hL (Known2.nil _) (tb lo0 hi0 q1 (md (by decide) q2) (md (by decide) q2) (md (by decide) q2)) (hvv n0)
    ·
      exact case12 (σ := (sg n0)) hL (Known2.nil _) (tb lo0 hi0 q1 (md (by decide) q2) (md (by decide) q2) (md (by decide) q2)) (hvv n0)
    ·
      exact case13 (σ := (sg n0)) hL (Known2.nil _) (tb lo0 hi0 q1 (md (by decide) q2) (md (by decide) q2) (md (by decide) q2)) (hvv n0)
    ·
      exact case14 (σ := (sg n0)) hL (Known2.nil _) (tb lo0 hi0 q1 (md (by decide) q2) (md (by decide) q2) (md (by decide) q2)) (hvv n0)
    ·
      exact case15 (σ := (sg n0)) hL (Known2.nil _) (tb lo0 hi0 q1 (md (by decide) q2) (md (by decide) q2) (md (by decide) q2)) (hvv n0)
    ·
      exact case16 (σ := (sg n0)) hL (Known2.nil _) (tb lo0 hi0 q1 (md (by decide) q2) (md (by decide) q2) (md (by decide) q2)) (hvv n0)
    ·
      exact case17 (σ := (sg n0)) hL (Known2.nil _) (tb lo0 hi0 q1 (md (by decide) q2) (md (by decide) q2) (md (by decide) q2)) (hvv n0)
    ·
      exact case18 (σ := (sg n0)) hL (Known2.nil _) (tb lo0 hi0 q1 (md (by decide) q2) (md (by decide) q2) (md (by decide) q2)) (hvv n0)
    ·
      exact case19 (σ := (sg n0)) hL (Known2.nil _) (tb lo0 hi0 q1 (md (by decide) q2) (md (by decide) q2) (md (by decide) q2)) (hvv n0)
    ·
      exact case20 (σ := (sg n0)) hL (Known2.nil _) (tb lo0 hi0 q1 (md (by decide) q2) (md (by decide) q2) (md (by decide) q2)) (hvv n0)
    ·
      exact case21 (σ := (sg n0)) hL (Known2.nil _) (tb lo0 hi0 q1 (md (by decide) q2) (md (by decide) q2) (md (by decide) q2)) (hvv n0)
    ·
      exact case22 (σ := (sg n0)) hL (Known2.nil _) (tb lo0 hi0 q1 (md (by decide) q2) (md (by decide) q2) (md (by decide) q2)) (hvv n0)
    ·
      exact case23 (σ := (sg n0)) hL (Known2.nil _) (tb lo0 hi0 q1 (md (by decide) q2) (md (by decide) q2) (md (by decide) q2)) (hvv n0)
    ·
      exact case24 (σ := (sg n0)) hL (Known2.nil _) (tb lo0 hi0 q1 (md (by decide) q2) (md (by decide) q2) (md (by decide) q2)) (hvv n0)
    ·
      exact case25 (σ := (sg n0)) hL (Known2.nil _) (tb lo0 hi0 q1 (md (by decide) q2) (md (by decide) q2) (md (by decide) q2)) (hvv n0)
    ·
      exact case26 (σ := (sg n0)) hL (Known2.nil _) (tb lo0 hi0 q1 (md (by decide) q2) (md (by decide) q2) (md (by decide) q2)) (hvv n0)
    ·
      exact case27 (σ := (sg n0)) hL (Known2.nil _) (tb lo0 hi0 q1 (md (by decide) q2) (md (by decide) q2) (md (by decide) q2)) (hvv n0)
    ·
      exact case28 (σ := (sg n0)) hL (Known2.nil _) (tb lo0 hi0 q1 (md (by decide) q2) (md (by decide) q2) (md (by decide) q2)) (hvv n0)
    ·
      exact case29 (σ := (sg n0)) hL (Known2.nil _) (tb lo0 hi0 q1 (md (by decide) q2) (md (by decide) q2) (md (by decide) q2)) (hvv n0)
    ·
      exact case30 (σ := (sg n0)) hL (Known2.nil _) (tb lo0 hi0 q1 (md (by decide) q2) (md (by decide) q2) (md (by decide) q2)) (hvv n0)
    ·
      exact case31 (σ := (sg n0)) hL (Known2.nil _) (tb lo0 hi0 q1 (md (by decide) q2) (md (by decide) q2) (md (by decide) q2)) (hvv n0)
    ·
      exact case32 (σ := (sg n0)) hL (Known2.nil _) (tb lo0 hi0 q1 (md (by decide) q2) (md (by decide) q2) (md (by decide) q2)) (hvv n0)
    ·
      exact case33 (σ := (sg n0)) hL (Known2.nil _) (tb lo0 hi0 q1 (md (by decide) q2) (md (by decide) q2) (md (by decide) q2)) (hvv n0)
    ·
      exact case34 (σ := (sg n0)) hL (Known2.nil _) (tb lo0 hi0 q1 (md (by decide) q2) (md (by decide) q2) (md (by decide) q2)) (hvv n0)
    ·
      exact case35 (σ := (sg n0)) hL (Known2.nil _) (tb lo0 hi0 q1 (md (by decide) q2) (md (by decide) q2) (md (by decide) q2)) (hvv n0)
    ·
      exact case36 (σ := (sg n0)) hL (Known2.nil _) (tb lo0 hi0 q1 (md (by decide) q2) (md (by decide) q2) (md (by decide) q2)) (hvv n0)
    ·
      exact case37 (σ := (sg n0)) hL (Known2.nil _) (tb lo0 hi0 q1 (md (by decide) q2) (md (by decide) q2) (md (by decide) q2)) (hvv n0)
    ·
      exact case38 (σ := (sg n0)) hL (Known2.nil _) (tb lo0 hi0 q1 (md (by decide) q2) (md (by decide) q2) (md (by decide) q2)) (hvv n0)
    ·
      exact case39 (σ := (sg n0)) hL (Known2.nil _) (tb lo0 hi0 q1 (md (by decide) q2) (md (by decide) q2) (md (by decide) q2)) (hvv n0)
  ·
    have q3 : (n0 % 40 = 0) ∨ (n0 % 40 = 1) ∨ (n0 % 40 = 2) ∨ (n0 % 40 = 3) ∨ (n0 % 40 = 4) ∨ (n0 % 40 = 5) ∨ (n0 % 40 = 6) ∨ (n0 % 40 = 7) ∨ (n0 % 40 = 8) ∨ (n0 % 40 = 9) ∨ (n0 % 40 = 10) ∨ (n0 % 40 = 11) ∨ (n0 % 40 = 12) ∨ (n0 % 40 = 13) ∨ (n0 % 40 = 14) ∨ (n0 % 40 = 15) ∨ (n0 % 40 = 16) ∨ (n0 % 40 = 17) ∨ (n0 % 40 = 18) ∨ (n0 % 40 = 19) ∨ (n0 % 40 = 20) ∨ (n0 % 40 = 21) ∨ (n0 % 40 = 22) ∨ (n0 % 40 = 23) ∨ (n0 % 40 = 24) ∨ (n0 % 40 = 25) ∨ (n0 % 40 = 26) ∨ (n0 % 40 = 27) ∨ (n0 % 40 = 28) ∨ (n0 % 40 = 29) ∨ (n0 % 40 = 30) ∨ (n0 % 40 = 31) ∨ (n0 % 40 = 32) ∨ (n0 % 40 = 33) ∨ (n0 % 40 = 34) ∨ (n0 % 40 = 35) ∨ (n0 % 40 = 36) ∨ (n0 % 40 = 37) ∨ (n0 % 40 = 38) ∨ (n0 % 40 = 39) := by omega
    rcases q3 with q3 | q3 | q3 | q3 | q3 | q3 | q3 | q3 | q3 | q3 | q3 | q3 | q3 | q3 | q3 | q3 | q3 | q3 | q3 | q3 | q3 | q3 | q3 | q3 | q3 | q3 | q3 | q3 | q3 | q3 | q3 | q3 | q3 | q3 | q3 | q3 | q3 | q3 | q3 | q3
    ·
      exact case40 (σ := (sg n0)) hL (Known2.nil _) (tb lo0 hi0 q1 (md (by decide) q3) (md (by decide) q3) (md (by decide) q3)) (hvv n0)
    ·
      exact case41 (σ := (sg n0)) hL (Known2.nil _) (tb lo0 hi0 q1 (md (by decide) q3) (md (by decide) q3) (md (by decide) q3)) (hvv n0)
    ·
      exact case42 (σ := (sg n0)) hL (Known2.nil _) (tb lo0 hi0 q1 (md (by decide) q3) (md (by decide) q3) (md (by decide) q3)) (hvv n0)
    ·
      exact case43 (σ := (sg n0)) hL (Known2.nil _) (tb lo0 hi0 q1 (md (by decide) q3) (md (by decide) q3) (md (by decide) q3)) (hvv n0)
    ·
      exact case44 (σ := (sg n0)) hL (Known2.nil _) (tb lo0 hi0 q1 (md (by decide) q3) (md (by decide) q3) (md (by decide) q3)) (hvv n0)
    ·
      exact case45 (σ := (sg n0)) hL (Known2.nil _) (tb lo0 hi0 q1 (md (by decide) q3) (md (by decide) q3) (md (by decide) q3)) (hvv n0)
    ·
      exact case46 (σ := (sg n0)) hL (Known2.nil _) (tb lo0 hi0 q1 (md (by decide) q3) (md (by decide) q3) (md (by decide) q3)) (hvv n0)
    ·
      exact case47 (σ := (sg n0)) hL (Known2.nil _) (tb lo0 hi0 q1 (md (by decide) q3) (md (by decide) q3) (md (by decide) q3)) (hvv n0)
    ·
      exact case48 (σ := (sg n0)) hL (Known2.nil _) (tb lo0 hi0 q1 (md (by decide) q3) (md (by decide) q3) (md (by decide) q3)) (hvv n0)
    ·
      exact case49 (σ := (sg n0)) hL (Known2.nil _) (tb lo0 hi0 q1 (md (by decide) q3) (md (by decide) q3) (md (by decide) q3)) (hvv n0)
    ·
      exact case50 (σ := (sg n0)) hL (Known2.nil _) (tb lo0 hi0 q1 (md (by decide) q3) (md (by decide) q3) (md (by decide) q3)) (hvv n0)
    ·
      exact case51 (σ := (sg n0)) hL (Known2.nil _) (tb lo0 hi0 q1 (md (by decide) q3) (md (by decide) q3) (md (by decide) q3)) (hvv n0)
    ·
      exact case52 (σ := (sg n0)) hL (Known2.nil _) (tb lo0 hi0 q1 (md (by decide) q3) (md (by decide) q3) (md (by decide) q3)) (hvv n0)
    ·
      exact case53 (σ := (sg n0)) hL (Known2.nil _) (tb lo0 hi0 q1 (md (by decide) q3) (md (by decide) q3) (md (by decide) q3)) (hvv n0)
    ·
      exact case54 (σ := (sg n0)) hL (Known2.nil _) (tb lo0 hi0 q1 (md (by decide) q3) (md (by decide) q3) (md (by decide) q3)) (hvv n0)
    ·
      exact case55 (σ := (sg n0)) hL (Known2.nil _) (tb lo0 hi0 q1 (md (by decide) q3) (md (by decide) q3) (md (by decide) q3)) (hvv n0)
    ·
      exact case56 (σ := (sg n0)) hL (Known2.nil _) (tb lo0 hi0 q1 (md (by decide) q3) (md (by decide) q3) (md (by decide) q3)) (hvv n0)
    ·
      exact case57 (σ := (sg n0)) hL (Known2.nil _) (tb lo0 hi0 q1 (md (by decide) q3) (md (by decide) q3) (md (by decide) q3)) (hvv n0)
    ·
      exact case58 (σ := (sg n0)) hL (Known2.nil _) (tb lo0 hi0 q1 (md (by decide) q3) (md (by decide) q3) (md (by decide) q3)) (hvv n0)
    ·
      exact case59 (σ := (sg n0)) hL (Known2.nil _) (tb lo0 hi0 q1 (md (by decide) q3) (md (by decide) q3) (md (by decide) q3)) (hvv n0)
    ·
      exact case60 (σ := (sg n0)) hL (Known2.nil _) (tb lo0 hi0 q1 (md (by decide) q3) (md (by decide) q3) (md (by decide) q3)) (hvv n0)
    ·
      exact case61 (σ := (sg n0)) hL (Known2.nil _) (tb lo0 hi0 q1 (md (by decide) q3) (md (by decide) q3) (md (by decide) q3)) (hvv n0)
    ·
      exact case62 (σ := (sg n0)) hL (Known2.nil _) (tb lo0 hi0 q1 (md (by decide) q3) (md (by decide) q3) (md (by decide) q3)) (hvv n0)
    ·
      exact case63 (σ := (sg n0)) hL (Known2.nil _) (tb lo0 hi0 q1 (md (by decide) q3) (md (by decide) q3) (md (by decide) q3)) (hvv n0)
    ·
      exact case64 (σ := (sg n0)) hL (Known2.nil _) (tb lo0 hi0 q1 (md (by decide) q3) (md (by decide) q3) (md (by decide) q3)) (hvv n0)
    ·
      exact case65 (σ := (sg n0)) hL (Known2.nil _) (tb lo0 hi0 q1 (md (by decide) q3) (md (by decide) q3) (md (by decide) q3)) (hvv n0)
    ·
      exact case66 (σ := (sg n0)) hL (Known2.nil _) (tb lo0 hi0 q1 (md (by decide) q3) (md (by decide) q3) (md (by decide) q3)) (hvv n0)
    ·
      exact case67 (σ := (sg n0)) hL (Known2.nil _) (tb lo0 hi0 q1 (md (by decide) q3) (md (by decide) q3) (md (by decide) q3)) (hvv n0)
    ·
      exact case68 (σ := (sg n0)) hL (Known2.nil _) (tb lo0 hi0 q1 (md (by decide) q3) (md (by decide) q3) (md (by decide) q3)) (hvv n0)
    ·
      exact case69 (σ := (sg n0)) hL (Known2.nil _) (tb lo0 hi0 q1 (md (by decide) q3) (md (by decide) q3) (md (by decide) q3)) (hvv n0)
    ·
      exact case70 (σ := (sg n0)) hL (Known2.nil _) (tb lo0 hi0 q1 (md (by decide) q3) (md (by decide) q3) (md (by decide) q3)) (hvv n0)
    ·
      exact case71 (σ := (sg n0)) hL (Known2.nil _) (tb lo0 hi0 q1 (md (by decide) q3) (md (by decide) q3) (md (by decide) q3)) (hvv n0)
    ·
      exact case72 (σ := (sg n0)) hL (Known2.nil _) (tb lo0 hi0 q1 (md (by decide) q3) (md (by decide) q3) (md (by decide) q3)) (hvv n0)
    ·
      exact case73 (σ := (sg n0)) hL (Known2.nil _) (tb lo0 hi0 q1 (md (by decide) q3) (md (by decide) q3) (md (by decide) q3)) (hvv n0)
    ·
      exact case74 (σ := (sg n0)) hL (Known2.nil _) (tb lo0 hi0 q1 (md (by decide) q3) (md (by decide) q3) (md (by decide) q3)) (hvv n0)
    ·
      exact case75 (σ := (sg n0)) hL (Known2.nil _) (tb lo0 hi0 q1 (md (by decide) q3) (md (by decide) q3) (md (by decide) q3)) (hvv n0)
    ·
      exact case76 (σ := (sg n0)) hL (Known2.nil _) (tb lo0 hi0 q1 (md (by decide) q3) (md (by decide) q3) (md (by decide) q3)) (hvv n0)
    ·
      exact case77 (σ := (sg n0)) hL (Known2.nil _) (tb lo0 hi0 q1 (md (by decide) q3) (md (by decide) q3) (md (by decide) q3)) (hvv n0)
    ·
      exact case78 (σ := (sg n0)) hL (Known2.nil _) (tb lo0 hi0 q1 (md (by decide) q3) (md (by decide) q3) (md (by decide) q3)) (hvv n0)
    ·
      exact case79 (σ := (sg n0)) hL (Known2.nil _) (tb lo0 hi0 q1 (md (by decide) q3) (md (by decide) q3) (md (by decide) q3)) (hvv n0)
  ·
    have q4 : (n0 % 40 = 0) ∨ (n0 % 40 = 1) ∨ (n0 % 40 = 2) ∨ (n0 % 40 = 3) ∨ (n0 % 40 = 4) ∨ (n0 % 40 = 5) ∨ (n0 % 40 = 6) ∨ (n0 % 40 = 7) ∨ (n0 % 40 = 8) ∨ (n0 % 40 = 9) ∨ (n0 % 40 = 10) ∨ (n0 % 40 = 11) ∨ (n0 % 40 = 12) ∨ (n0 % 40 = 13) ∨ (n0 % 40 = 14) ∨ (n0 % 40 = 15) ∨ (n0 % 40 = 16) ∨ (n0 % 40 = 17) ∨ (n0 % 40 = 18) ∨ (n0 % 40 = 19) ∨ (n0 % 40 = 20) ∨ (n0 % 40 = 21) ∨ (n0 % 40 = 22) ∨ (n0 % 40 = 23) ∨ (n0 % 40 = 24) ∨ (n0 % 40 = 25) ∨ (n0 % 40 = 26) ∨ (n0 % 40 = 27) ∨ (n0 % 40 = 28) ∨ (n0 % 40 = 29) ∨ (n0 % 40 = 30) ∨ (n0 % 40 = 31) ∨ (n0 % 40 = 32) ∨ (n0 % 40 = 33) ∨ (n0 % 40 = 34) ∨ (n0 % 40 = 35) ∨ (n0 % 40 = 36) ∨ (n0 % 40 = 37) ∨ (n0 % 40 = 38) ∨ (n0 % 40 = 39) := by omega
    rcases q4 with q4 | q4 | q4 | q4 | q4 | q4 | q4 | q4 | q4 | q4 | q4 | q4 | q4 | q4 | q4 | q4 | q4 | q4 | q4 | q4 | q4 | q4 | q4 | q4 | q4 | q4 | q4 | q4 | q4 | q4 | q4 | q4 | q4 | q4 | q4 | q4 | q4 | q4 | q4 | q4
    ·
      exact case80 (σ := (sg n0)) hL (Known2.nil _) (tb lo0 hi0 q1 (md (by decide) q4) (md (by decide) q4) (md (by decide) q4)) (hvv n0)
    ·
      exact case81 (σ := (sg n0)) hL (Known2.nil _) (tb lo0 hi0 q1 (md (by decide) q4) (md (by decide) q4) (md (by decide) q4)) (hvv n0)
    ·
      exact case82 (σ := (sg n0)) hL (Known2.nil _) (tb lo0 hi0 q1 (md (by decide) q4) (md (by decide) q4) (md (by decide) q4)) (hvv n0)
    ·
      exact case83 (σ := (sg n0)) hL (Known2.nil _) (tb lo0 hi0 q1 (md (by decide) q4) (md (by decide) q4) (md (by decide) q4)) (hvv n0)
    ·
      exact case84 (σ := (sg n0)) hL (Known2.nil _) (tb lo0 hi0 q1 (md (by decide) q4) (md (by decide) q4) (md (by decide) q4)) (hvv n0)
    ·
      exact case85 (σ := (sg n0)) hL (Known2.nil _) (tb lo0 hi0 q1 (md (by decide) q4) (md (by decide) q4) (md (by decide) q4)) (hvv n0)
    ·
      exact case86 (σ := (sg n0)) hL (Known2.nil _) (tb lo0 hi0 q1 (md (by decide) q4) (md (by decide) q4) (md (by decide) q4)) (hvv n0)
    ·
      exact case87 (σ := (sg n0)) hL (Known2.nil _) (tb lo0 hi0 q1 (md (by decide) q4) (md (by decide) q4) (md (by decide) q4)) (hvv n0)
    ·
      exact case88 (σ := (sg n0)) hL (Known2.nil _) (tb lo0 hi0 q1 (md (by decide) q4) (md (by decide) q4) (md (by decide) q4)) (hvv n0)
    ·
      exact case89 (σ := (sg n0)) hL (Known2.nil _) (tb lo0 hi0 q1 (md (by decide) q4) (md (by decide) q4) (md (by decide) q4)) (hvv n0)
    ·
      exact case90 (σ := (sg n0)) hL (Known2.nil _) (tb lo0 hi0 q1 (md (by decide) q4) (md (by decide) q4) (md (by decide) q4)) (hvv n0)
    ·
      exact case91 (σ := (sg n0)) hL (Known2.nil _) (tb lo0 hi0 q1 (md (by decide) q4) (md (by decide) q4) (md (by decide) q4)) (hvv n0)
    ·
      exact case92 (σ := (sg n0)) hL (Known2.nil _) (tb lo0 hi0 q1 (md (by decide) q4) (md (by decide) q4) (md (by decide) q4)) (hvv n0)
    ·
      exact case93 (σ := (sg n0)) hL (Known2.nil _) (tb lo0 hi0 q1 (md (by decide) q4) (md (by decide) q4) (md (by decide) q4)) (hvv n0)
    ·
      exact case94 (σ := (sg n0)) hL (Known2.nil _) (tb lo0 hi0 q1 (md (by decide) q4) (md (by decide) q4) (md (by decide) q4)) (hvv n0)
    ·
      exact case95 (σ := (sg n0)) hL (Known2.nil _) (tb lo0 hi0 q1 (md (by decide) q4) (md (by decide) q4) (md (by decide) q4)) (hvv n0)
    ·
      exact case96 (σ := (sg n0)) hL (Known2.nil _) (tb lo0 hi0 q1 (md (by decide) q4) (md (by decide) q4) (md (by decide) q4)) (hvv n0)
    ·
      exact case97 (σ := (sg n0)) hL (Known2.nil _) (tb lo0 hi0 q1 (md (by decide) q4) (md (by decide) q4) (md (by decide) q4)) (hvv n0)
    ·
      exact case98 (σ := (sg n0)) hL (Known2.nil _) (tb lo0 hi0 q1 (md (by decide) q4) (md (by decide) q4) (md (by decide) q4)) (hvv n0)
    ·
      exact case99 (σ := (sg n0)) hL (Known2.nil _) (tb lo0 hi0 q1 (md (by decide) q4) (md (by decide) q4) (md (by decide) q4)) (hvv n0)
    ·
      exact case100 (σ := (sg n0)) hL (Known2.nil _) (tb lo0 hi0 q1 (md (by decide) q4) (md (by decide) q4) (md (by decide) q4)) (hvv n0)
    ·
      exact case101 (σ := (sg n0)) hL (Known2.nil _) (tb lo0 hi0 q1 (md (by decide) q4) (md (by decide) q4) (md (by decide) q4)) (hvv n0)
    ·
      exact case102 (σ := (sg n0)) hL (Known2.nil _) (tb lo0 hi0 q1 (md (by decide) q4) (md (by decide) q4) (md (by decide) q4)) (hvv n0)
    ·
      exact case103 (σ := (sg n0)) hL (Known2.nil _) (tb lo0 hi0 q1 (md (by decide) q4) (md (by decide) q4) (md (by decide) q4)) (hvv n0)
    ·
      exact case104 (σ := (sg n0)) hL (Known2.nil _) (tb lo0 hi0 q1 (md (by decide) q4) (md (by decide) q4) (md (by decide) q4)) (hvv n0)
    ·
      exact case105 (σ := (sg n0)) hL (Known2.nil _) (tb lo0 hi0 q1 (md (by decide) q4) (md (by decide) q4) (md (by decide) q4)) (hvv n0)
    ·
      exact case106 (σ := (sg n0)) hL (Known2.nil _) (tb lo0 hi0 q1 (md (by decide) q4) (md (by decide) q4) (md (by decide) q4)) (hvv n0)
    ·
      exact case107 (σ := (sg n0)) hL (Known2.nil _) (tb lo0 hi0 q1 (md (by decide) q4) (md (by decide) q4) (md (by decide) q4)) (hvv n0)
    ·
      exact case108 (σ := (sg n0)) hL (Known2.nil _) (tb lo0 hi0 q1 (md (by decide) q4) (md (by decide) q4) (md (by decide) q4)) (hvv n0)
    ·
      exact case109 (σ := (sg n0)) hL (Known2.nil _) (tb lo0 hi0 q1 (md (by decide) q4) (md (by decide) q4) (md (by decide) q4)) (hvv n0)
    ·
      exact case110 (σ := (sg n0)) hL (Known2.nil _) (tb lo0 hi0 q1 (md (by decide) q4) (md (by decide) q4) (md (by decide) q4)) (hvv n0)
    ·
      exact case111 (σ := (sg n0)) hL (Known2.nil _) (tb lo0 hi0 q1 (md (by decide) q4) (md (by decide) q4) (md (by decide) q4)) (hvv n0)
    ·
      exact case112 (σ := (sg n0)) hL (Known2.nil _) (tb lo0 hi0 q1 (md (by decide) q4) (md (by decide) q4) (md (by decide) q4)) (hvv n0)
    ·
      exact case113 (σ := (sg n0)) hL (Known2.nil _) (tb lo0 hi0 q1 (md (by decide) q4) (md (by decide) q4) (md (by decide) q4)) (hvv n0)
    ·
      exact case114 (σ := (sg n0)) hL (Known2.nil _) (tb lo0 hi0 q1 (md (by decide) q4) (md (by decide) q4) (md (by decide) q4)) (hvv n0)
    ·
      exact case115 (σ := (sg n0)) hL (Known2.nil _) (tb lo0 hi0 q1 (md (by decide) q4) (md (by decide) q4) (md (by decide) q4)) (hvv n0)
    ·
      exact case116 (σ := (sg n0)) hL (Known2.nil _) (tb lo0 hi0 q1 (md (by decide) q4) (md (by decide) q4) (md (by decide) q4)) (hvv n0)
    ·
      exact case117 (σ := (sg n0)) hL (Known2.nil _) (tb lo0 hi0 q1 (md (by decide) q4) (md (by decide) q4) (md (by decide) q4)) (hvv n0)
    ·
      exact case118 (σ := (sg n0)) hL (Known2.nil _) (tb lo0 hi0 q1 (md (by decide) q4) (md (by decide) q4) (md (by decide) q4)) (hvv n0)
    ·
      exact case119 (σ := (sg n0)) hL (Known2.nil _) (tb lo0 hi0 q1 (md (by decide) q4) (md (by decide) q4) (md (by decide) q4)) (hvv n0)
  ·
    have q5 : (n0 % 40 = 0) ∨ (n0 % 40 = 1) ∨ (n0 % 40 = 2) ∨ (n0 % 40 = 3) ∨ (n0 % 40 = 4) ∨ (n0 % 40 = 5) ∨ (n0 % 40 = 6) ∨ (n0 % 40 = 7) ∨ (n0 % 40 = 8) ∨ (n0 % 40 = 9) ∨ (n0 % 40 = 10) ∨ (n0 % 40 = 11) ∨ (n0 % 40 = 12) ∨ (n0 % 40 = 13) ∨ (n0 % 40 = 14) ∨ (n0 % 40 = 15) ∨ (n0 % 40 = 16) ∨ (n0 % 40 = 17) ∨ (n0 % 40 = 18) ∨ (n0 % 40 = 19) ∨ (n0 % 40 = 20) ∨ (n0 % 40 = 21) ∨ (n0 % 40 = 22) ∨ (n0 % 40 = 23) ∨ (n0 % 40 = 24) ∨ (n0 % 40 = 25) ∨ (n0 % 40 = 26) ∨ (n0 % 40 = 27) ∨ (n0 % 40 = 28) ∨ (n0 % 40 = 29) ∨ (n0 % 40 = 30) ∨ (n0 % 40 = 31) ∨ (n0 % 40 = 32) ∨ (n0 % 40 = 33) ∨ (n0 % 40 = 34) ∨ (n0 % 40 = 35) ∨ (n0 % 40 = 36) ∨ (n0 % 40 = 37) ∨ (n0 % 40 = 38) ∨ (n0 % 40 = 39) := by omega
    rcases q5 with q5 | q5 | q5 | q5 | q5 | q5 | q5 | q5 | q5 | q5 | q5 | q5 | q5 | q5 | q5 | q5 | q5 | q5 | q5 | q5 | q5 | q5 | q5 | q5 | q5 | q5 | q5 | q5 | q5 | q5 | q5 | q5 | q5 | q5 | q5 | q5 | q5 | q5 | q5 | q5
    ·
      exact case120 (σ := (sg n0)) hL (Known2.nil _) (tb lo0 hi0 q1 (md (by decide) q5) (md (by decide) q5) (md (by decide) q5)) (hvv n0)
    ·
      exact case121 (σ := (sg n0)) hL (Known2.nil _) (tb lo0 hi0 q1 (md (by decide) q5) (md (by decide) q5) (md (by decide) q5)) (hvv n0)
    ·
      exact case122 (σ := (sg n0)) hL (Known2.nil _) (tb lo0 hi0 q1 (md (by decide) q5) (md (by decide) q5) (md (by decide) q5)) (hvv n0)
    ·
      exact case123 (σ := (sg n0)) hL (Known2.nil _) (tb lo0 hi0 q1 (md (by decide) q5) (md (by decide) q5) (md (by decide) q5)) (hvv n0)
    ·
      exact case124 (σ := (sg n0)) hL (Known2.nil _) (tb lo0 hi0 q1 (md (by decide) q5) (md (by decide) q5) (md (by decide) q5)) (hvv n0)
    ·
      exact case125 (σ := (sg n0)) hL (Known2.nil _) (tb lo0 hi0 q1 (md (by decide) q5) (md (by decide) q5) (md (by decide) q5)) (hvv n0)
    ·
      exact case126 (σ := (sg n0)) hL (Known2.nil _) (tb lo0 hi0 q1 (md (by decide) q5) (md (by decide) q5) (md (by decide) q5)) (hvv n0)
    ·
      exact case127 (σ := (sg n0)) hL (Known2.nil _) (tb lo0 hi0 q1 (md (by decide) q5) (md (by decide) q5) (md (by decide) q5)) (hvv n0)
    ·
      exact case128 (σ := (sg n0)) hL (Known2.nil _) (tb lo0 hi0 q1 (md (by decide) q5) (md (by decide) q5) (md (by decide) q5)) (hvv n0)
    ·
      exact case129 (σ := (sg n0)) hL (Known2.nil _) (tb lo0 hi0 q1 (md (by decide) q5) (md (by decide) q5) (md (by decide) q5)) (hvv n0)
    ·
      exact case130 (σ := (sg n0)) hL (Known2.nil _) (tb lo0 hi0 q1 (md (by decide) q5) (md (by decide) q5) (md (by decide) q5)) (hvv n0)
    ·
      exact case131 (σ := (sg n0)) hL (Known2.nil _) (tb lo0 hi0 q1 (md (by decide) q5) (md (by decide) q5) (md (by decide) q5)) (hvv n0)
    ·
      exact case132 (σ := (sg n0)) hL (Known2.nil _) (tb lo0 hi0 q1 (md (by decide) q5) (md (by decide) q5) (md (by decide) q5)) (hvv n0)
    ·
      exact case133 (σ := (sg n0)) hL (Known2.nil _) (tb lo0 hi0 q1 (md (by decide) q5) (md (by decide) q5) (md (by decide) q5)) (hvv n0)
    ·
      exact case134 (σ := (sg n0)) hL (Known2.nil _) (tb lo0 hi0 q1 (md (by decide) q5) (md (by decide) q5) (md (by decide) q5)) (hvv n0)
    ·
      exact case135 (σ := (sg n0)) hL (Known2.nil _) (tb lo0 hi0 q1 (md (by decide) q5) (md (by decide) q5) (md (by decide) q5)) (hvv n0)
    ·
      exact case136 (σ := (sg n0)) hL (Known2.nil _) (tb lo0 hi0 q1 (md (by decide) q5) (md (by decide) q5) (md (by decide) q5)) (hvv n0)
    ·
      exact case137 (σ := (sg n0)) hL (Known2.nil _) (tb lo0 hi0 q1 (md (by decide) q5) (md (by decide) q5) (md (by decide) q5)) (hvv n0)
    ·
      exact case138 (σ := (sg n0)) hL (Known2.nil _) (tb lo0 hi0 q1 (md (by decide) q5) (md (by decide) q5) (md (by decide) q5)) (hvv n0)
    ·
      exact case139 (σ := (sg n0)) hL (Known2.nil _) (tb lo0 hi0 q1 (md (by decide) q5) (md (by decide) q5) (md (by decide) q5)) (hvv n0)
    ·
      exact case140 (σ := (sg n0)) hL (Known2.nil _) (tb lo0 hi0 q1 (md (by decide) q5) (md (by decide) q5) (md (by decide) q5)) (hvv n0)
    ·
      exact case141 (σ := (sg n0)) hL (Known2.nil _) (tb lo0 hi0 q1 (md (by decide) q5) (md (by decide) q5) (md (by decide) q5)) (hvv n0)
    ·
      exact case142 (σ := (sg n0)) hL (Known2.nil _) (tb lo0 hi0 q1 (md (by decide) q5) (md (by decide) q5) (md (by decide) q5)) (hvv n0)
    ·
      exact case143 (σ := (sg n0)) hL (Known2.nil _) (tb lo0 hi0 q1 (md (by decide) q5) (md (by decide) q5) (md (by decide) q5)) (hvv n0)
    ·
      exact case144 (σ := (sg n0)) hL (Known2.nil _) (tb lo0 hi0 q1 (md (by decide) q5) (md (by decide) q5) (md (by decide) q5)) (hvv n0)
    ·
      exact case145 (σ := (sg n0)) hL (Known2.nil _) (tb lo0 hi0 q1 (md (by decide) q5) (md (by decide) q5) (md (by decide) q5)) (hvv n0)
    ·
      exact case146 (σ := (sg n0)) hL (Known2.nil _) (tb lo0 hi0 q1 (md (by decide) q5) (md (by decide) q5) (md (by decide) q5)) (hvv n0)
    ·
      exact case147 (σ := (sg n0)) hL (Known2.nil _) (tb lo0 hi0 q1 (md (by decide) q5) (md (by decide) q5) (md (by decide) q5)) (hvv n0)
    ·
      exact case148 (σ := (sg n0)) hL (Known2.nil _) (tb lo0 hi0 q1 (md (by decide) q5) (md (by decide) q5) (md (by decide) q5)) (hvv n0)
    ·
      exact case149 (σ := (sg n0)) hL (Known2.nil _) (tb lo0 hi0 q1 (md (by decide) q5) (md (by decide) q5) (md (by decide) q5)) (hvv n0)
    ·
      exact case150 (σ := (sg n0)) hL (Known2.nil _) (tb lo0 hi0 q1 (md (by decide) q5) (md (by decide) q5) (md (by decide) q5)) (hvv n0)
    ·
      exact case151 (σ := (sg n0)) hL (Known2.nil _) (tb lo0 hi0 q1 (md (by decide) q5) (md (by decide) q5) (md (by decide) q5)) (hvv n0)
    ·
      exact case152 (σ := (sg n0)) hL (Known2.nil _) (tb lo0 hi0 q1 (md (by decide) q5) (md (by decide) q5) (md (by decide) q5)) (hvv n0)
    ·
      exact case153 (σ := (sg n0)) hL (Known2.nil _) (tb lo0 hi0 q1 (md (by decide) q5) (md (by decide) q5) (md (by decide) q5)) (hvv n0)
    ·
      exact case154 (σ := (sg n0)) hL (Known2.nil _) (tb lo0 hi0 q1 (md (by decide) q5) (md (by decide) q5) (md (by decide) q5)) (hvv n0)
    ·
      exact case155 (σ := (sg n0)) hL (Known2.nil _) (tb lo0 hi0 q1 (md (by decide) q5) (md (by decide) q5) (md (by decide) q5)) (hvv n0)
    ·
      exact case156 (σ := (sg n0)) hL (Known2.nil _) (tb lo0 hi0 q1 (md (by decide) q5) (md (by decide) q5) (md (by decide) q5)) (hvv n0)
    ·
      exact case157 (σ := (sg n0)) hL (Known2.nil _) (tb lo0 hi0 q1 (md (by decide) q5) (md (by decide) q5) (md (by decide) q5)) (hvv n0)
    ·
      exact case158 (σ := (sg n0)) hL (Known2.nil _) (tb lo0 hi0 q1 (md (by decide) q5) (md (by decide) q5) (md (by decide) q5)) (hvv n0)
    ·
      exact case159 (σ := (sg n0)) hL (Known2.nil _) (tb lo0 hi0 q1 (md (by decide) q5) (md (by decide) q5) (md (by decide) q5)) (hvv n0)
  ·
    have q6 : (n0 % 40 = 0) ∨ (n0 % 40 = 1) ∨ (n0 % 40 = 2) ∨ (n0 % 40 = 3) ∨ (n0 % 40 = 4) ∨ (n0 % 40 = 5) ∨ (n0 % 40 = 6) ∨ (n0 % 40 = 7) ∨ (n0 % 40 = 8) ∨ (n0 % 40 = 9) ∨ (n0 % 40 = 10) ∨ (n0 % 40 = 11) ∨ (n0 % 40 = 12) ∨ (n0 % 40 = 13) ∨ (n0 % 40 = 14) ∨ (n0 % 40 = 15) ∨ (n0 % 40 = 16) ∨ (n0 % 40 = 17) ∨ (n0 % 40 = 18) ∨ (n0 % 40 = 19) ∨ (n0 % 40 = 20) ∨ (n0 % 40 = 21) ∨ (n0 % 40 = 22) ∨ (n0 % 40 = 23) ∨ (n0 % 40 = 24) ∨ (n0 % 40 = 25) ∨ (n0 % 40 = 26) ∨ (n0 % 40 = 27) ∨ (n0 % 40 = 28) ∨ (n0 % 40 = 29) ∨ (n0 % 40 = 30) ∨ (n0 % 40 = 31) ∨ (n0 % 40 = 32) ∨ (n0 % 40 = 33) ∨ (n0 % 40 = 34) ∨ (n0 % 40 = 35) ∨ (n0 % 40 = 36) ∨ (n0 % 40 = 37) ∨ (n0 % 40 = 38) ∨ (n0 % 40 = 39) := by omega
    rcases q6 with q6 | q6 | q6 | q6 | q6 | q6 | q6 | q6 | q6 | q6 | q6 | q6 | q6 | q6 | q6 | q6 | q6 | q6 | q6 | q6 | q6 | q6 | q6 | q6 | q6 | q6 | q6 | q6 | q6 | q6 | q6 | q6 | q6 | q6 | q6 | q6 | q6 | q6 | q6 | q6
    ·
      exact case160 (σ := (sg n0)) hL (Known2.nil _) (tb lo0 hi0 q1 (md (by decide) q6) (md (by decide) q6) (md (by decide) q6)) (hvv n0)
    ·
      exact case161 (σ := (sg n0)) hL (Known2.nil _) (tb lo0 hi0 q1 (md (by decide) q6) (md (by decide) q6) (md (by decide) q6)) (hvv n0)
    ·
      exact case162 (σ := (sg n0)) hL (Known2.nil _) (tb lo0 hi0 q1 (md (by decide) q6) (md (by decide) q6) (md (by decide) q6)) (hvv n0)
    ·
      exact case163 (σ := (sg n0)) hL (Known2.nil _) (tb lo0 hi0 q1 (md (by decide) q6) (md (by decide) q6) (md (by decide) q6)) (hvv n0)
    ·
      exact case164 (σ := (sg n0)) hL (Known2.nil _) (tb lo0 hi0 q1 (md (by decide) q6) (md (by decide) q6) (md (by decide) q6)) (hvv n0)
    ·
      exact case165 (σ := (sg n0)) hL (Known2.nil _) (tb lo0 hi0 q1 (md (by decide) q6) (md (by decide) q6) (md (by decide) q6)) (hvv n0)
    ·
      exact case166 (σ := (sg n0)) hL (Known2.nil _) (tb lo0 hi0 q1 (md (by decide) q6) (md (by decide) q6) (md (by decide) q6)) (hvv n0)
    ·
      exact case167 (σ := (sg n0)) hL (Known2.nil _) (tb lo0 hi0 q1 (md (by decide) q6) (md (by decide) q6) (md (by decide) q6)) (hvv n0)
    ·
      exact case168 (σ := (sg n0)) hL (Known2.nil _) (tb lo0 hi0 q1 (md (by decide) q6) (md (by decide) q6) (md (by decide) q6)) (hvv n0)
    ·
      exact case169 (σ := (sg n0)) hL (Known2.nil _) (tb lo0 hi0 q1 (md (by decide) q6) (md (by decide) q6) (md (by decide) q6)) (hvv n0)
    ·
      exact case170 (σ := (sg n0)) hL (Known2.nil _) (tb lo0 hi0 q1 (md (by decide) q6) (md (by decide) q6) (md (by decide) q6)) (hvv n0)
    ·
      exact case171 (σ := (sg n0)) hL (Known2.nil _) (tb lo0 hi0 q1 (md (by decide) q6) (md (by decide) q6) (md (by decide) q6)) (hvv n0)
    ·
      exact case172 (σ := (sg n0)) hL (Known2.nil _) (tb lo0 hi0 q1 (md (by decide) q6) (md (by decide) q6) (md (by decide) q6)) (hvv n0)
    ·
      exact case173 (σ := (sg n0)) hL (Known2.nil _) (tb lo0 hi0 q1 (md (by decide) q6) (md (by decide) q6) (md (by decide) q6)) (hvv n0)
    ·
      exact case174 (σ := (sg n0)) hL (Known2.nil _) (tb lo0 hi0 q1 (md (by decide) q6) (md (by decide) q6) (md (by decide) q6)) (hvv n0)
    ·
      exact case175 (σ := (sg n0)) hL (Known2.nil _) (tb lo0 hi0 q1 (md (by decide) q6) (md (by decide) q6) (md (by decide) q6)) (hvv n0)
    ·
      exact case176 (σ := (sg n0)) hL (Known2.nil _) (tb lo0 hi0 q1 (md (by decide) q6) (md (by decide) q6) (md (by decide) q6)) (hvv n0)
    ·
      exact case177 (σ := (sg n0)) hL (Known2.nil _) (tb lo0 hi0 q1 (md (by decide) q6) (md (by decide) q6) (md (by decide) q6)) (hvv n0)
    ·
      exact case178 (σ := (sg n0)) hL (Known2.nil _) (tb lo0 hi0 q1 (md (by decide) q6) (md (by decide) q6) (md (by decide) q6)) (hvv n0)
    ·
      exact case179 (σ := (sg n0)) hL (Known2.nil _) (tb lo0 hi0 q1 (md (by decide) q6) (md (by decide) q6) (md (by decide) q6)) (hvv n0)
    ·
      exact case180 (σ := (sg n0)) hL (Known2.nil _) (tb lo0 hi0 q1 (md (by decide) q6) (md (by decide) q6) (md (by decide) q6)) (hvv n0)
    ·
      exact case181 (σ := (sg n0)) hL (Known2.nil _) (tb lo0 hi0 q1 (md (by decide) q6) (md (by decide) q6) (md (by decide) q6)) (hvv n0)
    ·
      exact case182 (σ := (sg n0)) hL (Known2.nil _) (tb lo0 hi0 q1 (md (by decide) q6) (md (by decide) q6) (md (by decide) q6)) (hvv n0)
    ·
      exact case183 (σ := (sg n0)) hL (Known2.nil _) (tb lo0 hi0 q1 (md (by decide) q6) (md (by decide) q6) (md (by decide) q6)) (hvv n0)
    ·
      exact case184 (σ := (sg n0)) hL (Known2.nil _) (tb lo0 hi0 q1 (md (by decide) q6) (md (by decide) q6) (md (by decide) q6)) (hvv n0)
    ·
      exact case185 (σ := (sg n0)) hL (Known2.nil _) (tb lo0 hi0 q1 (md (by decide) q6) (md (by decide) q6) (md (by decide) q6)) (hvv n0)
    ·
      exact case186 (σ := (sg n0)) hL (Known2.nil _) (tb lo0 hi0 q1 (md (by decide) q6) (md (by decide) q6) (md (by decide) q6)) (hvv n0)
    ·
      exact case187 (σ := (sg n0)) hL (Known2.nil _) (tb lo0 hi0 q1 (md (by decide) q6) (md (by decide) q6) (md (by decide) q6)) (hvv n0)
    ·
      exact case188 (σ := (sg n0)) hL (Known2.nil _) (tb lo0 hi0 q1 (md (by decide) q6) (md (by decide) q6) (md (by decide) q6)) (hvv n0)
    ·
      exact case189 (σ := (sg n0)) hL (Known2.nil _) (tb lo0 hi0 q1 (md (by decide) q6) (md (by decide) q6) (md (by decide) q6)) (hvv n0)
    ·
      exact case190 (σ := (sg n0)) hL (Known2.nil _) (tb lo0 hi0 q1 (md (by decide) q6) (md (by decide) q6) (md (by decide) q6)) (hvv n0)
    ·
      exact case191 (σ := (sg n0)) hL (Known2.nil _) (tb lo0 hi0 q1 (md (by decide) q6) (md (by decide) q6) (md (by decide) q6)) (hvv n0)
    ·
      exact case192 (σ := (sg n0)) hL (Known2.nil _) (tb lo0 hi0 q1 (md (by decide) q6) (md (by decide) q6) (md (by decide) q6)) (hvv n0)
    ·
      exact case193 (σ := (sg n0)) hL (Known2.nil _) (tb lo0 hi0 q1 (md (by decide) q6) (md (by decide) q6) (md (by decide) q6)) (hvv n0)
    ·
      exact case194 (σ := (sg n0)) hL (Known2.nil _) (tb lo0 hi0 q1 (md (by decide) q6) (md (by decide) q6) (md (by decide) q6)) (hvv n0)
    ·
      exact case195 (σ := (sg n0)) hL (Known2.nil _) (tb lo0 hi0 q1 (md (by decide) q6) (md (by decide) q6) (md (by decide) q6)) (hvv n0)
    ·
      exact case196 (σ := (sg n0)) hL (Known2.nil _) (tb lo0 hi0 q1 (md (by decide) q6) (md (by decide) q6) (md (by decide) q6)) (hvv n0)
    ·
      exact case197 (σ := (sg n0)) hL (Known2.nil _) (tb lo0 hi0 q1 (md (by decide) q6) (md (by decide) q6) (md (by decide) q6)) (hvv n0)
    ·
      exact case198 (σ := (sg n0)) hL (Known2.nil _) (tb lo0 hi0 q1 (md (by decide) q6) (md (by decide) q6) (md (by decide) q6)) (hvv n0)
    ·
      exact case199 (σ := (sg n0)) hL (Known2.nil _) (tb lo0 hi0 q1 (md (by decide) q6) (md (by decide) q6) (md (by decide) q6)) (hvv n0)
  ·
    have q7 : (n0 % 40 = 0) ∨ (n0 % 40 = 1) ∨ (n0 % 40 = 2) ∨ (n0 % 40 = 3) ∨ (n0 % 40 = 4) ∨ (n0 % 40 = 5) ∨ (n0 % 40 = 6) ∨ (n0 % 40 = 7) ∨ (n0 % 40 = 8) ∨ (n0 % 40 = 9) ∨ (n0 % 40 = 10) ∨ (n0 % 40 = 11) ∨ (n0 % 40 = 12) ∨ (n0 % 40 = 13) ∨ (n0 % 40 = 14) ∨ (n0 % 40 = 15) ∨ (n0 % 40 = 16) ∨ (n0 % 40 = 17) ∨ (n0 % 40 = 18) ∨ (n0 % 40 = 19) ∨ (n0 % 40 = 20) ∨ (n0 % 40 = 21) ∨ (n0 % 40 = 22) ∨ (n0 % 40 = 23) ∨ (n0 % 40 = 24) ∨ (n0 % 40 = 25) ∨ (n0 % 40 = 26) ∨ (n0 % 40 = 27) ∨ (n0 % 40 = 28) ∨ (n0 % 40 = 29) ∨ (n0 % 40 = 30) ∨ (n0 % 40 = 31) ∨ (n0 % 40 = 32) ∨ (n0 % 40 = 33) ∨ (n0 % 40 = 34) ∨ (n0 % 40 = 35) ∨ (n0 % 40 = 36) ∨ (n0 % 40 = 37) ∨ (n0 % 40 = 38) ∨ (n0 % 40 = 39) := by omega
    rcases q7 with q7 | q7 | q7 | q7 | q7 | q7 | q7 | q7 | q7 | q7 | q7 | q7 | q7 | q7 | q7 | q7 | q7 | q7 | q7 | q7 | q7 | q7 | q7 | q7 | q7 | q7 | q7 | q7 | q7 | q7 | q7 | q7 | q7 | q7 | q7 | q7 | q7 | q7 | q7 | q7
    ·
      exact case200 (σ := (sg n0)) hL (Known2.nil _) (tb lo0 hi0 q1 (md (by decide) q7) (md (by decide) q7) (md (by decide) q7)) (hvv n0)
    ·
      exact case201 (σ := (sg n0)) hL (Known2.nil _) (tb lo0 hi0 q1 (md (by decide) q7) (md (by decide) q7) (md (by decide) q7)) (hvv n0)
    ·
      exact case202 (σ := (sg n0)) hL (Known2.nil _) (tb lo0 hi0 q1 (md (by decide) q7) (md (by decide) q7) (md (by decide) q7)) (hvv n0)
    ·
      exact case203 (σ := (sg n0)) hL (Known2.nil _) (tb lo0 hi0 q1 (md (by decide) q7) (md (by decide) q7) (md (by decide) q7)) (hvv n0)
    ·
      exact case204 (σ := (sg n0)) hL (Known2.nil _) (tb lo0 hi0 q1 (md (by decide) q7) (md (by decide) q7) (md (by decide) q7)) (hvv n0)
    ·
      exact case205 (σ := (sg n0)) hL (Known2.nil _) (tb lo0 hi0 q1 (md (by decide) q7) (md (by decide) q7) (md (by decide) q7)) (hvv n0)
    ·
      exact case206 (σ := (sg n0)) hL (Known2.nil _) (tb lo0 hi0 q1 (md (by decide) q7) (md (by decide) q7) (md (by decide) q7)) (hvv n0)
    ·
      exact case207 (σ := (sg n0)) hL (Known2.nil _) (tb lo0 hi0 q1 (md (by decide) q7) (md (by decide) q7) (md (by decide) q7)) (hvv n0)
    ·
      exact case208 (σ := (sg n0)) hL (Known2.nil _) (tb lo0 hi0 q1 (md (by decide) q7) (md (by decide) q7) (md (by decide) q7)) (hvv n0)
    ·
      exact case209 (σ := (sg n0)) hL (Known2.nil _) (tb lo0 hi0 q1 (md (by decide) q7) (md (by decide) q7) (md (by decide) q7)) (hvv n0)
    ·
      exact case210 (σ := (sg n0)) hL (Known2.nil _) (tb lo0 hi0 q1 (md (by decide) q7) (md (by decide) q7) (md (by decide) q7)) (hvv n0)
    ·
      exact case211 (σ := (sg n0)) hL (Known2.nil _) (tb lo0 hi0 q1 (md (by decide) q7) (md (by decide) q7) (md (by decide) q7)) (hvv n0)
    ·
      exact case212 (σ := (sg n0)) hL (Known2.nil _) (tb lo0 hi0 q1 (md (by decide) q7) (md (by decide) q7) (md (by decide) q7)) (hvv n0)
    ·
      exact case213 (σ := (sg n0)) hL (Known2.nil _) (tb lo0 hi0 q1 (md (by decide) q7) (md (by decide) q7) (md (by decide) q7)) (hvv n0)
    ·
      exact case214 (σ := (sg n0)) hL (Known2.nil _) (tb lo0 hi0 q1 (md (by decide) q7) (md (by decide) q7) (md (by decide) q7)) (hvv n0)
    ·
      exact case215 (σ := (sg n0)) hL (Known2.nil _) (tb lo0 hi0 q1 (md (by decide) q7) (md (by decide) q7) (md (by decide) q7)) (hvv n0)
    ·
      exact case216 (σ := (sg n0)) hL (Known2.nil _) (tb lo0 hi0 q1 (md (by decide) q7) (md (by decide) q7) (md (by decide) q7)) (hvv n0)
    ·
      exact case217 (σ := (sg n0)) hL (Known2.nil _) (tb lo0 hi0 q1 (md (by decide) q7) (md (by decide) q7) (md (by decide) q7)) (hvv n0)
    ·
      exact case218 (σ := (sg n0)) hL (Known2.nil _) (tb lo0 hi0 q1 (md (by decide) q7) (md (by decide) q7) (md (by decide) q7)) (hvv n0)
    ·
      exact case219 (σ := (sg n0)) hL (Known2.nil _) (tb lo0 hi0 q1 (md (by decide) q7) (md (by decide) q7) (md (by decide) q7)) (hvv n0)
    ·
      exact case220 (σ := (sg n0)) hL (Known2.nil _) (tb lo0 hi0 q1 (md (by decide) q7) (md (by decide) q7) (md (by decide) q7)) (hvv n0)
    ·
      exact case221 (σ := (sg n0)) hL (Known2.nil _) (tb lo0 hi0 q1 (md (by decide) q7) (md (by decide) q7) (md (by decide) q7)) (hvv n0)
    ·
      exact case222 (σ := (sg n0)) hL (Known2.nil _) (tb lo0 hi0 q1 (md (by decide) q7) (md (by decide) q7) (md (by decide) q7)) (hvv n0)
    ·
      exact case223 (σ := (sg n0)) hL (Known2.nil _) (tb lo0 hi0 q1 (md (by decide) q7) (md (by decide) q7) (md (by decide) q7)) (hvv n0)
    ·
      exact case224 (σ := (sg n0)) hL (Known2.nil _) (tb lo0 hi0 q1 (md (by decide) q7) (md (by decide) q7) (md (by decide) q7)) (hvv n0)
    ·
      exact case225 (σ := (sg n0)) hL (Known2.nil _) (tb lo0 hi0 q1 (md (by decide) q7) (md (by decide) q7) (md (by decide) q7)) (hvv n0)
    ·
      exact case226 (σ := (sg n0)) hL (Known2.nil _) (tb lo0 hi0 q1 (md (by decide) q7) (md (by decide) q7) (md (by decide) q7)) (hvv n0)
    ·
      exact case227 (σ := (sg n0)) hL (Known2.nil _) (tb lo0 hi0 q1 (md (by decide) q7) (md (by decide) q7) (md (by decide) q7)) (hvv n0)
    ·
      exact case228 (σ := (sg n0)) hL (Known2.nil _) (tb lo0 hi0 q1 (md (by decide) q7) (md (by decide) q7) (md (by decide) q7)) (hvv n0)
    ·
      exact case229 (σ := (sg n0)) hL (Known2.nil _) (tb lo0 hi0 q1 (md (by decide) q7) (md (by decide) q7) (md (by decide) q7)) (hvv n0)
    ·
      exact case230 (σ := (sg n0)) hL (Known2.nil _) (tb lo0 hi0 q1 (md (by decide) q7) (md (by decide) q7) (md (by decide) q7)) (hvv n0)
    ·
      exact case231 (σ := (sg n0)) hL (Known2.nil _) (tb lo0 hi0 q1 (md (by decide) q7) (md (by decide) q7) (md (by decide) q7)) (hvv n0)
    ·
      exact case232 (σ := (sg n0)) hL (Known2.nil _) (tb lo0 hi0 q1 (md (by decide) q7) (md (by decide) q7) (md (by decide) q7)) (hvv n0)
    ·
      exact case233 (σ := (sg n0)) hL (Known2.nil _) (tb lo0 hi0 q1 (md (by decide) q7) (md (by decide) q7) (md (by decide) q7)) (hvv n0)
    ·
      exact case234 (σ := (sg n0)) hL (Known2.nil _) (tb lo0 hi0 q1 (md (by decide) q7) (md (by decide) q7) (md (by decide) q7)) (hvv n0)
    ·
      exact case235 (σ := (sg n0)) hL (Known2.nil _) (tb lo0 hi0 q1 (md (by decide) q7) (md (by decide) q7) (md (by decide) q7)) (hvv n0)
    ·
      exact case236 (σ := (sg n0)) hL (Known2.nil _) (tb lo0 hi0 q1 (md (by decide) q7) (md (by decide) q7) (md (by decide) q7)) (hvv n0)
    ·
      exact case237 (σ := (sg n0)) hL (Known2.nil _) (tb lo0 hi0 q1 (md (by decide) q7) (md (by decide) q7) (md (by decide) q7)) (hvv n0)
    ·
      exact case238 (σ := (sg n0)) hL (Known2.nil _) (tb lo0 hi0 q1 (md (by decide) q7) (md (by decide) q7) (md (by decide) q7)) (hvv n0)
    ·
      exact case239 (σ := (sg n0)) hL (Known2.nil _) (tb lo0 hi0 q1 (md (by decide) q7) (md (by decide) q7) (md (by decide) q7)) (hvv n0)
  ·
    have q8 : (n0 % 40 = 0) ∨ (n0 % 40 = 1) ∨ (n0 % 40 = 2) ∨ (n0 % 40 = 3) ∨ (n0 % 40 = 4) ∨ (n0 % 40 = 5) ∨ (n0 % 40 = 6) ∨ (n0 % 40 = 7) ∨ (n0 % 40 = 8) ∨ (n0 % 40 = 9) ∨ (n0 % 40 = 10) ∨ (n0 % 40 = 11) ∨ (n0 % 40 = 12) ∨ (n0 % 40 = 13) ∨ (n0 % 40 = 14) ∨ (n0 % 40 = 15) ∨ (n0 % 40 = 16) ∨ (n0 % 40 = 17) ∨ (n0 % 40 = 18) ∨ (n0 % 40 = 19) ∨ (n0 % 40 = 20) ∨ (n0 % 40 = 21) ∨ (n0 % 40 = 22) ∨ (n0 % 40 = 23) ∨ (n0 % 40 = 24) ∨ (n0 % 40 = 25) ∨ (n0 % 40 = 26) ∨ (n0 % 40 = 27) ∨ (n0 % 40 = 28) ∨ (n0 % 40 = 29) ∨ (n0 % 40 = 30) ∨ (n0 % 40 = 31) ∨ (n0 % 40 = 32) ∨ (n0 % 40 = 33) ∨ (n0 % 40 = 34) ∨ (n0 % 40 = 35) ∨ (n0 % 40 = 36) ∨ (n0 % 40 = 37) ∨ (n0 % 40 = 38) ∨ (n0 % 40 = 39) := by omega
    rcases q8 with q8 | q8 | q8 | q8 | q8 | q8 | q8 | q8 | q8 | q8 | q8 | q8 | q8 | q8 | q8 | q8 | q8 | q8 | q8 | q8 | q8 | q8 | q8 | q8 | q8 | q8 | q8 | q8 | q8 | q8 | q8 | q8 | q8 | q8 | q8 | q8 | q8 | q8 | q8 | q8
    ·
      exact case240 (σ := (sg n0)) hL (Known2.nil _) (tb lo0 hi0 q1 (md (by decide) q8) (md (by decide) q8) (md (by decide) q8)) (hvv n0)
    ·
      exact case241 (σ := (sg n0)) hL (Known2.nil _) (tb lo0 hi0 q1 (md (by decide) q8) (md (by decide) q8) (md (by decide) q8)) (hvv n0)
    ·
      exact case242 (σ := (sg n0)) hL (Known2.nil _) (tb lo0 hi0 q1 (md (by decide) q8) (md (by decide) q8) (md (by decide) q8)) (hvv n0)
    ·
      exact case243 (σ := (sg n0)) hL (Known2.nil _) (tb lo0 hi0 q1 (md (by decide) q8) (md (by decide) q8) (md (by decide) q8)) (hvv n0)
    ·
      exact case244 (σ := (sg n0)) hL (Known2.nil _) (tb lo0 hi0 q1 (md (by decide) q8) (md (by decide) q8) (md (by decide) q8)) (hvv n0)
    ·
      exact case245 (σ := (sg n0)) hL (Known2.nil _) (tb lo0 hi0 q1 (md (by decide) q8) (md (by decide) q8) (md (by decide) q8)) (hvv n0)
    ·
      exact case246 (σ := (sg n0)) hL (Known2.nil _) (tb lo0 hi0 q1 (md (by decide) q8) (md (by decide) q8) (md (by decide) q8)) (hvv n0)
    ·
      exact case247 (σ := (sg n0)) hL (Known2.nil _) (tb lo0 hi0 q1 (md (by decide) q8) (md (by decide) q8) (md (by decide) q8)) (hvv n0)
    ·
      exact case248 (σ := (sg n0)) hL (Known2.nil _) (tb lo0 hi0 q1 (md (by decide) q8) (md (by decide) q8) (md (by decide) q8)) (hvv n0)
    ·
      exact case249 (σ := (sg n0)) hL (Known2.nil _) (tb lo0 hi0 q1 (md (by decide) q8) (md (by decide) q8) (md (by decide) q8)) (hvv n0)
    ·
      exact case250 (σ := (sg n0)) hL (Known2.nil _) (tb lo0 hi0 q1 (md (by decide) q8) (md (by decide) q8) (md (by decide) q8)) (hvv n0)
    ·
      exact case251 (σ := (sg n0)) hL (Known2.nil _) (tb lo0 hi0 q1 (md (by decide) q8) (md (by decide) q8) (md (by decide) q8)) (hvv n0)
    ·
      exact case252 (σ := (sg n0)) hL (Known2.nil _) (tb lo0 hi0 q1 (md (by decide) q8) (md (by decide) q8) (md (by decide) q8)) (hvv n0)
    ·
      exact case253 (σ := (sg n0)) hL (Known2.nil _) (tb lo0 hi0 q1 (md (by decide) q8) (md (by decide) q8) (md (by decide) q8)) (hvv n0)
    ·
      exact case254 (σ := (sg n0)) hL (Known2.nil _) (tb lo0 hi0 q1 (md (by decide) q8) (md (by decide) q8) (md (by decide) q8)) (hvv n0)
    ·
      exact case255 (σ := (sg n0)) hL (Known2.nil _) (tb lo0 hi0 q1 (md (by decide) q8) (md (by decide) q8) (md (by decide) q8)) (hvv n0)
    ·
      exact case256 (σ := (sg n0)) hL (Known2.nil _) (tb lo0 hi0 q1 (md (by decide) q8) (md (by decide) q8) (md (by decide) q8)) (hvv n0)
    ·
      exact case257 (σ := (sg n0)) hL (Known2.nil _) (tb lo0 hi0 q1 (md (by decide) q8) (md (by decide) q8) (md (by decide) q8)) (hvv n0)
    ·
      exact case258 (σ := (sg n0)) hL (Known2.nil _) (tb lo0 hi0 q1 (md (by decide) q8) (md (by decide) q8) (md (by decide) q8)) (hvv n0)
    ·
      exact case259 (σ := (sg n0)) hL (Known2.nil _) (tb lo0 hi0 q1 (md (by decide) q8) (md (by decide) q8) (md (by decide) q8)) (hvv n0)
    ·
      exact case260 (σ := (sg n0)) hL (Known2.nil _) (tb lo0 hi0 q1 (md (by decide) q8) (md (by decide) q8) (md (by decide) q8)) (hvv n0)
    ·
      exact case261 (σ := (sg n0)) hL (Known2.nil _) (tb lo0 hi0 q1 (md (by decide) q8) (md (by decide) q8) (md (by decide) q8)) (hvv n0)
    ·
      exact case262 (σ := (sg n0)) hL (Known2.nil _) (tb lo0 hi0 q1 (md (by decide) q8) (md (by decide) q8) (md (by decide) q8)) (hvv n0)
    ·
      exact case263 (σ := (sg n0)) hL (Known2.nil _) (tb lo0 hi0 q1 (md (by decide) q8) (md (by decide) q8) (md (by decide) q8)) (hvv n0)
    ·
      exact case264 (σ := (sg n0)) hL (Known2.nil _) (tb lo0 hi0 q1 (md (by decide) q8) (md (by decide) q8) (md (by decide) q8)) (hvv n0)
    ·
      exact case265 (σ := (sg n0)) hL (Known2.nil _) (tb lo0 hi0 q1 (md (by decide) q8) (md (by decide) q8) (md (by decide) q8)) (hvv n0)
    ·
      exact case266 (σ := (sg n0)) hL (Known2.nil _) (tb lo0 hi0 q1 (md (by decide) q8) (md (by decide) q8) (md (by decide) q8)) (hvv n0)
    ·
      exact case267 (σ := (sg n0)) hL (Known2.nil _) (tb lo0 hi0 q1 (md (by decide) q8) (md (by decide) q8) (md (by decide) q8)) (hvv n0)
    ·
      exact case268 (σ := (sg n0)) hL (Known2.nil _) (tb lo0 hi0 q1 (md (by decide) q8) (md (by decide) q8) (md (by decide) q8)) (hvv n0)
    ·
      exact case269 (σ := (sg n0)) hL (Known2.nil _) (tb lo0 hi0 q1 (md (by decide) q8) (md (by decide) q8) (md (by decide) q8)) (hvv n0)
    ·
      exact case270 (σ := (sg n0)) hL (Known2.nil _) (tb lo0 hi0 q1 (md (by decide) q8) (md (by decide) q8) (md (by decide) q8)) (hvv n0)
    ·
      exact case271 (σ := (sg n0)) hL (Known2.nil _) (tb lo0 hi0 q1 (md (by decide) q8) (md (by decide) q8) (md (by decide) q8)) (hvv n0)
    ·
      exact case272 (σ := (sg n0)) hL (Known2.nil _) (tb lo0 hi0 q1 (md (by decide) q8) (md (by decide) q8) (md (by decide) q8)) (hvv n0)
    ·
      exact case273 (σ := (sg n0)) hL (Known2.nil _) (tb lo0 hi0 q1 (md (by decide) q8) (md (by decide) q8) (md (by decide) q8)) (hvv n0)
    ·
      exact case274 (σ := (sg n0)) hL (Known2.nil _) (tb lo0 hi0 q1 (md (by decide) q8) (md (by decide) q8) (md (by decide) q8)) (hvv n0)
    ·
      exact case275 (σ := (sg n0)) hL (Known2.nil _) (tb lo0 hi0 q1 (md (by decide) q8) (md (by decide) q8) (md (by decide) q8)) (hvv n0)
    ·
      exact case276 (σ := (sg n0)) hL (Known2.nil _) (tb lo0 hi0 q1 (md (by decide) q8) (md (by decide) q8) (md (by decide) q8)) (hvv n0)
    ·
      exact case277 (σ := (sg n0)) hL (Known2.nil _) (tb lo0 hi0 q1 (md (by decide) q8) (md (by decide) q8) (md (by decide) q8)) (hvv n0)
    ·
      exact case278 (σ := (sg n0)) hL (Known2.nil _) (tb lo0 hi0 q1 (md (by decide) q8) (md (by decide) q8) (md (by decide) q8)) (hvv n0)
    ·
      exact case279 (σ := (sg n0)) hL (Known2.nil _) (tb lo0 hi0 q1 (md (by decide) q8) (md (by decide) q8) (md (by decide) q8)) (hvv n0)
  ·
    have q9 : (n0 % 40 = 0) ∨ (n0 % 40 = 1) ∨ (n0 % 40 = 2) ∨ (n0 % 40 = 3) ∨ (n0 % 40 = 4) ∨ (n0 % 40 = 5) ∨ (n0 % 40 = 6) ∨ (n0 % 40 = 7) ∨ (n0 % 40 = 8) ∨ (n0 % 40 = 9) ∨ (n0 % 40 = 10) ∨ (n0 % 40 = 11) ∨ (n0 % 40 = 12) ∨ (n0 % 40 = 13) ∨ (n0 % 40 = 14) ∨ (n0 % 40 = 15) ∨ (n0 % 40 = 16) ∨ (n0 % 40 = 17) ∨ (n0 % 40 = 18) ∨ (n0 % 40 = 19) ∨ (n0 % 40 = 20) ∨ (n0 % 40 = 21) ∨ (n0 % 40 = 22) ∨ (n0 % 40 = 23) ∨ (n0 % 40 = 24) ∨ (n0 % 40 = 25) ∨ (n0 % 40 = 26) ∨ (n0 % 40 = 27) ∨ (n0 % 40 = 28) ∨ (n0 % 40 = 29) ∨ (n0 % 40 = 30) ∨ (n0 % 40 = 31) ∨ (n0 % 40 = 32) ∨ (n0 % 40 = 33) ∨ (n0 % 40 = 34) ∨ (n0 % 40 = 35) ∨ (n0 % 40 = 36) ∨ (n0 % 40 = 37) ∨ (n0 % 40 = 38) ∨ (n0 % 40 = 39) := by omega
    rcases q9 with q9 | q9 | q9 | q9 | q9 | q9 | q9 | q9 | q9 | q9 | q9 | q9 | q9 | q9 | q9 | q9 | q9 | q9 | q9 | q9 | q9 | q9 | q9 | q9 | q9 | q9 | q9 | q9 | q9 | q9 | q9 | q9 | q9 | q9 | q9 | q9 | q9 | q9 | q9 | q9
    ·
      exact case280 (σ := (sg n0)) hL (Known2.nil _) (tb lo0 hi0 q1 (md (by decide) q9) (md (by decide) q9) (md (by decide) q9)) (hvv n0)
    ·
      exact case281 (σ := (sg n0)) hL (Known2.nil _) (tb lo0 hi0 q1 (md (by decide) q9) (md (by decide) q9) (md (by decide) q9)) (hvv n0)
    ·
      exact case282 (σ := (sg n0)) hL (Known2.nil _) (tb lo0 hi0 q1 (md (by decide) q9) (md (by decide) q9) (md (by decide) q9)) (hvv n0)
    ·
      exact case283 (σ := (sg n0)) hL (Known2.nil _) (tb lo0 hi0 q1 (md (by decide) q9) (md (by decide) q9) (md (by decide) q9)) (hvv n0)
    ·
      exact case284 (σ := (sg n0)) hL (Known2.nil _) (tb lo0 hi0 q1 (md (by decide) q9) (md (by decide) q9) (md (by decide) q9)) (hvv n0)
    ·
      exact case285 (σ := (sg n0)) hL (Known2.nil _) (tb lo0 hi0 q1 (md (by decide) q9) (md (by decide) q9) (md (by decide) q9)) (hvv n0)
    ·
      exact case286 (σ := (sg n0)) hL (Known2.nil _) (tb lo0 hi0 q1 (md (by decide) q9) (md (by decide) q9) (md (by decide) q9)) (hvv n0)
    ·
      exact case287 (σ := (sg n0)) hL (Known2.nil _) (tb lo0 hi0 q1 (md (by decide) q9) (md (by decide) q9) (md (by decide) q9)) (hvv n0)
    ·
      exact case288 (σ := (sg n0)) hL (Known2.nil _) (tb lo0 hi0 q1 (md (by decide) q9) (md (by decide) q9) (md (by decide) q9)) (hvv n0)
    ·
      exact case289 (σ := (sg n0)) hL (Known2.nil _) (tb lo0 hi0 q1 (md (by decide) q9) (md (by decide) q9) (md (by decide) q9)) (hvv n0)
    ·
      exact case290 (σ := (sg n0)) hL (Known2.nil _) (tb lo0 hi0 q1 (md (by decide) q9) (md (by decide) q9) (md (by decide) q9)) (hvv n0)
    ·
      exact case291 (σ := (sg n0)) hL (Known2.nil _) (tb lo0 hi0 q1 (md (by decide) q9) (md (by decide) q9) (md (by decide) q9)) (hvv n0)
    ·
      exact case292 (σ := (sg n0)) hL (Known2.nil _) (tb lo0 hi0 q1 (md (by decide) q9) (md (by decide) q9) (md (by decide) q9)) (hvv n0)
    ·
      exact case293 (σ := (sg n0)) hL (Known2.nil _) (tb lo0 hi0 q1 (md (by decide) q9) (md (by decide) q9) (md (by decide) q9)) (hvv n0)
    ·
      exact case294 (σ := (sg n0)) hL (Known2.nil _) (tb lo0 hi0 q1 (md (by decide) q9) (md (by decide) q9) (md (by decide) q9)) (hvv n0)
    ·
      exact case295 (σ := (sg n0)) hL (Known2.nil _) (tb lo0 hi0 q1 (md (by decide) q9) (md (by decide) q9) (md (by decide) q9)) (hvv n0)
    ·
      exact case296 (σ := (sg n0)) hL (Known2.nil _) (tb lo0 hi0 q1 (md (by decide) q9) (md (by decide) q9) (md (by decide) q9)) (hvv n0)
    ·
      exact case297 (σ := (sg n0)) hL (Known2.nil _) (tb lo0 hi0 q1 (md (by decide) q9) (md (by decide) q9) (md (by decide) q9)) (hvv n0)
    ·
      exact case298 (σ := (sg n0)) hL (Known2.nil _) (tb lo0 hi0 q1 (md (by decide) q9) (md (by decide) q9) (md (by decide) q9)) (hvv n0)
    ·
      exact case299 (σ := (sg n0)) hL (Known2.nil _) (tb lo0 hi0 q1 (md (by decide) q9) (md (by decide) q9) (md (by decide) q9)) (hvv n0)
    ·
      exact case300 (σ := (sg n0)) hL (Known2.nil _) (tb lo0 hi0 q1 (md (by decide) q9) (md (by decide) q9) (md (by decide) q9)) (hvv n0)
    ·
      exact case301 (σ := (sg n0)) hL (Known2.nil _) (tb lo0 hi0 q1 (md (by decide) q9) (md (by decide) q9) (md (by decide) q9)) (hvv n0)
    ·
      exact case302 (σ := (sg n0)) hL (Known2.nil _) (tb lo0 hi0 q1 (md (by decide) q9) (md (by decide) q9) (md (by decide) q9)) (hvv n0)
    ·
      exact case303 (σ := (sg n0)) hL (Known2.nil _) (tb lo0 hi0 q1 (md (by decide) q9) (md (by decide) q9) (md (by decide) q9)) (hvv n0)
    ·
      exact case304 (σ := (sg n0)) hL (Known2.nil _) (tb lo0 hi0 q1 (md (by decide) q9) (md (by decide) q9) (md (by decide) q9)) (hvv n0)
    ·
      exact case305 (σ := (sg n0)) hL (Known2.nil _) (tb lo0 hi0 q1 (md (by decide) q9) (md (by decide) q9) (md (by decide) q9)) (hvv n0)
    ·
      exact case306 (σ := (sg n0)) hL (Known2.nil _) (tb lo0 hi0 q1 (md (by decide) q9) (md (by decide) q9) (md (by decide) q9)) (hvv n0)
    ·
      exact case307 (σ := (sg n0)) hL (Known2.nil _) (tb lo0 hi0 q1 (md (by decide) q9) (md (by decide) q9) (md (by decide) q9)) (hvv n0)
    ·
      exact case308 (σ := (sg n0)) hL (Known2.nil _) (tb lo0 hi0 q1 (md (by decide) q9) (md (by decide) q9) (md (by decide) q9)) (hvv n0)
    ·
      exact case309 (σ := (sg n0)) hL (Known2.nil _) (tb lo0 hi0 q1 (md (by decide) q9) (md (by decide) q9) (md (by decide) q9)) (hvv n0)
    ·
      exact case310 (σ := (sg n0)) hL (Known2.nil _) (tb lo0 hi0 q1 (md (by decide) q9) (md (by decide) q9) (md (by decide) q9)) (hvv n0)
    ·
      exact case311 (σ := (sg n0)) hL (Known2.nil _) (tb lo0 hi0 q1 (md (by decide) q9) (md (by decide) q9) (md (by decide) q9)) (hvv n0)
    ·
      exact case312 (σ := (sg n0)) hL (Known2.nil _) (tb lo0 hi0 q1 (md (by decide) q9) (md (by decide) q9) (md (by decide) q9)) (hvv n0)
    ·
      exact case313 (σ := (sg n0)) hL (Known2.nil _) (tb lo0 hi0 q1 (md (by decide) q9) (md (by decide) q9) (md (by decide) q9)) (hvv n0)
    ·
      exact case314 (σ := (sg n0)) hL (Known2.nil _) (tb lo0 hi0 q1 (md (by decide) q9) (md (by decide) q9) (md (by decide) q9)) (hvv n0)
    ·
      exact case315 (σ := (sg n0)) hL (Known2.nil _) (tb lo0 hi0 q1 (md (by decide) q9) (md (by decide) q9) (md (by decide) q9)) (hvv n0)
    ·
      exact case316 (σ := (sg n0)) hL (Known2.nil _) (tb lo0 hi0 q1 (md (by decide) q9) (md (by decide) q9) (md (by decide) q9)) (hvv n0)
    ·
      exact case317 (σ := (sg n0)) hL (Known2.nil _) (tb lo0 hi0 q1 (md (by decide) q9) (md (by decide) q9) (md (by decide) q9)) (hvv n0)
    ·
      exact case318 (σ := (sg n0)) hL (Known2.nil _) (tb lo0 hi0 q1 (md (by decide) q9) (md (by decide) q9) (md (by decide) q9)) (hvv n0)
    ·
      exact case319 (σ := (sg n0)) hL (Known2.nil _) (tb lo0 hi0 q1 (md (by decide) q9) (md (by decide) q9) (md (by decide) q9)) (hvv n0)
  ·
    have q10 : (n0 % 40 = 0) ∨ (n0 % 40 = 1) ∨ (n0 % 40 = 2) ∨ (n0 % 40 = 3) ∨ (n0 % 40 = 4) ∨ (n0 % 40 = 5) ∨ (n0 % 40 = 6) ∨ (n0 % 40 = 7) ∨ (n0 % 40 = 8) ∨ (n0 % 40 = 9) ∨ (n0 % 40 = 10) ∨ (n0 % 40 = 11) ∨ (n0 % 40 = 12) ∨ (n0 % 40 = 13) ∨ (n0 % 40 = 14) ∨ (n0 % 40 = 15) ∨ (n0 % 40 = 16) ∨ (n0 % 40 = 17) ∨ (n0 % 40 = 18) ∨ (n0 % 40 = 19) ∨ (n0 % 40 = 20) ∨ (n0 % 40 = 21) ∨ (n0 % 40 = 22) ∨ (n0 % 40 = 23) ∨ (n0 % 40 = 24) ∨ (n0 % 40 = 25) ∨ (n0 % 40 = 26) ∨ (n0 % 40 = 27) ∨ (n0 % 40 = 28) ∨ (n0 % 40 = 29) ∨ (n0 % 40 = 30) ∨ (n0 % 40 = 31) ∨ (n0 % 40 = 32) ∨ (n0 % 40 = 33) ∨ (n0 % 40 = 34) ∨ (n0 % 40 = 35) ∨ (n0 % 40 = 36) ∨ (n0 % 40 = 37) ∨ (n0 % 40 = 38) ∨ (n0 % 40 = 39) := by omega
    rcases q10 with q10 | q10 | q10 | q10 | q10 | q10 | q10 | q10 | q10 | q10 | q10 | q10 | q10 | q10 | q10 | q10 | q10 | q10 | q10 | q10 | q10 | q10 | q10 | q10 | q10 | q10 | q10 | q10 | q10 | q10 | q10 | q10 | q10 | q10 | q10 | q10 | q10 | q10 | q10 | q10
    ·
      exact case320 (σ := (sg n0)) hL (Known2.nil _) (tb lo0 hi0 q1 (md (by decide) q10) (md (by decide) q10) (md (by decide) q10)) (hvv n0)
    ·
      exact case321 (σ := (sg n0)) hL (Known2.nil _) (tb lo0 hi0 q1 (md (by decide) q10) (md (by decide) q10) (md (by decide) q10)) (hvv n0)
    ·
      exact case322 (σ := (sg n0)) hL (Known2.nil _) (tb lo0 hi0 q1 (md (by decide) q10) (md (by decide) q10) (md (by decide) q10)) (hvv n0)
    ·
      exact case323 (σ := (sg n0)) hL (Known2.nil _) (tb lo0 hi0 q1 (md (by decide) q10) (md (by decide) q10) (md (by decide) q10)) (hvv n0)
    ·
      exact case324 (σ := (sg n0)) hL (Known2.nil _) (tb lo0 hi0 q1 (md (by decide) q10) (md (by decide) q10) (md (by decide) q10)) (hvv n0)
    ·
      exact case325 (σ := (sg n0)) hL (Known2.nil _) (tb lo0 hi0 q1 (md (by decide) q10) (md (by decide) q10) (md (by decide) q10)) (hvv n0)
    ·
      exact case326 (σ := (sg n0)) hL (Known2.nil _) (tb lo0 hi0 q1 (md (by decide) q10) (md (by decide) q10) (md (by decide) q10)) (hvv n0)
    ·
      exact case327 (σ := (sg n0)) hL (Known2.nil _) (tb lo0 hi0 q1 (md (by decide) q10) (md (by decide) q10) (md (by decide) q10)) (hvv n0)
    ·
      exact case328 (σ := (sg n0)) hL (Known2.nil _) (tb lo0 hi0 q1 (md (by decide) q10) (md (by decide) q10) (md (by decide) q10)) (hvv n0)
    ·
      exact case329 (σ := (sg n0)) hL (Known2.nil _) (tb lo0 hi0 q1 (md (by decide) q10) (md (by decide) q10) (md (by decide) q10)) (hvv n0)
    ·
      exact case330 (σ := (sg n0)) hL (Known2.nil _) (tb lo0 hi0 q1 (md (by decide) q10) (md (by decide) q10) (md (by decide) q10)) (hvv n0)
    ·
      exact case331 (σ := (sg n0)) hL (Known2.nil _) (tb lo0 hi0 q1 (md (by decide) q10) (md (by decide) q10) (md (by decide) q10)) (hvv n0)
    ·
      exact case332 (σ := (sg n0)) hL (Known2.nil _) (tb lo0 hi0 q1 (md (by decide) q10) (md (by decide) q10) (md (by decide) q10)) (hvv n0)
    ·
      exact case333 (σ := (sg n0)) hL (Known2.nil _) (tb lo0 hi0 q1 (md (by decide) q10) (md (by decide) q10) (md (by decide) q10)) (hvv n0)
    ·
      exact case334 (σ := (sg n0)) hL (Known2.nil _) (tb lo0 hi0 q1 (md (by decide) q10) (md (by decide) q10) (md (by decide) q10)) (hvv n0)
    ·
      exact case335 (σ := (sg n0)) hL (Known2.nil _) (tb lo0 hi0 q1 (md (by decide) q10) (md (by decide) q10) (md (by decide) q10)) (hvv n0)
    ·
      exact case336 (σ := (sg n0)) hL (Known2.nil _) (tb lo0 hi0 q1 (md (by decide) q10) (md (by decide) q10) (md (by decide) q10)) (hvv n0)
    ·
      exact case337 (σ := (sg n0)) hL (Known2.nil _) (tb lo0 hi0 q1 (md (by decide) q10) (md (by decide) q10) (md (by decide) q10)) (hvv n0)
    ·
      exact case338 (σ := (sg n0)) hL (Known2.nil _) (tb lo0 hi0 q1 (md (by decide) q10) (md (by decide) q10) (md (by decide) q10)) (hvv n0)
    ·
      exact case339 (σ := (sg n0)) hL (Known2.nil _) (tb lo0 hi0 q1 (md (by decide) q10) (md (by decide) q10) (md (by decide) q10)) (hvv n0)
    ·
      exact case340 (σ := (sg n0)) hL (Known2.nil _) (tb lo0 hi0 q1 (md (by decide) q10) (md (by decide) q10) (md (by decide) q10)) (hvv n0)
    ·
      exact case341 (σ := (sg n0)) hL (Known2.nil _) (tb lo0 hi0 q1 (md (by decide) q10) (md (by decide) q10) (md (by decide) q10)) (hvv n0)
    ·
      exact case342 (σ := (sg n0)) hL (Known2.nil _) (tb lo0 hi0 q1 (md (by decide) q10) (md (by decide) q10) (md (by decide) q10)) (hvv n0)
    ·
      exact case343 (σ := (sg n0)) hL (Known2.nil _) (tb lo0 hi0 q1 (md (by decide) q10) (md (by decide) q10) (md (by decide) q10)) (hvv n0)
    ·
      exact case344 (σ := (sg n0)) hL (Known2.nil _) (tb lo0 hi0 q1 (md (by decide) q10) (md (by decide) q10) (md (by decide) q10)) (hvv n0)
    ·
      exact case345 (σ := (sg n0)) hL (Known2.nil _) (tb lo0 hi0 q1 (md (by decide) q10) (md (by decide) q10) (md (by decide) q10)) (hvv n0)
    ·
      exact case346 (σ := (sg n0)) hL (Known2.nil _) (tb lo0 hi0 q1 (md (by decide) q10) (md (by decide) q10) (md (by decide) q10)) (hvv n0)
    ·
      exact case347 (σ := (sg n0)) hL (Known2.nil _) (tb lo0 hi0 q1 (md (by decide) q10) (md (by decide) q10) (md (by decide) q10)) (hvv n0)
    ·
      exact case348 (σ := (sg n0)) hL (Known2.nil _) (tb lo0 hi0 q1 (md (by decide) q10) (md (by decide) q10) (md (by decide) q10)) (hvv n0)
    ·
      exact case349 (σ := (sg n0)) hL (Known2.nil _) (tb lo0 hi0 q1 (md (by decide) q10) (md (by decide) q10) (md (by decide) q10)) (hvv n0)
    ·
      exact case350 (σ := (sg n0)) hL (Known2.nil _) (tb lo0 hi0 q1 (md (by decide) q10) (md (by decide) q10) (md (by decide) q10)) (hvv n0)
    ·
      exact case351 (σ := (sg n0)) hL (Known2.nil _) (tb lo0 hi0 q1 (md (by decide) q10) (md (by decide) q10) (md (by decide) q10)) (hvv n0)
    ·
      exact case352 (σ := (sg n0)) hL (Known2.nil _) (tb lo0 hi0 q1 (md (by decide) q10) (md (by decide) q10) (md (by decide) q10)) (hvv n0)
    ·
      exact case353 (σ := (sg n0)) hL (Known2.nil _) (tb lo0 hi0 q1 (md (by decide) q10) (md (by decide) q10) (md (by decide) q10)) (hvv n0)
    ·
      exact case354 (σ := (sg n0)) hL (Known2.nil _) (tb lo0 hi0 q1 (md (by decide) q10) (md (by decide) q10) (md (by decide) q10)) (hvv n0)
    ·
      exact case355 (σ := (sg n0)) hL (Known2.nil _) (tb lo0 hi0 q1 (md (by decide) q10) (md (by decide) q10) (md (by decide) q10)) (hvv n0)
    ·
      exact case356 (σ := (sg n0)) hL (Known2.nil _) (tb lo0 hi0 q1 (md (by decide) q10) (md (by decide) q10) (md (by decide) q10)) (hvv n0)
    ·
      exact case357 (σ := (sg n0)) hL (Known2.nil _) (tb lo0 hi0 q1 (md (by decide) q10) (md (by decide) q10) (md (by decide) q10)) (hvv n0)
    ·
      exact case358 (σ := (sg n0)) hL (Known2.nil _) (tb lo0 hi0 q1 (md (by decide) q10) (md (by decide) q10) (md (by decide) q10)) (hvv n0)
    ·
      exact case359 (σ := (sg n0)) hL (Known2.nil _) (tb lo0 hi0 q1 (md (by decide) q10) (md (by decide) q10) (md (by decide) q10)) (hvv n0)
  ·
    have q11 : (n0 % 40 = 0) ∨ (n0 % 40 = 1) ∨ (n0 % 40 = 2) ∨ (n0 % 40 = 3) ∨ (n0 % 40 = 4) ∨ (n0 % 40 = 5) ∨ (n0 % 40 = 6) ∨ (n0 % 40 = 7) ∨ (n0 % 40 = 8) ∨ (n0 % 40 = 9) ∨ (n0 % 40 = 10) ∨ (n0 % 40 = 11) ∨ (n0 % 40 = 12) ∨ (n0 % 40 = 13) ∨ (n0 % 40 = 14) ∨ (n0 % 40 = 15) ∨ (n0 % 40 = 16) ∨ (n0 % 40 = 17) ∨ (n0 % 40 = 18) ∨ (n0 % 40 = 19) ∨ (n0 % 40 = 20) ∨ (n0 % 40 = 21) ∨ (n0 % 40 = 22) ∨ (n0 % 40 = 23) ∨ (n0 % 40 = 24) ∨ (n0 % 40 = 25) ∨ (n0 % 40 = 26) ∨ (n0 % 40 = 27) ∨ (n0 % 40 = 28) ∨ (n0 % 40 = 29) ∨ (n0 % 40 = 30) ∨ (n0 % 40 = 31) ∨ (n0 % 40 = 32) ∨ (n0 % 40 = 33) ∨ (n0 % 40 = 34) ∨ (n0 % 40 = 35) ∨ (n0 % 40 = 36) ∨ (n0 % 40 = 37) ∨ (n0 % 40 = 38) ∨ (n0 % 40 = 39) := by omega
    rcases q11 with q11 | q11 | q11 | q11 | q11 | q11 | q11 | q11 | q11 | q11 | q11 | q11 | q11 | q11 | q11 | q11 | q11 | q11 | q11 | q11 | q11 | q11 | q11 | q11 | q11 | q11 | q11 | q11 | q11 | q11 | q11 | q11 | q11 | q11 | q11 | q11 | q11 | q11 | q11 | q11
    ·
      exact case360 (σ := (sg n0)) hL (Known2.nil _) (tb lo0 hi0 q1 (md (by decide) q11) (md (by decide) q11) (md (by decide) q11)) (hvv n0)
    ·
      exact case361 (σ := (sg n0)) hL (Known2.nil _) (tb lo0 hi0 q1 (md (by decide) q11) (md (by decide) q11) (md (by decide) q11)) (hvv n0)
    ·
      exact case362 (σ := (sg n0)) hL (Known2.nil _) (tb lo0 hi0 q1 (md (by decide) q11) (md (by decide) q11) (md (by decide) q11)) (hvv n0)
    ·
      exact case363 (σ := (sg n0)) hL (Known2.nil _) (tb lo0 hi0 q1 (md (by decide) q11) (md (by decide) q11) (md (by decide) q11)) (hvv n0)
    ·
      exact case364 (σ := (sg n0)) hL (Known2.nil _) (tb lo0 hi0 q1 (md (by decide) q11) (md (by decide) q11) (md (by decide) q11)) (hvv n0)
    ·
      exact case365 (σ := (sg n0)) hL (Known2.nil _) (tb lo0 hi0 q1 (md (by decide) q11) (md (by decide) q11) (md (by decide) q11)) (hvv n0)
    ·
      exact case366 (σ := (sg n0)) hL (Known2.nil _) (tb lo0 hi0 q1 (md (by decide) q11) (md (by decide) q11) (md (by decide) q11)) (hvv n0)
    ·
      exact case367 (σ := (sg n0)) hL (Known2.nil _) (tb lo0 hi0 q1 (md (by decide) q11) (md (by decide) q11) (md (by decide) q11)) (hvv n0)
    ·
      exact case368 (σ := (sg n0)) hL (Known2.nil _) (tb lo0 hi0 q1 (md (by decide) q11) (md (by decide) q11) (md (by decide) q11)) (hvv n0)
    ·
      exact case369 (σ := (sg n0)) hL (Known2.nil _) (tb lo0 hi0 q1 (md (by decide) q11) (md (by decide) q11) (md (by decide) q11)) (hvv n0)
    ·
      exact case370 (σ := (sg n0)) hL (Known2.nil _) (tb lo0 hi0 q1 (md (by decide) q11) (md (by decide) q11) (md (by decide) q11)) (hvv n0)
    ·
      exact case371 (σ := (sg n0)) hL (Known2.nil _) (tb lo0 hi0 q1 (md (by decide) q11) (md (by decide) q11) (md (by decide) q11)) (hvv n0)
    ·
      exact case372 (σ := (sg n0)) hL (Known2.nil _) (tb lo0 hi0 q1 (md (by decide) q11) (md (by decide) q11) (md (by decide) q11)) (hvv n0)
    ·
      exact case373 (σ := (sg n0)) hL (Known2.nil _) (tb lo0 hi0 q1 (md (by decide) q11) (md (by decide) q11) (md (by decide) q11)) (hvv n0)
    ·
      exact case374 (σ := (sg n0)) hL (Known2.nil _) (tb lo0 hi0 q1 (md (by decide) q11) (md (by decide) q11) (md (by decide) q11)) (hvv n0)
    ·
      exact case375 (σ := (sg n0)) hL (Known2.nil _) (tb lo0 hi0 q1 (md (by decide) q11) (md (by decide) q11) (md (by decide) q11)) (hvv n0)
    ·
      exact case376 (σ := (sg n0)) hL (Known2.nil _) (tb lo0 hi0 q1 (md (by decide) q11) (md (by decide) q11) (md (by decide) q11)) (hvv n0)
    ·
      exact case377 (σ := (sg n0)) hL (Known2.nil _) (tb lo0 hi0 q1 (md (by decide) q11) (md (by decide) q11) (md (by decide) q11)) (hvv n0)
    ·
      exact case378 (σ := (sg n0)) hL (Known2.nil _) (tb lo0 hi0 q1 (md (by decide) q11) (md (by decide) q11) (md (by decide) q11)) (hvv n0)
    ·
      exact case379 (σ := (sg n0)) hL (Known2.nil _) (tb lo0 hi0 q1 (md (by decide) q11) (md (by decide) q11) (md (by decide) q11)) (hvv n0)
    ·
      exact case380 (σ := (sg n0)) hL (Known2.nil _) (tb lo0 hi0 q1 (md (by decide) q11) (md (by decide) q11) (md (by decide) q11)) (hvv n0)
    ·
      exact case381 (σ := (sg n0)) hL (Known2.nil _) (tb lo0 hi0 q1 (md (by decide) q11) (md (by decide) q11) (md (by decide) q11)) (hvv n0)
    ·
      exact case382 (σ := (sg n0)) hL (Known2.nil _) (tb lo0 hi0 q1 (md (by decide) q11) (md (by decide) q11) (md (by decide) q11)) (hvv n0)
    ·
      exact case383 (σ := (sg n0)) hL (Known2.nil _) (tb lo0 hi0 q1 (md (by decide) q11) (md (by decide) q11) (md (by decide) q11)) (hvv n0)
    ·
      exact case384 (σ := (sg n0)) hL (Known2.nil _) (tb lo0 hi0 q1 (md (by decide) q11) (md (by decide) q11) (md (by decide) q11)) (hvv n0)
    ·
      exact case385 (σ := (sg n0)) hL (Known2.nil _) (tb lo0 hi0 q1 (md (by decide) q11) (md (by decide) q11) (md (by decide) q11)) (hvv n0)
    ·
      exact case386 (σ := (sg n0)) hL (Known2.nil _) (tb lo0 hi0 q1 (md (by decide) q11) (md (by decide) q11) (md (by decide) q11)) (hvv n0)
    ·
      exact case387 (σ := (sg n0)) hL (Known2.nil _) (tb lo0 hi0 q1 (md (by decide) q11) (md (by decide) q11) (md (by decide) q11)) (hvv n0)
    ·
      exact case388 (σ := (sg n0)) hL (Known2.nil _) (tb lo0 hi0 q1 (md (by decide) q11) (md (by decide) q11) (md (by decide) q11)) (hvv n0)
    ·
      exact case389 (σ := (sg n0)) hL (Known2.nil _) (tb lo0 hi0 q1 (md (by decide) q11) (md (by decide) q11) (md (by decide) q11)) (hvv n0)
    ·
      exact case390 (σ := (sg n0)) hL (Known2.nil _) (tb lo0 hi0 q1 (md (by decide) q11) (md (by decide) q11) (md (by decide) q11)) (hvv n0)
    ·
      exact case391 (σ := (sg n0)) hL (Known2.nil _) (tb lo0 hi0 q1 (md (by decide) q11) (md (by decide) q11) (md (by decide) q11)) (hvv n0)
    ·
      exact case392 (σ := (sg n0)) hL (Known2.nil _) (tb lo0 hi0 q1 (md (by decide) q11) (md (by decide) q11) (md (by decide) q11)) (hvv n0)
    ·
      exact case393 (σ := (sg n0)) hL (Known2.nil _) (tb lo0 hi0 q1 (md (by decide) q11) (md (by decide) q11) (md (by decide) q11)) (hvv n0)
    ·
      exact case394 (σ := (sg n0)) hL (Known2.nil _) (tb lo0 hi0 q1 (md (by decide) q11) (md (by decide) q11) (md (by decide) q11)) (hvv n0)
    ·
      exact case395 (σ := (sg n0)) hL (Known2.nil _) (tb lo0 hi0 q1 (md (by decide) q11) (md (by decide) q11) (md (by decide) q11)) (hvv n0)
    ·
      exact case396 (σ := (sg n0)) hL (Known2.nil _) (tb lo0 hi0 q1 (md (by decide) q11) (md (by decide) q11) (md (by decide) q11)) (hvv n0)
    ·
      exact case397 (σ := (sg n0)) hL (Known2.nil _) (tb lo0 hi0 q1 (md (by decide) q11) (md (by decide) q11) (md (by decide) q11)) (hvv n0)
    ·
      exact case398 (σ := (sg n0)) hL (Known2.nil _) (tb lo0 hi0 q1 (md (by decide) q11) (md (by decide) q11) (md (by decide) q11)) (hvv n0)
    ·
      exact case399 (σ := (sg n0)) hL (Known2.nil _) (tb lo0 hi0 q1 (md (by decide) q11) (md (by decide) q11) (md (by decide) q11)) (hvv n0)
  ·
    have q12 : (n0 % 40 = 0) ∨ (n0 % 40 = 1) ∨ (n0 % 40 = 2) ∨ (n0 % 40 = 3) ∨ (n0 % 40 = 4) ∨ (n0 % 40 = 5) ∨ (n0 % 40 = 6) ∨ (n0 % 40 = 7) ∨ (n0 % 40 = 8) ∨ (n0 % 40 = 9) ∨ (n0 % 40 = 10) ∨ (n0 % 40 = 11) ∨ (n0 % 40 = 12) ∨ (n0 % 40 = 13) ∨ (n0 % 40 = 14) ∨ (n0 % 40 = 15) ∨ (n0 % 40 = 16) ∨ (n0 % 40 = 17) ∨ (n0 % 40 = 18) ∨ (n0 % 40 = 19) ∨ (n0 % 40 = 20) ∨ (n0 % 40 = 21) ∨ (n0 % 40 = 22) ∨ (n0 % 40 = 23) ∨ (n0 % 40 = 24) ∨ (n0 % 40 = 25) ∨ (n0 % 40 = 26) ∨ (n0 % 40 = 27) ∨ (n0 % 40 = 28) ∨ (n0 % 40 = 29) ∨ (n0 % 40 = 30) ∨ (n0 % 40 = 31) ∨ (n0 % 40 = 32) ∨ (n0 % 40 = 33) ∨ (n0 % 40 = 34) ∨ (n0 % 40 = 35) ∨ (n0 % 40 = 36) ∨ (n0 % 40 = 37) ∨ (n0 % 40 = 38) ∨ (n0 % 40 = 39) := by omega
    rcases q12 with q12 | q12 | q12 | q12 | q12 | q12 | q12 | q12 | q12 | q12 | q12 | q12 | q12 | q12 | q12 | q12 | q12 | q12 | q12 | q12 | q12 | q12 | q12 | q12 | q12 | q12 | q12 | q12 | q12 | q12 | q12 | q12 | q12 | q12 | q12 | q12 | q12 | q12 | q12 | q12
    ·
      exact case400 (σ := (sg n0)) hL (Known2.nil _) (tb lo0 hi0 q1 (md (by decide) q12) (md (by decide) q12) (md (by decide) q12)) (hvv n0)
    ·
      exact case401 (σ := (sg n0)) hL (Known2.nil _) (tb lo0 hi0 q1 (md (by decide) q12) (md (by decide) q12) (md (by decide) q12)) (hvv n0)
    ·
      exact case402 (σ := (sg n0)) hL (Known2.nil _) (tb lo0 hi0 q1 (md (by decide) q12) (md (by decide) q12) (md (by decide) q12)) (hvv n0)
    ·
      exact case403 (σ := (sg n0)) hL (Known2.nil _) (tb lo0 hi0 q1 (md (by decide) q12) (md (by decide) q12) (md (by decide) q12)) (hvv n0)
    ·
      exact case404 (σ := (sg n0)) hL (Known2.nil _) (tb lo0 hi0 q1 (md (by decide) q12) (md (by decide) q12) (md (by decide) q12)) (hvv n0)
    ·
      exact case405 (σ := (sg n0)) hL (Known2.nil _) (tb lo0 hi0 q1 (md (by decide) q12) (md (by decide) q12) (md (by decide) q12)) (hvv n0)
    ·
      exact case406 (σ := (sg n0)) hL (Known2.nil _) (tb lo0 hi0 q1 (md (by decide) q12) (md (by decide) q12) (md (by decide) q12)) (hvv n0)
    ·
      exact case407 (σ := (sg n0)) hL (Known2.nil _) (tb lo0 hi0 q1 (md (by decide) q12) (md (by decide) q12) (md (by decide) q12)) (hvv n0)
    ·
      exact case408 (σ := (sg n0)) hL (Known2.nil _) (tb lo0 hi0 q1 (md (by decide) q12) (md (by decide) q12) (md (by decide) q12)) (hvv n0)
    ·
      exact case409 (σ := (sg n0)) hL (Known2.nil _) (tb lo0 hi0 q1 (md (by decide) q12) (md (by decide) q12) (md (by decide) q12)) (hvv n0)
    ·
      exact case410 (σ := (sg n0)) hL (Known2.nil _) (tb lo0 hi0 q1 (md (by decide) q12) (md (by decide) q12) (md (by decide) q12)) (hvv n0)
    ·
      exact case411 (σ := (sg n0)) hL (Known2.nil _) (tb lo0 hi0 q1 (md (by decide) q12) (md (by decide) q12) (md (by decide) q12)) (hvv n0)
    ·
      exact case412 (σ := (sg n0)) hL (Known2.nil _) (tb lo0 hi0 q1 (md (by decide) q12) (md (by decide) q12) (md (by decide) q12)) (hvv n0)
    ·
      exact case413 (σ := (sg n0)) hL (Known2.nil _) (tb lo0 hi0 q1 (md (by decide) q12) (md (by decide) q12) (md (by decide) q12)) (hvv n0)
    ·
      exact case414 (σ := (sg n0)) hL (Known2.nil _) (tb lo0 hi0 q1 (md (by decide) q12) (md (by decide) q12) (md (by decide) q12)) (hvv n0)
    ·
      exact case415 (σ := (sg n0)) hL (Known2.nil _) (tb lo0 hi0 q1 (md (by decide) q12) (md (by decide) q12) (md (by decide) q12)) (hvv n0)
    ·
      exact case416 (σ := (sg n0)) hL (Known2.nil _) (tb lo0 hi0 q1 (md (by decide) q12) (md (by decide) q12) (md (by decide) q12)) (hvv n0)
    ·
      exact case417 (σ := (sg n0)) hL (Known2.nil _) (tb lo0 hi0 q1 (md (by decide) q12) (md (by decide) q12) (md (by decide) q12)) (hvv n0)
    ·
      exact case418 (σ := (sg n0)) hL (Known2.nil _) (tb lo0 hi0 q1 (md (by decide) q12) (md (by decide) q12) (md (by decide) q12)) (hvv n0)
    ·
      exact case419 (σ := (sg n0)) hL (Known2.nil _) (tb lo0 hi0 q1 (md (by decide) q12) (md (by decide) q12) (md (by decide) q12)) (hvv n0)
    ·
      exact case420 (σ := (sg n0)) hL (Known2.nil _) (tb lo0 hi0 q1 (md (by decide) q12) (md (by decide) q12) (md (by decide) q12)) (hvv n0)
    ·
      exact case421 (σ := (sg n0)) hL (Known2.nil _) (tb lo0 hi0 q1 (md (by decide) q12) (md (by decide) q12) (md (by decide) q12)) (hvv n0)
    ·
      exact case422 (σ := (sg n0)) hL (Known2.nil _) (tb lo0 hi0 q1 (md (by decide) q12) (md (by decide) q12) (md (by decide) q12)) (hvv n0)
    ·
      exact case423 (σ := (sg n0)) hL (Known2.nil _) (tb lo0 hi0 q1 (md (by decide) q12) (md (by decide) q12) (md (by decide) q12)) (hvv n0)
    ·
      exact case424 (σ := (sg n0)) hL (Known2.nil _) (tb lo0 hi0 q1 (md (by decide) q12) (md (by decide) q12) (md (by decide) q12)) (hvv n0)
    ·
      exact case425 (σ := (sg n0)) hL (Known2.nil _) (tb lo0 hi0 q1 (md (by decide) q12) (md (by decide) q12) (md (by decide) q12)) (hvv n0)
    ·
      exact case426 (σ := (sg n0)) hL (Known2.nil _) (tb lo0 hi0 q1 (md (by decide) q12) (md (by decide) q12) (md (by decide) q12)) (hvv n0)
    ·
      exact case427 (σ := (sg n0)) hL (Known2.nil _) (tb lo0 hi0 q1 (md (by decide) q12) (md (by decide) q12) (md (by decide) q12)) (hvv n0)
    ·
      exact case428 (σ := (sg n0)) hL (Known2.nil _) (tb lo0 hi0 q1 (md (by decide) q12) (md (by decide) q12) (md (by decide) q12)) (hvv n0)
    ·
      exact case429 (σ := (sg n0)) hL (Known2.nil _) (tb lo0 hi0 q1 (md (by decide) q12) (md (by decide) q12) (md (by decide) q12)) (hvv n0)
    ·
      exact case430 (σ := (sg n0)) hL (Known2.nil _) (tb lo0 hi0 q1 (md (by decide) q12) (md (by decide) q12) (md (by decide) q12)) (hvv n0)
    ·
      exact case431 (σ := (sg n0)) hL (Known2.nil _) (tb lo0 hi0 q1 (md (by decide) q12) (md (by decide) q12) (md (by decide) q12)) (hvv n0)
    ·
      exact case432 (σ := (sg n0)) hL (Known2.nil _) (tb lo0 hi0 q1 (md (by decide) q12) (md (by decide) q12) (md (by decide) q12)) (hvv n0)
    ·
      exact case433 (σ := (sg n0)) hL (Known2.nil _) (tb lo0 hi0 q1 (md (by decide) q12) (md (by decide) q12) (md (by decide) q12)) (hvv n0)
    ·
      exact case434 (σ := (sg n0)) hL (Known2.nil _) (tb lo0 hi0 q1 (md (by decide) q12) (md (by decide) q12) (md (by decide) q12)) (hvv n0)
    ·
      exact case435 (σ := (sg n0)) hL (Known2.nil _) (tb lo0 hi0 q1 (md (by decide) q12) (md (by decide) q12) (md (by decide) q12)) (hvv n0)
    ·
      exact case436 (σ := (sg n0)) hL (Known2.nil _) (tb lo0 hi0 q1 (md (by decide) q12) (md (by decide) q12) (md (by decide) q12)) (hvv n0)
    ·
      exact case437 (σ := (sg n0)) hL (Known2.nil _) (tb lo0 hi0 q1 (md (by decide) q12) (md (by decide) q12) (md (by decide) q12)) (hvv n0)
    ·
      exact case438 (σ := (sg n0)) hL (Known2.nil _) (tb lo0 hi0 q1 (md (by decide) q12) (md (by decide) q12) (md (by decide) q12)) (hvv n0)
    ·
      exact case439 (σ := (sg n0)) hL (Known2.nil _) (tb lo0 hi0 q1 (md (by decide) q12) (md (by decide) q12) (md (by decide) q12)) (hvv n0)
end Go.Proofs.YtkfhelmjaoepiabGreatDoor.deskErrors
