/- codeSays: the cases joined. -/
import Derived.Test.YtphhnhheedbjjaaDoorCsB0
import Derived.Test.YtphhnhheedbjjaaDoorCsB1
import Derived.Test.YtphhnhheedbjjaaDoorCsB2
import Derived.Test.YtphhnhheedbjjaaDoorCsB3
import Derived.Test.YtphhnhheedbjjaaDoorCsB4
import Derived.Test.YtphhnhheedbjjaaDoorCsB5
set_option linter.unusedVariables false
set_option linter.unusedSimpArgs false
set_option maxRecDepth 10000000
namespace Go.Proofs.YtphhnhheedbjjaaDoor.codeSays
open Tk
open Go.RowKit
def sc (n0_0 n0_1 n0_2 n0_3 n0_4 n1 g0 g1 g2 g3 g4 : Int) : Nat → Int := fun i => if i = 0 then n0_0 else if i = 1 then n0_1 else if i = 2 then n0_2 else if i = 3 then n0_3 else if i = 4 then n0_4 else if i = 5 then n1 else if i = 6 then g0 else if i = 7 then g1 else if i = 8 then g2 else if i = 9 then g3 else if i = 10 then g4 else 0
theorem kc {n0_0 n0_1 n0_2 n0_3 n0_4 n1 g0 g1 g2 g3 g4 : Int} {a0 b0 a1 b1 a2 b2 a3 b3 a4 b4 : Int} (h0 : a0 ≤ n0_0 ∧ n0_0 ≤ b0) (h1 : a1 ≤ n0_1 ∧ n0_1 ≤ b1) (h2 : a2 ≤ n0_2 ∧ n0_2 ≤ b2) (h3 : a3 ≤ n0_3 ∧ n0_3 ≤ b3) (h4 : a4 ≤ n0_4 ∧ n0_4 ≤ b4) (h5 : 0 ≤ n1 ∧ n1 ≤ 4294967295) :
    Known2 (sc n0_0 n0_1 n0_2 n0_3 n0_4 n1 g0 g1 g2 g3 g4) [(a0, b0), (a1, b1), (a2, b2), (a3, b3), (a4, b4), (0, 4294967295)] [] := by
  refine ⟨fun i lo hi hr => ?_, fun q a b t hm => by cases hm⟩
  rcases i with _ | _ | _ | _ | _ | _ | i
  · simp at hr; obtain ⟨rfl, rfl⟩ := hr; exact h0
  · simp at hr; obtain ⟨rfl, rfl⟩ := hr; exact h1
  · simp at hr; obtain ⟨rfl, rfl⟩ := hr; exact h2
  · simp at hr; obtain ⟨rfl, rfl⟩ := hr; exact h3
  · simp at hr; obtain ⟨rfl, rfl⟩ := hr; exact h4
  · simp at hr; obtain ⟨rfl, rfl⟩ := hr; exact h5
  · simp at hr
set_option maxHeartbeats 4000000 in
theorem walk0 {W : World} (hL : L0 W) {n0_0 n0_1 n0_2 n0_3 n0_4 n1 g0 g1 g2 g3 g4 : Int} {t : Bool} (hg : Gh t (sc n0_0 n0_1 n0_2 n0_3 n0_4 n1 g0 g1 g2 g3 g4) W) (hop : (-9223372036854775808) ≤ n0_0 ∧ n0_0 ≤ 0) (h0 : -9223372036854775808 ≤ n0_0 ∧ n0_0 ≤ 9223372036854775807) (h1 : -9223372036854775808 ≤ n0_1 ∧ n0_1 ≤ 9223372036854775807) (h2 : -9223372036854775808 ≤ n0_2 ∧ n0_2 ≤ 9223372036854775807) (h3 : -9223372036854775808 ≤ n0_3 ∧ n0_3 ≤ 9223372036854775807) (h4 : -9223372036854775808 ≤ n0_4 ∧ n0_4 ≤ 9223372036854775807) (h5 : 0 ≤ n1 ∧ n1 ≤ 4294967295) : Calls Tryd.prog 3 #[.agg #[.int .i64 n0_0, .int .i64 n0_1, .int .i64 n0_2, .int .i64 n0_3, .int .i64 n0_4], .int .u32 n1] W fun e w' => e = .returned (.bool true) ∧ Below W.heap.size W w' := by
  exact case250 hL (kc ⟨by omega, by omega⟩ ⟨by omega, by omega⟩ ⟨by omega, by omega⟩ ⟨by omega, by omega⟩ ⟨by omega, by omega⟩ h5) hg (fun ρ => VRs.cons (by unfold VR; exact ⟨_, rfl, VRs.cons (by simp [VR, E.den, sc]) (VRs.cons (by simp [VR, E.den, sc]) (VRs.cons (by simp [VR, E.den, sc]) (VRs.cons (by simp [VR, E.den, sc]) (VRs.cons (by simp [VR, E.den, sc]) (VRs.nil)))))⟩) (VRs.cons (by simp [VR, E.den, sc]) VRs.nil))
set_option maxHeartbeats 4000000 in
theorem walk1 {W : World} (hL : L0 W) {n0_0 n0_1 n0_2 n0_3 n0_4 n1 g0 g1 g2 g3 g4 : Int} {t : Bool} (hg : Gh t (sc n0_0 n0_1 n0_2 n0_3 n0_4 n1 g0 g1 g2 g3 g4) W) (hop : 1 ≤ n0_0 ∧ n0_0 ≤ 1) (h0 : -9223372036854775808 ≤ n0_0 ∧ n0_0 ≤ 9223372036854775807) (h1 : -9223372036854775808 ≤ n0_1 ∧ n0_1 ≤ 9223372036854775807) (h2 : -9223372036854775808 ≤ n0_2 ∧ n0_2 ≤ 9223372036854775807) (h3 : -9223372036854775808 ≤ n0_3 ∧ n0_3 ≤ 9223372036854775807) (h4 : -9223372036854775808 ≤ n0_4 ∧ n0_4 ≤ 9223372036854775807) (h5 : 0 ≤ n1 ∧ n1 ≤ 4294967295) : Calls Tryd.prog 3 #[.agg #[.int .i64 n0_0, .int .i64 n0_1, .int .i64 n0_2, .int .i64 n0_3, .int .i64 n0_4], .int .u32 n1] W fun e w' => e = .returned (.bool true) ∧ Below W.heap.size W w' := by
  rcases (by omega : ((-9223372036854775808) ≤ n0_1 ∧ n0_1 ≤ (-1)) ∨ (0 ≤ n0_1 ∧ n0_1 ≤ 7) ∨ (8 ≤ n0_1 ∧ n0_1 ≤ 9223372036854775807)) with q | q | q
  ·
    obtain rfl : n0_0 = 1 := by omega
    exact case0 hL (kc ⟨by omega, by omega⟩ ⟨by omega, by omega⟩ ⟨by omega, by omega⟩ ⟨by omega, by omega⟩ ⟨by omega, by omega⟩ h5) hg (fun ρ => VRs.cons (by unfold VR; exact ⟨_, rfl, VRs.cons (by simp [VR, E.den, sc]) (VRs.cons (by simp [VR, E.den, sc]) (VRs.cons (by simp [VR, E.den, sc]) (VRs.cons (by simp [VR, E.den, sc]) (VRs.cons (by simp [VR, E.den, sc]) (VRs.nil)))))⟩) (VRs.cons (by simp [VR, E.den, sc]) VRs.nil))
  ·
    rcases (by omega : ((-9223372036854775808) ≤ n0_2 ∧ n0_2 ≤ (-1)) ∨ (0 ≤ n0_2 ∧ n0_2 ≤ 0) ∨ (1 ≤ n0_2 ∧ n0_2 ≤ 9223372036854775807)) with q | q | q
    ·
      rcases (by omega : ((-9223372036854775808) ≤ n0_4 ∧ n0_4 ≤ (-1)) ∨ (0 ≤ n0_4 ∧ n0_4 ≤ 4095) ∨ (4096 ≤ n0_4 ∧ n0_4 ≤ 9223372036854775807)) with q | q | q
      ·
        obtain rfl : n0_0 = 1 := by omega
        exact case2 hL (kc ⟨by omega, by omega⟩ ⟨by omega, by omega⟩ ⟨by omega, by omega⟩ ⟨by omega, by omega⟩ ⟨by omega, by omega⟩ h5) hg (fun ρ => VRs.cons (by unfold VR; exact ⟨_, rfl, VRs.cons (by simp [VR, E.den, sc]) (VRs.cons (by simp [VR, E.den, sc]) (VRs.cons (by simp [VR, E.den, sc]) (VRs.cons (by simp [VR, E.den, sc]) (VRs.cons (by simp [VR, E.den, sc]) (VRs.nil)))))⟩) (VRs.cons (by simp [VR, E.den, sc]) VRs.nil))
      ·
        obtain rfl : n0_0 = 1 := by omega
        exact case3 hL (kc ⟨by omega, by omega⟩ ⟨by omega, by omega⟩ ⟨by omega, by omega⟩ ⟨by omega, by omega⟩ ⟨by omega, by omega⟩ h5) hg (fun ρ => VRs.cons (by unfold VR; exact ⟨_, rfl, VRs.cons (by simp [VR, E.den, sc]) (VRs.cons (by simp [VR, E.den, sc]) (VRs.cons (by simp [VR, E.den, sc]) (VRs.cons (by simp [VR, E.den, sc]) (VRs.cons (by simp [VR, E.den, sc]) (VRs.nil)))))⟩) (VRs.cons (by simp [VR, E.den, sc]) VRs.nil))
      ·
        obtain rfl : n0_0 = 1 := by omega
        exact case4 hL (kc ⟨by omega, by omega⟩ ⟨by omega, by omega⟩ ⟨by omega, by omega⟩ ⟨by omega, by omega⟩ ⟨by omega, by omega⟩ h5) hg (fun ρ => VRs.cons (by unfold VR; exact ⟨_, rfl, VRs.cons (by simp [VR, E.den, sc]) (VRs.cons (by simp [VR, E.den, sc]) (VRs.cons (by simp [VR, E.den, sc]) (VRs.cons (by simp [VR, E.den, sc]) (VRs.cons (by simp [VR, E.den, sc]) (VRs.nil)))))⟩) (VRs.cons (by simp [VR, E.den, sc]) VRs.nil))
    ·
      rcases (by omega : ((-9223372036854775808) ≤ n0_3 ∧ n0_3 ≤ (-1)) ∨ (0 ≤ n0_3 ∧ n0_3 ≤ 0) ∨ (1 ≤ n0_3 ∧ n0_3 ≤ 9223372036854775807)) with q | q | q
      ·
        rcases (by omega : ((-9223372036854775808) ≤ n0_4 ∧ n0_4 ≤ (-1)) ∨ (0 ≤ n0_4 ∧ n0_4 ≤ 4095) ∨ (4096 ≤ n0_4 ∧ n0_4 ≤ 9223372036854775807)) with q | q | q
        ·
          obtain rfl : n0_0 = 1 := by omega
          obtain rfl : n0_2 = 0 := by omega
          exact case8 hL (kc ⟨by omega, by omega⟩ ⟨by omega, by omega⟩ ⟨by omega, by omega⟩ ⟨by omega, by omega⟩ ⟨by omega, by omega⟩ h5) hg (fun ρ => VRs.cons (by unfold VR; exact ⟨_, rfl, VRs.cons (by simp [VR, E.den, sc]) (VRs.cons (by simp [VR, E.den, sc]) (VRs.cons (by simp [VR, E.den, sc]) (VRs.cons (by simp [VR, E.den, sc]) (VRs.cons (by simp [VR, E.den, sc]) (VRs.nil)))))⟩) (VRs.cons (by simp [VR, E.den, sc]) VRs.nil))
        ·
          obtain rfl : n0_0 = 1 := by omega
          obtain rfl : n0_2 = 0 := by omega
          exact case9 hL (kc ⟨by omega, by omega⟩ ⟨by omega, by omega⟩ ⟨by omega, by omega⟩ ⟨by omega, by omega⟩ ⟨by omega, by omega⟩ h5) hg (fun ρ => VRs.cons (by unfold VR; exact ⟨_, rfl, VRs.cons (by simp [VR, E.den, sc]) (VRs.cons (by simp [VR, E.den, sc]) (VRs.cons (by simp [VR, E.den, sc]) (VRs.cons (by simp [VR, E.den, sc]) (VRs.cons (by simp [VR, E.den, sc]) (VRs.nil)))))⟩) (VRs.cons (by simp [VR, E.den, sc]) VRs.nil))
        ·
          obtain rfl : n0_0 = 1 := by omega
          obtain rfl : n0_2 = 0 := by omega
          exact case10 hL (kc ⟨by omega, by omega⟩ ⟨by omega, by omega⟩ ⟨by omega, by omega⟩ ⟨by omega, by omega⟩ ⟨by omega, by omega⟩ h5) hg (fun ρ => VRs.cons (by unfold VR; exact ⟨_, rfl, VRs.cons (by simp [VR, E.den, sc]) (VRs.cons (by simp [VR, E.den, sc]) (VRs.cons (by simp [VR, E.den, sc]) (VRs.cons (by simp [VR, E.den, sc]) (VRs.cons (by simp [VR, E.den, sc]) (VRs.nil)))))⟩) (VRs.cons (by simp [VR, E.den, sc]) VRs.nil))
      ·
        rcases (by omega : ((-9223372036854775808) ≤ n0_4 ∧ n0_4 ≤ (-1)) ∨ (0 ≤ n0_4 ∧ n0_4 ≤ 9) ∨ (10 ≤ n0_4 ∧ n0_4 ≤ 99) ∨ (100 ≤ n0_4 ∧ n0_4 ≤ 999) ∨ (1000 ≤ n0_4 ∧ n0_4 ≤ 4095) ∨ (4096 ≤ n0_4 ∧ n0_4 ≤ 9223372036854775807)) with q | q | q | q | q | q
        ·
          obtain rfl : n0_0 = 1 := by omega
          obtain rfl : n0_2 = 0 := by omega
          obtain rfl : n0_3 = 0 := by omega
          exact case14 hL (kc ⟨by omega, by omega⟩ ⟨by omega, by omega⟩ ⟨by omega, by omega⟩ ⟨by omega, by omega⟩ ⟨by omega, by omega⟩ h5) hg (fun ρ => VRs.cons (by unfold VR; exact ⟨_, rfl, VRs.cons (by simp [VR, E.den, sc]) (VRs.cons (by simp [VR, E.den, sc]) (VRs.cons (by simp [VR, E.den, sc]) (VRs.cons (by simp [VR, E.den, sc]) (VRs.cons (by simp [VR, E.den, sc]) (VRs.nil)))))⟩) (VRs.cons (by simp [VR, E.den, sc]) VRs.nil))
        ·
          obtain rfl : n0_0 = 1 := by omega
          obtain rfl : n0_2 = 0 := by omega
          obtain rfl : n0_3 = 0 := by omega
          exact case16 hL (kc ⟨by omega, by omega⟩ ⟨by omega, by omega⟩ ⟨by omega, by omega⟩ ⟨by omega, by omega⟩ ⟨by omega, by omega⟩ h5) hg (fun ρ => VRs.cons (by unfold VR; exact ⟨_, rfl, VRs.cons (by simp [VR, E.den, sc]) (VRs.cons (by simp [VR, E.den, sc]) (VRs.cons (by simp [VR, E.den, sc]) (VRs.cons (by simp [VR, E.den, sc]) (VRs.cons (by simp [VR, E.den, sc]) (VRs.nil)))))⟩) (VRs.cons (by simp [VR, E.den, sc]) VRs.nil))
        ·
          obtain rfl : n0_0 = 1 := by omega
          obtain rfl : n0_2 = 0 := by omega
          obtain rfl : n0_3 = 0 := by omega
          exact case17 hL (kc ⟨by omega, by omega⟩ ⟨by omega, by omega⟩ ⟨by omega, by omega⟩ ⟨by omega, by omega⟩ ⟨by omega, by omega⟩ h5) hg (fun ρ => VRs.cons (by unfold VR; exact ⟨_, rfl, VRs.cons (by simp [VR, E.den, sc]) (VRs.cons (by simp [VR, E.den, sc]) (VRs.cons (by simp [VR, E.den, sc]) (VRs.cons (by simp [VR, E.den, sc]) (VRs.cons (by simp [VR, E.den, sc]) (VRs.nil)))))⟩) (VRs.cons (by simp [VR, E.den, sc]) VRs.nil))
        ·
          obtain rfl : n0_0 = 1 := by omega
          obtain rfl : n0_2 = 0 := by omega
          obtain rfl : n0_3 = 0 := by omega
          exact case18 hL (kc ⟨by omega, by omega⟩ ⟨by omega, by omega⟩ ⟨by omega, by omega⟩ ⟨by omega, by omega⟩ ⟨by omega, by omega⟩ h5) hg (fun ρ => VRs.cons (by unfold VR; exact ⟨_, rfl, VRs.cons (by simp [VR, E.den, sc]) (VRs.cons (by simp [VR, E.den, sc]) (VRs.cons (by simp [VR, E.den, sc]) (VRs.cons (by simp [VR, E.den, sc]) (VRs.cons (by simp [VR, E.den, sc]) (VRs.nil)))))⟩) (VRs.cons (by simp [VR, E.den, sc]) VRs.nil))
        ·
          obtain rfl : n0_0 = 1 := by omega
          obtain rfl : n0_2 = 0 := by omega
          obtain rfl : n0_3 = 0 := by omega
          exact case19 hL (kc ⟨by omega, by omega⟩ ⟨by omega, by omega⟩ ⟨by omega, by omega⟩ ⟨by omega, by omega⟩ ⟨by omega, by omega⟩ h5) hg (fun ρ => VRs.cons (by unfold VR; exact ⟨_, rfl, VRs.cons (by simp [VR, E.den, sc]) (VRs.cons (by simp [VR, E.den, sc]) (VRs.cons (by simp [VR, E.den, sc]) (VRs.cons (by simp [VR, E.den, sc]) (VRs.cons (by simp [VR, E.den, sc]) (VRs.nil)))))⟩) (VRs.cons (by simp [VR, E.den, sc]) VRs.nil))
        ·
          obtain rfl : n0_0 = 1 := by omega
          obtain rfl : n0_2 = 0 := by omega
          obtain rfl : n0_3 = 0 := by omega
          exact case15 hL (kc ⟨by omega, by omega⟩ ⟨by omega, by omega⟩ ⟨by omega, by omega⟩ ⟨by omega, by omega⟩ ⟨by omega, by omega⟩ h5) hg (fun ρ => VRs.cons (by unfold VR; exact ⟨_, rfl, VRs.cons (by simp [VR, E.den, sc]) (VRs.cons (by simp [VR, E.den, sc]) (VRs.cons (by simp [VR, E.den, sc]) (VRs.cons (by simp [VR, E.den, sc]) (VRs.cons (by simp [VR, E.den, sc]) (VRs.nil)))))⟩) (VRs.cons (by simp [VR, E.den, sc]) VRs.nil))
      ·
        rcases (by omega : ((-9223372036854775808) ≤ n0_4 ∧ n0_4 ≤ (-1)) ∨ (0 ≤ n0_4 ∧ n0_4 ≤ 4095) ∨ (4096 ≤ n0_4 ∧ n0_4 ≤ 9223372036854775807)) with q | q | q
        ·
          obtain rfl : n0_0 = 1 := by omega
          obtain rfl : n0_2 = 0 := by omega
          exact case11 hL (kc ⟨by omega, by omega⟩ ⟨by omega, by omega⟩ ⟨by omega, by omega⟩ ⟨by omega, by omega⟩ ⟨by omega, by omega⟩ h5) hg (fun ρ => VRs.cons (by unfold VR; exact ⟨_, rfl, VRs.cons (by simp [VR, E.den, sc]) (VRs.cons (by simp [VR, E.den, sc]) (VRs.cons (by simp [VR, E.den, sc]) (VRs.cons (by simp [VR, E.den, sc]) (VRs.cons (by simp [VR, E.den, sc]) (VRs.nil)))))⟩) (VRs.cons (by simp [VR, E.den, sc]) VRs.nil))
        ·
          obtain rfl : n0_0 = 1 := by omega
          obtain rfl : n0_2 = 0 := by omega
          exact case12 hL (kc ⟨by omega, by omega⟩ ⟨by omega, by omega⟩ ⟨by omega, by omega⟩ ⟨by omega, by omega⟩ ⟨by omega, by omega⟩ h5) hg (fun ρ => VRs.cons (by unfold VR; exact ⟨_, rfl, VRs.cons (by simp [VR, E.den, sc]) (VRs.cons (by simp [VR, E.den, sc]) (VRs.cons (by simp [VR, E.den, sc]) (VRs.cons (by simp [VR, E.den, sc]) (VRs.cons (by simp [VR, E.den, sc]) (VRs.nil)))))⟩) (VRs.cons (by simp [VR, E.den, sc]) VRs.nil))
        ·
          obtain rfl : n0_0 = 1 := by omega
          obtain rfl : n0_2 = 0 := by omega
          exact case13 hL (kc ⟨by omega, by omega⟩ ⟨by omega, by omega⟩ ⟨by omega, by omega⟩ ⟨by omega, by omega⟩ ⟨by omega, by omega⟩ h5) hg (fun ρ => VRs.cons (by unfold VR; exact ⟨_, rfl, VRs.cons (by simp [VR, E.den, sc]) (VRs.cons (by simp [VR, E.den, sc]) (VRs.cons (by simp [VR, E.den, sc]) (VRs.cons (by simp [VR, E.den, sc]) (VRs.cons (by simp [VR, E.den, sc]) (VRs.nil)))))⟩) (VRs.cons (by simp [VR, E.den, sc]) VRs.nil))
    ·
      rcases (by omega : ((-9223372036854775808) ≤ n0_4 ∧ n0_4 ≤ (-1)) ∨ (0 ≤ n0_4 ∧ n0_4 ≤ 4095) ∨ (4096 ≤ n0_4 ∧ n0_4 ≤ 9223372036854775807)) with q | q | q
      ·
        obtain rfl : n0_0 = 1 := by omega
        exact case5 hL (kc ⟨by omega, by omega⟩ ⟨by omega, by omega⟩ ⟨by omega, by omega⟩ ⟨by omega, by omega⟩ ⟨by omega, by omega⟩ h5) hg (fun ρ => VRs.cons (by unfold VR; exact ⟨_, rfl, VRs.cons (by simp [VR, E.den, sc]) (VRs.cons (by simp [VR, E.den, sc]) (VRs.cons (by simp [VR, E.den, sc]) (VRs.cons (by simp [VR, E.den, sc]) (VRs.cons (by simp [VR, E.den, sc]) (VRs.nil)))))⟩) (VRs.cons (by simp [VR, E.den, sc]) VRs.nil))
      ·
        obtain rfl : n0_0 = 1 := by omega
        exact case6 hL (kc ⟨by omega, by omega⟩ ⟨by omega, by omega⟩ ⟨by omega, by omega⟩ ⟨by omega, by omega⟩ ⟨by omega, by omega⟩ h5) hg (fun ρ => VRs.cons (by unfold VR; exact ⟨_, rfl, VRs.cons (by simp [VR, E.den, sc]) (VRs.cons (by simp [VR, E.den, sc]) (VRs.cons (by simp [VR, E.den, sc]) (VRs.cons (by simp [VR, E.den, sc]) (VRs.cons (by simp [VR, E.den, sc]) (VRs.nil)))))⟩) (VRs.cons (by simp [VR, E.den, sc]) VRs.nil))
      ·
        obtain rfl : n0_0 = 1 := by omega
        exact case7 hL (kc ⟨by omega, by omega⟩ ⟨by omega, by omega⟩ ⟨by omega, by omega⟩ ⟨by omega, by omega⟩ ⟨by omega, by omega⟩ h5) hg (fun ρ => VRs.cons (by unfold VR; exact ⟨_, rfl, VRs.cons (by simp [VR, E.den, sc]) (VRs.cons (by simp [VR, E.den, sc]) (VRs.cons (by simp [VR, E.den, sc]) (VRs.cons (by simp [VR, E.den, sc]) (VRs.cons (by simp [VR, E.den, sc]) (VRs.nil)))))⟩) (VRs.cons (by simp [VR, E.den, sc]) VRs.nil))
  ·
    obtain rfl : n0_0 = 1 := by omega
    exact case1 hL (kc ⟨by omega, by omega⟩ ⟨by omega, by omega⟩ ⟨by omega, by omega⟩ ⟨by omega, by omega⟩ ⟨by omega, by omega⟩ h5) hg (fun ρ => VRs.cons (by unfold VR; exact ⟨_, rfl, VRs.cons (by simp [VR, E.den, sc]) (VRs.cons (by simp [VR, E.den, sc]) (VRs.cons (by simp [VR, E.den, sc]) (VRs.cons (by simp [VR, E.den, sc]) (VRs.cons (by simp [VR, E.den, sc]) (VRs.nil)))))⟩) (VRs.cons (by simp [VR, E.den, sc]) VRs.nil))
set_option maxHeartbeats 4000000 in
theorem walk2 {W : World} (hL : L0 W) {n0_0 n0_1 n0_2 n0_3 n0_4 n1 g0 g1 g2 g3 g4 : Int} {t : Bool} (hg : Gh t (sc n0_0 n0_1 n0_2 n0_3 n0_4 n1 g0 g1 g2 g3 g4) W) (hop : 2 ≤ n0_0 ∧ n0_0 ≤ 2) (h0 : -9223372036854775808 ≤ n0_0 ∧ n0_0 ≤ 9223372036854775807) (h1 : -9223372036854775808 ≤ n0_1 ∧ n0_1 ≤ 9223372036854775807) (h2 : -9223372036854775808 ≤ n0_2 ∧ n0_2 ≤ 9223372036854775807) (h3 : -9223372036854775808 ≤ n0_3 ∧ n0_3 ≤ 9223372036854775807) (h4 : -9223372036854775808 ≤ n0_4 ∧ n0_4 ≤ 9223372036854775807) (h5 : 0 ≤ n1 ∧ n1 ≤ 4294967295) : Calls Tryd.prog 3 #[.agg #[.int .i64 n0_0, .int .i64 n0_1, .int .i64 n0_2, .int .i64 n0_3, .int .i64 n0_4], .int .u32 n1] W fun e w' => e = .returned (.bool true) ∧ Below W.heap.size W w' := by
  rcases (by omega : ((-9223372036854775808) ≤ n0_1 ∧ n0_1 ≤ (-1)) ∨ (0 ≤ n0_1 ∧ n0_1 ≤ 7) ∨ (8 ≤ n0_1 ∧ n0_1 ≤ 9223372036854775807)) with q | q | q
  ·
    obtain rfl : n0_0 = 2 := by omega
    exact case20 hL (kc ⟨by omega, by omega⟩ ⟨by omega, by omega⟩ ⟨by omega, by omega⟩ ⟨by omega, by omega⟩ ⟨by omega, by omega⟩ h5) hg (fun ρ => VRs.cons (by unfold VR; exact ⟨_, rfl, VRs.cons (by simp [VR, E.den, sc]) (VRs.cons (by simp [VR, E.den, sc]) (VRs.cons (by simp [VR, E.den, sc]) (VRs.cons (by simp [VR, E.den, sc]) (VRs.cons (by simp [VR, E.den, sc]) (VRs.nil)))))⟩) (VRs.cons (by simp [VR, E.den, sc]) VRs.nil))
  ·
    rcases (by omega : ((-9223372036854775808) ≤ n0_2 ∧ n0_2 ≤ (-1)) ∨ (0 ≤ n0_2 ∧ n0_2 ≤ 0) ∨ (1 ≤ n0_2 ∧ n0_2 ≤ 9223372036854775807)) with q | q | q
    ·
      rcases (by omega : ((-9223372036854775808) ≤ n0_4 ∧ n0_4 ≤ (-1)) ∨ (0 ≤ n0_4 ∧ n0_4 ≤ 4095) ∨ (4096 ≤ n0_4 ∧ n0_4 ≤ 9223372036854775807)) with q | q | q
      ·
        obtain rfl : n0_0 = 2 := by omega
        exact case22 hL (kc ⟨by omega, by omega⟩ ⟨by omega, by omega⟩ ⟨by omega, by omega⟩ ⟨by omega, by omega⟩ ⟨by omega, by omega⟩ h5) hg (fun ρ => VRs.cons (by unfold VR; exact ⟨_, rfl, VRs.cons (by simp [VR, E.den, sc]) (VRs.cons (by simp [VR, E.den, sc]) (VRs.cons (by simp [VR, E.den, sc]) (VRs.cons (by simp [VR, E.den, sc]) (VRs.cons (by simp [VR, E.den, sc]) (VRs.nil)))))⟩) (VRs.cons (by simp [VR, E.den, sc]) VRs.nil))
      ·
        obtain rfl : n0_0 = 2 := by omega
        exact case23 hL (kc ⟨by omega, by omega⟩ ⟨by omega, by omega⟩ ⟨by omega, by omega⟩ ⟨by omega, by omega⟩ ⟨by omega, by omega⟩ h5) hg (fun ρ => VRs.cons (by unfold VR; exact ⟨_, rfl, VRs.cons (by simp [VR, E.den, sc]) (VRs.cons (by simp [VR, E.den, sc]) (VRs.cons (by simp [VR, E.den, sc]) (VRs.cons (by simp [VR, E.den, sc]) (VRs.cons (by simp [VR, E.den, sc]) (VRs.nil)))))⟩) (VRs.cons (by simp [VR, E.den, sc]) VRs.nil))
      ·
        obtain rfl : n0_0 = 2 := by omega
        exact case24 hL (kc ⟨by omega, by omega⟩ ⟨by omega, by omega⟩ ⟨by omega, by omega⟩ ⟨by omega, by omega⟩ ⟨by omega, by omega⟩ h5) hg (fun ρ => VRs.cons (by unfold VR; exact ⟨_, rfl, VRs.cons (by simp [VR, E.den, sc]) (VRs.cons (by simp [VR, E.den, sc]) (VRs.cons (by simp [VR, E.den, sc]) (VRs.cons (by simp [VR, E.den, sc]) (VRs.cons (by simp [VR, E.den, sc]) (VRs.nil)))))⟩) (VRs.cons (by simp [VR, E.den, sc]) VRs.nil))
    ·
      rcases (by omega : ((-9223372036854775808) ≤ n0_3 ∧ n0_3 ≤ (-1)) ∨ (0 ≤ n0_3 ∧ n0_3 ≤ 0) ∨ (1 ≤ n0_3 ∧ n0_3 ≤ 9223372036854775807)) with q | q | q
      ·
        rcases (by omega : ((-9223372036854775808) ≤ n0_4 ∧ n0_4 ≤ (-1)) ∨ (0 ≤ n0_4 ∧ n0_4 ≤ 4095) ∨ (4096 ≤ n0_4 ∧ n0_4 ≤ 9223372036854775807)) with q | q | q
        ·
          obtain rfl : n0_0 = 2 := by omega
          obtain rfl : n0_2 = 0 := by omega
          exact case28 hL (kc ⟨by omega, by omega⟩ ⟨by omega, by omega⟩ ⟨by omega, by omega⟩ ⟨by omega, by omega⟩ ⟨by omega, by omega⟩ h5) hg (fun ρ => VRs.cons (by unfold VR; exact ⟨_, rfl, VRs.cons (by simp [VR, E.den, sc]) (VRs.cons (by simp [VR, E.den, sc]) (VRs.cons (by simp [VR, E.den, sc]) (VRs.cons (by simp [VR, E.den, sc]) (VRs.cons (by simp [VR, E.den, sc]) (VRs.nil)))))⟩) (VRs.cons (by simp [VR, E.den, sc]) VRs.nil))
        ·
          obtain rfl : n0_0 = 2 := by omega
          obtain rfl : n0_2 = 0 := by omega
          exact case29 hL (kc ⟨by omega, by omega⟩ ⟨by omega, by omega⟩ ⟨by omega, by omega⟩ ⟨by omega, by omega⟩ ⟨by omega, by omega⟩ h5) hg (fun ρ => VRs.cons (by unfold VR; exact ⟨_, rfl, VRs.cons (by simp [VR, E.den, sc]) (VRs.cons (by simp [VR, E.den, sc]) (VRs.cons (by simp [VR, E.den, sc]) (VRs.cons (by simp [VR, E.den, sc]) (VRs.cons (by simp [VR, E.den, sc]) (VRs.nil)))))⟩) (VRs.cons (by simp [VR, E.den, sc]) VRs.nil))
        ·
          obtain rfl : n0_0 = 2 := by omega
          obtain rfl : n0_2 = 0 := by omega
          exact case30 hL (kc ⟨by omega, by omega⟩ ⟨by omega, by omega⟩ ⟨by omega, by omega⟩ ⟨by omega, by omega⟩ ⟨by omega, by omega⟩ h5) hg (fun ρ => VRs.cons (by unfold VR; exact ⟨_, rfl, VRs.cons (by simp [VR, E.den, sc]) (VRs.cons (by simp [VR, E.den, sc]) (VRs.cons (by simp [VR, E.den, sc]) (VRs.cons (by simp [VR, E.den, sc]) (VRs.cons (by simp [VR, E.den, sc]) (VRs.nil)))))⟩) (VRs.cons (by simp [VR, E.den, sc]) VRs.nil))
      ·
        rcases (by omega : ((-9223372036854775808) ≤ n0_4 ∧ n0_4 ≤ (-1)) ∨ (0 ≤ n0_4 ∧ n0_4 ≤ 9) ∨ (10 ≤ n0_4 ∧ n0_4 ≤ 99) ∨ (100 ≤ n0_4 ∧ n0_4 ≤ 999) ∨ (1000 ≤ n0_4 ∧ n0_4 ≤ 4095) ∨ (4096 ≤ n0_4 ∧ n0_4 ≤ 9223372036854775807)) with q | q | q | q | q | q
        ·
          obtain rfl : n0_0 = 2 := by omega
          obtain rfl : n0_2 = 0 := by omega
          obtain rfl : n0_3 = 0 := by omega
          exact case34 hL (kc ⟨by omega, by omega⟩ ⟨by omega, by omega⟩ ⟨by omega, by omega⟩ ⟨by omega, by omega⟩ ⟨by omega, by omega⟩ h5) hg (fun ρ => VRs.cons (by unfold VR; exact ⟨_, rfl, VRs.cons (by simp [VR, E.den, sc]) (VRs.cons (by simp [VR, E.den, sc]) (VRs.cons (by simp [VR, E.den, sc]) (VRs.cons (by simp [VR, E.den, sc]) (VRs.cons (by simp [VR, E.den, sc]) (VRs.nil)))))⟩) (VRs.cons (by simp [VR, E.den, sc]) VRs.nil))
        ·
          obtain rfl : n0_0 = 2 := by omega
          obtain rfl : n0_2 = 0 := by omega
          obtain rfl : n0_3 = 0 := by omega
          exact case36 hL (kc ⟨by omega, by omega⟩ ⟨by omega, by omega⟩ ⟨by omega, by omega⟩ ⟨by omega, by omega⟩ ⟨by omega, by omega⟩ h5) hg (fun ρ => VRs.cons (by unfold VR; exact ⟨_, rfl, VRs.cons (by simp [VR, E.den, sc]) (VRs.cons (by simp [VR, E.den, sc]) (VRs.cons (by simp [VR, E.den, sc]) (VRs.cons (by simp [VR, E.den, sc]) (VRs.cons (by simp [VR, E.den, sc]) (VRs.nil)))))⟩) (VRs.cons (by simp [VR, E.den, sc]) VRs.nil))
        ·
          obtain rfl : n0_0 = 2 := by omega
          obtain rfl : n0_2 = 0 := by omega
          obtain rfl : n0_3 = 0 := by omega
          exact case37 hL (kc ⟨by omega, by omega⟩ ⟨by omega, by omega⟩ ⟨by omega, by omega⟩ ⟨by omega, by omega⟩ ⟨by omega, by omega⟩ h5) hg (fun ρ => VRs.cons (by unfold VR; exact ⟨_, rfl, VRs.cons (by simp [VR, E.den, sc]) (VRs.cons (by simp [VR, E.den, sc]) (VRs.cons (by simp [VR, E.den, sc]) (VRs.cons (by simp [VR, E.den, sc]) (VRs.cons (by simp [VR, E.den, sc]) (VRs.nil)))))⟩) (VRs.cons (by simp [VR, E.den, sc]) VRs.nil))
        ·
          obtain rfl : n0_0 = 2 := by omega
          obtain rfl : n0_2 = 0 := by omega
          obtain rfl : n0_3 = 0 := by omega
          exact case38 hL (kc ⟨by omega, by omega⟩ ⟨by omega, by omega⟩ ⟨by omega, by omega⟩ ⟨by omega, by omega⟩ ⟨by omega, by omega⟩ h5) hg (fun ρ => VRs.cons (by unfold VR; exact ⟨_, rfl, VRs.cons (by simp [VR, E.den, sc]) (VRs.cons (by simp [VR, E.den, sc]) (VRs.cons (by simp [VR, E.den, sc]) (VRs.cons (by simp [VR, E.den, sc]) (VRs.cons (by simp [VR, E.den, sc]) (VRs.nil)))))⟩) (VRs.cons (by simp [VR, E.den, sc]) VRs.nil))
        ·
          obtain rfl : n0_0 = 2 := by omega
          obtain rfl : n0_2 = 0 := by omega
          obtain rfl : n0_3 = 0 := by omega
          exact case39 hL (kc ⟨by omega, by omega⟩ ⟨by omega, by omega⟩ ⟨by omega, by omega⟩ ⟨by omega, by omega⟩ ⟨by omega, by omega⟩ h5) hg (fun ρ => VRs.cons (by unfold VR; exact ⟨_, rfl, VRs.cons (by simp [VR, E.den, sc]) (VRs.cons (by simp [VR, E.den, sc]) (VRs.cons (by simp [VR, E.den, sc]) (VRs.cons (by simp [VR, E.den, sc]) (VRs.cons (by simp [VR, E.den, sc]) (VRs.nil)))))⟩) (VRs.cons (by simp [VR, E.den, sc]) VRs.nil))
        ·
          obtain rfl : n0_0 = 2 := by omega
          obtain rfl : n0_2 = 0 := by omega
          obtain rfl : n0_3 = 0 := by omega
          exact case35 hL (kc ⟨by omega, by omega⟩ ⟨by omega, by omega⟩ ⟨by omega, by omega⟩ ⟨by omega, by omega⟩ ⟨by omega, by omega⟩ h5) hg (fun ρ => VRs.cons (by unfold VR; exact ⟨_, rfl, VRs.cons (by simp [VR, E.den, sc]) (VRs.cons (by simp [VR, E.den, sc]) (VRs.cons (by simp [VR, E.den, sc]) (VRs.cons (by simp [VR, E.den, sc]) (VRs.cons (by simp [VR, E.den, sc]) (VRs.nil)))))⟩) (VRs.cons (by simp [VR, E.den, sc]) VRs.nil))
      ·
        rcases (by omega : ((-9223372036854775808) ≤ n0_4 ∧ n0_4 ≤ (-1)) ∨ (0 ≤ n0_4 ∧ n0_4 ≤ 4095) ∨ (4096 ≤ n0_4 ∧ n0_4 ≤ 9223372036854775807)) with q | q | q
        ·
          obtain rfl : n0_0 = 2 := by omega
          obtain rfl : n0_2 = 0 := by omega
          exact case31 hL (kc ⟨by omega, by omega⟩ ⟨by omega, by omega⟩ ⟨by omega, by omega⟩ ⟨by omega, by omega⟩ ⟨by omega, by omega⟩ h5) hg (fun ρ => VRs.cons (by unfold VR; exact ⟨_, rfl, VRs.cons (by simp [VR, E.den, sc]) (VRs.cons (by simp [VR, E.den, sc]) (VRs.cons (by simp [VR, E.den, sc]) (VRs.cons (by simp [VR, E.den, sc]) (VRs.cons (by simp [VR, E.den, sc]) (VRs.nil)))))⟩) (VRs.cons (by simp [VR, E.den, sc]) VRs.nil))
        ·
          obtain rfl : n0_0 = 2 := by omega
          obtain rfl : n0_2 = 0 := by omega
          exact case32 hL (kc ⟨by omega, by omega⟩ ⟨by omega, by omega⟩ ⟨by omega, by omega⟩ ⟨by omega, by omega⟩ ⟨by omega, by omega⟩ h5) hg (fun ρ => VRs.cons (by unfold VR; exact ⟨_, rfl, VRs.cons (by simp [VR, E.den, sc]) (VRs.cons (by simp [VR, E.den, sc]) (VRs.cons (by simp [VR, E.den, sc]) (VRs.cons (by simp [VR, E.den, sc]) (VRs.cons (by simp [VR, E.den, sc]) (VRs.nil)))))⟩) (VRs.cons (by simp [VR, E.den, sc]) VRs.nil))
        ·
          obtain rfl : n0_0 = 2 := by omega
          obtain rfl : n0_2 = 0 := by omega
          exact case33 hL (kc ⟨by omega, by omega⟩ ⟨by omega, by omega⟩ ⟨by omega, by omega⟩ ⟨by omega, by omega⟩ ⟨by omega, by omega⟩ h5) hg (fun ρ => VRs.cons (by unfold VR; exact ⟨_, rfl, VRs.cons (by simp [VR, E.den, sc]) (VRs.cons (by simp [VR, E.den, sc]) (VRs.cons (by simp [VR, E.den, sc]) (VRs.cons (by simp [VR, E.den, sc]) (VRs.cons (by simp [VR, E.den, sc]) (VRs.nil)))))⟩) (VRs.cons (by simp [VR, E.den, sc]) VRs.nil))
    ·
      rcases (by omega : ((-9223372036854775808) ≤ n0_4 ∧ n0_4 ≤ (-1)) ∨ (0 ≤ n0_4 ∧ n0_4 ≤ 4095) ∨ (4096 ≤ n0_4 ∧ n0_4 ≤ 9223372036854775807)) with q | q | q
      ·
        obtain rfl : n0_0 = 2 := by omega
        exact case25 hL (kc ⟨by omega, by omega⟩ ⟨by omega, by omega⟩ ⟨by omega, by omega⟩ ⟨by omega, by omega⟩ ⟨by omega, by omega⟩ h5) hg (fun ρ => VRs.cons (by unfold VR; exact ⟨_, rfl, VRs.cons (by simp [VR, E.den, sc]) (VRs.cons (by simp [VR, E.den, sc]) (VRs.cons (by simp [VR, E.den, sc]) (VRs.cons (by simp [VR, E.den, sc]) (VRs.cons (by simp [VR, E.den, sc]) (VRs.nil)))))⟩) (VRs.cons (by simp [VR, E.den, sc]) VRs.nil))
      ·
        obtain rfl : n0_0 = 2 := by omega
        exact case26 hL (kc ⟨by omega, by omega⟩ ⟨by omega, by omega⟩ ⟨by omega, by omega⟩ ⟨by omega, by omega⟩ ⟨by omega, by omega⟩ h5) hg (fun ρ => VRs.cons (by unfold VR; exact ⟨_, rfl, VRs.cons (by simp [VR, E.den, sc]) (VRs.cons (by simp [VR, E.den, sc]) (VRs.cons (by simp [VR, E.den, sc]) (VRs.cons (by simp [VR, E.den, sc]) (VRs.cons (by simp [VR, E.den, sc]) (VRs.nil)))))⟩) (VRs.cons (by simp [VR, E.den, sc]) VRs.nil))
      ·
        obtain rfl : n0_0 = 2 := by omega
        exact case27 hL (kc ⟨by omega, by omega⟩ ⟨by omega, by omega⟩ ⟨by omega, by omega⟩ ⟨by omega, by omega⟩ ⟨by omega, by omega⟩ h5) hg (fun ρ => VRs.cons (by unfold VR; exact ⟨_, rfl, VRs.cons (by simp [VR, E.den, sc]) (VRs.cons (by simp [VR, E.den, sc]) (VRs.cons (by simp [VR, E.den, sc]) (VRs.cons (by simp [VR, E.den, sc]) (VRs.cons (by simp [VR, E.den, sc]) (VRs.nil)))))⟩) (VRs.cons (by simp [VR, E.den, sc]) VRs.nil))
  ·
    obtain rfl : n0_0 = 2 := by omega
    exact case21 hL (kc ⟨by omega, by omega⟩ ⟨by omega, by omega⟩ ⟨by omega, by omega⟩ ⟨by omega, by omega⟩ ⟨by omega, by omega⟩ h5) hg (fun ρ => VRs.cons (by unfold VR; exact ⟨_, rfl, VRs.cons (by simp [VR, E.den, sc]) (VRs.cons (by simp [VR, E.den, sc]) (VRs.cons (by simp [VR, E.den, sc]) (VRs.cons (by simp [VR, E.den, sc]) (VRs.cons (by simp [VR, E.den, sc]) (VRs.nil)))))⟩) (VRs.cons (by simp [VR, E.den, sc]) VRs.nil))
set_option maxHeartbeats 4000000 in
theorem walk3 {W : World} (hL : L0 W) {n0_0 n0_1 n0_2 n0_3 n0_4 n1 g0 g1 g2 g3 g4 : Int} {t : Bool} (hg : Gh t (sc n0_0 n0_1 n0_2 n0_3 n0_4 n1 g0 g1 g2 g3 g4) W) (hop : 3 ≤ n0_0 ∧ n0_0 ≤ 3) (h0 : -9223372036854775808 ≤ n0_0 ∧ n0_0 ≤ 9223372036854775807) (h1 : -9223372036854775808 ≤ n0_1 ∧ n0_1 ≤ 9223372036854775807) (h2 : -9223372036854775808 ≤ n0_2 ∧ n0_2 ≤ 9223372036854775807) (h3 : -9223372036854775808 ≤ n0_3 ∧ n0_3 ≤ 9223372036854775807) (h4 : -9223372036854775808 ≤ n0_4 ∧ n0_4 ≤ 9223372036854775807) (h5 : 0 ≤ n1 ∧ n1 ≤ 4294967295) : Calls Tryd.prog 3 #[.agg #[.int .i64 n0_0, .int .i64 n0_1, .int .i64 n0_2, .int .i64 n0_3, .int .i64 n0_4], .int .u32 n1] W fun e w' => e = .returned (.bool true) ∧ Below W.heap.size W w' := by
  rcases (by omega : ((-9223372036854775808) ≤ n0_1 ∧ n0_1 ≤ (-1)) ∨ (0 ≤ n0_1 ∧ n0_1 ≤ 7) ∨ (8 ≤ n0_1 ∧ n0_1 ≤ 9223372036854775807)) with q | q | q
  ·
    obtain rfl : n0_0 = 3 := by omega
    exact case40 hL (kc ⟨by omega, by omega⟩ ⟨by omega, by omega⟩ ⟨by omega, by omega⟩ ⟨by omega, by omega⟩ ⟨by omega, by omega⟩ h5) hg (fun ρ => VRs.cons (by unfold VR; exact ⟨_, rfl, VRs.cons (by simp [VR, E.den, sc]) (VRs.cons (by simp [VR, E.den, sc]) (VRs.cons (by simp [VR, E.den, sc]) (VRs.cons (by simp [VR, E.den, sc]) (VRs.cons (by simp [VR, E.den, sc]) (VRs.nil)))))⟩) (VRs.cons (by simp [VR, E.den, sc]) VRs.nil))
  ·
    rcases (by omega : ((-9223372036854775808) ≤ n0_2 ∧ n0_2 ≤ (-1)) ∨ (0 ≤ n0_2 ∧ n0_2 ≤ 7) ∨ (8 ≤ n0_2 ∧ n0_2 ≤ 9223372036854775807)) with q | q | q
    ·
      obtain rfl : n0_0 = 3 := by omega
      exact case42 hL (kc ⟨by omega, by omega⟩ ⟨by omega, by omega⟩ ⟨by omega, by omega⟩ ⟨by omega, by omega⟩ ⟨by omega, by omega⟩ h5) hg (fun ρ => VRs.cons (by unfold VR; exact ⟨_, rfl, VRs.cons (by simp [VR, E.den, sc]) (VRs.cons (by simp [VR, E.den, sc]) (VRs.cons (by simp [VR, E.den, sc]) (VRs.cons (by simp [VR, E.den, sc]) (VRs.cons (by simp [VR, E.den, sc]) (VRs.nil)))))⟩) (VRs.cons (by simp [VR, E.den, sc]) VRs.nil))
    ·
      rcases (by omega : ((-9223372036854775808) ≤ n0_3 ∧ n0_3 ≤ (-1)) ∨ (0 ≤ n0_3 ∧ n0_3 ≤ 7) ∨ (8 ≤ n0_3 ∧ n0_3 ≤ 9223372036854775807)) with q | q | q
      ·
        obtain rfl : n0_0 = 3 := by omega
        exact case44 hL (kc ⟨by omega, by omega⟩ ⟨by omega, by omega⟩ ⟨by omega, by omega⟩ ⟨by omega, by omega⟩ ⟨by omega, by omega⟩ h5) hg (fun ρ => VRs.cons (by unfold VR; exact ⟨_, rfl, VRs.cons (by simp [VR, E.den, sc]) (VRs.cons (by simp [VR, E.den, sc]) (VRs.cons (by simp [VR, E.den, sc]) (VRs.cons (by simp [VR, E.den, sc]) (VRs.cons (by simp [VR, E.den, sc]) (VRs.nil)))))⟩) (VRs.cons (by simp [VR, E.den, sc]) VRs.nil))
      ·
        rcases (by omega : ((-9223372036854775808) ≤ n0_4 ∧ n0_4 ≤ (-1)) ∨ (0 ≤ n0_4 ∧ n0_4 ≤ 0) ∨ (1 ≤ n0_4 ∧ n0_4 ≤ 1) ∨ (2 ≤ n0_4 ∧ n0_4 ≤ 2) ∨ (3 ≤ n0_4 ∧ n0_4 ≤ 3) ∨ (4 ≤ n0_4 ∧ n0_4 ≤ 4) ∨ (5 ≤ n0_4 ∧ n0_4 ≤ 5) ∨ (6 ≤ n0_4 ∧ n0_4 ≤ 6) ∨ (7 ≤ n0_4 ∧ n0_4 ≤ 7) ∨ (8 ≤ n0_4 ∧ n0_4 ≤ 8) ∨ (9 ≤ n0_4 ∧ n0_4 ≤ 9) ∨ (10 ≤ n0_4 ∧ n0_4 ≤ 10) ∨ (11 ≤ n0_4 ∧ n0_4 ≤ 11) ∨ (12 ≤ n0_4 ∧ n0_4 ≤ 9223372036854775807)) with q | q | q | q | q | q | q | q | q | q | q | q | q | q
        ·
          obtain rfl : n0_0 = 3 := by omega
          exact case46 hL (kc ⟨by omega, by omega⟩ ⟨by omega, by omega⟩ ⟨by omega, by omega⟩ ⟨by omega, by omega⟩ ⟨by omega, by omega⟩ h5) hg (fun ρ => VRs.cons (by unfold VR; exact ⟨_, rfl, VRs.cons (by simp [VR, E.den, sc]) (VRs.cons (by simp [VR, E.den, sc]) (VRs.cons (by simp [VR, E.den, sc]) (VRs.cons (by simp [VR, E.den, sc]) (VRs.cons (by simp [VR, E.den, sc]) (VRs.nil)))))⟩) (VRs.cons (by simp [VR, E.den, sc]) VRs.nil))
        ·
          obtain rfl : n0_0 = 3 := by omega
          obtain rfl : n0_4 = 0 := by omega
          exact case48 hL (kc ⟨by omega, by omega⟩ ⟨by omega, by omega⟩ ⟨by omega, by omega⟩ ⟨by omega, by omega⟩ ⟨by omega, by omega⟩ h5) hg (fun ρ => VRs.cons (by unfold VR; exact ⟨_, rfl, VRs.cons (by simp [VR, E.den, sc]) (VRs.cons (by simp [VR, E.den, sc]) (VRs.cons (by simp [VR, E.den, sc]) (VRs.cons (by simp [VR, E.den, sc]) (VRs.cons (by simp [VR, E.den, sc]) (VRs.nil)))))⟩) (VRs.cons (by simp [VR, E.den, sc]) VRs.nil))
        ·
          obtain rfl : n0_0 = 3 := by omega
          obtain rfl : n0_4 = 1 := by omega
          exact case49 hL (kc ⟨by omega, by omega⟩ ⟨by omega, by omega⟩ ⟨by omega, by omega⟩ ⟨by omega, by omega⟩ ⟨by omega, by omega⟩ h5) hg (fun ρ => VRs.cons (by unfold VR; exact ⟨_, rfl, VRs.cons (by simp [VR, E.den, sc]) (VRs.cons (by simp [VR, E.den, sc]) (VRs.cons (by simp [VR, E.den, sc]) (VRs.cons (by simp [VR, E.den, sc]) (VRs.cons (by simp [VR, E.den, sc]) (VRs.nil)))))⟩) (VRs.cons (by simp [VR, E.den, sc]) VRs.nil))
        ·
          obtain rfl : n0_0 = 3 := by omega
          obtain rfl : n0_4 = 2 := by omega
          exact case50 hL (kc ⟨by omega, by omega⟩ ⟨by omega, by omega⟩ ⟨by omega, by omega⟩ ⟨by omega, by omega⟩ ⟨by omega, by omega⟩ h5) hg (fun ρ => VRs.cons (by unfold VR; exact ⟨_, rfl, VRs.cons (by simp [VR, E.den, sc]) (VRs.cons (by simp [VR, E.den, sc]) (VRs.cons (by simp [VR, E.den, sc]) (VRs.cons (by simp [VR, E.den, sc]) (VRs.cons (by simp [VR, E.den, sc]) (VRs.nil)))))⟩) (VRs.cons (by simp [VR, E.den, sc]) VRs.nil))
        ·
          obtain rfl : n0_0 = 3 := by omega
          obtain rfl : n0_4 = 3 := by omega
          exact case51 hL (kc ⟨by omega, by omega⟩ ⟨by omega, by omega⟩ ⟨by omega, by omega⟩ ⟨by omega, by omega⟩ ⟨by omega, by omega⟩ h5) hg (fun ρ => VRs.cons (by unfold VR; exact ⟨_, rfl, VRs.cons (by simp [VR, E.den, sc]) (VRs.cons (by simp [VR, E.den, sc]) (VRs.cons (by simp [VR, E.den, sc]) (VRs.cons (by simp [VR, E.den, sc]) (VRs.cons (by simp [VR, E.den, sc]) (VRs.nil)))))⟩) (VRs.cons (by simp [VR, E.den, sc]) VRs.nil))
        ·
          obtain rfl : n0_0 = 3 := by omega
          obtain rfl : n0_4 = 4 := by omega
          exact case52 hL (kc ⟨by omega, by omega⟩ ⟨by omega, by omega⟩ ⟨by omega, by omega⟩ ⟨by omega, by omega⟩ ⟨by omega, by omega⟩ h5) hg (fun ρ => VRs.cons (by unfold VR; exact ⟨_, rfl, VRs.cons (by simp [VR, E.den, sc]) (VRs.cons (by simp [VR, E.den, sc]) (VRs.cons (by simp [VR, E.den, sc]) (VRs.cons (by simp [VR, E.den, sc]) (VRs.cons (by simp [VR, E.den, sc]) (VRs.nil)))))⟩) (VRs.cons (by simp [VR, E.den, sc]) VRs.nil))
        ·
          obtain rfl : n0_0 = 3 := by omega
          obtain rfl : n0_4 = 5 := by omega
          exact case53 hL (kc ⟨by omega, by omega⟩ ⟨by omega, by omega⟩ ⟨by omega, by omega⟩ ⟨by omega, by omega⟩ ⟨by omega, by omega⟩ h5) hg (fun ρ => VRs.cons (by unfold VR; exact ⟨_, rfl, VRs.cons (by simp [VR, E.den, sc]) (VRs.cons (by simp [VR, E.den, sc]) (VRs.cons (by simp [VR, E.den, sc]) (VRs.cons (by simp [VR, E.den, sc]) (VRs.cons (by simp [VR, E.den, sc]) (VRs.nil)))))⟩) (VRs.cons (by simp [VR, E.den, sc]) VRs.nil))
        ·
          obtain rfl : n0_0 = 3 := by omega
          obtain rfl : n0_4 = 6 := by omega
          exact case54 hL (kc ⟨by omega, by omega⟩ ⟨by omega, by omega⟩ ⟨by omega, by omega⟩ ⟨by omega, by omega⟩ ⟨by omega, by omega⟩ h5) hg (fun ρ => VRs.cons (by unfold VR; exact ⟨_, rfl, VRs.cons (by simp [VR, E.den, sc]) (VRs.cons (by simp [VR, E.den, sc]) (VRs.cons (by simp [VR, E.den, sc]) (VRs.cons (by simp [VR, E.den, sc]) (VRs.cons (by simp [VR, E.den, sc]) (VRs.nil)))))⟩) (VRs.cons (by simp [VR, E.den, sc]) VRs.nil))
        ·
          obtain rfl : n0_0 = 3 := by omega
          obtain rfl : n0_4 = 7 := by omega
          exact case55 hL (kc ⟨by omega, by omega⟩ ⟨by omega, by omega⟩ ⟨by omega, by omega⟩ ⟨by omega, by omega⟩ ⟨by omega, by omega⟩ h5) hg (fun ρ => VRs.cons (by unfold VR; exact ⟨_, rfl, VRs.cons (by simp [VR, E.den, sc]) (VRs.cons (by simp [VR, E.den, sc]) (VRs.cons (by simp [VR, E.den, sc]) (VRs.cons (by simp [VR, E.den, sc]) (VRs.cons (by simp [VR, E.den, sc]) (VRs.nil)))))⟩) (VRs.cons (by simp [VR, E.den, sc]) VRs.nil))
        ·
          obtain rfl : n0_0 = 3 := by omega
          obtain rfl : n0_4 = 8 := by omega
          exact case56 hL (kc ⟨by omega, by omega⟩ ⟨by omega, by omega⟩ ⟨by omega, by omega⟩ ⟨by omega, by omega⟩ ⟨by omega, by omega⟩ h5) hg (fun ρ => VRs.cons (by unfold VR; exact ⟨_, rfl, VRs.cons (by simp [VR, E.den, sc]) (VRs.cons (by simp [VR, E.den, sc]) (VRs.cons (by simp [VR, E.den, sc]) (VRs.cons (by simp [VR, E.den, sc]) (VRs.cons (by simp [VR, E.den, sc]) (VRs.nil)))))⟩) (VRs.cons (by simp [VR, E.den, sc]) VRs.nil))
        ·
          obtain rfl : n0_0 = 3 := by omega
          obtain rfl : n0_4 = 9 := by omega
          exact case57 hL (kc ⟨by omega, by omega⟩ ⟨by omega, by omega⟩ ⟨by omega, by omega⟩ ⟨by omega, by omega⟩ ⟨by omega, by omega⟩ h5) hg (fun ρ => VRs.cons (by unfold VR; exact ⟨_, rfl, VRs.cons (by simp [VR, E.den, sc]) (VRs.cons (by simp [VR, E.den, sc]) (VRs.cons (by simp [VR, E.den, sc]) (VRs.cons (by simp [VR, E.den, sc]) (VRs.cons (by simp [VR, E.den, sc]) (VRs.nil)))))⟩) (VRs.cons (by simp [VR, E.den, sc]) VRs.nil))
        ·
          obtain rfl : n0_0 = 3 := by omega
          obtain rfl : n0_4 = 10 := by omega
          exact case58 hL (kc ⟨by omega, by omega⟩ ⟨by omega, by omega⟩ ⟨by omega, by omega⟩ ⟨by omega, by omega⟩ ⟨by omega, by omega⟩ h5) hg (fun ρ => VRs.cons (by unfold VR; exact ⟨_, rfl, VRs.cons (by simp [VR, E.den, sc]) (VRs.cons (by simp [VR, E.den, sc]) (VRs.cons (by simp [VR, E.den, sc]) (VRs.cons (by simp [VR, E.den, sc]) (VRs.cons (by simp [VR, E.den, sc]) (VRs.nil)))))⟩) (VRs.cons (by simp [VR, E.den, sc]) VRs.nil))
        ·
          obtain rfl : n0_0 = 3 := by omega
          obtain rfl : n0_4 = 11 := by omega
          exact case59 hL (kc ⟨by omega, by omega⟩ ⟨by omega, by omega⟩ ⟨by omega, by omega⟩ ⟨by omega, by omega⟩ ⟨by omega, by omega⟩ h5) hg (fun ρ => VRs.cons (by unfold VR; exact ⟨_, rfl, VRs.cons (by simp [VR, E.den, sc]) (VRs.cons (by simp [VR, E.den, sc]) (VRs.cons (by simp [VR, E.den, sc]) (VRs.cons (by simp [VR, E.den, sc]) (VRs.cons (by simp [VR, E.den, sc]) (VRs.nil)))))⟩) (VRs.cons (by simp [VR, E.den, sc]) VRs.nil))
        ·
          obtain rfl : n0_0 = 3 := by omega
          exact case47 hL (kc ⟨by omega, by omega⟩ ⟨by omega, by omega⟩ ⟨by omega, by omega⟩ ⟨by omega, by omega⟩ ⟨by omega, by omega⟩ h5) hg (fun ρ => VRs.cons (by unfold VR; exact ⟨_, rfl, VRs.cons (by simp [VR, E.den, sc]) (VRs.cons (by simp [VR, E.den, sc]) (VRs.cons (by simp [VR, E.den, sc]) (VRs.cons (by simp [VR, E.den, sc]) (VRs.cons (by simp [VR, E.den, sc]) (VRs.nil)))))⟩) (VRs.cons (by simp [VR, E.den, sc]) VRs.nil))
      ·
        obtain rfl : n0_0 = 3 := by omega
        exact case45 hL (kc ⟨by omega, by omega⟩ ⟨by omega, by omega⟩ ⟨by omega, by omega⟩ ⟨by omega, by omega⟩ ⟨by omega, by omega⟩ h5) hg (fun ρ => VRs.cons (by unfold VR; exact ⟨_, rfl, VRs.cons (by simp [VR, E.den, sc]) (VRs.cons (by simp [VR, E.den, sc]) (VRs.cons (by simp [VR, E.den, sc]) (VRs.cons (by simp [VR, E.den, sc]) (VRs.cons (by simp [VR, E.den, sc]) (VRs.nil)))))⟩) (VRs.cons (by simp [VR, E.den, sc]) VRs.nil))
    ·
      obtain rfl : n0_0 = 3 := by omega
      exact case43 hL (kc ⟨by omega, by omega⟩ ⟨by omega, by omega⟩ ⟨by omega, by omega⟩ ⟨by omega, by omega⟩ ⟨by omega, by omega⟩ h5) hg (fun ρ => VRs.cons (by unfold VR; exact ⟨_, rfl, VRs.cons (by simp [VR, E.den, sc]) (VRs.cons (by simp [VR, E.den, sc]) (VRs.cons (by simp [VR, E.den, sc]) (VRs.cons (by simp [VR, E.den, sc]) (VRs.cons (by simp [VR, E.den, sc]) (VRs.nil)))))⟩) (VRs.cons (by simp [VR, E.den, sc]) VRs.nil))
  ·
    obtain rfl : n0_0 = 3 := by omega
    exact case41 hL (kc ⟨by omega, by omega⟩ ⟨by omega, by omega⟩ ⟨by omega, by omega⟩ ⟨by omega, by omega⟩ ⟨by omega, by omega⟩ h5) hg (fun ρ => VRs.cons (by unfold VR; exact ⟨_, rfl, VRs.cons (by simp [VR, E.den, sc]) (VRs.cons (by simp [VR, E.den, sc]) (VRs.cons (by simp [VR, E.den, sc]) (VRs.cons (by simp [VR, E.den, sc]) (VRs.cons (by simp [VR, E.den, sc]) (VRs.nil)))))⟩) (VRs.cons (by simp [VR, E.den, sc]) VRs.nil))
set_option maxHeartbeats 4000000 in
theorem walk4 {W : World} (hL : L0 W) {n0_0 n0_1 n0_2 n0_3 n0_4 n1 g0 g1 g2 g3 g4 : Int} {t : Bool} (hg : Gh t (sc n0_0 n0_1 n0_2 n0_3 n0_4 n1 g0 g1 g2 g3 g4) W) (hop : 4 ≤ n0_0 ∧ n0_0 ≤ 4) (h0 : -9223372036854775808 ≤ n0_0 ∧ n0_0 ≤ 9223372036854775807) (h1 : -9223372036854775808 ≤ n0_1 ∧ n0_1 ≤ 9223372036854775807) (h2 : -9223372036854775808 ≤ n0_2 ∧ n0_2 ≤ 9223372036854775807) (h3 : -9223372036854775808 ≤ n0_3 ∧ n0_3 ≤ 9223372036854775807) (h4 : -9223372036854775808 ≤ n0_4 ∧ n0_4 ≤ 9223372036854775807) (h5 : 0 ≤ n1 ∧ n1 ≤ 4294967295) : Calls Tryd.prog 3 #[.agg #[.int .i64 n0_0, .int .i64 n0_1, .int .i64 n0_2, .int .i64 n0_3, .int .i64 n0_4], .int .u32 n1] W fun e w' => e = .returned (.bool true) ∧ Below W.heap.size W w' := by
  rcases (by omega : ((-9223372036854775808) ≤ n0_1 ∧ n0_1 ≤ (-1)) ∨ (0 ≤ n0_1 ∧ n0_1 ≤ 0) ∨ (1 ≤ n0_1 ∧ n0_1 ≤ 9223372036854775807)) with q | q | q
  ·
    rcases (by omega : ((-9223372036854775808) ≤ n0_4 ∧ n0_4 ≤ (-1)) ∨ (0 ≤ n0_4 ∧ n0_4 ≤ 4095) ∨ (4096 ≤ n0_4 ∧ n0_4 ≤ 9223372036854775807)) with q | q | q
    ·
      obtain rfl : n0_0 = 4 := by omega
      exact case60 hL (kc ⟨by omega, by omega⟩ ⟨by omega, by omega⟩ ⟨by omega, by omega⟩ ⟨by omega, by omega⟩ ⟨by omega, by omega⟩ h5) hg (fun ρ => VRs.cons (by unfold VR; exact ⟨_, rfl, VRs.cons (by simp [VR, E.den, sc]) (VRs.cons (by simp [VR, E.den, sc]) (VRs.cons (by simp [VR, E.den, sc]) (VRs.cons (by simp [VR, E.den, sc]) (VRs.cons (by simp [VR, E.den, sc]) (VRs.nil)))))⟩) (VRs.cons (by simp [VR, E.den, sc]) VRs.nil))
    ·
      obtain rfl : n0_0 = 4 := by omega
      exact case61 hL (kc ⟨by omega, by omega⟩ ⟨by omega, by omega⟩ ⟨by omega, by omega⟩ ⟨by omega, by omega⟩ ⟨by omega, by omega⟩ h5) hg (fun ρ => VRs.cons (by unfold VR; exact ⟨_, rfl, VRs.cons (by simp [VR, E.den, sc]) (VRs.cons (by simp [VR, E.den, sc]) (VRs.cons (by simp [VR, E.den, sc]) (VRs.cons (by simp [VR, E.den, sc]) (VRs.cons (by simp [VR, E.den, sc]) (VRs.nil)))))⟩) (VRs.cons (by simp [VR, E.den, sc]) VRs.nil))
    ·
      obtain rfl : n0_0 = 4 := by omega
      exact case62 hL (kc ⟨by omega, by omega⟩ ⟨by omega, by omega⟩ ⟨by omega, by omega⟩ ⟨by omega, by omega⟩ ⟨by omega, by omega⟩ h5) hg (fun ρ => VRs.cons (by unfold VR; exact ⟨_, rfl, VRs.cons (by simp [VR, E.den, sc]) (VRs.cons (by simp [VR, E.den, sc]) (VRs.cons (by simp [VR, E.den, sc]) (VRs.cons (by simp [VR, E.den, sc]) (VRs.cons (by simp [VR, E.den, sc]) (VRs.nil)))))⟩) (VRs.cons (by simp [VR, E.den, sc]) VRs.nil))
  ·
    rcases (by omega : ((-9223372036854775808) ≤ n0_2 ∧ n0_2 ≤ (-1)) ∨ (0 ≤ n0_2 ∧ n0_2 ≤ 0) ∨ (1 ≤ n0_2 ∧ n0_2 ≤ 9223372036854775807)) with q | q | q
    ·
      rcases (by omega : ((-9223372036854775808) ≤ n0_4 ∧ n0_4 ≤ (-1)) ∨ (0 ≤ n0_4 ∧ n0_4 ≤ 4095) ∨ (4096 ≤ n0_4 ∧ n0_4 ≤ 9223372036854775807)) with q | q | q
      ·
        obtain rfl : n0_0 = 4 := by omega
        obtain rfl : n0_1 = 0 := by omega
        exact case66 hL (kc ⟨by omega, by omega⟩ ⟨by omega, by omega⟩ ⟨by omega, by omega⟩ ⟨by omega, by omega⟩ ⟨by omega, by omega⟩ h5) hg (fun ρ => VRs.cons (by unfold VR; exact ⟨_, rfl, VRs.cons (by simp [VR, E.den, sc]) (VRs.cons (by simp [VR, E.den, sc]) (VRs.cons (by simp [VR, E.den, sc]) (VRs.cons (by simp [VR, E.den, sc]) (VRs.cons (by simp [VR, E.den, sc]) (VRs.nil)))))⟩) (VRs.cons (by simp [VR, E.den, sc]) VRs.nil))
      ·
        obtain rfl : n0_0 = 4 := by omega
        obtain rfl : n0_1 = 0 := by omega
        exact case67 hL (kc ⟨by omega, by omega⟩ ⟨by omega, by omega⟩ ⟨by omega, by omega⟩ ⟨by omega, by omega⟩ ⟨by omega, by omega⟩ h5) hg (fun ρ => VRs.cons (by unfold VR; exact ⟨_, rfl, VRs.cons (by simp [VR, E.den, sc]) (VRs.cons (by simp [VR, E.den, sc]) (VRs.cons (by simp [VR, E.den, sc]) (VRs.cons (by simp [VR, E.den, sc]) (VRs.cons (by simp [VR, E.den, sc]) (VRs.nil)))))⟩) (VRs.cons (by simp [VR, E.den, sc]) VRs.nil))
      ·
        obtain rfl : n0_0 = 4 := by omega
        obtain rfl : n0_1 = 0 := by omega
        exact case68 hL (kc ⟨by omega, by omega⟩ ⟨by omega, by omega⟩ ⟨by omega, by omega⟩ ⟨by omega, by omega⟩ ⟨by omega, by omega⟩ h5) hg (fun ρ => VRs.cons (by unfold VR; exact ⟨_, rfl, VRs.cons (by simp [VR, E.den, sc]) (VRs.cons (by simp [VR, E.den, sc]) (VRs.cons (by simp [VR, E.den, sc]) (VRs.cons (by simp [VR, E.den, sc]) (VRs.cons (by simp [VR, E.den, sc]) (VRs.nil)))))⟩) (VRs.cons (by simp [VR, E.den, sc]) VRs.nil))
    ·
      rcases (by omega : ((-9223372036854775808) ≤ n0_3 ∧ n0_3 ≤ (-1)) ∨ (0 ≤ n0_3 ∧ n0_3 ≤ 0) ∨ (1 ≤ n0_3 ∧ n0_3 ≤ 9223372036854775807)) with q | q | q
      ·
        rcases (by omega : ((-9223372036854775808) ≤ n0_4 ∧ n0_4 ≤ (-1)) ∨ (0 ≤ n0_4 ∧ n0_4 ≤ 4095) ∨ (4096 ≤ n0_4 ∧ n0_4 ≤ 9223372036854775807)) with q | q | q
        ·
          obtain rfl : n0_0 = 4 := by omega
          obtain rfl : n0_1 = 0 := by omega
          obtain rfl : n0_2 = 0 := by omega
          exact case72 hL (kc ⟨by omega, by omega⟩ ⟨by omega, by omega⟩ ⟨by omega, by omega⟩ ⟨by omega, by omega⟩ ⟨by omega, by omega⟩ h5) hg (fun ρ => VRs.cons (by unfold VR; exact ⟨_, rfl, VRs.cons (by simp [VR, E.den, sc]) (VRs.cons (by simp [VR, E.den, sc]) (VRs.cons (by simp [VR, E.den, sc]) (VRs.cons (by simp [VR, E.den, sc]) (VRs.cons (by simp [VR, E.den, sc]) (VRs.nil)))))⟩) (VRs.cons (by simp [VR, E.den, sc]) VRs.nil))
        ·
          obtain rfl : n0_0 = 4 := by omega
          obtain rfl : n0_1 = 0 := by omega
          obtain rfl : n0_2 = 0 := by omega
          exact case73 hL (kc ⟨by omega, by omega⟩ ⟨by omega, by omega⟩ ⟨by omega, by omega⟩ ⟨by omega, by omega⟩ ⟨by omega, by omega⟩ h5) hg (fun ρ => VRs.cons (by unfold VR; exact ⟨_, rfl, VRs.cons (by simp [VR, E.den, sc]) (VRs.cons (by simp [VR, E.den, sc]) (VRs.cons (by simp [VR, E.den, sc]) (VRs.cons (by simp [VR, E.den, sc]) (VRs.cons (by simp [VR, E.den, sc]) (VRs.nil)))))⟩) (VRs.cons (by simp [VR, E.den, sc]) VRs.nil))
        ·
          obtain rfl : n0_0 = 4 := by omega
          obtain rfl : n0_1 = 0 := by omega
          obtain rfl : n0_2 = 0 := by omega
          exact case74 hL (kc ⟨by omega, by omega⟩ ⟨by omega, by omega⟩ ⟨by omega, by omega⟩ ⟨by omega, by omega⟩ ⟨by omega, by omega⟩ h5) hg (fun ρ => VRs.cons (by unfold VR; exact ⟨_, rfl, VRs.cons (by simp [VR, E.den, sc]) (VRs.cons (by simp [VR, E.den, sc]) (VRs.cons (by simp [VR, E.den, sc]) (VRs.cons (by simp [VR, E.den, sc]) (VRs.cons (by simp [VR, E.den, sc]) (VRs.nil)))))⟩) (VRs.cons (by simp [VR, E.den, sc]) VRs.nil))
      ·
        rcases (by omega : ((-9223372036854775808) ≤ n0_4 ∧ n0_4 ≤ (-1)) ∨ (0 ≤ n0_4 ∧ n0_4 ≤ 9) ∨ (10 ≤ n0_4 ∧ n0_4 ≤ 99) ∨ (100 ≤ n0_4 ∧ n0_4 ≤ 999) ∨ (1000 ≤ n0_4 ∧ n0_4 ≤ 4095) ∨ (4096 ≤ n0_4 ∧ n0_4 ≤ 9223372036854775807)) with q | q | q | q | q | q
        ·
          obtain rfl : n0_0 = 4 := by omega
          obtain rfl : n0_1 = 0 := by omega
          obtain rfl : n0_2 = 0 := by omega
          obtain rfl : n0_3 = 0 := by omega
          exact case78 hL (kc ⟨by omega, by omega⟩ ⟨by omega, by omega⟩ ⟨by omega, by omega⟩ ⟨by omega, by omega⟩ ⟨by omega, by omega⟩ h5) hg (fun ρ => VRs.cons (by unfold VR; exact ⟨_, rfl, VRs.cons (by simp [VR, E.den, sc]) (VRs.cons (by simp [VR, E.den, sc]) (VRs.cons (by simp [VR, E.den, sc]) (VRs.cons (by simp [VR, E.den, sc]) (VRs.cons (by simp [VR, E.den, sc]) (VRs.nil)))))⟩) (VRs.cons (by simp [VR, E.den, sc]) VRs.nil))
        ·
          obtain rfl : n0_0 = 4 := by omega
          obtain rfl : n0_1 = 0 := by omega
          obtain rfl : n0_2 = 0 := by omega
          obtain rfl : n0_3 = 0 := by omega
          exact case80 hL (kc ⟨by omega, by omega⟩ ⟨by omega, by omega⟩ ⟨by omega, by omega⟩ ⟨by omega, by omega⟩ ⟨by omega, by omega⟩ h5) hg (fun ρ => VRs.cons (by unfold VR; exact ⟨_, rfl, VRs.cons (by simp [VR, E.den, sc]) (VRs.cons (by simp [VR, E.den, sc]) (VRs.cons (by simp [VR, E.den, sc]) (VRs.cons (by simp [VR, E.den, sc]) (VRs.cons (by simp [VR, E.den, sc]) (VRs.nil)))))⟩) (VRs.cons (by simp [VR, E.den, sc]) VRs.nil))
        ·
          obtain rfl : n0_0 = 4 := by omega
          obtain rfl : n0_1 = 0 := by omega
          obtain rfl : n0_2 = 0 := by omega
          obtain rfl : n0_3 = 0 := by omega
          exact case81 hL (kc ⟨by omega, by omega⟩ ⟨by omega, by omega⟩ ⟨by omega, by omega⟩ ⟨by omega, by omega⟩ ⟨by omega, by omega⟩ h5) hg (fun ρ => VRs.cons (by unfold VR; exact ⟨_, rfl, VRs.cons (by simp [VR, E.den, sc]) (VRs.cons (by simp [VR, E.den, sc]) (VRs.cons (by simp [VR, E.den, sc]) (VRs.cons (by simp [VR, E.den, sc]) (VRs.cons (by simp [VR, E.den, sc]) (VRs.nil)))))⟩) (VRs.cons (by simp [VR, E.den, sc]) VRs.nil))
        ·
          obtain rfl : n0_0 = 4 := by omega
          obtain rfl : n0_1 = 0 := by omega
          obtain rfl : n0_2 = 0 := by omega
          obtain rfl : n0_3 = 0 := by omega
          exact case82 hL (kc ⟨by omega, by omega⟩ ⟨by omega, by omega⟩ ⟨by omega, by omega⟩ ⟨by omega, by omega⟩ ⟨by omega, by omega⟩ h5) hg (fun ρ => VRs.cons (by unfold VR; exact ⟨_, rfl, VRs.cons (by simp [VR, E.den, sc]) (VRs.cons (by simp [VR, E.den, sc]) (VRs.cons (by simp [VR, E.den, sc]) (VRs.cons (by simp [VR, E.den, sc]) (VRs.cons (by simp [VR, E.den, sc]) (VRs.nil)))))⟩) (VRs.cons (by simp [VR, E.den, sc]) VRs.nil))
        ·
          obtain rfl : n0_0 = 4 := by omega
          obtain rfl : n0_1 = 0 := by omega
          obtain rfl : n0_2 = 0 := by omega
          obtain rfl : n0_3 = 0 := by omega
          exact case83 hL (kc ⟨by omega, by omega⟩ ⟨by omega, by omega⟩ ⟨by omega, by omega⟩ ⟨by omega, by omega⟩ ⟨by omega, by omega⟩ h5) hg (fun ρ => VRs.cons (by unfold VR; exact ⟨_, rfl, VRs.cons (by simp [VR, E.den, sc]) (VRs.cons (by simp [VR, E.den, sc]) (VRs.cons (by simp [VR, E.den, sc]) (VRs.cons (by simp [VR, E.den, sc]) (VRs.cons (by simp [VR, E.den, sc]) (VRs.nil)))))⟩) (VRs.cons (by simp [VR, E.den, sc]) VRs.nil))
        ·
          obtain rfl : n0_0 = 4 := by omega
          obtain rfl : n0_1 = 0 := by omega
          obtain rfl : n0_2 = 0 := by omega
          obtain rfl : n0_3 = 0 := by omega
          exact case79 hL (kc ⟨by omega, by omega⟩ ⟨by omega, by omega⟩ ⟨by omega, by omega⟩ ⟨by omega, by omega⟩ ⟨by omega, by omega⟩ h5) hg (fun ρ => VRs.cons (by unfold VR; exact ⟨_, rfl, VRs.cons (by simp [VR, E.den, sc]) (VRs.cons (by simp [VR, E.den, sc]) (VRs.cons (by simp [VR, E.den, sc]) (VRs.cons (by simp [VR, E.den, sc]) (VRs.cons (by simp [VR, E.den, sc]) (VRs.nil)))))⟩) (VRs.cons (by simp [VR, E.den, sc]) VRs.nil))
      ·
        rcases (by omega : ((-9223372036854775808) ≤ n0_4 ∧ n0_4 ≤ (-1)) ∨ (0 ≤ n0_4 ∧ n0_4 ≤ 4095) ∨ (4096 ≤ n0_4 ∧ n0_4 ≤ 9223372036854775807)) with q | q | q
        ·
          obtain rfl : n0_0 = 4 := by omega
          obtain rfl : n0_1 = 0 := by omega
          obtain rfl : n0_2 = 0 := by omega
          exact case75 hL (kc ⟨by omega, by omega⟩ ⟨by omega, by omega⟩ ⟨by omega, by omega⟩ ⟨by omega, by omega⟩ ⟨by omega, by omega⟩ h5) hg (fun ρ => VRs.cons (by unfold VR; exact ⟨_, rfl, VRs.cons (by simp [VR, E.den, sc]) (VRs.cons (by simp [VR, E.den, sc]) (VRs.cons (by simp [VR, E.den, sc]) (VRs.cons (by simp [VR, E.den, sc]) (VRs.cons (by simp [VR, E.den, sc]) (VRs.nil)))))⟩) (VRs.cons (by simp [VR, E.den, sc]) VRs.nil))
        ·
          obtain rfl : n0_0 = 4 := by omega
          obtain rfl : n0_1 = 0 := by omega
          obtain rfl : n0_2 = 0 := by omega
          exact case76 hL (kc ⟨by omega, by omega⟩ ⟨by omega, by omega⟩ ⟨by omega, by omega⟩ ⟨by omega, by omega⟩ ⟨by omega, by omega⟩ h5) hg (fun ρ => VRs.cons (by unfold VR; exact ⟨_, rfl, VRs.cons (by simp [VR, E.den, sc]) (VRs.cons (by simp [VR, E.den, sc]) (VRs.cons (by simp [VR, E.den, sc]) (VRs.cons (by simp [VR, E.den, sc]) (VRs.cons (by simp [VR, E.den, sc]) (VRs.nil)))))⟩) (VRs.cons (by simp [VR, E.den, sc]) VRs.nil))
        ·
          obtain rfl : n0_0 = 4 := by omega
          obtain rfl : n0_1 = 0 := by omega
          obtain rfl : n0_2 = 0 := by omega
          exact case77 hL (kc ⟨by omega, by omega⟩ ⟨by omega, by omega⟩ ⟨by omega, by omega⟩ ⟨by omega, by omega⟩ ⟨by omega, by omega⟩ h5) hg (fun ρ => VRs.cons (by unfold VR; exact ⟨_, rfl, VRs.cons (by simp [VR, E.den, sc]) (VRs.cons (by simp [VR, E.den, sc]) (VRs.cons (by simp [VR, E.den, sc]) (VRs.cons (by simp [VR, E.den, sc]) (VRs.cons (by simp [VR, E.den, sc]) (VRs.nil)))))⟩) (VRs.cons (by simp [VR, E.den, sc]) VRs.nil))
    ·
      rcases (by omega : ((-9223372036854775808) ≤ n0_4 ∧ n0_4 ≤ (-1)) ∨ (0 ≤ n0_4 ∧ n0_4 ≤ 4095) ∨ (4096 ≤ n0_4 ∧ n0_4 ≤ 9223372036854775807)) with q | q | q
      ·
        obtain rfl : n0_0 = 4 := by omega
        obtain rfl : n0_1 = 0 := by omega
        exact case69 hL (kc ⟨by omega, by omega⟩ ⟨by omega, by omega⟩ ⟨by omega, by omega⟩ ⟨by omega, by omega⟩ ⟨by omega, by omega⟩ h5) hg (fun ρ => VRs.cons (by unfold VR; exact ⟨_, rfl, VRs.cons (by simp [VR, E.den, sc]) (VRs.cons (by simp [VR, E.den, sc]) (VRs.cons (by simp [VR, E.den, sc]) (VRs.cons (by simp [VR, E.den, sc]) (VRs.cons (by simp [VR, E.den, sc]) (VRs.nil)))))⟩) (VRs.cons (by simp [VR, E.den, sc]) VRs.nil))
      ·
        obtain rfl : n0_0 = 4 := by omega
        obtain rfl : n0_1 = 0 := by omega
        exact case70 hL (kc ⟨by omega, by omega⟩ ⟨by omega, by omega⟩ ⟨by omega, by omega⟩ ⟨by omega, by omega⟩ ⟨by omega, by omega⟩ h5) hg (fun ρ => VRs.cons (by unfold VR; exact ⟨_, rfl, VRs.cons (by simp [VR, E.den, sc]) (VRs.cons (by simp [VR, E.den, sc]) (VRs.cons (by simp [VR, E.den, sc]) (VRs.cons (by simp [VR, E.den, sc]) (VRs.cons (by simp [VR, E.den, sc]) (VRs.nil)))))⟩) (VRs.cons (by simp [VR, E.den, sc]) VRs.nil))
      ·
        obtain rfl : n0_0 = 4 := by omega
        obtain rfl : n0_1 = 0 := by omega
        exact case71 hL (kc ⟨by omega, by omega⟩ ⟨by omega, by omega⟩ ⟨by omega, by omega⟩ ⟨by omega, by omega⟩ ⟨by omega, by omega⟩ h5) hg (fun ρ => VRs.cons (by unfold VR; exact ⟨_, rfl, VRs.cons (by simp [VR, E.den, sc]) (VRs.cons (by simp [VR, E.den, sc]) (VRs.cons (by simp [VR, E.den, sc]) (VRs.cons (by simp [VR, E.den, sc]) (VRs.cons (by simp [VR, E.den, sc]) (VRs.nil)))))⟩) (VRs.cons (by simp [VR, E.den, sc]) VRs.nil))
  ·
    rcases (by omega : ((-9223372036854775808) ≤ n0_4 ∧ n0_4 ≤ (-1)) ∨ (0 ≤ n0_4 ∧ n0_4 ≤ 4095) ∨ (4096 ≤ n0_4 ∧ n0_4 ≤ 9223372036854775807)) with q | q | q
    ·
      obtain rfl : n0_0 = 4 := by omega
      exact case63 hL (kc ⟨by omega, by omega⟩ ⟨by omega, by omega⟩ ⟨by omega, by omega⟩ ⟨by omega, by omega⟩ ⟨by omega, by omega⟩ h5) hg (fun ρ => VRs.cons (by unfold VR; exact ⟨_, rfl, VRs.cons (by simp [VR, E.den, sc]) (VRs.cons (by simp [VR, E.den, sc]) (VRs.cons (by simp [VR, E.den, sc]) (VRs.cons (by simp [VR, E.den, sc]) (VRs.cons (by simp [VR, E.den, sc]) (VRs.nil)))))⟩) (VRs.cons (by simp [VR, E.den, sc]) VRs.nil))
    ·
      obtain rfl : n0_0 = 4 := by omega
      exact case64 hL (kc ⟨by omega, by omega⟩ ⟨by omega, by omega⟩ ⟨by omega, by omega⟩ ⟨by omega, by omega⟩ ⟨by omega, by omega⟩ h5) hg (fun ρ => VRs.cons (by unfold VR; exact ⟨_, rfl, VRs.cons (by simp [VR, E.den, sc]) (VRs.cons (by simp [VR, E.den, sc]) (VRs.cons (by simp [VR, E.den, sc]) (VRs.cons (by simp [VR, E.den, sc]) (VRs.cons (by simp [VR, E.den, sc]) (VRs.nil)))))⟩) (VRs.cons (by simp [VR, E.den, sc]) VRs.nil))
    ·
      obtain rfl : n0_0 = 4 := by omega
      exact case65 hL (kc ⟨by omega, by omega⟩ ⟨by omega, by omega⟩ ⟨by omega, by omega⟩ ⟨by omega, by omega⟩ ⟨by omega, by omega⟩ h5) hg (fun ρ => VRs.cons (by unfold VR; exact ⟨_, rfl, VRs.cons (by simp [VR, E.den, sc]) (VRs.cons (by simp [VR, E.den, sc]) (VRs.cons (by simp [VR, E.den, sc]) (VRs.cons (by simp [VR, E.den, sc]) (VRs.cons (by simp [VR, E.den, sc]) (VRs.nil)))))⟩) (VRs.cons (by simp [VR, E.den, sc]) VRs.nil))
set_option maxHeartbeats 4000000 in
theorem walk5 {W : World} (hL : L0 W) {n0_0 n0_1 n0_2 n0_3 n0_4 n1 g0 g1 g2 g3 g4 : Int} {t : Bool} (hg : Gh t (sc n0_0 n0_1 n0_2 n0_3 n0_4 n1 g0 g1 g2 g3 g4) W) (hop : 5 ≤ n0_0 ∧ n0_0 ≤ 5) (h0 : -9223372036854775808 ≤ n0_0 ∧ n0_0 ≤ 9223372036854775807) (h1 : -9223372036854775808 ≤ n0_1 ∧ n0_1 ≤ 9223372036854775807) (h2 : -9223372036854775808 ≤ n0_2 ∧ n0_2 ≤ 9223372036854775807) (h3 : -9223372036854775808 ≤ n0_3 ∧ n0_3 ≤ 9223372036854775807) (h4 : -9223372036854775808 ≤ n0_4 ∧ n0_4 ≤ 9223372036854775807) (h5 : 0 ≤ n1 ∧ n1 ≤ 4294967295) : Calls Tryd.prog 3 #[.agg #[.int .i64 n0_0, .int .i64 n0_1, .int .i64 n0_2, .int .i64 n0_3, .int .i64 n0_4], .int .u32 n1] W fun e w' => e = .returned (.bool true) ∧ Below W.heap.size W w' := by
  rcases (by omega : ((-9223372036854775808) ≤ n0_1 ∧ n0_1 ≤ (-1)) ∨ (0 ≤ n0_1 ∧ n0_1 ≤ 7) ∨ (8 ≤ n0_1 ∧ n0_1 ≤ 9223372036854775807)) with q | q | q
  ·
    obtain rfl : n0_0 = 5 := by omega
    exact case84 hL (kc ⟨by omega, by omega⟩ ⟨by omega, by omega⟩ ⟨by omega, by omega⟩ ⟨by omega, by omega⟩ ⟨by omega, by omega⟩ h5) hg (fun ρ => VRs.cons (by unfold VR; exact ⟨_, rfl, VRs.cons (by simp [VR, E.den, sc]) (VRs.cons (by simp [VR, E.den, sc]) (VRs.cons (by simp [VR, E.den, sc]) (VRs.cons (by simp [VR, E.den, sc]) (VRs.cons (by simp [VR, E.den, sc]) (VRs.nil)))))⟩) (VRs.cons (by simp [VR, E.den, sc]) VRs.nil))
  ·
    rcases (by omega : ((-9223372036854775808) ≤ n0_2 ∧ n0_2 ≤ (-1)) ∨ (0 ≤ n0_2 ∧ n0_2 ≤ 0) ∨ (1 ≤ n0_2 ∧ n0_2 ≤ 9223372036854775807)) with q | q | q
    ·
      rcases (by omega : ((-9223372036854775808) ≤ n0_4 ∧ n0_4 ≤ (-1)) ∨ (0 ≤ n0_4 ∧ n0_4 ≤ 4095) ∨ (4096 ≤ n0_4 ∧ n0_4 ≤ 9223372036854775807)) with q | q | q
      ·
        obtain rfl : n0_0 = 5 := by omega
        exact case86 hL (kc ⟨by omega, by omega⟩ ⟨by omega, by omega⟩ ⟨by omega, by omega⟩ ⟨by omega, by omega⟩ ⟨by omega, by omega⟩ h5) hg (fun ρ => VRs.cons (by unfold VR; exact ⟨_, rfl, VRs.cons (by simp [VR, E.den, sc]) (VRs.cons (by simp [VR, E.den, sc]) (VRs.cons (by simp [VR, E.den, sc]) (VRs.cons (by simp [VR, E.den, sc]) (VRs.cons (by simp [VR, E.den, sc]) (VRs.nil)))))⟩) (VRs.cons (by simp [VR, E.den, sc]) VRs.nil))
      ·
        obtain rfl : n0_0 = 5 := by omega
        exact case87 hL (kc ⟨by omega, by omega⟩ ⟨by omega, by omega⟩ ⟨by omega, by omega⟩ ⟨by omega, by omega⟩ ⟨by omega, by omega⟩ h5) hg (fun ρ => VRs.cons (by unfold VR; exact ⟨_, rfl, VRs.cons (by simp [VR, E.den, sc]) (VRs.cons (by simp [VR, E.den, sc]) (VRs.cons (by simp [VR, E.den, sc]) (VRs.cons (by simp [VR, E.den, sc]) (VRs.cons (by simp [VR, E.den, sc]) (VRs.nil)))))⟩) (VRs.cons (by simp [VR, E.den, sc]) VRs.nil))
      ·
        obtain rfl : n0_0 = 5 := by omega
        exact case88 hL (kc ⟨by omega, by omega⟩ ⟨by omega, by omega⟩ ⟨by omega, by omega⟩ ⟨by omega, by omega⟩ ⟨by omega, by omega⟩ h5) hg (fun ρ => VRs.cons (by unfold VR; exact ⟨_, rfl, VRs.cons (by simp [VR, E.den, sc]) (VRs.cons (by simp [VR, E.den, sc]) (VRs.cons (by simp [VR, E.den, sc]) (VRs.cons (by simp [VR, E.den, sc]) (VRs.cons (by simp [VR, E.den, sc]) (VRs.nil)))))⟩) (VRs.cons (by simp [VR, E.den, sc]) VRs.nil))
    ·
      rcases (by omega : ((-9223372036854775808) ≤ n0_3 ∧ n0_3 ≤ (-1)) ∨ (0 ≤ n0_3 ∧ n0_3 ≤ 0) ∨ (1 ≤ n0_3 ∧ n0_3 ≤ 9223372036854775807)) with q | q | q
      ·
        rcases (by omega : ((-9223372036854775808) ≤ n0_4 ∧ n0_4 ≤ (-1)) ∨ (0 ≤ n0_4 ∧ n0_4 ≤ 4095) ∨ (4096 ≤ n0_4 ∧ n0_4 ≤ 9223372036854775807)) with q | q | q
        ·
          obtain rfl : n0_0 = 5 := by omega
          obtain rfl : n0_2 = 0 := by omega
          exact case92 hL (kc ⟨by omega, by omega⟩ ⟨by omega, by omega⟩ ⟨by omega, by omega⟩ ⟨by omega, by omega⟩ ⟨by omega, by omega⟩ h5) hg (fun ρ => VRs.cons (by unfold VR; exact ⟨_, rfl, VRs.cons (by simp [VR, E.den, sc]) (VRs.cons (by simp [VR, E.den, sc]) (VRs.cons (by simp [VR, E.den, sc]) (VRs.cons (by simp [VR, E.den, sc]) (VRs.cons (by simp [VR, E.den, sc]) (VRs.nil)))))⟩) (VRs.cons (by simp [VR, E.den, sc]) VRs.nil))
        ·
          obtain rfl : n0_0 = 5 := by omega
          obtain rfl : n0_2 = 0 := by omega
          exact case93 hL (kc ⟨by omega, by omega⟩ ⟨by omega, by omega⟩ ⟨by omega, by omega⟩ ⟨by omega, by omega⟩ ⟨by omega, by omega⟩ h5) hg (fun ρ => VRs.cons (by unfold VR; exact ⟨_, rfl, VRs.cons (by simp [VR, E.den, sc]) (VRs.cons (by simp [VR, E.den, sc]) (VRs.cons (by simp [VR, E.den, sc]) (VRs.cons (by simp [VR, E.den, sc]) (VRs.cons (by simp [VR, E.den, sc]) (VRs.nil)))))⟩) (VRs.cons (by simp [VR, E.den, sc]) VRs.nil))
        ·
          obtain rfl : n0_0 = 5 := by omega
          obtain rfl : n0_2 = 0 := by omega
          exact case94 hL (kc ⟨by omega, by omega⟩ ⟨by omega, by omega⟩ ⟨by omega, by omega⟩ ⟨by omega, by omega⟩ ⟨by omega, by omega⟩ h5) hg (fun ρ => VRs.cons (by unfold VR; exact ⟨_, rfl, VRs.cons (by simp [VR, E.den, sc]) (VRs.cons (by simp [VR, E.den, sc]) (VRs.cons (by simp [VR, E.den, sc]) (VRs.cons (by simp [VR, E.den, sc]) (VRs.cons (by simp [VR, E.den, sc]) (VRs.nil)))))⟩) (VRs.cons (by simp [VR, E.den, sc]) VRs.nil))
      ·
        rcases (by omega : ((-9223372036854775808) ≤ n0_4 ∧ n0_4 ≤ (-1)) ∨ (0 ≤ n0_4 ∧ n0_4 ≤ 9) ∨ (10 ≤ n0_4 ∧ n0_4 ≤ 99) ∨ (100 ≤ n0_4 ∧ n0_4 ≤ 999) ∨ (1000 ≤ n0_4 ∧ n0_4 ≤ 4095) ∨ (4096 ≤ n0_4 ∧ n0_4 ≤ 9223372036854775807)) with q | q | q | q | q | q
        ·
          obtain rfl : n0_0 = 5 := by omega
          obtain rfl : n0_2 = 0 := by omega
          obtain rfl : n0_3 = 0 := by omega
          exact case98 hL (kc ⟨by omega, by omega⟩ ⟨by omega, by omega⟩ ⟨by omega, by omega⟩ ⟨by omega, by omega⟩ ⟨by omega, by omega⟩ h5) hg (fun ρ => VRs.cons (by unfold VR; exact ⟨_, rfl, VRs.cons (by simp [VR, E.den, sc]) (VRs.cons (by simp [VR, E.den, sc]) (VRs.cons (by simp [VR, E.den, sc]) (VRs.cons (by simp [VR, E.den, sc]) (VRs.cons (by simp [VR, E.den, sc]) (VRs.nil)))))⟩) (VRs.cons (by simp [VR, E.den, sc]) VRs.nil))
        ·
          obtain rfl : n0_0 = 5 := by omega
          obtain rfl : n0_2 = 0 := by omega
          obtain rfl : n0_3 = 0 := by omega
          exact case100 hL (kc ⟨by omega, by omega⟩ ⟨by omega, by omega⟩ ⟨by omega, by omega⟩ ⟨by omega, by omega⟩ ⟨by omega, by omega⟩ h5) hg (fun ρ => VRs.cons (by unfold VR; exact ⟨_, rfl, VRs.cons (by simp [VR, E.den, sc]) (VRs.cons (by simp [VR, E.den, sc]) (VRs.cons (by simp [VR, E.den, sc]) (VRs.cons (by simp [VR, E.den, sc]) (VRs.cons (by simp [VR, E.den, sc]) (VRs.nil)))))⟩) (VRs.cons (by simp [VR, E.den, sc]) VRs.nil))
        ·
          obtain rfl : n0_0 = 5 := by omega
          obtain rfl : n0_2 = 0 := by omega
          obtain rfl : n0_3 = 0 := by omega
          exact case101 hL (kc ⟨by omega, by omega⟩ ⟨by omega, by omega⟩ ⟨by omega, by omega⟩ ⟨by omega, by omega⟩ ⟨by omega, by omega⟩ h5) hg (fun ρ => VRs.cons (by unfold VR; exact ⟨_, rfl, VRs.cons (by simp [VR, E.den, sc]) (VRs.cons (by simp [VR, E.den, sc]) (VRs.cons (by simp [VR, E.den, sc]) (VRs.cons (by simp [VR, E.den, sc]) (VRs.cons (by simp [VR, E.den, sc]) (VRs.nil)))))⟩) (VRs.cons (by simp [VR, E.den, sc]) VRs.nil))
        ·
          obtain rfl : n0_0 = 5 := by omega
          obtain rfl : n0_2 = 0 := by omega
          obtain rfl : n0_3 = 0 := by omega
          exact case102 hL (kc ⟨by omega, by omega⟩ ⟨by omega, by omega⟩ ⟨by omega, by omega⟩ ⟨by omega, by omega⟩ ⟨by omega, by omega⟩ h5) hg (fun ρ => VRs.cons (by unfold VR; exact ⟨_, rfl, VRs.cons (by simp [VR, E.den, sc]) (VRs.cons (by simp [VR, E.den, sc]) (VRs.cons (by simp [VR, E.den, sc]) (VRs.cons (by simp [VR, E.den, sc]) (VRs.cons (by simp [VR, E.den, sc]) (VRs.nil)))))⟩) (VRs.cons (by simp [VR, E.den, sc]) VRs.nil))
        ·
          obtain rfl : n0_0 = 5 := by omega
          obtain rfl : n0_2 = 0 := by omega
          obtain rfl : n0_3 = 0 := by omega
          exact case103 hL (kc ⟨by omega, by omega⟩ ⟨by omega, by omega⟩ ⟨by omega, by omega⟩ ⟨by omega, by omega⟩ ⟨by omega, by omega⟩ h5) hg (fun ρ => VRs.cons (by unfold VR; exact ⟨_, rfl, VRs.cons (by simp [VR, E.den, sc]) (VRs.cons (by simp [VR, E.den, sc]) (VRs.cons (by simp [VR, E.den, sc]) (VRs.cons (by simp [VR, E.den, sc]) (VRs.cons (by simp [VR, E.den, sc]) (VRs.nil)))))⟩) (VRs.cons (by simp [VR, E.den, sc]) VRs.nil))
        ·
          obtain rfl : n0_0 = 5 := by omega
          obtain rfl : n0_2 = 0 := by omega
          obtain rfl : n0_3 = 0 := by omega
          exact case99 hL (kc ⟨by omega, by omega⟩ ⟨by omega, by omega⟩ ⟨by omega, by omega⟩ ⟨by omega, by omega⟩ ⟨by omega, by omega⟩ h5) hg (fun ρ => VRs.cons (by unfold VR; exact ⟨_, rfl, VRs.cons (by simp [VR, E.den, sc]) (VRs.cons (by simp [VR, E.den, sc]) (VRs.cons (by simp [VR, E.den, sc]) (VRs.cons (by simp [VR, E.den, sc]) (VRs.cons (by simp [VR, E.den, sc]) (VRs.nil)))))⟩) (VRs.cons (by simp [VR, E.den, sc]) VRs.nil))
      ·
        rcases (by omega : ((-9223372036854775808) ≤ n0_4 ∧ n0_4 ≤ (-1)) ∨ (0 ≤ n0_4 ∧ n0_4 ≤ 4095) ∨ (4096 ≤ n0_4 ∧ n0_4 ≤ 9223372036854775807)) with q | q | q
        ·
          obtain rfl : n0_0 = 5 := by omega
          obtain rfl : n0_2 = 0 := by omega
          exact case95 hL (kc ⟨by omega, by omega⟩ ⟨by omega, by omega⟩ ⟨by omega, by omega⟩ ⟨by omega, by omega⟩ ⟨by omega, by omega⟩ h5) hg (fun ρ => VRs.cons (by unfold VR; exact ⟨_, rfl, VRs.cons (by simp [VR, E.den, sc]) (VRs.cons (by simp [VR, E.den, sc]) (VRs.cons (by simp [VR, E.den, sc]) (VRs.cons (by simp [VR, E.den, sc]) (VRs.cons (by simp [VR, E.den, sc]) (VRs.nil)))))⟩) (VRs.cons (by simp [VR, E.den, sc]) VRs.nil))
        ·
          obtain rfl : n0_0 = 5 := by omega
          obtain rfl : n0_2 = 0 := by omega
          exact case96 hL (kc ⟨by omega, by omega⟩ ⟨by omega, by omega⟩ ⟨by omega, by omega⟩ ⟨by omega, by omega⟩ ⟨by omega, by omega⟩ h5) hg (fun ρ => VRs.cons (by unfold VR; exact ⟨_, rfl, VRs.cons (by simp [VR, E.den, sc]) (VRs.cons (by simp [VR, E.den, sc]) (VRs.cons (by simp [VR, E.den, sc]) (VRs.cons (by simp [VR, E.den, sc]) (VRs.cons (by simp [VR, E.den, sc]) (VRs.nil)))))⟩) (VRs.cons (by simp [VR, E.den, sc]) VRs.nil))
        ·
          obtain rfl : n0_0 = 5 := by omega
          obtain rfl : n0_2 = 0 := by omega
          exact case97 hL (kc ⟨by omega, by omega⟩ ⟨by omega, by omega⟩ ⟨by omega, by omega⟩ ⟨by omega, by omega⟩ ⟨by omega, by omega⟩ h5) hg (fun ρ => VRs.cons (by unfold VR; exact ⟨_, rfl, VRs.cons (by simp [VR, E.den, sc]) (VRs.cons (by simp [VR, E.den, sc]) (VRs.cons (by simp [VR, E.den, sc]) (VRs.cons (by simp [VR, E.den, sc]) (VRs.cons (by simp [VR, E.den, sc]) (VRs.nil)))))⟩) (VRs.cons (by simp [VR, E.den, sc]) VRs.nil))
    ·
      rcases (by omega : ((-9223372036854775808) ≤ n0_4 ∧ n0_4 ≤ (-1)) ∨ (0 ≤ n0_4 ∧ n0_4 ≤ 4095) ∨ (4096 ≤ n0_4 ∧ n0_4 ≤ 9223372036854775807)) with q | q | q
      ·
        obtain rfl : n0_0 = 5 := by omega
        exact case89 hL (kc ⟨by omega, by omega⟩ ⟨by omega, by omega⟩ ⟨by omega, by omega⟩ ⟨by omega, by omega⟩ ⟨by omega, by omega⟩ h5) hg (fun ρ => VRs.cons (by unfold VR; exact ⟨_, rfl, VRs.cons (by simp [VR, E.den, sc]) (VRs.cons (by simp [VR, E.den, sc]) (VRs.cons (by simp [VR, E.den, sc]) (VRs.cons (by simp [VR, E.den, sc]) (VRs.cons (by simp [VR, E.den, sc]) (VRs.nil)))))⟩) (VRs.cons (by simp [VR, E.den, sc]) VRs.nil))
      ·
        obtain rfl : n0_0 = 5 := by omega
        exact case90 hL (kc ⟨by omega, by omega⟩ ⟨by omega, by omega⟩ ⟨by omega, by omega⟩ ⟨by omega, by omega⟩ ⟨by omega, by omega⟩ h5) hg (fun ρ => VRs.cons (by unfold VR; exact ⟨_, rfl, VRs.cons (by simp [VR, E.den, sc]) (VRs.cons (by simp [VR, E.den, sc]) (VRs.cons (by simp [VR, E.den, sc]) (VRs.cons (by simp [VR, E.den, sc]) (VRs.cons (by simp [VR, E.den, sc]) (VRs.nil)))))⟩) (VRs.cons (by simp [VR, E.den, sc]) VRs.nil))
      ·
        obtain rfl : n0_0 = 5 := by omega
        exact case91 hL (kc ⟨by omega, by omega⟩ ⟨by omega, by omega⟩ ⟨by omega, by omega⟩ ⟨by omega, by omega⟩ ⟨by omega, by omega⟩ h5) hg (fun ρ => VRs.cons (by unfold VR; exact ⟨_, rfl, VRs.cons (by simp [VR, E.den, sc]) (VRs.cons (by simp [VR, E.den, sc]) (VRs.cons (by simp [VR, E.den, sc]) (VRs.cons (by simp [VR, E.den, sc]) (VRs.cons (by simp [VR, E.den, sc]) (VRs.nil)))))⟩) (VRs.cons (by simp [VR, E.den, sc]) VRs.nil))
  ·
    obtain rfl : n0_0 = 5 := by omega
    exact case85 hL (kc ⟨by omega, by omega⟩ ⟨by omega, by omega⟩ ⟨by omega, by omega⟩ ⟨by omega, by omega⟩ ⟨by omega, by omega⟩ h5) hg (fun ρ => VRs.cons (by unfold VR; exact ⟨_, rfl, VRs.cons (by simp [VR, E.den, sc]) (VRs.cons (by simp [VR, E.den, sc]) (VRs.cons (by simp [VR, E.den, sc]) (VRs.cons (by simp [VR, E.den, sc]) (VRs.cons (by simp [VR, E.den, sc]) (VRs.nil)))))⟩) (VRs.cons (by simp [VR, E.den, sc]) VRs.nil))
set_option maxHeartbeats 4000000 in
theorem walk6 {W : World} (hL : L0 W) {n0_0 n0_1 n0_2 n0_3 n0_4 n1 g0 g1 g2 g3 g4 : Int} {t : Bool} (hg : Gh t (sc n0_0 n0_1 n0_2 n0_3 n0_4 n1 g0 g1 g2 g3 g4) W) (hop : 6 ≤ n0_0 ∧ n0_0 ≤ 6) (h0 : -9223372036854775808 ≤ n0_0 ∧ n0_0 ≤ 9223372036854775807) (h1 : -9223372036854775808 ≤ n0_1 ∧ n0_1 ≤ 9223372036854775807) (h2 : -9223372036854775808 ≤ n0_2 ∧ n0_2 ≤ 9223372036854775807) (h3 : -9223372036854775808 ≤ n0_3 ∧ n0_3 ≤ 9223372036854775807) (h4 : -9223372036854775808 ≤ n0_4 ∧ n0_4 ≤ 9223372036854775807) (h5 : 0 ≤ n1 ∧ n1 ≤ 4294967295) : Calls Tryd.prog 3 #[.agg #[.int .i64 n0_0, .int .i64 n0_1, .int .i64 n0_2, .int .i64 n0_3, .int .i64 n0_4], .int .u32 n1] W fun e w' => e = .returned (.bool true) ∧ Below W.heap.size W w' := by
  rcases (by omega : ((-9223372036854775808) ≤ n0_1 ∧ n0_1 ≤ (-1)) ∨ (0 ≤ n0_1 ∧ n0_1 ≤ 7) ∨ (8 ≤ n0_1 ∧ n0_1 ≤ 9223372036854775807)) with q | q | q
  ·
    obtain rfl : n0_0 = 6 := by omega
    exact case104 hL (kc ⟨by omega, by omega⟩ ⟨by omega, by omega⟩ ⟨by omega, by omega⟩ ⟨by omega, by omega⟩ ⟨by omega, by omega⟩ h5) hg (fun ρ => VRs.cons (by unfold VR; exact ⟨_, rfl, VRs.cons (by simp [VR, E.den, sc]) (VRs.cons (by simp [VR, E.den, sc]) (VRs.cons (by simp [VR, E.den, sc]) (VRs.cons (by simp [VR, E.den, sc]) (VRs.cons (by simp [VR, E.den, sc]) (VRs.nil)))))⟩) (VRs.cons (by simp [VR, E.den, sc]) VRs.nil))
  ·
    rcases (by omega : ((-9223372036854775808) ≤ n0_2 ∧ n0_2 ≤ (-1)) ∨ (0 ≤ n0_2 ∧ n0_2 ≤ 7) ∨ (8 ≤ n0_2 ∧ n0_2 ≤ 9223372036854775807)) with q | q | q
    ·
      obtain rfl : n0_0 = 6 := by omega
      exact case106 hL (kc ⟨by omega, by omega⟩ ⟨by omega, by omega⟩ ⟨by omega, by omega⟩ ⟨by omega, by omega⟩ ⟨by omega, by omega⟩ h5) hg (fun ρ => VRs.cons (by unfold VR; exact ⟨_, rfl, VRs.cons (by simp [VR, E.den, sc]) (VRs.cons (by simp [VR, E.den, sc]) (VRs.cons (by simp [VR, E.den, sc]) (VRs.cons (by simp [VR, E.den, sc]) (VRs.cons (by simp [VR, E.den, sc]) (VRs.nil)))))⟩) (VRs.cons (by simp [VR, E.den, sc]) VRs.nil))
    ·
      rcases (by omega : ((-9223372036854775808) ≤ n0_3 ∧ n0_3 ≤ (-1)) ∨ (0 ≤ n0_3 ∧ n0_3 ≤ 0) ∨ (1 ≤ n0_3 ∧ n0_3 ≤ 9223372036854775807)) with q | q | q
      ·
        rcases (by omega : ((-9223372036854775808) ≤ n0_4 ∧ n0_4 ≤ (-1)) ∨ (0 ≤ n0_4 ∧ n0_4 ≤ 4095) ∨ (4096 ≤ n0_4 ∧ n0_4 ≤ 9223372036854775807)) with q | q | q
        ·
          obtain rfl : n0_0 = 6 := by omega
          exact case108 hL (kc ⟨by omega, by omega⟩ ⟨by omega, by omega⟩ ⟨by omega, by omega⟩ ⟨by omega, by omega⟩ ⟨by omega, by omega⟩ h5) hg (fun ρ => VRs.cons (by unfold VR; exact ⟨_, rfl, VRs.cons (by simp [VR, E.den, sc]) (VRs.cons (by simp [VR, E.den, sc]) (VRs.cons (by simp [VR, E.den, sc]) (VRs.cons (by simp [VR, E.den, sc]) (VRs.cons (by simp [VR, E.den, sc]) (VRs.nil)))))⟩) (VRs.cons (by simp [VR, E.den, sc]) VRs.nil))
        ·
          obtain rfl : n0_0 = 6 := by omega
          exact case109 hL (kc ⟨by omega, by omega⟩ ⟨by omega, by omega⟩ ⟨by omega, by omega⟩ ⟨by omega, by omega⟩ ⟨by omega, by omega⟩ h5) hg (fun ρ => VRs.cons (by unfold VR; exact ⟨_, rfl, VRs.cons (by simp [VR, E.den, sc]) (VRs.cons (by simp [VR, E.den, sc]) (VRs.cons (by simp [VR, E.den, sc]) (VRs.cons (by simp [VR, E.den, sc]) (VRs.cons (by simp [VR, E.den, sc]) (VRs.nil)))))⟩) (VRs.cons (by simp [VR, E.den, sc]) VRs.nil))
        ·
          obtain rfl : n0_0 = 6 := by omega
          exact case110 hL (kc ⟨by omega, by omega⟩ ⟨by omega, by omega⟩ ⟨by omega, by omega⟩ ⟨by omega, by omega⟩ ⟨by omega, by omega⟩ h5) hg (fun ρ => VRs.cons (by unfold VR; exact ⟨_, rfl, VRs.cons (by simp [VR, E.den, sc]) (VRs.cons (by simp [VR, E.den, sc]) (VRs.cons (by simp [VR, E.den, sc]) (VRs.cons (by simp [VR, E.den, sc]) (VRs.cons (by simp [VR, E.den, sc]) (VRs.nil)))))⟩) (VRs.cons (by simp [VR, E.den, sc]) VRs.nil))
      ·
        rcases (by omega : ((-9223372036854775808) ≤ n0_4 ∧ n0_4 ≤ (-1)) ∨ (0 ≤ n0_4 ∧ n0_4 ≤ 9) ∨ (10 ≤ n0_4 ∧ n0_4 ≤ 99) ∨ (100 ≤ n0_4 ∧ n0_4 ≤ 999) ∨ (1000 ≤ n0_4 ∧ n0_4 ≤ 4095) ∨ (4096 ≤ n0_4 ∧ n0_4 ≤ 9223372036854775807)) with q | q | q | q | q | q
        ·
          obtain rfl : n0_0 = 6 := by omega
          obtain rfl : n0_3 = 0 := by omega
          exact case114 hL (kc ⟨by omega, by omega⟩ ⟨by omega, by omega⟩ ⟨by omega, by omega⟩ ⟨by omega, by omega⟩ ⟨by omega, by omega⟩ h5) hg (fun ρ => VRs.cons (by unfold VR; exact ⟨_, rfl, VRs.cons (by simp [VR, E.den, sc]) (VRs.cons (by simp [VR, E.den, sc]) (VRs.cons (by simp [VR, E.den, sc]) (VRs.cons (by simp [VR, E.den, sc]) (VRs.cons (by simp [VR, E.den, sc]) (VRs.nil)))))⟩) (VRs.cons (by simp [VR, E.den, sc]) VRs.nil))
        ·
          obtain rfl : n0_0 = 6 := by omega
          obtain rfl : n0_3 = 0 := by omega
          exact case116 hL (kc ⟨by omega, by omega⟩ ⟨by omega, by omega⟩ ⟨by omega, by omega⟩ ⟨by omega, by omega⟩ ⟨by omega, by omega⟩ h5) hg (fun ρ => VRs.cons (by unfold VR; exact ⟨_, rfl, VRs.cons (by simp [VR, E.den, sc]) (VRs.cons (by simp [VR, E.den, sc]) (VRs.cons (by simp [VR, E.den, sc]) (VRs.cons (by simp [VR, E.den, sc]) (VRs.cons (by simp [VR, E.den, sc]) (VRs.nil)))))⟩) (VRs.cons (by simp [VR, E.den, sc]) VRs.nil))
        ·
          obtain rfl : n0_0 = 6 := by omega
          obtain rfl : n0_3 = 0 := by omega
          exact case117 hL (kc ⟨by omega, by omega⟩ ⟨by omega, by omega⟩ ⟨by omega, by omega⟩ ⟨by omega, by omega⟩ ⟨by omega, by omega⟩ h5) hg (fun ρ => VRs.cons (by unfold VR; exact ⟨_, rfl, VRs.cons (by simp [VR, E.den, sc]) (VRs.cons (by simp [VR, E.den, sc]) (VRs.cons (by simp [VR, E.den, sc]) (VRs.cons (by simp [VR, E.den, sc]) (VRs.cons (by simp [VR, E.den, sc]) (VRs.nil)))))⟩) (VRs.cons (by simp [VR, E.den, sc]) VRs.nil))
        ·
          obtain rfl : n0_0 = 6 := by omega
          obtain rfl : n0_3 = 0 := by omega
          exact case118 hL (kc ⟨by omega, by omega⟩ ⟨by omega, by omega⟩ ⟨by omega, by omega⟩ ⟨by omega, by omega⟩ ⟨by omega, by omega⟩ h5) hg (fun ρ => VRs.cons (by unfold VR; exact ⟨_, rfl, VRs.cons (by simp [VR, E.den, sc]) (VRs.cons (by simp [VR, E.den, sc]) (VRs.cons (by simp [VR, E.den, sc]) (VRs.cons (by simp [VR, E.den, sc]) (VRs.cons (by simp [VR, E.den, sc]) (VRs.nil)))))⟩) (VRs.cons (by simp [VR, E.den, sc]) VRs.nil))
        ·
          obtain rfl : n0_0 = 6 := by omega
          obtain rfl : n0_3 = 0 := by omega
          exact case119 hL (kc ⟨by omega, by omega⟩ ⟨by omega, by omega⟩ ⟨by omega, by omega⟩ ⟨by omega, by omega⟩ ⟨by omega, by omega⟩ h5) hg (fun ρ => VRs.cons (by unfold VR; exact ⟨_, rfl, VRs.cons (by simp [VR, E.den, sc]) (VRs.cons (by simp [VR, E.den, sc]) (VRs.cons (by simp [VR, E.den, sc]) (VRs.cons (by simp [VR, E.den, sc]) (VRs.cons (by simp [VR, E.den, sc]) (VRs.nil)))))⟩) (VRs.cons (by simp [VR, E.den, sc]) VRs.nil))
        ·
          obtain rfl : n0_0 = 6 := by omega
          obtain rfl : n0_3 = 0 := by omega
          exact case115 hL (kc ⟨by omega, by omega⟩ ⟨by omega, by omega⟩ ⟨by omega, by omega⟩ ⟨by omega, by omega⟩ ⟨by omega, by omega⟩ h5) hg (fun ρ => VRs.cons (by unfold VR; exact ⟨_, rfl, VRs.cons (by simp [VR, E.den, sc]) (VRs.cons (by simp [VR, E.den, sc]) (VRs.cons (by simp [VR, E.den, sc]) (VRs.cons (by simp [VR, E.den, sc]) (VRs.cons (by simp [VR, E.den, sc]) (VRs.nil)))))⟩) (VRs.cons (by simp [VR, E.den, sc]) VRs.nil))
      ·
        rcases (by omega : ((-9223372036854775808) ≤ n0_4 ∧ n0_4 ≤ (-1)) ∨ (0 ≤ n0_4 ∧ n0_4 ≤ 4095) ∨ (4096 ≤ n0_4 ∧ n0_4 ≤ 9223372036854775807)) with q | q | q
        ·
          obtain rfl : n0_0 = 6 := by omega
          exact case111 hL (kc ⟨by omega, by omega⟩ ⟨by omega, by omega⟩ ⟨by omega, by omega⟩ ⟨by omega, by omega⟩ ⟨by omega, by omega⟩ h5) hg (fun ρ => VRs.cons (by unfold VR; exact ⟨_, rfl, VRs.cons (by simp [VR, E.den, sc]) (VRs.cons (by simp [VR, E.den, sc]) (VRs.cons (by simp [VR, E.den, sc]) (VRs.cons (by simp [VR, E.den, sc]) (VRs.cons (by simp [VR, E.den, sc]) (VRs.nil)))))⟩) (VRs.cons (by simp [VR, E.den, sc]) VRs.nil))
        ·
          obtain rfl : n0_0 = 6 := by omega
          exact case112 hL (kc ⟨by omega, by omega⟩ ⟨by omega, by omega⟩ ⟨by omega, by omega⟩ ⟨by omega, by omega⟩ ⟨by omega, by omega⟩ h5) hg (fun ρ => VRs.cons (by unfold VR; exact ⟨_, rfl, VRs.cons (by simp [VR, E.den, sc]) (VRs.cons (by simp [VR, E.den, sc]) (VRs.cons (by simp [VR, E.den, sc]) (VRs.cons (by simp [VR, E.den, sc]) (VRs.cons (by simp [VR, E.den, sc]) (VRs.nil)))))⟩) (VRs.cons (by simp [VR, E.den, sc]) VRs.nil))
        ·
          obtain rfl : n0_0 = 6 := by omega
          exact case113 hL (kc ⟨by omega, by omega⟩ ⟨by omega, by omega⟩ ⟨by omega, by omega⟩ ⟨by omega, by omega⟩ ⟨by omega, by omega⟩ h5) hg (fun ρ => VRs.cons (by unfold VR; exact ⟨_, rfl, VRs.cons (by simp [VR, E.den, sc]) (VRs.cons (by simp [VR, E.den, sc]) (VRs.cons (by simp [VR, E.den, sc]) (VRs.cons (by simp [VR, E.den, sc]) (VRs.cons (by simp [VR, E.den, sc]) (VRs.nil)))))⟩) (VRs.cons (by simp [VR, E.den, sc]) VRs.nil))
    ·
      obtain rfl : n0_0 = 6 := by omega
      exact case107 hL (kc ⟨by omega, by omega⟩ ⟨by omega, by omega⟩ ⟨by omega, by omega⟩ ⟨by omega, by omega⟩ ⟨by omega, by omega⟩ h5) hg (fun ρ => VRs.cons (by unfold VR; exact ⟨_, rfl, VRs.cons (by simp [VR, E.den, sc]) (VRs.cons (by simp [VR, E.den, sc]) (VRs.cons (by simp [VR, E.den, sc]) (VRs.cons (by simp [VR, E.den, sc]) (VRs.cons (by simp [VR, E.den, sc]) (VRs.nil)))))⟩) (VRs.cons (by simp [VR, E.den, sc]) VRs.nil))
  ·
    obtain rfl : n0_0 = 6 := by omega
    exact case105 hL (kc ⟨by omega, by omega⟩ ⟨by omega, by omega⟩ ⟨by omega, by omega⟩ ⟨by omega, by omega⟩ ⟨by omega, by omega⟩ h5) hg (fun ρ => VRs.cons (by unfold VR; exact ⟨_, rfl, VRs.cons (by simp [VR, E.den, sc]) (VRs.cons (by simp [VR, E.den, sc]) (VRs.cons (by simp [VR, E.den, sc]) (VRs.cons (by simp [VR, E.den, sc]) (VRs.cons (by simp [VR, E.den, sc]) (VRs.nil)))))⟩) (VRs.cons (by simp [VR, E.den, sc]) VRs.nil))
set_option maxHeartbeats 4000000 in
theorem walk7 {W : World} (hL : L0 W) {n0_0 n0_1 n0_2 n0_3 n0_4 n1 g0 g1 g2 g3 g4 : Int} {t : Bool} (hg : Gh t (sc n0_0 n0_1 n0_2 n0_3 n0_4 n1 g0 g1 g2 g3 g4) W) (hop : 7 ≤ n0_0 ∧ n0_0 ≤ 7) (h0 : -9223372036854775808 ≤ n0_0 ∧ n0_0 ≤ 9223372036854775807) (h1 : -9223372036854775808 ≤ n0_1 ∧ n0_1 ≤ 9223372036854775807) (h2 : -9223372036854775808 ≤ n0_2 ∧ n0_2 ≤ 9223372036854775807) (h3 : -9223372036854775808 ≤ n0_3 ∧ n0_3 ≤ 9223372036854775807) (h4 : -9223372036854775808 ≤ n0_4 ∧ n0_4 ≤ 9223372036854775807) (h5 : 0 ≤ n1 ∧ n1 ≤ 4294967295) : Calls Tryd.prog 3 #[.agg #[.int .i64 n0_0, .int .i64 n0_1, .int .i64 n0_2, .int .i64 n0_3, .int .i64 n0_4], .int .u32 n1] W fun e w' => e = .returned (.bool true) ∧ Below W.heap.size W w' := by
  rcases (by omega : ((-9223372036854775808) ≤ n0_1 ∧ n0_1 ≤ (-1)) ∨ (0 ≤ n0_1 ∧ n0_1 ≤ 7) ∨ (8 ≤ n0_1 ∧ n0_1 ≤ 9223372036854775807)) with q | q | q
  ·
    obtain rfl : n0_0 = 7 := by omega
    exact case120 hL (kc ⟨by omega, by omega⟩ ⟨by omega, by omega⟩ ⟨by omega, by omega⟩ ⟨by omega, by omega⟩ ⟨by omega, by omega⟩ h5) hg (fun ρ => VRs.cons (by unfold VR; exact ⟨_, rfl, VRs.cons (by simp [VR, E.den, sc]) (VRs.cons (by simp [VR, E.den, sc]) (VRs.cons (by simp [VR, E.den, sc]) (VRs.cons (by simp [VR, E.den, sc]) (VRs.cons (by simp [VR, E.den, sc]) (VRs.nil)))))⟩) (VRs.cons (by simp [VR, E.den, sc]) VRs.nil))
  ·
    rcases (by omega : ((-9223372036854775808) ≤ n0_2 ∧ n0_2 ≤ (-1)) ∨ (0 ≤ n0_2 ∧ n0_2 ≤ 7) ∨ (8 ≤ n0_2 ∧ n0_2 ≤ 9223372036854775807)) with q | q | q
    ·
      obtain rfl : n0_0 = 7 := by omega
      exact case122 hL (kc ⟨by omega, by omega⟩ ⟨by omega, by omega⟩ ⟨by omega, by omega⟩ ⟨by omega, by omega⟩ ⟨by omega, by omega⟩ h5) hg (fun ρ => VRs.cons (by unfold VR; exact ⟨_, rfl, VRs.cons (by simp [VR, E.den, sc]) (VRs.cons (by simp [VR, E.den, sc]) (VRs.cons (by simp [VR, E.den, sc]) (VRs.cons (by simp [VR, E.den, sc]) (VRs.cons (by simp [VR, E.den, sc]) (VRs.nil)))))⟩) (VRs.cons (by simp [VR, E.den, sc]) VRs.nil))
    ·
      rcases (by omega : ((-9223372036854775808) ≤ n0_3 ∧ n0_3 ≤ (-1)) ∨ (0 ≤ n0_3 ∧ n0_3 ≤ 0) ∨ (1 ≤ n0_3 ∧ n0_3 ≤ 9223372036854775807)) with q | q | q
      ·
        rcases (by omega : ((-9223372036854775808) ≤ n0_4 ∧ n0_4 ≤ (-1)) ∨ (0 ≤ n0_4 ∧ n0_4 ≤ 4095) ∨ (4096 ≤ n0_4 ∧ n0_4 ≤ 9223372036854775807)) with q | q | q
        ·
          obtain rfl : n0_0 = 7 := by omega
          exact case124 hL (kc ⟨by omega, by omega⟩ ⟨by omega, by omega⟩ ⟨by omega, by omega⟩ ⟨by omega, by omega⟩ ⟨by omega, by omega⟩ h5) hg (fun ρ => VRs.cons (by unfold VR; exact ⟨_, rfl, VRs.cons (by simp [VR, E.den, sc]) (VRs.cons (by simp [VR, E.den, sc]) (VRs.cons (by simp [VR, E.den, sc]) (VRs.cons (by simp [VR, E.den, sc]) (VRs.cons (by simp [VR, E.den, sc]) (VRs.nil)))))⟩) (VRs.cons (by simp [VR, E.den, sc]) VRs.nil))
        ·
          obtain rfl : n0_0 = 7 := by omega
          exact case125 hL (kc ⟨by omega, by omega⟩ ⟨by omega, by omega⟩ ⟨by omega, by omega⟩ ⟨by omega, by omega⟩ ⟨by omega, by omega⟩ h5) hg (fun ρ => VRs.cons (by unfold VR; exact ⟨_, rfl, VRs.cons (by simp [VR, E.den, sc]) (VRs.cons (by simp [VR, E.den, sc]) (VRs.cons (by simp [VR, E.den, sc]) (VRs.cons (by simp [VR, E.den, sc]) (VRs.cons (by simp [VR, E.den, sc]) (VRs.nil)))))⟩) (VRs.cons (by simp [VR, E.den, sc]) VRs.nil))
        ·
          obtain rfl : n0_0 = 7 := by omega
          exact case126 hL (kc ⟨by omega, by omega⟩ ⟨by omega, by omega⟩ ⟨by omega, by omega⟩ ⟨by omega, by omega⟩ ⟨by omega, by omega⟩ h5) hg (fun ρ => VRs.cons (by unfold VR; exact ⟨_, rfl, VRs.cons (by simp [VR, E.den, sc]) (VRs.cons (by simp [VR, E.den, sc]) (VRs.cons (by simp [VR, E.den, sc]) (VRs.cons (by simp [VR, E.den, sc]) (VRs.cons (by simp [VR, E.den, sc]) (VRs.nil)))))⟩) (VRs.cons (by simp [VR, E.den, sc]) VRs.nil))
      ·
        rcases (by omega : ((-9223372036854775808) ≤ n0_4 ∧ n0_4 ≤ (-1)) ∨ (0 ≤ n0_4 ∧ n0_4 ≤ 9) ∨ (10 ≤ n0_4 ∧ n0_4 ≤ 99) ∨ (100 ≤ n0_4 ∧ n0_4 ≤ 999) ∨ (1000 ≤ n0_4 ∧ n0_4 ≤ 4095) ∨ (4096 ≤ n0_4 ∧ n0_4 ≤ 9223372036854775807)) with q | q | q | q | q | q
        ·
          obtain rfl : n0_0 = 7 := by omega
          obtain rfl : n0_3 = 0 := by omega
          exact case130 hL (kc ⟨by omega, by omega⟩ ⟨by omega, by omega⟩ ⟨by omega, by omega⟩ ⟨by omega, by omega⟩ ⟨by omega, by omega⟩ h5) hg (fun ρ => VRs.cons (by unfold VR; exact ⟨_, rfl, VRs.cons (by simp [VR, E.den, sc]) (VRs.cons (by simp [VR, E.den, sc]) (VRs.cons (by simp [VR, E.den, sc]) (VRs.cons (by simp [VR, E.den, sc]) (VRs.cons (by simp [VR, E.den, sc]) (VRs.nil)))))⟩) (VRs.cons (by simp [VR, E.den, sc]) VRs.nil))
        ·
          obtain rfl : n0_0 = 7 := by omega
          obtain rfl : n0_3 = 0 := by omega
          exact case132 hL (kc ⟨by omega, by omega⟩ ⟨by omega, by omega⟩ ⟨by omega, by omega⟩ ⟨by omega, by omega⟩ ⟨by omega, by omega⟩ h5) hg (fun ρ => VRs.cons (by unfold VR; exact ⟨_, rfl, VRs.cons (by simp [VR, E.den, sc]) (VRs.cons (by simp [VR, E.den, sc]) (VRs.cons (by simp [VR, E.den, sc]) (VRs.cons (by simp [VR, E.den, sc]) (VRs.cons (by simp [VR, E.den, sc]) (VRs.nil)))))⟩) (VRs.cons (by simp [VR, E.den, sc]) VRs.nil))
        ·
          obtain rfl : n0_0 = 7 := by omega
          obtain rfl : n0_3 = 0 := by omega
          exact case133 hL (kc ⟨by omega, by omega⟩ ⟨by omega, by omega⟩ ⟨by omega, by omega⟩ ⟨by omega, by omega⟩ ⟨by omega, by omega⟩ h5) hg (fun ρ => VRs.cons (by unfold VR; exact ⟨_, rfl, VRs.cons (by simp [VR, E.den, sc]) (VRs.cons (by simp [VR, E.den, sc]) (VRs.cons (by simp [VR, E.den, sc]) (VRs.cons (by simp [VR, E.den, sc]) (VRs.cons (by simp [VR, E.den, sc]) (VRs.nil)))))⟩) (VRs.cons (by simp [VR, E.den, sc]) VRs.nil))
        ·
          obtain rfl : n0_0 = 7 := by omega
          obtain rfl : n0_3 = 0 := by omega
          exact case134 hL (kc ⟨by omega, by omega⟩ ⟨by omega, by omega⟩ ⟨by omega, by omega⟩ ⟨by omega, by omega⟩ ⟨by omega, by omega⟩ h5) hg (fun ρ => VRs.cons (by unfold VR; exact ⟨_, rfl, VRs.cons (by simp [VR, E.den, sc]) (VRs.cons (by simp [VR, E.den, sc]) (VRs.cons (by simp [VR, E.den, sc]) (VRs.cons (by simp [VR, E.den, sc]) (VRs.cons (by simp [VR, E.den, sc]) (VRs.nil)))))⟩) (VRs.cons (by simp [VR, E.den, sc]) VRs.nil))
        ·
          obtain rfl : n0_0 = 7 := by omega
          obtain rfl : n0_3 = 0 := by omega
          exact case135 hL (kc ⟨by omega, by omega⟩ ⟨by omega, by omega⟩ ⟨by omega, by omega⟩ ⟨by omega, by omega⟩ ⟨by omega, by omega⟩ h5) hg (fun ρ => VRs.cons (by unfold VR; exact ⟨_, rfl, VRs.cons (by simp [VR, E.den, sc]) (VRs.cons (by simp [VR, E.den, sc]) (VRs.cons (by simp [VR, E.den, sc]) (VRs.cons (by simp [VR, E.den, sc]) (VRs.cons (by simp [VR, E.den, sc]) (VRs.nil)))))⟩) (VRs.cons (by simp [VR, E.den, sc]) VRs.nil))
        ·
          obtain rfl : n0_0 = 7 := by omega
          obtain rfl : n0_3 = 0 := by omega
          exact case131 hL (kc ⟨by omega, by omega⟩ ⟨by omega, by omega⟩ ⟨by omega, by omega⟩ ⟨by omega, by omega⟩ ⟨by omega, by omega⟩ h5) hg (fun ρ => VRs.cons (by unfold VR; exact ⟨_, rfl, VRs.cons (by simp [VR, E.den, sc]) (VRs.cons (by simp [VR, E.den, sc]) (VRs.cons (by simp [VR, E.den, sc]) (VRs.cons (by simp [VR, E.den, sc]) (VRs.cons (by simp [VR, E.den, sc]) (VRs.nil)))))⟩) (VRs.cons (by simp [VR, E.den, sc]) VRs.nil))
      ·
        rcases (by omega : ((-9223372036854775808) ≤ n0_4 ∧ n0_4 ≤ (-1)) ∨ (0 ≤ n0_4 ∧ n0_4 ≤ 4095) ∨ (4096 ≤ n0_4 ∧ n0_4 ≤ 9223372036854775807)) with q | q | q
        ·
          obtain rfl : n0_0 = 7 := by omega
          exact case127 hL (kc ⟨by omega, by omega⟩ ⟨by omega, by omega⟩ ⟨by omega, by omega⟩ ⟨by omega, by omega⟩ ⟨by omega, by omega⟩ h5) hg (fun ρ => VRs.cons (by unfold VR; exact ⟨_, rfl, VRs.cons (by simp [VR, E.den, sc]) (VRs.cons (by simp [VR, E.den, sc]) (VRs.cons (by simp [VR, E.den, sc]) (VRs.cons (by simp [VR, E.den, sc]) (VRs.cons (by simp [VR, E.den, sc]) (VRs.nil)))))⟩) (VRs.cons (by simp [VR, E.den, sc]) VRs.nil))
        ·
          obtain rfl : n0_0 = 7 := by omega
          exact case128 hL (kc ⟨by omega, by omega⟩ ⟨by omega, by omega⟩ ⟨by omega, by omega⟩ ⟨by omega, by omega⟩ ⟨by omega, by omega⟩ h5) hg (fun ρ => VRs.cons (by unfold VR; exact ⟨_, rfl, VRs.cons (by simp [VR, E.den, sc]) (VRs.cons (by simp [VR, E.den, sc]) (VRs.cons (by simp [VR, E.den, sc]) (VRs.cons (by simp [VR, E.den, sc]) (VRs.cons (by simp [VR, E.den, sc]) (VRs.nil)))))⟩) (VRs.cons (by simp [VR, E.den, sc]) VRs.nil))
        ·
          obtain rfl : n0_0 = 7 := by omega
          exact case129 hL (kc ⟨by omega, by omega⟩ ⟨by omega, by omega⟩ ⟨by omega, by omega⟩ ⟨by omega, by omega⟩ ⟨by omega, by omega⟩ h5) hg (fun ρ => VRs.cons (by unfold VR; exact ⟨_, rfl, VRs.cons (by simp [VR, E.den, sc]) (VRs.cons (by simp [VR, E.den, sc]) (VRs.cons (by simp [VR, E.den, sc]) (VRs.cons (by simp [VR, E.den, sc]) (VRs.cons (by simp [VR, E.den, sc]) (VRs.nil)))))⟩) (VRs.cons (by simp [VR, E.den, sc]) VRs.nil))
    ·
      obtain rfl : n0_0 = 7 := by omega
      exact case123 hL (kc ⟨by omega, by omega⟩ ⟨by omega, by omega⟩ ⟨by omega, by omega⟩ ⟨by omega, by omega⟩ ⟨by omega, by omega⟩ h5) hg (fun ρ => VRs.cons (by unfold VR; exact ⟨_, rfl, VRs.cons (by simp [VR, E.den, sc]) (VRs.cons (by simp [VR, E.den, sc]) (VRs.cons (by simp [VR, E.den, sc]) (VRs.cons (by simp [VR, E.den, sc]) (VRs.cons (by simp [VR, E.den, sc]) (VRs.nil)))))⟩) (VRs.cons (by simp [VR, E.den, sc]) VRs.nil))
  ·
    obtain rfl : n0_0 = 7 := by omega
    exact case121 hL (kc ⟨by omega, by omega⟩ ⟨by omega, by omega⟩ ⟨by omega, by omega⟩ ⟨by omega, by omega⟩ ⟨by omega, by omega⟩ h5) hg (fun ρ => VRs.cons (by unfold VR; exact ⟨_, rfl, VRs.cons (by simp [VR, E.den, sc]) (VRs.cons (by simp [VR, E.den, sc]) (VRs.cons (by simp [VR, E.den, sc]) (VRs.cons (by simp [VR, E.den, sc]) (VRs.cons (by simp [VR, E.den, sc]) (VRs.nil)))))⟩) (VRs.cons (by simp [VR, E.den, sc]) VRs.nil))
set_option maxHeartbeats 4000000 in
theorem walk8 {W : World} (hL : L0 W) {n0_0 n0_1 n0_2 n0_3 n0_4 n1 g0 g1 g2 g3 g4 : Int} {t : Bool} (hg : Gh t (sc n0_0 n0_1 n0_2 n0_3 n0_4 n1 g0 g1 g2 g3 g4) W) (hop : 8 ≤ n0_0 ∧ n0_0 ≤ 8) (h0 : -9223372036854775808 ≤ n0_0 ∧ n0_0 ≤ 9223372036854775807) (h1 : -9223372036854775808 ≤ n0_1 ∧ n0_1 ≤ 9223372036854775807) (h2 : -9223372036854775808 ≤ n0_2 ∧ n0_2 ≤ 9223372036854775807) (h3 : -9223372036854775808 ≤ n0_3 ∧ n0_3 ≤ 9223372036854775807) (h4 : -9223372036854775808 ≤ n0_4 ∧ n0_4 ≤ 9223372036854775807) (h5 : 0 ≤ n1 ∧ n1 ≤ 4294967295) : Calls Tryd.prog 3 #[.agg #[.int .i64 n0_0, .int .i64 n0_1, .int .i64 n0_2, .int .i64 n0_3, .int .i64 n0_4], .int .u32 n1] W fun e w' => e = .returned (.bool true) ∧ Below W.heap.size W w' := by
  rcases (by omega : ((-9223372036854775808) ≤ n0_1 ∧ n0_1 ≤ (-1)) ∨ (0 ≤ n0_1 ∧ n0_1 ≤ 15) ∨ (16 ≤ n0_1 ∧ n0_1 ≤ 9223372036854775807)) with q | q | q
  ·
    obtain rfl : n0_0 = 8 := by omega
    exact case136 hL (kc ⟨by omega, by omega⟩ ⟨by omega, by omega⟩ ⟨by omega, by omega⟩ ⟨by omega, by omega⟩ ⟨by omega, by omega⟩ h5) hg (fun ρ => VRs.cons (by unfold VR; exact ⟨_, rfl, VRs.cons (by simp [VR, E.den, sc]) (VRs.cons (by simp [VR, E.den, sc]) (VRs.cons (by simp [VR, E.den, sc]) (VRs.cons (by simp [VR, E.den, sc]) (VRs.cons (by simp [VR, E.den, sc]) (VRs.nil)))))⟩) (VRs.cons (by simp [VR, E.den, sc]) VRs.nil))
  ·
    rcases (by omega : ((-9223372036854775808) ≤ n0_2 ∧ n0_2 ≤ (-1)) ∨ (0 ≤ n0_2 ∧ n0_2 ≤ 15) ∨ (16 ≤ n0_2 ∧ n0_2 ≤ 9223372036854775807)) with q | q | q
    ·
      obtain rfl : n0_0 = 8 := by omega
      exact case138 hL (kc ⟨by omega, by omega⟩ ⟨by omega, by omega⟩ ⟨by omega, by omega⟩ ⟨by omega, by omega⟩ ⟨by omega, by omega⟩ h5) hg (fun ρ => VRs.cons (by unfold VR; exact ⟨_, rfl, VRs.cons (by simp [VR, E.den, sc]) (VRs.cons (by simp [VR, E.den, sc]) (VRs.cons (by simp [VR, E.den, sc]) (VRs.cons (by simp [VR, E.den, sc]) (VRs.cons (by simp [VR, E.den, sc]) (VRs.nil)))))⟩) (VRs.cons (by simp [VR, E.den, sc]) VRs.nil))
    ·
      rcases (by omega : ((-9223372036854775808) ≤ n0_3 ∧ n0_3 ≤ (-1)) ∨ (0 ≤ n0_3 ∧ n0_3 ≤ 0) ∨ (1 ≤ n0_3 ∧ n0_3 ≤ 9223372036854775807)) with q | q | q
      ·
        rcases (by omega : ((-9223372036854775808) ≤ n0_4 ∧ n0_4 ≤ (-1)) ∨ (0 ≤ n0_4 ∧ n0_4 ≤ 0) ∨ (1 ≤ n0_4 ∧ n0_4 ≤ 9223372036854775807)) with q | q | q
        ·
          obtain rfl : n0_0 = 8 := by omega
          exact case140 hL (kc ⟨by omega, by omega⟩ ⟨by omega, by omega⟩ ⟨by omega, by omega⟩ ⟨by omega, by omega⟩ ⟨by omega, by omega⟩ h5) hg (fun ρ => VRs.cons (by unfold VR; exact ⟨_, rfl, VRs.cons (by simp [VR, E.den, sc]) (VRs.cons (by simp [VR, E.den, sc]) (VRs.cons (by simp [VR, E.den, sc]) (VRs.cons (by simp [VR, E.den, sc]) (VRs.cons (by simp [VR, E.den, sc]) (VRs.nil)))))⟩) (VRs.cons (by simp [VR, E.den, sc]) VRs.nil))
        ·
          obtain rfl : n0_0 = 8 := by omega
          obtain rfl : n0_4 = 0 := by omega
          exact case141 hL (kc ⟨by omega, by omega⟩ ⟨by omega, by omega⟩ ⟨by omega, by omega⟩ ⟨by omega, by omega⟩ ⟨by omega, by omega⟩ h5) hg (fun ρ => VRs.cons (by unfold VR; exact ⟨_, rfl, VRs.cons (by simp [VR, E.den, sc]) (VRs.cons (by simp [VR, E.den, sc]) (VRs.cons (by simp [VR, E.den, sc]) (VRs.cons (by simp [VR, E.den, sc]) (VRs.cons (by simp [VR, E.den, sc]) (VRs.nil)))))⟩) (VRs.cons (by simp [VR, E.den, sc]) VRs.nil))
        ·
          obtain rfl : n0_0 = 8 := by omega
          exact case142 hL (kc ⟨by omega, by omega⟩ ⟨by omega, by omega⟩ ⟨by omega, by omega⟩ ⟨by omega, by omega⟩ ⟨by omega, by omega⟩ h5) hg (fun ρ => VRs.cons (by unfold VR; exact ⟨_, rfl, VRs.cons (by simp [VR, E.den, sc]) (VRs.cons (by simp [VR, E.den, sc]) (VRs.cons (by simp [VR, E.den, sc]) (VRs.cons (by simp [VR, E.den, sc]) (VRs.cons (by simp [VR, E.den, sc]) (VRs.nil)))))⟩) (VRs.cons (by simp [VR, E.den, sc]) VRs.nil))
      ·
        rcases (by omega : ((-9223372036854775808) ≤ n0_4 ∧ n0_4 ≤ (-1)) ∨ (0 ≤ n0_4 ∧ n0_4 ≤ 0) ∨ (1 ≤ n0_4 ∧ n0_4 ≤ 9223372036854775807)) with q | q | q
        ·
          obtain rfl : n0_0 = 8 := by omega
          obtain rfl : n0_3 = 0 := by omega
          exact case146 hL (kc ⟨by omega, by omega⟩ ⟨by omega, by omega⟩ ⟨by omega, by omega⟩ ⟨by omega, by omega⟩ ⟨by omega, by omega⟩ h5) hg (fun ρ => VRs.cons (by unfold VR; exact ⟨_, rfl, VRs.cons (by simp [VR, E.den, sc]) (VRs.cons (by simp [VR, E.den, sc]) (VRs.cons (by simp [VR, E.den, sc]) (VRs.cons (by simp [VR, E.den, sc]) (VRs.cons (by simp [VR, E.den, sc]) (VRs.nil)))))⟩) (VRs.cons (by simp [VR, E.den, sc]) VRs.nil))
        ·
          rcases (by omega : (0 ≤ n0_1 ∧ n0_1 ≤ 9) ∨ (10 ≤ n0_1 ∧ n0_1 ≤ 15)) with q | q
          ·
            rcases (by omega : (0 ≤ n0_2 ∧ n0_2 ≤ 9) ∨ (10 ≤ n0_2 ∧ n0_2 ≤ 15)) with q | q
            ·
              obtain rfl : n0_0 = 8 := by omega
              obtain rfl : n0_3 = 0 := by omega
              obtain rfl : n0_4 = 0 := by omega
              exact case148 hL (kc ⟨by omega, by omega⟩ ⟨by omega, by omega⟩ ⟨by omega, by omega⟩ ⟨by omega, by omega⟩ ⟨by omega, by omega⟩ h5) hg (fun ρ => VRs.cons (by unfold VR; exact ⟨_, rfl, VRs.cons (by simp [VR, E.den, sc]) (VRs.cons (by simp [VR, E.den, sc]) (VRs.cons (by simp [VR, E.den, sc]) (VRs.cons (by simp [VR, E.den, sc]) (VRs.cons (by simp [VR, E.den, sc]) (VRs.nil)))))⟩) (VRs.cons (by simp [VR, E.den, sc]) VRs.nil))
            ·
              obtain rfl : n0_0 = 8 := by omega
              obtain rfl : n0_3 = 0 := by omega
              obtain rfl : n0_4 = 0 := by omega
              exact case149 hL (kc ⟨by omega, by omega⟩ ⟨by omega, by omega⟩ ⟨by omega, by omega⟩ ⟨by omega, by omega⟩ ⟨by omega, by omega⟩ h5) hg (fun ρ => VRs.cons (by unfold VR; exact ⟨_, rfl, VRs.cons (by simp [VR, E.den, sc]) (VRs.cons (by simp [VR, E.den, sc]) (VRs.cons (by simp [VR, E.den, sc]) (VRs.cons (by simp [VR, E.den, sc]) (VRs.cons (by simp [VR, E.den, sc]) (VRs.nil)))))⟩) (VRs.cons (by simp [VR, E.den, sc]) VRs.nil))
          ·
            rcases (by omega : (0 ≤ n0_2 ∧ n0_2 ≤ 9) ∨ (10 ≤ n0_2 ∧ n0_2 ≤ 15)) with q | q
            ·
              obtain rfl : n0_0 = 8 := by omega
              obtain rfl : n0_3 = 0 := by omega
              obtain rfl : n0_4 = 0 := by omega
              exact case150 hL (kc ⟨by omega, by omega⟩ ⟨by omega, by omega⟩ ⟨by omega, by omega⟩ ⟨by omega, by omega⟩ ⟨by omega, by omega⟩ h5) hg (fun ρ => VRs.cons (by unfold VR; exact ⟨_, rfl, VRs.cons (by simp [VR, E.den, sc]) (VRs.cons (by simp [VR, E.den, sc]) (VRs.cons (by simp [VR, E.den, sc]) (VRs.cons (by simp [VR, E.den, sc]) (VRs.cons (by simp [VR, E.den, sc]) (VRs.nil)))))⟩) (VRs.cons (by simp [VR, E.den, sc]) VRs.nil))
            ·
              obtain rfl : n0_0 = 8 := by omega
              obtain rfl : n0_3 = 0 := by omega
              obtain rfl : n0_4 = 0 := by omega
              exact case151 hL (kc ⟨by omega, by omega⟩ ⟨by omega, by omega⟩ ⟨by omega, by omega⟩ ⟨by omega, by omega⟩ ⟨by omega, by omega⟩ h5) hg (fun ρ => VRs.cons (by unfold VR; exact ⟨_, rfl, VRs.cons (by simp [VR, E.den, sc]) (VRs.cons (by simp [VR, E.den, sc]) (VRs.cons (by simp [VR, E.den, sc]) (VRs.cons (by simp [VR, E.den, sc]) (VRs.cons (by simp [VR, E.den, sc]) (VRs.nil)))))⟩) (VRs.cons (by simp [VR, E.den, sc]) VRs.nil))
        ·
          obtain rfl : n0_0 = 8 := by omega
          obtain rfl : n0_3 = 0 := by omega
          exact case147 hL (kc ⟨by omega, by omega⟩ ⟨by omega, by omega⟩ ⟨by omega, by omega⟩ ⟨by omega, by omega⟩ ⟨by omega, by omega⟩ h5) hg (fun ρ => VRs.cons (by unfold VR; exact ⟨_, rfl, VRs.cons (by simp [VR, E.den, sc]) (VRs.cons (by simp [VR, E.den, sc]) (VRs.cons (by simp [VR, E.den, sc]) (VRs.cons (by simp [VR, E.den, sc]) (VRs.cons (by simp [VR, E.den, sc]) (VRs.nil)))))⟩) (VRs.cons (by simp [VR, E.den, sc]) VRs.nil))
      ·
        rcases (by omega : ((-9223372036854775808) ≤ n0_4 ∧ n0_4 ≤ (-1)) ∨ (0 ≤ n0_4 ∧ n0_4 ≤ 0) ∨ (1 ≤ n0_4 ∧ n0_4 ≤ 9223372036854775807)) with q | q | q
        ·
          obtain rfl : n0_0 = 8 := by omega
          exact case143 hL (kc ⟨by omega, by omega⟩ ⟨by omega, by omega⟩ ⟨by omega, by omega⟩ ⟨by omega, by omega⟩ ⟨by omega, by omega⟩ h5) hg (fun ρ => VRs.cons (by unfold VR; exact ⟨_, rfl, VRs.cons (by simp [VR, E.den, sc]) (VRs.cons (by simp [VR, E.den, sc]) (VRs.cons (by simp [VR, E.den, sc]) (VRs.cons (by simp [VR, E.den, sc]) (VRs.cons (by simp [VR, E.den, sc]) (VRs.nil)))))⟩) (VRs.cons (by simp [VR, E.den, sc]) VRs.nil))
        ·
          obtain rfl : n0_0 = 8 := by omega
          obtain rfl : n0_4 = 0 := by omega
          exact case144 hL (kc ⟨by omega, by omega⟩ ⟨by omega, by omega⟩ ⟨by omega, by omega⟩ ⟨by omega, by omega⟩ ⟨by omega, by omega⟩ h5) hg (fun ρ => VRs.cons (by unfold VR; exact ⟨_, rfl, VRs.cons (by simp [VR, E.den, sc]) (VRs.cons (by simp [VR, E.den, sc]) (VRs.cons (by simp [VR, E.den, sc]) (VRs.cons (by simp [VR, E.den, sc]) (VRs.cons (by simp [VR, E.den, sc]) (VRs.nil)))))⟩) (VRs.cons (by simp [VR, E.den, sc]) VRs.nil))
        ·
          obtain rfl : n0_0 = 8 := by omega
          exact case145 hL (kc ⟨by omega, by omega⟩ ⟨by omega, by omega⟩ ⟨by omega, by omega⟩ ⟨by omega, by omega⟩ ⟨by omega, by omega⟩ h5) hg (fun ρ => VRs.cons (by unfold VR; exact ⟨_, rfl, VRs.cons (by simp [VR, E.den, sc]) (VRs.cons (by simp [VR, E.den, sc]) (VRs.cons (by simp [VR, E.den, sc]) (VRs.cons (by simp [VR, E.den, sc]) (VRs.cons (by simp [VR, E.den, sc]) (VRs.nil)))))⟩) (VRs.cons (by simp [VR, E.den, sc]) VRs.nil))
    ·
      obtain rfl : n0_0 = 8 := by omega
      exact case139 hL (kc ⟨by omega, by omega⟩ ⟨by omega, by omega⟩ ⟨by omega, by omega⟩ ⟨by omega, by omega⟩ ⟨by omega, by omega⟩ h5) hg (fun ρ => VRs.cons (by unfold VR; exact ⟨_, rfl, VRs.cons (by simp [VR, E.den, sc]) (VRs.cons (by simp [VR, E.den, sc]) (VRs.cons (by simp [VR, E.den, sc]) (VRs.cons (by simp [VR, E.den, sc]) (VRs.cons (by simp [VR, E.den, sc]) (VRs.nil)))))⟩) (VRs.cons (by simp [VR, E.den, sc]) VRs.nil))
  ·
    obtain rfl : n0_0 = 8 := by omega
    exact case137 hL (kc ⟨by omega, by omega⟩ ⟨by omega, by omega⟩ ⟨by omega, by omega⟩ ⟨by omega, by omega⟩ ⟨by omega, by omega⟩ h5) hg (fun ρ => VRs.cons (by unfold VR; exact ⟨_, rfl, VRs.cons (by simp [VR, E.den, sc]) (VRs.cons (by simp [VR, E.den, sc]) (VRs.cons (by simp [VR, E.den, sc]) (VRs.cons (by simp [VR, E.den, sc]) (VRs.cons (by simp [VR, E.den, sc]) (VRs.nil)))))⟩) (VRs.cons (by simp [VR, E.den, sc]) VRs.nil))
set_option maxHeartbeats 4000000 in
theorem walk9 {W : World} (hL : L0 W) {n0_0 n0_1 n0_2 n0_3 n0_4 n1 g0 g1 g2 g3 g4 : Int} {t : Bool} (hg : Gh t (sc n0_0 n0_1 n0_2 n0_3 n0_4 n1 g0 g1 g2 g3 g4) W) (hop : 9 ≤ n0_0 ∧ n0_0 ≤ 9) (h0 : -9223372036854775808 ≤ n0_0 ∧ n0_0 ≤ 9223372036854775807) (h1 : -9223372036854775808 ≤ n0_1 ∧ n0_1 ≤ 9223372036854775807) (h2 : -9223372036854775808 ≤ n0_2 ∧ n0_2 ≤ 9223372036854775807) (h3 : -9223372036854775808 ≤ n0_3 ∧ n0_3 ≤ 9223372036854775807) (h4 : -9223372036854775808 ≤ n0_4 ∧ n0_4 ≤ 9223372036854775807) (h5 : 0 ≤ n1 ∧ n1 ≤ 4294967295) : Calls Tryd.prog 3 #[.agg #[.int .i64 n0_0, .int .i64 n0_1, .int .i64 n0_2, .int .i64 n0_3, .int .i64 n0_4], .int .u32 n1] W fun e w' => e = .returned (.bool true) ∧ Below W.heap.size W w' := by
  rcases (by omega : ((-9223372036854775808) ≤ n0_1 ∧ n0_1 ≤ (-1)) ∨ (0 ≤ n0_1 ∧ n0_1 ≤ 15) ∨ (16 ≤ n0_1 ∧ n0_1 ≤ 9223372036854775807)) with q | q | q
  ·
    obtain rfl : n0_0 = 9 := by omega
    exact case152 hL (kc ⟨by omega, by omega⟩ ⟨by omega, by omega⟩ ⟨by omega, by omega⟩ ⟨by omega, by omega⟩ ⟨by omega, by omega⟩ h5) hg (fun ρ => VRs.cons (by unfold VR; exact ⟨_, rfl, VRs.cons (by simp [VR, E.den, sc]) (VRs.cons (by simp [VR, E.den, sc]) (VRs.cons (by simp [VR, E.den, sc]) (VRs.cons (by simp [VR, E.den, sc]) (VRs.cons (by simp [VR, E.den, sc]) (VRs.nil)))))⟩) (VRs.cons (by simp [VR, E.den, sc]) VRs.nil))
  ·
    rcases (by omega : ((-9223372036854775808) ≤ n0_2 ∧ n0_2 ≤ (-1)) ∨ (0 ≤ n0_2 ∧ n0_2 ≤ 7) ∨ (8 ≤ n0_2 ∧ n0_2 ≤ 9223372036854775807)) with q | q | q
    ·
      obtain rfl : n0_0 = 9 := by omega
      exact case154 hL (kc ⟨by omega, by omega⟩ ⟨by omega, by omega⟩ ⟨by omega, by omega⟩ ⟨by omega, by omega⟩ ⟨by omega, by omega⟩ h5) hg (fun ρ => VRs.cons (by unfold VR; exact ⟨_, rfl, VRs.cons (by simp [VR, E.den, sc]) (VRs.cons (by simp [VR, E.den, sc]) (VRs.cons (by simp [VR, E.den, sc]) (VRs.cons (by simp [VR, E.den, sc]) (VRs.cons (by simp [VR, E.den, sc]) (VRs.nil)))))⟩) (VRs.cons (by simp [VR, E.den, sc]) VRs.nil))
    ·
      rcases (by omega : ((-9223372036854775808) ≤ n0_3 ∧ n0_3 ≤ (-1)) ∨ (0 ≤ n0_3 ∧ n0_3 ≤ 0) ∨ (1 ≤ n0_3 ∧ n0_3 ≤ 9223372036854775807)) with q | q | q
      ·
        rcases (by omega : ((-9223372036854775808) ≤ n0_4 ∧ n0_4 ≤ (-1)) ∨ (0 ≤ n0_4 ∧ n0_4 ≤ 0) ∨ (1 ≤ n0_4 ∧ n0_4 ≤ 9223372036854775807)) with q | q | q
        ·
          obtain rfl : n0_0 = 9 := by omega
          exact case156 hL (kc ⟨by omega, by omega⟩ ⟨by omega, by omega⟩ ⟨by omega, by omega⟩ ⟨by omega, by omega⟩ ⟨by omega, by omega⟩ h5) hg (fun ρ => VRs.cons (by unfold VR; exact ⟨_, rfl, VRs.cons (by simp [VR, E.den, sc]) (VRs.cons (by simp [VR, E.den, sc]) (VRs.cons (by simp [VR, E.den, sc]) (VRs.cons (by simp [VR, E.den, sc]) (VRs.cons (by simp [VR, E.den, sc]) (VRs.nil)))))⟩) (VRs.cons (by simp [VR, E.den, sc]) VRs.nil))
        ·
          obtain rfl : n0_0 = 9 := by omega
          obtain rfl : n0_4 = 0 := by omega
          exact case157 hL (kc ⟨by omega, by omega⟩ ⟨by omega, by omega⟩ ⟨by omega, by omega⟩ ⟨by omega, by omega⟩ ⟨by omega, by omega⟩ h5) hg (fun ρ => VRs.cons (by unfold VR; exact ⟨_, rfl, VRs.cons (by simp [VR, E.den, sc]) (VRs.cons (by simp [VR, E.den, sc]) (VRs.cons (by simp [VR, E.den, sc]) (VRs.cons (by simp [VR, E.den, sc]) (VRs.cons (by simp [VR, E.den, sc]) (VRs.nil)))))⟩) (VRs.cons (by simp [VR, E.den, sc]) VRs.nil))
        ·
          obtain rfl : n0_0 = 9 := by omega
          exact case158 hL (kc ⟨by omega, by omega⟩ ⟨by omega, by omega⟩ ⟨by omega, by omega⟩ ⟨by omega, by omega⟩ ⟨by omega, by omega⟩ h5) hg (fun ρ => VRs.cons (by unfold VR; exact ⟨_, rfl, VRs.cons (by simp [VR, E.den, sc]) (VRs.cons (by simp [VR, E.den, sc]) (VRs.cons (by simp [VR, E.den, sc]) (VRs.cons (by simp [VR, E.den, sc]) (VRs.cons (by simp [VR, E.den, sc]) (VRs.nil)))))⟩) (VRs.cons (by simp [VR, E.den, sc]) VRs.nil))
      ·
        rcases (by omega : ((-9223372036854775808) ≤ n0_4 ∧ n0_4 ≤ (-1)) ∨ (0 ≤ n0_4 ∧ n0_4 ≤ 0) ∨ (1 ≤ n0_4 ∧ n0_4 ≤ 9223372036854775807)) with q | q | q
        ·
          obtain rfl : n0_0 = 9 := by omega
          obtain rfl : n0_3 = 0 := by omega
          exact case162 hL (kc ⟨by omega, by omega⟩ ⟨by omega, by omega⟩ ⟨by omega, by omega⟩ ⟨by omega, by omega⟩ ⟨by omega, by omega⟩ h5) hg (fun ρ => VRs.cons (by unfold VR; exact ⟨_, rfl, VRs.cons (by simp [VR, E.den, sc]) (VRs.cons (by simp [VR, E.den, sc]) (VRs.cons (by simp [VR, E.den, sc]) (VRs.cons (by simp [VR, E.den, sc]) (VRs.cons (by simp [VR, E.den, sc]) (VRs.nil)))))⟩) (VRs.cons (by simp [VR, E.den, sc]) VRs.nil))
        ·
          rcases (by omega : (0 ≤ n0_1 ∧ n0_1 ≤ 9) ∨ (10 ≤ n0_1 ∧ n0_1 ≤ 15)) with q | q
          ·
            obtain rfl : n0_0 = 9 := by omega
            obtain rfl : n0_3 = 0 := by omega
            obtain rfl : n0_4 = 0 := by omega
            exact case164 hL (kc ⟨by omega, by omega⟩ ⟨by omega, by omega⟩ ⟨by omega, by omega⟩ ⟨by omega, by omega⟩ ⟨by omega, by omega⟩ h5) hg (fun ρ => VRs.cons (by unfold VR; exact ⟨_, rfl, VRs.cons (by simp [VR, E.den, sc]) (VRs.cons (by simp [VR, E.den, sc]) (VRs.cons (by simp [VR, E.den, sc]) (VRs.cons (by simp [VR, E.den, sc]) (VRs.cons (by simp [VR, E.den, sc]) (VRs.nil)))))⟩) (VRs.cons (by simp [VR, E.den, sc]) VRs.nil))
          ·
            obtain rfl : n0_0 = 9 := by omega
            obtain rfl : n0_3 = 0 := by omega
            obtain rfl : n0_4 = 0 := by omega
            exact case165 hL (kc ⟨by omega, by omega⟩ ⟨by omega, by omega⟩ ⟨by omega, by omega⟩ ⟨by omega, by omega⟩ ⟨by omega, by omega⟩ h5) hg (fun ρ => VRs.cons (by unfold VR; exact ⟨_, rfl, VRs.cons (by simp [VR, E.den, sc]) (VRs.cons (by simp [VR, E.den, sc]) (VRs.cons (by simp [VR, E.den, sc]) (VRs.cons (by simp [VR, E.den, sc]) (VRs.cons (by simp [VR, E.den, sc]) (VRs.nil)))))⟩) (VRs.cons (by simp [VR, E.den, sc]) VRs.nil))
        ·
          obtain rfl : n0_0 = 9 := by omega
          obtain rfl : n0_3 = 0 := by omega
          exact case163 hL (kc ⟨by omega, by omega⟩ ⟨by omega, by omega⟩ ⟨by omega, by omega⟩ ⟨by omega, by omega⟩ ⟨by omega, by omega⟩ h5) hg (fun ρ => VRs.cons (by unfold VR; exact ⟨_, rfl, VRs.cons (by simp [VR, E.den, sc]) (VRs.cons (by simp [VR, E.den, sc]) (VRs.cons (by simp [VR, E.den, sc]) (VRs.cons (by simp [VR, E.den, sc]) (VRs.cons (by simp [VR, E.den, sc]) (VRs.nil)))))⟩) (VRs.cons (by simp [VR, E.den, sc]) VRs.nil))
      ·
        rcases (by omega : ((-9223372036854775808) ≤ n0_4 ∧ n0_4 ≤ (-1)) ∨ (0 ≤ n0_4 ∧ n0_4 ≤ 0) ∨ (1 ≤ n0_4 ∧ n0_4 ≤ 9223372036854775807)) with q | q | q
        ·
          obtain rfl : n0_0 = 9 := by omega
          exact case159 hL (kc ⟨by omega, by omega⟩ ⟨by omega, by omega⟩ ⟨by omega, by omega⟩ ⟨by omega, by omega⟩ ⟨by omega, by omega⟩ h5) hg (fun ρ => VRs.cons (by unfold VR; exact ⟨_, rfl, VRs.cons (by simp [VR, E.den, sc]) (VRs.cons (by simp [VR, E.den, sc]) (VRs.cons (by simp [VR, E.den, sc]) (VRs.cons (by simp [VR, E.den, sc]) (VRs.cons (by simp [VR, E.den, sc]) (VRs.nil)))))⟩) (VRs.cons (by simp [VR, E.den, sc]) VRs.nil))
        ·
          obtain rfl : n0_0 = 9 := by omega
          obtain rfl : n0_4 = 0 := by omega
          exact case160 hL (kc ⟨by omega, by omega⟩ ⟨by omega, by omega⟩ ⟨by omega, by omega⟩ ⟨by omega, by omega⟩ ⟨by omega, by omega⟩ h5) hg (fun ρ => VRs.cons (by unfold VR; exact ⟨_, rfl, VRs.cons (by simp [VR, E.den, sc]) (VRs.cons (by simp [VR, E.den, sc]) (VRs.cons (by simp [VR, E.den, sc]) (VRs.cons (by simp [VR, E.den, sc]) (VRs.cons (by simp [VR, E.den, sc]) (VRs.nil)))))⟩) (VRs.cons (by simp [VR, E.den, sc]) VRs.nil))
        ·
          obtain rfl : n0_0 = 9 := by omega
          exact case161 hL (kc ⟨by omega, by omega⟩ ⟨by omega, by omega⟩ ⟨by omega, by omega⟩ ⟨by omega, by omega⟩ ⟨by omega, by omega⟩ h5) hg (fun ρ => VRs.cons (by unfold VR; exact ⟨_, rfl, VRs.cons (by simp [VR, E.den, sc]) (VRs.cons (by simp [VR, E.den, sc]) (VRs.cons (by simp [VR, E.den, sc]) (VRs.cons (by simp [VR, E.den, sc]) (VRs.cons (by simp [VR, E.den, sc]) (VRs.nil)))))⟩) (VRs.cons (by simp [VR, E.den, sc]) VRs.nil))
    ·
      obtain rfl : n0_0 = 9 := by omega
      exact case155 hL (kc ⟨by omega, by omega⟩ ⟨by omega, by omega⟩ ⟨by omega, by omega⟩ ⟨by omega, by omega⟩ ⟨by omega, by omega⟩ h5) hg (fun ρ => VRs.cons (by unfold VR; exact ⟨_, rfl, VRs.cons (by simp [VR, E.den, sc]) (VRs.cons (by simp [VR, E.den, sc]) (VRs.cons (by simp [VR, E.den, sc]) (VRs.cons (by simp [VR, E.den, sc]) (VRs.cons (by simp [VR, E.den, sc]) (VRs.nil)))))⟩) (VRs.cons (by simp [VR, E.den, sc]) VRs.nil))
  ·
    obtain rfl : n0_0 = 9 := by omega
    exact case153 hL (kc ⟨by omega, by omega⟩ ⟨by omega, by omega⟩ ⟨by omega, by omega⟩ ⟨by omega, by omega⟩ ⟨by omega, by omega⟩ h5) hg (fun ρ => VRs.cons (by unfold VR; exact ⟨_, rfl, VRs.cons (by simp [VR, E.den, sc]) (VRs.cons (by simp [VR, E.den, sc]) (VRs.cons (by simp [VR, E.den, sc]) (VRs.cons (by simp [VR, E.den, sc]) (VRs.cons (by simp [VR, E.den, sc]) (VRs.nil)))))⟩) (VRs.cons (by simp [VR, E.den, sc]) VRs.nil))
set_option maxHeartbeats 4000000 in
theorem walk10 {W : World} (hL : L0 W) {n0_0 n0_1 n0_2 n0_3 n0_4 n1 g0 g1 g2 g3 g4 : Int} {t : Bool} (hg : Gh t (sc n0_0 n0_1 n0_2 n0_3 n0_4 n1 g0 g1 g2 g3 g4) W) (hop : 10 ≤ n0_0 ∧ n0_0 ≤ 10) (h0 : -9223372036854775808 ≤ n0_0 ∧ n0_0 ≤ 9223372036854775807) (h1 : -9223372036854775808 ≤ n0_1 ∧ n0_1 ≤ 9223372036854775807) (h2 : -9223372036854775808 ≤ n0_2 ∧ n0_2 ≤ 9223372036854775807) (h3 : -9223372036854775808 ≤ n0_3 ∧ n0_3 ≤ 9223372036854775807) (h4 : -9223372036854775808 ≤ n0_4 ∧ n0_4 ≤ 9223372036854775807) (h5 : 0 ≤ n1 ∧ n1 ≤ 4294967295) : Calls Tryd.prog 3 #[.agg #[.int .i64 n0_0, .int .i64 n0_1, .int .i64 n0_2, .int .i64 n0_3, .int .i64 n0_4], .int .u32 n1] W fun e w' => e = .returned (.bool true) ∧ Below W.heap.size W w' := by
  rcases (by omega : ((-9223372036854775808) ≤ n0_1 ∧ n0_1 ≤ (-1)) ∨ (0 ≤ n0_1 ∧ n0_1 ≤ 7) ∨ (8 ≤ n0_1 ∧ n0_1 ≤ 9223372036854775807)) with q | q | q
  ·
    obtain rfl : n0_0 = 10 := by omega
    exact case166 hL (kc ⟨by omega, by omega⟩ ⟨by omega, by omega⟩ ⟨by omega, by omega⟩ ⟨by omega, by omega⟩ ⟨by omega, by omega⟩ h5) hg (fun ρ => VRs.cons (by unfold VR; exact ⟨_, rfl, VRs.cons (by simp [VR, E.den, sc]) (VRs.cons (by simp [VR, E.den, sc]) (VRs.cons (by simp [VR, E.den, sc]) (VRs.cons (by simp [VR, E.den, sc]) (VRs.cons (by simp [VR, E.den, sc]) (VRs.nil)))))⟩) (VRs.cons (by simp [VR, E.den, sc]) VRs.nil))
  ·
    rcases (by omega : ((-9223372036854775808) ≤ n0_2 ∧ n0_2 ≤ (-1)) ∨ (0 ≤ n0_2 ∧ n0_2 ≤ 15) ∨ (16 ≤ n0_2 ∧ n0_2 ≤ 9223372036854775807)) with q | q | q
    ·
      obtain rfl : n0_0 = 10 := by omega
      exact case168 hL (kc ⟨by omega, by omega⟩ ⟨by omega, by omega⟩ ⟨by omega, by omega⟩ ⟨by omega, by omega⟩ ⟨by omega, by omega⟩ h5) hg (fun ρ => VRs.cons (by unfold VR; exact ⟨_, rfl, VRs.cons (by simp [VR, E.den, sc]) (VRs.cons (by simp [VR, E.den, sc]) (VRs.cons (by simp [VR, E.den, sc]) (VRs.cons (by simp [VR, E.den, sc]) (VRs.cons (by simp [VR, E.den, sc]) (VRs.nil)))))⟩) (VRs.cons (by simp [VR, E.den, sc]) VRs.nil))
    ·
      rcases (by omega : ((-9223372036854775808) ≤ n0_3 ∧ n0_3 ≤ (-1)) ∨ (0 ≤ n0_3 ∧ n0_3 ≤ 0) ∨ (1 ≤ n0_3 ∧ n0_3 ≤ 9223372036854775807)) with q | q | q
      ·
        rcases (by omega : ((-9223372036854775808) ≤ n0_4 ∧ n0_4 ≤ (-1)) ∨ (0 ≤ n0_4 ∧ n0_4 ≤ 0) ∨ (1 ≤ n0_4 ∧ n0_4 ≤ 9223372036854775807)) with q | q | q
        ·
          obtain rfl : n0_0 = 10 := by omega
          exact case170 hL (kc ⟨by omega, by omega⟩ ⟨by omega, by omega⟩ ⟨by omega, by omega⟩ ⟨by omega, by omega⟩ ⟨by omega, by omega⟩ h5) hg (fun ρ => VRs.cons (by unfold VR; exact ⟨_, rfl, VRs.cons (by simp [VR, E.den, sc]) (VRs.cons (by simp [VR, E.den, sc]) (VRs.cons (by simp [VR, E.den, sc]) (VRs.cons (by simp [VR, E.den, sc]) (VRs.cons (by simp [VR, E.den, sc]) (VRs.nil)))))⟩) (VRs.cons (by simp [VR, E.den, sc]) VRs.nil))
        ·
          obtain rfl : n0_0 = 10 := by omega
          obtain rfl : n0_4 = 0 := by omega
          exact case171 hL (kc ⟨by omega, by omega⟩ ⟨by omega, by omega⟩ ⟨by omega, by omega⟩ ⟨by omega, by omega⟩ ⟨by omega, by omega⟩ h5) hg (fun ρ => VRs.cons (by unfold VR; exact ⟨_, rfl, VRs.cons (by simp [VR, E.den, sc]) (VRs.cons (by simp [VR, E.den, sc]) (VRs.cons (by simp [VR, E.den, sc]) (VRs.cons (by simp [VR, E.den, sc]) (VRs.cons (by simp [VR, E.den, sc]) (VRs.nil)))))⟩) (VRs.cons (by simp [VR, E.den, sc]) VRs.nil))
        ·
          obtain rfl : n0_0 = 10 := by omega
          exact case172 hL (kc ⟨by omega, by omega⟩ ⟨by omega, by omega⟩ ⟨by omega, by omega⟩ ⟨by omega, by omega⟩ ⟨by omega, by omega⟩ h5) hg (fun ρ => VRs.cons (by unfold VR; exact ⟨_, rfl, VRs.cons (by simp [VR, E.den, sc]) (VRs.cons (by simp [VR, E.den, sc]) (VRs.cons (by simp [VR, E.den, sc]) (VRs.cons (by simp [VR, E.den, sc]) (VRs.cons (by simp [VR, E.den, sc]) (VRs.nil)))))⟩) (VRs.cons (by simp [VR, E.den, sc]) VRs.nil))
      ·
        rcases (by omega : ((-9223372036854775808) ≤ n0_4 ∧ n0_4 ≤ (-1)) ∨ (0 ≤ n0_4 ∧ n0_4 ≤ 0) ∨ (1 ≤ n0_4 ∧ n0_4 ≤ 9223372036854775807)) with q | q | q
        ·
          obtain rfl : n0_0 = 10 := by omega
          obtain rfl : n0_3 = 0 := by omega
          exact case176 hL (kc ⟨by omega, by omega⟩ ⟨by omega, by omega⟩ ⟨by omega, by omega⟩ ⟨by omega, by omega⟩ ⟨by omega, by omega⟩ h5) hg (fun ρ => VRs.cons (by unfold VR; exact ⟨_, rfl, VRs.cons (by simp [VR, E.den, sc]) (VRs.cons (by simp [VR, E.den, sc]) (VRs.cons (by simp [VR, E.den, sc]) (VRs.cons (by simp [VR, E.den, sc]) (VRs.cons (by simp [VR, E.den, sc]) (VRs.nil)))))⟩) (VRs.cons (by simp [VR, E.den, sc]) VRs.nil))
        ·
          rcases (by omega : (0 ≤ n0_2 ∧ n0_2 ≤ 9) ∨ (10 ≤ n0_2 ∧ n0_2 ≤ 15)) with q | q
          ·
            obtain rfl : n0_0 = 10 := by omega
            obtain rfl : n0_3 = 0 := by omega
            obtain rfl : n0_4 = 0 := by omega
            exact case178 hL (kc ⟨by omega, by omega⟩ ⟨by omega, by omega⟩ ⟨by omega, by omega⟩ ⟨by omega, by omega⟩ ⟨by omega, by omega⟩ h5) hg (fun ρ => VRs.cons (by unfold VR; exact ⟨_, rfl, VRs.cons (by simp [VR, E.den, sc]) (VRs.cons (by simp [VR, E.den, sc]) (VRs.cons (by simp [VR, E.den, sc]) (VRs.cons (by simp [VR, E.den, sc]) (VRs.cons (by simp [VR, E.den, sc]) (VRs.nil)))))⟩) (VRs.cons (by simp [VR, E.den, sc]) VRs.nil))
          ·
            obtain rfl : n0_0 = 10 := by omega
            obtain rfl : n0_3 = 0 := by omega
            obtain rfl : n0_4 = 0 := by omega
            exact case179 hL (kc ⟨by omega, by omega⟩ ⟨by omega, by omega⟩ ⟨by omega, by omega⟩ ⟨by omega, by omega⟩ ⟨by omega, by omega⟩ h5) hg (fun ρ => VRs.cons (by unfold VR; exact ⟨_, rfl, VRs.cons (by simp [VR, E.den, sc]) (VRs.cons (by simp [VR, E.den, sc]) (VRs.cons (by simp [VR, E.den, sc]) (VRs.cons (by simp [VR, E.den, sc]) (VRs.cons (by simp [VR, E.den, sc]) (VRs.nil)))))⟩) (VRs.cons (by simp [VR, E.den, sc]) VRs.nil))
        ·
          obtain rfl : n0_0 = 10 := by omega
          obtain rfl : n0_3 = 0 := by omega
          exact case177 hL (kc ⟨by omega, by omega⟩ ⟨by omega, by omega⟩ ⟨by omega, by omega⟩ ⟨by omega, by omega⟩ ⟨by omega, by omega⟩ h5) hg (fun ρ => VRs.cons (by unfold VR; exact ⟨_, rfl, VRs.cons (by simp [VR, E.den, sc]) (VRs.cons (by simp [VR, E.den, sc]) (VRs.cons (by simp [VR, E.den, sc]) (VRs.cons (by simp [VR, E.den, sc]) (VRs.cons (by simp [VR, E.den, sc]) (VRs.nil)))))⟩) (VRs.cons (by simp [VR, E.den, sc]) VRs.nil))
      ·
        rcases (by omega : ((-9223372036854775808) ≤ n0_4 ∧ n0_4 ≤ (-1)) ∨ (0 ≤ n0_4 ∧ n0_4 ≤ 0) ∨ (1 ≤ n0_4 ∧ n0_4 ≤ 9223372036854775807)) with q | q | q
        ·
          obtain rfl : n0_0 = 10 := by omega
          exact case173 hL (kc ⟨by omega, by omega⟩ ⟨by omega, by omega⟩ ⟨by omega, by omega⟩ ⟨by omega, by omega⟩ ⟨by omega, by omega⟩ h5) hg (fun ρ => VRs.cons (by unfold VR; exact ⟨_, rfl, VRs.cons (by simp [VR, E.den, sc]) (VRs.cons (by simp [VR, E.den, sc]) (VRs.cons (by simp [VR, E.den, sc]) (VRs.cons (by simp [VR, E.den, sc]) (VRs.cons (by simp [VR, E.den, sc]) (VRs.nil)))))⟩) (VRs.cons (by simp [VR, E.den, sc]) VRs.nil))
        ·
          obtain rfl : n0_0 = 10 := by omega
          obtain rfl : n0_4 = 0 := by omega
          exact case174 hL (kc ⟨by omega, by omega⟩ ⟨by omega, by omega⟩ ⟨by omega, by omega⟩ ⟨by omega, by omega⟩ ⟨by omega, by omega⟩ h5) hg (fun ρ => VRs.cons (by unfold VR; exact ⟨_, rfl, VRs.cons (by simp [VR, E.den, sc]) (VRs.cons (by simp [VR, E.den, sc]) (VRs.cons (by simp [VR, E.den, sc]) (VRs.cons (by simp [VR, E.den, sc]) (VRs.cons (by simp [VR, E.den, sc]) (VRs.nil)))))⟩) (VRs.cons (by simp [VR, E.den, sc]) VRs.nil))
        ·
          obtain rfl : n0_0 = 10 := by omega
          exact case175 hL (kc ⟨by omega, by omega⟩ ⟨by omega, by omega⟩ ⟨by omega, by omega⟩ ⟨by omega, by omega⟩ ⟨by omega, by omega⟩ h5) hg (fun ρ => VRs.cons (by unfold VR; exact ⟨_, rfl, VRs.cons (by simp [VR, E.den, sc]) (VRs.cons (by simp [VR, E.den, sc]) (VRs.cons (by simp [VR, E.den, sc]) (VRs.cons (by simp [VR, E.den, sc]) (VRs.cons (by simp [VR, E.den, sc]) (VRs.nil)))))⟩) (VRs.cons (by simp [VR, E.den, sc]) VRs.nil))
    ·
      obtain rfl : n0_0 = 10 := by omega
      exact case169 hL (kc ⟨by omega, by omega⟩ ⟨by omega, by omega⟩ ⟨by omega, by omega⟩ ⟨by omega, by omega⟩ ⟨by omega, by omega⟩ h5) hg (fun ρ => VRs.cons (by unfold VR; exact ⟨_, rfl, VRs.cons (by simp [VR, E.den, sc]) (VRs.cons (by simp [VR, E.den, sc]) (VRs.cons (by simp [VR, E.den, sc]) (VRs.cons (by simp [VR, E.den, sc]) (VRs.cons (by simp [VR, E.den, sc]) (VRs.nil)))))⟩) (VRs.cons (by simp [VR, E.den, sc]) VRs.nil))
  ·
    obtain rfl : n0_0 = 10 := by omega
    exact case167 hL (kc ⟨by omega, by omega⟩ ⟨by omega, by omega⟩ ⟨by omega, by omega⟩ ⟨by omega, by omega⟩ ⟨by omega, by omega⟩ h5) hg (fun ρ => VRs.cons (by unfold VR; exact ⟨_, rfl, VRs.cons (by simp [VR, E.den, sc]) (VRs.cons (by simp [VR, E.den, sc]) (VRs.cons (by simp [VR, E.den, sc]) (VRs.cons (by simp [VR, E.den, sc]) (VRs.cons (by simp [VR, E.den, sc]) (VRs.nil)))))⟩) (VRs.cons (by simp [VR, E.den, sc]) VRs.nil))
set_option maxHeartbeats 4000000 in
theorem walk11 {W : World} (hL : L0 W) {n0_0 n0_1 n0_2 n0_3 n0_4 n1 g0 g1 g2 g3 g4 : Int} {t : Bool} (hg : Gh t (sc n0_0 n0_1 n0_2 n0_3 n0_4 n1 g0 g1 g2 g3 g4) W) (hop : 11 ≤ n0_0 ∧ n0_0 ≤ 11) (h0 : -9223372036854775808 ≤ n0_0 ∧ n0_0 ≤ 9223372036854775807) (h1 : -9223372036854775808 ≤ n0_1 ∧ n0_1 ≤ 9223372036854775807) (h2 : -9223372036854775808 ≤ n0_2 ∧ n0_2 ≤ 9223372036854775807) (h3 : -9223372036854775808 ≤ n0_3 ∧ n0_3 ≤ 9223372036854775807) (h4 : -9223372036854775808 ≤ n0_4 ∧ n0_4 ≤ 9223372036854775807) (h5 : 0 ≤ n1 ∧ n1 ≤ 4294967295) : Calls Tryd.prog 3 #[.agg #[.int .i64 n0_0, .int .i64 n0_1, .int .i64 n0_2, .int .i64 n0_3, .int .i64 n0_4], .int .u32 n1] W fun e w' => e = .returned (.bool true) ∧ Below W.heap.size W w' := by
  rcases (by omega : ((-9223372036854775808) ≤ n0_1 ∧ n0_1 ≤ (-1)) ∨ (0 ≤ n0_1 ∧ n0_1 ≤ 2) ∨ (3 ≤ n0_1 ∧ n0_1 ≤ 9223372036854775807)) with q | q | q
  ·
    rcases (by omega : ((-9223372036854775808) ≤ n0_2 ∧ n0_2 ≤ (-1)) ∨ (0 ≤ n0_2 ∧ n0_2 ≤ 15) ∨ (16 ≤ n0_2 ∧ n0_2 ≤ 9223372036854775807)) with q | q | q
    ·
      obtain rfl : n0_0 = 11 := by omega
      exact case180 hL (kc ⟨by omega, by omega⟩ ⟨by omega, by omega⟩ ⟨by omega, by omega⟩ ⟨by omega, by omega⟩ ⟨by omega, by omega⟩ h5) hg (fun ρ => VRs.cons (by unfold VR; exact ⟨_, rfl, VRs.cons (by simp [VR, E.den, sc]) (VRs.cons (by simp [VR, E.den, sc]) (VRs.cons (by simp [VR, E.den, sc]) (VRs.cons (by simp [VR, E.den, sc]) (VRs.cons (by simp [VR, E.den, sc]) (VRs.nil)))))⟩) (VRs.cons (by simp [VR, E.den, sc]) VRs.nil))
    ·
      rcases (by omega : ((-9223372036854775808) ≤ n0_3 ∧ n0_3 ≤ (-1)) ∨ (0 ≤ n0_3 ∧ n0_3 ≤ 15) ∨ (16 ≤ n0_3 ∧ n0_3 ≤ 9223372036854775807)) with q | q | q
      ·
        obtain rfl : n0_0 = 11 := by omega
        exact case182 hL (kc ⟨by omega, by omega⟩ ⟨by omega, by omega⟩ ⟨by omega, by omega⟩ ⟨by omega, by omega⟩ ⟨by omega, by omega⟩ h5) hg (fun ρ => VRs.cons (by unfold VR; exact ⟨_, rfl, VRs.cons (by simp [VR, E.den, sc]) (VRs.cons (by simp [VR, E.den, sc]) (VRs.cons (by simp [VR, E.den, sc]) (VRs.cons (by simp [VR, E.den, sc]) (VRs.cons (by simp [VR, E.den, sc]) (VRs.nil)))))⟩) (VRs.cons (by simp [VR, E.den, sc]) VRs.nil))
      ·
        obtain rfl : n0_0 = 11 := by omega
        exact case184 hL (kc ⟨by omega, by omega⟩ ⟨by omega, by omega⟩ ⟨by omega, by omega⟩ ⟨by omega, by omega⟩ ⟨by omega, by omega⟩ h5) hg (fun ρ => VRs.cons (by unfold VR; exact ⟨_, rfl, VRs.cons (by simp [VR, E.den, sc]) (VRs.cons (by simp [VR, E.den, sc]) (VRs.cons (by simp [VR, E.den, sc]) (VRs.cons (by simp [VR, E.den, sc]) (VRs.cons (by simp [VR, E.den, sc]) (VRs.nil)))))⟩) (VRs.cons (by simp [VR, E.den, sc]) VRs.nil))
      ·
        obtain rfl : n0_0 = 11 := by omega
        exact case183 hL (kc ⟨by omega, by omega⟩ ⟨by omega, by omega⟩ ⟨by omega, by omega⟩ ⟨by omega, by omega⟩ ⟨by omega, by omega⟩ h5) hg (fun ρ => VRs.cons (by unfold VR; exact ⟨_, rfl, VRs.cons (by simp [VR, E.den, sc]) (VRs.cons (by simp [VR, E.den, sc]) (VRs.cons (by simp [VR, E.den, sc]) (VRs.cons (by simp [VR, E.den, sc]) (VRs.cons (by simp [VR, E.den, sc]) (VRs.nil)))))⟩) (VRs.cons (by simp [VR, E.den, sc]) VRs.nil))
    ·
      obtain rfl : n0_0 = 11 := by omega
      exact case181 hL (kc ⟨by omega, by omega⟩ ⟨by omega, by omega⟩ ⟨by omega, by omega⟩ ⟨by omega, by omega⟩ ⟨by omega, by omega⟩ h5) hg (fun ρ => VRs.cons (by unfold VR; exact ⟨_, rfl, VRs.cons (by simp [VR, E.den, sc]) (VRs.cons (by simp [VR, E.den, sc]) (VRs.cons (by simp [VR, E.den, sc]) (VRs.cons (by simp [VR, E.den, sc]) (VRs.cons (by simp [VR, E.den, sc]) (VRs.nil)))))⟩) (VRs.cons (by simp [VR, E.den, sc]) VRs.nil))
  ·
    rcases (by omega : ((-9223372036854775808) ≤ n0_2 ∧ n0_2 ≤ (-1)) ∨ (0 ≤ n0_2 ∧ n0_2 ≤ 15) ∨ (16 ≤ n0_2 ∧ n0_2 ≤ 9223372036854775807)) with q | q | q
    ·
      obtain rfl : n0_0 = 11 := by omega
      exact case190 hL (kc ⟨by omega, by omega⟩ ⟨by omega, by omega⟩ ⟨by omega, by omega⟩ ⟨by omega, by omega⟩ ⟨by omega, by omega⟩ h5) hg (fun ρ => VRs.cons (by unfold VR; exact ⟨_, rfl, VRs.cons (by simp [VR, E.den, sc]) (VRs.cons (by simp [VR, E.den, sc]) (VRs.cons (by simp [VR, E.den, sc]) (VRs.cons (by simp [VR, E.den, sc]) (VRs.cons (by simp [VR, E.den, sc]) (VRs.nil)))))⟩) (VRs.cons (by simp [VR, E.den, sc]) VRs.nil))
    ·
      rcases (by omega : ((-9223372036854775808) ≤ n0_3 ∧ n0_3 ≤ (-1)) ∨ (0 ≤ n0_3 ∧ n0_3 ≤ 15) ∨ (16 ≤ n0_3 ∧ n0_3 ≤ 9223372036854775807)) with q | q | q
      ·
        obtain rfl : n0_0 = 11 := by omega
        exact case192 hL (kc ⟨by omega, by omega⟩ ⟨by omega, by omega⟩ ⟨by omega, by omega⟩ ⟨by omega, by omega⟩ ⟨by omega, by omega⟩ h5) hg (fun ρ => VRs.cons (by unfold VR; exact ⟨_, rfl, VRs.cons (by simp [VR, E.den, sc]) (VRs.cons (by simp [VR, E.den, sc]) (VRs.cons (by simp [VR, E.den, sc]) (VRs.cons (by simp [VR, E.den, sc]) (VRs.cons (by simp [VR, E.den, sc]) (VRs.nil)))))⟩) (VRs.cons (by simp [VR, E.den, sc]) VRs.nil))
      ·
        rcases (by omega : ((-9223372036854775808) ≤ n0_4 ∧ n0_4 ≤ (-1)) ∨ (0 ≤ n0_4 ∧ n0_4 ≤ 0) ∨ (1 ≤ n0_4 ∧ n0_4 ≤ 9223372036854775807)) with q | q | q
        ·
          obtain rfl : n0_0 = 11 := by omega
          exact case194 hL (kc ⟨by omega, by omega⟩ ⟨by omega, by omega⟩ ⟨by omega, by omega⟩ ⟨by omega, by omega⟩ ⟨by omega, by omega⟩ h5) hg (fun ρ => VRs.cons (by unfold VR; exact ⟨_, rfl, VRs.cons (by simp [VR, E.den, sc]) (VRs.cons (by simp [VR, E.den, sc]) (VRs.cons (by simp [VR, E.den, sc]) (VRs.cons (by simp [VR, E.den, sc]) (VRs.cons (by simp [VR, E.den, sc]) (VRs.nil)))))⟩) (VRs.cons (by simp [VR, E.den, sc]) VRs.nil))
        ·
          rcases (by omega : (0 ≤ n0_1 ∧ n0_1 ≤ 0) ∨ (1 ≤ n0_1 ∧ n0_1 ≤ 1) ∨ (2 ≤ n0_1 ∧ n0_1 ≤ 2)) with q | q | q
          ·
            rcases (by omega : (0 ≤ n0_2 ∧ n0_2 ≤ 9) ∨ (10 ≤ n0_2 ∧ n0_2 ≤ 15)) with q | q
            ·
              rcases (by omega : (0 ≤ n0_3 ∧ n0_3 ≤ 9) ∨ (10 ≤ n0_3 ∧ n0_3 ≤ 15)) with q | q
              ·
                obtain rfl : n0_0 = 11 := by omega
                obtain rfl : n0_1 = 0 := by omega
                obtain rfl : n0_4 = 0 := by omega
                exact case196 hL (kc ⟨by omega, by omega⟩ ⟨by omega, by omega⟩ ⟨by omega, by omega⟩ ⟨by omega, by omega⟩ ⟨by omega, by omega⟩ h5) hg (fun ρ => VRs.cons (by unfold VR; exact ⟨_, rfl, VRs.cons (by simp [VR, E.den, sc]) (VRs.cons (by simp [VR, E.den, sc]) (VRs.cons (by simp [VR, E.den, sc]) (VRs.cons (by simp [VR, E.den, sc]) (VRs.cons (by simp [VR, E.den, sc]) (VRs.nil)))))⟩) (VRs.cons (by simp [VR, E.den, sc]) VRs.nil))
              ·
                obtain rfl : n0_0 = 11 := by omega
                obtain rfl : n0_1 = 0 := by omega
                obtain rfl : n0_4 = 0 := by omega
                exact case197 hL (kc ⟨by omega, by omega⟩ ⟨by omega, by omega⟩ ⟨by omega, by omega⟩ ⟨by omega, by omega⟩ ⟨by omega, by omega⟩ h5) hg (fun ρ => VRs.cons (by unfold VR; exact ⟨_, rfl, VRs.cons (by simp [VR, E.den, sc]) (VRs.cons (by simp [VR, E.den, sc]) (VRs.cons (by simp [VR, E.den, sc]) (VRs.cons (by simp [VR, E.den, sc]) (VRs.cons (by simp [VR, E.den, sc]) (VRs.nil)))))⟩) (VRs.cons (by simp [VR, E.den, sc]) VRs.nil))
            ·
              rcases (by omega : (0 ≤ n0_3 ∧ n0_3 ≤ 9) ∨ (10 ≤ n0_3 ∧ n0_3 ≤ 15)) with q | q
              ·
                obtain rfl : n0_0 = 11 := by omega
                obtain rfl : n0_1 = 0 := by omega
                obtain rfl : n0_4 = 0 := by omega
                exact case198 hL (kc ⟨by omega, by omega⟩ ⟨by omega, by omega⟩ ⟨by omega, by omega⟩ ⟨by omega, by omega⟩ ⟨by omega, by omega⟩ h5) hg (fun ρ => VRs.cons (by unfold VR; exact ⟨_, rfl, VRs.cons (by simp [VR, E.den, sc]) (VRs.cons (by simp [VR, E.den, sc]) (VRs.cons (by simp [VR, E.den, sc]) (VRs.cons (by simp [VR, E.den, sc]) (VRs.cons (by simp [VR, E.den, sc]) (VRs.nil)))))⟩) (VRs.cons (by simp [VR, E.den, sc]) VRs.nil))
              ·
                obtain rfl : n0_0 = 11 := by omega
                obtain rfl : n0_1 = 0 := by omega
                obtain rfl : n0_4 = 0 := by omega
                exact case199 hL (kc ⟨by omega, by omega⟩ ⟨by omega, by omega⟩ ⟨by omega, by omega⟩ ⟨by omega, by omega⟩ ⟨by omega, by omega⟩ h5) hg (fun ρ => VRs.cons (by unfold VR; exact ⟨_, rfl, VRs.cons (by simp [VR, E.den, sc]) (VRs.cons (by simp [VR, E.den, sc]) (VRs.cons (by simp [VR, E.den, sc]) (VRs.cons (by simp [VR, E.den, sc]) (VRs.cons (by simp [VR, E.den, sc]) (VRs.nil)))))⟩) (VRs.cons (by simp [VR, E.den, sc]) VRs.nil))
          ·
            rcases (by omega : (0 ≤ n0_2 ∧ n0_2 ≤ 9) ∨ (10 ≤ n0_2 ∧ n0_2 ≤ 15)) with q | q
            ·
              rcases (by omega : (0 ≤ n0_3 ∧ n0_3 ≤ 9) ∨ (10 ≤ n0_3 ∧ n0_3 ≤ 15)) with q | q
              ·
                obtain rfl : n0_0 = 11 := by omega
                obtain rfl : n0_1 = 1 := by omega
                obtain rfl : n0_4 = 0 := by omega
                exact case200 hL (kc ⟨by omega, by omega⟩ ⟨by omega, by omega⟩ ⟨by omega, by omega⟩ ⟨by omega, by omega⟩ ⟨by omega, by omega⟩ h5) hg (fun ρ => VRs.cons (by unfold VR; exact ⟨_, rfl, VRs.cons (by simp [VR, E.den, sc]) (VRs.cons (by simp [VR, E.den, sc]) (VRs.cons (by simp [VR, E.den, sc]) (VRs.cons (by simp [VR, E.den, sc]) (VRs.cons (by simp [VR, E.den, sc]) (VRs.nil)))))⟩) (VRs.cons (by simp [VR, E.den, sc]) VRs.nil))
              ·
                obtain rfl : n0_0 = 11 := by omega
                obtain rfl : n0_1 = 1 := by omega
                obtain rfl : n0_4 = 0 := by omega
                exact case201 hL (kc ⟨by omega, by omega⟩ ⟨by omega, by omega⟩ ⟨by omega, by omega⟩ ⟨by omega, by omega⟩ ⟨by omega, by omega⟩ h5) hg (fun ρ => VRs.cons (by unfold VR; exact ⟨_, rfl, VRs.cons (by simp [VR, E.den, sc]) (VRs.cons (by simp [VR, E.den, sc]) (VRs.cons (by simp [VR, E.den, sc]) (VRs.cons (by simp [VR, E.den, sc]) (VRs.cons (by simp [VR, E.den, sc]) (VRs.nil)))))⟩) (VRs.cons (by simp [VR, E.den, sc]) VRs.nil))
            ·
              rcases (by omega : (0 ≤ n0_3 ∧ n0_3 ≤ 9) ∨ (10 ≤ n0_3 ∧ n0_3 ≤ 15)) with q | q
              ·
                obtain rfl : n0_0 = 11 := by omega
                obtain rfl : n0_1 = 1 := by omega
                obtain rfl : n0_4 = 0 := by omega
                exact case202 hL (kc ⟨by omega, by omega⟩ ⟨by omega, by omega⟩ ⟨by omega, by omega⟩ ⟨by omega, by omega⟩ ⟨by omega, by omega⟩ h5) hg (fun ρ => VRs.cons (by unfold VR; exact ⟨_, rfl, VRs.cons (by simp [VR, E.den, sc]) (VRs.cons (by simp [VR, E.den, sc]) (VRs.cons (by simp [VR, E.den, sc]) (VRs.cons (by simp [VR, E.den, sc]) (VRs.cons (by simp [VR, E.den, sc]) (VRs.nil)))))⟩) (VRs.cons (by simp [VR, E.den, sc]) VRs.nil))
              ·
                obtain rfl : n0_0 = 11 := by omega
                obtain rfl : n0_1 = 1 := by omega
                obtain rfl : n0_4 = 0 := by omega
                exact case203 hL (kc ⟨by omega, by omega⟩ ⟨by omega, by omega⟩ ⟨by omega, by omega⟩ ⟨by omega, by omega⟩ ⟨by omega, by omega⟩ h5) hg (fun ρ => VRs.cons (by unfold VR; exact ⟨_, rfl, VRs.cons (by simp [VR, E.den, sc]) (VRs.cons (by simp [VR, E.den, sc]) (VRs.cons (by simp [VR, E.den, sc]) (VRs.cons (by simp [VR, E.den, sc]) (VRs.cons (by simp [VR, E.den, sc]) (VRs.nil)))))⟩) (VRs.cons (by simp [VR, E.den, sc]) VRs.nil))
          ·
            rcases (by omega : (0 ≤ n0_2 ∧ n0_2 ≤ 9) ∨ (10 ≤ n0_2 ∧ n0_2 ≤ 15)) with q | q
            ·
              rcases (by omega : (0 ≤ n0_3 ∧ n0_3 ≤ 9) ∨ (10 ≤ n0_3 ∧ n0_3 ≤ 15)) with q | q
              ·
                obtain rfl : n0_0 = 11 := by omega
                obtain rfl : n0_1 = 2 := by omega
                obtain rfl : n0_4 = 0 := by omega
                exact case204 hL (kc ⟨by omega, by omega⟩ ⟨by omega, by omega⟩ ⟨by omega, by omega⟩ ⟨by omega, by omega⟩ ⟨by omega, by omega⟩ h5) hg (fun ρ => VRs.cons (by unfold VR; exact ⟨_, rfl, VRs.cons (by simp [VR, E.den, sc]) (VRs.cons (by simp [VR, E.den, sc]) (VRs.cons (by simp [VR, E.den, sc]) (VRs.cons (by simp [VR, E.den, sc]) (VRs.cons (by simp [VR, E.den, sc]) (VRs.nil)))))⟩) (VRs.cons (by simp [VR, E.den, sc]) VRs.nil))
              ·
                obtain rfl : n0_0 = 11 := by omega
                obtain rfl : n0_1 = 2 := by omega
                obtain rfl : n0_4 = 0 := by omega
                exact case205 hL (kc ⟨by omega, by omega⟩ ⟨by omega, by omega⟩ ⟨by omega, by omega⟩ ⟨by omega, by omega⟩ ⟨by omega, by omega⟩ h5) hg (fun ρ => VRs.cons (by unfold VR; exact ⟨_, rfl, VRs.cons (by simp [VR, E.den, sc]) (VRs.cons (by simp [VR, E.den, sc]) (VRs.cons (by simp [VR, E.den, sc]) (VRs.cons (by simp [VR, E.den, sc]) (VRs.cons (by simp [VR, E.den, sc]) (VRs.nil)))))⟩) (VRs.cons (by simp [VR, E.den, sc]) VRs.nil))
            ·
              rcases (by omega : (0 ≤ n0_3 ∧ n0_3 ≤ 9) ∨ (10 ≤ n0_3 ∧ n0_3 ≤ 15)) with q | q
              ·
                obtain rfl : n0_0 = 11 := by omega
                obtain rfl : n0_1 = 2 := by omega
                obtain rfl : n0_4 = 0 := by omega
                exact case206 hL (kc ⟨by omega, by omega⟩ ⟨by omega, by omega⟩ ⟨by omega, by omega⟩ ⟨by omega, by omega⟩ ⟨by omega, by omega⟩ h5) hg (fun ρ => VRs.cons (by unfold VR; exact ⟨_, rfl, VRs.cons (by simp [VR, E.den, sc]) (VRs.cons (by simp [VR, E.den, sc]) (VRs.cons (by simp [VR, E.den, sc]) (VRs.cons (by simp [VR, E.den, sc]) (VRs.cons (by simp [VR, E.den, sc]) (VRs.nil)))))⟩) (VRs.cons (by simp [VR, E.den, sc]) VRs.nil))
              ·
                obtain rfl : n0_0 = 11 := by omega
                obtain rfl : n0_1 = 2 := by omega
                obtain rfl : n0_4 = 0 := by omega
                exact case207 hL (kc ⟨by omega, by omega⟩ ⟨by omega, by omega⟩ ⟨by omega, by omega⟩ ⟨by omega, by omega⟩ ⟨by omega, by omega⟩ h5) hg (fun ρ => VRs.cons (by unfold VR; exact ⟨_, rfl, VRs.cons (by simp [VR, E.den, sc]) (VRs.cons (by simp [VR, E.den, sc]) (VRs.cons (by simp [VR, E.den, sc]) (VRs.cons (by simp [VR, E.den, sc]) (VRs.cons (by simp [VR, E.den, sc]) (VRs.nil)))))⟩) (VRs.cons (by simp [VR, E.den, sc]) VRs.nil))
        ·
          obtain rfl : n0_0 = 11 := by omega
          exact case195 hL (kc ⟨by omega, by omega⟩ ⟨by omega, by omega⟩ ⟨by omega, by omega⟩ ⟨by omega, by omega⟩ ⟨by omega, by omega⟩ h5) hg (fun ρ => VRs.cons (by unfold VR; exact ⟨_, rfl, VRs.cons (by simp [VR, E.den, sc]) (VRs.cons (by simp [VR, E.den, sc]) (VRs.cons (by simp [VR, E.den, sc]) (VRs.cons (by simp [VR, E.den, sc]) (VRs.cons (by simp [VR, E.den, sc]) (VRs.nil)))))⟩) (VRs.cons (by simp [VR, E.den, sc]) VRs.nil))
      ·
        obtain rfl : n0_0 = 11 := by omega
        exact case193 hL (kc ⟨by omega, by omega⟩ ⟨by omega, by omega⟩ ⟨by omega, by omega⟩ ⟨by omega, by omega⟩ ⟨by omega, by omega⟩ h5) hg (fun ρ => VRs.cons (by unfold VR; exact ⟨_, rfl, VRs.cons (by simp [VR, E.den, sc]) (VRs.cons (by simp [VR, E.den, sc]) (VRs.cons (by simp [VR, E.den, sc]) (VRs.cons (by simp [VR, E.den, sc]) (VRs.cons (by simp [VR, E.den, sc]) (VRs.nil)))))⟩) (VRs.cons (by simp [VR, E.den, sc]) VRs.nil))
    ·
      obtain rfl : n0_0 = 11 := by omega
      exact case191 hL (kc ⟨by omega, by omega⟩ ⟨by omega, by omega⟩ ⟨by omega, by omega⟩ ⟨by omega, by omega⟩ ⟨by omega, by omega⟩ h5) hg (fun ρ => VRs.cons (by unfold VR; exact ⟨_, rfl, VRs.cons (by simp [VR, E.den, sc]) (VRs.cons (by simp [VR, E.den, sc]) (VRs.cons (by simp [VR, E.den, sc]) (VRs.cons (by simp [VR, E.den, sc]) (VRs.cons (by simp [VR, E.den, sc]) (VRs.nil)))))⟩) (VRs.cons (by simp [VR, E.den, sc]) VRs.nil))
  ·
    rcases (by omega : ((-9223372036854775808) ≤ n0_2 ∧ n0_2 ≤ (-1)) ∨ (0 ≤ n0_2 ∧ n0_2 ≤ 15) ∨ (16 ≤ n0_2 ∧ n0_2 ≤ 9223372036854775807)) with q | q | q
    ·
      obtain rfl : n0_0 = 11 := by omega
      exact case185 hL (kc ⟨by omega, by omega⟩ ⟨by omega, by omega⟩ ⟨by omega, by omega⟩ ⟨by omega, by omega⟩ ⟨by omega, by omega⟩ h5) hg (fun ρ => VRs.cons (by unfold VR; exact ⟨_, rfl, VRs.cons (by simp [VR, E.den, sc]) (VRs.cons (by simp [VR, E.den, sc]) (VRs.cons (by simp [VR, E.den, sc]) (VRs.cons (by simp [VR, E.den, sc]) (VRs.cons (by simp [VR, E.den, sc]) (VRs.nil)))))⟩) (VRs.cons (by simp [VR, E.den, sc]) VRs.nil))
    ·
      rcases (by omega : ((-9223372036854775808) ≤ n0_3 ∧ n0_3 ≤ (-1)) ∨ (0 ≤ n0_3 ∧ n0_3 ≤ 15) ∨ (16 ≤ n0_3 ∧ n0_3 ≤ 9223372036854775807)) with q | q | q
      ·
        obtain rfl : n0_0 = 11 := by omega
        exact case187 hL (kc ⟨by omega, by omega⟩ ⟨by omega, by omega⟩ ⟨by omega, by omega⟩ ⟨by omega, by omega⟩ ⟨by omega, by omega⟩ h5) hg (fun ρ => VRs.cons (by unfold VR; exact ⟨_, rfl, VRs.cons (by simp [VR, E.den, sc]) (VRs.cons (by simp [VR, E.den, sc]) (VRs.cons (by simp [VR, E.den, sc]) (VRs.cons (by simp [VR, E.den, sc]) (VRs.cons (by simp [VR, E.den, sc]) (VRs.nil)))))⟩) (VRs.cons (by simp [VR, E.den, sc]) VRs.nil))
      ·
        obtain rfl : n0_0 = 11 := by omega
        exact case189 hL (kc ⟨by omega, by omega⟩ ⟨by omega, by omega⟩ ⟨by omega, by omega⟩ ⟨by omega, by omega⟩ ⟨by omega, by omega⟩ h5) hg (fun ρ => VRs.cons (by unfold VR; exact ⟨_, rfl, VRs.cons (by simp [VR, E.den, sc]) (VRs.cons (by simp [VR, E.den, sc]) (VRs.cons (by simp [VR, E.den, sc]) (VRs.cons (by simp [VR, E.den, sc]) (VRs.cons (by simp [VR, E.den, sc]) (VRs.nil)))))⟩) (VRs.cons (by simp [VR, E.den, sc]) VRs.nil))
      ·
        obtain rfl : n0_0 = 11 := by omega
        exact case188 hL (kc ⟨by omega, by omega⟩ ⟨by omega, by omega⟩ ⟨by omega, by omega⟩ ⟨by omega, by omega⟩ ⟨by omega, by omega⟩ h5) hg (fun ρ => VRs.cons (by unfold VR; exact ⟨_, rfl, VRs.cons (by simp [VR, E.den, sc]) (VRs.cons (by simp [VR, E.den, sc]) (VRs.cons (by simp [VR, E.den, sc]) (VRs.cons (by simp [VR, E.den, sc]) (VRs.cons (by simp [VR, E.den, sc]) (VRs.nil)))))⟩) (VRs.cons (by simp [VR, E.den, sc]) VRs.nil))
    ·
      obtain rfl : n0_0 = 11 := by omega
      exact case186 hL (kc ⟨by omega, by omega⟩ ⟨by omega, by omega⟩ ⟨by omega, by omega⟩ ⟨by omega, by omega⟩ ⟨by omega, by omega⟩ h5) hg (fun ρ => VRs.cons (by unfold VR; exact ⟨_, rfl, VRs.cons (by simp [VR, E.den, sc]) (VRs.cons (by simp [VR, E.den, sc]) (VRs.cons (by simp [VR, E.den, sc]) (VRs.cons (by simp [VR, E.den, sc]) (VRs.cons (by simp [VR, E.den, sc]) (VRs.nil)))))⟩) (VRs.cons (by simp [VR, E.den, sc]) VRs.nil))
set_option maxHeartbeats 4000000 in
theorem walk12 {W : World} (hL : L0 W) {n0_0 n0_1 n0_2 n0_3 n0_4 n1 g0 g1 g2 g3 g4 : Int} {t : Bool} (hg : Gh t (sc n0_0 n0_1 n0_2 n0_3 n0_4 n1 g0 g1 g2 g3 g4) W) (hop : 12 ≤ n0_0 ∧ n0_0 ≤ 12) (h0 : -9223372036854775808 ≤ n0_0 ∧ n0_0 ≤ 9223372036854775807) (h1 : -9223372036854775808 ≤ n0_1 ∧ n0_1 ≤ 9223372036854775807) (h2 : -9223372036854775808 ≤ n0_2 ∧ n0_2 ≤ 9223372036854775807) (h3 : -9223372036854775808 ≤ n0_3 ∧ n0_3 ≤ 9223372036854775807) (h4 : -9223372036854775808 ≤ n0_4 ∧ n0_4 ≤ 9223372036854775807) (h5 : 0 ≤ n1 ∧ n1 ≤ 4294967295) : Calls Tryd.prog 3 #[.agg #[.int .i64 n0_0, .int .i64 n0_1, .int .i64 n0_2, .int .i64 n0_3, .int .i64 n0_4], .int .u32 n1] W fun e w' => e = .returned (.bool true) ∧ Below W.heap.size W w' := by
  rcases (by omega : ((-9223372036854775808) ≤ n0_1 ∧ n0_1 ≤ (-1)) ∨ (0 ≤ n0_1 ∧ n0_1 ≤ 0) ∨ (1 ≤ n0_1 ∧ n0_1 ≤ 9223372036854775807)) with q | q | q
  ·
    rcases (by omega : ((-9223372036854775808) ≤ n0_4 ∧ n0_4 ≤ (-1)) ∨ (0 ≤ n0_4 ∧ n0_4 ≤ 0) ∨ (1 ≤ n0_4 ∧ n0_4 ≤ 9223372036854775807)) with q | q | q
    ·
      obtain rfl : n0_0 = 12 := by omega
      exact case208 hL (kc ⟨by omega, by omega⟩ ⟨by omega, by omega⟩ ⟨by omega, by omega⟩ ⟨by omega, by omega⟩ ⟨by omega, by omega⟩ h5) hg (fun ρ => VRs.cons (by unfold VR; exact ⟨_, rfl, VRs.cons (by simp [VR, E.den, sc]) (VRs.cons (by simp [VR, E.den, sc]) (VRs.cons (by simp [VR, E.den, sc]) (VRs.cons (by simp [VR, E.den, sc]) (VRs.cons (by simp [VR, E.den, sc]) (VRs.nil)))))⟩) (VRs.cons (by simp [VR, E.den, sc]) VRs.nil))
    ·
      obtain rfl : n0_0 = 12 := by omega
      obtain rfl : n0_4 = 0 := by omega
      exact case209 hL (kc ⟨by omega, by omega⟩ ⟨by omega, by omega⟩ ⟨by omega, by omega⟩ ⟨by omega, by omega⟩ ⟨by omega, by omega⟩ h5) hg (fun ρ => VRs.cons (by unfold VR; exact ⟨_, rfl, VRs.cons (by simp [VR, E.den, sc]) (VRs.cons (by simp [VR, E.den, sc]) (VRs.cons (by simp [VR, E.den, sc]) (VRs.cons (by simp [VR, E.den, sc]) (VRs.cons (by simp [VR, E.den, sc]) (VRs.nil)))))⟩) (VRs.cons (by simp [VR, E.den, sc]) VRs.nil))
    ·
      obtain rfl : n0_0 = 12 := by omega
      exact case210 hL (kc ⟨by omega, by omega⟩ ⟨by omega, by omega⟩ ⟨by omega, by omega⟩ ⟨by omega, by omega⟩ ⟨by omega, by omega⟩ h5) hg (fun ρ => VRs.cons (by unfold VR; exact ⟨_, rfl, VRs.cons (by simp [VR, E.den, sc]) (VRs.cons (by simp [VR, E.den, sc]) (VRs.cons (by simp [VR, E.den, sc]) (VRs.cons (by simp [VR, E.den, sc]) (VRs.cons (by simp [VR, E.den, sc]) (VRs.nil)))))⟩) (VRs.cons (by simp [VR, E.den, sc]) VRs.nil))
  ·
    rcases (by omega : ((-9223372036854775808) ≤ n0_2 ∧ n0_2 ≤ (-1)) ∨ (0 ≤ n0_2 ∧ n0_2 ≤ 0) ∨ (1 ≤ n0_2 ∧ n0_2 ≤ 9223372036854775807)) with q | q | q
    ·
      rcases (by omega : ((-9223372036854775808) ≤ n0_4 ∧ n0_4 ≤ (-1)) ∨ (0 ≤ n0_4 ∧ n0_4 ≤ 0) ∨ (1 ≤ n0_4 ∧ n0_4 ≤ 9223372036854775807)) with q | q | q
      ·
        obtain rfl : n0_0 = 12 := by omega
        obtain rfl : n0_1 = 0 := by omega
        exact case214 hL (kc ⟨by omega, by omega⟩ ⟨by omega, by omega⟩ ⟨by omega, by omega⟩ ⟨by omega, by omega⟩ ⟨by omega, by omega⟩ h5) hg (fun ρ => VRs.cons (by unfold VR; exact ⟨_, rfl, VRs.cons (by simp [VR, E.den, sc]) (VRs.cons (by simp [VR, E.den, sc]) (VRs.cons (by simp [VR, E.den, sc]) (VRs.cons (by simp [VR, E.den, sc]) (VRs.cons (by simp [VR, E.den, sc]) (VRs.nil)))))⟩) (VRs.cons (by simp [VR, E.den, sc]) VRs.nil))
      ·
        obtain rfl : n0_0 = 12 := by omega
        obtain rfl : n0_1 = 0 := by omega
        obtain rfl : n0_4 = 0 := by omega
        exact case215 hL (kc ⟨by omega, by omega⟩ ⟨by omega, by omega⟩ ⟨by omega, by omega⟩ ⟨by omega, by omega⟩ ⟨by omega, by omega⟩ h5) hg (fun ρ => VRs.cons (by unfold VR; exact ⟨_, rfl, VRs.cons (by simp [VR, E.den, sc]) (VRs.cons (by simp [VR, E.den, sc]) (VRs.cons (by simp [VR, E.den, sc]) (VRs.cons (by simp [VR, E.den, sc]) (VRs.cons (by simp [VR, E.den, sc]) (VRs.nil)))))⟩) (VRs.cons (by simp [VR, E.den, sc]) VRs.nil))
      ·
        obtain rfl : n0_0 = 12 := by omega
        obtain rfl : n0_1 = 0 := by omega
        exact case216 hL (kc ⟨by omega, by omega⟩ ⟨by omega, by omega⟩ ⟨by omega, by omega⟩ ⟨by omega, by omega⟩ ⟨by omega, by omega⟩ h5) hg (fun ρ => VRs.cons (by unfold VR; exact ⟨_, rfl, VRs.cons (by simp [VR, E.den, sc]) (VRs.cons (by simp [VR, E.den, sc]) (VRs.cons (by simp [VR, E.den, sc]) (VRs.cons (by simp [VR, E.den, sc]) (VRs.cons (by simp [VR, E.den, sc]) (VRs.nil)))))⟩) (VRs.cons (by simp [VR, E.den, sc]) VRs.nil))
    ·
      rcases (by omega : ((-9223372036854775808) ≤ n0_3 ∧ n0_3 ≤ (-1)) ∨ (0 ≤ n0_3 ∧ n0_3 ≤ 0) ∨ (1 ≤ n0_3 ∧ n0_3 ≤ 9223372036854775807)) with q | q | q
      ·
        rcases (by omega : ((-9223372036854775808) ≤ n0_4 ∧ n0_4 ≤ (-1)) ∨ (0 ≤ n0_4 ∧ n0_4 ≤ 0) ∨ (1 ≤ n0_4 ∧ n0_4 ≤ 9223372036854775807)) with q | q | q
        ·
          obtain rfl : n0_0 = 12 := by omega
          obtain rfl : n0_1 = 0 := by omega
          obtain rfl : n0_2 = 0 := by omega
          exact case220 hL (kc ⟨by omega, by omega⟩ ⟨by omega, by omega⟩ ⟨by omega, by omega⟩ ⟨by omega, by omega⟩ ⟨by omega, by omega⟩ h5) hg (fun ρ => VRs.cons (by unfold VR; exact ⟨_, rfl, VRs.cons (by simp [VR, E.den, sc]) (VRs.cons (by simp [VR, E.den, sc]) (VRs.cons (by simp [VR, E.den, sc]) (VRs.cons (by simp [VR, E.den, sc]) (VRs.cons (by simp [VR, E.den, sc]) (VRs.nil)))))⟩) (VRs.cons (by simp [VR, E.den, sc]) VRs.nil))
        ·
          obtain rfl : n0_0 = 12 := by omega
          obtain rfl : n0_1 = 0 := by omega
          obtain rfl : n0_2 = 0 := by omega
          obtain rfl : n0_4 = 0 := by omega
          exact case221 hL (kc ⟨by omega, by omega⟩ ⟨by omega, by omega⟩ ⟨by omega, by omega⟩ ⟨by omega, by omega⟩ ⟨by omega, by omega⟩ h5) hg (fun ρ => VRs.cons (by unfold VR; exact ⟨_, rfl, VRs.cons (by simp [VR, E.den, sc]) (VRs.cons (by simp [VR, E.den, sc]) (VRs.cons (by simp [VR, E.den, sc]) (VRs.cons (by simp [VR, E.den, sc]) (VRs.cons (by simp [VR, E.den, sc]) (VRs.nil)))))⟩) (VRs.cons (by simp [VR, E.den, sc]) VRs.nil))
        ·
          obtain rfl : n0_0 = 12 := by omega
          obtain rfl : n0_1 = 0 := by omega
          obtain rfl : n0_2 = 0 := by omega
          exact case222 hL (kc ⟨by omega, by omega⟩ ⟨by omega, by omega⟩ ⟨by omega, by omega⟩ ⟨by omega, by omega⟩ ⟨by omega, by omega⟩ h5) hg (fun ρ => VRs.cons (by unfold VR; exact ⟨_, rfl, VRs.cons (by simp [VR, E.den, sc]) (VRs.cons (by simp [VR, E.den, sc]) (VRs.cons (by simp [VR, E.den, sc]) (VRs.cons (by simp [VR, E.den, sc]) (VRs.cons (by simp [VR, E.den, sc]) (VRs.nil)))))⟩) (VRs.cons (by simp [VR, E.den, sc]) VRs.nil))
      ·
        rcases (by omega : ((-9223372036854775808) ≤ n0_4 ∧ n0_4 ≤ (-1)) ∨ (0 ≤ n0_4 ∧ n0_4 ≤ 0) ∨ (1 ≤ n0_4 ∧ n0_4 ≤ 9223372036854775807)) with q | q | q
        ·
          obtain rfl : n0_0 = 12 := by omega
          obtain rfl : n0_1 = 0 := by omega
          obtain rfl : n0_2 = 0 := by omega
          obtain rfl : n0_3 = 0 := by omega
          exact case226 hL (kc ⟨by omega, by omega⟩ ⟨by omega, by omega⟩ ⟨by omega, by omega⟩ ⟨by omega, by omega⟩ ⟨by omega, by omega⟩ h5) hg (fun ρ => VRs.cons (by unfold VR; exact ⟨_, rfl, VRs.cons (by simp [VR, E.den, sc]) (VRs.cons (by simp [VR, E.den, sc]) (VRs.cons (by simp [VR, E.den, sc]) (VRs.cons (by simp [VR, E.den, sc]) (VRs.cons (by simp [VR, E.den, sc]) (VRs.nil)))))⟩) (VRs.cons (by simp [VR, E.den, sc]) VRs.nil))
        ·
          obtain rfl : n0_0 = 12 := by omega
          obtain rfl : n0_1 = 0 := by omega
          obtain rfl : n0_2 = 0 := by omega
          obtain rfl : n0_3 = 0 := by omega
          obtain rfl : n0_4 = 0 := by omega
          exact case228 hL (kc ⟨by omega, by omega⟩ ⟨by omega, by omega⟩ ⟨by omega, by omega⟩ ⟨by omega, by omega⟩ ⟨by omega, by omega⟩ h5) hg (fun ρ => VRs.cons (by unfold VR; exact ⟨_, rfl, VRs.cons (by simp [VR, E.den, sc]) (VRs.cons (by simp [VR, E.den, sc]) (VRs.cons (by simp [VR, E.den, sc]) (VRs.cons (by simp [VR, E.den, sc]) (VRs.cons (by simp [VR, E.den, sc]) (VRs.nil)))))⟩) (VRs.cons (by simp [VR, E.den, sc]) VRs.nil))
        ·
          obtain rfl : n0_0 = 12 := by omega
          obtain rfl : n0_1 = 0 := by omega
          obtain rfl : n0_2 = 0 := by omega
          obtain rfl : n0_3 = 0 := by omega
          exact case227 hL (kc ⟨by omega, by omega⟩ ⟨by omega, by omega⟩ ⟨by omega, by omega⟩ ⟨by omega, by omega⟩ ⟨by omega, by omega⟩ h5) hg (fun ρ => VRs.cons (by unfold VR; exact ⟨_, rfl, VRs.cons (by simp [VR, E.den, sc]) (VRs.cons (by simp [VR, E.den, sc]) (VRs.cons (by simp [VR, E.den, sc]) (VRs.cons (by simp [VR, E.den, sc]) (VRs.cons (by simp [VR, E.den, sc]) (VRs.nil)))))⟩) (VRs.cons (by simp [VR, E.den, sc]) VRs.nil))
      ·
        rcases (by omega : ((-9223372036854775808) ≤ n0_4 ∧ n0_4 ≤ (-1)) ∨ (0 ≤ n0_4 ∧ n0_4 ≤ 0) ∨ (1 ≤ n0_4 ∧ n0_4 ≤ 9223372036854775807)) with q | q | q
        ·
          obtain rfl : n0_0 = 12 := by omega
          obtain rfl : n0_1 = 0 := by omega
          obtain rfl : n0_2 = 0 := by omega
          exact case223 hL (kc ⟨by omega, by omega⟩ ⟨by omega, by omega⟩ ⟨by omega, by omega⟩ ⟨by omega, by omega⟩ ⟨by omega, by omega⟩ h5) hg (fun ρ => VRs.cons (by unfold VR; exact ⟨_, rfl, VRs.cons (by simp [VR, E.den, sc]) (VRs.cons (by simp [VR, E.den, sc]) (VRs.cons (by simp [VR, E.den, sc]) (VRs.cons (by simp [VR, E.den, sc]) (VRs.cons (by simp [VR, E.den, sc]) (VRs.nil)))))⟩) (VRs.cons (by simp [VR, E.den, sc]) VRs.nil))
        ·
          obtain rfl : n0_0 = 12 := by omega
          obtain rfl : n0_1 = 0 := by omega
          obtain rfl : n0_2 = 0 := by omega
          obtain rfl : n0_4 = 0 := by omega
          exact case224 hL (kc ⟨by omega, by omega⟩ ⟨by omega, by omega⟩ ⟨by omega, by omega⟩ ⟨by omega, by omega⟩ ⟨by omega, by omega⟩ h5) hg (fun ρ => VRs.cons (by unfold VR; exact ⟨_, rfl, VRs.cons (by simp [VR, E.den, sc]) (VRs.cons (by simp [VR, E.den, sc]) (VRs.cons (by simp [VR, E.den, sc]) (VRs.cons (by simp [VR, E.den, sc]) (VRs.cons (by simp [VR, E.den, sc]) (VRs.nil)))))⟩) (VRs.cons (by simp [VR, E.den, sc]) VRs.nil))
        ·
          obtain rfl : n0_0 = 12 := by omega
          obtain rfl : n0_1 = 0 := by omega
          obtain rfl : n0_2 = 0 := by omega
          exact case225 hL (kc ⟨by omega, by omega⟩ ⟨by omega, by omega⟩ ⟨by omega, by omega⟩ ⟨by omega, by omega⟩ ⟨by omega, by omega⟩ h5) hg (fun ρ => VRs.cons (by unfold VR; exact ⟨_, rfl, VRs.cons (by simp [VR, E.den, sc]) (VRs.cons (by simp [VR, E.den, sc]) (VRs.cons (by simp [VR, E.den, sc]) (VRs.cons (by simp [VR, E.den, sc]) (VRs.cons (by simp [VR, E.den, sc]) (VRs.nil)))))⟩) (VRs.cons (by simp [VR, E.den, sc]) VRs.nil))
    ·
      rcases (by omega : ((-9223372036854775808) ≤ n0_4 ∧ n0_4 ≤ (-1)) ∨ (0 ≤ n0_4 ∧ n0_4 ≤ 0) ∨ (1 ≤ n0_4 ∧ n0_4 ≤ 9223372036854775807)) with q | q | q
      ·
        obtain rfl : n0_0 = 12 := by omega
        obtain rfl : n0_1 = 0 := by omega
        exact case217 hL (kc ⟨by omega, by omega⟩ ⟨by omega, by omega⟩ ⟨by omega, by omega⟩ ⟨by omega, by omega⟩ ⟨by omega, by omega⟩ h5) hg (fun ρ => VRs.cons (by unfold VR; exact ⟨_, rfl, VRs.cons (by simp [VR, E.den, sc]) (VRs.cons (by simp [VR, E.den, sc]) (VRs.cons (by simp [VR, E.den, sc]) (VRs.cons (by simp [VR, E.den, sc]) (VRs.cons (by simp [VR, E.den, sc]) (VRs.nil)))))⟩) (VRs.cons (by simp [VR, E.den, sc]) VRs.nil))
      ·
        obtain rfl : n0_0 = 12 := by omega
        obtain rfl : n0_1 = 0 := by omega
        obtain rfl : n0_4 = 0 := by omega
        exact case218 hL (kc ⟨by omega, by omega⟩ ⟨by omega, by omega⟩ ⟨by omega, by omega⟩ ⟨by omega, by omega⟩ ⟨by omega, by omega⟩ h5) hg (fun ρ => VRs.cons (by unfold VR; exact ⟨_, rfl, VRs.cons (by simp [VR, E.den, sc]) (VRs.cons (by simp [VR, E.den, sc]) (VRs.cons (by simp [VR, E.den, sc]) (VRs.cons (by simp [VR, E.den, sc]) (VRs.cons (by simp [VR, E.den, sc]) (VRs.nil)))))⟩) (VRs.cons (by simp [VR, E.den, sc]) VRs.nil))
      ·
        obtain rfl : n0_0 = 12 := by omega
        obtain rfl : n0_1 = 0 := by omega
        exact case219 hL (kc ⟨by omega, by omega⟩ ⟨by omega, by omega⟩ ⟨by omega, by omega⟩ ⟨by omega, by omega⟩ ⟨by omega, by omega⟩ h5) hg (fun ρ => VRs.cons (by unfold VR; exact ⟨_, rfl, VRs.cons (by simp [VR, E.den, sc]) (VRs.cons (by simp [VR, E.den, sc]) (VRs.cons (by simp [VR, E.den, sc]) (VRs.cons (by simp [VR, E.den, sc]) (VRs.cons (by simp [VR, E.den, sc]) (VRs.nil)))))⟩) (VRs.cons (by simp [VR, E.den, sc]) VRs.nil))
  ·
    rcases (by omega : ((-9223372036854775808) ≤ n0_4 ∧ n0_4 ≤ (-1)) ∨ (0 ≤ n0_4 ∧ n0_4 ≤ 0) ∨ (1 ≤ n0_4 ∧ n0_4 ≤ 9223372036854775807)) with q | q | q
    ·
      obtain rfl : n0_0 = 12 := by omega
      exact case211 hL (kc ⟨by omega, by omega⟩ ⟨by omega, by omega⟩ ⟨by omega, by omega⟩ ⟨by omega, by omega⟩ ⟨by omega, by omega⟩ h5) hg (fun ρ => VRs.cons (by unfold VR; exact ⟨_, rfl, VRs.cons (by simp [VR, E.den, sc]) (VRs.cons (by simp [VR, E.den, sc]) (VRs.cons (by simp [VR, E.den, sc]) (VRs.cons (by simp [VR, E.den, sc]) (VRs.cons (by simp [VR, E.den, sc]) (VRs.nil)))))⟩) (VRs.cons (by simp [VR, E.den, sc]) VRs.nil))
    ·
      obtain rfl : n0_0 = 12 := by omega
      obtain rfl : n0_4 = 0 := by omega
      exact case212 hL (kc ⟨by omega, by omega⟩ ⟨by omega, by omega⟩ ⟨by omega, by omega⟩ ⟨by omega, by omega⟩ ⟨by omega, by omega⟩ h5) hg (fun ρ => VRs.cons (by unfold VR; exact ⟨_, rfl, VRs.cons (by simp [VR, E.den, sc]) (VRs.cons (by simp [VR, E.den, sc]) (VRs.cons (by simp [VR, E.den, sc]) (VRs.cons (by simp [VR, E.den, sc]) (VRs.cons (by simp [VR, E.den, sc]) (VRs.nil)))))⟩) (VRs.cons (by simp [VR, E.den, sc]) VRs.nil))
    ·
      obtain rfl : n0_0 = 12 := by omega
      exact case213 hL (kc ⟨by omega, by omega⟩ ⟨by omega, by omega⟩ ⟨by omega, by omega⟩ ⟨by omega, by omega⟩ ⟨by omega, by omega⟩ h5) hg (fun ρ => VRs.cons (by unfold VR; exact ⟨_, rfl, VRs.cons (by simp [VR, E.den, sc]) (VRs.cons (by simp [VR, E.den, sc]) (VRs.cons (by simp [VR, E.den, sc]) (VRs.cons (by simp [VR, E.den, sc]) (VRs.cons (by simp [VR, E.den, sc]) (VRs.nil)))))⟩) (VRs.cons (by simp [VR, E.den, sc]) VRs.nil))
set_option maxHeartbeats 4000000 in
theorem walk13 {W : World} (hL : L0 W) {n0_0 n0_1 n0_2 n0_3 n0_4 n1 g0 g1 g2 g3 g4 : Int} {t : Bool} (hg : Gh t (sc n0_0 n0_1 n0_2 n0_3 n0_4 n1 g0 g1 g2 g3 g4) W) (hop : 13 ≤ n0_0 ∧ n0_0 ≤ 13) (h0 : -9223372036854775808 ≤ n0_0 ∧ n0_0 ≤ 9223372036854775807) (h1 : -9223372036854775808 ≤ n0_1 ∧ n0_1 ≤ 9223372036854775807) (h2 : -9223372036854775808 ≤ n0_2 ∧ n0_2 ≤ 9223372036854775807) (h3 : -9223372036854775808 ≤ n0_3 ∧ n0_3 ≤ 9223372036854775807) (h4 : -9223372036854775808 ≤ n0_4 ∧ n0_4 ≤ 9223372036854775807) (h5 : 0 ≤ n1 ∧ n1 ≤ 4294967295) : Calls Tryd.prog 3 #[.agg #[.int .i64 n0_0, .int .i64 n0_1, .int .i64 n0_2, .int .i64 n0_3, .int .i64 n0_4], .int .u32 n1] W fun e w' => e = .returned (.bool true) ∧ Below W.heap.size W w' := by
  rcases (by omega : ((-9223372036854775808) ≤ n0_1 ∧ n0_1 ≤ (-1)) ∨ (0 ≤ n0_1 ∧ n0_1 ≤ 0) ∨ (1 ≤ n0_1 ∧ n0_1 ≤ 9223372036854775807)) with q | q | q
  ·
    rcases (by omega : ((-9223372036854775808) ≤ n0_4 ∧ n0_4 ≤ (-1)) ∨ (0 ≤ n0_4 ∧ n0_4 ≤ 0) ∨ (1 ≤ n0_4 ∧ n0_4 ≤ 9223372036854775807)) with q | q | q
    ·
      obtain rfl : n0_0 = 13 := by omega
      exact case229 hL (kc ⟨by omega, by omega⟩ ⟨by omega, by omega⟩ ⟨by omega, by omega⟩ ⟨by omega, by omega⟩ ⟨by omega, by omega⟩ h5) hg (fun ρ => VRs.cons (by unfold VR; exact ⟨_, rfl, VRs.cons (by simp [VR, E.den, sc]) (VRs.cons (by simp [VR, E.den, sc]) (VRs.cons (by simp [VR, E.den, sc]) (VRs.cons (by simp [VR, E.den, sc]) (VRs.cons (by simp [VR, E.den, sc]) (VRs.nil)))))⟩) (VRs.cons (by simp [VR, E.den, sc]) VRs.nil))
    ·
      obtain rfl : n0_0 = 13 := by omega
      obtain rfl : n0_4 = 0 := by omega
      exact case230 hL (kc ⟨by omega, by omega⟩ ⟨by omega, by omega⟩ ⟨by omega, by omega⟩ ⟨by omega, by omega⟩ ⟨by omega, by omega⟩ h5) hg (fun ρ => VRs.cons (by unfold VR; exact ⟨_, rfl, VRs.cons (by simp [VR, E.den, sc]) (VRs.cons (by simp [VR, E.den, sc]) (VRs.cons (by simp [VR, E.den, sc]) (VRs.cons (by simp [VR, E.den, sc]) (VRs.cons (by simp [VR, E.den, sc]) (VRs.nil)))))⟩) (VRs.cons (by simp [VR, E.den, sc]) VRs.nil))
    ·
      obtain rfl : n0_0 = 13 := by omega
      exact case231 hL (kc ⟨by omega, by omega⟩ ⟨by omega, by omega⟩ ⟨by omega, by omega⟩ ⟨by omega, by omega⟩ ⟨by omega, by omega⟩ h5) hg (fun ρ => VRs.cons (by unfold VR; exact ⟨_, rfl, VRs.cons (by simp [VR, E.den, sc]) (VRs.cons (by simp [VR, E.den, sc]) (VRs.cons (by simp [VR, E.den, sc]) (VRs.cons (by simp [VR, E.den, sc]) (VRs.cons (by simp [VR, E.den, sc]) (VRs.nil)))))⟩) (VRs.cons (by simp [VR, E.den, sc]) VRs.nil))
  ·
    rcases (by omega : ((-9223372036854775808) ≤ n0_2 ∧ n0_2 ≤ (-1)) ∨ (0 ≤ n0_2 ∧ n0_2 ≤ 0) ∨ (1 ≤ n0_2 ∧ n0_2 ≤ 9223372036854775807)) with q | q | q
    ·
      rcases (by omega : ((-9223372036854775808) ≤ n0_4 ∧ n0_4 ≤ (-1)) ∨ (0 ≤ n0_4 ∧ n0_4 ≤ 0) ∨ (1 ≤ n0_4 ∧ n0_4 ≤ 9223372036854775807)) with q | q | q
      ·
        obtain rfl : n0_0 = 13 := by omega
        obtain rfl : n0_1 = 0 := by omega
        exact case235 hL (kc ⟨by omega, by omega⟩ ⟨by omega, by omega⟩ ⟨by omega, by omega⟩ ⟨by omega, by omega⟩ ⟨by omega, by omega⟩ h5) hg (fun ρ => VRs.cons (by unfold VR; exact ⟨_, rfl, VRs.cons (by simp [VR, E.den, sc]) (VRs.cons (by simp [VR, E.den, sc]) (VRs.cons (by simp [VR, E.den, sc]) (VRs.cons (by simp [VR, E.den, sc]) (VRs.cons (by simp [VR, E.den, sc]) (VRs.nil)))))⟩) (VRs.cons (by simp [VR, E.den, sc]) VRs.nil))
      ·
        obtain rfl : n0_0 = 13 := by omega
        obtain rfl : n0_1 = 0 := by omega
        obtain rfl : n0_4 = 0 := by omega
        exact case236 hL (kc ⟨by omega, by omega⟩ ⟨by omega, by omega⟩ ⟨by omega, by omega⟩ ⟨by omega, by omega⟩ ⟨by omega, by omega⟩ h5) hg (fun ρ => VRs.cons (by unfold VR; exact ⟨_, rfl, VRs.cons (by simp [VR, E.den, sc]) (VRs.cons (by simp [VR, E.den, sc]) (VRs.cons (by simp [VR, E.den, sc]) (VRs.cons (by simp [VR, E.den, sc]) (VRs.cons (by simp [VR, E.den, sc]) (VRs.nil)))))⟩) (VRs.cons (by simp [VR, E.den, sc]) VRs.nil))
      ·
        obtain rfl : n0_0 = 13 := by omega
        obtain rfl : n0_1 = 0 := by omega
        exact case237 hL (kc ⟨by omega, by omega⟩ ⟨by omega, by omega⟩ ⟨by omega, by omega⟩ ⟨by omega, by omega⟩ ⟨by omega, by omega⟩ h5) hg (fun ρ => VRs.cons (by unfold VR; exact ⟨_, rfl, VRs.cons (by simp [VR, E.den, sc]) (VRs.cons (by simp [VR, E.den, sc]) (VRs.cons (by simp [VR, E.den, sc]) (VRs.cons (by simp [VR, E.den, sc]) (VRs.cons (by simp [VR, E.den, sc]) (VRs.nil)))))⟩) (VRs.cons (by simp [VR, E.den, sc]) VRs.nil))
    ·
      rcases (by omega : ((-9223372036854775808) ≤ n0_3 ∧ n0_3 ≤ (-1)) ∨ (0 ≤ n0_3 ∧ n0_3 ≤ 0) ∨ (1 ≤ n0_3 ∧ n0_3 ≤ 9223372036854775807)) with q | q | q
      ·
        rcases (by omega : ((-9223372036854775808) ≤ n0_4 ∧ n0_4 ≤ (-1)) ∨ (0 ≤ n0_4 ∧ n0_4 ≤ 0) ∨ (1 ≤ n0_4 ∧ n0_4 ≤ 9223372036854775807)) with q | q | q
        ·
          obtain rfl : n0_0 = 13 := by omega
          obtain rfl : n0_1 = 0 := by omega
          obtain rfl : n0_2 = 0 := by omega
          exact case241 hL (kc ⟨by omega, by omega⟩ ⟨by omega, by omega⟩ ⟨by omega, by omega⟩ ⟨by omega, by omega⟩ ⟨by omega, by omega⟩ h5) hg (fun ρ => VRs.cons (by unfold VR; exact ⟨_, rfl, VRs.cons (by simp [VR, E.den, sc]) (VRs.cons (by simp [VR, E.den, sc]) (VRs.cons (by simp [VR, E.den, sc]) (VRs.cons (by simp [VR, E.den, sc]) (VRs.cons (by simp [VR, E.den, sc]) (VRs.nil)))))⟩) (VRs.cons (by simp [VR, E.den, sc]) VRs.nil))
        ·
          obtain rfl : n0_0 = 13 := by omega
          obtain rfl : n0_1 = 0 := by omega
          obtain rfl : n0_2 = 0 := by omega
          obtain rfl : n0_4 = 0 := by omega
          exact case242 hL (kc ⟨by omega, by omega⟩ ⟨by omega, by omega⟩ ⟨by omega, by omega⟩ ⟨by omega, by omega⟩ ⟨by omega, by omega⟩ h5) hg (fun ρ => VRs.cons (by unfold VR; exact ⟨_, rfl, VRs.cons (by simp [VR, E.den, sc]) (VRs.cons (by simp [VR, E.den, sc]) (VRs.cons (by simp [VR, E.den, sc]) (VRs.cons (by simp [VR, E.den, sc]) (VRs.cons (by simp [VR, E.den, sc]) (VRs.nil)))))⟩) (VRs.cons (by simp [VR, E.den, sc]) VRs.nil))
        ·
          obtain rfl : n0_0 = 13 := by omega
          obtain rfl : n0_1 = 0 := by omega
          obtain rfl : n0_2 = 0 := by omega
          exact case243 hL (kc ⟨by omega, by omega⟩ ⟨by omega, by omega⟩ ⟨by omega, by omega⟩ ⟨by omega, by omega⟩ ⟨by omega, by omega⟩ h5) hg (fun ρ => VRs.cons (by unfold VR; exact ⟨_, rfl, VRs.cons (by simp [VR, E.den, sc]) (VRs.cons (by simp [VR, E.den, sc]) (VRs.cons (by simp [VR, E.den, sc]) (VRs.cons (by simp [VR, E.den, sc]) (VRs.cons (by simp [VR, E.den, sc]) (VRs.nil)))))⟩) (VRs.cons (by simp [VR, E.den, sc]) VRs.nil))
      ·
        rcases (by omega : ((-9223372036854775808) ≤ n0_4 ∧ n0_4 ≤ (-1)) ∨ (0 ≤ n0_4 ∧ n0_4 ≤ 0) ∨ (1 ≤ n0_4 ∧ n0_4 ≤ 9223372036854775807)) with q | q | q
        ·
          obtain rfl : n0_0 = 13 := by omega
          obtain rfl : n0_1 = 0 := by omega
          obtain rfl : n0_2 = 0 := by omega
          obtain rfl : n0_3 = 0 := by omega
          exact case247 hL (kc ⟨by omega, by omega⟩ ⟨by omega, by omega⟩ ⟨by omega, by omega⟩ ⟨by omega, by omega⟩ ⟨by omega, by omega⟩ h5) hg (fun ρ => VRs.cons (by unfold VR; exact ⟨_, rfl, VRs.cons (by simp [VR, E.den, sc]) (VRs.cons (by simp [VR, E.den, sc]) (VRs.cons (by simp [VR, E.den, sc]) (VRs.cons (by simp [VR, E.den, sc]) (VRs.cons (by simp [VR, E.den, sc]) (VRs.nil)))))⟩) (VRs.cons (by simp [VR, E.den, sc]) VRs.nil))
        ·
          obtain rfl : n0_0 = 13 := by omega
          obtain rfl : n0_1 = 0 := by omega
          obtain rfl : n0_2 = 0 := by omega
          obtain rfl : n0_3 = 0 := by omega
          obtain rfl : n0_4 = 0 := by omega
          exact case249 hL (kc ⟨by omega, by omega⟩ ⟨by omega, by omega⟩ ⟨by omega, by omega⟩ ⟨by omega, by omega⟩ ⟨by omega, by omega⟩ h5) hg (fun ρ => VRs.cons (by unfold VR; exact ⟨_, rfl, VRs.cons (by simp [VR, E.den, sc]) (VRs.cons (by simp [VR, E.den, sc]) (VRs.cons (by simp [VR, E.den, sc]) (VRs.cons (by simp [VR, E.den, sc]) (VRs.cons (by simp [VR, E.den, sc]) (VRs.nil)))))⟩) (VRs.cons (by simp [VR, E.den, sc]) VRs.nil))
        ·
          obtain rfl : n0_0 = 13 := by omega
          obtain rfl : n0_1 = 0 := by omega
          obtain rfl : n0_2 = 0 := by omega
          obtain rfl : n0_3 = 0 := by omega
          exact case248 hL (kc ⟨by omega, by omega⟩ ⟨by omega, by omega⟩ ⟨by omega, by omega⟩ ⟨by omega, by omega⟩ ⟨by omega, by omega⟩ h5) hg (fun ρ => VRs.cons (by unfold VR; exact ⟨_, rfl, VRs.cons (by simp [VR, E.den, sc]) (VRs.cons (by simp [VR, E.den, sc]) (VRs.cons (by simp [VR, E.den, sc]) (VRs.cons (by simp [VR, E.den, sc]) (VRs.cons (by simp [VR, E.den, sc]) (VRs.nil)))))⟩) (VRs.cons (by simp [VR, E.den, sc]) VRs.nil))
      ·
        rcases (by omega : ((-9223372036854775808) ≤ n0_4 ∧ n0_4 ≤ (-1)) ∨ (0 ≤ n0_4 ∧ n0_4 ≤ 0) ∨ (1 ≤ n0_4 ∧ n0_4 ≤ 9223372036854775807)) with q | q | q
        ·
          obtain rfl : n0_0 = 13 := by omega
          obtain rfl : n0_1 = 0 := by omega
          obtain rfl : n0_2 = 0 := by omega
          exact case244 hL (kc ⟨by omega, by omega⟩ ⟨by omega, by omega⟩ ⟨by omega, by omega⟩ ⟨by omega, by omega⟩ ⟨by omega, by omega⟩ h5) hg (fun ρ => VRs.cons (by unfold VR; exact ⟨_, rfl, VRs.cons (by simp [VR, E.den, sc]) (VRs.cons (by simp [VR, E.den, sc]) (VRs.cons (by simp [VR, E.den, sc]) (VRs.cons (by simp [VR, E.den, sc]) (VRs.cons (by simp [VR, E.den, sc]) (VRs.nil)))))⟩) (VRs.cons (by simp [VR, E.den, sc]) VRs.nil))
        ·
          obtain rfl : n0_0 = 13 := by omega
          obtain rfl : n0_1 = 0 := by omega
          obtain rfl : n0_2 = 0 := by omega
          obtain rfl : n0_4 = 0 := by omega
          exact case245 hL (kc ⟨by omega, by omega⟩ ⟨by omega, by omega⟩ ⟨by omega, by omega⟩ ⟨by omega, by omega⟩ ⟨by omega, by omega⟩ h5) hg (fun ρ => VRs.cons (by unfold VR; exact ⟨_, rfl, VRs.cons (by simp [VR, E.den, sc]) (VRs.cons (by simp [VR, E.den, sc]) (VRs.cons (by simp [VR, E.den, sc]) (VRs.cons (by simp [VR, E.den, sc]) (VRs.cons (by simp [VR, E.den, sc]) (VRs.nil)))))⟩) (VRs.cons (by simp [VR, E.den, sc]) VRs.nil))
        ·
          obtain rfl : n0_0 = 13 := by omega
          obtain rfl : n0_1 = 0 := by omega
          obtain rfl : n0_2 = 0 := by omega
          exact case246 hL (kc ⟨by omega, by omega⟩ ⟨by omega, by omega⟩ ⟨by omega, by omega⟩ ⟨by omega, by omega⟩ ⟨by omega, by omega⟩ h5) hg (fun ρ => VRs.cons (by unfold VR; exact ⟨_, rfl, VRs.cons (by simp [VR, E.den, sc]) (VRs.cons (by simp [VR, E.den, sc]) (VRs.cons (by simp [VR, E.den, sc]) (VRs.cons (by simp [VR, E.den, sc]) (VRs.cons (by simp [VR, E.den, sc]) (VRs.nil)))))⟩) (VRs.cons (by simp [VR, E.den, sc]) VRs.nil))
    ·
      rcases (by omega : ((-9223372036854775808) ≤ n0_4 ∧ n0_4 ≤ (-1)) ∨ (0 ≤ n0_4 ∧ n0_4 ≤ 0) ∨ (1 ≤ n0_4 ∧ n0_4 ≤ 9223372036854775807)) with q | q | q
      ·
        obtain rfl : n0_0 = 13 := by omega
        obtain rfl : n0_1 = 0 := by omega
        exact case238 hL (kc ⟨by omega, by omega⟩ ⟨by omega, by omega⟩ ⟨by omega, by omega⟩ ⟨by omega, by omega⟩ ⟨by omega, by omega⟩ h5) hg (fun ρ => VRs.cons (by unfold VR; exact ⟨_, rfl, VRs.cons (by simp [VR, E.den, sc]) (VRs.cons (by simp [VR, E.den, sc]) (VRs.cons (by simp [VR, E.den, sc]) (VRs.cons (by simp [VR, E.den, sc]) (VRs.cons (by simp [VR, E.den, sc]) (VRs.nil)))))⟩) (VRs.cons (by simp [VR, E.den, sc]) VRs.nil))
      ·
        obtain rfl : n0_0 = 13 := by omega
        obtain rfl : n0_1 = 0 := by omega
        obtain rfl : n0_4 = 0 := by omega
        exact case239 hL (kc ⟨by omega, by omega⟩ ⟨by omega, by omega⟩ ⟨by omega, by omega⟩ ⟨by omega, by omega⟩ ⟨by omega, by omega⟩ h5) hg (fun ρ => VRs.cons (by unfold VR; exact ⟨_, rfl, VRs.cons (by simp [VR, E.den, sc]) (VRs.cons (by simp [VR, E.den, sc]) (VRs.cons (by simp [VR, E.den, sc]) (VRs.cons (by simp [VR, E.den, sc]) (VRs.cons (by simp [VR, E.den, sc]) (VRs.nil)))))⟩) (VRs.cons (by simp [VR, E.den, sc]) VRs.nil))
      ·
        obtain rfl : n0_0 = 13 := by omega
        obtain rfl : n0_1 = 0 := by omega
        exact case240 hL (kc ⟨by omega, by omega⟩ ⟨by omega, by omega⟩ ⟨by omega, by omega⟩ ⟨by omega, by omega⟩ ⟨by omega, by omega⟩ h5) hg (fun ρ => VRs.cons (by unfold VR; exact ⟨_, rfl, VRs.cons (by simp [VR, E.den, sc]) (VRs.cons (by simp [VR, E.den, sc]) (VRs.cons (by simp [VR, E.den, sc]) (VRs.cons (by simp [VR, E.den, sc]) (VRs.cons (by simp [VR, E.den, sc]) (VRs.nil)))))⟩) (VRs.cons (by simp [VR, E.den, sc]) VRs.nil))
  ·
    rcases (by omega : ((-9223372036854775808) ≤ n0_4 ∧ n0_4 ≤ (-1)) ∨ (0 ≤ n0_4 ∧ n0_4 ≤ 0) ∨ (1 ≤ n0_4 ∧ n0_4 ≤ 9223372036854775807)) with q | q | q
    ·
      obtain rfl : n0_0 = 13 := by omega
      exact case232 hL (kc ⟨by omega, by omega⟩ ⟨by omega, by omega⟩ ⟨by omega, by omega⟩ ⟨by omega, by omega⟩ ⟨by omega, by omega⟩ h5) hg (fun ρ => VRs.cons (by unfold VR; exact ⟨_, rfl, VRs.cons (by simp [VR, E.den, sc]) (VRs.cons (by simp [VR, E.den, sc]) (VRs.cons (by simp [VR, E.den, sc]) (VRs.cons (by simp [VR, E.den, sc]) (VRs.cons (by simp [VR, E.den, sc]) (VRs.nil)))))⟩) (VRs.cons (by simp [VR, E.den, sc]) VRs.nil))
    ·
      obtain rfl : n0_0 = 13 := by omega
      obtain rfl : n0_4 = 0 := by omega
      exact case233 hL (kc ⟨by omega, by omega⟩ ⟨by omega, by omega⟩ ⟨by omega, by omega⟩ ⟨by omega, by omega⟩ ⟨by omega, by omega⟩ h5) hg (fun ρ => VRs.cons (by unfold VR; exact ⟨_, rfl, VRs.cons (by simp [VR, E.den, sc]) (VRs.cons (by simp [VR, E.den, sc]) (VRs.cons (by simp [VR, E.den, sc]) (VRs.cons (by simp [VR, E.den, sc]) (VRs.cons (by simp [VR, E.den, sc]) (VRs.nil)))))⟩) (VRs.cons (by simp [VR, E.den, sc]) VRs.nil))
    ·
      obtain rfl : n0_0 = 13 := by omega
      exact case234 hL (kc ⟨by omega, by omega⟩ ⟨by omega, by omega⟩ ⟨by omega, by omega⟩ ⟨by omega, by omega⟩ ⟨by omega, by omega⟩ h5) hg (fun ρ => VRs.cons (by unfold VR; exact ⟨_, rfl, VRs.cons (by simp [VR, E.den, sc]) (VRs.cons (by simp [VR, E.den, sc]) (VRs.cons (by simp [VR, E.den, sc]) (VRs.cons (by simp [VR, E.den, sc]) (VRs.cons (by simp [VR, E.den, sc]) (VRs.nil)))))⟩) (VRs.cons (by simp [VR, E.den, sc]) VRs.nil))
set_option maxHeartbeats 4000000 in
theorem walk14 {W : World} (hL : L0 W) {n0_0 n0_1 n0_2 n0_3 n0_4 n1 g0 g1 g2 g3 g4 : Int} {t : Bool} (hg : Gh t (sc n0_0 n0_1 n0_2 n0_3 n0_4 n1 g0 g1 g2 g3 g4) W) (hop : 14 ≤ n0_0 ∧ n0_0 ≤ 9223372036854775807) (h0 : -9223372036854775808 ≤ n0_0 ∧ n0_0 ≤ 9223372036854775807) (h1 : -9223372036854775808 ≤ n0_1 ∧ n0_1 ≤ 9223372036854775807) (h2 : -9223372036854775808 ≤ n0_2 ∧ n0_2 ≤ 9223372036854775807) (h3 : -9223372036854775808 ≤ n0_3 ∧ n0_3 ≤ 9223372036854775807) (h4 : -9223372036854775808 ≤ n0_4 ∧ n0_4 ≤ 9223372036854775807) (h5 : 0 ≤ n1 ∧ n1 ≤ 4294967295) : Calls Tryd.prog 3 #[.agg #[.int .i64 n0_0, .int .i64 n0_1, .int .i64 n0_2, .int .i64 n0_3, .int .i64 n0_4], .int .u32 n1] W fun e w' => e = .returned (.bool true) ∧ Below W.heap.size W w' := by
  exact case251 hL (kc ⟨by omega, by omega⟩ ⟨by omega, by omega⟩ ⟨by omega, by omega⟩ ⟨by omega, by omega⟩ ⟨by omega, by omega⟩ h5) hg (fun ρ => VRs.cons (by unfold VR; exact ⟨_, rfl, VRs.cons (by simp [VR, E.den, sc]) (VRs.cons (by simp [VR, E.den, sc]) (VRs.cons (by simp [VR, E.den, sc]) (VRs.cons (by simp [VR, E.den, sc]) (VRs.cons (by simp [VR, E.den, sc]) (VRs.nil)))))⟩) (VRs.cons (by simp [VR, E.den, sc]) VRs.nil))
end Go.Proofs.YtphhnhheedbjjaaDoor.codeSays
