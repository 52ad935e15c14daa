/- KernTurns returns true for every input, and the input reads as it did; the listed errors hold what the program text lays. -/
import Derived.Test.YtkfhelmjaoepiaaGreatDoorKtK1
import Derived.Deep.DeepWitnessRowRef
import Derived.Lay
set_option linter.unusedVariables false
set_option linter.unusedSimpArgs false
set_option maxRecDepth 10000000
namespace Go.Proofs.YtkfhelmjaoepiaaGreatDoor.kernTurns
open Tk
open Go.ChangeShapes Go.WideShapes Go.ChangeAt Go.RowKit

theorem own : ownKnob Tryz.prog.godebug = none := by kernel_rfl
def sg (n0 : Int) (n1 : Int) : Nat → Int := fun i => if i = 0 then n0 else if i = 1 then n1 else if i = 2 then numOf n1 60 else 0
theorem walk (W : World) (n0 : Int) (hn0 : (Lit.int .i64 n0).wf = true) (n1 : Int) (hn1 : (Lit.int .i64 n1).wf = true) (hL : laidMetH Tryz.prog Rows.kernTurnsRow.laid W) : Calls Tryz.prog 3 #[.int .i64 n0, .int .i64 n1] W fun e w' => e = .returned (.bool true) ∧ Below W.heap.size W w' := by
  simp only [Lit.wf, Bool.and_eq_true, decide_eq_true_eq] at hn0
  have lo0 : -9223372036854775808 ≤ n0 := hn0.1
  have hi0 : n0 ≤ 9223372036854775807 := hn0.2
  simp only [Lit.wf, Bool.and_eq_true, decide_eq_true_eq] at hn1
  have lo1 : -9223372036854775808 ≤ n1 := hn1.1
  have hi1 : n1 ≤ 9223372036854775807 := hn1.2
  obtain ⟨s2, z2⟩ := numOf_range n1 60 (by decide)
  obtain ⟨a1, b1⟩ := numOf_range n0 5 (by decide)
  have e1 : numOf n0 5 = 0 ∨ numOf n0 5 = 1 ∨ numOf n0 5 = 2 ∨ numOf n0 5 = 3 ∨ numOf n0 5 = 4 := by omega
  rcases e1 with e1 | e1 | e1 | e1 | e1
  ·
    refine case0 (σ := fun i => if i = 0 then n0 else if i = 1 then n1 else if i = 2 then numOf n1 60 else 0) hL ⟨?_, ?_⟩ ?_ (fun ρ => VRs.cons (by simp [VR, E.den, bT, bF]) (VRs.cons (by simp [VR, E.den, bT, bF]) (VRs.nil)))
    · intro i lo hi hr
      rcases i with _ | i
      · simp at hr
        obtain ⟨rfl, rfl⟩ := hr
        exact ⟨by show (-9223372036854775808) ≤ n0; omega, by show n0 ≤ 9223372036854775807; omega⟩
      rcases i with _ | i
      · simp at hr
        obtain ⟨rfl, rfl⟩ := hr
        exact ⟨by show (-9223372036854775808) ≤ n1; omega, by show n1 ≤ 9223372036854775807; omega⟩
      rcases i with _ | i
      · simp at hr
        obtain ⟨rfl, rfl⟩ := hr
        exact ⟨by show 0 ≤ numOf n1 60; omega, by show numOf n1 60 ≤ 59; omega⟩
      simp at hr
    · intro q a b t hm
      simp at hm
    · exact TabOk.cons num5 (by decide) (by decide) lo0 hi0 (show numOf n0 5 = 0 from e1) (TabOk.cons num60 (by decide) (by decide) lo1 hi1 rfl (TabOk.nil))
  ·
    refine case1 (σ := fun i => if i = 0 then n0 else if i = 1 then n1 else if i = 2 then numOf n1 60 else 0) hL ⟨?_, ?_⟩ ?_ (fun ρ => VRs.cons (by simp [VR, E.den, bT, bF]) (VRs.cons (by simp [VR, E.den, bT, bF]) (VRs.nil)))
    · intro i lo hi hr
      rcases i with _ | i
      · simp at hr
        obtain ⟨rfl, rfl⟩ := hr
        exact ⟨by show (-9223372036854775808) ≤ n0; omega, by show n0 ≤ 9223372036854775807; omega⟩
      rcases i with _ | i
      · simp at hr
        obtain ⟨rfl, rfl⟩ := hr
        exact ⟨by show (-9223372036854775808) ≤ n1; omega, by show n1 ≤ 9223372036854775807; omega⟩
      rcases i with _ | i
      · simp at hr
        obtain ⟨rfl, rfl⟩ := hr
        exact ⟨by show 0 ≤ numOf n1 60; omega, by show numOf n1 60 ≤ 59; omega⟩
      simp at hr
    · intro q a b t hm
      simp at hm
    · exact TabOk.cons num5 (by decide) (by decide) lo0 hi0 (show numOf n0 5 = 1 from e1) (TabOk.cons num60 (by decide) (by decide) lo1 hi1 rfl (TabOk.nil))
  ·
    refine case2 (σ := fun i => if i = 0 then n0 else if i = 1 then n1 else if i = 2 then numOf n1 60 else 0) hL ⟨?_, ?_⟩ ?_ (fun ρ => VRs.cons (by simp [VR, E.den, bT, bF]) (VRs.cons (by simp [VR, E.den, bT, bF]) (VRs.nil)))
    · intro i lo hi hr
      rcases i with _ | i
      · simp at hr
        obtain ⟨rfl, rfl⟩ := hr
        exact ⟨by show (-9223372036854775808) ≤ n0; omega, by show n0 ≤ 9223372036854775807; omega⟩
      rcases i with _ | i
      · simp at hr
        obtain ⟨rfl, rfl⟩ := hr
        exact ⟨by show (-9223372036854775808) ≤ n1; omega, by show n1 ≤ 9223372036854775807; omega⟩
      rcases i with _ | i
      · simp at hr
        obtain ⟨rfl, rfl⟩ := hr
        exact ⟨by show 0 ≤ numOf n1 60; omega, by show numOf n1 60 ≤ 59; omega⟩
      simp at hr
    · intro q a b t hm
      simp at hm
    · exact TabOk.cons num5 (by decide) (by decide) lo0 hi0 (show numOf n0 5 = 2 from e1) (TabOk.cons num60 (by decide) (by decide) lo1 hi1 rfl (TabOk.nil))
  ·
    refine case3 (σ := fun i => if i = 0 then n0 else if i = 1 then n1 else if i = 2 then numOf n1 60 else 0) hL ⟨?_, ?_⟩ ?_ (fun ρ => VRs.cons (by simp [VR, E.den, bT, bF]) (VRs.cons (by simp [VR, E.den, bT, bF]) (VRs.nil)))
    · intro i lo hi hr
      rcases i with _ | i
      · simp at hr
        obtain ⟨rfl, rfl⟩ := hr
        exact ⟨by show (-9223372036854775808) ≤ n0; omega, by show n0 ≤ 9223372036854775807; omega⟩
      rcases i with _ | i
      · simp at hr
        obtain ⟨rfl, rfl⟩ := hr
        exact ⟨by show (-9223372036854775808) ≤ n1; omega, by show n1 ≤ 9223372036854775807; omega⟩
      rcases i with _ | i
      · simp at hr
        obtain ⟨rfl, rfl⟩ := hr
        exact ⟨by show 0 ≤ numOf n1 60; omega, by show numOf n1 60 ≤ 59; omega⟩
      simp at hr
    · intro q a b t hm
      simp at hm
    · exact TabOk.cons num5 (by decide) (by decide) lo0 hi0 (show numOf n0 5 = 3 from e1) (TabOk.cons num60 (by decide) (by decide) lo1 hi1 rfl (TabOk.nil))
  ·
    refine case4 (σ := fun i => if i = 0 then n0 else if i = 1 then n1 else if i = 2 then numOf n1 60 else 0) hL ⟨?_, ?_⟩ ?_ (fun ρ => VRs.cons (by simp [VR, E.den, bT, bF]) (VRs.cons (by simp [VR, E.den, bT, bF]) (VRs.nil)))
    · intro i lo hi hr
      rcases i with _ | i
      · simp at hr
        obtain ⟨rfl, rfl⟩ := hr
        exact ⟨by show (-9223372036854775808) ≤ n0; omega, by show n0 ≤ 9223372036854775807; omega⟩
      rcases i with _ | i
      · simp at hr
        obtain ⟨rfl, rfl⟩ := hr
        exact ⟨by show (-9223372036854775808) ≤ n1; omega, by show n1 ≤ 9223372036854775807; omega⟩
      rcases i with _ | i
      · simp at hr
        obtain ⟨rfl, rfl⟩ := hr
        exact ⟨by show 0 ≤ numOf n1 60; omega, by show numOf n1 60 ≤ 59; omega⟩
      simp at hr
    · intro q a b t hm
      simp at hm
    · exact TabOk.cons num5 (by decide) (by decide) lo0 hi0 (show numOf n0 5 = 4 from e1) (TabOk.cons num60 (by decide) (by decide) lo1 hi1 rfl (TabOk.nil))
theorem contract (H : Type) (enc : TypeId × Value → H) (W : World) (base : Nat) (args : Array Value) (ds gs : List (DataW H)) (before : List MemPlace)
    (hval : ∀ (j : Nat) t v, Tryz.f3.params[j]? = some t → args[j]? = some v → Value.okWide Tryz.prog W .any base t v)
    (hW : DataW.Whole enc Tryz.prog Tryz.f3.params.toList Rows.kernTurnsSpec.vars false W args.toList ds gs before) (hL : laidMetH Tryz.prog Rows.kernTurnsRow.laid W) :
    Calls Tryz.prog 3 args W fun e W' => ∃ v, e = .returned v ∧ Rows.kernTurnsSpec.post enc Tryz.prog Tryz.f3 false true false false W args v W' := by
  have hW' := hW
  obtain ⟨p, q, hA0, hV, rfl, hfz, hnd⟩ := hW
  have hA : DataW.TrodAll enc Tryz.prog W 0 (fun _ => true) true Tryz.f3.params.toList args.toList ds p := hA0
  rw [Tryz.params3] at hA hval
  obtain ⟨v0, vs0, d0, ds0, p0, q0, hargs, rfl, rfl, h0, r0⟩ := trodAll_cons hA
  obtain ⟨v1, vs1, d1, ds1, p1, q1, rfl, rfl, rfl, h1, r1⟩ := trodAll_cons r0
  obtain ⟨rfl, rfl, rfl⟩ := trodAll_nil r1
  obtain rfl : args = #[v0, v1] := by cases args; simp_all
  obtain ⟨rfl, rfl⟩ := trodVars_none hV
  obtain ⟨n0, rfl, rfl, rfl, hn0⟩ := open_int Tryz.underlying3 (hval 0 3 v0 rfl rfl) h0
  obtain ⟨n1, rfl, rfl, rfl, hn1⟩ := open_int Tryz.underlying3 (hval 1 3 v1 rfl rfl) h1
  clear hA0
  simp only [List.append_nil] at hW'
  refine (walk W n0 hn0 n1 hn1 hL).mono fun e W' hh => ?_
  obtain ⟨he, hg⟩ := hh
  subst he
  exact ⟨_, rfl, _, _, _, [], [], [], hW', trodAll_cons_mk (shut_bool Tryz.underlying4 _) trodAll_mk0, trodAll_cons_mk (shut_int Tryz.underlying3 hn0) (trodAll_cons_mk (shut_int Tryz.underlying3 hn1) trodAll_mk0), rfl, hg.frame _, fun h => Bool.noConfusion h⟩
theorem laid_met (os : Os) : laidMetH Tryz.prog Rows.kernTurnsRow.laid ((World.laidAll Tryz.prog os Rows.kernTurnsRow.laid).forCall (fun _ _ => 0) ⟨#[], #[.int .i64 0, .int .i64 0], []⟩).memory := by
  rw [MakeChecks.laidMetH_plain _ _ _ (by kernel_rfl)]
  exact laidMet_laidAll _ (by kernel_rfl) (by kernel_rfl)
theorem reads (os : Os) {H : Type} (enc : TypeId × Value → H) : ∃ places, DataW.whole enc Tryz.prog ((World.laidAll Tryz.prog os Rows.kernTurnsRow.laid).forCall (fun _ _ => 0) ⟨#[], #[.int .i64 0, .int .i64 0], []⟩).memory Tryz.f3.params.toList Rows.kernTurnsSpec.vars false #[Value.int .i64 0, .int .i64 0].toList 8 = some ([.lit (.int .i64 0), .lit (.int .i64 0)], [], places) :=
  ⟨[], by kernel_rfl⟩
theorem lifted (os : Os) (started : os.Started) (H : Type) (enc : TypeId × Value → H) (F : Stop.Interp) :
    ReturnsInHanded {} Tryz.checked os 3 .any ((OpenSpec.ofChange Rows.kernTurnsSpec).preRow enc Tryz.prog Tryz.f3 Rows.kernTurnsRow.domain false Rows.kernTurnsRow.laid) (((OpenSpec.ofChange Rows.kernTurnsSpec).at F).post enc Tryz.prog Tryz.f3 false true false false) := by
  obtain ⟨places, hx⟩ := reads os enc
  refine returnsInHanded_of_row (C := Tryz.checked) (s := OpenSpec.ofChange Rows.kernTurnsSpec) own started (by kernel_rfl) Tryz.func3
    (witness_row_atRef (enc := enc) (C := Tryz.checked) false (World.laidAll Tryz.prog os Rows.kernTurnsRow.laid) #[.int .i64 0, .int .i64 0] (World.laidAll_os _ _ _) (by kernel_rfl) (by kernel_rfl) (by kernel_rfl)
      (OpenSpec.preRow_of_cond 8 hx (by kernel_rfl) (fun k hk => by cases hk) (by kernel_rfl) (laid_met os))) ?_
  intro W base args ds gs before hval hW _ _ _ hL _ _
  exact contract H enc W base args ds gs before hval hW hL
theorem said : Rows.KernTurnsSaid :=
  OpenClaim.holds_of_cond 3 Tryz.f3 rfl rfl rfl rfl rfl rfl rfl ⟨rfl, rfl, rfl, rfl, rfl⟩ rfl rfl rfl rfl rfl (by kernel_rfl) Tryz.func3 (by kernel_rfl)
    (of_decide_eq_true (by kernel_rfl)) (by unfold Func.isWrapper; first | (rw [if_pos (by decide +kernel)]; kernel_rfl) | (rw [if_neg (by decide +kernel)]; exact ⟨rfl, rfl⟩))
    (fun os started H enc _ F => by rw [OpenClaim.pre_eq_preRow]; exact lifted os started H enc F)
theorem plain (f : FuncId) (fn : Func) (hf : Tryz.pinned.checked.prog.funcNamed "turnkey/turnkeylaw24.KernTurns" = some f) (hfn : Tryz.pinned.checked.prog.funcs[f]? = some fn) :
    true = Tryz.pinned.checked.prog.looks [] ∧ ∀ (j : Nat) t, fn.params[j]? = some t → Tryz.pinned.checked.prog.wantsStandIn t = false := by
  obtain rfl : f = 3 := Option.some.inj ((show Tryz.prog.funcNamed "turnkey/turnkeylaw24.KernTurns" = some 3 by kernel_rfl).symm.trans hf) |>.symm
  obtain rfl : fn = Tryz.f3 := (Option.some.inj (Tryz.func3.symm.trans hfn)).symm
  refine ⟨by kernel_rfl, fun j t ht => ?_⟩
  rw [Tryz.params3] at ht
  have hm := Array.mem_of_getElem? ht
  have hall : ∀ t, t ∈ #[(3 : TypeId), (3 : TypeId)] → Tryz.prog.wantsStandIn t = false := by
    intro t h
    simp only [List.mem_toArray, List.mem_cons, List.not_mem_nil, or_false] at h
    rcases h with rfl | rfl
    · exact (show Tryz.prog.wantsStandIn 3 = false by kernel_rfl)
    · exact (show Tryz.prog.wantsStandIn 3 = false by kernel_rfl)
  exact hall t hm
theorem card : Rows.KernTurnsCardSaid :=
  Claim7.holds_tied_plain_at .later [] _ _ _ _ said (fun _ h => by cases h) (by kernel_rfl) (fun _ h => by cases h) kernTurns_row_tie rfl ⟨rfl, rfl⟩ (by kernel_rfl) rfl plain (by kernel_rfl)
end Go.Proofs.YtkfhelmjaoepiaaGreatDoor.kernTurns
