/- WorldServes returns true for every input, and the input reads as it did; the listed errors hold what the program text lays. -/
import Derived.Test.YtcaejjnmhbomcaaGreatDoorWsK0
import Derived.Test.YtcaejjnmhbomcaaGreatDoorWsK1n
import Derived.Test.YtcaejjnmhbomcaaGreatDoorWsK1m
import Derived.Test.YtcaejjnmhbomcaaGreatDoorWsK2s0
import Derived.Test.YtcaejjnmhbomcaaGreatDoorWsK2s1
import Derived.Test.YtcaejjnmhbomcaaGreatDoorWsK3
import Derived.Test.YtcaejjnmhbomcaaGreatDoorWsK4
import Derived.Test.YtcaejjnmhbomcaaGreatDoorWsK5
import Derived.Deep.DeepWitnessRowRef
import Derived.Lay
set_option linter.unusedVariables false
set_option linter.unusedSimpArgs false
set_option maxRecDepth 10000000
namespace Go.Proofs.YtcaejjnmhbomcaaGreatDoor.worldServes
open Tk
open Go.ChangeShapes Go.WideShapes Go.ChangeAt Go.RowKit

theorem own : ownKnob Tryz.prog.godebug = none := by kernel_rfl
def sg (n0 : Int) : Nat → Int := fun i => if i = 0 then n0 else 0
theorem hvv (n0 : Int) : ∀ ρ, VRs (sg n0) ρ [.int .i64 (.var 0)] (#[.int .i64 n0] : Array Go.Value).toList := fun ρ => VRs.cons (by simp [VR, E.den, sg]) (VRs.nil)
theorem walk (W : World) (n0 : Int) (hn0 : (Lit.int .i64 n0).wf = true) (hL : laidMetH Tryz.prog Rows.worldServesRow.laid W) : Calls Tryz.prog 5 #[.int .i64 n0] W fun e w' => e = .returned (.bool true) ∧ Below W.heap.size W w' := by
  simp only [Lit.wf, Bool.and_eq_true, decide_eq_true_eq] at hn0
  have lo0 : -9223372036854775808 ≤ n0 := hn0.1
  have hi0 : n0 ≤ 9223372036854775807 := hn0.2
  obtain ⟨a1, b1⟩ := Tk.numOf_range n0 30 (by decide)
  have e1 : Tk.numOf n0 30 = 0 ∨ Tk.numOf n0 30 = 1 ∨ Tk.numOf n0 30 = 2 ∨ Tk.numOf n0 30 = 3 ∨ Tk.numOf n0 30 = 4 ∨ Tk.numOf n0 30 = 5 ∨ Tk.numOf n0 30 = 6 ∨ Tk.numOf n0 30 = 7 ∨ Tk.numOf n0 30 = 8 ∨ Tk.numOf n0 30 = 9 ∨ Tk.numOf n0 30 = 10 ∨ Tk.numOf n0 30 = 11 ∨ Tk.numOf n0 30 = 12 ∨ Tk.numOf n0 30 = 13 ∨ Tk.numOf n0 30 = 14 ∨ Tk.numOf n0 30 = 15 ∨ Tk.numOf n0 30 = 16 ∨ Tk.numOf n0 30 = 17 ∨ Tk.numOf n0 30 = 18 ∨ Tk.numOf n0 30 = 19 ∨ Tk.numOf n0 30 = 20 ∨ Tk.numOf n0 30 = 21 ∨ Tk.numOf n0 30 = 22 ∨ Tk.numOf n0 30 = 23 ∨ Tk.numOf n0 30 = 24 ∨ Tk.numOf n0 30 = 25 ∨ Tk.numOf n0 30 = 26 ∨ Tk.numOf n0 30 = 27 ∨ Tk.numOf n0 30 = 28 ∨ Tk.numOf n0 30 = 29 := by omega
  rcases e1 with e1 | e1 | e1 | e1 | e1 | e1 | e1 | e1 | e1 | e1 | e1 | e1 | e1 | e1 | e1 | e1 | e1 | e1 | e1 | e1 | e1 | e1 | e1 | e1 | e1 | e1 | e1 | e1 | e1 | e1
  ·
    exact case0 (σ := (sg n0)) hL (Known2.nil _) (TabOk.cons num30 (by decide) (by decide) lo0 hi0 e1 (TabOk.nil)) (hvv n0)
  ·
    exact case1 (σ := (sg n0)) hL (Known2.nil _) (TabOk.cons num30 (by decide) (by decide) lo0 hi0 e1 (TabOk.nil)) (hvv n0)
  ·
    exact case2 (σ := (sg n0)) hL (Known2.nil _) (TabOk.cons num30 (by decide) (by decide) lo0 hi0 e1 (TabOk.nil)) (hvv n0)
  ·
    exact case3 (σ := (sg n0)) hL (Known2.nil _) (TabOk.cons num30 (by decide) (by decide) lo0 hi0 e1 (TabOk.nil)) (hvv n0)
  ·
    exact case4 (σ := (sg n0)) hL (Known2.nil _) (TabOk.cons num30 (by decide) (by decide) lo0 hi0 e1 (TabOk.nil)) (hvv n0)
  ·
    exact case5 (σ := (sg n0)) hL (Known2.nil _) (TabOk.cons num30 (by decide) (by decide) lo0 hi0 e1 (TabOk.nil)) (hvv n0)
  ·
    exact case6 (σ := (sg n0)) hL (Known2.nil _) (TabOk.cons num30 (by decide) (by decide) lo0 hi0 e1 (TabOk.nil)) (hvv n0)
  ·
    exact case7 (σ := (sg n0)) hL (Known2.nil _) (TabOk.cons num30 (by decide) (by decide) lo0 hi0 e1 (TabOk.nil)) (hvv n0)
  ·
    exact case8 (σ := (sg n0)) hL (Known2.nil _) (TabOk.cons num30 (by decide) (by decide) lo0 hi0 e1 (TabOk.nil)) (hvv n0)
  ·
    exact case9 (σ := (sg n0)) hL (Known2.nil _) (TabOk.cons num30 (by decide) (by decide) lo0 hi0 e1 (TabOk.nil)) (hvv n0)
  ·
    exact case10 (σ := (sg n0)) hL (Known2.nil _) (TabOk.cons num30 (by decide) (by decide) lo0 hi0 e1 (TabOk.nil)) (hvv n0)
  ·
    exact case11 (σ := (sg n0)) hL (Known2.nil _) (TabOk.cons num30 (by decide) (by decide) lo0 hi0 e1 (TabOk.nil)) (hvv n0)
  ·
    exact case12 (σ := (sg n0)) hL (Known2.nil _) (TabOk.cons num30 (by decide) (by decide) lo0 hi0 e1 (TabOk.nil)) (hvv n0)
  ·
    exact case13 (σ := (sg n0)) hL (Known2.nil _) (TabOk.cons num30 (by decide) (by decide) lo0 hi0 e1 (TabOk.nil)) (hvv n0)
  ·
    exact case14 (σ := (sg n0)) hL (Known2.nil _) (TabOk.cons num30 (by decide) (by decide) lo0 hi0 e1 (TabOk.nil)) (hvv n0)
  ·
    exact case15 (σ := (sg n0)) hL (Known2.nil _) (TabOk.cons num30 (by decide) (by decide) lo0 hi0 e1 (TabOk.nil)) (hvv n0)
  ·
    exact case16 (σ := (sg n0)) hL (Known2.nil _) (TabOk.cons num30 (by decide) (by decide) lo0 hi0 e1 (TabOk.nil)) (hvv n0)
  ·
    exact case17 (σ := (sg n0)) hL (Known2.nil _) (TabOk.cons num30 (by decide) (by decide) lo0 hi0 e1 (TabOk.nil)) (hvv n0)
  ·
    exact case18 (σ := (sg n0)) hL (Known2.nil _) (TabOk.cons num30 (by decide) (by decide) lo0 hi0 e1 (TabOk.nil)) (hvv n0)
  ·
    exact case19 (σ := (sg n0)) hL (Known2.nil _) (TabOk.cons num30 (by decide) (by decide) lo0 hi0 e1 (TabOk.nil)) (hvv n0)
  ·
    exact case20 (σ := (sg n0)) hL (Known2.nil _) (TabOk.cons num30 (by decide) (by decide) lo0 hi0 e1 (TabOk.nil)) (hvv n0)
  ·
    exact case21 (σ := (sg n0)) hL (Known2.nil _) (TabOk.cons num30 (by decide) (by decide) lo0 hi0 e1 (TabOk.nil)) (hvv n0)
  ·
    exact case22 (σ := (sg n0)) hL (Known2.nil _) (TabOk.cons num30 (by decide) (by decide) lo0 hi0 e1 (TabOk.nil)) (hvv n0)
  ·
    exact case23 (σ := (sg n0)) hL (Known2.nil _) (TabOk.cons num30 (by decide) (by decide) lo0 hi0 e1 (TabOk.nil)) (hvv n0)
  ·
    exact case24 (σ := (sg n0)) hL (Known2.nil _) (TabOk.cons num30 (by decide) (by decide) lo0 hi0 e1 (TabOk.nil)) (hvv n0)
  ·
    exact case25 (σ := (sg n0)) hL (Known2.nil _) (TabOk.cons num30 (by decide) (by decide) lo0 hi0 e1 (TabOk.nil)) (hvv n0)
  ·
    exact case26 (σ := (sg n0)) hL (Known2.nil _) (TabOk.cons num30 (by decide) (by decide) lo0 hi0 e1 (TabOk.nil)) (hvv n0)
  ·
    exact case27 (σ := (sg n0)) hL (Known2.nil _) (TabOk.cons num30 (by decide) (by decide) lo0 hi0 e1 (TabOk.nil)) (hvv n0)
  ·
    exact case28 (σ := (sg n0)) hL (Known2.nil _) (TabOk.cons num30 (by decide) (by decide) lo0 hi0 e1 (TabOk.nil)) (hvv n0)
  ·
    exact case29 (σ := (sg n0)) hL (Known2.nil _) (TabOk.cons num30 (by decide) (by decide) lo0 hi0 e1 (TabOk.nil)) (hvv n0)
theorem contract (H : Type) (enc : TypeId × Value → H) (W : World) (base : Nat) (args : Array Value) (ds gs : List (DataW H)) (before : List MemPlace)
    (hval : ∀ (j : Nat) t v, Tryz.f5.params[j]? = some t → args[j]? = some v → Value.okWide Tryz.prog W .any base t v)
    (hW : DataW.Whole enc Tryz.prog Tryz.f5.params.toList Rows.worldServesSpec.vars false W args.toList ds gs before) (hL : laidMetH Tryz.prog Rows.worldServesRow.laid W) :
    Calls Tryz.prog 5 args W fun e W' => ∃ v, e = .returned v ∧ Rows.worldServesSpec.post enc Tryz.prog Tryz.f5 false true false false W args v W' := by
  have hW' := hW
  obtain ⟨p, q, hA0, hV, rfl, hfz, hnd⟩ := hW
  have hA : DataW.TrodAll enc Tryz.prog W 0 (fun _ => true) true Tryz.f5.params.toList args.toList ds p := hA0
  rw [Tryz.params5] at hA hval
  obtain ⟨v0, vs0, d0, ds0, p0, q0, hargs, rfl, rfl, h0, r0⟩ := trodAll_cons hA
  obtain ⟨rfl, rfl, rfl⟩ := trodAll_nil r0
  obtain rfl : args = #[v0] := by cases args; simp_all
  obtain ⟨rfl, rfl⟩ := trodVars_none hV
  obtain ⟨n0, rfl, rfl, rfl, hn0⟩ := open_int Tryz.underlying3 (hval 0 3 v0 rfl rfl) h0
  clear hA0
  simp only [List.append_nil] at hW'
  refine (walk W n0 hn0 hL).mono fun e W' hh => ?_
  obtain ⟨he, hg⟩ := hh
  subst he
  exact ⟨_, rfl, _, _, _, [], [], [], hW', trodAll_cons_mk (shut_bool Tryz.underlying4 _) trodAll_mk0, trodAll_cons_mk (shut_int Tryz.underlying3 hn0) trodAll_mk0, rfl, hg.frame _, fun h => Bool.noConfusion h⟩
theorem laid_met (os : Os) : laidMetH Tryz.prog Rows.worldServesRow.laid ((World.laidAll Tryz.prog os Rows.worldServesRow.laid).forCall (fun _ _ => 0) ⟨#[], #[.int .i64 0], []⟩).memory := by
  rw [MakeChecks.laidMetH_plain _ _ _ (by kernel_rfl)]
  exact laidMet_laidAll _ (by kernel_rfl) (by kernel_rfl)
theorem reads (os : Os) {H : Type} (enc : TypeId × Value → H) : ∃ places, DataW.whole enc Tryz.prog ((World.laidAll Tryz.prog os Rows.worldServesRow.laid).forCall (fun _ _ => 0) ⟨#[], #[.int .i64 0], []⟩).memory Tryz.f5.params.toList Rows.worldServesSpec.vars false #[Value.int .i64 0].toList 8 = some ([.lit (.int .i64 0)], [], places) :=
  ⟨[], by kernel_rfl⟩
theorem lifted (os : Os) (started : os.Started) (H : Type) (enc : TypeId × Value → H) (F : Stop.Interp) :
    ReturnsInHanded {} Tryz.checked os 5 .any ((OpenSpec.ofChange Rows.worldServesSpec).preRow enc Tryz.prog Tryz.f5 Rows.worldServesRow.domain false Rows.worldServesRow.laid) (((OpenSpec.ofChange Rows.worldServesSpec).at F).post enc Tryz.prog Tryz.f5 false true false false) := by
  obtain ⟨places, hx⟩ := reads os enc
  refine returnsInHanded_of_row (C := Tryz.checked) (s := OpenSpec.ofChange Rows.worldServesSpec) own started (by kernel_rfl) Tryz.func5
    (witness_row_atRef (enc := enc) (C := Tryz.checked) false (World.laidAll Tryz.prog os Rows.worldServesRow.laid) #[.int .i64 0] (World.laidAll_os _ _ _) (by kernel_rfl) (by kernel_rfl) (by kernel_rfl)
      (OpenSpec.preRow_of_cond 8 hx (by kernel_rfl) (fun k hk => by cases hk) (by kernel_rfl) (laid_met os))) ?_
  intro W base args ds gs before hval hW _ _ _ hL _ _
  exact contract H enc W base args ds gs before hval hW hL
set_option maxHeartbeats 4000000 in
theorem joined : joinedFacts Tryz.pinned.checked.prog 5 Tryz.f5 (OpenSpec.ofChange Rows.worldServesSpec).bare Rows.worldServesRow = true := by
  unfold joinedFacts
  simp only [Bool.and_eq_true]
  repeat' apply And.intro
  all_goals (as_aux_lemma => kernel_rfl)
theorem said : Rows.WorldServesSaid :=
  OpenClaim.holds_of_cond 5 Tryz.f5 rfl rfl rfl rfl rfl rfl rfl ⟨rfl, rfl, rfl, rfl, rfl⟩ rfl rfl rfl rfl rfl (by kernel_rfl) Tryz.func5 joined
    (of_decide_eq_true (by kernel_rfl)) (by unfold Func.isWrapper; first | (rw [if_pos (by decide +kernel)]; kernel_rfl) | (rw [if_neg (by decide +kernel)]; exact ⟨rfl, rfl⟩))
    (fun os started H enc _ F => by rw [OpenClaim.pre_eq_preRow]; exact lifted os started H enc F)
theorem plain (f : FuncId) (fn : Func) (hf : Tryz.pinned.checked.prog.funcNamed "turnkey/turnkeylaw27.WorldServes" = some f) (hfn : Tryz.pinned.checked.prog.funcs[f]? = some fn) :
    true = Tryz.pinned.checked.prog.looks [] ∧ ∀ (j : Nat) t, fn.params[j]? = some t → Tryz.pinned.checked.prog.wantsStandIn t = false := by
  obtain rfl : f = 5 := Option.some.inj ((show Tryz.prog.funcNamed "turnkey/turnkeylaw27.WorldServes" = some 5 by kernel_rfl).symm.trans hf) |>.symm
  obtain rfl : fn = Tryz.f5 := (Option.some.inj (Tryz.func5.symm.trans hfn)).symm
  refine ⟨by kernel_rfl, fun j t ht => ?_⟩
  rw [Tryz.params5] at ht
  have hm := Array.mem_of_getElem? ht
  have hall : ∀ t, t ∈ #[(3 : TypeId)] → Tryz.prog.wantsStandIn t = false := by
    intro t h
    simp only [List.mem_toArray, List.mem_cons, List.not_mem_nil, or_false] at h
    subst h
    exact (show Tryz.prog.wantsStandIn 3 = false by kernel_rfl)
  exact hall t hm
theorem card : Rows.WorldServesCardSaid :=
  Claim7.holds_tied_plain_at .later [] _ _ _ _ said (fun _ h => by cases h) (by as_aux_lemma => kernel_rfl) (fun _ h => by cases h) worldServes_row_tie rfl ⟨rfl, rfl⟩ (by as_aux_lemma => kernel_rfl) rfl plain (by as_aux_lemma => kernel_rfl)
end Go.Proofs.YtcaejjnmhbomcaaGreatDoor.worldServes
