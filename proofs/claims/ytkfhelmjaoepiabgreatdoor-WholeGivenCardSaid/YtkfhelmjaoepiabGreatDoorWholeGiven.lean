/- WholeGiven returns true for every input, and the input reads as it did; the listed errors hold what the program text lays. -/
import Derived.Test.YtkfhelmjaoepiabGreatDoorWgK0
import Derived.Deep.DeepWitnessRowRef
import Derived.Lay
set_option linter.unusedVariables false
set_option linter.unusedSimpArgs false
set_option maxRecDepth 10000000
namespace Go.Proofs.YtkfhelmjaoepiabGreatDoor.wholeGiven
open Tk
open Go.ChangeShapes Go.WideShapes Go.ChangeAt Go.RowKit

theorem own : ownKnob Tryz.prog.godebug = none := by kernel_rfl
def sg (n1 : Int) : Nat → Int := fun i => if i = 1 then n1 else 0
theorem walk (W : World) (n0 : Bool) (n1 : Int) (hn1 : (Lit.int .u32 n1).wf = true) (hL : laidMetH Tryz.prog Rows.wholeGivenRow.laid W) : Calls Tryz.prog 5 #[.bool n0, .int .u32 n1] W fun e w' => e = .returned (.bool true) ∧ Below W.heap.size W w' := by
  simp only [Lit.wf, Bool.and_eq_true, decide_eq_true_eq] at hn1
  have lo1 : 0 ≤ n1 := hn1.1
  have hi1 : n1 ≤ 4294967295 := hn1.2
  cases n0
  ·
    refine case0 (σ := fun i => if i = 1 then n1 else 0) hL ⟨?_, ?_⟩ ?_ (fun ρ => VRs.cons (by simp [VR, E.den, bT, bF]) (VRs.cons (by simp [VR, E.den, bT, bF]) (VRs.nil)))
    · intro i lo hi hr
      rcases i with _ | i
      · simp at hr
        obtain ⟨rfl, rfl⟩ := hr
        exact ⟨by show (-9223372036854775808) ≤ (0 : Int); omega, by show (0 : Int) ≤ 9223372036854775807; omega⟩
      rcases i with _ | i
      · simp at hr
        obtain ⟨rfl, rfl⟩ := hr
        exact ⟨by show 0 ≤ n1; omega, by show n1 ≤ 4294967295; omega⟩
      simp at hr
    · intro q a b t hm
      simp at hm
    · exact TabOk.nil
  ·
    refine case1 (σ := fun i => if i = 1 then n1 else 0) hL ⟨?_, ?_⟩ ?_ (fun ρ => VRs.cons (by simp [VR, E.den, bT, bF]) (VRs.cons (by simp [VR, E.den, bT, bF]) (VRs.nil)))
    · intro i lo hi hr
      rcases i with _ | i
      · simp at hr
        obtain ⟨rfl, rfl⟩ := hr
        exact ⟨by show (-9223372036854775808) ≤ (0 : Int); omega, by show (0 : Int) ≤ 9223372036854775807; omega⟩
      rcases i with _ | i
      · simp at hr
        obtain ⟨rfl, rfl⟩ := hr
        exact ⟨by show 0 ≤ n1; omega, by show n1 ≤ 4294967295; omega⟩
      simp at hr
    · intro q a b t hm
      simp at hm
    · exact TabOk.nil
theorem contract (H : Type) (enc : TypeId × Value → H) (W : World) (base : Nat) (args : Array Value) (ds gs : List (DataW H)) (before : List MemPlace)
    (hval : ∀ (j : Nat) t v, Tryz.f5.params[j]? = some t → args[j]? = some v → Value.okWide Tryz.prog W .any base t v)
    (hW : DataW.Whole enc Tryz.prog Tryz.f5.params.toList Rows.wholeGivenSpec.vars false W args.toList ds gs before) (hL : laidMetH Tryz.prog Rows.wholeGivenRow.laid W) :
    Calls Tryz.prog 5 args W fun e W' => ∃ v, e = .returned v ∧ Rows.wholeGivenSpec.post enc Tryz.prog Tryz.f5 false true false false W args v W' := by
  have hW' := hW
  obtain ⟨p, q, hA0, hV, rfl, hfz, hnd⟩ := hW
  have hA : DataW.TrodAll enc Tryz.prog W 0 (fun _ => true) true Tryz.f5.params.toList args.toList ds p := hA0
  rw [Tryz.params5] at hA hval
  obtain ⟨v0, vs0, d0, ds0, p0, q0, hargs, rfl, rfl, h0, r0⟩ := trodAll_cons hA
  obtain ⟨v1, vs1, d1, ds1, p1, q1, rfl, rfl, rfl, h1, r1⟩ := trodAll_cons r0
  obtain ⟨rfl, rfl, rfl⟩ := trodAll_nil r1
  obtain rfl : args = #[v0, v1] := by cases args; simp_all
  obtain ⟨rfl, rfl⟩ := trodVars_none hV
  obtain ⟨n0, rfl, rfl, rfl⟩ := open_bool Tryz.underlying4 (hval 0 4 v0 rfl rfl) h0
  obtain ⟨n1, rfl, rfl, rfl, hn1⟩ := open_int Tryz.underlying44 (hval 1 44 v1 rfl rfl) h1
  clear hA0
  simp only [List.append_nil] at hW'
  refine (walk W n0 n1 hn1 hL).mono fun e W' hh => ?_
  obtain ⟨he, hg⟩ := hh
  subst he
  exact ⟨_, rfl, _, _, _, [], [], [], hW', trodAll_cons_mk (shut_bool Tryz.underlying4 _) trodAll_mk0, trodAll_cons_mk (shut_bool Tryz.underlying4 _) (trodAll_cons_mk (shut_int Tryz.underlying44 hn1) trodAll_mk0), rfl, hg.frame _, fun h => Bool.noConfusion h⟩
theorem laid_met (os : Os) : laidMetH Tryz.prog Rows.wholeGivenRow.laid ((World.laidAll Tryz.prog os Rows.wholeGivenRow.laid).forCall (fun _ _ => 0) ⟨#[], #[.bool false, .int .u32 0], []⟩).memory := by
  rw [MakeChecks.laidMetH_plain _ _ _ (by kernel_rfl)]
  exact laidMet_laidAll _ (by kernel_rfl) (by kernel_rfl)
theorem reads (os : Os) {H : Type} (enc : TypeId × Value → H) : ∃ places, DataW.whole enc Tryz.prog ((World.laidAll Tryz.prog os Rows.wholeGivenRow.laid).forCall (fun _ _ => 0) ⟨#[], #[.bool false, .int .u32 0], []⟩).memory Tryz.f5.params.toList Rows.wholeGivenSpec.vars false #[Value.bool false, .int .u32 0].toList 8 = some ([.lit (.bool false), .lit (.int .u32 0)], [], places) :=
  ⟨[], by kernel_rfl⟩
theorem lifted (os : Os) (started : os.Started) (H : Type) (enc : TypeId × Value → H) (F : Stop.Interp) :
    ReturnsInHanded {} Tryz.checked os 5 .any ((OpenSpec.ofChange Rows.wholeGivenSpec).preRow enc Tryz.prog Tryz.f5 Rows.wholeGivenRow.domain false Rows.wholeGivenRow.laid) (((OpenSpec.ofChange Rows.wholeGivenSpec).at F).post enc Tryz.prog Tryz.f5 false true false false) := by
  obtain ⟨places, hx⟩ := reads os enc
  refine returnsInHanded_of_row (C := Tryz.checked) (s := OpenSpec.ofChange Rows.wholeGivenSpec) own started (by kernel_rfl) Tryz.func5
    (witness_row_atRef (enc := enc) (C := Tryz.checked) false (World.laidAll Tryz.prog os Rows.wholeGivenRow.laid) #[.bool false, .int .u32 0] (World.laidAll_os _ _ _) (by kernel_rfl) (by kernel_rfl) (by kernel_rfl)
      (OpenSpec.preRow_of_cond 8 hx (by kernel_rfl) (fun k hk => by cases hk) (by kernel_rfl) (laid_met os))) ?_
  intro W base args ds gs before hval hW _ _ _ hL _ _
  exact contract H enc W base args ds gs before hval hW hL
set_option maxHeartbeats 4000000 in
theorem joined : joinedFacts Tryz.pinned.checked.prog 5 Tryz.f5 (OpenSpec.ofChange Rows.wholeGivenSpec).bare Rows.wholeGivenRow = true := by
  unfold joinedFacts
  simp only [Bool.and_eq_true]
  repeat' apply And.intro
  all_goals (as_aux_lemma => kernel_rfl)
theorem said : Rows.WholeGivenSaid :=
  OpenClaim.holds_of_cond 5 Tryz.f5 rfl rfl rfl rfl rfl rfl rfl ⟨rfl, rfl, rfl, rfl, rfl⟩ rfl rfl rfl rfl rfl (by kernel_rfl) Tryz.func5 joined
    (of_decide_eq_true (by kernel_rfl)) (by unfold Func.isWrapper; first | (rw [if_pos (by decide +kernel)]; kernel_rfl) | (rw [if_neg (by decide +kernel)]; exact ⟨rfl, rfl⟩))
    (fun os started H enc _ F => by rw [OpenClaim.pre_eq_preRow]; exact lifted os started H enc F)
theorem plain (f : FuncId) (fn : Func) (hf : Tryz.pinned.checked.prog.funcNamed "turnkey/turnkeytop.WholeGiven" = some f) (hfn : Tryz.pinned.checked.prog.funcs[f]? = some fn) :
    true = Tryz.pinned.checked.prog.looks [] ∧ ∀ (j : Nat) t, fn.params[j]? = some t → Tryz.pinned.checked.prog.wantsStandIn t = false := by
  obtain rfl : f = 5 := Option.some.inj ((show Tryz.prog.funcNamed "turnkey/turnkeytop.WholeGiven" = some 5 by kernel_rfl).symm.trans hf) |>.symm
  obtain rfl : fn = Tryz.f5 := (Option.some.inj (Tryz.func5.symm.trans hfn)).symm
  refine ⟨by kernel_rfl, fun j t ht => ?_⟩
  rw [Tryz.params5] at ht
  have hm := Array.mem_of_getElem? ht
  have hall : ∀ t, t ∈ #[(4 : TypeId), (44 : TypeId)] → Tryz.prog.wantsStandIn t = false := by
    intro t h
    simp only [List.mem_toArray, List.mem_cons, List.not_mem_nil, or_false] at h
    rcases h with rfl | rfl
    · exact (show Tryz.prog.wantsStandIn 4 = false by kernel_rfl)
    · exact (show Tryz.prog.wantsStandIn 44 = false by kernel_rfl)
  exact hall t hm
theorem card : Rows.WholeGivenCardSaid :=
  Claim7.holds_tied_plain_at .later [] _ _ _ _ said (fun _ h => by cases h) (by kernel_rfl) (fun _ h => by cases h) wholeGiven_row_tie rfl ⟨rfl, rfl⟩ (by kernel_rfl) rfl plain (by kernel_rfl)
end Go.Proofs.YtkfhelmjaoepiabGreatDoor.wholeGiven
