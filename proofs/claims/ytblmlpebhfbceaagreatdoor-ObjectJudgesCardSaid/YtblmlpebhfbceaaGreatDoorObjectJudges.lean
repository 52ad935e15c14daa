/- ObjectJudges returns true for every input, and the input reads as it did; the listed errors hold what the program text lays. -/
import Derived.Test.YtblmlpebhfbceaaGreatDoorOjK0
import Derived.Test.YtblmlpebhfbceaaGreatDoorOjK1
import Derived.Test.YtblmlpebhfbceaaGreatDoorOjK2
import Derived.Test.YtblmlpebhfbceaaGreatDoorOjK3
import Derived.Test.YtblmlpebhfbceaaGreatDoorOjK4
import Derived.Test.YtblmlpebhfbceaaGreatDoorOjK5
import Derived.Test.YtblmlpebhfbceaaGreatDoorOjK6
import Derived.Test.YtblmlpebhfbceaaGreatDoorOjK7
import Derived.Deep.DeepWitnessRowRef
import Derived.Lay
set_option linter.unusedVariables false
set_option linter.unusedSimpArgs false
set_option maxRecDepth 10000000
namespace Go.Proofs.YtblmlpebhfbceaaGreatDoor.objectJudges
open Tk
open Go.ChangeShapes Go.WideShapes Go.ChangeAt Go.RowKit

theorem lay_out : laidOutB Tryz.prog = true := by kernel_rfl
theorem own : ownKnob Tryz.prog.godebug = none := by kernel_rfl
def sg (n0_0 : Int) (n0_1 : Int) (n0_2 : Int) (n0_3 : Int) (n0_4 : Int) (n1_0 : Int) (n1_1 : Int) (n1_2 : Int) (n1_3 : Int) (n1_4 : Int) : Nat → Int := fun i => if i = 0 then n0_0 else if i = 1 then n0_1 else if i = 2 then n0_2 else if i = 3 then n0_3 else if i = 4 then n0_4 else if i = 5 then n1_0 else if i = 6 then n1_1 else if i = 7 then n1_2 else if i = 8 then n1_3 else if i = 9 then n1_4 else 0
set_option maxHeartbeats 10000000 in
theorem walk (W : World) (n0_0 : Int) (hn0_0 : (Lit.int .i64 n0_0).wf = true) (n0_1 : Int) (hn0_1 : (Lit.int .i64 n0_1).wf = true) (n0_2 : Int) (hn0_2 : (Lit.int .i64 n0_2).wf = true) (n0_3 : Int) (hn0_3 : (Lit.int .i64 n0_3).wf = true) (n0_4 : Int) (hn0_4 : (Lit.int .u32 n0_4).wf = true) (n1_0 : Int) (hn1_0 : (Lit.int .i64 n1_0).wf = true) (n1_1 : Int) (hn1_1 : (Lit.int .i64 n1_1).wf = true) (n1_2 : Int) (hn1_2 : (Lit.int .i64 n1_2).wf = true) (n1_3 : Int) (hn1_3 : (Lit.int .i64 n1_3).wf = true) (n1_4 : Int) (hn1_4 : (Lit.int .u32 n1_4).wf = true) (hL : laidMetH Tryz.prog Rows.objectJudgesRow.laid W) : Calls Tryz.prog 4 #[.agg #[.int .i64 n0_0, .int .i64 n0_1, .int .i64 n0_2, .int .i64 n0_3, .int .u32 n0_4], .agg #[.int .i64 n1_0, .int .i64 n1_1, .int .i64 n1_2, .int .i64 n1_3, .int .u32 n1_4]] W fun e w' => e = .returned (.bool true) ∧ Below W.heap.size W w' := by
  simp only [Lit.wf, Bool.and_eq_true, decide_eq_true_eq] at hn0_0
  have lo0_0 : -9223372036854775808 ≤ n0_0 := hn0_0.1
  have hi0_0 : n0_0 ≤ 9223372036854775807 := hn0_0.2
  simp only [Lit.wf, Bool.and_eq_true, decide_eq_true_eq] at hn0_1
  have lo0_1 : -9223372036854775808 ≤ n0_1 := hn0_1.1
  have hi0_1 : n0_1 ≤ 9223372036854775807 := hn0_1.2
  simp only [Lit.wf, Bool.and_eq_true, decide_eq_true_eq] at hn0_2
  have lo0_2 : -9223372036854775808 ≤ n0_2 := hn0_2.1
  have hi0_2 : n0_2 ≤ 9223372036854775807 := hn0_2.2
  simp only [Lit.wf, Bool.and_eq_true, decide_eq_true_eq] at hn0_3
  have lo0_3 : -9223372036854775808 ≤ n0_3 := hn0_3.1
  have hi0_3 : n0_3 ≤ 9223372036854775807 := hn0_3.2
  simp only [Lit.wf, Bool.and_eq_true, decide_eq_true_eq] at hn0_4
  have lo0_4 : 0 ≤ n0_4 := hn0_4.1
  have hi0_4 : n0_4 ≤ 4294967295 := hn0_4.2
  simp only [Lit.wf, Bool.and_eq_true, decide_eq_true_eq] at hn1_0
  have lo1_0 : -9223372036854775808 ≤ n1_0 := hn1_0.1
  have hi1_0 : n1_0 ≤ 9223372036854775807 := hn1_0.2
  simp only [Lit.wf, Bool.and_eq_true, decide_eq_true_eq] at hn1_1
  have lo1_1 : -9223372036854775808 ≤ n1_1 := hn1_1.1
  have hi1_1 : n1_1 ≤ 9223372036854775807 := hn1_1.2
  simp only [Lit.wf, Bool.and_eq_true, decide_eq_true_eq] at hn1_2
  have lo1_2 : -9223372036854775808 ≤ n1_2 := hn1_2.1
  have hi1_2 : n1_2 ≤ 9223372036854775807 := hn1_2.2
  simp only [Lit.wf, Bool.and_eq_true, decide_eq_true_eq] at hn1_3
  have lo1_3 : -9223372036854775808 ≤ n1_3 := hn1_3.1
  have hi1_3 : n1_3 ≤ 9223372036854775807 := hn1_3.2
  simp only [Lit.wf, Bool.and_eq_true, decide_eq_true_eq] at hn1_4
  have lo1_4 : 0 ≤ n1_4 := hn1_4.1
  have hi1_4 : n1_4 ≤ 4294967295 := hn1_4.2
  obtain ⟨ads, s1, s2, s3⟩ := errs_sents hL
  obtain ⟨R, g⟩ := start_rel (σ := (sg n0_0 n0_1 n0_2 n0_3 n0_4 n1_0 n1_1 n1_2 n1_3 n1_4)) s1 s2 s3 errs_all errs_lt
  refine case0 hL ⟨?_, ?_⟩ TabOk.nil R g (VRs.cons (by unfold VR; exact ⟨_, rfl, VRs.cons (by simp [VR, E.den, sg]) (VRs.cons (by simp [VR, E.den, sg]) (VRs.cons (by simp [VR, E.den, sg]) (VRs.cons (by simp [VR, E.den, sg]) (VRs.cons (by simp [VR, E.den, sg]) (VRs.nil)))))⟩) (VRs.cons (by unfold VR; exact ⟨_, rfl, VRs.cons (by simp [VR, E.den, sg]) (VRs.cons (by simp [VR, E.den, sg]) (VRs.cons (by simp [VR, E.den, sg]) (VRs.cons (by simp [VR, E.den, sg]) (VRs.cons (by simp [VR, E.den, sg]) (VRs.nil)))))⟩) (VRs.nil)))
  · intro i lo hi hr
    rcases i with _ | i
    · simp at hr
      obtain ⟨rfl, rfl⟩ := hr
      exact ⟨by show -9223372036854775808 ≤ n0_0; omega, by show n0_0 ≤ 9223372036854775807; omega⟩
    rcases i with _ | i
    · simp at hr
      obtain ⟨rfl, rfl⟩ := hr
      exact ⟨by show -9223372036854775808 ≤ n0_1; omega, by show n0_1 ≤ 9223372036854775807; omega⟩
    rcases i with _ | i
    · simp at hr
      obtain ⟨rfl, rfl⟩ := hr
      exact ⟨by show -9223372036854775808 ≤ n0_2; omega, by show n0_2 ≤ 9223372036854775807; omega⟩
    rcases i with _ | i
    · simp at hr
      obtain ⟨rfl, rfl⟩ := hr
      exact ⟨by show -9223372036854775808 ≤ n0_3; omega, by show n0_3 ≤ 9223372036854775807; omega⟩
    rcases i with _ | i
    · simp at hr
      obtain ⟨rfl, rfl⟩ := hr
      exact ⟨by show 0 ≤ n0_4; omega, by show n0_4 ≤ 4294967295; omega⟩
    rcases i with _ | i
    · simp at hr
      obtain ⟨rfl, rfl⟩ := hr
      exact ⟨by show -9223372036854775808 ≤ n1_0; omega, by show n1_0 ≤ 9223372036854775807; omega⟩
    rcases i with _ | i
    · simp at hr
      obtain ⟨rfl, rfl⟩ := hr
      exact ⟨by show -9223372036854775808 ≤ n1_1; omega, by show n1_1 ≤ 9223372036854775807; omega⟩
    rcases i with _ | i
    · simp at hr
      obtain ⟨rfl, rfl⟩ := hr
      exact ⟨by show -9223372036854775808 ≤ n1_2; omega, by show n1_2 ≤ 9223372036854775807; omega⟩
    rcases i with _ | i
    · simp at hr
      obtain ⟨rfl, rfl⟩ := hr
      exact ⟨by show -9223372036854775808 ≤ n1_3; omega, by show n1_3 ≤ 9223372036854775807; omega⟩
    rcases i with _ | i
    · simp at hr
      obtain ⟨rfl, rfl⟩ := hr
      exact ⟨by show 0 ≤ n1_4; omega, by show n1_4 ≤ 4294967295; omega⟩
    simp at hr
  · intro q a b t hm
    simp at hm
set_option maxHeartbeats 4000000 in
theorem contract (H : Type) (enc : TypeId × Value → H) (W : World) (base : Nat) (args : Array Value) (ds gs : List (DataW H)) (before : List MemPlace)
    (hval : ∀ (j : Nat) t v, Tryz.f4.params[j]? = some t → args[j]? = some v → Value.okWide Tryz.prog W .any base t v)
    (hW : DataW.Whole enc Tryz.prog Tryz.f4.params.toList Rows.objectJudgesSpec.vars false W args.toList ds gs before) (hL : laidMetH Tryz.prog Rows.objectJudgesRow.laid W) :
    Calls Tryz.prog 4 args W fun e W' => ∃ v, e = .returned v ∧ Rows.objectJudgesSpec.post enc Tryz.prog Tryz.f4 false true false false W args v W' := by
  have hW' := hW
  obtain ⟨p, q, hA0, hV, rfl, hfz, hnd⟩ := hW
  have hA : DataW.TrodAll enc Tryz.prog W 0 (fun _ => true) true Tryz.f4.params.toList args.toList ds p := hA0
  rw [Tryz.params4] at hA hval
  obtain ⟨v0, vs0, d0, ds0, p0, q0, hargs, rfl, rfl, h0, r0⟩ := trodAll_cons hA
  obtain ⟨v1, vs1, d1, ds1, p1, q1, rfl, rfl, rfl, h1, r1⟩ := trodAll_cons r0
  obtain ⟨rfl, rfl, rfl⟩ := trodAll_nil r1
  obtain rfl : args = #[v0, v1] := by cases args; simp_all
  obtain ⟨rfl, rfl⟩ := trodVars_none hV
  have k0 := h0
  have k1 := h1
  obtain ⟨n0_0, n0_1, n0_2, n0_3, n0_4, rfl, hn0_0, hn0_1, hn0_2, hn0_3, hn0_4⟩ := open_key Tryz.underlying43 (show Tryz.prog.cellsOf 43 = 5 by kernel_rfl) ⟨rfl, rfl, rfl, rfl, rfl⟩ ⟨rfl, rfl, rfl⟩ Tryz.underlying3 Tryz.underlying22 (show Tryz.prog.cellsOf 3 = 1 by kernel_rfl) (show Tryz.prog.cellsOf 22 = 1 by kernel_rfl) (hval 0 43 v0 rfl rfl) h0
  obtain ⟨n1_0, n1_1, n1_2, n1_3, n1_4, rfl, hn1_0, hn1_1, hn1_2, hn1_3, hn1_4⟩ := open_key Tryz.underlying43 (show Tryz.prog.cellsOf 43 = 5 by kernel_rfl) ⟨rfl, rfl, rfl, rfl, rfl⟩ ⟨rfl, rfl, rfl⟩ Tryz.underlying3 Tryz.underlying22 (show Tryz.prog.cellsOf 3 = 1 by kernel_rfl) (show Tryz.prog.cellsOf 22 = 1 by kernel_rfl) (hval 1 43 v1 rfl rfl) h1
  clear hA0
  refine (walk W n0_0 hn0_0 n0_1 hn0_1 n0_2 hn0_2 n0_3 hn0_3 n0_4 hn0_4 n1_0 hn1_0 n1_1 hn1_1 n1_2 hn1_2 n1_3 hn1_3 n1_4 hn1_4 hL).mono fun e W' hh => ?_
  obtain ⟨he, hg⟩ := hh
  subst he
  have hlt := hW'.lt
  exact ⟨_, rfl, _, _, _, [], _, [], hW', trodAll_cons_mk (shut_bool Tryz.underlying4 _) trodAll_mk0, trodAll_cons_mk (Below.trod lay_out (by kernel_rfl) (of_decide_eq_true (by kernel_rfl)) k0 hg (fun x hx => (by have := hlt x (by simp [hx]); simpa using this))) (trodAll_cons_mk (Below.trod lay_out (by kernel_rfl) (of_decide_eq_true (by kernel_rfl)) k1 hg (fun x hx => (by have := hlt x (by simp [hx]); simpa using this))) trodAll_mk0), rfl, hg.frame _, fun h => Bool.noConfusion h⟩
theorem laid_met (os : Os) : laidMetH Tryz.prog Rows.objectJudgesRow.laid ((World.laidAll Tryz.prog os Rows.objectJudgesRow.laid).forCall (fun _ _ => 0) ⟨#[], #[.agg #[.int .i64 0, .int .i64 0, .int .i64 0, .int .i64 0, .int .u32 0], .agg #[.int .i64 0, .int .i64 0, .int .i64 0, .int .i64 0, .int .u32 0]], []⟩).memory := by
  rw [MakeChecks.laidMetH_plain _ _ _ (by kernel_rfl)]
  exact laidMet_laidAll _ (by kernel_rfl) (by kernel_rfl)
theorem reads (os : Os) {H : Type} (enc : TypeId × Value → H) : ∃ places, DataW.whole enc Tryz.prog ((World.laidAll Tryz.prog os Rows.objectJudgesRow.laid).forCall (fun _ _ => 0) ⟨#[], #[.agg #[.int .i64 0, .int .i64 0, .int .i64 0, .int .i64 0, .int .u32 0], .agg #[.int .i64 0, .int .i64 0, .int .i64 0, .int .i64 0, .int .u32 0]], []⟩).memory Tryz.f4.params.toList Rows.objectJudgesSpec.vars false #[Value.agg #[.int .i64 0, .int .i64 0, .int .i64 0, .int .i64 0, .int .u32 0], .agg #[.int .i64 0, .int .i64 0, .int .i64 0, .int .i64 0, .int .u32 0]].toList 8 = some ([.agg [.lit (.int .i64 0), .lit (.int .i64 0), .lit (.int .i64 0), .lit (.int .i64 0), .lit (.int .u32 0)], .agg [.lit (.int .i64 0), .lit (.int .i64 0), .lit (.int .i64 0), .lit (.int .i64 0), .lit (.int .u32 0)]], [], places) :=
  ⟨[], by kernel_rfl⟩
theorem lifted (os : Os) (started : os.Started) (H : Type) (enc : TypeId × Value → H) (F : Stop.Interp) :
    ReturnsInHanded {} Tryz.checked os 4 .any ((OpenSpec.ofChange Rows.objectJudgesSpec).preRow enc Tryz.prog Tryz.f4 Rows.objectJudgesRow.domain false Rows.objectJudgesRow.laid) (((OpenSpec.ofChange Rows.objectJudgesSpec).at F).post enc Tryz.prog Tryz.f4 false true false false) := by
  obtain ⟨places, hx⟩ := reads os enc
  refine returnsInHanded_of_row (C := Tryz.checked) (s := OpenSpec.ofChange Rows.objectJudgesSpec) own started (by kernel_rfl) Tryz.func4
    (witness_row_atRef (enc := enc) (C := Tryz.checked) false (World.laidAll Tryz.prog os Rows.objectJudgesRow.laid) #[.agg #[.int .i64 0, .int .i64 0, .int .i64 0, .int .i64 0, .int .u32 0], .agg #[.int .i64 0, .int .i64 0, .int .i64 0, .int .i64 0, .int .u32 0]] (World.laidAll_os _ _ _) (by kernel_rfl) (by kernel_rfl) (by kernel_rfl)
      (OpenSpec.preRow_of_cond 8 hx (by kernel_rfl) (fun k hk => by cases hk) (by kernel_rfl) (laid_met os))) ?_
  intro W base args ds gs before hval hW _ _ _ hL _ _
  exact contract H enc W base args ds gs before hval hW hL
set_option maxHeartbeats 4000000 in
theorem joined : joinedFacts Tryz.pinned.checked.prog 4 Tryz.f4 (OpenSpec.ofChange Rows.objectJudgesSpec).bare Rows.objectJudgesRow = true := by
  unfold joinedFacts
  simp only [Bool.and_eq_true]
  repeat' apply And.intro
  all_goals (as_aux_lemma => kernel_rfl)
theorem said : Rows.ObjectJudgesSaid :=
  OpenClaim.holds_of_cond 4 Tryz.f4 rfl rfl rfl rfl rfl rfl rfl ⟨rfl, rfl, rfl, rfl, rfl⟩ rfl rfl rfl rfl rfl (by kernel_rfl) Tryz.func4 joined
    (of_decide_eq_true (by kernel_rfl)) (by unfold Func.isWrapper; first | (rw [if_pos (by decide +kernel)]; kernel_rfl) | (rw [if_neg (by decide +kernel)]; exact ⟨rfl, rfl⟩))
    (fun os started H enc _ F => by rw [OpenClaim.pre_eq_preRow]; exact lifted os started H enc F)
theorem plain (f : FuncId) (fn : Func) (hf : Tryz.pinned.checked.prog.funcNamed "turnkey/turnkeylaw22.ObjectJudges" = some f) (hfn : Tryz.pinned.checked.prog.funcs[f]? = some fn) :
    true = Tryz.pinned.checked.prog.looks [] ∧ ∀ (j : Nat) t, fn.params[j]? = some t → Tryz.pinned.checked.prog.wantsStandIn t = false := by
  obtain rfl : f = 4 := Option.some.inj ((show Tryz.prog.funcNamed "turnkey/turnkeylaw22.ObjectJudges" = some 4 by kernel_rfl).symm.trans hf) |>.symm
  obtain rfl : fn = Tryz.f4 := (Option.some.inj (Tryz.func4.symm.trans hfn)).symm
  refine ⟨by kernel_rfl, fun j t ht => ?_⟩
  rw [Tryz.params4] at ht
  have hm := Array.mem_of_getElem? ht
  have hall : ∀ t, t ∈ #[(43 : TypeId), (43 : TypeId)] → Tryz.prog.wantsStandIn t = false := by
    intro t h
    simp only [List.mem_toArray, List.mem_cons, List.not_mem_nil, or_false] at h
    rcases h with rfl | rfl
    · exact (show Tryz.prog.wantsStandIn 43 = false by kernel_rfl)
    · exact (show Tryz.prog.wantsStandIn 43 = false by kernel_rfl)
  exact hall t hm
theorem card : Rows.ObjectJudgesCardSaid :=
  Claim7.holds_tied_plain_at .later [] _ _ _ _ said (fun _ h => by cases h) (by as_aux_lemma => kernel_rfl) (fun _ h => by cases h) objectJudges_row_tie rfl ⟨rfl, rfl⟩ (by as_aux_lemma => kernel_rfl) rfl plain (by as_aux_lemma => kernel_rfl)
end Go.Proofs.YtblmlpebhfbceaaGreatDoor.objectJudges
