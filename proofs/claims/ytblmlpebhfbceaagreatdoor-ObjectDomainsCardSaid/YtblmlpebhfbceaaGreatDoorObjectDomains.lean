/- ObjectDomains returns true for every input, and the input reads as it did; the listed errors hold what the program text lays. -/
import Derived.Test.YtblmlpebhfbceaaGreatDoorOdK0
import Derived.Test.YtblmlpebhfbceaaGreatDoorOdK1
import Derived.Test.YtblmlpebhfbceaaGreatDoorOdK2
import Derived.Test.YtblmlpebhfbceaaGreatDoorOdK3
import Derived.Test.YtblmlpebhfbceaaGreatDoorOdK4
import Derived.Test.YtblmlpebhfbceaaGreatDoorOdK5
import Derived.Test.YtblmlpebhfbceaaGreatDoorOdK6
import Derived.Test.YtblmlpebhfbceaaGreatDoorOdK7
import Derived.Test.YtblmlpebhfbceaaGreatDoorOdK8
import Derived.Test.YtblmlpebhfbceaaGreatDoorOdK9
import Derived.Deep.DeepWitnessRowRef
import Derived.Lay
set_option linter.unusedVariables false
set_option linter.unusedSimpArgs false
set_option maxRecDepth 10000000
namespace Go.Proofs.YtblmlpebhfbceaaGreatDoor.objectDomains
open Tk
open Go.ChangeShapes Go.WideShapes Go.ChangeAt Go.RowKit

theorem lay_out : laidOutB Tryz.prog = true := by kernel_rfl
theorem own : ownKnob Tryz.prog.godebug = none := by kernel_rfl
def sg (n0 : Int) (n1 : Int) (n2_0 : Int) (n2_1 : Int) (n2_2 : Int) (n2_3 : Int) (n2_4 : Int) : Nat → Int := fun i => if i = 0 then n0 else if i = 1 then n1 else if i = 2 then n2_0 else if i = 3 then n2_1 else if i = 4 then n2_2 else if i = 5 then n2_3 else if i = 6 then n2_4 else 0
set_option maxHeartbeats 10000000 in
theorem walk (W : World) (n0 : Int) (hn0 : (Lit.int .u32 n0).wf = true) (n1 : Int) (hn1 : (Lit.int .u32 n1).wf = true) (n2_0 : Int) (hn2_0 : (Lit.int .i64 n2_0).wf = true) (n2_1 : Int) (hn2_1 : (Lit.int .i64 n2_1).wf = true) (n2_2 : Int) (hn2_2 : (Lit.int .i64 n2_2).wf = true) (n2_3 : Int) (hn2_3 : (Lit.int .i64 n2_3).wf = true) (n2_4 : Int) (hn2_4 : (Lit.int .u32 n2_4).wf = true) (hL : laidMetH Tryz.prog Rows.objectDomainsRow.laid W) : Calls Tryz.prog 5 #[.int .u32 n0, .int .u32 n1, .agg #[.int .i64 n2_0, .int .i64 n2_1, .int .i64 n2_2, .int .i64 n2_3, .int .u32 n2_4]] W fun e w' => e = .returned (.bool true) ∧ Below W.heap.size W w' := by
  simp only [Lit.wf, Bool.and_eq_true, decide_eq_true_eq] at hn0
  have lo0 : 0 ≤ n0 := hn0.1
  have hi0 : n0 ≤ 4294967295 := hn0.2
  simp only [Lit.wf, Bool.and_eq_true, decide_eq_true_eq] at hn1
  have lo1 : 0 ≤ n1 := hn1.1
  have hi1 : n1 ≤ 4294967295 := hn1.2
  simp only [Lit.wf, Bool.and_eq_true, decide_eq_true_eq] at hn2_0
  have lo2_0 : -9223372036854775808 ≤ n2_0 := hn2_0.1
  have hi2_0 : n2_0 ≤ 9223372036854775807 := hn2_0.2
  simp only [Lit.wf, Bool.and_eq_true, decide_eq_true_eq] at hn2_1
  have lo2_1 : -9223372036854775808 ≤ n2_1 := hn2_1.1
  have hi2_1 : n2_1 ≤ 9223372036854775807 := hn2_1.2
  simp only [Lit.wf, Bool.and_eq_true, decide_eq_true_eq] at hn2_2
  have lo2_2 : -9223372036854775808 ≤ n2_2 := hn2_2.1
  have hi2_2 : n2_2 ≤ 9223372036854775807 := hn2_2.2
  simp only [Lit.wf, Bool.and_eq_true, decide_eq_true_eq] at hn2_3
  have lo2_3 : -9223372036854775808 ≤ n2_3 := hn2_3.1
  have hi2_3 : n2_3 ≤ 9223372036854775807 := hn2_3.2
  simp only [Lit.wf, Bool.and_eq_true, decide_eq_true_eq] at hn2_4
  have lo2_4 : 0 ≤ n2_4 := hn2_4.1
  have hi2_4 : n2_4 ≤ 4294967295 := hn2_4.2
  obtain ⟨ads, s1, s2, s3⟩ := errs_sents hL
  obtain ⟨R, g⟩ := start_rel (σ := (sg n0 n1 n2_0 n2_1 n2_2 n2_3 n2_4)) s1 s2 s3 errs_all errs_lt
  refine case0 hL ⟨?_, ?_⟩ TabOk.nil R g (VRs.cons (by simp [VR, E.den, sg]) (VRs.cons (by simp [VR, E.den, sg]) (VRs.cons (by unfold VR; exact ⟨_, rfl, VRs.cons (by simp [VR, E.den, sg]) (VRs.cons (by simp [VR, E.den, sg]) (VRs.cons (by simp [VR, E.den, sg]) (VRs.cons (by simp [VR, E.den, sg]) (VRs.cons (by simp [VR, E.den, sg]) (VRs.nil)))))⟩) (VRs.nil))))
  · intro i lo hi hr
    rcases i with _ | i
    · simp at hr
      obtain ⟨rfl, rfl⟩ := hr
      exact ⟨by show 0 ≤ n0; omega, by show n0 ≤ 4294967295; omega⟩
    rcases i with _ | i
    · simp at hr
      obtain ⟨rfl, rfl⟩ := hr
      exact ⟨by show 0 ≤ n1; omega, by show n1 ≤ 4294967295; omega⟩
    rcases i with _ | i
    · simp at hr
      obtain ⟨rfl, rfl⟩ := hr
      exact ⟨by show -9223372036854775808 ≤ n2_0; omega, by show n2_0 ≤ 9223372036854775807; omega⟩
    rcases i with _ | i
    · simp at hr
      obtain ⟨rfl, rfl⟩ := hr
      exact ⟨by show -9223372036854775808 ≤ n2_1; omega, by show n2_1 ≤ 9223372036854775807; omega⟩
    rcases i with _ | i
    · simp at hr
      obtain ⟨rfl, rfl⟩ := hr
      exact ⟨by show -9223372036854775808 ≤ n2_2; omega, by show n2_2 ≤ 9223372036854775807; omega⟩
    rcases i with _ | i
    · simp at hr
      obtain ⟨rfl, rfl⟩ := hr
      exact ⟨by show -9223372036854775808 ≤ n2_3; omega, by show n2_3 ≤ 9223372036854775807; omega⟩
    rcases i with _ | i
    · simp at hr
      obtain ⟨rfl, rfl⟩ := hr
      exact ⟨by show 0 ≤ n2_4; omega, by show n2_4 ≤ 4294967295; omega⟩
    simp at hr
  · intro q a b t hm
    simp at hm
set_option maxHeartbeats 4000000 in
theorem contract (H : Type) (enc : TypeId × Value → H) (W : World) (base : Nat) (args : Array Value) (ds gs : List (DataW H)) (before : List MemPlace)
    (hval : ∀ (j : Nat) t v, Tryz.f5.params[j]? = some t → args[j]? = some v → Value.okWide Tryz.prog W .any base t v)
    (hW : DataW.Whole enc Tryz.prog Tryz.f5.params.toList Rows.objectDomainsSpec.vars false W args.toList ds gs before) (hL : laidMetH Tryz.prog Rows.objectDomainsRow.laid W) :
    Calls Tryz.prog 5 args W fun e W' => ∃ v, e = .returned v ∧ Rows.objectDomainsSpec.post enc Tryz.prog Tryz.f5 false true false false W args v W' := by
  have hW' := hW
  obtain ⟨p, q, hA0, hV, rfl, hfz, hnd⟩ := hW
  have hA : DataW.TrodAll enc Tryz.prog W 0 (fun _ => true) true Tryz.f5.params.toList args.toList ds p := hA0
  rw [Tryz.params5] at hA hval
  obtain ⟨v0, vs0, d0, ds0, p0, q0, hargs, rfl, rfl, h0, r0⟩ := trodAll_cons hA
  obtain ⟨v1, vs1, d1, ds1, p1, q1, rfl, rfl, rfl, h1, r1⟩ := trodAll_cons r0
  obtain ⟨v2, vs2, d2, ds2, p2, q2, rfl, rfl, rfl, h2, r2⟩ := trodAll_cons r1
  obtain ⟨rfl, rfl, rfl⟩ := trodAll_nil r2
  obtain rfl : args = #[v0, v1, v2] := by cases args; simp_all
  obtain ⟨rfl, rfl⟩ := trodVars_none hV
  have k0 := h0
  have k1 := h1
  have k2 := h2
  obtain ⟨n0, rfl, rfl, rfl, hn0⟩ := open_int Tryz.underlying22 (hval 0 22 v0 rfl rfl) h0
  obtain ⟨n1, rfl, rfl, rfl, hn1⟩ := open_int Tryz.underlying22 (hval 1 22 v1 rfl rfl) h1
  obtain ⟨n2_0, n2_1, n2_2, n2_3, n2_4, rfl, hn2_0, hn2_1, hn2_2, hn2_3, hn2_4⟩ := open_key Tryz.underlying43 (show Tryz.prog.cellsOf 43 = 5 by kernel_rfl) ⟨rfl, rfl, rfl, rfl, rfl⟩ ⟨rfl, rfl, rfl⟩ Tryz.underlying3 Tryz.underlying22 (show Tryz.prog.cellsOf 3 = 1 by kernel_rfl) (show Tryz.prog.cellsOf 22 = 1 by kernel_rfl) (hval 2 43 v2 rfl rfl) h2
  clear hA0
  refine (walk W n0 hn0 n1 hn1 n2_0 hn2_0 n2_1 hn2_1 n2_2 hn2_2 n2_3 hn2_3 n2_4 hn2_4 hL).mono fun e W' hh => ?_
  obtain ⟨he, hg⟩ := hh
  subst he
  have hlt := hW'.lt
  exact ⟨_, rfl, _, _, _, [], _, [], hW', trodAll_cons_mk (shut_bool Tryz.underlying4 _) trodAll_mk0, trodAll_cons_mk (shut_int Tryz.underlying22 hn0) (trodAll_cons_mk (shut_int Tryz.underlying22 hn1) (trodAll_cons_mk (Below.trod lay_out (by kernel_rfl) (of_decide_eq_true (by kernel_rfl)) k2 hg (fun x hx => (by have := hlt x (by simp [hx]); simpa using this))) trodAll_mk0)), rfl, hg.frame _, fun h => Bool.noConfusion h⟩
theorem laid_met (os : Os) : laidMetH Tryz.prog Rows.objectDomainsRow.laid ((World.laidAll Tryz.prog os Rows.objectDomainsRow.laid).forCall (fun _ _ => 0) ⟨#[], #[.int .u32 0, .int .u32 0, .agg #[.int .i64 0, .int .i64 0, .int .i64 0, .int .i64 0, .int .u32 0]], []⟩).memory := by
  rw [MakeChecks.laidMetH_plain _ _ _ (by kernel_rfl)]
  exact laidMet_laidAll _ (by kernel_rfl) (by kernel_rfl)
theorem reads (os : Os) {H : Type} (enc : TypeId × Value → H) : ∃ places, DataW.whole enc Tryz.prog ((World.laidAll Tryz.prog os Rows.objectDomainsRow.laid).forCall (fun _ _ => 0) ⟨#[], #[.int .u32 0, .int .u32 0, .agg #[.int .i64 0, .int .i64 0, .int .i64 0, .int .i64 0, .int .u32 0]], []⟩).memory Tryz.f5.params.toList Rows.objectDomainsSpec.vars false #[Value.int .u32 0, .int .u32 0, .agg #[.int .i64 0, .int .i64 0, .int .i64 0, .int .i64 0, .int .u32 0]].toList 8 = some ([.lit (.int .u32 0), .lit (.int .u32 0), .agg [.lit (.int .i64 0), .lit (.int .i64 0), .lit (.int .i64 0), .lit (.int .i64 0), .lit (.int .u32 0)]], [], places) :=
  ⟨[], by kernel_rfl⟩
theorem lifted (os : Os) (started : os.Started) (H : Type) (enc : TypeId × Value → H) (F : Stop.Interp) :
    ReturnsInHanded {} Tryz.checked os 5 .any ((OpenSpec.ofChange Rows.objectDomainsSpec).preRow enc Tryz.prog Tryz.f5 Rows.objectDomainsRow.domain false Rows.objectDomainsRow.laid) (((OpenSpec.ofChange Rows.objectDomainsSpec).at F).post enc Tryz.prog Tryz.f5 false true false false) := by
  obtain ⟨places, hx⟩ := reads os enc
  refine returnsInHanded_of_row (C := Tryz.checked) (s := OpenSpec.ofChange Rows.objectDomainsSpec) own started (by kernel_rfl) Tryz.func5
    (witness_row_atRef (enc := enc) (C := Tryz.checked) false (World.laidAll Tryz.prog os Rows.objectDomainsRow.laid) #[.int .u32 0, .int .u32 0, .agg #[.int .i64 0, .int .i64 0, .int .i64 0, .int .i64 0, .int .u32 0]] (World.laidAll_os _ _ _) (by kernel_rfl) (by kernel_rfl) (by kernel_rfl)
      (OpenSpec.preRow_of_cond 8 hx (by kernel_rfl) (fun k hk => by cases hk) (by kernel_rfl) (laid_met os))) ?_
  intro W base args ds gs before hval hW _ _ _ hL _ _
  exact contract H enc W base args ds gs before hval hW hL
set_option maxHeartbeats 4000000 in
theorem joined : joinedFacts Tryz.pinned.checked.prog 5 Tryz.f5 (OpenSpec.ofChange Rows.objectDomainsSpec).bare Rows.objectDomainsRow = true := by
  unfold joinedFacts
  simp only [Bool.and_eq_true]
  repeat' apply And.intro
  all_goals (as_aux_lemma => kernel_rfl)
theorem said : Rows.ObjectDomainsSaid :=
  OpenClaim.holds_of_cond 5 Tryz.f5 rfl rfl rfl rfl rfl rfl rfl ⟨rfl, rfl, rfl, rfl, rfl⟩ rfl rfl rfl rfl rfl (by kernel_rfl) Tryz.func5 joined
    (of_decide_eq_true (by kernel_rfl)) (by unfold Func.isWrapper; first | (rw [if_pos (by decide +kernel)]; kernel_rfl) | (rw [if_neg (by decide +kernel)]; exact ⟨rfl, rfl⟩))
    (fun os started H enc _ F => by rw [OpenClaim.pre_eq_preRow]; exact lifted os started H enc F)
theorem plain (f : FuncId) (fn : Func) (hf : Tryz.pinned.checked.prog.funcNamed "turnkey/turnkeylaw22.ObjectDomains" = some f) (hfn : Tryz.pinned.checked.prog.funcs[f]? = some fn) :
    true = Tryz.pinned.checked.prog.looks [] ∧ ∀ (j : Nat) t, fn.params[j]? = some t → Tryz.pinned.checked.prog.wantsStandIn t = false := by
  obtain rfl : f = 5 := Option.some.inj ((show Tryz.prog.funcNamed "turnkey/turnkeylaw22.ObjectDomains" = some 5 by kernel_rfl).symm.trans hf) |>.symm
  obtain rfl : fn = Tryz.f5 := (Option.some.inj (Tryz.func5.symm.trans hfn)).symm
  refine ⟨by kernel_rfl, fun j t ht => ?_⟩
  rw [Tryz.params5] at ht
  have hm := Array.mem_of_getElem? ht
  have hall : ∀ t, t ∈ #[(22 : TypeId), (22 : TypeId), (43 : TypeId)] → Tryz.prog.wantsStandIn t = false := by
    intro t h
    simp only [List.mem_toArray, List.mem_cons, List.not_mem_nil, or_false] at h
    rcases h with rfl | rfl | rfl
    · exact (show Tryz.prog.wantsStandIn 22 = false by kernel_rfl)
    · exact (show Tryz.prog.wantsStandIn 22 = false by kernel_rfl)
    · exact (show Tryz.prog.wantsStandIn 43 = false by kernel_rfl)
  exact hall t hm
theorem card : Rows.ObjectDomainsCardSaid :=
  Claim7.holds_tied_plain_at .later [] _ _ _ _ said (fun _ h => by cases h) (by as_aux_lemma => kernel_rfl) (fun _ h => by cases h) objectDomains_row_tie rfl ⟨rfl, rfl⟩ (by as_aux_lemma => kernel_rfl) rfl plain (by as_aux_lemma => kernel_rfl)
end Go.Proofs.YtblmlpebhfbceaaGreatDoor.objectDomains
