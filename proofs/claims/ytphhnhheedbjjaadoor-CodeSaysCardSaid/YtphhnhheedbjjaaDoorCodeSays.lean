/- CodeSays returns true for every input, and the input reads as it did; the listed errors hold what the program text lays. -/
import Derived.Test.YtphhnhheedbjjaaDoorCsC
import Derived.Deep.DeepWitnessRowRef
import Derived.Lay
set_option linter.unusedVariables false
set_option linter.unusedSimpArgs false
set_option maxRecDepth 10000000
namespace Go.Proofs.YtphhnhheedbjjaaDoor.codeSays
open Tk
open Go.ChangeShapes Go.WideShapes Go.ChangeAt Go.RowKit

theorem lay_out : laidOutB Tryd.prog = true := by kernel_rfl
theorem own : ownKnob Tryd.prog.godebug = none := by kernel_rfl
def sg (n0_0 : Int) (n0_1 : Int) (n0_2 : Int) (n0_3 : Int) (n0_4 : Int) (n1 : Int) : Nat → Int := fun i => if i = 0 then n0_0 else if i = 1 then n0_1 else if i = 2 then n0_2 else if i = 3 then n0_3 else if i = 4 then n0_4 else if i = 5 then n1 else 0
set_option maxHeartbeats 10000000 in
theorem walk (W : World) (n0_0 : Int) (hn0_0 : (Lit.int .i64 n0_0).wf = true) (n0_1 : Int) (hn0_1 : (Lit.int .i64 n0_1).wf = true) (n0_2 : Int) (hn0_2 : (Lit.int .i64 n0_2).wf = true) (n0_3 : Int) (hn0_3 : (Lit.int .i64 n0_3).wf = true) (n0_4 : Int) (hn0_4 : (Lit.int .i64 n0_4).wf = true) (n1 : Int) (hn1 : (Lit.int .u32 n1).wf = true) (hL : laidMetH Tryd.prog Rows.codeSaysRow.laid W) : Calls Tryd.prog 3 #[.agg #[.int .i64 n0_0, .int .i64 n0_1, .int .i64 n0_2, .int .i64 n0_3, .int .i64 n0_4], .int .u32 n1] W fun e w' => e = .returned (.bool true) ∧ Below W.heap.size W w' := by
  simp only [Lit.wf, Bool.and_eq_true, decide_eq_true_eq] at hn0_0
  have lo0_0 : -9223372036854775808 ≤ n0_0 := hn0_0.1
  have hi0_0 : n0_0 ≤ 9223372036854775807 := hn0_0.2
  simp only [Lit.wf, Bool.and_eq_true, decide_eq_true_eq] at hn0_1
  have lo0_1 : -9223372036854775808 ≤ n0_1 := hn0_1.1
  have hi0_1 : n0_1 ≤ 9223372036854775807 := hn0_1.2
  simp only [Lit.wf, Bool.and_eq_true, decide_eq_true_eq] at hn0_2
  have lo0_2 : -9223372036854775808 ≤ n0_2 := hn0_2.1
  have hi0_2 : n0_2 ≤ 9223372036854775807 := hn0_2.2
  simp only [Lit.wf, Bool.and_eq_true, decide_eq_true_eq] at hn0_3
  have lo0_3 : -9223372036854775808 ≤ n0_3 := hn0_3.1
  have hi0_3 : n0_3 ≤ 9223372036854775807 := hn0_3.2
  simp only [Lit.wf, Bool.and_eq_true, decide_eq_true_eq] at hn0_4
  have lo0_4 : -9223372036854775808 ≤ n0_4 := hn0_4.1
  have hi0_4 : n0_4 ≤ 9223372036854775807 := hn0_4.2
  simp only [Lit.wf, Bool.and_eq_true, decide_eq_true_eq] at hn1
  have lo1 : 0 ≤ n1 := hn1.1
  have hi1 : n1 ≤ 4294967295 := hn1.2
  obtain ⟨ads, s1, s2, s3⟩ := errs_sents hL
  obtain ⟨t, g0, g1, g2, g3, g4, hgh⟩ := ghosts n1 ⟨lo1, hi1⟩
  have hg : Gh t (sc n0_0 n0_1 n0_2 n0_3 n0_4 n1 g0 g1 g2 g3 g4) W := hgh _ W rfl rfl rfl rfl rfl rfl (kc ⟨lo0_0, hi0_0⟩ ⟨lo0_1, hi0_1⟩ ⟨lo0_2, hi0_2⟩ ⟨lo0_3, hi0_3⟩ ⟨lo0_4, hi0_4⟩ ⟨lo1, hi1⟩)
  rcases (by omega : ((-9223372036854775808) ≤ n0_0 ∧ n0_0 ≤ 0) ∨ (1 ≤ n0_0 ∧ n0_0 ≤ 1) ∨ (2 ≤ n0_0 ∧ n0_0 ≤ 2) ∨ (3 ≤ n0_0 ∧ n0_0 ≤ 3) ∨ (4 ≤ n0_0 ∧ n0_0 ≤ 4) ∨ (5 ≤ n0_0 ∧ n0_0 ≤ 5) ∨ (6 ≤ n0_0 ∧ n0_0 ≤ 6) ∨ (7 ≤ n0_0 ∧ n0_0 ≤ 7) ∨ (8 ≤ n0_0 ∧ n0_0 ≤ 8) ∨ (9 ≤ n0_0 ∧ n0_0 ≤ 9) ∨ (10 ≤ n0_0 ∧ n0_0 ≤ 10) ∨ (11 ≤ n0_0 ∧ n0_0 ≤ 11) ∨ (12 ≤ n0_0 ∧ n0_0 ≤ 12) ∨ (13 ≤ n0_0 ∧ n0_0 ≤ 13) ∨ (14 ≤ n0_0 ∧ n0_0 ≤ 9223372036854775807)) with q | q | q | q | q | q | q | q | q | q | q | q | q | q | q
  · exact walk0 hL hg q ⟨lo0_0, hi0_0⟩ ⟨lo0_1, hi0_1⟩ ⟨lo0_2, hi0_2⟩ ⟨lo0_3, hi0_3⟩ ⟨lo0_4, hi0_4⟩ ⟨lo1, hi1⟩
  · exact walk1 hL hg q ⟨lo0_0, hi0_0⟩ ⟨lo0_1, hi0_1⟩ ⟨lo0_2, hi0_2⟩ ⟨lo0_3, hi0_3⟩ ⟨lo0_4, hi0_4⟩ ⟨lo1, hi1⟩
  · exact walk2 hL hg q ⟨lo0_0, hi0_0⟩ ⟨lo0_1, hi0_1⟩ ⟨lo0_2, hi0_2⟩ ⟨lo0_3, hi0_3⟩ ⟨lo0_4, hi0_4⟩ ⟨lo1, hi1⟩
  · exact walk3 hL hg q ⟨lo0_0, hi0_0⟩ ⟨lo0_1, hi0_1⟩ ⟨lo0_2, hi0_2⟩ ⟨lo0_3, hi0_3⟩ ⟨lo0_4, hi0_4⟩ ⟨lo1, hi1⟩
  · exact walk4 hL hg q ⟨lo0_0, hi0_0⟩ ⟨lo0_1, hi0_1⟩ ⟨lo0_2, hi0_2⟩ ⟨lo0_3, hi0_3⟩ ⟨lo0_4, hi0_4⟩ ⟨lo1, hi1⟩
  · exact walk5 hL hg q ⟨lo0_0, hi0_0⟩ ⟨lo0_1, hi0_1⟩ ⟨lo0_2, hi0_2⟩ ⟨lo0_3, hi0_3⟩ ⟨lo0_4, hi0_4⟩ ⟨lo1, hi1⟩
  · exact walk6 hL hg q ⟨lo0_0, hi0_0⟩ ⟨lo0_1, hi0_1⟩ ⟨lo0_2, hi0_2⟩ ⟨lo0_3, hi0_3⟩ ⟨lo0_4, hi0_4⟩ ⟨lo1, hi1⟩
  · exact walk7 hL hg q ⟨lo0_0, hi0_0⟩ ⟨lo0_1, hi0_1⟩ ⟨lo0_2, hi0_2⟩ ⟨lo0_3, hi0_3⟩ ⟨lo0_4, hi0_4⟩ ⟨lo1, hi1⟩
  · exact walk8 hL hg q ⟨lo0_0, hi0_0⟩ ⟨lo0_1, hi0_1⟩ ⟨lo0_2, hi0_2⟩ ⟨lo0_3, hi0_3⟩ ⟨lo0_4, hi0_4⟩ ⟨lo1, hi1⟩
  · exact walk9 hL hg q ⟨lo0_0, hi0_0⟩ ⟨lo0_1, hi0_1⟩ ⟨lo0_2, hi0_2⟩ ⟨lo0_3, hi0_3⟩ ⟨lo0_4, hi0_4⟩ ⟨lo1, hi1⟩
  · exact walk10 hL hg q ⟨lo0_0, hi0_0⟩ ⟨lo0_1, hi0_1⟩ ⟨lo0_2, hi0_2⟩ ⟨lo0_3, hi0_3⟩ ⟨lo0_4, hi0_4⟩ ⟨lo1, hi1⟩
  · exact walk11 hL hg q ⟨lo0_0, hi0_0⟩ ⟨lo0_1, hi0_1⟩ ⟨lo0_2, hi0_2⟩ ⟨lo0_3, hi0_3⟩ ⟨lo0_4, hi0_4⟩ ⟨lo1, hi1⟩
  · exact walk12 hL hg q ⟨lo0_0, hi0_0⟩ ⟨lo0_1, hi0_1⟩ ⟨lo0_2, hi0_2⟩ ⟨lo0_3, hi0_3⟩ ⟨lo0_4, hi0_4⟩ ⟨lo1, hi1⟩
  · exact walk13 hL hg q ⟨lo0_0, hi0_0⟩ ⟨lo0_1, hi0_1⟩ ⟨lo0_2, hi0_2⟩ ⟨lo0_3, hi0_3⟩ ⟨lo0_4, hi0_4⟩ ⟨lo1, hi1⟩
  · exact walk14 hL hg q ⟨lo0_0, hi0_0⟩ ⟨lo0_1, hi0_1⟩ ⟨lo0_2, hi0_2⟩ ⟨lo0_3, hi0_3⟩ ⟨lo0_4, hi0_4⟩ ⟨lo1, hi1⟩
set_option maxHeartbeats 4000000 in
theorem contract (H : Type) (enc : TypeId × Value → H) (W : World) (base : Nat) (args : Array Value) (ds gs : List (DataW H)) (before : List MemPlace)
    (hval : ∀ (j : Nat) t v, Tryd.f3.params[j]? = some t → args[j]? = some v → Value.okWide Tryd.prog W .any base t v)
    (hW : DataW.Whole enc Tryd.prog Tryd.f3.params.toList Rows.codeSaysSpec.vars false W args.toList ds gs before) (hL : laidMetH Tryd.prog Rows.codeSaysRow.laid W) :
    Calls Tryd.prog 3 args W fun e W' => ∃ v, e = .returned v ∧ Rows.codeSaysSpec.post enc Tryd.prog Tryd.f3 false true false false W args v W' := by
  have hW' := hW
  obtain ⟨p, q, hA0, hV, rfl, hfz, hnd⟩ := hW
  have hA : DataW.TrodAll enc Tryd.prog W 0 (fun _ => true) true Tryd.f3.params.toList args.toList ds p := hA0
  rw [Tryd.params3] at hA hval
  obtain ⟨v0, vs0, d0, ds0, p0, q0, hargs, rfl, rfl, h0, r0⟩ := trodAll_cons hA
  obtain ⟨v1, vs1, d1, ds1, p1, q1, rfl, rfl, rfl, h1, r1⟩ := trodAll_cons r0
  obtain ⟨rfl, rfl, rfl⟩ := trodAll_nil r1
  obtain rfl : args = #[v0, v1] := by cases args; simp_all
  obtain ⟨rfl, rfl⟩ := trodVars_none hV
  have k0 := h0
  have k1 := h1
  obtain ⟨n0_0, n0_1, n0_2, n0_3, n0_4, rfl, hn0_0, hn0_1, hn0_2, hn0_3, hn0_4⟩ := open_instr Tryd.underlying23 (show Tryd.prog.cellsOf 23 = 5 by kernel_rfl) ⟨rfl, rfl, rfl, rfl, rfl⟩ ⟨rfl, rfl, rfl⟩ Tryd.underlying3 Tryd.underlying3 (show Tryd.prog.cellsOf 3 = 1 by kernel_rfl) (show Tryd.prog.cellsOf 3 = 1 by kernel_rfl) (hval 0 23 v0 rfl rfl) h0
  obtain ⟨n1, rfl, rfl, rfl, hn1⟩ := open_int Tryd.underlying24 (hval 1 24 v1 rfl rfl) h1
  clear hA0
  refine (walk W n0_0 hn0_0 n0_1 hn0_1 n0_2 hn0_2 n0_3 hn0_3 n0_4 hn0_4 n1 hn1 hL).mono fun e W' hh => ?_
  obtain ⟨he, hg⟩ := hh
  subst he
  have hlt := hW'.lt
  exact ⟨_, rfl, _, _, _, [], _, [], hW', trodAll_cons_mk (shut_bool Tryd.underlying4 _) trodAll_mk0, trodAll_cons_mk (Below.trod lay_out (by kernel_rfl) (of_decide_eq_true (by kernel_rfl)) k0 hg (fun x hx => (by have := hlt x (by simp [hx]); simpa using this))) (trodAll_cons_mk (shut_int Tryd.underlying24 hn1) trodAll_mk0), rfl, hg.frame _, fun h => Bool.noConfusion h⟩
theorem laid_met (os : Os) : laidMetH Tryd.prog Rows.codeSaysRow.laid ((World.laidAll Tryd.prog os Rows.codeSaysRow.laid).forCall (fun _ _ => 0) ⟨#[], #[.agg #[.int .i64 0, .int .i64 0, .int .i64 0, .int .i64 0, .int .i64 0], .int .u32 0], []⟩).memory := by
  rw [MakeChecks.laidMetH_plain _ _ _ (by kernel_rfl)]
  exact laidMet_laidAll _ (by kernel_rfl) (by kernel_rfl)
theorem reads (os : Os) {H : Type} (enc : TypeId × Value → H) : ∃ places, DataW.whole enc Tryd.prog ((World.laidAll Tryd.prog os Rows.codeSaysRow.laid).forCall (fun _ _ => 0) ⟨#[], #[.agg #[.int .i64 0, .int .i64 0, .int .i64 0, .int .i64 0, .int .i64 0], .int .u32 0], []⟩).memory Tryd.f3.params.toList Rows.codeSaysSpec.vars false #[Value.agg #[.int .i64 0, .int .i64 0, .int .i64 0, .int .i64 0, .int .i64 0], .int .u32 0].toList 8 = some ([.agg [.lit (.int .i64 0), .lit (.int .i64 0), .lit (.int .i64 0), .lit (.int .i64 0), .lit (.int .i64 0)], .lit (.int .u32 0)], [], places) :=
  ⟨[], by kernel_rfl⟩
theorem lifted (os : Os) (started : os.Started) (H : Type) (enc : TypeId × Value → H) (F : Stop.Interp) :
    ReturnsInHanded {} Tryd.checked os 3 .any ((OpenSpec.ofChange Rows.codeSaysSpec).preRow enc Tryd.prog Tryd.f3 Rows.codeSaysRow.domain false Rows.codeSaysRow.laid) (((OpenSpec.ofChange Rows.codeSaysSpec).at F).post enc Tryd.prog Tryd.f3 false true false false) := by
  obtain ⟨places, hx⟩ := reads os enc
  refine returnsInHanded_of_row (C := Tryd.checked) (s := OpenSpec.ofChange Rows.codeSaysSpec) own started (by kernel_rfl) Tryd.func3
    (witness_row_atRef (enc := enc) (C := Tryd.checked) false (World.laidAll Tryd.prog os Rows.codeSaysRow.laid) #[.agg #[.int .i64 0, .int .i64 0, .int .i64 0, .int .i64 0, .int .i64 0], .int .u32 0] (World.laidAll_os _ _ _) (by kernel_rfl) (by kernel_rfl) (by kernel_rfl)
      (OpenSpec.preRow_of_cond 8 hx (by kernel_rfl) (fun k hk => by cases hk) (by kernel_rfl) (laid_met os))) ?_
  intro W base args ds gs before hval hW _ _ _ hL _ _
  exact contract H enc W base args ds gs before hval hW hL
set_option maxHeartbeats 4000000 in
theorem joined : joinedFacts Tryd.pinned.checked.prog 3 Tryd.f3 (OpenSpec.ofChange Rows.codeSaysSpec).bare Rows.codeSaysRow = true := by
  unfold joinedFacts
  simp only [Bool.and_eq_true]
  repeat' apply And.intro
  all_goals (as_aux_lemma => kernel_rfl)
theorem said : Rows.CodeSaysSaid :=
  OpenClaim.holds_of_cond 3 Tryd.f3 rfl rfl rfl rfl rfl rfl rfl ⟨rfl, rfl, rfl, rfl, rfl⟩ rfl rfl rfl rfl rfl (by kernel_rfl) Tryd.func3 joined
    (of_decide_eq_true (by kernel_rfl)) (by unfold Func.isWrapper; first | (rw [if_pos (by decide +kernel)]; kernel_rfl) | (rw [if_neg (by decide +kernel)]; exact ⟨rfl, rfl⟩))
    (fun os started H enc _ F => by rw [OpenClaim.pre_eq_preRow]; exact lifted os started H enc F)
theorem plain (f : FuncId) (fn : Func) (hf : Tryd.pinned.checked.prog.funcNamed "turnkey/turnkeylaw14.CodeSays" = some f) (hfn : Tryd.pinned.checked.prog.funcs[f]? = some fn) :
    true = Tryd.pinned.checked.prog.looks [] ∧ ∀ (j : Nat) t, fn.params[j]? = some t → Tryd.pinned.checked.prog.wantsStandIn t = false := by
  obtain rfl : f = 3 := Option.some.inj ((show Tryd.prog.funcNamed "turnkey/turnkeylaw14.CodeSays" = some 3 by kernel_rfl).symm.trans hf) |>.symm
  obtain rfl : fn = Tryd.f3 := (Option.some.inj (Tryd.func3.symm.trans hfn)).symm
  refine ⟨by kernel_rfl, fun j t ht => ?_⟩
  rw [Tryd.params3] at ht
  have hm := Array.mem_of_getElem? ht
  have hall : ∀ t, t ∈ #[(23 : TypeId), (24 : TypeId)] → Tryd.prog.wantsStandIn t = false := by
    intro t h
    simp only [List.mem_toArray, List.mem_cons, List.not_mem_nil, or_false] at h
    rcases h with rfl | rfl
    · exact (show Tryd.prog.wantsStandIn 23 = false by kernel_rfl)
    · exact (show Tryd.prog.wantsStandIn 24 = false by kernel_rfl)
  exact hall t hm
theorem card : Rows.CodeSaysCardSaid :=
  Claim7.holds_tied_plain_at .later [] _ _ _ _ said (fun _ h => by cases h) (by as_aux_lemma => kernel_rfl) (fun _ h => by cases h) codeSays_row_tie rfl ⟨rfl, rfl⟩ (by as_aux_lemma => kernel_rfl) rfl plain (by as_aux_lemma => kernel_rfl)
end Go.Proofs.YtphhnhheedbjjaaDoor.codeSays
