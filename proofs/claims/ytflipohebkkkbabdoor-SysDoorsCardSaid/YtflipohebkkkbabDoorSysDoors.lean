/- SysDoors returns true for every input, and the input reads as it did; the listed errors hold what the program text lays. -/
import Derived.Test.YtflipohebkkkbabDoorEvSeat
import Derived.Deep.DeepWitnessRowRef
import Derived.Lay
set_option linter.unusedVariables false
set_option linter.unusedSimpArgs false
set_option maxRecDepth 10000000
namespace Go.Proofs.YtflipohebkkkbabDoor.sysDoors
open Tk
open Go.ChangeShapes Go.WideShapes Go.ChangeAt Go.RowKit

theorem own : ownKnob Tryd.prog.godebug = none := by kernel_rfl
theorem run0_f_0 : isTrue (evCall (lawCxE Tryd.prog 10 [(0, 4, .lit 0), (1, 50, .var 3)] [((-9223372036854775808), 9223372036854775807), ((-9223372036854775808), 9223372036854775807), ((-9223372036854775808), 9223372036854775807), (0, 49)] [(true, .var 3, .add (.var 3) (.lit 1), false), (true, .add (.var 3) (.lit 1), .var 3, false)]) 1000 60 3 [.int .i64 (.var 0), .int .i64 (.var 1), .bool false] (sentH 201 7 errTab)) = true := by kernel_rfl
theorem run0_f_1 : isTrue (evCall (lawCxE Tryd.prog 10 [(0, 4, .lit 1), (1, 50, .var 3)] [((-9223372036854775808), 9223372036854775807), ((-9223372036854775808), 9223372036854775807), ((-9223372036854775808), 9223372036854775807), (0, 49)] [(true, .var 3, .add (.var 3) (.lit 1), false), (true, .add (.var 3) (.lit 1), .var 3, false)]) 1000 60 3 [.int .i64 (.var 0), .int .i64 (.var 1), .bool false] (sentH 201 7 errTab)) = true := by kernel_rfl
theorem run0_f_2 : isTrue (evCall (lawCxE Tryd.prog 10 [(0, 4, .lit 2), (1, 50, .var 3)] [((-9223372036854775808), 9223372036854775807), ((-9223372036854775808), 9223372036854775807), ((-9223372036854775808), 9223372036854775807), (0, 49)] [(true, .var 3, .add (.var 3) (.lit 1), false), (true, .add (.var 3) (.lit 1), .var 3, false)]) 1000 60 3 [.int .i64 (.var 0), .int .i64 (.var 1), .bool false] (sentH 201 7 errTab)) = true := by kernel_rfl
theorem run0_f_3 : isTrue (evCall (lawCxE Tryd.prog 10 [(0, 4, .lit 3), (1, 50, .var 3)] [((-9223372036854775808), 9223372036854775807), ((-9223372036854775808), 9223372036854775807), ((-9223372036854775808), 9223372036854775807), (0, 49)] [(true, .var 3, .add (.var 3) (.lit 1), false), (true, .add (.var 3) (.lit 1), .var 3, false)]) 1000 60 3 [.int .i64 (.var 0), .int .i64 (.var 1), .bool false] (sentH 201 7 errTab)) = true := by kernel_rfl
theorem run0_t_0 : isTrue (evCall (lawCxE Tryd.prog 10 [(0, 4, .lit 0), (1, 50, .var 3)] [((-9223372036854775808), 9223372036854775807), ((-9223372036854775808), 9223372036854775807), ((-9223372036854775808), 9223372036854775807), (0, 49)] [(true, .var 3, .add (.var 3) (.lit 1), false), (true, .add (.var 3) (.lit 1), .var 3, false)]) 1000 60 3 [.int .i64 (.var 0), .int .i64 (.var 1), .bool true] (sentH 201 7 errTab)) = true := by kernel_rfl
theorem run0_t_1 : isTrue (evCall (lawCxE Tryd.prog 10 [(0, 4, .lit 1), (1, 50, .var 3)] [((-9223372036854775808), 9223372036854775807), ((-9223372036854775808), 9223372036854775807), ((-9223372036854775808), 9223372036854775807), (0, 49)] [(true, .var 3, .add (.var 3) (.lit 1), false), (true, .add (.var 3) (.lit 1), .var 3, false)]) 1000 60 3 [.int .i64 (.var 0), .int .i64 (.var 1), .bool true] (sentH 201 7 errTab)) = true := by kernel_rfl
theorem run0_t_2 : isTrue (evCall (lawCxE Tryd.prog 10 [(0, 4, .lit 2), (1, 50, .var 3)] [((-9223372036854775808), 9223372036854775807), ((-9223372036854775808), 9223372036854775807), ((-9223372036854775808), 9223372036854775807), (0, 49)] [(true, .var 3, .add (.var 3) (.lit 1), false), (true, .add (.var 3) (.lit 1), .var 3, false)]) 1000 60 3 [.int .i64 (.var 0), .int .i64 (.var 1), .bool true] (sentH 201 7 errTab)) = true := by kernel_rfl
theorem run0_t_3 : isTrue (evCall (lawCxE Tryd.prog 10 [(0, 4, .lit 3), (1, 50, .var 3)] [((-9223372036854775808), 9223372036854775807), ((-9223372036854775808), 9223372036854775807), ((-9223372036854775808), 9223372036854775807), (0, 49)] [(true, .var 3, .add (.var 3) (.lit 1), false), (true, .add (.var 3) (.lit 1), .var 3, false)]) 1000 60 3 [.int .i64 (.var 0), .int .i64 (.var 1), .bool true] (sentH 201 7 errTab)) = true := by kernel_rfl
theorem runs0f (c0 : Int) (hc0 : 0 ≤ c0) (kc0 : c0 < 4) : isTrue (evCall (lawCxE Tryd.prog 10 [(0, 4, .lit c0), (1, 50, .var 3)] [((-9223372036854775808), 9223372036854775807), ((-9223372036854775808), 9223372036854775807), ((-9223372036854775808), 9223372036854775807), (0, 49)] [(true, .var 3, .add (.var 3) (.lit 1), false), (true, .add (.var 3) (.lit 1), .var 3, false)]) 1000 60 3 [.int .i64 (.var 0), .int .i64 (.var 1), .bool false] (sentH 201 7 errTab)) = true := by
  have e0 : c0 = 0 ∨ c0 = 1 ∨ c0 = 2 ∨ c0 = 3 := by omega
  rcases e0 with rfl | rfl | rfl | rfl
  ·
    exact run0_f_0
  ·
    exact run0_f_1
  ·
    exact run0_f_2
  ·
    exact run0_f_3
theorem runs0t (c0 : Int) (hc0 : 0 ≤ c0) (kc0 : c0 < 4) : isTrue (evCall (lawCxE Tryd.prog 10 [(0, 4, .lit c0), (1, 50, .var 3)] [((-9223372036854775808), 9223372036854775807), ((-9223372036854775808), 9223372036854775807), ((-9223372036854775808), 9223372036854775807), (0, 49)] [(true, .var 3, .add (.var 3) (.lit 1), false), (true, .add (.var 3) (.lit 1), .var 3, false)]) 1000 60 3 [.int .i64 (.var 0), .int .i64 (.var 1), .bool true] (sentH 201 7 errTab)) = true := by
  have e0 : c0 = 0 ∨ c0 = 1 ∨ c0 = 2 ∨ c0 = 3 := by omega
  rcases e0 with rfl | rfl | rfl | rfl
  ·
    exact run0_t_0
  ·
    exact run0_t_1
  ·
    exact run0_t_2
  ·
    exact run0_t_3
theorem walk0f (W : World) (n0 : Int) (hn0 : (Lit.int .i64 n0).wf = true) (n1 : Int) (hn1 : (Lit.int .i64 n1).wf = true) (hL : laidMetH Tryd.prog laidErrs W) : Calls Tryd.prog 3 #[.int .i64 n0, .int .i64 n1, .bool false] W fun e w' => e = .returned (.bool true) ∧ Below W.heap.size W w' := by
  obtain ⟨ads, h1, h2, h3⟩ := errs_sents hL
  simp only [Lit.wf, Bool.and_eq_true, decide_eq_true_eq] at hn0
  have lo0 : -9223372036854775808 ≤ n0 := hn0.1
  have hi0 : n0 ≤ 9223372036854775807 := hn0.2
  simp only [Lit.wf, Bool.and_eq_true, decide_eq_true_eq] at hn1
  have lo1 : -9223372036854775808 ≤ n1 := hn1.1
  have hi1 : n1 ≤ 9223372036854775807 := hn1.2
  obtain ⟨c0, d0⟩ := numOf_range n0 4 (by decide)
  obtain ⟨s3, z3⟩ := numOf_range n1 50 (by decide)
  refine law_case_e (σ := fun i => if i = 0 then n0 else if i = 1 then n1 else if i = 3 then numOf n1 50 else 0) (tab := [(0, 4, .lit (numOf n0 4)), (1, 50, .var 3)]) (rng := [((-9223372036854775808), 9223372036854775807), ((-9223372036854775808), 9223372036854775807), ((-9223372036854775808), 9223372036854775807), (0, 49)]) (facts := [(true, .var 3, .add (.var 3) (.lit 1), false), (true, .add (.var 3) (.lit 1), .var 3, false)]) (vs := [.int .i64 (.var 0), .int .i64 (.var 1), .bool false]) mixed body_ok h1 h2 h3 errs_all errs_lt ?_ ?_ ?_ (fun ρ => VRs.cons (by simp [VR, E.den]) (VRs.cons (by simp [VR, E.den]) (VRs.cons (by simp [VR, E.den]) (VRs.nil)))) ⟨_, Tryd.func3, rfl⟩ (runs0f _ c0 d0)
  · intro i k c hm
    simp only [List.mem_cons, List.not_mem_nil, or_false, Prod.mk.injEq] at hm
    rcases hm with ⟨rfl, rfl, rfl⟩ | ⟨rfl, rfl, rfl⟩
    · exact ⟨num4, by decide, by decide, lo0, hi0, rfl⟩
    · exact ⟨num50, by decide, by decide, lo1, hi1, rfl⟩
  · intro i lo hi hr
    rcases i with _ | i
    · simp at hr
      obtain ⟨rfl, rfl⟩ := hr
      exact ⟨by show (-9223372036854775808) ≤ n0; omega, by show n0 ≤ 9223372036854775807; omega⟩
    rcases i with _ | i
    · simp at hr
      obtain ⟨rfl, rfl⟩ := hr
      exact ⟨by show (-9223372036854775808) ≤ n1; omega, by show n1 ≤ 9223372036854775807; omega⟩
    rcases i with _ | i
    · simp at hr
      obtain ⟨rfl, rfl⟩ := hr
      exact ⟨by show (-9223372036854775808) ≤ (0 : Int); omega, by show (0 : Int) ≤ 9223372036854775807; omega⟩
    rcases i with _ | i
    · simp at hr
      obtain ⟨rfl, rfl⟩ := hr
      exact ⟨by show 0 ≤ numOf n1 50; omega, by show numOf n1 50 ≤ 49; omega⟩
    simp at hr
  · intro q a b t hm
    simp only [List.mem_cons, List.not_mem_nil, or_false, Prod.mk.injEq] at hm
    rcases hm with ⟨rfl, rfl, rfl, rfl⟩ | ⟨rfl, rfl, rfl, rfl⟩
    ·
      simp [E.den]
      try omega
    ·
      simp [E.den]
      try omega
theorem walk0t (W : World) (n0 : Int) (hn0 : (Lit.int .i64 n0).wf = true) (n1 : Int) (hn1 : (Lit.int .i64 n1).wf = true) (hL : laidMetH Tryd.prog laidErrs W) : Calls Tryd.prog 3 #[.int .i64 n0, .int .i64 n1, .bool true] W fun e w' => e = .returned (.bool true) ∧ Below W.heap.size W w' := by
  obtain ⟨ads, h1, h2, h3⟩ := errs_sents hL
  simp only [Lit.wf, Bool.and_eq_true, decide_eq_true_eq] at hn0
  have lo0 : -9223372036854775808 ≤ n0 := hn0.1
  have hi0 : n0 ≤ 9223372036854775807 := hn0.2
  simp only [Lit.wf, Bool.and_eq_true, decide_eq_true_eq] at hn1
  have lo1 : -9223372036854775808 ≤ n1 := hn1.1
  have hi1 : n1 ≤ 9223372036854775807 := hn1.2
  obtain ⟨c0, d0⟩ := numOf_range n0 4 (by decide)
  obtain ⟨s3, z3⟩ := numOf_range n1 50 (by decide)
  refine law_case_e (σ := fun i => if i = 0 then n0 else if i = 1 then n1 else if i = 3 then numOf n1 50 else 0) (tab := [(0, 4, .lit (numOf n0 4)), (1, 50, .var 3)]) (rng := [((-9223372036854775808), 9223372036854775807), ((-9223372036854775808), 9223372036854775807), ((-9223372036854775808), 9223372036854775807), (0, 49)]) (facts := [(true, .var 3, .add (.var 3) (.lit 1), false), (true, .add (.var 3) (.lit 1), .var 3, false)]) (vs := [.int .i64 (.var 0), .int .i64 (.var 1), .bool true]) mixed body_ok h1 h2 h3 errs_all errs_lt ?_ ?_ ?_ (fun ρ => VRs.cons (by simp [VR, E.den]) (VRs.cons (by simp [VR, E.den]) (VRs.cons (by simp [VR, E.den]) (VRs.nil)))) ⟨_, Tryd.func3, rfl⟩ (runs0t _ c0 d0)
  · intro i k c hm
    simp only [List.mem_cons, List.not_mem_nil, or_false, Prod.mk.injEq] at hm
    rcases hm with ⟨rfl, rfl, rfl⟩ | ⟨rfl, rfl, rfl⟩
    · exact ⟨num4, by decide, by decide, lo0, hi0, rfl⟩
    · exact ⟨num50, by decide, by decide, lo1, hi1, rfl⟩
  · intro i lo hi hr
    rcases i with _ | i
    · simp at hr
      obtain ⟨rfl, rfl⟩ := hr
      exact ⟨by show (-9223372036854775808) ≤ n0; omega, by show n0 ≤ 9223372036854775807; omega⟩
    rcases i with _ | i
    · simp at hr
      obtain ⟨rfl, rfl⟩ := hr
      exact ⟨by show (-9223372036854775808) ≤ n1; omega, by show n1 ≤ 9223372036854775807; omega⟩
    rcases i with _ | i
    · simp at hr
      obtain ⟨rfl, rfl⟩ := hr
      exact ⟨by show (-9223372036854775808) ≤ (0 : Int); omega, by show (0 : Int) ≤ 9223372036854775807; omega⟩
    rcases i with _ | i
    · simp at hr
      obtain ⟨rfl, rfl⟩ := hr
      exact ⟨by show 0 ≤ numOf n1 50; omega, by show numOf n1 50 ≤ 49; omega⟩
    simp at hr
  · intro q a b t hm
    simp only [List.mem_cons, List.not_mem_nil, or_false, Prod.mk.injEq] at hm
    rcases hm with ⟨rfl, rfl, rfl, rfl⟩ | ⟨rfl, rfl, rfl, rfl⟩
    ·
      simp [E.den]
      try omega
    ·
      simp [E.den]
      try omega
theorem walk (W : World) (n0 : Int) (hn0 : (Lit.int .i64 n0).wf = true) (n1 : Int) (hn1 : (Lit.int .i64 n1).wf = true) (n2 : Bool) (hL : laidMetH Tryd.prog laidErrs W) : Calls Tryd.prog 3 #[.int .i64 n0, .int .i64 n1, .bool n2] W fun e w' => e = .returned (.bool true) ∧ Below W.heap.size W w' := by
  cases n2
  ·
    exact walk0f W n0 hn0 n1 hn1  hL
  ·
    exact walk0t W n0 hn0 n1 hn1  hL
theorem contract (H : Type) (enc : TypeId × Value → H) (W : World) (base : Nat) (args : Array Value) (ds gs : List (DataW H)) (before : List MemPlace)
    (hval : ∀ (j : Nat) t v, Tryd.f3.params[j]? = some t → args[j]? = some v → Value.okWide Tryd.prog W .any base t v)
    (hW : DataW.Whole enc Tryd.prog Tryd.f3.params.toList Rows.sysDoorsSpec.vars false W args.toList ds gs before) (hL : laidMetH Tryd.prog Rows.sysDoorsRow.laid W) :
    Calls Tryd.prog 3 args W fun e W' => ∃ v, e = .returned v ∧ Rows.sysDoorsSpec.post enc Tryd.prog Tryd.f3 false true false false W args v W' := by
  have hW' := hW
  obtain ⟨p, q, hA0, hV, rfl, hfz, hnd⟩ := hW
  have hA : DataW.TrodAll enc Tryd.prog W 0 (fun _ => true) true Tryd.f3.params.toList args.toList ds p := hA0
  rw [Tryd.params3] at hA hval
  obtain ⟨v0, vs0, d0, ds0, p0, q0, hargs, rfl, rfl, h0, r0⟩ := trodAll_cons hA
  obtain ⟨v1, vs1, d1, ds1, p1, q1, rfl, rfl, rfl, h1, r1⟩ := trodAll_cons r0
  obtain ⟨v2, vs2, d2, ds2, p2, q2, rfl, rfl, rfl, h2, r2⟩ := trodAll_cons r1
  obtain ⟨rfl, rfl, rfl⟩ := trodAll_nil r2
  obtain rfl : args = #[v0, v1, v2] := by cases args; simp_all
  obtain ⟨rfl, rfl⟩ := trodVars_none hV
  obtain ⟨n0, rfl, rfl, rfl, hn0⟩ := open_int Tryd.underlying3 (hval 0 3 v0 rfl rfl) h0
  obtain ⟨n1, rfl, rfl, rfl, hn1⟩ := open_int Tryd.underlying3 (hval 1 3 v1 rfl rfl) h1
  obtain ⟨n2, rfl, rfl, rfl⟩ := open_bool Tryd.underlying4 (hval 2 4 v2 rfl rfl) h2
  clear hA0
  simp only [List.append_nil] at hW'
  refine (walk W n0 hn0 n1 hn1 n2 hL).mono fun e W' hh => ?_
  obtain ⟨he, hg⟩ := hh
  subst he
  exact ⟨_, rfl, _, _, _, [], [], [], hW', trodAll_cons_mk (shut_bool Tryd.underlying4 _) trodAll_mk0, trodAll_cons_mk (shut_int Tryd.underlying3 hn0) (trodAll_cons_mk (shut_int Tryd.underlying3 hn1) (trodAll_cons_mk (shut_bool Tryd.underlying4 _) trodAll_mk0)), rfl, hg.frame _, fun h => Bool.noConfusion h⟩
theorem laid_met (os : Os) : laidMetH Tryd.prog Rows.sysDoorsRow.laid ((World.laidAll Tryd.prog os Rows.sysDoorsRow.laid).forCall (fun _ _ => 0) ⟨#[], #[.int .i64 0, .int .i64 0, .bool false], []⟩).memory := by
  rw [MakeChecks.laidMetH_plain _ _ _ (by kernel_rfl)]
  exact laidMet_laidAll _ (by kernel_rfl) (by kernel_rfl)
theorem reads (os : Os) {H : Type} (enc : TypeId × Value → H) : ∃ places, DataW.whole enc Tryd.prog ((World.laidAll Tryd.prog os Rows.sysDoorsRow.laid).forCall (fun _ _ => 0) ⟨#[], #[.int .i64 0, .int .i64 0, .bool false], []⟩).memory Tryd.f3.params.toList Rows.sysDoorsSpec.vars false #[Value.int .i64 0, .int .i64 0, .bool false].toList 8 = some ([.lit (.int .i64 0), .lit (.int .i64 0), .lit (.bool false)], [], places) :=
  ⟨[], by kernel_rfl⟩
theorem lifted (os : Os) (started : os.Started) (H : Type) (enc : TypeId × Value → H) (F : Stop.Interp) :
    ReturnsInHanded {} Tryd.checked os 3 .any ((OpenSpec.ofChange Rows.sysDoorsSpec).preRow enc Tryd.prog Tryd.f3 Rows.sysDoorsRow.domain false Rows.sysDoorsRow.laid) (((OpenSpec.ofChange Rows.sysDoorsSpec).at F).post enc Tryd.prog Tryd.f3 false true false false) := by
  obtain ⟨places, hx⟩ := reads os enc
  refine returnsInHanded_of_row (C := Tryd.checked) (s := OpenSpec.ofChange Rows.sysDoorsSpec) own started (by kernel_rfl) Tryd.func3
    (witness_row_atRef (enc := enc) (C := Tryd.checked) false (World.laidAll Tryd.prog os Rows.sysDoorsRow.laid) #[.int .i64 0, .int .i64 0, .bool false] (World.laidAll_os _ _ _) (by kernel_rfl) (by kernel_rfl) (by kernel_rfl)
      (OpenSpec.preRow_of_cond 8 hx (by kernel_rfl) (fun k hk => by cases hk) (by kernel_rfl) (laid_met os))) ?_
  intro W base args ds gs before hval hW _ _ _ hL _ _
  exact contract H enc W base args ds gs before hval hW hL
theorem said : Rows.SysDoorsSaid :=
  OpenClaim.holds_of_cond 3 Tryd.f3 rfl rfl rfl rfl rfl rfl rfl ⟨rfl, rfl, rfl, rfl, rfl⟩ rfl rfl rfl rfl rfl (by kernel_rfl) Tryd.func3 (by kernel_rfl)
    (of_decide_eq_true (by kernel_rfl)) (by unfold Func.isWrapper; first | (rw [if_pos (by decide +kernel)]; kernel_rfl) | (rw [if_neg (by decide +kernel)]; exact ⟨rfl, rfl⟩))
    (fun os started H enc _ F => by rw [OpenClaim.pre_eq_preRow]; exact lifted os started H enc F)
theorem plain (f : FuncId) (fn : Func) (hf : Tryd.pinned.checked.prog.funcNamed "turnkey/turnkeylaw21.SysDoors" = some f) (hfn : Tryd.pinned.checked.prog.funcs[f]? = some fn) :
    false = Tryd.pinned.checked.prog.looks [] ∧ ∀ (j : Nat) t, fn.params[j]? = some t → Tryd.pinned.checked.prog.wantsStandIn t = false := by
  obtain rfl : f = 3 := Option.some.inj ((show Tryd.prog.funcNamed "turnkey/turnkeylaw21.SysDoors" = some 3 by kernel_rfl).symm.trans hf) |>.symm
  obtain rfl : fn = Tryd.f3 := (Option.some.inj (Tryd.func3.symm.trans hfn)).symm
  refine ⟨by kernel_rfl, fun j t ht => ?_⟩
  rw [Tryd.params3] at ht
  have hm := Array.mem_of_getElem? ht
  have hall : ∀ t, t ∈ #[(3 : TypeId), (3 : TypeId), (4 : TypeId)] → Tryd.prog.wantsStandIn t = false := by
    intro t h
    simp only [List.mem_toArray, List.mem_cons, List.not_mem_nil, or_false] at h
    rcases h with rfl | rfl | rfl
    · exact (show Tryd.prog.wantsStandIn 3 = false by kernel_rfl)
    · exact (show Tryd.prog.wantsStandIn 3 = false by kernel_rfl)
    · exact (show Tryd.prog.wantsStandIn 4 = false by kernel_rfl)
  exact hall t hm
theorem card : Rows.SysDoorsCardSaid :=
  Claim7.holds_tied_plain_at .later [] _ _ _ _ said (fun _ h => by cases h) (by kernel_rfl) (fun _ h => by cases h) sysDoors_row_tie rfl ⟨rfl, rfl⟩ (by kernel_rfl) rfl plain (by kernel_rfl)
end Go.Proofs.YtflipohebkkkbabDoor.sysDoors
