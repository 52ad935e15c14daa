/- CodeBack returns true for every input, and the input reads as it did; the listed errors hold what the program text lays. -/
import Derived.Test.YtphhnhheedbjjaaDoorCbM
import Derived.Deep.DeepWitnessRowRef
import Derived.Lay
set_option linter.unusedVariables false
set_option linter.unusedSimpArgs false
set_option maxRecDepth 10000000
namespace Go.Proofs.YtphhnhheedbjjaaDoor.codeBack
open Tk
open Go.ChangeShapes Go.WideShapes Go.ChangeAt Go.RowKit

theorem lay_out : laidOutB Tryd.prog = true := by kernel_rfl
theorem own : ownKnob Tryd.prog.godebug = none := by kernel_rfl
def sg (n0_0 : Int) (n0_1 : Int) (n0_2 : Int) (n0_3 : Int) (n0_4 : Int) (n1_0 : Int) (n1_1 : Int) (n1_2 : Int) (n1_3 : Int) (n1_4 : Int) (n2 : Int) : Nat → Int := fun i => if i = 0 then n0_0 else if i = 1 then n0_1 else if i = 2 then n0_2 else if i = 3 then n0_3 else if i = 4 then n0_4 else if i = 5 then n1_0 else if i = 6 then n1_1 else if i = 7 then n1_2 else if i = 8 then n1_3 else if i = 9 then n1_4 else if i = 10 then n2 else 0
set_option maxHeartbeats 10000000 in
theorem walk (W : World) (n0_0 : Int) (hn0_0 : (Lit.int .i64 n0_0).wf = true) (n0_1 : Int) (hn0_1 : (Lit.int .i64 n0_1).wf = true) (n0_2 : Int) (hn0_2 : (Lit.int .i64 n0_2).wf = true) (n0_3 : Int) (hn0_3 : (Lit.int .i64 n0_3).wf = true) (n0_4 : Int) (hn0_4 : (Lit.int .i64 n0_4).wf = true) (n1_0 : Int) (hn1_0 : (Lit.int .i64 n1_0).wf = true) (n1_1 : Int) (hn1_1 : (Lit.int .i64 n1_1).wf = true) (n1_2 : Int) (hn1_2 : (Lit.int .i64 n1_2).wf = true) (n1_3 : Int) (hn1_3 : (Lit.int .i64 n1_3).wf = true) (n1_4 : Int) (hn1_4 : (Lit.int .i64 n1_4).wf = true) (n2 : Int) (hn2 : (Lit.int .u32 n2).wf = true) (hL : laidMetH Tryd.prog Rows.codeBackRow.laid W) : Calls Tryd.prog 4 #[.agg #[.int .i64 n0_0, .int .i64 n0_1, .int .i64 n0_2, .int .i64 n0_3, .int .i64 n0_4], .agg #[.int .i64 n1_0, .int .i64 n1_1, .int .i64 n1_2, .int .i64 n1_3, .int .i64 n1_4], .int .u32 n2] W fun e w' => e = .returned (.bool true) ∧ Below W.heap.size W w' := by
  simp only [Lit.wf, Bool.and_eq_true, decide_eq_true_eq] at hn0_0
  have lo0_0 : -9223372036854775808 ≤ n0_0 := hn0_0.1
  have hi0_0 : n0_0 ≤ 9223372036854775807 := hn0_0.2
  simp only [Lit.wf, Bool.and_eq_true, decide_eq_true_eq] at hn0_1
  have lo0_1 : -9223372036854775808 ≤ n0_1 := hn0_1.1
  have hi0_1 : n0_1 ≤ 9223372036854775807 := hn0_1.2
  simp only [Lit.wf, Bool.and_eq_true, decide_eq_true_eq] at hn0_2
  have lo0_2 : -9223372036854775808 ≤ n0_2 := hn0_2.1
  have hi0_2 : n0_2 ≤ 9223372036854775807 := hn0_2.2
  simp only [Lit.wf, Bool.and_eq_true, decide_eq_true_eq] at hn0_3
  have lo0_3 : -9223372036854775808 ≤ n0_3 := hn0_3.1
  have hi0_3 : n0_3 ≤ 9223372036854775807 := hn0_3.2
  simp only [Lit.wf, Bool.and_eq_true, decide_eq_true_eq] at hn0_4
  have lo0_4 : -9223372036854775808 ≤ n0_4 := hn0_4.1
  have hi0_4 : n0_4 ≤ 9223372036854775807 := hn0_4.2
  simp only [Lit.wf, Bool.and_eq_true, decide_eq_true_eq] at hn1_0
  have lo1_0 : -9223372036854775808 ≤ n1_0 := hn1_0.1
  have hi1_0 : n1_0 ≤ 9223372036854775807 := hn1_0.2
  simp only [Lit.wf, Bool.and_eq_true, decide_eq_true_eq] at hn1_1
  have lo1_1 : -9223372036854775808 ≤ n1_1 := hn1_1.1
  have hi1_1 : n1_1 ≤ 9223372036854775807 := hn1_1.2
  simp only [Lit.wf, Bool.and_eq_true, decide_eq_true_eq] at hn1_2
  have lo1_2 : -9223372036854775808 ≤ n1_2 := hn1_2.1
  have hi1_2 : n1_2 ≤ 9223372036854775807 := hn1_2.2
  simp only [Lit.wf, Bool.and_eq_true, decide_eq_true_eq] at hn1_3
  have lo1_3 : -9223372036854775808 ≤ n1_3 := hn1_3.1
  have hi1_3 : n1_3 ≤ 9223372036854775807 := hn1_3.2
  simp only [Lit.wf, Bool.and_eq_true, decide_eq_true_eq] at hn1_4
  have lo1_4 : -9223372036854775808 ≤ n1_4 := hn1_4.1
  have hi1_4 : n1_4 ≤ 9223372036854775807 := hn1_4.2
  simp only [Lit.wf, Bool.and_eq_true, decide_eq_true_eq] at hn2
  have lo2 : 0 ≤ n2 := hn2.1
  have hi2 : n2 ≤ 4294967295 := hn2.2
  obtain ⟨ads, s1, s2, s3⟩ := errs_sents hL
  have A0 := any ⟨lo0_0, hi0_0⟩ ⟨lo0_1, hi0_1⟩ ⟨lo0_2, hi0_2⟩ ⟨lo0_3, hi0_3⟩ ⟨lo0_4, hi0_4⟩
  have A1 := any ⟨lo1_0, hi1_0⟩ ⟨lo1_1, hi1_1⟩ ⟨lo1_2, hi1_2⟩ ⟨lo1_3, hi1_3⟩ ⟨lo1_4, hi1_4⟩
  obtain ⟨k0, k1, k2, k3, k4, t, hkb, hW⟩ : ∃ (k0 k1 k2 k3 k4 : Int) (t : Bool), ((0 ≤ k0 ∧ k0 ≤ 15) ∧ (0 ≤ k1 ∧ k1 ≤ 15) ∧ (0 ≤ k2 ∧ k2 ≤ 15) ∧ (0 ≤ k3 ∧ k3 ≤ 15) ∧ (0 ≤ k4 ∧ k4 ≤ 4095)) ∧ ((t = false ∧ NotW n2) ∨ (t = true ∧ ∃ s, VC k0 k1 k2 k3 k4 s ∧ n2 = radix k0 k1 k2 k3 k4)) := by
    rcases w_all ⟨lo2, hi2⟩ with h | h
    · exact ⟨0, 0, 0, 0, 0, false, by decide, .inl ⟨rfl, h⟩⟩
    · obtain ⟨o, a, b, c, i, s, h1, h2⟩ := parts h
      have hb := h2.bd
      exact ⟨o, a, b, c, i, true, by omega, .inr ⟨rfl, s, h2, h1⟩⟩
  obtain ⟨x1, t1, p0, hx0, hp0⟩ : ∃ (x t : Int) (p : Option Nat), (0 ≤ x ∧ x ≤ 4294967295) ∧ ((p = none ∧ ∃ s, VC n0_0 n0_1 n0_2 n0_3 n0_4 s ∧ x = radix n0_0 n0_1 n0_2 n0_3 n0_4 ∧ strNo s = t) ∨ (p = some 19 ∧ ErrIs 19 n0_0 n0_1 n0_2 n0_3 n0_4) ∨ (p = some 18 ∧ ErrIs 18 n0_0 n0_1 n0_2 n0_3 n0_4)) := by
    rcases A0 with ⟨s, h⟩ | h | h
    · have hb := h.bd
      exact ⟨radix n0_0 n0_1 n0_2 n0_3 n0_4, strNo s, none, by simp only [radix]; omega, .inl ⟨rfl, s, h, rfl, rfl⟩⟩
    · exact ⟨0, 0, some 19, by decide, .inr (.inl ⟨rfl, h⟩)⟩
    · exact ⟨0, 0, some 18, by decide, .inr (.inr ⟨rfl, h⟩)⟩
  obtain ⟨x2, t2, p1, hx1, hp1⟩ : ∃ (x t : Int) (p : Option Nat), (0 ≤ x ∧ x ≤ 4294967295) ∧ ((p = none ∧ ∃ s, VC n1_0 n1_1 n1_2 n1_3 n1_4 s ∧ x = radix n1_0 n1_1 n1_2 n1_3 n1_4 ∧ strNo s = t) ∨ (p = some 19 ∧ ErrIs 19 n1_0 n1_1 n1_2 n1_3 n1_4) ∨ (p = some 18 ∧ ErrIs 18 n1_0 n1_1 n1_2 n1_3 n1_4)) := by
    rcases A1 with ⟨s, h⟩ | h | h
    · have hb := h.bd
      exact ⟨radix n1_0 n1_1 n1_2 n1_3 n1_4, strNo s, none, by simp only [radix]; omega, .inl ⟨rfl, s, h, rfl, rfl⟩⟩
    · exact ⟨0, 0, some 19, by decide, .inr (.inl ⟨rfl, h⟩)⟩
    · exact ⟨0, 0, some 18, by decide, .inr (.inr ⟨rfl, h⟩)⟩
  have hkn : Known2 (sb n0_0 n0_1 n0_2 n0_3 n0_4 n1_0 n1_1 n1_2 n1_3 n1_4 n2 x1 x2 k0 k1 k2 k3 k4 t1 t2) rgG [] := kb ⟨lo0_0, hi0_0⟩ ⟨lo0_1, hi0_1⟩ ⟨lo0_2, hi0_2⟩ ⟨lo0_3, hi0_3⟩ ⟨lo0_4, hi0_4⟩ ⟨lo1_0, hi1_0⟩ ⟨lo1_1, hi1_1⟩ ⟨lo1_2, hi1_2⟩ ⟨lo1_3, hi1_3⟩ ⟨lo1_4, hi1_4⟩ ⟨by omega, by omega⟩ ⟨by omega, by omega⟩ ⟨by omega, by omega⟩ ⟨by omega, by omega⟩ ⟨by omega, by omega⟩ ⟨lo2, hi2⟩ hx0 hx1
  have T0 : Told (sb n0_0 n0_1 n0_2 n0_3 n0_4 n1_0 n1_1 n1_2 n1_3 n1_4 n2 x1 x2 k0 k1 k2 k3 k4 t1 t2) 0 11 18 p0 := by
    rcases hp0 with ⟨rfl, s, h, e1, e2⟩ | ⟨rfl, h⟩ | ⟨rfl, h⟩
    · exact .right (t := s) h e1 e2
    · exact .err (by decide) h
    · exact .err (by decide) h
  have o0 : p0 = none ∨ p0 = some 19 ∨ p0 = some 18 := by
    rcases hp0 with ⟨h, _⟩ | ⟨h, _⟩ | ⟨h, _⟩
    · exact .inl h
    · exact .inr (.inl h)
    · exact .inr (.inr h)
  have T1 : Told (sb n0_0 n0_1 n0_2 n0_3 n0_4 n1_0 n1_1 n1_2 n1_3 n1_4 n2 x1 x2 k0 k1 k2 k3 k4 t1 t2) 5 12 19 p1 := by
    rcases hp1 with ⟨rfl, s, h, e1, e2⟩ | ⟨rfl, h⟩ | ⟨rfl, h⟩
    · exact .right (t := s) h e1 e2
    · exact .err (by decide) h
    · exact .err (by decide) h
  have o1 : p1 = none ∨ p1 = some 19 ∨ p1 = some 18 := by
    rcases hp1 with ⟨h, _⟩ | ⟨h, _⟩ | ⟨h, _⟩
    · exact .inl h
    · exact .inr (.inl h)
    · exact .inr (.inr h)
  have TW : ToldW (sb n0_0 n0_1 n0_2 n0_3 n0_4 n1_0 n1_1 n1_2 n1_3 n1_4 n2 x1 x2 k0 k1 k2 k3 k4 t1 t2) t := by
    rcases hW with ⟨rfl, h⟩ | ⟨rfl, s, h, e⟩
    · exact .no h
    · exact .yes (t := s) h e
  exact law hL hkn o0 o1 T0 T1 TW (fun ρ => VRs.cons (vrs_ag rfl rfl rfl rfl rfl) (VRs.cons (vrs_ag rfl rfl rfl rfl rfl) (VRs.cons (by simp [VR, E.den, sb]) VRs.nil)))
set_option maxHeartbeats 4000000 in
theorem contract (H : Type) (enc : TypeId × Value → H) (W : World) (base : Nat) (args : Array Value) (ds gs : List (DataW H)) (before : List MemPlace)
    (hval : ∀ (j : Nat) t v, Tryd.f4.params[j]? = some t → args[j]? = some v → Value.okWide Tryd.prog W .any base t v)
    (hW : DataW.Whole enc Tryd.prog Tryd.f4.params.toList Rows.codeBackSpec.vars false W args.toList ds gs before) (hL : laidMetH Tryd.prog Rows.codeBackRow.laid W) :
    Calls Tryd.prog 4 args W fun e W' => ∃ v, e = .returned v ∧ Rows.codeBackSpec.post enc Tryd.prog Tryd.f4 false true false false W args v W' := by
  have hW' := hW
  obtain ⟨p, q, hA0, hV, rfl, hfz, hnd⟩ := hW
  have hA : DataW.TrodAll enc Tryd.prog W 0 (fun _ => true) true Tryd.f4.params.toList args.toList ds p := hA0
  rw [Tryd.params4] at hA hval
  obtain ⟨v0, vs0, d0, ds0, p0, q0, hargs, rfl, rfl, h0, r0⟩ := trodAll_cons hA
  obtain ⟨v1, vs1, d1, ds1, p1, q1, rfl, rfl, rfl, h1, r1⟩ := trodAll_cons r0
  obtain ⟨v2, vs2, d2, ds2, p2, q2, rfl, rfl, rfl, h2, r2⟩ := trodAll_cons r1
  obtain ⟨rfl, rfl, rfl⟩ := trodAll_nil r2
  obtain rfl : args = #[v0, v1, v2] := by cases args; simp_all
  obtain ⟨rfl, rfl⟩ := trodVars_none hV
  have k0 := h0
  have k1 := h1
  have k2 := h2
  obtain ⟨n0_0, n0_1, n0_2, n0_3, n0_4, rfl, hn0_0, hn0_1, hn0_2, hn0_3, hn0_4⟩ := open_instr Tryd.underlying23 (show Tryd.prog.cellsOf 23 = 5 by kernel_rfl) ⟨rfl, rfl, rfl, rfl, rfl⟩ ⟨rfl, rfl, rfl⟩ Tryd.underlying3 Tryd.underlying3 (show Tryd.prog.cellsOf 3 = 1 by kernel_rfl) (show Tryd.prog.cellsOf 3 = 1 by kernel_rfl) (hval 0 23 v0 rfl rfl) h0
  obtain ⟨n1_0, n1_1, n1_2, n1_3, n1_4, rfl, hn1_0, hn1_1, hn1_2, hn1_3, hn1_4⟩ := open_instr Tryd.underlying23 (show Tryd.prog.cellsOf 23 = 5 by kernel_rfl) ⟨rfl, rfl, rfl, rfl, rfl⟩ ⟨rfl, rfl, rfl⟩ Tryd.underlying3 Tryd.underlying3 (show Tryd.prog.cellsOf 3 = 1 by kernel_rfl) (show Tryd.prog.cellsOf 3 = 1 by kernel_rfl) (hval 1 23 v1 rfl rfl) h1
  obtain ⟨n2, rfl, rfl, rfl, hn2⟩ := open_int Tryd.underlying24 (hval 2 24 v2 rfl rfl) h2
  clear hA0
  refine (walk W n0_0 hn0_0 n0_1 hn0_1 n0_2 hn0_2 n0_3 hn0_3 n0_4 hn0_4 n1_0 hn1_0 n1_1 hn1_1 n1_2 hn1_2 n1_3 hn1_3 n1_4 hn1_4 n2 hn2 hL).mono fun e W' hh => ?_
  obtain ⟨he, hg⟩ := hh
  subst he
  have hlt := hW'.lt
  exact ⟨_, rfl, _, _, _, [], _, [], hW', trodAll_cons_mk (shut_bool Tryd.underlying4 _) trodAll_mk0, trodAll_cons_mk (Below.trod lay_out (by kernel_rfl) (of_decide_eq_true (by kernel_rfl)) k0 hg (fun x hx => (by have := hlt x (by simp [hx]); simpa using this))) (trodAll_cons_mk (Below.trod lay_out (by kernel_rfl) (of_decide_eq_true (by kernel_rfl)) k1 hg (fun x hx => (by have := hlt x (by simp [hx]); simpa using this))) (trodAll_cons_mk (shut_int Tryd.underlying24 hn2) trodAll_mk0)), rfl, hg.frame _, fun h => Bool.noConfusion h⟩
theorem laid_met (os : Os) : laidMetH Tryd.prog Rows.codeBackRow.laid ((World.laidAll Tryd.prog os Rows.codeBackRow.laid).forCall (fun _ _ => 0) ⟨#[], #[.agg #[.int .i64 0, .int .i64 0, .int .i64 0, .int .i64 0, .int .i64 0], .agg #[.int .i64 0, .int .i64 0, .int .i64 0, .int .i64 0, .int .i64 0], .int .u32 0], []⟩).memory := by
  rw [MakeChecks.laidMetH_plain _ _ _ (by kernel_rfl)]
  exact laidMet_laidAll _ (by kernel_rfl) (by kernel_rfl)
theorem reads (os : Os) {H : Type} (enc : TypeId × Value → H) : ∃ places, DataW.whole enc Tryd.prog ((World.laidAll Tryd.prog os Rows.codeBackRow.laid).forCall (fun _ _ => 0) ⟨#[], #[.agg #[.int .i64 0, .int .i64 0, .int .i64 0, .int .i64 0, .int .i64 0], .agg #[.int .i64 0, .int .i64 0, .int .i64 0, .int .i64 0, .int .i64 0], .int .u32 0], []⟩).memory Tryd.f4.params.toList Rows.codeBackSpec.vars false #[Value.agg #[.int .i64 0, .int .i64 0, .int .i64 0, .int .i64 0, .int .i64 0], .agg #[.int .i64 0, .int .i64 0, .int .i64 0, .int .i64 0, .int .i64 0], .int .u32 0].toList 8 = some ([.agg [.lit (.int .i64 0), .lit (.int .i64 0), .lit (.int .i64 0), .lit (.int .i64 0), .lit (.int .i64 0)], .agg [.lit (.int .i64 0), .lit (.int .i64 0), .lit (.int .i64 0), .lit (.int .i64 0), .lit (.int .i64 0)], .lit (.int .u32 0)], [], places) :=
  ⟨[], by kernel_rfl⟩
theorem lifted (os : Os) (started : os.Started) (H : Type) (enc : TypeId × Value → H) (F : Stop.Interp) :
    ReturnsInHanded {} Tryd.checked os 4 .any ((OpenSpec.ofChange Rows.codeBackSpec).preRow enc Tryd.prog Tryd.f4 Rows.codeBackRow.domain false Rows.codeBackRow.laid) (((OpenSpec.ofChange Rows.codeBackSpec).at F).post enc Tryd.prog Tryd.f4 false true false false) := by
  obtain ⟨places, hx⟩ := reads os enc
  refine returnsInHanded_of_row (C := Tryd.checked) (s := OpenSpec.ofChange Rows.codeBackSpec) own started (by kernel_rfl) Tryd.func4
    (witness_row_atRef (enc := enc) (C := Tryd.checked) false (World.laidAll Tryd.prog os Rows.codeBackRow.laid) #[.agg #[.int .i64 0, .int .i64 0, .int .i64 0, .int .i64 0, .int .i64 0], .agg #[.int .i64 0, .int .i64 0, .int .i64 0, .int .i64 0, .int .i64 0], .int .u32 0] (World.laidAll_os _ _ _) (by kernel_rfl) (by kernel_rfl) (by kernel_rfl)
      (OpenSpec.preRow_of_cond 8 hx (by kernel_rfl) (fun k hk => by cases hk) (by kernel_rfl) (laid_met os))) ?_
  intro W base args ds gs before hval hW _ _ _ hL _ _
  exact contract H enc W base args ds gs before hval hW hL
set_option maxHeartbeats 4000000 in
theorem joined : joinedFacts Tryd.pinned.checked.prog 4 Tryd.f4 (OpenSpec.ofChange Rows.codeBackSpec).bare Rows.codeBackRow = true := by
  unfold joinedFacts
  simp only [Bool.and_eq_true]
  repeat' apply And.intro
  all_goals (as_aux_lemma => kernel_rfl)
theorem said : Rows.CodeBackSaid :=
  OpenClaim.holds_of_cond 4 Tryd.f4 rfl rfl rfl rfl rfl rfl rfl ⟨rfl, rfl, rfl, rfl, rfl⟩ rfl rfl rfl rfl rfl (by kernel_rfl) Tryd.func4 joined
    (of_decide_eq_true (by kernel_rfl)) (by unfold Func.isWrapper; first | (rw [if_pos (by decide +kernel)]; kernel_rfl) | (rw [if_neg (by decide +kernel)]; exact ⟨rfl, rfl⟩))
    (fun os started H enc _ F => by rw [OpenClaim.pre_eq_preRow]; exact lifted os started H enc F)
theorem plain (f : FuncId) (fn : Func) (hf : Tryd.pinned.checked.prog.funcNamed "turnkey/turnkeylaw14.CodeBack" = some f) (hfn : Tryd.pinned.checked.prog.funcs[f]? = some fn) :
    true = Tryd.pinned.checked.prog.looks [] ∧ ∀ (j : Nat) t, fn.params[j]? = some t → Tryd.pinned.checked.prog.wantsStandIn t = false := by
  obtain rfl : f = 4 := Option.some.inj ((show Tryd.prog.funcNamed "turnkey/turnkeylaw14.CodeBack" = some 4 by kernel_rfl).symm.trans hf) |>.symm
  obtain rfl : fn = Tryd.f4 := (Option.some.inj (Tryd.func4.symm.trans hfn)).symm
  refine ⟨by kernel_rfl, fun j t ht => ?_⟩
  rw [Tryd.params4] at ht
  have hm := Array.mem_of_getElem? ht
  have hall : ∀ t, t ∈ #[(23 : TypeId), (23 : TypeId), (24 : TypeId)] → Tryd.prog.wantsStandIn t = false := by
    intro t h
    simp only [List.mem_toArray, List.mem_cons, List.not_mem_nil, or_false] at h
    rcases h with rfl | rfl | rfl
    · exact (show Tryd.prog.wantsStandIn 23 = false by kernel_rfl)
    · exact (show Tryd.prog.wantsStandIn 23 = false by kernel_rfl)
    · exact (show Tryd.prog.wantsStandIn 24 = false by kernel_rfl)
  exact hall t hm
theorem card : Rows.CodeBackCardSaid :=
  Claim7.holds_tied_plain_at .later [] _ _ _ _ said (fun _ h => by cases h) (by as_aux_lemma => kernel_rfl) (fun _ h => by cases h) codeBack_row_tie rfl ⟨rfl, rfl⟩ (by as_aux_lemma => kernel_rfl) rfl plain (by as_aux_lemma => kernel_rfl)
end Go.Proofs.YtphhnhheedbjjaaDoor.codeBack
