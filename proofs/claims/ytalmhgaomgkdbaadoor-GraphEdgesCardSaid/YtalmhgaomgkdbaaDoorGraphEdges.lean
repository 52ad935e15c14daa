/- GraphEdges returns true for every input, and the input reads as it did; the listed errors hold what the program text lays. -/
import Derived.Test.YtalmhgaomgkdbaaDoorGeK1
import Derived.Deep.DeepWitnessRowRef
import Derived.Lay
set_option linter.unusedVariables false
set_option linter.unusedSimpArgs false
set_option maxRecDepth 10000000
namespace Go.Proofs.YtalmhgaomgkdbaaDoor.graphEdges
open Tk
open Go.ChangeShapes Go.WideShapes Go.ChangeAt Go.RowKit

theorem own : ownKnob Tryd.prog.godebug = none := by kernel_rfl
def sg (n0 : Int) (n1 : Int) : Nat → Int := fun i => if i = 0 then n0 else if i = 1 then n1 else 0
theorem walk (W : World) (n0 : Int) (hn0 : (Lit.int .i64 n0).wf = true) (n1 : Int) (hn1 : (Lit.int .i64 n1).wf = true) (n2 : Bool) (hL : laidMetH Tryd.prog laidErrs W) : Calls Tryd.prog 4 #[.int .i64 n0, .int .i64 n1, .bool n2] W fun e w' => e = .returned (.bool true) ∧ Below W.heap.size W w' := by
  simp only [Lit.wf, Bool.and_eq_true, decide_eq_true_eq] at hn0
  have lo0 : -9223372036854775808 ≤ n0 := hn0.1
  have hi0 : n0 ≤ 9223372036854775807 := hn0.2
  simp only [Lit.wf, Bool.and_eq_true, decide_eq_true_eq] at hn1
  have lo1 : -9223372036854775808 ≤ n1 := hn1.1
  have hi1 : n1 ≤ 9223372036854775807 := hn1.2
  obtain ⟨a1, b1⟩ := numOf_range n0 4 (by decide)
  have e1 : numOf n0 4 = 0 ∨ numOf n0 4 = 1 ∨ numOf n0 4 = 2 ∨ numOf n0 4 = 3 := by omega
  rcases e1 with e1 | e1 | e1 | e1
  ·
    obtain ⟨a2, b2⟩ := numOf_range n1 2 (by decide)
    have e2 : numOf n1 2 = 0 ∨ numOf n1 2 = 1 := by omega
    rcases e2 with e2 | e2
    ·
      cases n2
      ·
        exact case0 (σ := (sg n0 n1)) hL (Known2.nil _) (TabOk.cons num4 (by decide) (by decide) lo0 hi0 e1 (TabOk.cons num2 (by decide) (by decide) lo1 hi1 e2 (TabOk.nil))) (fun ρ => VRs.cons (by simp [VR, E.den, bT, bF, sg]) (VRs.cons (by simp [VR, E.den, bT, bF, sg]) (VRs.cons (by simp [VR, E.den, bT, bF, sg]) (VRs.nil))))
      ·
        exact case1 (σ := (sg n0 n1)) hL (Known2.nil _) (TabOk.cons num4 (by decide) (by decide) lo0 hi0 e1 (TabOk.cons num2 (by decide) (by decide) lo1 hi1 e2 (TabOk.nil))) (fun ρ => VRs.cons (by simp [VR, E.den, bT, bF, sg]) (VRs.cons (by simp [VR, E.den, bT, bF, sg]) (VRs.cons (by simp [VR, E.den, bT, bF, sg]) (VRs.nil))))
    ·
      cases n2
      ·
        exact case2 (σ := (sg n0 n1)) hL (Known2.nil _) (TabOk.cons num4 (by decide) (by decide) lo0 hi0 e1 (TabOk.cons num2 (by decide) (by decide) lo1 hi1 e2 (TabOk.nil))) (fun ρ => VRs.cons (by simp [VR, E.den, bT, bF, sg]) (VRs.cons (by simp [VR, E.den, bT, bF, sg]) (VRs.cons (by simp [VR, E.den, bT, bF, sg]) (VRs.nil))))
      ·
        exact case3 (σ := (sg n0 n1)) hL (Known2.nil _) (TabOk.cons num4 (by decide) (by decide) lo0 hi0 e1 (TabOk.cons num2 (by decide) (by decide) lo1 hi1 e2 (TabOk.nil))) (fun ρ => VRs.cons (by simp [VR, E.den, bT, bF, sg]) (VRs.cons (by simp [VR, E.den, bT, bF, sg]) (VRs.cons (by simp [VR, E.den, bT, bF, sg]) (VRs.nil))))
  ·
    obtain ⟨a3, b3⟩ := numOf_range n1 2 (by decide)
    have e3 : numOf n1 2 = 0 ∨ numOf n1 2 = 1 := by omega
    rcases e3 with e3 | e3
    ·
      cases n2
      ·
        exact case4 (σ := (sg n0 n1)) hL (Known2.nil _) (TabOk.cons num4 (by decide) (by decide) lo0 hi0 e1 (TabOk.cons num2 (by decide) (by decide) lo1 hi1 e3 (TabOk.nil))) (fun ρ => VRs.cons (by simp [VR, E.den, bT, bF, sg]) (VRs.cons (by simp [VR, E.den, bT, bF, sg]) (VRs.cons (by simp [VR, E.den, bT, bF, sg]) (VRs.nil))))
      ·
        exact case5 (σ := (sg n0 n1)) hL (Known2.nil _) (TabOk.cons num4 (by decide) (by decide) lo0 hi0 e1 (TabOk.cons num2 (by decide) (by decide) lo1 hi1 e3 (TabOk.nil))) (fun ρ => VRs.cons (by simp [VR, E.den, bT, bF, sg]) (VRs.cons (by simp [VR, E.den, bT, bF, sg]) (VRs.cons (by simp [VR, E.den, bT, bF, sg]) (VRs.nil))))
    ·
      cases n2
      ·
        exact case6 (σ := (sg n0 n1)) hL (Known2.nil _) (TabOk.cons num4 (by decide) (by decide) lo0 hi0 e1 (TabOk.cons num2 (by decide) (by decide) lo1 hi1 e3 (TabOk.nil))) (fun ρ => VRs.cons (by simp [VR, E.den, bT, bF, sg]) (VRs.cons (by simp [VR, E.den, bT, bF, sg]) (VRs.cons (by simp [VR, E.den, bT, bF, sg]) (VRs.nil))))
      ·
        exact case7 (σ := (sg n0 n1)) hL (Known2.nil _) (TabOk.cons num4 (by decide) (by decide) lo0 hi0 e1 (TabOk.cons num2 (by decide) (by decide) lo1 hi1 e3 (TabOk.nil))) (fun ρ => VRs.cons (by simp [VR, E.den, bT, bF, sg]) (VRs.cons (by simp [VR, E.den, bT, bF, sg]) (VRs.cons (by simp [VR, E.den, bT, bF, sg]) (VRs.nil))))
  ·
    obtain ⟨a4, b4⟩ := numOf_range n1 2 (by decide)
    have e4 : numOf n1 2 = 0 ∨ numOf n1 2 = 1 := by omega
    rcases e4 with e4 | e4
    ·
      cases n2
      ·
        exact case8 (σ := (sg n0 n1)) hL (Known2.nil _) (TabOk.cons num4 (by decide) (by decide) lo0 hi0 e1 (TabOk.cons num2 (by decide) (by decide) lo1 hi1 e4 (TabOk.nil))) (fun ρ => VRs.cons (by simp [VR, E.den, bT, bF, sg]) (VRs.cons (by simp [VR, E.den, bT, bF, sg]) (VRs.cons (by simp [VR, E.den, bT, bF, sg]) (VRs.nil))))
      ·
        exact case9 (σ := (sg n0 n1)) hL (Known2.nil _) (TabOk.cons num4 (by decide) (by decide) lo0 hi0 e1 (TabOk.cons num2 (by decide) (by decide) lo1 hi1 e4 (TabOk.nil))) (fun ρ => VRs.cons (by simp [VR, E.den, bT, bF, sg]) (VRs.cons (by simp [VR, E.den, bT, bF, sg]) (VRs.cons (by simp [VR, E.den, bT, bF, sg]) (VRs.nil))))
    ·
      cases n2
      ·
        exact case10 (σ := (sg n0 n1)) hL (Known2.nil _) (TabOk.cons num4 (by decide) (by decide) lo0 hi0 e1 (TabOk.cons num2 (by decide) (by decide) lo1 hi1 e4 (TabOk.nil))) (fun ρ => VRs.cons (by simp [VR, E.den, bT, bF, sg]) (VRs.cons (by simp [VR, E.den, bT, bF, sg]) (VRs.cons (by simp [VR, E.den, bT, bF, sg]) (VRs.nil))))
      ·
        exact case11 (σ := (sg n0 n1)) hL (Known2.nil _) (TabOk.cons num4 (by decide) (by decide) lo0 hi0 e1 (TabOk.cons num2 (by decide) (by decide) lo1 hi1 e4 (TabOk.nil))) (fun ρ => VRs.cons (by simp [VR, E.den, bT, bF, sg]) (VRs.cons (by simp [VR, E.den, bT, bF, sg]) (VRs.cons (by simp [VR, E.den, bT, bF, sg]) (VRs.nil))))
  ·
    obtain ⟨a5, b5⟩ := numOf_range n1 2 (by decide)
    have e5 : numOf n1 2 = 0 ∨ numOf n1 2 = 1 := by omega
    rcases e5 with e5 | e5
    ·
      cases n2
      ·
        exact case12 (σ := (sg n0 n1)) hL (Known2.nil _) (TabOk.cons num4 (by decide) (by decide) lo0 hi0 e1 (TabOk.cons num2 (by decide) (by decide) lo1 hi1 e5 (TabOk.nil))) (fun ρ => VRs.cons (by simp [VR, E.den, bT, bF, sg]) (VRs.cons (by simp [VR, E.den, bT, bF, sg]) (VRs.cons (by simp [VR, E.den, bT, bF, sg]) (VRs.nil))))
      ·
        exact case13 (σ := (sg n0 n1)) hL (Known2.nil _) (TabOk.cons num4 (by decide) (by decide) lo0 hi0 e1 (TabOk.cons num2 (by decide) (by decide) lo1 hi1 e5 (TabOk.nil))) (fun ρ => VRs.cons (by simp [VR, E.den, bT, bF, sg]) (VRs.cons (by simp [VR, E.den, bT, bF, sg]) (VRs.cons (by simp [VR, E.den, bT, bF, sg]) (VRs.nil))))
    ·
      cases n2
      ·
        exact case14 (σ := (sg n0 n1)) hL (Known2.nil _) (TabOk.cons num4 (by decide) (by decide) lo0 hi0 e1 (TabOk.cons num2 (by decide) (by decide) lo1 hi1 e5 (TabOk.nil))) (fun ρ => VRs.cons (by simp [VR, E.den, bT, bF, sg]) (VRs.cons (by simp [VR, E.den, bT, bF, sg]) (VRs.cons (by simp [VR, E.den, bT, bF, sg]) (VRs.nil))))
      ·
        exact case15 (σ := (sg n0 n1)) hL (Known2.nil _) (TabOk.cons num4 (by decide) (by decide) lo0 hi0 e1 (TabOk.cons num2 (by decide) (by decide) lo1 hi1 e5 (TabOk.nil))) (fun ρ => VRs.cons (by simp [VR, E.den, bT, bF, sg]) (VRs.cons (by simp [VR, E.den, bT, bF, sg]) (VRs.cons (by simp [VR, E.den, bT, bF, sg]) (VRs.nil))))
theorem contract (H : Type) (enc : TypeId × Value → H) (W : World) (base : Nat) (args : Array Value) (ds gs : List (DataW H)) (before : List MemPlace)
    (hval : ∀ (j : Nat) t v, Tryd.f4.params[j]? = some t → args[j]? = some v → Value.okWide Tryd.prog W .any base t v)
    (hW : DataW.Whole enc Tryd.prog Tryd.f4.params.toList Rows.graphEdgesSpec.vars false W args.toList ds gs before) (hL : laidMetH Tryd.prog Rows.graphEdgesRow.laid W) :
    Calls Tryd.prog 4 args W fun e W' => ∃ v, e = .returned v ∧ Rows.graphEdgesSpec.post enc Tryd.prog Tryd.f4 false true false false W args v W' := by
  have hW' := hW
  obtain ⟨p, q, hA0, hV, rfl, hfz, hnd⟩ := hW
  have hA : DataW.TrodAll enc Tryd.prog W 0 (fun _ => true) true Tryd.f4.params.toList args.toList ds p := hA0
  rw [Tryd.params4] at hA hval
  obtain ⟨v0, vs0, d0, ds0, p0, q0, hargs, rfl, rfl, h0, r0⟩ := trodAll_cons hA
  obtain ⟨v1, vs1, d1, ds1, p1, q1, rfl, rfl, rfl, h1, r1⟩ := trodAll_cons r0
  obtain ⟨v2, vs2, d2, ds2, p2, q2, rfl, rfl, rfl, h2, r2⟩ := trodAll_cons r1
  obtain ⟨rfl, rfl, rfl⟩ := trodAll_nil r2
  obtain rfl : args = #[v0, v1, v2] := by cases args; simp_all
  obtain ⟨rfl, rfl⟩ := trodVars_none hV
  obtain ⟨n0, rfl, rfl, rfl, hn0⟩ := open_int Tryd.underlying3 (hval 0 3 v0 rfl rfl) h0
  obtain ⟨n1, rfl, rfl, rfl, hn1⟩ := open_int Tryd.underlying3 (hval 1 3 v1 rfl rfl) h1
  obtain ⟨n2, rfl, rfl, rfl⟩ := open_bool Tryd.underlying4 (hval 2 4 v2 rfl rfl) h2
  clear hA0
  simp only [List.append_nil] at hW'
  refine (walk W n0 hn0 n1 hn1 n2 hL).mono fun e W' hh => ?_
  obtain ⟨he, hg⟩ := hh
  subst he
  exact ⟨_, rfl, _, _, _, [], [], [], hW', trodAll_cons_mk (shut_bool Tryd.underlying4 _) trodAll_mk0, trodAll_cons_mk (shut_int Tryd.underlying3 hn0) (trodAll_cons_mk (shut_int Tryd.underlying3 hn1) (trodAll_cons_mk (shut_bool Tryd.underlying4 _) trodAll_mk0)), rfl, hg.frame _, fun h => Bool.noConfusion h⟩
theorem laid_met (os : Os) : laidMetH Tryd.prog Rows.graphEdgesRow.laid ((World.laidAll Tryd.prog os Rows.graphEdgesRow.laid).forCall (fun _ _ => 0) ⟨#[], #[.int .i64 0, .int .i64 0, .bool false], []⟩).memory := by
  rw [MakeChecks.laidMetH_plain _ _ _ (by kernel_rfl)]
  exact laidMet_laidAll _ (by kernel_rfl) (by kernel_rfl)
theorem reads (os : Os) {H : Type} (enc : TypeId × Value → H) : ∃ places, DataW.whole enc Tryd.prog ((World.laidAll Tryd.prog os Rows.graphEdgesRow.laid).forCall (fun _ _ => 0) ⟨#[], #[.int .i64 0, .int .i64 0, .bool false], []⟩).memory Tryd.f4.params.toList Rows.graphEdgesSpec.vars false #[Value.int .i64 0, .int .i64 0, .bool false].toList 8 = some ([.lit (.int .i64 0), .lit (.int .i64 0), .lit (.bool false)], [], places) :=
  ⟨[], by kernel_rfl⟩
theorem lifted (os : Os) (started : os.Started) (H : Type) (enc : TypeId × Value → H) (F : Stop.Interp) :
    ReturnsInHanded {} Tryd.checked os 4 .any ((OpenSpec.ofChange Rows.graphEdgesSpec).preRow enc Tryd.prog Tryd.f4 Rows.graphEdgesRow.domain false Rows.graphEdgesRow.laid) (((OpenSpec.ofChange Rows.graphEdgesSpec).at F).post enc Tryd.prog Tryd.f4 false true false false) := by
  obtain ⟨places, hx⟩ := reads os enc
  refine returnsInHanded_of_row (C := Tryd.checked) (s := OpenSpec.ofChange Rows.graphEdgesSpec) own started (by kernel_rfl) Tryd.func4
    (witness_row_atRef (enc := enc) (C := Tryd.checked) false (World.laidAll Tryd.prog os Rows.graphEdgesRow.laid) #[.int .i64 0, .int .i64 0, .bool false] (World.laidAll_os _ _ _) (by kernel_rfl) (by kernel_rfl) (by kernel_rfl)
      (OpenSpec.preRow_of_cond 8 hx (by kernel_rfl) (fun k hk => by cases hk) (by kernel_rfl) (laid_met os))) ?_
  intro W base args ds gs before hval hW _ _ _ hL _ _
  exact contract H enc W base args ds gs before hval hW hL
theorem said : Rows.GraphEdgesSaid :=
  OpenClaim.holds_of_cond 4 Tryd.f4 rfl rfl rfl rfl rfl rfl rfl ⟨rfl, rfl, rfl, rfl, rfl⟩ rfl rfl rfl rfl rfl (by kernel_rfl) Tryd.func4 (by kernel_rfl)
    (of_decide_eq_true (by kernel_rfl)) (by unfold Func.isWrapper; first | (rw [if_pos (by decide +kernel)]; kernel_rfl) | (rw [if_neg (by decide +kernel)]; exact ⟨rfl, rfl⟩))
    (fun os started H enc _ F => by rw [OpenClaim.pre_eq_preRow]; exact lifted os started H enc F)
theorem plain (f : FuncId) (fn : Func) (hf : Tryd.pinned.checked.prog.funcNamed "turnkey/turnkeylaw25.GraphEdges" = some f) (hfn : Tryd.pinned.checked.prog.funcs[f]? = some fn) :
    false = Tryd.pinned.checked.prog.looks [] ∧ ∀ (j : Nat) t, fn.params[j]? = some t → Tryd.pinned.checked.prog.wantsStandIn t = false := by
  obtain rfl : f = 4 := Option.some.inj ((show Tryd.prog.funcNamed "turnkey/turnkeylaw25.GraphEdges" = some 4 by kernel_rfl).symm.trans hf) |>.symm
  obtain rfl : fn = Tryd.f4 := (Option.some.inj (Tryd.func4.symm.trans hfn)).symm
  refine ⟨by kernel_rfl, fun j t ht => ?_⟩
  rw [Tryd.params4] at ht
  have hm := Array.mem_of_getElem? ht
  have hall : ∀ t, t ∈ #[(3 : TypeId), (3 : TypeId), (4 : TypeId)] → Tryd.prog.wantsStandIn t = false := by
    intro t h
    simp only [List.mem_toArray, List.mem_cons, List.not_mem_nil, or_false] at h
    rcases h with rfl | rfl | rfl
    · exact (show Tryd.prog.wantsStandIn 3 = false by kernel_rfl)
    · exact (show Tryd.prog.wantsStandIn 3 = false by kernel_rfl)
    · exact (show Tryd.prog.wantsStandIn 4 = false by kernel_rfl)
  exact hall t hm
theorem card : Rows.GraphEdgesCardSaid :=
  Claim7.holds_tied_plain_at .later [] _ _ _ _ said (fun _ h => by cases h) (by kernel_rfl) (fun _ h => by cases h) graphEdges_row_tie rfl ⟨rfl, rfl⟩ (by kernel_rfl) rfl plain (by kernel_rfl)
end Go.Proofs.YtalmhgaomgkdbaaDoor.graphEdges
