/- BankRoom returns true for every n, and the input reads as it did; the listed errors hold what the program's text lays. -/
import Derived.Test.YtflipohebkkkbaaDoorEvSeat
import Derived.Deep.DeepWitnessRowRef
import Derived.Lay
set_option linter.unusedVariables false
set_option linter.unusedSimpArgs false
set_option maxRecDepth 10000000
namespace Go.Proofs.YtflipohebkkkbaaDoor.bankRoom
open Tk
open Go.ChangeShapes Go.WideShapes Go.ChangeAt Go.RowKit

theorem own : ownKnob Tryd.prog.godebug = none := by kernel_rfl
theorem run0 : isTrue (evCall (lawCx Tryd.prog 15 [(0, 6, 0)]) 1000 60 7 [.int .i64 (.var 0)] (sentH 199 12 errTab)) = true := by kernel_rfl
theorem run1 : isTrue (evCall (lawCx Tryd.prog 15 [(0, 6, 1)]) 1000 60 7 [.int .i64 (.var 0)] (sentH 199 12 errTab)) = true := by kernel_rfl
theorem run2 : isTrue (evCall (lawCx Tryd.prog 15 [(0, 6, 2)]) 1000 60 7 [.int .i64 (.var 0)] (sentH 199 12 errTab)) = true := by kernel_rfl
theorem run3 : isTrue (evCall (lawCx Tryd.prog 15 [(0, 6, 3)]) 1000 60 7 [.int .i64 (.var 0)] (sentH 199 12 errTab)) = true := by kernel_rfl
theorem run4 : isTrue (evCall (lawCx Tryd.prog 15 [(0, 6, 4)]) 1000 60 7 [.int .i64 (.var 0)] (sentH 199 12 errTab)) = true := by kernel_rfl
theorem run5 : isTrue (evCall (lawCx Tryd.prog 15 [(0, 6, 5)]) 1000 60 7 [.int .i64 (.var 0)] (sentH 199 12 errTab)) = true := by kernel_rfl
theorem runs (c : Int) (h0 : 0 ≤ c) (h1 : c < 6) : isTrue (evCall (lawCx Tryd.prog 15 [(0, 6, c)]) 1000 60 7 [.int .i64 (.var 0)] (sentH 199 12 errTab)) = true := by
  have h : c = 0 ∨ c = 1 ∨ c = 2 ∨ c = 3 ∨ c = 4 ∨ c = 5 := by omega
  rcases h with rfl | rfl | rfl | rfl | rfl | rfl
  · exact run0
  · exact run1
  · exact run2
  · exact run3
  · exact run4
  · exact run5
theorem walk (W : World) (n : Int) (hn : (Lit.int .i64 n).wf = true) (hL : laidMetH Tryd.prog laidErrs W) : Calls Tryd.prog 7 #[.int .i64 n] W fun e w' => e = .returned (.bool true) ∧ Below W.heap.size W w' := by
  obtain ⟨ads, h1, h2, h3⟩ := errs_sents hL
  simp only [Lit.wf, Bool.and_eq_true, decide_eq_true_eq] at hn
  have hlo : -9223372036854775808 ≤ n := hn.1
  have hhi : n ≤ 9223372036854775807 := hn.2
  obtain ⟨c0, c1⟩ := numOf_range n 6 (by decide)
  refine law_case (σ := fun _ => n) (tab := [(0, 6, numOf n 6)]) (vs := [.int .i64 (.var 0)]) mixed body_ok h1 h2 h3 errs_all errs_lt ?_ (fun ρ => VRs.cons (by simp [VR, E.den]) VRs.nil) ⟨_, Tryd.func7, rfl⟩ (runs _ c0 c1)
  intro i k c hm
  simp only [List.mem_singleton, Prod.mk.injEq] at hm
  obtain ⟨rfl, rfl, rfl⟩ := hm
  exact ⟨num6, by decide, by decide, hlo, hhi, rfl⟩
theorem contract (H : Type) (enc : TypeId × Value → H) (W : World) (base : Nat) (args : Array Value) (ds gs : List (DataW H)) (before : List MemPlace)
    (hval : ∀ (j : Nat) t v, Tryd.f7.params[j]? = some t → args[j]? = some v → Value.okWide Tryd.prog W .any base t v)
    (hW : DataW.Whole enc Tryd.prog Tryd.f7.params.toList Rows.bankRoomSpec.vars false W args.toList ds gs before) (hL : laidMetH Tryd.prog Rows.bankRoomRow.laid W) :
    Calls Tryd.prog 7 args W fun e W' => ∃ v, e = .returned v ∧ Rows.bankRoomSpec.post enc Tryd.prog Tryd.f7 false true false false W args v W' := by
  have hW' := hW
  obtain ⟨p, q, hA0, hV, rfl, hfz, hnd⟩ := hW
  have hA : DataW.TrodAll enc Tryd.prog W 0 (fun _ => true) true Tryd.f7.params.toList args.toList ds p := hA0
  rw [Tryd.params7] at hA hval
  obtain ⟨v0, vs0, d0, ds0, p0, q0, hargs, rfl, rfl, h0, r0⟩ := trodAll_cons hA
  obtain ⟨rfl, rfl, rfl⟩ := trodAll_nil r0
  obtain rfl : args = #[v0] := by cases args; simp_all
  obtain ⟨rfl, rfl⟩ := trodVars_none hV
  obtain ⟨n, rfl, rfl, rfl, hn⟩ := open_int Tryd.underlying3 (hval 0 3 v0 rfl rfl) h0
  clear hA0
  simp only [List.append_nil] at hW'
  refine (walk W n hn hL).mono fun e W' hh => ?_
  obtain ⟨he, hg⟩ := hh
  subst he
  exact ⟨_, rfl, _, _, _, [], [], [], hW', trodAll_cons_mk (shut_bool Tryd.underlying4 _) trodAll_mk0, trodAll_cons_mk (shut_int Tryd.underlying3 hn) trodAll_mk0, rfl, hg.frame _, fun h => Bool.noConfusion h⟩
theorem laid_met (os : Os) : laidMetH Tryd.prog Rows.bankRoomRow.laid ((World.laidAll Tryd.prog os Rows.bankRoomRow.laid).forCall (fun _ _ => 0) ⟨#[], #[.int .i64 0], []⟩).memory := by
  rw [MakeChecks.laidMetH_plain _ _ _ (by kernel_rfl)]
  exact laidMet_laidAll _ (by kernel_rfl) (by kernel_rfl)
theorem reads (os : Os) {H : Type} (enc : TypeId × Value → H) : ∃ places, DataW.whole enc Tryd.prog ((World.laidAll Tryd.prog os Rows.bankRoomRow.laid).forCall (fun _ _ => 0) ⟨#[], #[.int .i64 0], []⟩).memory Tryd.f7.params.toList Rows.bankRoomSpec.vars false #[Value.int .i64 0].toList 8 = some ([.lit (.int .i64 0)], [], places) :=
  ⟨[], by kernel_rfl⟩
theorem lifted (os : Os) (started : os.Started) (H : Type) (enc : TypeId × Value → H) (F : Stop.Interp) :
    ReturnsInHanded {} Tryd.checked os 7 .any ((OpenSpec.ofChange Rows.bankRoomSpec).preRow enc Tryd.prog Tryd.f7 Rows.bankRoomRow.domain false Rows.bankRoomRow.laid) (((OpenSpec.ofChange Rows.bankRoomSpec).at F).post enc Tryd.prog Tryd.f7 false true false false) := by
  obtain ⟨places, hx⟩ := reads os enc
  refine returnsInHanded_of_row (C := Tryd.checked) (s := OpenSpec.ofChange Rows.bankRoomSpec) own started (by kernel_rfl) Tryd.func7
    (witness_row_atRef (enc := enc) (C := Tryd.checked) false (World.laidAll Tryd.prog os Rows.bankRoomRow.laid) #[.int .i64 0] (World.laidAll_os _ _ _) (by kernel_rfl) (by kernel_rfl) (by kernel_rfl)
      (OpenSpec.preRow_of_cond 8 hx (by kernel_rfl) (fun k hk => by cases hk) (by kernel_rfl) (laid_met os))) ?_
  intro W base args ds gs before hval hW _ _ _ hL _ _
  exact contract H enc W base args ds gs before hval hW hL
theorem said : Rows.BankRoomSaid :=
  OpenClaim.holds_of_cond 7 Tryd.f7 rfl rfl rfl rfl rfl rfl rfl ⟨rfl, rfl, rfl, rfl, rfl⟩ rfl rfl rfl rfl rfl (by kernel_rfl) Tryd.func7 (by kernel_rfl)
    (of_decide_eq_true (by kernel_rfl)) (by unfold Func.isWrapper; first | (rw [if_pos (by decide +kernel)]; kernel_rfl) | (rw [if_neg (by decide +kernel)]; exact ⟨rfl, rfl⟩))
    (fun os started H enc _ F => by rw [OpenClaim.pre_eq_preRow]; exact lifted os started H enc F)
theorem plain (f : FuncId) (fn : Func) (hf : Tryd.pinned.checked.prog.funcNamed "turnkey/turnkeylaw18.BankRoom" = some f) (hfn : Tryd.pinned.checked.prog.funcs[f]? = some fn) :
    true = Tryd.pinned.checked.prog.looks [] ∧ ∀ (j : Nat) t, fn.params[j]? = some t → Tryd.pinned.checked.prog.wantsStandIn t = false := by
  obtain rfl : f = 7 := Option.some.inj ((show Tryd.prog.funcNamed "turnkey/turnkeylaw18.BankRoom" = some 7 by kernel_rfl).symm.trans hf) |>.symm
  obtain rfl : fn = Tryd.f7 := (Option.some.inj (Tryd.func7.symm.trans hfn)).symm
  refine ⟨by kernel_rfl, fun j t ht => ?_⟩
  rw [Tryd.params7] at ht
  obtain rfl : t = 3 := by simpa using Array.mem_of_getElem? ht
  exact (show Tryd.prog.wantsStandIn 3 = false by kernel_rfl)
theorem card : Rows.BankRoomCardSaid :=
  Claim7.holds_tied_plain_at .later [] _ _ _ _ said (fun _ h => by cases h) (by kernel_rfl) (fun _ h => by cases h) bankRoom_row_tie rfl ⟨rfl, rfl⟩ (by kernel_rfl) rfl plain (by kernel_rfl)
end Go.Proofs.YtflipohebkkkbaaDoor.bankRoom
