/- Numbers cut to a range, told by expressions; a law's call with bounds and facts. -/
import Derived.Test.YtflipohebkkkbabDoorEvLaw3
set_option linter.unusedVariables false
set_option linter.unusedSimpArgs false
namespace Tk
open Go Go.RowKit
/-- what Number(var i, k) is: an expression -/
abbrev NumTabE := List (Nat × Int × E)
noncomputable def numLookE (i : Nat) (k : Int) : NumTabE → Option E
  | [] => none
  | (i', k', c) :: l => match Nat.beq i' i && eqI k' k with
    | true => some c
    | false => numLookE i k l
noncomputable def numExtE (tab : NumTabE) : List V → H → Option (V × H)
  | [.int .i64 (.var i), .int .i64 (.lit k)] => fun h => match numLookE i k tab with
    | some c => some (.int .i64 c, h)
    | none => none
  | _ => fun _ => none
theorem numLookE_mem {i : Nat} {k : Int} {c : E} : ∀ {l : NumTabE}, numLookE i k l = some c → (i, k, c) ∈ l
  | [], h => by cases h
  | (i', k', c') :: l, h => by
    simp only [numLookE] at h
    split at h
    · rename_i e
      simp only [Bool.and_eq_true, eqI_eq, decide_eq_true_eq] at e
      obtain ⟨e1, rfl⟩ := e
      have := beqN e1
      subst this
      cases h
      simp
    · exact List.mem_cons_of_mem _ (numLookE_mem h)
theorem num_ok_e {P : Program} {G : Nat} {σ : Nat → Int} {W0 : World} {f : FuncId} (hm : P.follows .mixedOrders = true) (hbody : ∀ (f : FuncId) (fn : Func), P.funcs[f]? = some fn → bodyOk G fn = true ∧ (fn.name == "runtime.NumGoroutine") = false)
    (tab : NumTabE) (htab : ∀ i k c, (i, k, c) ∈ tab → NumRuns P f k ∧ 0 < k ∧ k < 4611686018427387904 ∧ -9223372036854775808 ≤ σ i ∧ σ i ≤ 9223372036854775807 ∧ numOf (σ i) k = c.den σ) : CallOk P G σ W0 f (numExtE tab) := by
  intro vs xs h v h' ρ W e hv R g
  unfold numExtE at e
  split at e
  · rename_i i k
    split at e
    · rename_i c hl
      cases e
      obtain ⟨hruns, hk0, hk1, hlo, hhi, hc⟩ := htab i k c (numLookE_mem hl)
      obtain ⟨hT, hF⟩ := hruns h.next
      simp only [VRs] at hv
      obtain ⟨x1, _, hxs, hx1, x2, _, rfl, hx2, rfl⟩ := hv
      simp only [VR, E.den] at hx1 hx2
      subst hx1 hx2
      have hvs : VRs (fun _ => σ i) ρ [.int .i64 (.var 0), .int .i64 (.lit k)] xs.toList := by
        rw [hxs]
        exact VRs.cons (by simp [VR, E.den]) (VRs.cons (by simp [VR, E.den]) VRs.nil)
      have hR : Rel (fun _ => σ i) W0 ρ ⟨.lf, h.next⟩ W := by
        refine ⟨R.below, R.dom, R.blk, fun r o l hg => ?_, fun r r' o o' l l' hg => ?_⟩
        · have hg : (Tr.lf : Tr Ob).get r = some o := hg
          rw [Tr.get_lf] at hg; cases hg
        · have hg : (Tr.lf : Tr Ob).get r = some o := hg
          rw [Tr.get_lf] at hg; cases hg
      have fin : ∀ (t : Bool) (E' : E), decide ((σ i).tmod k < 0) = t → evCall (numCx P k t) 3 2 f [.int .i64 (.var 0), .int .i64 (.lit k)] ⟨.lf, h.next⟩ = some (.int .i64 E', ⟨.lf, h.next⟩) → E'.den (fun _ => σ i) = c.den σ →
          ∃ nx W1, (callFunc f xs).run P W = .ok nx W1 ∧
            ((nx = .enter f xs ∧ W1 = W ∧ Calls P f xs W (fun e w' => ∃ x ρ', e = .returned x ∧ VR σ ρ' (.int .i64 c) x ∧ Stp σ W0 ρ h W ρ' h w')) ∨
             (∃ x ρ', nx = .value x ∧ VR σ ρ' (.int .i64 c) x ∧ Stp σ W0 ρ h W ρ' h W1)) := by
        intro t E' ht hrun hden
        have Gd : GoodCx (fun _ => σ i) (numCx P k t) := by
          refine ⟨fun j lo hi hj => ?_, fun q a b u hm => ?_⟩
          · simp only [numCx] at hj
            cases j with
            | zero => simp at hj; obtain ⟨rfl, rfl⟩ := hj; exact ⟨hlo, hhi⟩
            | succ j => simp at hj
          · simp only [numCx, List.mem_singleton, Prod.mk.injEq] at hm
            obtain ⟨rfl, rfl, rfl, rfl⟩ := hm
            simp only [E.den, bopV]
            rw [← ht]
            exact decide_eq_decide.2 Iff.rfl
        have hC := calls_ok (Γ := numCx P k t) (G := G) (W0 := W0) Gd hm 3 (fun _ _ => rfl) (fun f g hfg => by cases hfg) hbody 2 f
        obtain ⟨nx, W1, h1, h2⟩ := hC _ xs _ _ _ ρ W hrun hvs hR g
        refine ⟨nx, W1, h1, ?_⟩
        rcases h2 with ⟨e1, e2, hcalls⟩ | ⟨x, ρ', e1, hvx, S⟩
        · refine .inl ⟨e1, e2, hcalls.mono ?_⟩
          rintro e w' ⟨x, ρ', rfl, hvx, S⟩
          simp only [VR, hden] at hvx
          exact ⟨x, ρ, rfl, by simp [VR, hvx], stp_bare S R⟩
        · simp only [VR, hden] at hvx
          exact .inr ⟨x, ρ, e1, by simp [VR, hvx], stp_bare S R⟩
      have h2 : -k < (σ i).tmod k := by
        have := Int.tmod_lt_of_pos (-(σ i)) hk0
        rw [Int.neg_tmod] at this
        omega
      by_cases hneg : (σ i).tmod k < 0
      · refine fin true _ (by simp [hneg]) hT ?_
        simp only [E.den, bopV]
        rw [IntWalk.i64_in _ (by omega)]
        rw [← hc]; unfold numOf; rw [if_pos hneg]
      · refine fin false _ (by simp [hneg]) hF ?_
        simp only [E.den, bopV]
        rw [← hc]; unfold numOf; rw [if_neg hneg]
    · cases e
  · cases e
noncomputable def lawExtE (num : FuncId) (tab : NumTabE) : FuncId → Option (List V → H → Option (V × H)) := fun f => match Nat.beq f num with
  | true => some (numExtE tab)
  | false => none
noncomputable def lawCxE (P : Program) (num : FuncId) (tab : NumTabE) (rng : List (Int × Int)) (facts : List (Bool × E × E × Bool)) : Cx := { P, rng, facts, ext := lawExtE num tab, blk := fun _ _ => none }
/-- A LAW's CALL AT ONE CASE: 'run' is what the kernel runs. -/
theorem law_case_e {P : Program} {G : Nat} {σ : Nat → Int} {W : World} {es : TypeId} {l : Errs} {as : List Addr} {f num : FuncId} {tab : NumTabE} {rng : List (Int × Int)} {facts : List (Bool × E × E × Bool)} {lf d : Nat} {vs : List V} {xs : Array Value} (hm : P.follows .mixedOrders = true)
    (hbody : ∀ (f : FuncId) (fn : Func), P.funcs[f]? = some fn → bodyOk G fn = true ∧ (fn.name == "runtime.NumGoroutine") = false)
    (hS : Sents es W l as) (hlen : as.length = l.length) (hn : (placesOf l as).Nodup) (hG : ∀ g, g < G → ∃ s, (g, s) ∈ l) (hlt : ∀ x ∈ l, x.1 < G)
    (htab : ∀ i k c, (i, k, c) ∈ tab → NumRuns P num k ∧ 0 < k ∧ k < 4611686018427387904 ∧ -9223372036854775808 ≤ σ i ∧ σ i ≤ 9223372036854775807 ∧ numOf (σ i) k = c.den σ)
    (hrng : ∀ (i : Nat) lo hi, rng[i]? = some (lo, hi) → lo ≤ σ i ∧ σ i ≤ hi)
    (hfacts : ∀ q a b t, (q, a, b, t) ∈ facts → (match q with | true => decide (a.den σ = b.den σ) | false => decide (a.den σ < b.den σ)) = t)
    (hv : ∀ ρ, VRs σ ρ vs xs.toList) (hbod : ∃ fn, P.funcs[f]? = some fn ∧ fn.body.isSome = true)
    (run : isTrue (evCall (lawCxE P num tab rng facts) lf d f vs (sentH es G l)) = true) : Calls P f xs W fun e w' => e = .returned (.bool true) ∧ Below W.heap.size W w' := by
  obtain ⟨R, g⟩ := start_rel (σ := σ) hS hlen hn hG hlt
  have Gd : GoodCx σ (lawCxE P num tab rng facts) := ⟨hrng, hfacts⟩
  have hC := calls_ok (Γ := lawCxE P num tab rng facts) (G := G) (W0 := W) Gd hm lf (fun _ _ => rfl) (fun f' g' hfg => by
    simp only [lawCxE, lawExtE] at hfg
    split at hfg
    · rename_i e
      have := beqN e
      subst this
      cases hfg
      exact num_ok_e hm hbody tab htab
    · cases hfg) hbody d f
  cases hr : evCall (lawCxE P num tab rng facts) lf d f vs (sentH es G l) with
  | none => rw [hr] at run; cases run
  | some p =>
    obtain ⟨v, h'⟩ := p
    rw [hr] at run
    have hvt : v = .bool true := by
      cases v <;> simp only [isTrue] at run <;> first | (cases run; done) | skip
      rename_i b
      cases b
      · cases run
      · rfl
    subst hvt
    obtain ⟨nx, W1, h1, h2⟩ := hC vs xs (sentH es G l) _ h' _ W hr (hv _) R g
    rcases h2 with ⟨_, _, hcalls⟩ | ⟨x, ρ', e1, hvx, S⟩
    · refine hcalls.mono ?_
      rintro e w' ⟨x, ρ', rfl, hvx, S⟩
      simp only [VR] at hvx
      exact ⟨by rw [hvx], S.rel.below⟩
    · exfalso
      obtain ⟨fn, hfn, hb⟩ := hbod
      have hname := (hbody f fn hfn).2
      have hname : fn.name ≠ "runtime.NumGoroutine" := by simpa using hname
      obtain ⟨body, hb'⟩ := Option.isSome_iff_exists.1 hb
      have hcf : (callFunc f xs).run P W = .ok (.enter f xs) W := by simp [callFunc, hfn, hname, hb']
      have h1' : (callFunc f xs).run P W = .ok nx W1 := h1
      rw [hcf, e1] at h1'
      cases h1'
end Tk
