/- Numbers cut to a range, and a law's call. -/
import Derived.Test.YtflipohebkkkbabDoorEvLaw
import Derived.KernelRfl
set_option linter.unusedVariables false
set_option linter.unusedSimpArgs false
namespace Tk
open Go Go.RowKit

/-- what 'Number(n, k)' is -/
def numOf (n k : Int) : Int := if n.tmod k < 0 then n.tmod k + k else n.tmod k
theorem numOf_range (n k : Int) (hk : 0 < k) : 0 ≤ numOf n k ∧ numOf n k < k := by
  unfold numOf
  have h1 : n.tmod k < k := Int.tmod_lt_of_pos n hk
  have h2 : -k < n.tmod k := by
    have := Int.tmod_lt_of_pos (-n) hk
    rw [Int.neg_tmod] at this
    omega
  split <;> omega
noncomputable def numCx (P : Program) (k : Int) (t : Bool) : Cx :=
  { P, rng := [(-9223372036854775808, 9223372036854775807)], facts := [(false, .bop .rem .i64 (.var 0) (.lit k), .lit 0, t)], ext := fun _ => none, blk := fun _ _ => none }
/-- what has to be run once for each range: Number's own code -/
def NumRuns (P : Program) (f : FuncId) (k : Int) : Prop := ∀ nx,
  evCall (numCx P k true) 3 2 f [.int .i64 (.var 0), .int .i64 (.lit k)] ⟨.lf, nx⟩ = some (.int .i64 (.wrap .i64 (.add (.bop .rem .i64 (.var 0) (.lit k)) (.lit k))), ⟨.lf, nx⟩) ∧
  evCall (numCx P k false) 3 2 f [.int .i64 (.var 0), .int .i64 (.lit k)] ⟨.lf, nx⟩ = some (.int .i64 (.bop .rem .i64 (.var 0) (.lit k)), ⟨.lf, nx⟩)
abbrev NumTab := List (Nat × Int × Int)
noncomputable def numLook (i : Nat) (k : Int) : NumTab → Option Int
  | [] => none
  | (i', k', c) :: l => match Nat.beq i' i && eqI k' k with
    | true => some c
    | false => numLook i k l
noncomputable def numExt (tab : NumTab) : List V → H → Option (V × H)
  | [.int .i64 (.var i), .int .i64 (.lit k)] => fun h => match numLook i k tab with
    | some c => some (.int .i64 (.lit c), h)
    | none => none
  | _ => fun _ => none
theorem numLook_mem {i : Nat} {k c : Int} : ∀ {l : NumTab}, numLook i k l = some c → (i, k, c) ∈ l
  | [], h => by cases h
  | (i', k', c') :: l, h => by
    simp only [numLook] at h
    split at h
    · rename_i e
      simp only [Bool.and_eq_true, eqI_eq, decide_eq_true_eq] at e
      obtain ⟨e1, rfl⟩ := e
      have := beqN e1
      subst this
      cases h
      simp
    · exact List.mem_cons_of_mem _ (numLook_mem h)
/-- a call that knows no block -/
theorem stp_bare {σ σ' : Nat → Int} {W0 : World} {ρ ρ' : Inj} {h : H} {W W' : World} (S : Stp σ' W0 ρ ⟨.lf, h.next⟩ W ρ' ⟨.lf, h.next⟩ W') (R : Rel σ W0 ρ h W) : Stp σ W0 ρ h W ρ h W' := by
  have hno : ∀ b, ¬ Known ρ ⟨.lf, h.next⟩ b := by
    rintro b ⟨r, o, l, hg, _⟩
    have hg : (Tr.lf : Tr Ob).get r = some o := hg
    rw [Tr.get_lf] at hg; cases hg
  have hfr : ∀ b, b < W.heap.size → W'.heap[b]? = W.heap[b]? := fun b hb => S.frame b hb (hno b)
  refine ⟨Ext.refl _, ⟨S.rel.below, R.dom, fun r l hl => Nat.lt_of_lt_of_le (R.blk r l hl) S.size, fun r o l hg hl => ?_, R.apart⟩, fun b hb => .inr hb, fun b hb _ => hfr b hb, S.size, Nat.le_refl _, fun _ _ => rfl⟩
  obtain ⟨h1, h2⟩ := R.obs r o l hg hl
  exact ⟨ObR.mono (Ext.refl _) (hfr _ (R.blk r l hl)) h1, h2⟩
theorem num_ok {P : Program} {G : Nat} {σ : Nat → Int} {W0 : World} {f : FuncId} (hm : P.follows .mixedOrders = true) (hbody : ∀ (f : FuncId) (fn : Func), P.funcs[f]? = some fn → bodyOk G fn = true ∧ (fn.name == "runtime.NumGoroutine") = false)
    (tab : NumTab) (htab : ∀ i k c, (i, k, c) ∈ tab → NumRuns P f k ∧ 0 < k ∧ k < 4611686018427387904 ∧ -9223372036854775808 ≤ σ i ∧ σ i ≤ 9223372036854775807 ∧ numOf (σ i) k = c) : CallOk P G σ W0 f (numExt tab) := by
  intro vs xs h v h' ρ W e hv R g
  unfold numExt at e
  split at e
  · rename_i i k
    split at e
    · rename_i c hl
      cases e
      obtain ⟨hruns, hk0, hk1, hlo, hhi, hc⟩ := htab i k c (numLook_mem hl)
      obtain ⟨hT, hF⟩ := hruns h.next
      simp only [VRs] at hv
      obtain ⟨x1, _, hxs, hx1, x2, _, rfl, hx2, rfl⟩ := hv
      simp only [VR, E.den] at hx1 hx2
      subst hx1 hx2
      have hvs : VRs (fun _ => σ i) ρ [.int .i64 (.var 0), .int .i64 (.lit k)] xs.toList := by
        rw [hxs]
        exact VRs.cons (by simp [VR, E.den]) (VRs.cons (by simp [VR, E.den]) VRs.nil)
      have hR : Rel (fun _ => σ i) W0 ρ ⟨.lf, h.next⟩ W := by
        refine ⟨R.below, R.dom, R.blk, fun r o l hg => ?_, fun r r' o o' l l' hg => ?_⟩
        · have hg : (Tr.lf : Tr Ob).get r = some o := hg
          rw [Tr.get_lf] at hg; cases hg
        · have hg : (Tr.lf : Tr Ob).get r = some o := hg
          rw [Tr.get_lf] at hg; cases hg
      have fin : ∀ (t : Bool) (E' : E), decide ((σ i).tmod k < 0) = t → evCall (numCx P k t) 3 2 f [.int .i64 (.var 0), .int .i64 (.lit k)] ⟨.lf, h.next⟩ = some (.int .i64 E', ⟨.lf, h.next⟩) → E'.den (fun _ => σ i) = c →
          ∃ nx W1, (callFunc f xs).run P W = .ok nx W1 ∧
            ((nx = .enter f xs ∧ W1 = W ∧ Calls P f xs W (fun e w' => ∃ x ρ', e = .returned x ∧ VR σ ρ' (.int .i64 (.lit c)) x ∧ Stp σ W0 ρ h W ρ' h w')) ∨
             (∃ x ρ', nx = .value x ∧ VR σ ρ' (.int .i64 (.lit c)) x ∧ Stp σ W0 ρ h W ρ' h W1)) := by
        intro t E' ht hrun hden
        have Gd : GoodCx (fun _ => σ i) (numCx P k t) := by
          refine ⟨fun j lo hi hj => ?_, fun q a b u hm => ?_⟩
          · simp only [numCx] at hj
            cases j with
            | zero => simp at hj; obtain ⟨rfl, rfl⟩ := hj; exact ⟨hlo, hhi⟩
            | succ j => simp at hj
          · simp only [numCx, List.mem_singleton, Prod.mk.injEq] at hm
            obtain ⟨rfl, rfl, rfl, rfl⟩ := hm
            simp only [E.den, bopV]
            rw [← ht]
            exact decide_eq_decide.2 Iff.rfl
        have hC := calls_ok (Γ := numCx P k t) (G := G) (W0 := W0) Gd hm 3 (fun _ _ => rfl) (fun f g hfg => by cases hfg) hbody 2 f
        obtain ⟨nx, W1, h1, h2⟩ := hC _ xs _ _ _ ρ W hrun hvs hR g
        refine ⟨nx, W1, h1, ?_⟩
        rcases h2 with ⟨e1, e2, hcalls⟩ | ⟨x, ρ', e1, hvx, S⟩
        · refine .inl ⟨e1, e2, hcalls.mono ?_⟩
          rintro e w' ⟨x, ρ', rfl, hvx, S⟩
          simp only [VR, hden] at hvx
          exact ⟨x, ρ, rfl, by simp [VR, E.den, hvx], stp_bare S R⟩
        · simp only [VR, hden] at hvx
          exact .inr ⟨x, ρ, e1, by simp [VR, E.den, hvx], stp_bare S R⟩
      have h2 : -k < (σ i).tmod k := by
        have := Int.tmod_lt_of_pos (-(σ i)) hk0
        rw [Int.neg_tmod] at this
        omega
      by_cases hneg : (σ i).tmod k < 0
      · refine fin true _ (by simp [hneg]) hT ?_
        simp only [E.den, bopV]
        rw [IntWalk.i64_in _ (by omega)]
        rw [← hc]; unfold numOf; rw [if_pos hneg]
      · refine fin false _ (by simp [hneg]) hF ?_
        simp only [E.den, bopV]
        rw [← hc]; unfold numOf; rw [if_neg hneg]
    · cases e
  · cases e
/- a law's call -/
noncomputable def lawExt (num : FuncId) (tab : NumTab) : FuncId → Option (List V → H → Option (V × H)) := fun f => match Nat.beq f num with
  | true => some (numExt tab)
  | false => none
noncomputable def lawCx (P : Program) (num : FuncId) (tab : NumTab) : Cx := { P, rng := [], facts := [], ext := lawExt num tab, blk := fun _ _ => none }
def isTrue : Option (V × H) → Bool
  | some (.bool true, _) => true
  | _ => false
/-- A LAW's CALL AT ONE CASE: 'run' is what the kernel runs. -/
theorem law_case {P : Program} {G : Nat} {σ : Nat → Int} {W : World} {es : TypeId} {l : Errs} {as : List Addr} {f num : FuncId} {tab : NumTab} {lf d : Nat} {vs : List V} {xs : Array Value} (hm : P.follows .mixedOrders = true)
    (hbody : ∀ (f : FuncId) (fn : Func), P.funcs[f]? = some fn → bodyOk G fn = true ∧ (fn.name == "runtime.NumGoroutine") = false)
    (hS : Sents es W l as) (hlen : as.length = l.length) (hn : (placesOf l as).Nodup) (hG : ∀ g, g < G → ∃ s, (g, s) ∈ l) (hlt : ∀ x ∈ l, x.1 < G)
    (htab : ∀ i k c, (i, k, c) ∈ tab → NumRuns P num k ∧ 0 < k ∧ k < 4611686018427387904 ∧ -9223372036854775808 ≤ σ i ∧ σ i ≤ 9223372036854775807 ∧ numOf (σ i) k = c)
    (hv : ∀ ρ, VRs σ ρ vs xs.toList) (hbod : ∃ fn, P.funcs[f]? = some fn ∧ fn.body.isSome = true)
    (run : isTrue (evCall (lawCx P num tab) lf d f vs (sentH es G l)) = true) : Calls P f xs W fun e w' => e = .returned (.bool true) ∧ Below W.heap.size W w' := by
  obtain ⟨R, g⟩ := start_rel (σ := σ) hS hlen hn hG hlt
  have Gd : GoodCx σ (lawCx P num tab) := ⟨fun i lo hi h => by simp [lawCx] at h, fun q a b t h => by simp [lawCx] at h⟩
  have hC := calls_ok (Γ := lawCx P num tab) (G := G) (W0 := W) Gd hm lf (fun _ _ => rfl) (fun f' g' hfg => by
    simp only [lawCx, lawExt] at hfg
    split at hfg
    · rename_i e
      have := beqN e
      subst this
      cases hfg
      exact num_ok hm hbody tab htab
    · cases hfg) hbody d f
  cases hr : evCall (lawCx P num tab) lf d f vs (sentH es G l) with
  | none => rw [hr] at run; cases run
  | some p =>
    obtain ⟨v, h'⟩ := p
    rw [hr] at run
    have hvt : v = .bool true := by
      cases v <;> simp only [isTrue] at run <;> first | (cases run; done) | skip
      rename_i b
      cases b
      · cases run
      · rfl
    subst hvt
    obtain ⟨nx, W1, h1, h2⟩ := hC vs xs (sentH es G l) _ h' _ W hr (hv _) R g
    rcases h2 with ⟨_, _, hcalls⟩ | ⟨x, ρ', e1, hvx, S⟩
    · refine hcalls.mono ?_
      rintro e w' ⟨x, ρ', rfl, hvx, S⟩
      simp only [VR] at hvx
      exact ⟨by rw [hvx], S.rel.below⟩
    · exfalso
      obtain ⟨fn, hfn, hb⟩ := hbod
      have hname := (hbody f fn hfn).2
      have hname : fn.name ≠ "runtime.NumGoroutine" := by simpa using hname
      obtain ⟨body, hb'⟩ := Option.isSome_iff_exists.1 hb
      have hcf : (callFunc f xs).run P W = .ok (.enter f xs) W := by simp [callFunc, hfn, hname, hb']
      have h1' : (callFunc f xs).run P W = .ok nx W1 := h1
      rw [hcf, e1] at h1'
      cases h1'
end Tk
