/- Numbers cut to a range, and a law's call. -/
import Derived.Test.YtphhnhheedbjjaaGreatDoorEvLaw
import Derived.KernelRfl
set_option linter.unusedVariables false
set_option linter.unusedSimpArgs false
namespace Tk
open Go Go.RowKit

/-- what 'Number(n, k)' is -/
def numOf (n k : Int) : Int := if n.tmod k < 0 then n.tmod k + k else n.tmod k
theorem numOf_range (n k : Int) (hk : 0 < k) : 0 ≤ numOf n k ∧ numOf n k < k := by
  unfold numOf
  have h1 : n.tmod k < k := Int.tmod_lt_of_pos n hk
  have h2 : -k < n.tmod k := by
    have := Int.tmod_lt_of_pos (-n) hk
    rw [Int.neg_tmod] at this
    omega
  split <;> omega
/-- functions that are not gone into -/
abbrev Bad := List FuncId
noncomputable def inB (f : Nat) (l : List Nat) : Bool := List.rec false (fun b _ ih => match Nat.beq b f with
  | true => true
  | false => ih) l
noncomputable def nope : List V → H → Option (V × H) := fun _ _ => none
theorem nope_ok {P : Program} {G : Nat} {σ : Nat → Int} {W0 : World} {f : FuncId} : CallOk P G σ W0 f nope := fun vs xs h v h' ρ W e => by cases e
/-- what is asked of a program: G: the globals that may be named; B: the functions that are not gone into -/
structure Fit (P : Program) (G : Nat) (B : Bad) : Prop where
  mixed : P.follows .mixedOrders = true
  body : ∀ (f : FuncId) (fn : Func), inB f B = false → P.funcs[f]? = some fn → bodyOk G fn = true ∧ (fn.name == "runtime.NumGoroutine") = false
noncomputable def fitsL (G : Nat) (B : Bad) (l : List Func) : Nat → Bool := List.rec (fun _ => true) (fun fn _ ih i => match inB i B with
  | true => ih (i + 1)
  | false => match bodyOk G fn && notB (fn.name == "runtime.NumGoroutine") with
    | true => ih (i + 1)
    | false => false) l
theorem fitsL_ok {G : Nat} {B : Bad} : ∀ {l : List Func} {i : Nat}, fitsL G B l i = true → ∀ (j : Nat) (fn : Func), l[j]? = some fn → inB (i + j) B = false → bodyOk G fn = true ∧ (fn.name == "runtime.NumGoroutine") = false
  | [], i, _, j, fn, h, _ => by simp at h
  | f :: l, i, hf, j, fn, h, hb => by
    have hf : (match inB i B with
      | true => fitsL G B l (i + 1)
      | false => match bodyOk G f && notB (f.name == "runtime.NumGoroutine") with
        | true => fitsL G B l (i + 1)
        | false => false) = true := hf
    cases j with
    | zero =>
      simp at h
      subst h
      rw [Nat.add_zero] at hb
      rw [hb] at hf
      simp only [] at hf
      split at hf
      · rename_i e
        simp only [Bool.and_eq_true] at e
        refine ⟨e.1, ?_⟩
        have h2 := e.2
        revert h2
        cases (f.name == "runtime.NumGoroutine")
        · intro _; rfl
        · intro h; cases h
      · cases hf
    | succ j =>
      have hr : fitsL G B l (i + 1) = true := by
        split at hf
        · exact hf
        · split at hf
          · exact hf
          · cases hf
      exact fitsL_ok hr j fn (by simpa using h) (by rw [show i + 1 + j = i + (j + 1) by omega]; exact hb)
theorem fit_of {P : Program} {G : Nat} {B : Bad} (hm : P.follows .mixedOrders = true) (h : fitsL G B P.funcs.toList 0 = true) : Fit P G B :=
  ⟨hm, fun f fn hb hf => fitsL_ok h f fn (by rw [Array.getElem?_toList]; exact hf) (by rw [Nat.zero_add]; exact hb)⟩
noncomputable def badExt (B : Bad) (g : Option (List V → H → Option (V × H))) (f : FuncId) : Option (List V → H → Option (V × H)) := match inB f B with
  | true => some nope
  | false => g
theorem badExt_none {B : Bad} {g : Option (List V → H → Option (V × H))} {f : FuncId} (h : badExt B g f = none) : inB f B = false := by
  unfold badExt at h
  split at h
  · cases h
  · assumption
noncomputable def numCx (P : Program) (B : Bad) (k : Int) (t : Bool) : Cx :=
  { P, rng := [(-9223372036854775808, 9223372036854775807)], facts := [(false, .bop .rem .i64 (.var 0) (.lit k), .lit 0, t)], ext := fun f => badExt B none f, blk := fun _ _ => none }
/-- what has to be run once for each range: Number's own code -/
def NumRuns (P : Program) (B : Bad) (f : FuncId) (k : Int) : Prop := ∀ nx,
  evCall (numCx P B k true) 3 2 f [.int .i64 (.var 0), .int .i64 (.lit k)] ⟨.lf, nx⟩ = some (.int .i64 (.wrap .i64 (.add (.bop .rem .i64 (.var 0) (.lit k)) (.lit k))), ⟨.lf, nx⟩) ∧
  evCall (numCx P B k false) 3 2 f [.int .i64 (.var 0), .int .i64 (.lit k)] ⟨.lf, nx⟩ = some (.int .i64 (.bop .rem .i64 (.var 0) (.lit k)), ⟨.lf, nx⟩)
/-- a call that knows no block -/
theorem stp_bare {σ σ' : Nat → Int} {W0 : World} {ρ ρ' : Inj} {h : H} {W W' : World} (S : Stp σ' W0 ρ ⟨.lf, h.next⟩ W ρ' ⟨.lf, h.next⟩ W') (R : Rel σ W0 ρ h W) : Stp σ W0 ρ h W ρ h W' := by
  have hno : ∀ b, ¬ Known ρ ⟨.lf, h.next⟩ b := by
    rintro b ⟨r, o, l, hg, _⟩
    have hg : (Tr.lf : Tr Ob).get r = some o := hg
    rw [Tr.get_lf] at hg; cases hg
  have hfr : ∀ b, b < W.heap.size → W'.heap[b]? = W.heap[b]? := fun b hb => S.frame b hb (hno b)
  refine ⟨Ext.refl _, ⟨S.rel.below, R.dom, fun r l hl => Nat.lt_of_lt_of_le (R.blk r l hl) S.size, fun r o l hg hl => ?_, R.apart⟩, fun b hb => .inr hb, fun b hb _ => hfr b hb, S.size, Nat.le_refl _, fun _ _ => rfl⟩
  obtain ⟨h1, h2⟩ := R.obs r o l hg hl
  exact ⟨ObR.mono (Ext.refl _) (hfr _ (R.blk r l hl)) h1, h2⟩
/-- what Number(var i, k) is: an expression -/
abbrev NumTabE := List (Nat × Int × E)
noncomputable def numLookE (i : Nat) (k : Int) : NumTabE → Option E
  | [] => none
  | (i', k', c) :: l => match Nat.beq i' i && eqI k' k with
    | true => some c
    | false => numLookE i k l
noncomputable def numExtE (tab : NumTabE) : List V → H → Option (V × H)
  | [.int .i64 (.var i), .int .i64 (.lit k)] => fun h => match numLookE i k tab with
    | some c => some (.int .i64 c, h)
    | none => none
  | _ => fun _ => none
theorem numLookE_mem {i : Nat} {k : Int} {c : E} : ∀ {l : NumTabE}, numLookE i k l = some c → (i, k, c) ∈ l
  | [], h => by cases h
  | (i', k', c') :: l, h => by
    simp only [numLookE] at h
    split at h
    · rename_i e
      simp only [Bool.and_eq_true, eqI_eq, decide_eq_true_eq] at e
      obtain ⟨e1, rfl⟩ := e
      have := beqN e1
      subst this
      cases h
      simp
    · exact List.mem_cons_of_mem _ (numLookE_mem h)
theorem num_ok_e {P : Program} {G : Nat} {B : Bad} {σ : Nat → Int} {W0 : World} {f : FuncId} (hp : Fit P G B)
    (tab : NumTabE) (htab : ∀ i k c, (i, k, c) ∈ tab → NumRuns P B f k ∧ 0 < k ∧ k < 4611686018427387904 ∧ -9223372036854775808 ≤ σ i ∧ σ i ≤ 9223372036854775807 ∧ numOf (σ i) k = c.den σ) : CallOk P G σ W0 f (numExtE tab) := by
  intro vs xs h v h' ρ W e hv R g
  unfold numExtE at e
  split at e
  · rename_i i k
    split at e
    · rename_i c hl
      cases e
      obtain ⟨hruns, hk0, hk1, hlo, hhi, hc⟩ := htab i k c (numLookE_mem hl)
      obtain ⟨hT, hF⟩ := hruns h.next
      simp only [VRs] at hv
      obtain ⟨x1, _, hxs, hx1, x2, _, rfl, hx2, rfl⟩ := hv
      simp only [VR, E.den] at hx1 hx2
      subst hx1 hx2
      have hvs : VRs (fun _ => σ i) ρ [.int .i64 (.var 0), .int .i64 (.lit k)] xs.toList := by
        rw [hxs]
        exact VRs.cons (by simp [VR, E.den]) (VRs.cons (by simp [VR, E.den]) VRs.nil)
      have hR : Rel (fun _ => σ i) W0 ρ ⟨.lf, h.next⟩ W := by
        refine ⟨R.below, R.dom, R.blk, fun r o l hg => ?_, fun r r' o o' l l' hg => ?_⟩
        · have hg : (Tr.lf : Tr Ob).get r = some o := hg
          rw [Tr.get_lf] at hg; cases hg
        · have hg : (Tr.lf : Tr Ob).get r = some o := hg
          rw [Tr.get_lf] at hg; cases hg
      have fin : ∀ (t : Bool) (E' : E), decide ((σ i).tmod k < 0) = t → evCall (numCx P B k t) 3 2 f [.int .i64 (.var 0), .int .i64 (.lit k)] ⟨.lf, h.next⟩ = some (.int .i64 E', ⟨.lf, h.next⟩) → E'.den (fun _ => σ i) = c.den σ →
          ∃ nx W1, (callFunc f xs).run P W = .ok nx W1 ∧
            ((nx = .enter f xs ∧ W1 = W ∧ Calls P f xs W (fun e w' => ∃ x ρ', e = .returned x ∧ VR σ ρ' (.int .i64 c) x ∧ Stp σ W0 ρ h W ρ' h w')) ∨
             (∃ x ρ', nx = .value x ∧ VR σ ρ' (.int .i64 c) x ∧ Stp σ W0 ρ h W ρ' h W1)) := by
        intro t E' ht hrun hden
        have Gd : GoodCx (fun _ => σ i) (numCx P B k t) := by
          refine ⟨fun j lo hi hj => ?_, fun q a b u hm => ?_⟩
          · simp only [numCx] at hj
            cases j with
            | zero => simp at hj; obtain ⟨rfl, rfl⟩ := hj; exact ⟨hlo, hhi⟩
            | succ j => simp at hj
          · simp only [numCx, List.mem_singleton, Prod.mk.injEq] at hm
            obtain ⟨rfl, rfl, rfl, rfl⟩ := hm
            simp only [E.den, bopV]
            rw [← ht]
            exact decide_eq_decide.2 Iff.rfl
        have hC := calls_ok (Γ := numCx P B k t) (G := G) (W0 := W0) Gd hp.mixed 3 (fun _ _ => rfl) (fun f' g' hfg => by
          simp only [numCx, badExt] at hfg
          split at hfg
          · cases hfg; exact nope_ok
          · cases hfg) (fun f' fn hx hf => hp.body f' fn (badExt_none hx) hf) 2 f
        obtain ⟨nx, W1, h1, h2⟩ := hC _ xs _ _ _ ρ W hrun hvs hR g
        refine ⟨nx, W1, h1, ?_⟩
        rcases h2 with ⟨e1, e2, hcalls⟩ | ⟨x, ρ', e1, hvx, S⟩
        · refine .inl ⟨e1, e2, hcalls.mono ?_⟩
          rintro e w' ⟨x, ρ', rfl, hvx, S⟩
          simp only [VR, hden] at hvx
          exact ⟨x, ρ, rfl, by simp [VR, hvx], stp_bare S R⟩
        · simp only [VR, hden] at hvx
          exact .inr ⟨x, ρ, e1, by simp [VR, hvx], stp_bare S R⟩
      have h2 : -k < (σ i).tmod k := by
        have := Int.tmod_lt_of_pos (-(σ i)) hk0
        rw [Int.neg_tmod] at this
        omega
      by_cases hneg : (σ i).tmod k < 0
      · refine fin true _ (by simp [hneg]) hT ?_
        simp only [E.den, bopV]
        rw [IntWalk.i64_in _ (by omega)]
        rw [← hc]; unfold numOf; rw [if_pos hneg]
      · refine fin false _ (by simp [hneg]) hF ?_
        simp only [E.den, bopV]
        rw [← hc]; unfold numOf; rw [if_neg hneg]
    · cases e
  · cases e
def isTrue : Option (V × H) → Bool
  | some (.bool true, _) => true
  | _ => false
end Tk
