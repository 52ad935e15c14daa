/- A law's call at one case, with bounds of the unknown numbers. -/
import Derived.Test.YtflipohebkkkbabDoorEvLaw2
set_option linter.unusedVariables false
set_option linter.unusedSimpArgs false
namespace Tk
open Go Go.RowKit
noncomputable def lawCxR (P : Program) (num : FuncId) (tab : NumTab) (rng : List (Int × Int)) : Cx := { P, rng, facts := [], ext := lawExt num tab, blk := fun _ _ => none }
/-- A LAW's CALL AT ONE CASE: 'run' is what the kernel runs. -/
theorem law_case_r {P : Program} {G : Nat} {σ : Nat → Int} {W : World} {es : TypeId} {l : Errs} {as : List Addr} {f num : FuncId} {tab : NumTab} {rng : List (Int × Int)} {lf d : Nat} {vs : List V} {xs : Array Value} (hm : P.follows .mixedOrders = true)
    (hbody : ∀ (f : FuncId) (fn : Func), P.funcs[f]? = some fn → bodyOk G fn = true ∧ (fn.name == "runtime.NumGoroutine") = false)
    (hS : Sents es W l as) (hlen : as.length = l.length) (hn : (placesOf l as).Nodup) (hG : ∀ g, g < G → ∃ s, (g, s) ∈ l) (hlt : ∀ x ∈ l, x.1 < G)
    (htab : ∀ i k c, (i, k, c) ∈ tab → NumRuns P num k ∧ 0 < k ∧ k < 4611686018427387904 ∧ -9223372036854775808 ≤ σ i ∧ σ i ≤ 9223372036854775807 ∧ numOf (σ i) k = c)
    (hrng : ∀ (i : Nat) lo hi, rng[i]? = some (lo, hi) → lo ≤ σ i ∧ σ i ≤ hi)
    (hv : ∀ ρ, VRs σ ρ vs xs.toList) (hbod : ∃ fn, P.funcs[f]? = some fn ∧ fn.body.isSome = true)
    (run : isTrue (evCall (lawCxR P num tab rng) lf d f vs (sentH es G l)) = true) : Calls P f xs W fun e w' => e = .returned (.bool true) ∧ Below W.heap.size W w' := by
  obtain ⟨R, g⟩ := start_rel (σ := σ) hS hlen hn hG hlt
  have Gd : GoodCx σ (lawCxR P num tab rng) := ⟨hrng, fun q a b t h => by simp [lawCxR] at h⟩
  have hC := calls_ok (Γ := lawCxR P num tab rng) (G := G) (W0 := W) Gd hm lf (fun _ _ => rfl) (fun f' g' hfg => by
    simp only [lawCxR, lawExt] at hfg
    split at hfg
    · rename_i e
      have := beqN e
      subst this
      cases hfg
      exact num_ok hm hbody tab htab
    · cases hfg) hbody d f
  cases hr : evCall (lawCxR P num tab rng) lf d f vs (sentH es G l) with
  | none => rw [hr] at run; cases run
  | some p =>
    obtain ⟨v, h'⟩ := p
    rw [hr] at run
    have hvt : v = .bool true := by
      cases v <;> simp only [isTrue] at run <;> first | (cases run; done) | skip
      rename_i b
      cases b
      · cases run
      · rfl
    subst hvt
    obtain ⟨nx, W1, h1, h2⟩ := hC vs xs (sentH es G l) _ h' _ W hr (hv _) R g
    rcases h2 with ⟨_, _, hcalls⟩ | ⟨x, ρ', e1, hvx, S⟩
    · refine hcalls.mono ?_
      rintro e w' ⟨x, ρ', rfl, hvx, S⟩
      simp only [VR] at hvx
      exact ⟨by rw [hvx], S.rel.below⟩
    · exfalso
      obtain ⟨fn, hfn, hb⟩ := hbod
      have hname := (hbody f fn hfn).2
      have hname : fn.name ≠ "runtime.NumGoroutine" := by simpa using hname
      obtain ⟨body, hb'⟩ := Option.isSome_iff_exists.1 hb
      have hcf : (callFunc f xs).run P W = .ok (.enter f xs) W := by simp [callFunc, hfn, hname, hb']
      have h1' : (callFunc f xs).run P W = .ok nx W1 := h1
      rw [hcf, e1] at h1'
      cases h1'
theorem num_range (n k : Int) (hk : 0 < k) (m : Nat) (hm : k = m) : ∃ j : Nat, j < m ∧ numOf n k = j := by
  obtain ⟨h0, h1⟩ := numOf_range n k hk
  exact ⟨(numOf n k).toNat, by omega, by omega⟩
end Tk
