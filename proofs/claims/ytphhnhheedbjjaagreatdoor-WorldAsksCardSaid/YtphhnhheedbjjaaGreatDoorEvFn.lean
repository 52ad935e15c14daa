/- Functions that are met by contracts. -/
import Derived.Test.YtphhnhheedbjjaaGreatDoorEvMemo
set_option linter.unusedVariables false
set_option linter.unusedSimpArgs false
namespace Tk
open Go Go.RowKit

section
variable {P : Program} {G : Nat} {σ : Nat → Int} {W0 : World} {ρ : Inj} {h : H} {W W' : World} {f : FuncId} {fn : Func}
/-- nothing that was there is turned -/
theorem Stp.of_below (R : Rel σ W0 ρ h W) (B : Below W.heap.size W W') : Stp σ W0 ρ h W ρ h W' :=
  ⟨Ext.refl _, ⟨R.below.trans (B.mono R.below.size), R.dom, fun r l hl => Nat.lt_of_lt_of_le (R.blk r l hl) B.size,
    fun r o l hg hl => let ⟨h1, h2⟩ := R.obs r o l hg hl; ⟨ObR.mono (Ext.refl _) (B.block _ (R.blk r l hl)) h1, h2⟩, R.apart⟩,
   fun b hb => .inr hb, fun b hb _ => B.block b hb, B.size, Nat.le_refl _, fun _ _ => rfl⟩
/-- a function with a body, met by a contract -/
theorem fn_ok {g : Fn} (hf : P.funcs[f]? = some fn) (hb : fn.body.isSome = true) (hn : (fn.name == "runtime.NumGoroutine") = false)
    (H : ∀ (vs : List V) (xs : Array Value) (h : H) (v : V) (h' : Tk.H) (ρ : Inj) (W : World), g vs h = some (v, h') → VRs σ ρ vs xs.toList → Rel σ W0 ρ h W →
      Calls P f xs W fun e w' => ∃ x ρ', e = .returned x ∧ VR σ ρ' v x ∧ Stp σ W0 ρ h W ρ' h' w') : CallOk P G σ W0 f g := by
  intro vs xs h v h' ρ W e hv R g
  obtain ⟨body, hb'⟩ := Option.isSome_iff_exists.1 hb
  have hn : fn.name ≠ "runtime.NumGoroutine" := by simpa using hn
  exact ⟨.enter f xs, W, by simp [callFunc, hf, hn, hb'], .inl ⟨rfl, rfl, H vs xs h v h' ρ W e hv R⟩⟩
/-- a function of the model's own -/
theorem extern_ok {g : Fn} {m : Array Value → Sem Value} (hf : P.funcs[f]? = some fn) (hb : fn.body.isNone = true) (hn : (fn.name == "runtime.NumGoroutine") = false)
    (h1 : (Extern.findNext fn).isNone = true) (h2 : Extern.find fn = some m)
    (H : ∀ (vs : List V) (xs : Array Value) (h : H) (v : V) (h' : Tk.H) (ρ : Inj) (W : World), g vs h = some (v, h') → VRs σ ρ vs xs.toList → Rel σ W0 ρ h W →
      ∃ x, (m xs).run P W = .ok x W ∧ VR σ ρ v x ∧ h' = h) : CallOk P G σ W0 f g := by
  intro vs xs h v h' ρ W e hv R g
  obtain ⟨x, hx, hvx, rfl⟩ := H vs xs h v h' ρ W e hv R
  have hn : fn.name ≠ "runtime.NumGoroutine" := by simpa using hn
  have h1 : Extern.findNext fn = none := Option.isNone_iff_eq_none.1 h1
  have hb : fn.body = none := Option.isNone_iff_eq_none.1 hb
  exact ⟨.value x, W, by simp [callFunc, hf, hn, hb, h1, h2, hx], .inr ⟨x, ρ, rfl, hvx, Stp.refl R⟩⟩
end

section
variable {σ : Nat → Int}
theorem vrs1 {ρ : Inj} {a : V} {xs : Array Value} (h : VRs σ ρ [a] xs.toList) : ∃ x, xs = #[x] ∧ VR σ ρ a x := by
  simp only [VRs] at h
  obtain ⟨x, _, h1, h2, rfl⟩ := h
  exact ⟨x, by apply Array.ext'; exact h1, h2⟩
theorem vrs2 {ρ : Inj} {a b : V} {xs : Array Value} (h : VRs σ ρ [a, b] xs.toList) : ∃ x y, xs = #[x, y] ∧ VR σ ρ a x ∧ VR σ ρ b y := by
  simp only [VRs] at h
  obtain ⟨x, _, h1, h2, y, _, rfl, h3, rfl⟩ := h
  exact ⟨x, y, by apply Array.ext'; exact h1, h2, h3⟩
end
end Tk
