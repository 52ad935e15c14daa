/- codeRows: what a table tells. -/
import Derived.Test.YtnedpimammoekaaDoorCrK0
set_option linter.unusedVariables false
set_option maxRecDepth 10000000
namespace Go.Proofs.YtnedpimammoekaaDoor.codeRows
open Tk
open Go.RowKit
noncomputable def rI (m : Nat) : Rg := List.replicate m (-9223372036854775808, 9223372036854775807)
theorem known_rows {zs : List Int} (hw : ∀ i, (Lit.int .i64 (zs.getD i 0)).wf = true) (m : Nat) : Known2 (fun i => zs.getD (i - 0) 0) (rI m) [] := by
  refine ⟨fun i lo hi h => ?_, fun q a b t h => by cases h⟩
  unfold rI at h
  rw [List.getElem?_replicate] at h
  split at h
  · simp only [Option.some.injEq, Prod.mk.injEq] at h
    obtain ⟨rfl, rfl⟩ := h
    exact Go.bounds_i64 (hw i)
  · cases h
theorem Sbelow : belowE 5 x2 = true := by kernel_rfl
theorem Slits : litsE 3 x2 = true := by kernel_rfl
noncomputable def vals : List (Int × Sym) := [(0, s0), (1, s1), (2, s2)]
theorem vals_ok {W0 : World} (hL : L0 W0) : ∀ x ∈ vals, SymOk Tryd.prog 4095 W0 39 x.2 ∧ x.2.facts = [(true, x2, .lit x.1, true)] :=
  all_cons ⟨s0_ok hL, rfl⟩ (all_cons ⟨s1_ok hL, rfl⟩ (all_cons ⟨s2_ok hL, rfl⟩ (all_nil)))
noncomputable def goodT (i : Nat) : TabT := Nat.rec [] (fun i ih => (5 * i, 2) :: ih) i
noncomputable def startT (n : Nat) : H := rowH (sentH 295 20 errTab) (kRow ki 0 (5 * n) 0)
/-- the chapter's examples, beside a list -/
noncomputable def mF (n : Nat) : Memo := ⟨[], startT n, .bool true, ⟨(startT n).tr, 61⟩⟩
noncomputable def firstT (n : Nat) : Bool := ranTo (evCall (cxX Tryd.prog bad [] [] q0) 1000 60 13 (mF n).args (mF n).h) (mF n).v (mF n).h'
theorem mF_ok {n : Nat} (hf : firstT n = true) {σ : Nat → Int} {W0 : World} (hL : L0 W0) : MemoOk Tryd.prog 4095 σ W0 13 (mF n) := memo_ok fit (Known2.nil σ) (q0_ok hL) hf
noncomputable def fsT (n : Nat) (T : TabT) : Fns := (39, symFnT (cxX Tryd.prog bad (rI (5 * n)) [] []) 32 T 5 vals) :: (13, frameFn [mF n]) :: q0
theorem fsT_ok {σ : Nat → Int} {W : World} {n : Nat} {T : TabT} (hf : firstT n = true) (hL : L0 W) (hk : Known2 σ (rI (5 * n)) []) (hT : TabS σ x2 T) : FnsOk Tryd.prog 4095 σ W (fsT n T) := FnsOk.cons (sym_fnT_ok (Γ := cxX Tryd.prog bad (rI (5 * n)) [] []) ⟨hk.rng, hk.facts⟩ (by decide) hT Sbelow (vals_ok hL)) (FnsOk.cons (frame_fn_ok (all_cons (mF_ok hf hL) all_nil)) (q0_ok hL))
noncomputable def runT (n : Nat) (T : TabT) : Bool := isTrue (evCall (cxX Tryd.prog bad (rI (5 * n)) [] (fsT n T)) 1000 60 4 [.slice 32 0 n n 5 false] (startT n))
abbrev CaseT (n : Nat) (T : TabT) : Prop := ∀ {σ : Nat → Int} {W : World} {ρ : Inj}, L0 W → Known2 σ (rI (5 * n)) [] → TabS σ x2 T → Rel σ W ρ (startT n) W → Glob 4095 ρ → ∀ {xs : Array Value}, VRs σ ρ [.slice 32 0 n n 5 false] xs.toList → Calls Tryd.prog 4 xs W fun e w' => e = .returned (.bool true) ∧ Below W.heap.size W w'
theorem caseT {n : Nat} {T : TabT} (hf : firstT n = true) (run : runT n T = true) : CaseT n T := by
  intro σ W ρ hL hk hT R g xs hv
  exact law_case_r fit (by kernel_rfl) hk (fsT_ok hf hL hk hT) R g hv ⟨_, Tryd.func4, rfl⟩ run
/-- the list's instruction of this place may not be -/
noncomputable def bad1 (n i : Nat) : Bool := runT n ((5 * i, 0) :: goodT i) && runT n ((5 * i, 1) :: goodT i)
abbrev BadC (n i : Nat) : Prop := CaseT n ((5 * i, 0) :: goodT i) ∧ CaseT n ((5 * i, 1) :: goodT i)
theorem bad_of {n i : Nat} (hf : firstT n = true) (h : bad1 n i = true) : BadC n i := by
  unfold bad1 at h
  simp only [Bool.and_eq_true] at h
  exact ⟨fun hL hk hT R g => caseT hf h.1 hL hk hT R g, fun hL hk hT R g => caseT hf h.2 hL hk hT R g⟩
theorem good_tab {σ : Nat → Int} : ∀ i : Nat, (∀ j, j < i → x2.den (fun t => σ (5 * j + t)) = 2) → TabS σ x2 (goodT i)
  | 0, _ => fun n k h => by cases h
  | i + 1, h => by
    intro n k hm
    have hm : (n, k) ∈ (5 * i, (2 : Int)) :: goodT i := hm
    cases hm with
    | head => exact h i (by omega)
    | tail _ hm => exact good_tab i (fun j hj => h j (by omega)) n k hm
theorem first_not (p : Nat → Prop) : ∀ n : Nat, (∀ j, j < n → p j) ∨ ∃ i, i < n ∧ (∀ j, j < i → p j) ∧ ¬ p i
  | 0 => .inl fun j hj => by omega
  | n + 1 => by
    rcases first_not p n with h | ⟨i, h1, h2, h3⟩
    · by_cases e : p n
      · refine .inl fun j hj => ?_
        by_cases k : j = n
        · rw [k]; exact e
        · exact h j (by omega)
      · exact .inr ⟨n, by omega, h, e⟩
    · exact .inr ⟨i, by omega, h2, h3⟩
theorem len_case {n : Nat} (hf : firstT n = true) (hall : runT n (goodT n) = true) (hbad : ∀ i, i < n → BadC n i) {σ : Nat → Int} {W : World} {ρ : Inj} (hL : L0 W) (hk : Known2 σ (rI (5 * n)) []) (R : Rel σ W ρ (startT n) W) (g : Glob 4095 ρ) {xs : Array Value}
    (hv : VRs σ ρ [.slice 32 0 n n 5 false] xs.toList) : Calls Tryd.prog 4 xs W fun e w' => e = .returned (.bool true) ∧ Below W.heap.size W w' := by
  rcases first_not (fun j => x2.den (fun t => σ (5 * j + t)) = 2) n with h | ⟨i, h1, h2, h3⟩
  · exact caseT hf hall hL hk (good_tab n h) R g hv
  · obtain ⟨k, hk3, hkv⟩ := litsE_ok (f := fun t => σ (5 * i + t)) Slits
    have hT : ∀ (c : Int), x2.den (fun t => σ (5 * i + t)) = c → TabS σ x2 ((5 * i, c) :: goodT i) := by
      intro c hc m' k' hm
      cases hm with
      | head => exact hc
      | tail _ hm => exact good_tab i h2 m' k' hm
    have hb := hbad i h1
    have hc : k = 0 ∨ k = 1 ∨ k = 2 := by omega
    rcases hc with rfl | rfl | rfl
    · exact hb.1 hL hk (hT _ hkv) R g hv
    · exact hb.2 hL hk (hT _ hkv) R g hv
    · exact absurd hkv h3
end Go.Proofs.YtnedpimammoekaaDoor.codeRows
