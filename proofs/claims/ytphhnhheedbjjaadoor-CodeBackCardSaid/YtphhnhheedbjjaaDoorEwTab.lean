/- Calls that are kept for all numbers, of which a table tells the answers: which of the answers it is hangs on numbers in a row. -/
import Derived.Test.YtphhnhheedbjjaaDoorEwIns
set_option linter.unusedVariables false
set_option linter.unusedSimpArgs false
namespace Tk
open Go Go.RowKit

noncomputable def belowE (w : Nat) : E → Bool
  | .lit _ => true
  | .var i => Nat.ble (i + 1) w
  | .add a b => belowE w a && belowE w b
  | .sub a b => belowE w a && belowE w b
  | .wrap _ a => belowE w a
  | .bop _ _ a b => belowE w a && belowE w b
  | .ite _ x y a b => (belowE w x && belowE w y) && (belowE w a && belowE w b)
theorem den_congr {w : Nat} {f g : Nat → Int} (h : ∀ i, i < w → f i = g i) : ∀ {e : E}, belowE w e = true → e.den f = e.den g
  | .lit _, _ => rfl
  | .var i, k => h i (by have := bleN k; omega)
  | .add a b, k => by
    simp only [belowE, Bool.and_eq_true] at k
    simp only [E.den, den_congr h k.1, den_congr h k.2]
  | .sub a b, k => by
    simp only [belowE, Bool.and_eq_true] at k
    simp only [E.den, den_congr h k.1, den_congr h k.2]
  | .wrap _ a, k => by
    simp only [belowE] at k
    simp only [E.den, den_congr h k]
  | .bop _ _ a b, k => by
    simp only [belowE, Bool.and_eq_true] at k
    simp only [E.den, den_congr h k.1, den_congr h k.2]
  | .ite _ x y a b, k => by
    simp only [belowE, Bool.and_eq_true] at k
    simp only [E.den, den_congr h k.1.1, den_congr h k.1.2, den_congr h k.2.1, den_congr h k.2.2]
/-- the answers are numbers from 0 to below m -/
noncomputable def litsE (m : Nat) : E → Bool
  | .lit n => match n with
    | .ofNat k => Nat.ble (k + 1) m
    | _ => false
  | .ite _ _ _ a b => litsE m a && litsE m b
  | _ => false
theorem litsE_ok {m : Nat} {f : Nat → Int} : ∀ {e : E}, litsE m e = true → ∃ k : Nat, k < m ∧ e.den f = k
  | .lit n, h => by
    cases n with
    | ofNat k => exact ⟨k, by have := bleN h; omega, rfl⟩
    | negSucc k => cases h
  | .ite q x y a b, h => by
    simp only [litsE, Bool.and_eq_true] at h
    cases q <;> simp only [E.den] <;> split <;> first | exact litsE_ok h.1 | exact litsE_ok h.2
  | .var _, h => by cases h
  | .add _ _, h => by cases h
  | .sub _ _, h => by cases h
  | .wrap _ _, h => by cases h
  | .bop _ _ _ _, h => by cases h
/-- what is told: where the numbers begin, which answer it is -/
abbrev TabT := List (Nat × Int)
def TabS (σ : Nat → Int) (S : E) (T : TabT) : Prop := ∀ n k, (n, k) ∈ T → S.den (fun i => σ (n + i)) = k
noncomputable def lookT (T : TabT) (n : Nat) : Option Int := List.rec none (fun x _ ih => match Nat.beq x.1 n with
  | true => some x.2
  | false => ih) T
theorem lookT_mem {n : Nat} {k : Int} : ∀ {T : TabT}, lookT T n = some k → (n, k) ∈ T
  | [], h => by cases h
  | (m, j) :: T, h => by
    have h : (match Nat.beq m n with
      | true => some j
      | false => lookT T n) = some k := h
    split at h
    · rename_i e
      cases h
      rw [beqN e]
      exact List.mem_cons_self
    · exact List.mem_cons_of_mem _ (lookT_mem h)
/-- the numbers stand in a row -/
noncomputable def rowIn (b : Bd) (n : Nat) : Nat → Nat → Bool
  | 0, _ => true
  | w + 1, i => match b.num i with
    | .var j => Nat.beq j (n + i) && rowIn b n w (i + 1)
    | _ => false
theorem rowIn_ok {σ : Nat → Int} {b : Bd} {n : Nat} : ∀ {w i : Nat}, rowIn b n w i = true → ∀ j, i ≤ j → j < i + w → b.val σ j = σ (n + j)
  | 0, i, _, j, h1, h2 => by omega
  | w + 1, i, h, j, h1, h2 => by
    unfold rowIn at h
    split at h
    · rename_i m hm
      rw [Bool.and_eq_true] at h
      have hb := beqN h.1
      by_cases hj : j = i
      · subst hj
        unfold Bd.val
        rw [hm, hb]
        rfl
      · exact rowIn_ok h.2 j (by omega) (by omega)
    · cases h
noncomputable def tabIn (T : TabT) (w : Nat) (k : Int) (b : Bd) : Bool := match b.num 0 with
  | .var n => match lookT T n with
    | some j => eqI j k && rowIn b n w 0
    | none => false
  | _ => false
theorem tabIn_ok {σ : Nat → Int} {S : E} {T : TabT} {w : Nat} {k : Int} {b : Bd} (hT : TabS σ S T) (hS : belowE w S = true) (h : tabIn T w k b = true) : S.den (b.val σ) = k := by
  unfold tabIn at h
  split at h
  · rename_i n hn
    split at h
    · rename_i j hj
      rw [Bool.and_eq_true] at h
      have h1 : j = k := by have := h.1; rwa [eqI_eq, decide_eq_true_eq] at this
      rw [← h1, ← hT n j (lookT_mem hj)]
      exact den_congr (fun i hi => rowIn_ok h.2 i (Nat.zero_le _) (by omega)) hS
    · cases h
  · cases h
/-- a kept call, where something else tells that its facts hold -/
noncomputable def symTryC (chk : Bd → Bool) (Γ : Cx) (fix : Nat) (m : Sym) (args : List V) (h : H) : Option (V × H) :=
  match Nat.ble fix m.pre.next && Nat.ble fix h.next with
  | false => none
  | true => match matchRow m.args args { fix, n0 := m.pre.next, n1 := h.next, nm := .lf, us := .lf, vs := .lf } with
    | none => none
    | some b => match matchBlks m.pre.tr h.tr m.names b with
      | none => none
      | some b => match rngIn Γ b m.rng 0 with
        | false => none
        | true => match chk b with
          | false => none
          | true => match upsIn b m.names m.ups with
            | false => none
            | true => match lowTr fix h.next m.pre.tr h.tr 0 1 with
              | false => none
              | true => some (renV Γ b m.v, ⟨upA Γ b m.ups h.tr, h.next + (m.next - m.pre.next)⟩)
theorem sym_tryC_ok {chk : Bd → Bool} {P : Program} {G : Nat} {σ : Nat → Int} {Γ : Cx} {W0 : World} {f : FuncId} {fix : Nat} {m : Sym} (Gd : GoodCx σ Γ) (hG : G < 2 ^ fix) (hm : SymOk P G W0 f m)
    (hc : ∀ b : Bd, chk b = true → ∀ q x y t, (q, x, y, t) ∈ m.facts → (match q with | true => decide (x.den (b.val σ) = y.den (b.val σ)) | false => decide (x.den (b.val σ) < y.den (b.val σ))) = t) :
    CallOk P G σ W0 f (symTryC chk Γ fix m) := by
  intro vs xs h v h' ρ W e hv R g
  unfold symTryC at e
  split at e
  · cases e
  rename_i e0
  simp only [Bool.and_eq_true] at e0
  split at e
  · cases e
  rename_i b1 hb1
  split at e
  · cases e
  rename_i b hb2
  split at e
  · cases e
  rename_i e3
  split at e
  · cases e
  rename_i e4
  split at e
  · cases e
  rename_i e5
  split at e
  · cases e
  rename_i e6
  cases e
  have hok0 : Bd.Ok { fix, n0 := m.pre.next, n1 := h.next, nm := .lf, us := .lf, vs := .lf } := ⟨fun r k hr => by
    have hr : (Tr.lf : Tr Nat).get r = some k := hr
    rw [Tr.get_lf] at hr; cases hr⟩
  have k1 := matchRow_ok (Γ := Γ) hb1 hok0
  have k2 := matchBlks_ok (Γ := Γ) (L := m.names) (fun r hr => hr) hb2 k1.1
  have hb : b.Ok := k2.1
  have hle := k1.2.1.trans k2.2.1
  have hargs := k1.2.2 b k2.2.1 hb
  have hblk := k2.2.2 b (Bd.Le.refl _) hb
  have ef : b.fix = fix := hle.fix
  have en0 : b.n0 = m.pre.next := hle.n0
  have en1 : b.n1 = h.next := hle.n1
  have f0 : b.fix ≤ b.n0 := by rw [ef, en0]; exact bleN e0.1
  have f1 : b.fix ≤ b.n1 := by rw [ef, en1]; exact bleN e0.2
  have low := fun (i : Nat) (o : Ob) (hg : h.tr.get i = some o) => lowTr_get e6 i o hg
  simp only [Nat.zero_add, Nat.one_mul] at low
  have hlow : ∀ (i : Nat) (o : Ob), h.tr.get i = some o → i < h.next := by
    intro i o hg
    rcases low i o hg with ⟨q, _⟩ | ⟨_, q, _⟩
    · have := bleN e0.2; omega
    · exact q
  have A : Stands Γ b m.names h.tr m.pre.tr h.tr := by
    refine ⟨fun r o hg => ?_, fun r o hg => ?_, fun k o hg => ?_⟩
    · obtain ⟨_, _, q, _⟩ := hblk r (hm.list r o hg)
      exact q
    · obtain ⟨o', q1, _, q3⟩ := hblk r (hm.list r o hg)
      rw [hg] at q1
      cases q1
      exact q3
    · by_cases hk : ∃ r, b.Own m.names r ∧ k = b.ren r
      · obtain ⟨r, hr, rfl⟩ := hk
        left
        have hsome : ∃ o', m.pre.tr.get r = some o' := by
          have hlt := hlow _ _ hg
          rcases hr with a | ⟨a, _⟩ | a
          · rcases low _ _ hg with ⟨q1, o', q2⟩ | ⟨q1, q2, q3⟩
            · rw [Bd.ren_fix a] at q2; exact ⟨o', q2⟩
            · rw [Bd.ren_fix a] at q1; omega
          · obtain ⟨o', q, _⟩ := hblk r a; exact ⟨o', q⟩
          · rw [Bd.ren_own a (by omega)] at hlt; omega
        obtain ⟨o', ho'⟩ := hsome
        obtain ⟨o2, q1, _, q3⟩ := hblk r (hm.list r o' ho')
        rw [ho'] at q1
        cases q1
        rw [hg] at q3
        cases q3
        exact ⟨r, o', hr, rfl, ho', rfl⟩
      · exact .inr ⟨fun r hr e => hk ⟨r, hr, e⟩, hg⟩
  have hfree : ∀ (i : Nat) (o : Ob), h.tr.get i = some o → (∀ r, b.Own m.names r → i ≠ b.ren r) → o.free = true ∨ o.arg = true := by
    intro i o hg hi
    rcases low i o hg with ⟨q, _⟩ | ⟨_, _, q⟩
    · exact absurd (Bd.ren_fix (by omega)).symm (hi i (.inl (by omega)))
    · exact Ob.okHigh_or q
  have A' : Stands Γ b m.names h.tr m.post.tr (upA Γ b m.ups h.tr) := A.ups hb f0 f1 m.ups e5
  have hval : Known2 (b.val σ) m.rng m.facts := by
    refine ⟨fun i lo hi hi' => ?_, hc b e4⟩
    have := rngIn_ok Gd e3 i lo hi hi'
    rw [Nat.zero_add] at this
    exact this
  have hR : Rel (b.val σ) W0 (fun r => ρ (b.ren r)) m.pre W := by
    refine ⟨R.below, fun r hr => ?_, fun r l hl => R.blk _ l hl, fun r o l hg hl => ?_, fun r r' o o' l l' hg hg' hne hl hl' => ?_⟩
    · show ρ (b.ren r) = none
      rw [Bd.ren_own (by omega) (by omega)]
      exact R.dom _ (by omega)
    · obtain ⟨q1, q2⟩ := R.obs _ _ l (A.emb r o hg) hl
      exact ⟨renOb_in Gd o q1, (renOb_place Γ b o).1 q2⟩
    · rcases R.apart _ _ _ _ l l' (A.emb r o hg) (A.emb r' o' hg') (fun e => hne (Bd.ren_inj hb f0 f1 (A.own r o hg) (A.own r' o' hg') e)) hl hl' with q | ⟨q1, q2, q3⟩
      · exact .inl q
      · rw [renOb_free] at q1 q2
        rw [renOb_rows, renOb_rows, renOb_arg, renOb_arg] at q3
        exact .inr ⟨q1, q2, q3⟩
  have hg : Glob G (fun r => ρ (b.ren r)) := fun k hk => by
    have : k < fix := bit_lt hG hk
    show ∃ t, ρ (b.ren k) = _
    rw [Bd.ren_fix (by omega)]
    exact g k hk
  have hv' : VRs (b.val σ) (fun r => ρ (b.ren r)) m.args xs.toList := by
    refine renVs_in Gd _ _ ?_
    rw [hargs]; exact hv
  obtain ⟨nx, W1, h1, h2⟩ := hm.run (b.val σ) hval xs _ W hv' hR hg
  refine ⟨nx, W1, h1, ?_⟩
  rcases h2 with ⟨q1, q2, hcc⟩ | ⟨x, ρ', q1, hx, S⟩
  · refine .inl ⟨q1, q2, hcc.mono ?_⟩
    rintro e w' ⟨x, ρ', he, hx, S⟩
    obtain ⟨ρ2, S2, hin⟩ := Stp.moved Gd hb f0 f1 en1 R S en0.symm A hlow hfree A'
    exact ⟨x, ρ2, he, renV_out Gd hin _ _ hx, S2⟩
  · obtain ⟨ρ2, S2, hin⟩ := Stp.moved Gd hb f0 f1 en1 R S en0.symm A hlow hfree A'
    exact .inr ⟨x, ρ2, q1, renV_out Gd hin _ _ hx, S2⟩
/-- the answers, each with its number -/
noncomputable def symFnT (Γ : Cx) (fix : Nat) (T : TabT) (w : Nat) (ms : List (Int × Sym)) : Fn := fun args h =>
  List.rec none (fun m _ ih => match symTryC (tabIn T w m.1) Γ fix m.2 args h with
    | some r => some r
    | none => ih) ms
theorem sym_fnT_ok {P : Program} {G : Nat} {σ : Nat → Int} {Γ : Cx} {W0 : World} {f : FuncId} {fix w : Nat} {S : E} {T : TabT} (Gd : GoodCx σ Γ) (hG : G < 2 ^ fix) (hT : TabS σ S T) (hS : belowE w S = true) :
    ∀ {ms : List (Int × Sym)}, (∀ m ∈ ms, SymOk P G W0 f m.2 ∧ m.2.facts = [(true, S, .lit m.1, true)]) → CallOk P G σ W0 f (symFnT Γ fix T w ms)
  | [], _ => fun vs xs h v h' ρ W e => by cases e
  | m :: ms, hms => fun vs xs h v h' ρ W e hv R g => by
    have e : (match symTryC (tabIn T w m.1) Γ fix m.2 vs h with
      | some r => some r
      | none => symFnT Γ fix T w ms vs h) = some (v, h') := e
    split at e
    · rename_i r hr
      rw [e] at hr
      obtain ⟨q1, q2⟩ := hms m List.mem_cons_self
      refine sym_tryC_ok Gd hG q1 (fun b hb q x y t hm => ?_) vs xs h v h' ρ W hr hv R g
      rw [q2] at hm
      simp only [List.mem_cons, List.not_mem_nil, or_false, Prod.mk.injEq] at hm
      obtain ⟨rfl, rfl, rfl, rfl⟩ := hm
      exact decide_eq_true (tabIn_ok hT hS hb)
    · exact sym_fnT_ok Gd hG hT hS (fun m' hm' => hms m' (List.mem_cons_of_mem _ hm')) vs xs h v h' ρ W e hv R g
/-- the first one that is not 0 -/
theorem first_bad (v : Nat → Int) : ∀ n : Nat, (∀ j, j < n → v j = 0) ∨ ∃ i, i < n ∧ (∀ j, j < i → v j = 0) ∧ v i ≠ 0
  | 0 => .inl fun j hj => by omega
  | n + 1 => by
    rcases first_bad v n with h | ⟨i, h1, h2, h3⟩
    · by_cases e : v n = 0
      · refine .inl fun j hj => ?_
        by_cases k : j = n
        · rw [k]; exact e
        · exact h j (by omega)
      · exact .inr ⟨n, by omega, h, e⟩
    · exact .inr ⟨i, by omega, h2, h3⟩
end Tk
