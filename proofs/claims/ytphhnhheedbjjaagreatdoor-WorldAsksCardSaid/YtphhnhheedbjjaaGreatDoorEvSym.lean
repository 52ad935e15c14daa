/- Calls that are kept for all numbers, and wherever their blocks lie. -/
import Derived.Test.YtphhnhheedbjjaaGreatDoorEvFork
set_option linter.unusedVariables false
set_option linter.unusedSimpArgs false
namespace Tk
open Go Go.RowKit

/-- what a kept call's names and numbers stand for: names below fix are themselves; from n0 on they are the call's own, from n1 on here -/
structure Bd where
  fix : Nat
  n0 : Nat
  n1 : Nat
  nm : Tr Nat
  us : Tr Nat
  vs : Tr E
noncomputable def Bd.ren (b : Bd) (r : Nat) : Nat := match Nat.ble (r + 1) b.fix with
  | true => r
  | false => match Nat.ble b.n0 r with
    | true => b.n1 + (r - b.n0)
    | false => match Tr.get b.nm r with
      | some k => k
      | none => 0
noncomputable def Bd.num (b : Bd) (i : Nat) : E := match Tr.get b.vs i with
  | some e => e
  | none => .lit 0
/-- which of two numbers, as far as it is told -/
noncomputable def iteE (Γ : Cx) (q : Bool) (x y a b : E) : E := match (match q with | true => isE Γ x y | false => ltE Γ x y) with
  | some true => a
  | some false => b
  | none => match eqE a b with
    | true => a
    | false => .ite q x y a b
theorem iteE_den {σ : Nat → Int} {Γ : Cx} (Gd : GoodCx σ Γ) (q : Bool) (x y a b : E) : (iteE Γ q x y a b).den σ = (E.ite q x y a b).den σ := by
  have key : ∀ c : Option Bool, (∀ t, c = some t → (match q with | true => decide (x.den σ = y.den σ) | false => decide (x.den σ < y.den σ)) = t) →
      (match c with
        | some true => a
        | some false => b
        | none => match eqE a b with
          | true => a
          | false => .ite q x y a b : E).den σ = (E.ite q x y a b).den σ := by
    intro c hc
    cases c with
    | none =>
      dsimp only
      cases e : eqE a b with
      | true =>
        rw [eqE_eq e]
        simp only [E.den]
        split <;> rfl
      | false => rfl
    | some t =>
      have := hc t rfl
      cases q <;> cases t <;> (dsimp only at this; dsimp only [E.den]; rw [this])
  unfold iteE
  refine key _ fun t h => ?_
  cases q with
  | true => exact isE_ok Gd _ _ _ h
  | false => exact ltE_ok Gd _ _ _ h
noncomputable def Bd.sub (Γ : Cx) (b : Bd) (e : E) : E :=
  E.rec (fun n => .lit n) (fun i => b.num i) (fun _ _ x y => addE x y) (fun _ _ x y => subE x y) (fun k _ x => wrapE Γ k x) (fun op k _ _ x y => bopG Γ op k x y) (fun q _ _ _ _ x y a b => iteE Γ q x y a b) e
/-- what the numbers are -/
noncomputable def Bd.val (b : Bd) (σ : Nat → Int) : Nat → Int := fun i => (b.num i).den σ
theorem Bd.sub_den {σ : Nat → Int} {Γ : Cx} (Gd : GoodCx σ Γ) (b : Bd) : ∀ e : E, (b.sub Γ e).den σ = e.den (b.val σ)
  | .lit n => rfl
  | .var i => rfl
  | .add x y => by
    show (addE (b.sub Γ x) (b.sub Γ y)).den σ = _
    rw [addE_den, Bd.sub_den Gd b x, Bd.sub_den Gd b y]; rfl
  | .sub x y => by
    show (subE (b.sub Γ x) (b.sub Γ y)).den σ = _
    rw [subE_den, Bd.sub_den Gd b x, Bd.sub_den Gd b y]; rfl
  | .wrap k x => by
    show (wrapE Γ k (b.sub Γ x)).den σ = _
    rw [wrapE_den Gd, Bd.sub_den Gd b x]; rfl
  | .bop op k x y => by
    show (bopG Γ op k (b.sub Γ x) (b.sub Γ y)).den σ = _
    rw [bopG_den Gd, Bd.sub_den Gd b x, Bd.sub_den Gd b y]; rfl
  | .ite q x y c d => by
    show (iteE Γ q (b.sub Γ x) (b.sub Γ y) (b.sub Γ c) (b.sub Γ d)).den σ = _
    rw [iteE_den Gd]
    simp only [E.den]
    rw [Bd.sub_den Gd b x, Bd.sub_den Gd b y, Bd.sub_den Gd b c, Bd.sub_den Gd b d]
noncomputable def renP (Γ : Cx) (b : Bd) : List Pc → List Pc
  | [] => []
  | .b n :: l => .b n :: renP Γ b l
  | .d e k i :: l => .d (b.sub Γ e) k i :: renP Γ b l
theorem renP_val {σ : Nat → Int} {Γ : Cx} (Gd : GoodCx σ Γ) (b : Bd) : ∀ l : List Pc, (renP Γ b l).map (Pc.val σ) = l.map (Pc.val (b.val σ))
  | [] => rfl
  | .b n :: l => by simp only [renP, List.map_cons, Pc.val, renP_val Gd b l]
  | .d e k i :: l => by simp only [renP, List.map_cons, Pc.val, renP_val Gd b l, Bd.sub_den Gd]
mutual
noncomputable def renV (Γ : Cx) (b : Bd) : V → V
  | .bool t => .bool t
  | .int k e => .int k (b.sub Γ e)
  | .str s => .str s
  | .ptr r o => .ptr (b.ren r) o
  | .pnil => .pnil
  | .slice r o l c e x => .slice (b.ren r) o l c e x
  | .eslice x => .eslice x
  | .snil => .snil
  | .map r => .map (b.ren r)
  | .mnil => .mnil
  | .func f a c => .func f (renVs Γ b a) (renVs Γ b c)
  | .fnil => .fnil
  | .iface t v => .iface t (renV Γ b v)
  | .inil => .inil
  | .agg cs => .agg (renVs Γ b cs)
  | .tuple cs => .tuple (renVs Γ b cs)
  | .strd ps => .strd (renP Γ b ps)
  | .ptx r o sz e n => .ptx (b.ren r) o sz (b.sub Γ e) n
  | .vsl e => .vsl (b.sub Γ e)
  | .junk => .junk
noncomputable def renVs (Γ : Cx) (b : Bd) : List V → List V
  | [] => []
  | v :: l => renV Γ b v :: renVs Γ b l
end
section
variable {σ : Nat → Int} {Γ : Cx} {b : Bd} {ρ ρ' : Inj}
mutual
theorem renV_in (Gd : GoodCx σ Γ) : ∀ (v : V) (x : Value), VR σ ρ (renV Γ b v) x → VR (b.val σ) (fun r => ρ (b.ren r)) v x
  | .bool _, x, h => by simpa only [renV, VR] using h
  | .int _ e, x, h => by simp only [renV, VR] at h ⊢; rw [h, Bd.sub_den Gd]
  | .str _, x, h => by simpa only [renV, VR] using h
  | .ptr _ _, x, h => by simpa only [renV, VR] using h
  | .pnil, x, h => by simpa only [renV, VR] using h
  | .slice _ _ _ _ _ _, x, h => by simpa only [renV, VR] using h
  | .eslice _, x, h => by simpa only [renV, VR] using h
  | .snil, x, h => by simpa only [renV, VR] using h
  | .map _, x, h => by simpa only [renV, VR] using h
  | .mnil, x, h => by simpa only [renV, VR] using h
  | .func _ a c, x, h => by
    simp only [renV, VR] at h ⊢
    obtain ⟨a', c', h1, h2, h3⟩ := h
    exact ⟨a', c', h1, renVs_in Gd a _ h2, renVs_in Gd c _ h3⟩
  | .fnil, x, h => by simpa only [renV, VR] using h
  | .iface _ v, x, h => by
    simp only [renV, VR] at h ⊢
    obtain ⟨v', h1, h2⟩ := h
    exact ⟨v', h1, renV_in Gd v _ h2⟩
  | .inil, x, h => by simpa only [renV, VR] using h
  | .agg cs, x, h => by
    simp only [renV, VR] at h ⊢
    obtain ⟨c, h1, h2⟩ := h
    exact ⟨c, h1, renVs_in Gd cs _ h2⟩
  | .tuple cs, x, h => by
    simp only [renV, VR] at h ⊢
    obtain ⟨c, h1, h2⟩ := h
    exact ⟨c, h1, renVs_in Gd cs _ h2⟩
  | .strd ps, x, h => by simp only [renV, VR, renP_val Gd] at h ⊢; exact h
  | .ptx _ _ _ _ _, x, h => by simp only [renV, VR, Bd.sub_den Gd] at h ⊢; exact h
  | .vsl e, x, h => by simp only [renV, VR, Bd.sub_den Gd] at h ⊢; exact h
  | .junk, x, h => by simp only [VR]
theorem renVs_in (Gd : GoodCx σ Γ) : ∀ (vs : List V) (xs : List Value), VRs σ ρ (renVs Γ b vs) xs → VRs (b.val σ) (fun r => ρ (b.ren r)) vs xs
  | [], xs, h => by simpa only [renVs, VRs] using h
  | v :: l, xs, h => by
    simp only [renVs, VRs] at h ⊢
    obtain ⟨v', l', h1, h2, h3⟩ := h
    exact ⟨v', l', h1, renV_in Gd v _ h2, renVs_in Gd l _ h3⟩
end
mutual
theorem renV_out (Gd : GoodCx σ Γ) (hx : ∀ r l, ρ' r = some l → ρ (b.ren r) = some l) : ∀ (v : V) (x : Value), VR (b.val σ) ρ' v x → VR σ ρ (renV Γ b v) x
  | .bool _, x, h => by simpa only [renV, VR] using h
  | .int _ e, x, h => by simp only [renV, VR] at h ⊢; rw [h, Bd.sub_den Gd]
  | .str _, x, h => by simpa only [renV, VR] using h
  | .ptr _ _, x, h => by
    simp only [renV, VR] at h ⊢
    obtain ⟨l, h1, h2⟩ := h
    exact ⟨l, hx _ _ h1, h2⟩
  | .pnil, x, h => by simpa only [renV, VR] using h
  | .slice _ _ _ _ _ _, x, h => by
    simp only [renV, VR] at h ⊢
    obtain ⟨l, c, h1, h2⟩ := h
    exact ⟨l, c, hx _ _ h1, h2⟩
  | .eslice _, x, h => by simpa only [renV, VR] using h
  | .snil, x, h => by simpa only [renV, VR] using h
  | .map _, x, h => by
    simp only [renV, VR] at h ⊢
    obtain ⟨l, h1, h2⟩ := h
    exact ⟨l, hx _ _ h1, h2⟩
  | .mnil, x, h => by simpa only [renV, VR] using h
  | .func _ a c, x, h => by
    simp only [renV, VR] at h ⊢
    obtain ⟨a', c', h1, h2, h3⟩ := h
    exact ⟨a', c', h1, renVs_out Gd hx a _ h2, renVs_out Gd hx c _ h3⟩
  | .fnil, x, h => by simpa only [renV, VR] using h
  | .iface _ v, x, h => by
    simp only [renV, VR] at h ⊢
    obtain ⟨v', h1, h2⟩ := h
    exact ⟨v', h1, renV_out Gd hx v _ h2⟩
  | .inil, x, h => by simpa only [renV, VR] using h
  | .agg cs, x, h => by
    simp only [renV, VR] at h ⊢
    obtain ⟨c, h1, h2⟩ := h
    exact ⟨c, h1, renVs_out Gd hx cs _ h2⟩
  | .tuple cs, x, h => by
    simp only [renV, VR] at h ⊢
    obtain ⟨c, h1, h2⟩ := h
    exact ⟨c, h1, renVs_out Gd hx cs _ h2⟩
  | .strd ps, x, h => by simp only [renV, VR, renP_val Gd] at h ⊢; exact h
  | .ptx _ _ _ _ _, x, h => by
    simp only [renV, VR, Bd.sub_den Gd] at h ⊢
    obtain ⟨l, i, h1, h2⟩ := h
    exact ⟨l, i, hx _ _ h1, h2⟩
  | .vsl e, x, h => by simp only [renV, VR, Bd.sub_den Gd] at h ⊢; exact h
  | .junk, x, h => by simp only [renV, VR]
theorem renVs_out (Gd : GoodCx σ Γ) (hx : ∀ r l, ρ' r = some l → ρ (b.ren r) = some l) : ∀ (vs : List V) (xs : List Value), VRs (b.val σ) ρ' vs xs → VRs σ ρ (renVs Γ b vs) xs
  | [], xs, h => by simpa only [renVs, VRs] using h
  | v :: l, xs, h => by
    simp only [renVs, VRs] at h ⊢
    obtain ⟨v', l', h1, h2, h3⟩ := h
    exact ⟨v', l', h1, renV_out Gd hx v _ h2, renVs_out Gd hx l _ h3⟩
end
end
theorem renVs_map (Γ : Cx) (b : Bd) : ∀ l : List V, renVs Γ b l = l.map (renV Γ b)
  | [] => by simp only [renVs, List.map_nil]
  | v :: l => by simp only [renVs, List.map_cons, renVs_map Γ b l]
noncomputable def renRows (Γ : Cx) (b : Bd) (cs : List (List V)) : List (List V) := List.rec [] (fun r _ ih => renVs Γ b r :: ih) cs
theorem renRows_map (Γ : Cx) (b : Bd) : ∀ cs : List (List V), renRows Γ b cs = cs.map (renVs Γ b)
  | [] => rfl
  | r :: cs => by show renVs Γ b r :: renRows Γ b cs = _; rw [renRows_map Γ b cs]; rfl
noncomputable def renEnts (Γ : Cx) (b : Bd) (es : Ents) : Ents := List.rec [] (fun e _ ih => (renV Γ b e.1, renV Γ b e.2.1, e.2.2) :: ih) es
noncomputable def renOb (Γ : Cx) (b : Bd) : Ob → Ob
  | .cells sz cs ro => .cells sz (renRows Γ b cs) ro
  | .map es c => .map (renEnts Γ b es) c
  | .mapIter m a s t => .mapIter (match m with | some r => some (b.ren r) | none => none) a s t
  | .strIter s p => .strIter s p
theorem renOb_free (Γ : Cx) (b : Bd) (o : Ob) : (renOb Γ b o).free = o.free := by
  cases o <;> first | rfl | (rename_i sz cs ro; cases ro <;> rfl)
theorem renOb_arg (Γ : Cx) (b : Bd) (o : Ob) : (renOb Γ b o).arg = o.arg := by
  cases o <;> first | rfl | (rename_i sz cs ro; cases ro <;> rfl)
theorem renOb_place (Γ : Cx) (b : Bd) (o : Ob) {W0 : World} {l : Loc} : Place W0 (renOb Γ b o) l ↔ Place W0 o l := by
  unfold Place
  rw [renOb_free, renOb_arg]
/-- a block that a kept call does not name: one of the call's own, or an argument's row -/
noncomputable def Ob.okHigh (o : Ob) : Bool := match o.free with
  | true => true
  | false => o.arg
theorem Ob.okHigh_or {o : Ob} (h : o.okHigh = true) : o.free = true ∨ o.arg = true := by
  unfold Ob.okHigh at h
  split at h
  · rename_i e; exact .inl e
  · exact .inr h
theorem Ob.free_of_arg {o : Ob} (h : o.arg = true) : o.free = false := by
  cases hf : o.free with
  | false => rfl
  | true => rw [Ob.arg_free hf] at h; cases h
theorem ren_flatten (Γ : Cx) (b : Bd) : ∀ cs : List (List V), (renRows Γ b cs).flatten = renVs Γ b cs.flatten
  | [] => by simp [renRows, renVs]
  | r :: cs => by
    show (renVs Γ b r :: renRows Γ b cs).flatten = _
    rw [List.flatten_cons, List.flatten_cons, ren_flatten Γ b cs]
    simp only [renVs_map, List.map_append]
theorem renVs_len (Γ : Cx) (b : Bd) (l : List V) : (renVs Γ b l).length = l.length := by rw [renVs_map, List.length_map]
theorem ren_shape (Γ : Cx) (b : Bd) {sz : Nat} : ∀ cs : List (List V), Shape sz (renRows Γ b cs) ↔ Shape sz cs
  | [] => by simp [renRows, Shape]
  | [c] => by simp [renRows, Shape, renVs_len]
  | c :: d :: rest => by
    have ih := ren_shape Γ b (sz := sz) (d :: rest)
    show Shape sz (renVs Γ b c :: renVs Γ b d :: renRows Γ b rest) ↔ _
    simp only [Shape, renVs_len]
    exact and_congr_right fun _ => ih
theorem renOb_rows (Γ : Cx) (b : Bd) (o : Ob) : (renOb Γ b o).rows.length = o.rows.length := by
  cases o <;> first | rfl | skip
  show (renRows Γ b _).flatten.length = _
  rw [ren_flatten, renVs_len]; rfl
section
variable {σ : Nat → Int} {Γ : Cx} {b : Bd} {ρ ρ' : Inj}
theorem renEnts_in (Gd : GoodCx σ Γ) : ∀ (es : Ents) (l : List MapEntry), entR σ ρ (renEnts Γ b es) l → entR (b.val σ) (fun r => ρ (b.ren r)) es l
  | [], l, h => by simpa only [renEnts, entR] using h
  | (k, v, n) :: es, l, h => by
    have h : entR σ ρ ((renV Γ b k, renV Γ b v, n) :: renEnts Γ b es) l := h
    simp only [entR] at h ⊢
    obtain ⟨k', v', l', h1, h2, h3, h4⟩ := h
    exact ⟨k', v', l', h1, renV_in Gd _ _ h2, renV_in Gd _ _ h3, renEnts_in Gd es _ h4⟩
theorem renEnts_out (Gd : GoodCx σ Γ) (hx : ∀ r l, ρ' r = some l → ρ (b.ren r) = some l) : ∀ (es : Ents) (l : List MapEntry), entR (b.val σ) ρ' es l → entR σ ρ (renEnts Γ b es) l
  | [], l, h => by simpa only [renEnts, entR] using h
  | (k, v, n) :: es, l, h => by
    show entR σ ρ ((renV Γ b k, renV Γ b v, n) :: renEnts Γ b es) l
    simp only [entR] at h ⊢
    obtain ⟨k', v', l', h1, h2, h3, h4⟩ := h
    exact ⟨k', v', l', h1, renV_out Gd hx _ _ h2, renV_out Gd hx _ _ h3, renEnts_out Gd hx es _ h4⟩
theorem renOb_in (Gd : GoodCx σ Γ) {W : World} {l : Loc} (o : Ob) (h : ObR σ ρ W l (renOb Γ b o)) : ObR (b.val σ) (fun r => ρ (b.ren r)) W l o := by
  cases o with
  | cells sz cs ro =>
    obtain ⟨C, e, h1, h2, h3, h4, h5⟩ := h
    rw [ren_flatten, renVs_len] at h4 h5
    exact ⟨C, e, h1, h2, (ren_shape Γ b cs).1 h3, h4, renVs_in Gd _ _ h5⟩
  | map es clock =>
    obtain ⟨es', h1, h2⟩ := h
    exact ⟨es', h1, renEnts_in Gd _ _ h2⟩
  | mapIter m since seen stepped =>
    cases m with
    | none =>
      obtain ⟨h1, h2, h3⟩ := h
      exact ⟨h1, (fun r hr => by cases hr), h3⟩
    | some k =>
      obtain ⟨h1, h2, h3⟩ := h
      exact ⟨h1, (fun r hr => by cases hr; exact h2 _ rfl), h3⟩
  | strIter s pos => exact h
theorem renOb_out (Gd : GoodCx σ Γ) (hx : ∀ r l, ρ' r = some l → ρ (b.ren r) = some l) {W : World} {l : Loc} (o : Ob) (h : ObR (b.val σ) ρ' W l o) : ObR σ ρ W l (renOb Γ b o) := by
  cases o with
  | cells sz cs ro =>
    obtain ⟨C, e, h1, h2, h3, h4, h5⟩ := h
    refine ⟨C, e, h1, h2, (ren_shape Γ b cs).2 h3, ?_, ?_⟩
    · rw [ren_flatten, renVs_len]; exact h4
    · rw [ren_flatten, renVs_len]; exact renVs_out Gd hx _ _ h5
  | map es clock =>
    obtain ⟨es', h1, h2⟩ := h
    exact ⟨es', h1, renEnts_out Gd hx _ _ h2⟩
  | mapIter m since seen stepped =>
    cases m with
    | none =>
      obtain ⟨h1, h2, h3⟩ := h
      exact ⟨h1, (fun r hr => by cases hr), h3⟩
    | some k =>
      obtain ⟨h1, h2, h3⟩ := h
      obtain ⟨l', hl⟩ := h2 k rfl
      refine ⟨?_, (fun r hr => by cases hr; exact ⟨l', hx _ _ hl⟩), h3⟩
      rw [h1]
      simp [hl, hx _ _ hl]
  | strIter s pos => exact h
end

/- held against what is there -/
structure Bd.Ok (b : Bd) : Prop where
  bound : ∀ r k, b.nm.get r = some k → b.fix ≤ r ∧ r < b.n0 ∧ b.fix ≤ k ∧ k < b.n1 ∧ b.us.get k = some r
structure Bd.Le (b c : Bd) : Prop where
  fix : c.fix = b.fix
  n0 : c.n0 = b.n0
  n1 : c.n1 = b.n1
  nm : ∀ r k, b.nm.get r = some k → c.nm.get r = some k
  vs : ∀ i e, b.vs.get i = some e → c.vs.get i = some e
theorem Bd.Le.refl (b : Bd) : Bd.Le b b := ⟨rfl, rfl, rfl, fun _ _ h => h, fun _ _ h => h⟩
theorem Bd.Le.trans {a b c : Bd} (h : Bd.Le a b) (k : Bd.Le b c) : Bd.Le a c :=
  ⟨k.fix.trans h.fix, k.n0.trans h.n0, k.n1.trans h.n1, fun r x e => k.nm r x (h.nm r x e), fun i x e => k.vs i x (h.vs i x e)⟩
noncomputable def matchN (b : Bd) (r k : Nat) : Option Bd := match Nat.ble (r + 1) b.fix with
  | true => match Nat.beq r k with
    | true => some b
    | false => none
  | false => match Tr.get b.nm r with
    | some k' => match Nat.beq k' k with
      | true => some b
      | false => none
    | none => match Nat.ble (r + 1) b.n0 && (Nat.ble b.fix k && Nat.ble (k + 1) b.n1) with
      | true => match Tr.get b.us k with
        | none => some { fix := b.fix, n0 := b.n0, n1 := b.n1, nm := Tr.set b.nm r k, us := Tr.set b.us k r, vs := b.vs }
        | some _ => none
      | false => none
theorem Bd.ren_fix {d : Bd} {r : Nat} (h : r < d.fix) : d.ren r = r := by
  unfold Bd.ren
  rw [Nat.ble_eq_true_of_le h]
theorem Bd.ren_own {d : Bd} {r : Nat} (h : d.n0 ≤ r) (h' : d.fix ≤ r) : d.ren r = d.n1 + (r - d.n0) := by
  unfold Bd.ren
  have : Nat.ble (r + 1) d.fix = false := by
    cases e : Nat.ble (r + 1) d.fix with
    | false => rfl
    | true => have := bleN e; omega
  rw [this, Nat.ble_eq_true_of_le h]
theorem Bd.ren_nm {d : Bd} (hd : d.Ok) {r k : Nat} (h : d.nm.get r = some k) : d.ren r = k := by
  obtain ⟨h1, h2, _⟩ := hd.bound r k h
  unfold Bd.ren
  have e1 : Nat.ble (r + 1) d.fix = false := by
    cases e : Nat.ble (r + 1) d.fix with
    | false => rfl
    | true => have := bleN e; omega
  have e2 : Nat.ble d.n0 r = false := by
    cases e : Nat.ble d.n0 r with
    | false => rfl
    | true => have := bleN e; omega
  rw [e1, e2, h]
theorem matchN_ok {b c : Bd} {r k : Nat} (h : matchN b r k = some c) (hb : b.Ok) : c.Ok ∧ b.Le c ∧ ∀ d : Bd, c.Le d → d.Ok → d.ren r = k := by
  unfold matchN at h
  split at h
  · rename_i e1
    split at h
    · rename_i e2
      cases h
      refine ⟨hb, Bd.Le.refl _, fun d hd _ => ?_⟩
      rw [Bd.ren_fix (by rw [hd.fix]; exact bleN e1)]
      exact beqN e2
    · cases h
  · rename_i e1
    split at h
    · rename_i k' hk
      split at h
      · rename_i e2
        cases h
        refine ⟨hb, Bd.Le.refl _, fun d hd hdo => ?_⟩
        rw [Bd.ren_nm hdo (hd.nm _ _ hk)]
        exact beqN e2
      · cases h
    · rename_i hk
      split at h
      · rename_i e2
        simp only [Bool.and_eq_true] at e2
        obtain ⟨e2, e3, e4⟩ := e2
        have e2 := bleN e2
        have e3 := bleN e3
        have e4 := bleN e4
        have e1 := bleF e1
        split at h
        · rename_i hu
          cases h
          have hle : b.Le { fix := b.fix, n0 := b.n0, n1 := b.n1, nm := Tr.set b.nm r k, us := Tr.set b.us k r, vs := b.vs } := by
            refine ⟨rfl, rfl, rfl, fun r' k' hr' => ?_, fun _ _ h => h⟩
            show (Tr.set b.nm r k).get r' = some k'
            rw [Tr.get_set]
            rw [if_neg (fun e => by subst e; rw [hk] at hr'; cases hr')]
            exact hr'
          refine ⟨⟨fun r' k' hr' => ?_⟩, hle, fun d hd hdo => ?_⟩
          · have hr' : (Tr.set b.nm r k).get r' = some k' := hr'
            show b.fix ≤ r' ∧ r' < b.n0 ∧ b.fix ≤ k' ∧ k' < b.n1 ∧ (Tr.set b.us k r).get k' = some r'
            rw [Tr.get_set] at hr'
            split at hr'
            · rename_i e
              cases hr'
              subst e
              refine ⟨by omega, by omega, e3, by omega, by rw [Tr.get_set, if_pos rfl]⟩
            · obtain ⟨q1, q2, q3, q4, q5⟩ := hb.bound _ _ hr'
              refine ⟨q1, q2, q3, q4, ?_⟩
              rw [Tr.get_set, if_neg (fun e => by subst e; rw [hu] at q5; cases q5)]
              exact q5
          · refine Bd.ren_nm hdo (hd.nm _ _ ?_)
            show (Tr.set b.nm r k).get r = some k
            rw [Tr.get_set, if_pos rfl]
        · cases h
      · cases h
noncomputable def matchE (b : Bd) : E → E → Option Bd
  | .lit x => fun e => match e with
    | .lit y => match eqI x y with
      | true => some b
      | false => none
    | _ => none
  | .var i => fun e => match Tr.get b.vs i with
    | some e' => match eqE e' e with
      | true => some b
      | false => none
    | none => some { fix := b.fix, n0 := b.n0, n1 := b.n1, nm := b.nm, us := b.us, vs := Tr.set b.vs i e }
  | _ => fun _ => none
theorem matchE_ok {Γ : Cx} {b c : Bd} {p e : E} (h : matchE b p e = some c) (hb : b.Ok) : c.Ok ∧ b.Le c ∧ ∀ d : Bd, c.Le d → d.sub Γ p = e := by
  cases p <;> simp only [matchE] at h <;> first | (cases h; done) | skip
  · split at h
    · split at h
      · rename_i e1
        cases h
        rw [eqI_eq, decide_eq_true_eq] at e1
        subst e1
        exact ⟨hb, Bd.Le.refl _, fun d _ => rfl⟩
      · cases h
    · cases h
  · rename_i i
    split at h
    · rename_i e' he
      split at h
      · rename_i e1
        cases h
        have := eqE_eq e1
        subst this
        refine ⟨hb, Bd.Le.refl _, fun d hd => ?_⟩
        show d.num i = _
        unfold Bd.num
        rw [hd.vs _ _ he]
      · cases h
    · rename_i he
      cases h
      have hle : b.Le { fix := b.fix, n0 := b.n0, n1 := b.n1, nm := b.nm, us := b.us, vs := Tr.set b.vs i e } := by
        refine ⟨rfl, rfl, rfl, fun _ _ h => h, fun j x hj => ?_⟩
        show (Tr.set b.vs i e).get j = some x
        rw [Tr.get_set, if_neg (fun k => by subst k; rw [he] at hj; cases hj)]
        exact hj
      refine ⟨⟨hb.bound⟩, hle, fun d hd => ?_⟩
      show d.num i = _
      unfold Bd.num
      rw [hd.vs i e (by show (Tr.set b.vs i e).get i = some e; rw [Tr.get_set, if_pos rfl])]
mutual
noncomputable def matchV (b : Bd) : V → V → Option Bd
  | .bool x, y => match y with
    | .bool z => match eqB x z with
      | true => some b
      | false => none
    | _ => none
  | .int k e, y => match y with
    | .int l e' => match eqK k l with
      | true => matchE b e e'
      | false => none
    | _ => none
  | .str s, y => match y with
    | .str t => match eqNats s t with
      | true => some b
      | false => none
    | _ => none
  | .ptr r o, y => match y with
    | .ptr r' o' => match Nat.beq o o' with
      | true => matchN b r r'
      | false => none
    | _ => none
  | .pnil, y => match y with
    | .pnil => some b
    | _ => none
  | .slice r o l c e x, y => match y with
    | .slice r' o' l' c' e' x' => match Nat.beq o o' && (Nat.beq l l' && (Nat.beq c c' && (Nat.beq e e' && eqB x x'))) with
      | true => matchN b r r'
      | false => none
    | _ => none
  | .eslice x, y => match y with
    | .eslice z => match eqB x z with
      | true => some b
      | false => none
    | _ => none
  | .snil, y => match y with
    | .snil => some b
    | _ => none
  | .map r, y => match y with
    | .map r' => matchN b r r'
    | _ => none
  | .mnil, y => match y with
    | .mnil => some b
    | _ => none
  | .func f p q, y => match y with
    | .func f' p' q' => match Nat.beq f f' with
      | true => match matchVs b p p' with
        | some c => matchVs c q q'
        | none => none
      | false => none
    | _ => none
  | .fnil, y => match y with
    | .fnil => some b
    | _ => none
  | .iface t v, y => match y with
    | .iface t' v' => match Nat.beq t t' with
      | true => matchV b v v'
      | false => none
    | _ => none
  | .inil, y => match y with
    | .inil => some b
    | _ => none
  | .agg cs, y => match y with
    | .agg cs' => matchVs b cs cs'
    | _ => none
  | .tuple cs, y => match y with
    | .tuple cs' => matchVs b cs cs'
    | _ => none
  | .strd _, _ => none
  | .ptx _ _ _ _ _, _ => none
  | .vsl _, _ => none
  | .junk, _ => none
noncomputable def matchVs (b : Bd) : List V → List V → Option Bd
  | [], m => match m with
    | [] => some b
    | _ :: _ => none
  | a :: l, m => match m with
    | [] => none
    | x :: m => match matchV b a x with
      | some c => matchVs c l m
      | none => none
end
/-- it is so, whatever else is told -/
def Told (b c : Bd) (P : Bd → Prop) : Prop := c.Ok ∧ b.Le c ∧ ∀ d : Bd, c.Le d → d.Ok → P d
theorem Told.same {b : Bd} {P : Bd → Prop} (hb : b.Ok) (h : ∀ d : Bd, b.Le d → d.Ok → P d) : Told b b P := ⟨hb, Bd.Le.refl _, h⟩
theorem Told.mono {b c : Bd} {P Q : Bd → Prop} (h : Told b c P) (k : ∀ d : Bd, d.Ok → P d → Q d) : Told b c Q := ⟨h.1, h.2.1, fun d hd ho => k d ho (h.2.2 d hd ho)⟩
theorem Told.seq {b c d : Bd} {P Q : Bd → Prop} (h : Told b c P) (k : Told c d Q) : Told b d fun x => P x ∧ Q x :=
  ⟨k.1, h.2.1.trans k.2.1, fun x hx ho => ⟨h.2.2 x (k.2.1.trans hx) ho, k.2.2 x hx ho⟩⟩
mutual
theorem matchV_ok {Γ : Cx} : ∀ (p x : V) {b c : Bd}, matchV b p x = some c → b.Ok → Told b c fun d => renV Γ d p = x
  | .bool t, x, b, c, h, hb => by
    cases x <;> simp only [matchV] at h <;> first | (cases h; done) | skip
    split at h
    · rename_i e; cases h; rw [eqB_eq e]; exact Told.same hb fun d _ _ => by simp only [renV]
    · cases h
  | .int k e, x, b, c, h, hb => by
    cases x <;> simp only [matchV] at h <;> first | (cases h; done) | skip
    split at h
    · rename_i e1
      obtain ⟨h1, h2, h3⟩ := matchE_ok (Γ := Γ) h hb
      have := eqK_eq e1
      subst this
      exact ⟨h1, h2, fun d hd _ => by simp only [renV, h3 d hd]⟩
    · cases h
  | .str s, x, b, c, h, hb => by
    cases x <;> simp only [matchV] at h <;> first | (cases h; done) | skip
    split at h
    · rename_i e; cases h; rw [eqNats_iff.1 e]; exact Told.same hb fun d _ _ => by simp only [renV]
    · cases h
  | .ptr r o, x, b, c, h, hb => by
    cases x <;> simp only [matchV] at h <;> first | (cases h; done) | skip
    split at h
    · rename_i e; rw [beqN e]; obtain ⟨h1, h2, h3⟩ := matchN_ok h hb; exact ⟨h1, h2, fun d hd ho => by simp only [renV, h3 d hd ho]⟩
    · cases h
  | .pnil, x, b, c, h, hb => by
    cases x <;> simp only [matchV] at h <;> first | (cases h; done) | skip
    cases h; exact Told.same hb fun d _ _ => by simp only [renV]
  | .slice r o l cp e ex, x, b, c, h, hb => by
    cases x <;> simp only [matchV] at h <;> first | (cases h; done) | skip
    split at h
    · rename_i e1
      simp only [Bool.and_eq_true] at e1
      obtain ⟨q1, q2, q3, q4, q5⟩ := e1
      obtain ⟨h1, h2, h3⟩ := matchN_ok h hb
      rw [beqN q1, beqN q2, beqN q3, beqN q4, eqB_eq q5]
      exact ⟨h1, h2, fun d hd ho => by simp only [renV, h3 d hd ho]⟩
    · cases h
  | .eslice t, x, b, c, h, hb => by
    cases x <;> simp only [matchV] at h <;> first | (cases h; done) | skip
    split at h
    · rename_i e; cases h; rw [eqB_eq e]; exact Told.same hb fun d _ _ => by simp only [renV]
    · cases h
  | .snil, x, b, c, h, hb => by
    cases x <;> simp only [matchV] at h <;> first | (cases h; done) | skip
    cases h; exact Told.same hb fun d _ _ => by simp only [renV]
  | .map r, x, b, c, h, hb => by
    cases x <;> simp only [matchV] at h <;> first | (cases h; done) | skip
    obtain ⟨h1, h2, h3⟩ := matchN_ok h hb
    exact ⟨h1, h2, fun d hd ho => by simp only [renV, h3 d hd ho]⟩
  | .mnil, x, b, c, h, hb => by
    cases x <;> simp only [matchV] at h <;> first | (cases h; done) | skip
    cases h; exact Told.same hb fun d _ _ => by simp only [renV]
  | .func f p q, x, b, c, h, hb => by
    cases x <;> simp only [matchV] at h <;> first | (cases h; done) | skip
    split at h
    · rename_i e1
      split at h
      · rename_i c1 hc1
        have k1 := matchVs_ok (Γ := Γ) p _ hc1 hb
        have k2 := matchVs_ok (Γ := Γ) q _ h k1.1
        rw [beqN e1]
        exact (k1.seq k2).mono fun d _ hd => by simp only [renV, hd.1, hd.2]
      · cases h
    · cases h
  | .fnil, x, b, c, h, hb => by
    cases x <;> simp only [matchV] at h <;> first | (cases h; done) | skip
    cases h; exact Told.same hb fun d _ _ => by simp only [renV]
  | .iface t v, x, b, c, h, hb => by
    cases x <;> simp only [matchV] at h <;> first | (cases h; done) | skip
    split at h
    · rename_i e1
      rw [beqN e1]
      exact (matchV_ok (Γ := Γ) v _ h hb).mono fun d _ hd => by simp only [renV, hd]
    · cases h
  | .inil, x, b, c, h, hb => by
    cases x <;> simp only [matchV] at h <;> first | (cases h; done) | skip
    cases h; exact Told.same hb fun d _ _ => by simp only [renV]
  | .agg cs, x, b, c, h, hb => by
    cases x <;> simp only [matchV] at h <;> first | (cases h; done) | skip
    exact (matchVs_ok (Γ := Γ) cs _ h hb).mono fun d _ hd => by simp only [renV, hd]
  | .tuple cs, x, b, c, h, hb => by
    cases x <;> simp only [matchV] at h <;> first | (cases h; done) | skip
    exact (matchVs_ok (Γ := Γ) cs _ h hb).mono fun d _ hd => by simp only [renV, hd]
  | .strd _, x, b, c, h, hb => by simp only [matchV] at h; cases h
  | .ptx _ _ _ _ _, x, b, c, h, hb => by simp only [matchV] at h; cases h
  | .vsl _, x, b, c, h, hb => by simp only [matchV] at h; cases h
  | .junk, x, b, c, h, hb => by simp only [matchV] at h; cases h
theorem matchVs_ok {Γ : Cx} : ∀ (p x : List V) {b c : Bd}, matchVs b p x = some c → b.Ok → Told b c fun d => renVs Γ d p = x
  | [], x, b, c, h, hb => by
    cases x <;> simp only [matchVs] at h <;> first | (cases h; done) | skip
    cases h
    exact Told.same hb fun d _ _ => by simp only [renVs]
  | a :: l, x, b, c, h, hb => by
    cases x <;> simp only [matchVs] at h <;> first | (cases h; done) | skip
    split at h
    · rename_i c1 hc1
      have k1 := matchV_ok (Γ := Γ) a _ hc1 hb
      have k2 := matchVs_ok (Γ := Γ) l _ h k1.1
      exact (k1.seq k2).mono fun d _ hd => by simp only [renVs, hd.1, hd.2]
    · cases h
end
/-- the quick ones first -/
noncomputable def matchL (b : Bd) (p x : V) : Option Bd := match p, x with
  | .int k (.lit n), .int l (.lit m) => match eqK k l && eqI n m with
    | true => some b
    | false => none
  | .bool p, .bool q => match eqB p q with
    | true => some b
    | false => none
  | p, x => matchV b p x
theorem matchL_ok {Γ : Cx} {p x : V} {b c : Bd} (h : matchL b p x = some c) (hb : b.Ok) : Told b c fun d => renV Γ d p = x := by
  unfold matchL at h
  split at h
  · split at h
    · rename_i e
      cases h
      simp only [Bool.and_eq_true] at e
      have e1 := eqK_eq e.1
      have e2 := e.2
      rw [eqI_eq, decide_eq_true_eq] at e2
      subst e1 e2
      exact Told.same hb fun d _ _ => by simp only [renV]; rfl
    · cases h
  · split at h
    · rename_i e; cases h; rw [eqB_eq e]; exact Told.same hb fun d _ _ => by simp only [renV]
    · cases h
  · exact matchV_ok _ _ h hb
noncomputable def matchRow (l : List V) : List V → Bd → Option Bd :=
  List.rec (fun m b => match m with | [] => some b | _ :: _ => none) (fun a _ ih m b => match m with
    | [] => none
    | x :: m => match matchL b a x with
      | some c => ih m c
      | none => none) l
theorem matchRow_ok {Γ : Cx} : ∀ {l m : List V} {b c : Bd}, matchRow l m b = some c → b.Ok → Told b c fun d => renVs Γ d l = m
  | [], m, b, c, h, hb => by
    cases m with
    | nil => cases h; exact Told.same hb fun d _ _ => by simp only [renVs]
    | cons x m => cases h
  | a :: l, m, b, c, h, hb => by
    cases m with
    | nil => cases h
    | cons x m =>
      have h : (match matchL b a x with
        | some c => matchRow l m c
        | none => none) = some c := h
      split at h
      · rename_i c1 hc1
        have k1 := matchL_ok (Γ := Γ) hc1 hb
        exact (k1.seq (matchRow_ok (Γ := Γ) h k1.1)).mono fun d _ hd => by simp only [renVs, hd.1, hd.2]
      · cases h
noncomputable def matchRows (l : List (List V)) : List (List V) → Bd → Option Bd :=
  List.rec (fun m b => match m with | [] => some b | _ :: _ => none) (fun a _ ih m b => match m with
    | [] => none
    | x :: m => match matchRow a x b with
      | some c => ih m c
      | none => none) l
theorem matchRows_ok {Γ : Cx} : ∀ {l m : List (List V)} {b c : Bd}, matchRows l m b = some c → b.Ok → Told b c fun d => renRows Γ d l = m
  | [], m, b, c, h, hb => by
    cases m with
    | nil => cases h; exact Told.same hb fun d _ _ => rfl
    | cons x m => cases h
  | a :: l, m, b, c, h, hb => by
    cases m with
    | nil => cases h
    | cons x m =>
      have h : (match matchRow a x b with
        | some c => matchRows l m c
        | none => none) = some c := h
      split at h
      · rename_i c1 hc1
        have k1 := matchRow_ok (Γ := Γ) hc1 hb
        exact (k1.seq (matchRows_ok (Γ := Γ) h k1.1)).mono fun d _ hd => by
          show renVs Γ d a :: renRows Γ d l = _
          rw [hd.1, hd.2]
      · cases h
noncomputable def matchEnts (l : Ents) : Ents → Bd → Option Bd :=
  List.rec (fun m b => match m with | [] => some b | _ :: _ => none) (fun a _ ih m b => match m with
    | [] => none
    | x :: m => match Nat.beq a.2.2 x.2.2 with
      | true => match matchL b a.1 x.1 with
        | some c => match matchL c a.2.1 x.2.1 with
          | some c => ih m c
          | none => none
        | none => none
      | false => none) l
theorem matchEnts_ok {Γ : Cx} : ∀ {l m : Ents} {b c : Bd}, matchEnts l m b = some c → b.Ok → Told b c fun d => renEnts Γ d l = m
  | [], m, b, c, h, hb => by
    cases m with
    | nil => cases h; exact Told.same hb fun d _ _ => rfl
    | cons x m => cases h
  | a :: l, m, b, c, h, hb => by
    cases m with
    | nil => cases h
    | cons x m =>
      have h : (match Nat.beq a.2.2 x.2.2 with
        | true => match matchL b a.1 x.1 with
          | some c => match matchL c a.2.1 x.2.1 with
            | some c => matchEnts l m c
            | none => none
          | none => none
        | false => none) = some c := h
      split at h
      · rename_i e1
        split at h
        · rename_i c1 hc1
          split at h
          · rename_i c2 hc2
            have k1 := matchL_ok (Γ := Γ) hc1 hb
            have k2 := matchL_ok (Γ := Γ) hc2 k1.1
            exact ((k1.seq k2).seq (matchEnts_ok (Γ := Γ) h k2.1)).mono fun d _ hd => by
              show (renV Γ d a.1, renV Γ d a.2.1, a.2.2) :: renEnts Γ d l = _
              rw [hd.1.1, hd.1.2, hd.2, beqN e1]
          · cases h
        · cases h
      · cases h
noncomputable def matchOb (o o' : Ob) (b : Bd) : Option Bd := match o, o' with
  | .cells s l r, .cells s' l' r' => match Nat.beq s s' && eqB r r' with
    | true => matchRows l l' b
    | false => none
  | .map l c, .map l' c' => match Nat.beq c c' with
    | true => matchEnts l l' b
    | false => none
  | .mapIter m x y z, .mapIter m' x' y' z' => match Nat.beq x x' && (eqNats y y' && Nat.beq z z') with
    | true => match m, m' with
      | none, none => some b
      | some r, some r' => matchN b r r'
      | _, _ => none
    | false => none
  | .strIter s p, .strIter s' p' => match eqNats s s' && Nat.beq p p' with
    | true => some b
    | false => none
  | _, _ => none
theorem matchOb_ok {Γ : Cx} {o o' : Ob} {b c : Bd} (h : matchOb o o' b = some c) (hb : b.Ok) : Told b c fun d => renOb Γ d o = o' := by
  unfold matchOb at h
  split at h
  · split at h
    · rename_i e
      simp only [Bool.and_eq_true] at e
      rw [beqN e.1, eqB_eq e.2]
      exact (matchRows_ok (Γ := Γ) h hb).mono fun d _ hd => by simp only [renOb, hd]
    · cases h
  · split at h
    · rename_i e
      rw [beqN e]
      exact (matchEnts_ok (Γ := Γ) h hb).mono fun d _ hd => by simp only [renOb, hd]
    · cases h
  · split at h
    · rename_i e
      simp only [Bool.and_eq_true] at e
      rw [beqN e.1, eqNats_iff.1 e.2.1, beqN e.2.2]
      split at h
      · cases h; exact Told.same hb fun d _ _ => rfl
      · obtain ⟨h1, h2, h3⟩ := matchN_ok h hb
        exact ⟨h1, h2, fun d hd ho => by simp only [renOb, h3 d hd ho]⟩
      · cases h
    · cases h
  · split at h
    · rename_i e
      simp only [Bool.and_eq_true] at e
      cases h
      rw [eqNats_iff.1 e.1, beqN e.2]
      exact Told.same hb fun d _ _ => rfl
    · cases h
  · cases h
/-- where a block lies -/
noncomputable def Bd.at? (b : Bd) (r : Nat) : Option Nat := match Nat.ble (r + 1) b.fix with
  | true => some r
  | false => Tr.get b.nm r
noncomputable def matchBlks (pre ht : Tr Ob) (l : List Nat) : Bd → Option Bd :=
  List.rec (fun b => some b) (fun r _ ih b => match b.at? r with
    | none => none
    | some k => match Tr.get pre r with
      | none => none
      | some o => match Tr.get ht k with
        | none => none
        | some o' => match matchOb o o' b with
          | some c => ih c
          | none => none) l
/-- the names that are told apart -/
def Bd.Own (b : Bd) (L : List Nat) (r : Nat) : Prop := r < b.fix ∨ (r ∈ L ∧ ∃ k, b.nm.get r = some k) ∨ b.n0 ≤ r
theorem Bd.at_ok {b : Bd} {L : List Nat} {r k : Nat} (h : b.at? r = some k) (hL : r ∈ L) (d : Bd) (hd : b.Le d) (ho : d.Ok) : d.ren r = k ∧ d.Own L r := by
  unfold Bd.at? at h
  split at h
  · rename_i e
    cases h
    have e := bleN e
    rw [← hd.fix] at e
    exact ⟨Bd.ren_fix e, .inl e⟩
  · exact ⟨Bd.ren_nm ho (hd.nm _ _ h), .inr (.inl ⟨hL, k, hd.nm _ _ h⟩)⟩
theorem matchBlks_ok {Γ : Cx} {pre ht : Tr Ob} {L : List Nat} : ∀ {l : List Nat} {b c : Bd}, (∀ r ∈ l, r ∈ L) → matchBlks pre ht l b = some c → b.Ok →
    Told b c fun d => ∀ r ∈ l, ∃ o, pre.get r = some o ∧ d.Own L r ∧ ht.get (d.ren r) = some (renOb Γ d o)
  | [], b, c, _, h, hb => by cases h; exact Told.same hb fun d _ _ r hr => by cases hr
  | r :: l, b, c, hl, h, hb => by
    have h : (match b.at? r with
      | none => none
      | some k => match Tr.get pre r with
        | none => none
        | some o => match Tr.get ht k with
          | none => none
          | some o' => match matchOb o o' b with
            | some c => matchBlks pre ht l c
            | none => none) = some c := h
    split at h
    · cases h
    · rename_i k hk
      split at h
      · cases h
      · rename_i o ho
        split at h
        · cases h
        · rename_i o' ho'
          split at h
          · rename_i c1 hc1
            have k0 : Told b b fun d => d.ren r = k ∧ d.Own L r := Told.same hb fun d hd hok => Bd.at_ok hk (hl r List.mem_cons_self) d hd hok
            have k1 := matchOb_ok (Γ := Γ) hc1 hb
            have k2 := matchBlks_ok (Γ := Γ) (fun r' hr' => hl r' (List.mem_cons_of_mem _ hr')) h k1.1
            refine (((k0.seq k1).seq k2)).mono fun d _ hd r' hr' => ?_
            obtain ⟨⟨⟨q1, q2⟩, q3⟩, q4⟩ := hd
            cases hr' with
            | head => exact ⟨o, ho, q2, by rw [q1, q3]; exact ho'⟩
            | tail _ hm => exact q4 r' hm
          · cases h
theorem Bd.ren_inj {b : Bd} {L : List Nat} (hb : b.Ok) (h0 : b.fix ≤ b.n0) (h1 : b.fix ≤ b.n1) {r r' : Nat} (hr : b.Own L r) (hr' : b.Own L r') (e : b.ren r = b.ren r') : r = r' := by
  have own : ∀ {r}, b.Own L r → (r < b.fix ∧ b.ren r = r) ∨ (∃ k, b.nm.get r = some k ∧ b.ren r = k) ∨ (b.n0 ≤ r ∧ b.ren r = b.n1 + (r - b.n0)) := by
    intro r hr
    rcases hr with h | ⟨_, k, h⟩ | h
    · exact .inl ⟨h, Bd.ren_fix h⟩
    · exact .inr (.inl ⟨k, h, Bd.ren_nm hb h⟩)
    · exact .inr (.inr ⟨h, Bd.ren_own h (by omega)⟩)
  rcases own hr with ⟨a, ea⟩ | ⟨k, a, ea⟩ | ⟨a, ea⟩ <;> rcases own hr' with ⟨c, ec⟩ | ⟨k', c, ec⟩ | ⟨c, ec⟩
  · omega
  · have := hb.bound _ _ c; omega
  · omega
  · have := hb.bound _ _ a; omega
  · have q1 := (hb.bound _ _ a).2.2.2.2
    have q2 := (hb.bound _ _ c).2.2.2.2
    have : k = k' := by omega
    subst this
    rw [q1] at q2
    exact Option.some.inj q2
  · have := hb.bound _ _ a; omega
  · omega
  · have := hb.bound _ _ c; omega
  · omega

/- what is turned -/
inductive Up where
  | del (r : Nat)
  | set (r : Nat) (o : Ob)
  | row (r i : Nat) (l : List V)
  | cel (r i j : Nat) (v : V)
noncomputable def Up.at : Up → Nat
  | .del r => r
  | .set r _ => r
  | .row r _ _ => r
  | .cel r _ _ _ => r
noncomputable def rowOb (i : Nat) (l : List V) : Ob → Ob
  | .cells sz cs ro => .cells sz (setL cs i l) ro
  | o => o
noncomputable def celOb (i j : Nat) (v : V) : Ob → Ob
  | .cells sz cs ro => match nthL cs i with
    | some row => .cells sz (setL cs i (setL row j v)) ro
    | none => .cells sz cs ro
  | o => o
noncomputable def up1 (u : Up) (t : Tr Ob) : Tr Ob := match u with
  | .del r => Tr.del t r
  | .set r o => Tr.set t r o
  | .row r i l => match Tr.get t r with
    | some o => Tr.set t r (rowOb i l o)
    | none => t
  | .cel r i j v => match Tr.get t r with
    | some o => Tr.set t r (celOb i j v o)
    | none => t
noncomputable def upP (us : List Up) : Tr Ob → Tr Ob := List.rec (fun t => t) (fun u _ ih t => ih (up1 u t)) us
noncomputable def renUp (Γ : Cx) (b : Bd) : Up → Up
  | .del r => .del (b.ren r)
  | .set r o => .set (b.ren r) (renOb Γ b o)
  | .row r i l => .row (b.ren r) i (renVs Γ b l)
  | .cel r i j v => .cel (b.ren r) i j (renV Γ b v)
noncomputable def upA (Γ : Cx) (b : Bd) (us : List Up) : Tr Ob → Tr Ob := List.rec (fun t => t) (fun u _ ih t => ih (up1 (renUp Γ b u) t)) us
noncomputable def memL (l : List Nat) (r : Nat) : Bool := List.rec false (fun n _ ih => match Nat.beq n r with | true => true | false => ih) l
theorem memL_ok {r : Nat} : ∀ {l : List Nat}, memL l r = true → r ∈ l
  | [], h => by cases h
  | n :: l, h => by
    have h : (match Nat.beq n r with | true => true | false => memL l r) = true := h
    split at h
    · rename_i e; rw [beqN e]; exact List.mem_cons_self
    · exact List.mem_cons_of_mem _ (memL_ok h)
noncomputable def Bd.has (b : Bd) (L : List Nat) (r : Nat) : Bool := match Nat.ble (r + 1) b.fix with
  | true => true
  | false => match Nat.ble b.n0 r with
    | true => true
    | false => match Tr.get b.nm r with
      | some _ => memL L r
      | none => false
theorem Bd.has_ok {b : Bd} {L : List Nat} {r : Nat} (h : b.has L r = true) : b.Own L r := by
  unfold Bd.has at h
  split at h
  · rename_i e; exact .inl (bleN e)
  · split at h
    · rename_i e; exact .inr (.inr (bleN e))
    · split at h
      · rename_i k hk; exact .inr (.inl ⟨memL_ok h, k, hk⟩)
      · cases h
noncomputable def upsIn (b : Bd) (L : List Nat) (us : List Up) : Bool := List.rec true (fun u _ ih => match b.has L u.at with | true => ih | false => false) us
/-- a kept call's heap stands in the heap that is there; all else is as it was -/
structure Stands (Γ : Cx) (b : Bd) (L : List Nat) (h0 hp ht : Tr Ob) : Prop where
  own : ∀ r o, hp.get r = some o → b.Own L r
  emb : ∀ r o, hp.get r = some o → ht.get (b.ren r) = some (renOb Γ b o)
  oth : ∀ k o, ht.get k = some o → (∃ r o', b.Own L r ∧ k = b.ren r ∧ hp.get r = some o' ∧ o = renOb Γ b o') ∨ ((∀ r, b.Own L r → k ≠ b.ren r) ∧ h0.get k = some o)
section
variable {Γ : Cx} {b : Bd} {L : List Nat} {h0 hp ht : Tr Ob}
theorem setL_map {α β : Type} (f : α → β) : ∀ (l : List α) (i : Nat) (x : α), setL (l.map f) i (f x) = (setL l i x).map f
  | [], i, x => by simp [setL]
  | a :: l, 0, x => rfl
  | a :: l, i + 1, x => by
    show f a :: setL (l.map f) i (f x) = f a :: (setL l i x).map f
    rw [setL_map f l i x]
theorem renOb_rowOb (i : Nat) (l : List V) (o : Ob) : renOb Γ b (rowOb i l o) = rowOb i (renVs Γ b l) (renOb Γ b o) := by
  cases o <;> simp only [rowOb, renOb]
  rw [renRows_map, renRows_map, setL_map]
theorem renOb_celOb (i j : Nat) (v : V) (o : Ob) : renOb Γ b (celOb i j v o) = celOb i j (renV Γ b v) (renOb Γ b o) := by
  cases o <;> simp only [celOb, renOb]
  rename_i sz cs ro
  have e : nthL (renRows Γ b cs) i = (nthL cs i).map (renVs Γ b) := by rw [nthL_eq, nthL_eq, renRows_map, List.getElem?_map]
  rw [e]
  cases nthL cs i with
  | none => rfl
  | some row =>
    show renOb Γ b (.cells sz (setL cs i (setL row j v)) ro) = .cells sz (setL (renRows Γ b cs) i (setL (renVs Γ b row) j (renV Γ b v))) ro
    simp only [renOb]
    rw [renRows_map, renRows_map, renVs_map, setL_map, ← renVs_map, setL_map]
theorem Stands.none_ (S : Stands Γ b L h0 hp ht) (hb : b.Ok) (f0 : b.fix ≤ b.n0) (f1 : b.fix ≤ b.n1) {r : Nat} (hr : b.Own L r) (hn : hp.get r = none) : ht.get (b.ren r) = none := by
  cases e : ht.get (b.ren r) with
  | none => rfl
  | some o =>
    rcases S.oth _ _ e with ⟨r', o', q1, q2, q3, _⟩ | ⟨q, _⟩
    · have := Bd.ren_inj hb f0 f1 hr q1 q2
      subst this
      rw [hn] at q3; cases q3
    · exact absurd rfl (q r hr)
theorem Stands.put (S : Stands Γ b L h0 hp ht) (hb : b.Ok) (f0 : b.fix ≤ b.n0) (f1 : b.fix ≤ b.n1) {r : Nat} (hr : b.Own L r) (o : Ob) : Stands Γ b L h0 (Tr.set hp r o) (Tr.set ht (b.ren r) (renOb Γ b o)) where
  own := fun r' o' h => by
    rw [Tr.get_set] at h
    split at h
    · rename_i e; subst e; exact hr
    · exact S.own r' o' h
  emb := fun r' o' h => by
    rw [Tr.get_set] at h
    rw [Tr.get_set]
    split at h
    · rename_i e; subst e; cases h; rw [if_pos rfl]
    · rename_i e
      rw [if_neg (fun k => e (Bd.ren_inj hb f0 f1 hr (S.own r' o' h) k))]
      exact S.emb r' o' h
  oth := fun k o' h => by
    rw [Tr.get_set] at h
    split at h
    · rename_i e
      cases h
      exact .inl ⟨r, o, hr, e.symm, by rw [Tr.get_set, if_pos rfl], rfl⟩
    · rename_i e
      rcases S.oth k o' h with ⟨r', o'', q1, q2, q3, q4⟩ | q
      · refine .inl ⟨r', o'', q1, q2, ?_, q4⟩
        rw [Tr.get_set, if_neg (fun k => e (by rw [k, q2]))]
        exact q3
      · exact .inr q
theorem Stands.del (S : Stands Γ b L h0 hp ht) (hb : b.Ok) (f0 : b.fix ≤ b.n0) (f1 : b.fix ≤ b.n1) {r : Nat} (hr : b.Own L r) : Stands Γ b L h0 (Tr.del hp r) (Tr.del ht (b.ren r)) where
  own := fun r' o' h => by
    rw [Tr.get_del] at h
    split at h
    · cases h
    · exact S.own r' o' h
  emb := fun r' o' h => by
    rw [Tr.get_del] at h
    rw [Tr.get_del]
    split at h
    · cases h
    · rename_i e
      rw [if_neg (fun k => e (Bd.ren_inj hb f0 f1 hr (S.own r' o' h) k))]
      exact S.emb r' o' h
  oth := fun k o' h => by
    rw [Tr.get_del] at h
    split at h
    · cases h
    · rename_i e
      rcases S.oth k o' h with ⟨r', o'', q1, q2, q3, q4⟩ | q
      · refine .inl ⟨r', o'', q1, q2, ?_, q4⟩
        rw [Tr.get_del, if_neg (fun k => e (by rw [k, q2]))]
        exact q3
      · exact .inr q
theorem Stands.up1 (S : Stands Γ b L h0 hp ht) (hb : b.Ok) (f0 : b.fix ≤ b.n0) (f1 : b.fix ≤ b.n1) (u : Up) (hr : b.Own L u.at) : Stands Γ b L h0 (Tk.up1 u hp) (Tk.up1 (renUp Γ b u) ht) := by
  cases u with
  | del r => exact S.del hb f0 f1 hr
  | set r o => exact S.put hb f0 f1 hr o
  | row r i l =>
    show Stands Γ b L h0 (match Tr.get hp r with
      | some o => Tr.set hp r (rowOb i l o)
      | none => hp) (match Tr.get ht (b.ren r) with
      | some o => Tr.set ht (b.ren r) (rowOb i (renVs Γ b l) o)
      | none => ht)
    cases e : Tr.get hp r with
    | none =>
      have e2 := S.none_ hb f0 f1 (r := r) hr e
      rw [e2]; exact S
    | some o =>
      rw [S.emb r o e]
      have := S.put hb f0 f1 hr (rowOb i l o)
      rw [renOb_rowOb] at this
      exact this
  | cel r i j v =>
    show Stands Γ b L h0 (match Tr.get hp r with
      | some o => Tr.set hp r (celOb i j v o)
      | none => hp) (match Tr.get ht (b.ren r) with
      | some o => Tr.set ht (b.ren r) (celOb i j (renV Γ b v) o)
      | none => ht)
    cases e : Tr.get hp r with
    | none =>
      have e2 := S.none_ hb f0 f1 (r := r) hr e
      rw [e2]; exact S
    | some o =>
      rw [S.emb r o e]
      have := S.put hb f0 f1 hr (celOb i j v o)
      rw [renOb_celOb] at this
      exact this
end
theorem Stands.ups {Γ : Cx} {b : Bd} {L : List Nat} {h0 : Tr Ob} (hb : b.Ok) (f0 : b.fix ≤ b.n0) (f1 : b.fix ≤ b.n1) : ∀ (us : List Up) {hp ht : Tr Ob}, Stands Γ b L h0 hp ht → upsIn b L us = true → Stands Γ b L h0 (upP us hp) (upA Γ b us ht)
  | [], hp, ht, S, _ => S
  | u :: us, hp, ht, S, h => by
    have h : (match b.has L u.at with | true => upsIn b L us | false => false) = true := h
    split at h
    · rename_i e
      exact Stands.ups hb f0 f1 us (S.up1 hb f0 f1 u (Bd.has_ok e)) h
    · cases h
/-- what lies from fix on may be turned; what lies below is known -/
noncomputable def lowTr (fix nx : Nat) (pre : Tr Ob) (t : Tr Ob) : Nat → Nat → Bool :=
  Tr.rec (fun _ _ => true) (fun _ x _ il ir off st => match (match x with
      | none => true
      | some o => match Nat.ble (off + 1) fix with
        | true => match Tr.get pre off with
          | some _ => true
          | none => false
        | false => match Nat.ble (off + 1) nx with
          | true => o.okHigh
          | false => false) with
    | true => match il (off + st) (2 * st) with
      | true => ir (off + 2 * st) (2 * st)
      | false => false
    | false => false) t
theorem lowTr_get {fix nx : Nat} {pre : Tr Ob} : ∀ {t : Tr Ob} {off st : Nat}, lowTr fix nx pre t off st = true → ∀ (i : Nat) (o : Ob), t.get i = some o →
    (off + st * i < fix ∧ ∃ o', pre.get (off + st * i) = some o') ∨ (fix ≤ off + st * i ∧ off + st * i < nx ∧ o.okHigh = true)
  | .lf, off, st, _, i, o, h => by rw [Tr.get_lf] at h; cases h
  | .nd l x r, off, st, hl, i, o, h => by
    have hl : (match (match x with
      | none => true
      | some o => match Nat.ble (off + 1) fix with
        | true => match Tr.get pre off with
          | some _ => true
          | none => false
        | false => match Nat.ble (off + 1) nx with
          | true => o.okHigh
          | false => false) with
      | true => match lowTr fix nx pre l (off + st) (2 * st) with
        | true => lowTr fix nx pre r (off + 2 * st) (2 * st)
        | false => false
      | false => false) = true := hl
    split at hl
    · rename_i e0
      split at hl
      · rename_i e1
        cases i with
        | zero =>
          rw [Tr.get_nd_zero] at h
          subst h
          simp only [Nat.mul_zero, Nat.add_zero]
          simp only [] at e0
          split at e0
          · rename_i e2
            split at e0
            · rename_i o' ho'
              exact .inl ⟨bleN e2, o', ho'⟩
            · cases e0
          · rename_i e2
            split at e0
            · rename_i e3
              have := bleF e2
              exact .inr ⟨by omega, bleN e3, e0⟩
            · cases e0
        | succ j =>
          rw [Tr.get_nd_succ] at h
          split at h
          · rename_i hj
            have := lowTr_get e1 _ _ h
            have e : off + st + 2 * st * (j / 2) = off + st * (j + 1) := by
              have : j + 1 = 1 + 2 * (j / 2) := by omega
              rw [this, Nat.mul_add, Nat.mul_one, ← Nat.mul_assoc, Nat.mul_comm st 2]; omega
            rw [e] at this
            exact this
          · rename_i hj
            have := lowTr_get hl _ _ h
            have e : off + 2 * st + 2 * st * (j / 2) = off + st * (j + 1) := by
              have : j + 1 = 2 + 2 * (j / 2) := by omega
              rw [this, Nat.mul_add, ← Nat.mul_assoc, Nat.mul_comm st 2]; omega
            rw [e] at this
            exact this
      · cases hl
    · cases hl
section
variable {σ : Nat → Int} {Γ : Cx} {b : Bd} {L : List Nat} {W0 : World} {ρ ρp' : Inj} {h hp hp' : H} {W W' : World} {ht' : Tr Ob}
/-- A KEPT CALL's STEP, WHERE IT IS WANTED. -/
theorem Stp.moved (Gd : GoodCx σ Γ) (hb : b.Ok) (f0 : b.fix ≤ b.n0) (f1 : b.fix ≤ b.n1) (e1 : b.n1 = h.next) (R : Rel σ W0 ρ h W)
    (S : Stp (b.val σ) W0 (fun r => ρ (b.ren r)) hp W ρp' hp' W') (e0 : hp.next = b.n0)
    (A : Stands Γ b L h.tr hp.tr h.tr) (hlow : ∀ (i : Nat) (o : Ob), h.tr.get i = some o → i < h.next)
    (hfree : ∀ (i : Nat) (o : Ob), h.tr.get i = some o → (∀ r, b.Own L r → i ≠ b.ren r) → o.free = true ∨ o.arg = true)
    (A' : Stands Γ b L h.tr hp'.tr ht') :
    ∃ ρ', Stp σ W0 ρ h W ρ' ⟨ht', h.next + (hp'.next - hp.next)⟩ W' ∧ ∀ r l, ρp' r = some l → ρ' (b.ren r) = some l := by
  let ρ' : Inj := fun k => if k < h.next then ρ k else ρp' (b.n0 + (k - h.next))
  have hlt : ∀ k, k < h.next → ρ' k = ρ k := fun k hk => if_pos hk
  have hge : ∀ k, h.next ≤ k → ρ' k = ρp' (b.n0 + (k - h.next)) := fun k hk => if_neg (by omega)
  have hold : ∀ r, r < b.n0 → ρp' r = ρ (b.ren r) := fun r hr => S.low r (by rw [e0]; exact hr)
  have hρdom : ∀ k l, ρ k = some l → k < h.next := by
    intro k l hk
    rcases Nat.lt_or_ge k h.next with q | q
    · exact q
    · rw [R.dom k q] at hk; cases hk
  -- what the call names is what is named here
  have hin : ∀ r l, ρp' r = some l → ρ' (b.ren r) = some l := by
    intro r l hr
    rcases Nat.lt_or_ge r b.n0 with q | q
    · rw [hold r q] at hr
      rw [hlt _ (hρdom _ _ hr)]; exact hr
    · rw [Bd.ren_own q (by omega), hge _ (by omega)]
      rw [show b.n0 + (b.n1 + (r - b.n0) - h.next) = r by omega]; exact hr
  have hout : ∀ r l, b.Own L r → ρ' (b.ren r) = some l → ρp' r = some l := by
    intro r l hr hl
    rcases Nat.lt_or_ge r b.n0 with q | q
    · have : b.ren r < h.next := by
        rcases hr with a | ⟨_, k, a⟩ | a
        · rw [Bd.ren_fix a]; omega
        · rw [Bd.ren_nm hb a]; have := hb.bound _ _ a; omega
        · omega
      rw [hlt _ this] at hl
      rw [hold r q]; exact hl
    · rw [Bd.ren_own q (by omega), hge _ (by omega)] at hl
      rw [show b.n0 + (b.n1 + (r - b.n0) - h.next) = r by omega] at hl; exact hl
  have hext : Ext ρ ρ' := fun r l hr => by rw [hlt r (hρdom r l hr)]; exact hr
  -- a block that stays lies in no block that the call knew
  have away : ∀ (k : Nat) (o : Ob) (l : Loc), o.free = true → (∀ r, b.Own L r → k ≠ b.ren r) → h.tr.get k = some o → ρ k = some l → ¬ Known (fun r => ρ (b.ren r)) hp l.blk := by
    rintro k o l hfr hk hg hl ⟨r2, o2, l2, g2, k2, e⟩
    have hne : k ≠ b.ren r2 := hk r2 (A.own _ _ g2)
    rcases R.apart k (b.ren r2) o _ l l2 hg (A.emb _ _ g2) hne hl k2 with hbk | ⟨hf, _, _⟩
    · exact hbk e.symm
    · rw [hfr] at hf; cases hf
  have knownIn : ∀ x, Known (fun r => ρ (b.ren r)) hp x → Known ρ h x := by
    rintro x ⟨r, o, l, g, k, e⟩
    exact ⟨b.ren r, _, l, A.emb _ _ g, k, e⟩
  refine ⟨ρ', ⟨hext, ⟨S.rel.below, ?_, ?_, ?_, ?_⟩, ?_, ?_, S.size, Nat.le_add_right _ _, hlt⟩, hin⟩
  · intro k hk
    have hk : h.next + (hp'.next - hp.next) ≤ k := hk
    have := S.next
    rw [hge k (by omega)]
    exact S.rel.dom _ (by omega)
  · intro k l hl
    rcases Nat.lt_or_ge k h.next with q | q
    · rw [hlt k q] at hl
      exact Nat.lt_of_lt_of_le (R.blk k l hl) S.size
    · rw [hge k q] at hl
      exact S.rel.blk _ l hl
  · intro k o l hg hl
    rcases A'.oth k o hg with ⟨r, o', hr, rfl, hgr, rfl⟩ | ⟨hk, hg0⟩
    · have hl' := hout r l hr hl
      obtain ⟨q1, q2⟩ := S.rel.obs r o' l hgr hl'
      exact ⟨renOb_out Gd hin o' q1, (renOb_place Γ b o').2 q2⟩
    · have hkn := hlow k o hg0
      rw [hlt k hkn] at hl
      obtain ⟨q1, q2⟩ := R.obs k o l hg0 hl
      refine ⟨ObR.mono hext ?_ q1, q2⟩
      rcases hfree k o hg0 hk with hf | hf
      · exact S.frame _ (R.blk k l hl) (away k o l hf hk hg0 hl)
      · have hb0 := q2.2 hf
        rw [S.rel.below.block _ hb0, R.below.block _ hb0]
  · intro k k' o o' l l' hg hg' hne hl hl'
    have mixed : ∀ (r1 k2 : Nat) (o1 o2 : Ob) (l1 l2 : Loc), hp'.tr.get r1 = some o1 → ρp' r1 = some l1 → (∀ r, b.Own L r → k2 ≠ b.ren r) → h.tr.get k2 = some o2 → ρ k2 = some l2 → l1.blk ≠ l2.blk ∨ (o1.free = false ∧ o2.free = false ∧ o2.arg = true) := by
      intro r1 k2 o1 o2 l1 l2 g1 k1 a2 c2 h2
      rcases hfree k2 o2 c2 a2 with hf | hf
      · left
        intro e
        rcases S.own l1.blk ⟨r1, o1, l1, g1, k1, rfl⟩ with hnew | hk
        · have := R.blk k2 l2 h2
          omega
        · exact away k2 o2 l2 hf a2 c2 h2 (e ▸ hk)
      · have hb0 := (R.obs k2 o2 l2 c2 h2).2.2 hf
        cases hf1 : o1.free with
        | true =>
          have := (S.rel.obs r1 o1 l1 g1 k1).2.1 hf1
          exact .inl (by omega)
        | false => exact .inr ⟨rfl, Ob.free_of_arg hf, hf⟩
    rcases A'.oth k o hg with ⟨r, o1, hr, rfl, hgr, rfl⟩ | ⟨hk, hg0⟩ <;> rcases A'.oth k' o' hg' with ⟨r', o1', hr', rfl, hgr', rfl⟩ | ⟨hk', hg0'⟩
    · have hl := hout r l hr hl
      have hl' := hout r' l' hr' hl'
      rcases S.rel.apart r r' o1 o1' l l' hgr hgr' (fun e => hne (by rw [e])) hl hl' with q | ⟨q1, q2, q3⟩
      · exact .inl q
      · refine .inr ⟨by rw [renOb_free]; exact q1, by rw [renOb_free]; exact q2, ?_⟩
        rw [renOb_rows, renOb_rows, renOb_arg, renOb_arg]; exact q3
    · rw [hlt k' (hlow k' o' hg0')] at hl'
      rcases mixed r k' o1 o' l l' hgr (hout r l hr hl) hk' hg0' hl' with q | ⟨q1, q2, q3⟩
      · exact .inl q
      · exact .inr ⟨by rw [renOb_free]; exact q1, q2, .inr (.inr q3)⟩
    · rw [hlt k (hlow k o hg0)] at hl
      rcases mixed r' k o1' o l' l hgr' (hout r' l' hr' hl') hk hg0 hl with q | ⟨q1, q2, q3⟩
      · exact .inl fun e => q e.symm
      · exact .inr ⟨q2, by rw [renOb_free]; exact q1, .inr (.inl q3)⟩
    · rw [hlt k (hlow k o hg0)] at hl
      rw [hlt k' (hlow k' o' hg0')] at hl'
      exact R.apart k k' o o' l l' hg0 hg0' hne hl hl'
  · rintro x ⟨k, o, l, hg, hl, rfl⟩
    rcases A'.oth k o hg with ⟨r, o', hr, rfl, hgr, rfl⟩ | ⟨hk, hg0⟩
    · rcases S.own l.blk ⟨r, o', l, hgr, hout r l hr hl, rfl⟩ with q | q
      · exact .inl q
      · exact .inr (knownIn _ q)
    · rw [hlt k (hlow k o hg0)] at hl
      exact .inr ⟨k, o, l, hg0, hl, rfl⟩
  · intro x hx hk
    exact S.frame x hx fun k => hk (knownIn _ k)
end

/- the calls -/
structure Sym where
  args : List V
  pre : H
  names : List Nat
  rng : Rg
  facts : List (Bool × E × E × Bool)
  v : V
  ups : List Up
  next : Nat
noncomputable def Sym.post (m : Sym) : H := ⟨upP m.ups m.pre.tr, m.next⟩
/-- each block that is asked for is listed -/
noncomputable def listed (l : List Nat) (t : Tr Ob) : Nat → Nat → Bool :=
  Tr.rec (fun _ _ => true) (fun _ x _ il ir off st => match (match x with
      | none => true
      | some _ => memL l off) with
    | true => match il (off + st) (2 * st) with
      | true => ir (off + 2 * st) (2 * st)
      | false => false
    | false => false) t
theorem listed_get {l : List Nat} : ∀ {t : Tr Ob} {off st : Nat}, listed l t off st = true → ∀ (i : Nat) (o : Ob), t.get i = some o → (off + st * i) ∈ l
  | .lf, off, st, _, i, o, h => by rw [Tr.get_lf] at h; cases h
  | .nd a x r, off, st, hl, i, o, h => by
    have hl : (match (match x with
      | none => true
      | some _ => memL l off) with
      | true => match listed l a (off + st) (2 * st) with
        | true => listed l r (off + 2 * st) (2 * st)
        | false => false
      | false => false) = true := hl
    split at hl
    · rename_i e0
      split at hl
      · rename_i e1
        cases i with
        | zero =>
          rw [Tr.get_nd_zero] at h
          subst h
          simp only [Nat.mul_zero, Nat.add_zero]
          exact memL_ok e0
        | succ j =>
          rw [Tr.get_nd_succ] at h
          split at h
          · rename_i hj
            have := listed_get e1 _ _ h
            have e : off + st + 2 * st * (j / 2) = off + st * (j + 1) := by
              have : j + 1 = 1 + 2 * (j / 2) := by omega
              rw [this, Nat.mul_add, Nat.mul_one, ← Nat.mul_assoc, Nat.mul_comm st 2]; omega
            rw [e] at this
            exact this
          · rename_i hj
            have := listed_get hl _ _ h
            have e : off + 2 * st + 2 * st * (j / 2) = off + st * (j + 1) := by
              have : j + 1 = 2 + 2 * (j / 2) := by omega
              rw [this, Nat.mul_add, ← Nat.mul_assoc, Nat.mul_comm st 2]; omega
            rw [e] at this
            exact this
      · cases hl
    · cases hl
/-- A CALL THAT IS KEPT FOR ALL NUMBERS. -/
structure SymOk (P : Program) (G : Nat) (W0 : World) (f : FuncId) (m : Sym) : Prop where
  run : ∀ τ : Nat → Int, Known2 τ m.rng m.facts → MemoOk P G τ W0 f ⟨m.args, m.pre, m.v, m.post⟩
  list : ∀ (i : Nat) (o : Ob), m.pre.tr.get i = some o → i ∈ m.names
noncomputable def rngIn (Γ : Cx) (b : Bd) (r : Rg) : Nat → Bool := List.rec (fun _ => true) (fun x _ ih i => match (b.num i).rg Γ.rng with
  | some (l, h) => match ltI l x.1, ltI x.2 h with
    | false, false => ih (i + 1)
    | _, _ => false
  | none => false) r
theorem rngIn_ok {σ : Nat → Int} {Γ : Cx} (Gd : GoodCx σ Γ) {b : Bd} : ∀ {r : Rg} {i : Nat}, rngIn Γ b r i = true → ∀ (j : Nat) lo hi, r[j]? = some (lo, hi) → lo ≤ b.val σ (i + j) ∧ b.val σ (i + j) ≤ hi
  | [], i, _, j, lo, hi, h => by simp at h
  | (x, y) :: r, i, hr, j, lo, hi, h => by
    have hr : (match (b.num i).rg Γ.rng with
      | some (l, h) => match ltI l x, ltI y h with
        | false, false => rngIn Γ b r (i + 1)
        | _, _ => false
      | none => false) = true := hr
    split at hr
    · rename_i l u hl
      split at hr
      · rename_i e1 e2
        rw [ltI_eq, decide_eq_false_iff_not] at e1 e2
        cases j with
        | zero =>
          simp at h
          obtain ⟨rfl, rfl⟩ := h
          have := rg_ok Gd _ _ _ hl
          rw [Nat.add_zero]
          unfold Bd.val
          omega
        | succ j =>
          have := rngIn_ok Gd hr j lo hi (by simpa using h)
          rw [show i + 1 + j = i + (j + 1) by omega] at this
          exact this
      · cases hr
    · cases hr
/-- told again, with what is known now -/
noncomputable def redE (Γ : Cx) (e : E) : E :=
  E.rec (fun n => .lit n) (fun i => fixE Γ (.var i)) (fun _ _ x y => addE x y) (fun _ _ x y => subE x y) (fun k _ x => wrapE Γ k x) (fun op k _ _ x y => bopG Γ op k x y) (fun q _ _ _ _ x y a b => iteE Γ q x y a b) e
theorem redE_den {σ : Nat → Int} {Γ : Cx} (Gd : GoodCx σ Γ) : ∀ e : E, (redE Γ e).den σ = e.den σ
  | .lit n => rfl
  | .var i => by
    show (fixE Γ (.var i)).den σ = _
    exact fixE_den Gd _
  | .add x y => by
    show (addE (redE Γ x) (redE Γ y)).den σ = _
    rw [addE_den, redE_den Gd x, redE_den Gd y]; rfl
  | .sub x y => by
    show (subE (redE Γ x) (redE Γ y)).den σ = _
    rw [subE_den, redE_den Gd x, redE_den Gd y]; rfl
  | .wrap k x => by
    show (wrapE Γ k (redE Γ x)).den σ = _
    rw [wrapE_den Gd, redE_den Gd x]; rfl
  | .bop op k x y => by
    show (bopG Γ op k (redE Γ x) (redE Γ y)).den σ = _
    rw [bopG_den Gd, redE_den Gd x, redE_den Gd y]; rfl
  | .ite q x y c d => by
    show (iteE Γ q (redE Γ x) (redE Γ y) (redE Γ c) (redE Γ d)).den σ = _
    rw [iteE_den Gd]
    simp only [E.den]
    rw [redE_den Gd x, redE_den Gd y, redE_den Gd c, redE_den Gd d]
/-- numbers by cases, each one told -/
noncomputable def litT (e : E) : Bool :=
  E.rec (fun _ => true) (fun _ => false) (fun _ _ _ _ => false) (fun _ _ _ _ => false) (fun _ _ _ => false) (fun _ _ _ _ _ _ => false) (fun _ _ _ _ _ _ _ a b => match a with | true => b | false => false) e
/-- what a number hangs on -/
noncomputable def firstC (e : E) : Option (Bool × E × E) :=
  E.rec (fun _ => none) (fun _ => none) (fun _ _ x y => match x with | some c => some c | none => y) (fun _ _ x y => match x with | some c => some c | none => y) (fun _ _ x => x)
    (fun _ _ _ _ x y => match x with | some c => some c | none => y) (fun q x y _ _ ix iy _ _ => match litT x with
      | true => some (q, x, y)
      | false => match ix with
        | some c => some c
        | none => match iy with
          | some c => some c
          | none => some (q, x, y)) e
noncomputable def decF (Γ : Cx) (q : Bool) (x y : E) : Option Bool := match q with | true => isE Γ x y | false => ltE Γ x y
def IsF (σ : Nat → Int) (q : Bool) (x y : E) (t : Bool) : Prop := (match q with | true => decide (x.den σ = y.den σ) | false => decide (x.den σ < y.den σ)) = t
theorem decF_ok {σ : Nat → Int} {Γ : Cx} (Gd : GoodCx σ Γ) {q : Bool} {x y : E} {t : Bool} (h : decF Γ q x y = some t) : IsF σ q x y t := by
  cases q with
  | true => exact isE_ok Gd _ _ _ h
  | false => exact ltE_ok Gd _ _ _ h
noncomputable def Cx.knows (Γ : Cx) (q : Bool) (x y : E) (t : Bool) : Cx := { P := Γ.P, rng := Γ.rng, facts := (q, x, y, t) :: Γ.facts, ext := Γ.ext, blk := Γ.blk }
theorem Cx.knows_ok {σ : Nat → Int} {Γ : Cx} (Gd : GoodCx σ Γ) {q : Bool} {x y : E} {t : Bool} (h : IsF σ q x y t) : GoodCx σ (Γ.knows q x y t) :=
  ⟨Gd.rng, fun q' a b t' hm => by
    cases hm with
    | head => exact h
    | tail _ hm => exact Gd.facts q' a b t' hm⟩
noncomputable def isIte (e : E) : Bool := E.rec (fun _ => false) (fun _ => false) (fun _ _ _ _ => false) (fun _ _ _ _ => false) (fun _ _ _ => false) (fun _ _ _ _ _ _ => false) (fun _ _ _ _ _ _ _ _ _ => true) e
/-- not the same, and neither below the other: it cannot be -/
noncomputable def notLow (Γ : Cx) (a b : E) : Bool := match ltE Γ a b with
  | some false => true
  | _ => match b with
    | .lit n => match ltE Γ (.lit (n - 1)) a with
      | some true => true
      | _ => false
    | _ => false
noncomputable def notHigh (Γ : Cx) (a b : E) : Bool := match ltE Γ b a with
  | some false => true
  | _ => match b with
    | .lit n => match ltE Γ a (.lit (addI n (.ofNat 1))) with
      | some true => true
      | _ => false
    | _ => false
theorem notLow_ok {σ : Nat → Int} {Γ : Cx} (Gd : GoodCx σ Γ) {a b : E} (h : notLow Γ a b = true) : b.den σ ≤ a.den σ := by
  unfold notLow at h
  split at h
  · rename_i e
    have h1 := of_decide_eq_false (ltE_ok Gd _ _ _ e)
    omega
  · split at h
    · split at h
      · rename_i e
        have h1 := of_decide_eq_true (ltE_ok Gd _ _ _ e)
        simp only [E.den] at h1 ⊢
        omega
      · cases h
    · cases h
theorem notHigh_ok {σ : Nat → Int} {Γ : Cx} (Gd : GoodCx σ Γ) {a b : E} (h : notHigh Γ a b = true) : a.den σ ≤ b.den σ := by
  unfold notHigh at h
  split at h
  · rename_i e
    have h1 := of_decide_eq_false (ltE_ok Gd _ _ _ e)
    omega
  · split at h
    · split at h
      · rename_i e
        have h1 := of_decide_eq_true (ltE_ok Gd _ _ _ e)
        simp only [E.den, addI_eq] at h1 ⊢
        have : (Int.ofNat 1 : Int) = 1 := rfl
        omega
      · cases h
    · cases h
noncomputable def gapF (Γ : Cx) (q : Bool) (a b : E) (t : Bool) : Bool := match q with
  | false => false
  | true => match t with
    | true => false
    | false => match notLow Γ a b with
      | true => notHigh Γ a b
      | false => false
theorem gapF_ok {σ : Nat → Int} {Γ : Cx} (Gd : GoodCx σ Γ) {q : Bool} {a b : E} {t : Bool} (h : gapF Γ q a b t = true) (hf : IsF σ q a b t) : False := by
  cases q
  · cases h
  · cases t
    · simp only [gapF] at h
      split at h
      · rename_i e1
        have h1 := notLow_ok Gd e1
        have h2 := notHigh_ok Gd h
        have h3 : ¬ a.den σ = b.den σ := of_decide_eq_false hf
        omega
      · cases h
    · cases h
abbrev Fact := Bool × E × E × Bool
/-- what a fact says of a number from below, from above -/
noncomputable def low1 (e : E) (f : Fact) : Option Int := match f with
  | (q, a, b, t) => match q with
    | true => match t with
      | false => none
      | true => match b with
        | .lit n => match eqE a e with
          | true => some n
          | false => none
        | _ => none
    | false => match t with
      | true => match a with
        | .lit n => match eqE b e with
          | true => some (addI n (.ofNat 1))
          | false => none
        | _ => none
      | false => match b with
        | .lit n => match eqE a e with
          | true => some n
          | false => none
        | _ => none
noncomputable def high1 (e : E) (f : Fact) : Option Int := match f with
  | (q, a, b, t) => match q with
    | true => match t with
      | false => none
      | true => match b with
        | .lit n => match eqE a e with
          | true => some n
          | false => none
        | _ => none
    | false => match t with
      | true => match b with
        | .lit n => match eqE a e with
          | true => some (n - 1)
          | false => none
        | _ => none
      | false => match a with
        | .lit n => match eqE b e with
          | true => some n
          | false => none
        | _ => none
theorem low1_ok {σ : Nat → Int} {e : E} {f : Fact} {n : Int} (hf : IsF σ f.1 f.2.1 f.2.2.1 f.2.2.2) (h : low1 e f = some n) : n ≤ e.den σ := by
  obtain ⟨q, a, b, t⟩ := f
  unfold low1 at h
  cases q <;> cases t <;> simp only at h hf
  · split at h
    · split at h
      · rename_i e1; cases h; have := eqE_eq e1; subst this
        have h1 : ¬ a.den σ < (E.lit n).den σ := of_decide_eq_false hf
        simp only [E.den] at h1; omega
      · cases h
    · cases h
  · split at h
    · rename_i m
      split at h
      · rename_i e1; cases h; have := eqE_eq e1; subst this
        have h1 : (E.lit m).den σ < b.den σ := of_decide_eq_true hf
        simp only [E.den] at h1
        have : (Int.ofNat 1 : Int) = 1 := rfl
        rw [addI_eq]; omega
      · cases h
    · cases h
  · cases h
  · split at h
    · split at h
      · rename_i e1; cases h; have := eqE_eq e1; subst this
        have h1 : a.den σ = (E.lit n).den σ := of_decide_eq_true hf
        simp only [E.den] at h1; omega
      · cases h
    · cases h
theorem high1_ok {σ : Nat → Int} {e : E} {f : Fact} {n : Int} (hf : IsF σ f.1 f.2.1 f.2.2.1 f.2.2.2) (h : high1 e f = some n) : e.den σ ≤ n := by
  obtain ⟨q, a, b, t⟩ := f
  unfold high1 at h
  cases q <;> cases t <;> simp only at h hf
  · split at h
    · split at h
      · rename_i e1; cases h; have := eqE_eq e1; subst this
        have h1 : ¬ (E.lit n).den σ < b.den σ := of_decide_eq_false hf
        simp only [E.den] at h1; omega
      · cases h
    · cases h
  · split at h
    · rename_i m
      split at h
      · rename_i e1; cases h; have := eqE_eq e1; subst this
        have h1 : a.den σ < (E.lit m).den σ := of_decide_eq_true hf
        simp only [E.den] at h1; omega
      · cases h
    · cases h
  · cases h
  · split at h
    · split at h
      · rename_i e1; cases h; have := eqE_eq e1; subst this
        have h1 : a.den σ = (E.lit n).den σ := of_decide_eq_true hf
        simp only [E.den] at h1; omega
      · cases h
    · cases h
/-- is there a fact that a number is below another one's bound? -/
noncomputable def anyLow (e : E) (u : Int) (l : List Fact) : Bool := List.rec false (fun f _ ih => match low1 e f with
  | some n => match ltI u n with
    | true => true
    | false => ih
  | none => ih) l
/-- bounds that do not meet: the newest fact's number held against all facts -/
noncomputable def boxL (e : E) (all l : List Fact) : Bool := List.rec false (fun f _ ih => match high1 e f with
  | some u => match anyLow e u all with
    | true => true
    | false => ih
  | none => ih) l
def FactsOk (σ : Nat → Int) (l : List Fact) : Prop := ∀ f ∈ l, IsF σ f.1 f.2.1 f.2.2.1 f.2.2.2
theorem anyLow_ok {σ : Nat → Int} {e : E} {u : Int} : ∀ {l : List Fact}, FactsOk σ l → anyLow e u l = true → u < e.den σ
  | [], _, h => by cases h
  | f :: l, hl, h => by
    have h : (match low1 e f with
      | some n => match ltI u n with
        | true => true
        | false => anyLow e u l
      | none => anyLow e u l) = true := h
    have ih : anyLow e u l = true → u < e.den σ := anyLow_ok fun x hx => hl x (List.mem_cons_of_mem _ hx)
    split at h
    · rename_i n hn
      split at h
      · rename_i e1
        have := low1_ok (hl f List.mem_cons_self) hn
        rw [ltI_eq, decide_eq_true_iff] at e1
        omega
      · exact ih h
    · exact ih h
theorem boxL_ok {σ : Nat → Int} {e : E} {all : List Fact} (ha : FactsOk σ all) : ∀ {l : List Fact}, FactsOk σ l → boxL e all l = true → False
  | [], _, h => by cases h
  | f :: l, hl, h => by
    have h : (match high1 e f with
      | some u => match anyLow e u all with
        | true => true
        | false => boxL e all l
      | none => boxL e all l) = true := h
    have ih : boxL e all l = true → False := boxL_ok ha fun x hx => hl x (List.mem_cons_of_mem _ hx)
    split at h
    · rename_i u hu
      split at h
      · rename_i e1
        have h1 := high1_ok (hl f List.mem_cons_self) hu
        have h2 := anyLow_ok ha e1
        omega
      · exact ih h
    · exact ih h
/-- a number that is none of what its bounds leave: n ≤ e, e ≤ n, e ≠ n -/
noncomputable def pinL (e : E) (all l : List Fact) : Bool := List.rec false (fun f _ ih => match f.1, f.2.2.2 with
  | true, false => match f.2.2.1 with
    | .lit n => match eqE f.2.1 e with
      | true => match anyLow e (n - 1) all with
        | true => match boxHi e n all with
          | true => true
          | false => ih
        | false => ih
      | false => ih
    | _ => ih
  | _, _ => ih) l
where boxHi (e : E) (n : Int) (l : List Fact) : Bool := List.rec false (fun f _ ih => match high1 e f with
  | some u => match ltI n u with
    | true => ih
    | false => true
  | none => ih) l
theorem boxHi_ok {σ : Nat → Int} {e : E} {n : Int} : ∀ {l : List Fact}, FactsOk σ l → pinL.boxHi e n l = true → e.den σ ≤ n
  | [], _, h => by cases h
  | f :: l, hl, h => by
    have h : (match high1 e f with
      | some u => match ltI n u with
        | true => pinL.boxHi e n l
        | false => true
      | none => pinL.boxHi e n l) = true := h
    have ih : pinL.boxHi e n l = true → e.den σ ≤ n := boxHi_ok fun x hx => hl x (List.mem_cons_of_mem _ hx)
    split at h
    · rename_i u hu
      have h1 := high1_ok (hl f List.mem_cons_self) hu
      split at h
      · exact ih h
      · rename_i e1
        rw [ltI_eq, decide_eq_false_iff_not] at e1
        omega
    · exact ih h
theorem pinL_ok {σ : Nat → Int} {e : E} {all : List Fact} (ha : FactsOk σ all) : ∀ {l : List Fact}, FactsOk σ l → pinL e all l = true → False
  | [], _, h => by cases h
  | (q, a, b, t) :: l, hl, h => by
    have ih : pinL e all l = true → False := pinL_ok ha fun x hx => hl x (List.mem_cons_of_mem _ hx)
    cases q
    · exact ih h
    · cases t
      · cases b <;> try exact ih h
        rename_i n
        have h : (match eqE a e with
          | true => match anyLow e (n - 1) all with
            | true => match pinL.boxHi e n all with
              | true => true
              | false => pinL e all l
            | false => pinL e all l
          | false => pinL e all l) = true := h
        split at h
        · rename_i e0
          have := eqE_eq e0
          subst this
          split at h
          · rename_i e1
            split at h
            · rename_i e2
              have h1 := anyLow_ok ha e1
              have h2 := boxHi_ok ha e2
              have h3 : ¬ a.den σ = (E.lit n).den σ := of_decide_eq_false (hl _ List.mem_cons_self)
              simp only [E.den] at h3
              omega
            · exact ih h
          · exact ih h
        · exact ih h
      · exact ih h
/-- the number of the newest fact -/
noncomputable def headE (l : List Fact) : Option E := match l with
  | [] => none
  | (_, a, b, _) :: _ => match a with
    | .lit _ => some b
    | a => match b with
      | .lit _ => some a
      | _ => none
noncomputable def boxH (l : List Fact) : Bool := match headE l with
  | none => false
  | some e => match isIte e with
    | true => false
    | false => match boxL e l l with
      | true => true
      | false => pinL e l l
theorem boxH_ok {σ : Nat → Int} {l : List Fact} (ha : FactsOk σ l) (h : boxH l = true) : False := by
  unfold boxH at h
  split at h
  · cases h
  · split at h
    · cases h
    · split at h
      · rename_i e
        exact boxL_ok ha ha e
      · exact pinL_ok ha ha h
/-- does one of the numbers by cases that are known go against all else? -/
noncomputable def contraL (Γ : Cx) (l : List (Bool × E × E × Bool)) : Bool := List.rec false (fun x _ ih => match isIte x.2.1 with
  | false => match gapF Γ x.1 x.2.1 x.2.2.1 x.2.2.2 with
    | true => true
    | false => ih
  | true => match decF Γ x.1 (redE Γ x.2.1) (redE Γ x.2.2.1) with
    | some u => match eqB u x.2.2.2 with
      | true => ih
      | false => true
    | none => ih) l
theorem contraL_ok {σ : Nat → Int} {Γ : Cx} (Gd : GoodCx σ Γ) : ∀ {l : List (Bool × E × E × Bool)}, (∀ x ∈ l, x ∈ Γ.facts) → contraL Γ l = true → False
  | [], _, h => by cases h
  | (q, a, b, t) :: l, hl, h => by
    have h : (match isIte a with
      | false => match gapF Γ q a b t with
        | true => true
        | false => contraL Γ l
      | true => match decF Γ q (redE Γ a) (redE Γ b) with
        | some u => match eqB u t with
          | true => contraL Γ l
          | false => true
        | none => contraL Γ l) = true := h
    have ih : contraL Γ l = true → False := contraL_ok Gd fun x hx => hl x (List.mem_cons_of_mem _ hx)
    split at h
    · split at h
      · rename_i e
        exact gapF_ok Gd e (show IsF σ q a b t from (by have := Gd.facts q a b t (hl _ List.mem_cons_self); cases q <;> exact this))
      · exact ih h
    · split at h
      · rename_i u hu
        split at h
        · exact ih h
        · rename_i e
          have h1 := decF_ok Gd hu
          unfold IsF at h1
          rw [redE_den Gd, redE_den Gd] at h1
          have h2 := Gd.facts q a b t (hl _ List.mem_cons_self)
          have h3 := h1.symm.trans h2
          subst h3
          cases u <;> cases e
      · exact ih h
noncomputable def contraA (Γ : Cx) : Bool := match boxH Γ.facts with
  | true => true
  | false => contraL Γ Γ.facts
theorem contraA_ok {σ : Nat → Int} {Γ : Cx} (Gd : GoodCx σ Γ) (h : contraA Γ = true) : False := by
  unfold contraA at h
  split at h
  · rename_i e
    exact boxH_ok (fun f hf => (by have := Gd.facts f.1 f.2.1 f.2.2.1 f.2.2.2 hf; obtain ⟨q, a, b, t⟩ := f; cases q <;> exact this)) e
  · exact contraL_ok Gd (fun _ h => h) h
/-- what the numbers by cases that are known hang on -/
noncomputable def firstL (Γ : Cx) (l : List (Bool × E × E × Bool)) : Option (Bool × E × E) := List.rec none (fun x _ ih => match isIte x.2.1 with
  | false => ih
  | true => match firstC (redE Γ x.2.1) with
    | some c => some c
    | none => ih) l
/-- so it is, whichever way the numbers that it hangs on are -/
noncomputable def provF (n : Nat) : Cx → Bool → E → E → Bool → Bool :=
  Nat.rec (fun _ _ _ _ _ => false) (fun _ ih Γ q x y t => match decF Γ q (redE Γ x) (redE Γ y) with
    | some u => match eqB u t with
      | true => true
      | false => match contraA Γ with
        | true => true
        | false => match firstL Γ Γ.facts with
          | none => false
          | some c => match ih (Γ.knows c.1 c.2.1 c.2.2 true) q x y t with
            | true => ih (Γ.knows c.1 c.2.1 c.2.2 false) q x y t
            | false => false
    | none => match contraA Γ with
      | true => true
      | false => match (match firstC (redE Γ x) with | some c => some c | none => firstC (redE Γ y)) with
        | none => false
        | some c => match ih (Γ.knows c.1 c.2.1 c.2.2 true) q x y t with
          | true => ih (Γ.knows c.1 c.2.1 c.2.2 false) q x y t
          | false => false) n
theorem provF_ok {σ : Nat → Int} : ∀ {n : Nat} {Γ : Cx} (Gd : GoodCx σ Γ) {q : Bool} {x y : E} {t : Bool}, provF n Γ q x y t = true → IsF σ q x y t
  | 0, Γ, Gd, q, x, y, t, h => by cases h
  | n + 1, Γ, Gd, q, x, y, t, h => by
    have h : (match decF Γ q (redE Γ x) (redE Γ y) with
      | some u => match eqB u t with
        | true => true
        | false => match contraA Γ with
          | true => true
          | false => match firstL Γ Γ.facts with
            | none => false
            | some c => match provF n (Γ.knows c.1 c.2.1 c.2.2 true) q x y t with
              | true => provF n (Γ.knows c.1 c.2.1 c.2.2 false) q x y t
              | false => false
      | none => match contraA Γ with
        | true => true
        | false => match (match firstC (redE Γ x) with | some c => some c | none => firstC (redE Γ y)) with
          | none => false
          | some c => match provF n (Γ.knows c.1 c.2.1 c.2.2 true) q x y t with
            | true => provF n (Γ.knows c.1 c.2.1 c.2.2 false) q x y t
            | false => false) = true := h
    have fork : ∀ c : Bool × E × E, (match provF n (Γ.knows c.1 c.2.1 c.2.2 true) q x y t with
            | true => provF n (Γ.knows c.1 c.2.1 c.2.2 false) q x y t
            | false => false) = true → IsF σ q x y t := by
      intro c h
      split at h
      · rename_i e1
        cases hc : (match c.1 with | true => decide (c.2.1.den σ = c.2.2.den σ) | false => decide (c.2.1.den σ < c.2.2.den σ)) with
        | true => exact provF_ok (Cx.knows_ok Gd hc) e1
        | false => exact provF_ok (Cx.knows_ok Gd hc) h
      · cases h
    split at h
    · rename_i u hu
      split at h
      · rename_i e
        have h1 := decF_ok Gd hu
        have h2 := eqB_eq e
        subst h2
        unfold IsF at h1 ⊢
        rw [redE_den Gd, redE_den Gd] at h1
        exact h1
      · split at h
        · rename_i e
          exact (contraA_ok Gd e).elim
        · split at h
          · cases h
          · exact fork _ h
    · split at h
      · rename_i e
        exact (contraA_ok Gd e).elim
      · split at h
        · cases h
        · exact fork _ h
/-- as it is written: nothing is made simpler on the way -/
noncomputable def Bd.raw (b : Bd) (e : E) : E :=
  E.rec (fun n => .lit n) (fun i => b.num i) (fun _ _ x y => .add x y) (fun _ _ x y => .sub x y) (fun k _ x => .wrap k x) (fun op k _ _ x y => .bop op k x y) (fun q _ _ _ _ x y a b => .ite q x y a b) e
theorem Bd.raw_den {σ : Nat → Int} (b : Bd) : ∀ e : E, (b.raw e).den σ = e.den (b.val σ)
  | .lit n => rfl
  | .var i => rfl
  | .add x y => by
    show (E.add (b.raw x) (b.raw y)).den σ = _
    simp only [E.den, Bd.raw_den b x, Bd.raw_den b y]
  | .sub x y => by
    show (E.sub (b.raw x) (b.raw y)).den σ = _
    simp only [E.den, Bd.raw_den b x, Bd.raw_den b y]
  | .wrap k x => by
    show (E.wrap k (b.raw x)).den σ = _
    simp only [E.den, Bd.raw_den b x]
  | .bop op k x y => by
    show (E.bop op k (b.raw x) (b.raw y)).den σ = _
    simp only [E.den, Bd.raw_den b x, Bd.raw_den b y]
  | .ite q x y u v => by
    show (E.ite q (b.raw x) (b.raw y) (b.raw u) (b.raw v)).den σ = _
    simp only [E.den, Bd.raw_den b x, Bd.raw_den b y, Bd.raw_den b u, Bd.raw_den b v]
noncomputable def factsIn (Γ : Cx) (b : Bd) (fs : List (Bool × E × E × Bool)) : Bool := List.rec true (fun x _ ih => match lookFact Γ.facts x.1 (b.raw x.2.1) (b.raw x.2.2.1) with
  | some t => match eqB t x.2.2.2 with
    | true => ih
    | false => false
  | none => match decF Γ x.1 (b.sub Γ x.2.1) (b.sub Γ x.2.2.1) with
    | some t => match eqB t x.2.2.2 with
      | true => ih
      | false => false
    | none => match provF 40 Γ x.1 (b.sub Γ x.2.1) (b.sub Γ x.2.2.1) x.2.2.2 with
      | true => ih
      | false => false) fs
theorem factsIn_ok {σ : Nat → Int} {Γ : Cx} (Gd : GoodCx σ Γ) {b : Bd} : ∀ {fs : List (Bool × E × E × Bool)}, factsIn Γ b fs = true → ∀ q x y t, (q, x, y, t) ∈ fs →
    (match q with | true => decide (x.den (b.val σ) = y.den (b.val σ)) | false => decide (x.den (b.val σ) < y.den (b.val σ))) = t
  | [], _, q, x, y, t, h => by cases h
  | (q', x', y', t') :: fs, hf, q, x, y, t, h => by
    have hf2 : (match lookFact Γ.facts q' (b.raw x') (b.raw y') with
      | some t => match eqB t t' with
        | true => factsIn Γ b fs
        | false => false
      | none => match decF Γ q' (b.sub Γ x') (b.sub Γ y') with
        | some t => match eqB t t' with
          | true => factsIn Γ b fs
          | false => false
        | none => match provF 40 Γ q' (b.sub Γ x') (b.sub Γ y') t' with
          | true => factsIn Γ b fs
          | false => false) = true := hf
    clear hf
    have key : IsF (b.val σ) q' x' y' t' ∧ factsIn Γ b fs = true := by
      split at hf2
      · rename_i u hu
        split at hf2
        · rename_i e
          have := eqB_eq e
          subst this
          have h1 := lookFact_ok Γ.facts Gd.facts q' (b.raw x') (b.raw y') _ hu
          rw [Bd.raw_den, Bd.raw_den] at h1
          exact ⟨h1, hf2⟩
        · cases hf2
      · have k2 : ∀ t0, IsF σ q' (b.sub Γ x') (b.sub Γ y') t0 → IsF (b.val σ) q' x' y' t0 := fun t0 k => by
          unfold IsF at k ⊢
          rw [Bd.sub_den Gd, Bd.sub_den Gd] at k
          exact k
        split at hf2
        · rename_i u hu
          split at hf2
          · rename_i e
            have := eqB_eq e
            subst this
            exact ⟨k2 _ (decF_ok Gd hu), hf2⟩
          · cases hf2
        · split at hf2
          · rename_i e; exact ⟨k2 _ (provF_ok Gd e), hf2⟩
          · cases hf2
    obtain ⟨k1, k2⟩ := key
    cases h with
    | head => exact k1
    | tail _ hm => exact factsIn_ok (fs := fs) Gd k2 q x y t hm
noncomputable def symTry (Γ : Cx) (fix : Nat) (m : Sym) (args : List V) (h : H) : Option (V × H) :=
  match Nat.ble fix m.pre.next && Nat.ble fix h.next with
  | false => none
  | true => match matchRow m.args args { fix, n0 := m.pre.next, n1 := h.next, nm := .lf, us := .lf, vs := .lf } with
    | none => none
    | some b => match matchBlks m.pre.tr h.tr m.names b with
      | none => none
      | some b => match rngIn Γ b m.rng 0 with
        | false => none
        | true => match factsIn Γ b m.facts with
          | false => none
          | true => match upsIn b m.names m.ups with
            | false => none
            | true => match lowTr fix h.next m.pre.tr h.tr 0 1 with
              | false => none
              | true => some (renV Γ b m.v, ⟨upA Γ b m.ups h.tr, h.next + (m.next - m.pre.next)⟩)
noncomputable def symFn (Γ : Cx) (fix : Nat) (ms : List Sym) : Fn := fun args h =>
  List.rec none (fun m _ ih => match symTry Γ fix m args h with
    | some r => some r
    | none => ih) ms
theorem sym_try_ok {P : Program} {G : Nat} {σ : Nat → Int} {Γ : Cx} {W0 : World} {f : FuncId} {fix : Nat} {m : Sym} (Gd : GoodCx σ Γ) (hG : G < 2 ^ fix) (hm : SymOk P G W0 f m) :
    CallOk P G σ W0 f (symTry Γ fix m) := by
  intro vs xs h v h' ρ W e hv R g
  unfold symTry at e
  split at e
  · cases e
  rename_i e0
  simp only [Bool.and_eq_true] at e0
  split at e
  · cases e
  rename_i b1 hb1
  split at e
  · cases e
  rename_i b hb2
  split at e
  · cases e
  rename_i e3
  split at e
  · cases e
  rename_i e4
  split at e
  · cases e
  rename_i e5
  split at e
  · cases e
  rename_i e6
  cases e
  have hok0 : Bd.Ok { fix, n0 := m.pre.next, n1 := h.next, nm := .lf, us := .lf, vs := .lf } := ⟨fun r k hr => by
    have hr : (Tr.lf : Tr Nat).get r = some k := hr
    rw [Tr.get_lf] at hr; cases hr⟩
  have k1 := matchRow_ok (Γ := Γ) hb1 hok0
  have k2 := matchBlks_ok (Γ := Γ) (L := m.names) (fun r hr => hr) hb2 k1.1
  have hb : b.Ok := k2.1
  have hle := k1.2.1.trans k2.2.1
  have hargs := k1.2.2 b k2.2.1 hb
  have hblk := k2.2.2 b (Bd.Le.refl _) hb
  have ef : b.fix = fix := hle.fix
  have en0 : b.n0 = m.pre.next := hle.n0
  have en1 : b.n1 = h.next := hle.n1
  have f0 : b.fix ≤ b.n0 := by rw [ef, en0]; exact bleN e0.1
  have f1 : b.fix ≤ b.n1 := by rw [ef, en1]; exact bleN e0.2
  have low := fun (i : Nat) (o : Ob) (hg : h.tr.get i = some o) => lowTr_get e6 i o hg
  simp only [Nat.zero_add, Nat.one_mul] at low
  have hlow : ∀ (i : Nat) (o : Ob), h.tr.get i = some o → i < h.next := by
    intro i o hg
    rcases low i o hg with ⟨q, _⟩ | ⟨_, q, _⟩
    · have := bleN e0.2; omega
    · exact q
  have A : Stands Γ b m.names h.tr m.pre.tr h.tr := by
    refine ⟨fun r o hg => ?_, fun r o hg => ?_, fun k o hg => ?_⟩
    · obtain ⟨_, _, q, _⟩ := hblk r (hm.list r o hg)
      exact q
    · obtain ⟨o', q1, _, q3⟩ := hblk r (hm.list r o hg)
      rw [hg] at q1
      cases q1
      exact q3
    · by_cases hk : ∃ r, b.Own m.names r ∧ k = b.ren r
      · obtain ⟨r, hr, rfl⟩ := hk
        left
        have hsome : ∃ o', m.pre.tr.get r = some o' := by
          have hlt := hlow _ _ hg
          rcases hr with a | ⟨a, _⟩ | a
          · rcases low _ _ hg with ⟨q1, o', q2⟩ | ⟨q1, q2, q3⟩
            · rw [Bd.ren_fix a] at q2; exact ⟨o', q2⟩
            · rw [Bd.ren_fix a] at q1; omega
          · obtain ⟨o', q, _⟩ := hblk r a; exact ⟨o', q⟩
          · rw [Bd.ren_own a (by omega)] at hlt; omega
        obtain ⟨o', ho'⟩ := hsome
        obtain ⟨o2, q1, _, q3⟩ := hblk r (hm.list r o' ho')
        rw [ho'] at q1
        cases q1
        rw [hg] at q3
        cases q3
        exact ⟨r, o', hr, rfl, ho', rfl⟩
      · exact .inr ⟨fun r hr e => hk ⟨r, hr, e⟩, hg⟩
  have hfree : ∀ (i : Nat) (o : Ob), h.tr.get i = some o → (∀ r, b.Own m.names r → i ≠ b.ren r) → o.free = true ∨ o.arg = true := by
    intro i o hg hi
    rcases low i o hg with ⟨q, _⟩ | ⟨_, _, q⟩
    · exact absurd (Bd.ren_fix (by omega)).symm (hi i (.inl (by omega)))
    · exact Ob.okHigh_or q
  have A' : Stands Γ b m.names h.tr m.post.tr (upA Γ b m.ups h.tr) := A.ups hb f0 f1 m.ups e5
  have hval : Known2 (b.val σ) m.rng m.facts := by
    refine ⟨fun i lo hi hi' => ?_, factsIn_ok Gd e4⟩
    have := rngIn_ok Gd e3 i lo hi hi'
    rw [Nat.zero_add] at this
    exact this
  have hR : Rel (b.val σ) W0 (fun r => ρ (b.ren r)) m.pre W := by
    refine ⟨R.below, fun r hr => ?_, fun r l hl => R.blk _ l hl, fun r o l hg hl => ?_, fun r r' o o' l l' hg hg' hne hl hl' => ?_⟩
    · show ρ (b.ren r) = none
      rw [Bd.ren_own (by omega) (by omega)]
      exact R.dom _ (by omega)
    · obtain ⟨q1, q2⟩ := R.obs _ _ l (A.emb r o hg) hl
      exact ⟨renOb_in Gd o q1, (renOb_place Γ b o).1 q2⟩
    · rcases R.apart _ _ _ _ l l' (A.emb r o hg) (A.emb r' o' hg') (fun e => hne (Bd.ren_inj hb f0 f1 (A.own r o hg) (A.own r' o' hg') e)) hl hl' with q | ⟨q1, q2, q3⟩
      · exact .inl q
      · rw [renOb_free] at q1 q2
        rw [renOb_rows, renOb_rows, renOb_arg, renOb_arg] at q3
        exact .inr ⟨q1, q2, q3⟩
  have hg : Glob G (fun r => ρ (b.ren r)) := fun k hk => by
    have : k < fix := bit_lt hG hk
    show ∃ t, ρ (b.ren k) = _
    rw [Bd.ren_fix (by omega)]
    exact g k hk
  have hv' : VRs (b.val σ) (fun r => ρ (b.ren r)) m.args xs.toList := by
    refine renVs_in Gd _ _ ?_
    rw [hargs]; exact hv
  obtain ⟨nx, W1, h1, h2⟩ := hm.run (b.val σ) hval xs _ W hv' hR hg
  refine ⟨nx, W1, h1, ?_⟩
  rcases h2 with ⟨q1, q2, hc⟩ | ⟨x, ρ', q1, hx, S⟩
  · refine .inl ⟨q1, q2, hc.mono ?_⟩
    rintro e w' ⟨x, ρ', he, hx, S⟩
    obtain ⟨ρ2, S2, hin⟩ := Stp.moved Gd hb f0 f1 en1 R S en0.symm A hlow hfree A'
    exact ⟨x, ρ2, he, renV_out Gd hin _ _ hx, S2⟩
  · obtain ⟨ρ2, S2, hin⟩ := Stp.moved Gd hb f0 f1 en1 R S en0.symm A hlow hfree A'
    exact .inr ⟨x, ρ2, q1, renV_out Gd hin _ _ hx, S2⟩
theorem sym_fn_ok {P : Program} {G : Nat} {σ : Nat → Int} {Γ : Cx} {W0 : World} {f : FuncId} {fix : Nat} (Gd : GoodCx σ Γ) (hG : G < 2 ^ fix) : ∀ {ms : List Sym}, (∀ m ∈ ms, SymOk P G W0 f m) → CallOk P G σ W0 f (symFn Γ fix ms)
  | [], _ => fun vs xs h v h' ρ W e => by cases e
  | m :: ms, hms => fun vs xs h v h' ρ W e hv R g => by
    have e : (match symTry Γ fix m vs h with
      | some r => some r
      | none => symFn Γ fix ms vs h) = some (v, h') := e
    split at e
    · rename_i r hr
      rw [e] at hr
      exact sym_try_ok Gd hG (hms m List.mem_cons_self) vs xs h v h' ρ W hr hv R g
    · exact sym_fn_ok Gd hG (fun m' hm' => hms m' (List.mem_cons_of_mem _ hm')) vs xs h v h' ρ W e hv R g
/-- what the kernel runs for a kept call -/
theorem sym_ok {P : Program} {G : Nat} {B : Bad} {W0 : World} {xs : Fns} (hp : Fit P G B) {lf d : Nat} {f : FuncId} {m : Sym} (hx : ∀ τ : Nat → Int, Known2 τ m.rng m.facts → FnsOk P G τ W0 xs)
    (run : ranTo (evCall (cxX P B m.rng m.facts xs) lf d f m.args m.pre) m.v m.post = true) (hl : listed m.names m.pre.tr 0 1 = true) : SymOk P G W0 f m :=
  ⟨fun τ hk => memo_ok hp hk (hx τ hk) (m := ⟨m.args, m.pre, m.v, m.post⟩) run, fun i o hg => by
    have := listed_get hl i o hg
    rw [Nat.zero_add, Nat.one_mul] at this
    exact this⟩
/-- a function of which some parts are not gone into -/
noncomputable def cutOf (P : Program) (G : Nat) (B : Bad) (xs : Fns) (lf d f : Nat) : Fn := match P.funcs[f]? with
  | none => nope
  | some fn => match fn.body with
    | none => nope
    | some body => enter (evCall (cxX P B [] [] xs) lf d) (cxX P B [] [] xs) lf f fn (cutC G body)
noncomputable def cutFits (P : Program) (G f : Nat) : Bool := match P.funcs[f]? with
  | none => true
  | some fn => notB (fn.name == "runtime.NumGoroutine") && (match fn.body with
    | none => true
    | some body => codeOk G (cutC G body))
theorem cut_x {P : Program} {G : Nat} {B : Bad} {σ : Nat → Int} {W0 : World} {xs : Fns} {lf d f : Nat} (hp : Fit P G B) (hx : FnsOk P G σ W0 xs) (h : cutFits P G f = true) : CallOk P G σ W0 f (cutOf P G B xs lf d f) := by
  unfold cutOf
  unfold cutFits at h
  rcases hf : P.funcs[f]? with _ | fn
  · exact nope_ok
  · simp only [hf, Bool.and_eq_true] at h ⊢
    rcases hb : fn.body with _ | body
    · exact nope_ok
    · simp only [hb] at h ⊢
      have Gd : GoodCx σ (cxX P B [] [] xs) := ⟨(Known2.nil σ).rng, (Known2.nil σ).facts⟩
      have hc := fun g => call_x hp (Known2.nil σ) hx lf d g
      refine cutFn_ok (Γ := cxX P B [] [] xs) Gd hp.mixed hc (drawn_sound Gd hc) lf (fun _ => rfl) hf hb h.2 ?_
      have h1 := h.1
      revert h1
      cases (fn.name == "runtime.NumGoroutine")
      · intro _; rfl
      · intro h; cases h
end Tk
