/- Calls kept for all numbers, told apart on the way: one answer for all ways. -/
import Derived.Test.YtphhnhheedbjjaaGreatDoorEvSym
set_option linter.unusedVariables false
set_option linter.unusedSimpArgs false
namespace Tk
open Go Go.RowKit

mutual
/-- numbers that are known are put in -/
noncomputable def pinV (Γ : Cx) : V → V
  | .bool t => .bool t
  | .int k e => .int k (fixE Γ e)
  | .str s => .str s
  | .ptr r o => .ptr r o
  | .pnil => .pnil
  | .slice r o l c e x => .slice r o l c e x
  | .eslice x => .eslice x
  | .snil => .snil
  | .map r => .map r
  | .mnil => .mnil
  | .func f a c => .func f a c
  | .fnil => .fnil
  | .iface t v => .iface t v
  | .inil => .inil
  | .agg cs => .agg (pinVs Γ cs)
  | .tuple cs => .tuple cs
  | .strd ps => .strd ps
  | .ptx r o sz e n => .ptx r o sz e n
  | .vsl e => .vsl e
  | .junk => .junk
noncomputable def pinVs (Γ : Cx) : List V → List V
  | [] => []
  | v :: l => pinV Γ v :: pinVs Γ l
end
mutual
/-- the same, as far as it is known -/
noncomputable def sameU (Γ : Cx) : V → V → Bool
  | .int k a, .int l b => match eqK k l with
    | true => match eqE a b with
      | true => true
      | false => provF 40 Γ true a b true
    | false => false
  | .agg a, .agg b => sameUs Γ a b
  | .tuple a, .tuple b => sameUs Γ a b
  | a, b => leafV a b
noncomputable def sameUs (Γ : Cx) : List V → List V → Bool
  | [], [] => true
  | a :: l, b :: m => match sameU Γ a b with
    | true => sameUs Γ l m
    | false => false
  | _, _ => false
end
section
variable {σ : Nat → Int} {Γ : Cx} {ρ : Inj}
mutual
theorem pinV_ok (Gd : GoodCx σ Γ) : ∀ (v : V) (x : Value), VR σ ρ v x → VR σ ρ (pinV Γ v) x
  | .bool _, x, h => by simpa only [pinV] using h
  | .int _ e, x, h => by simp only [pinV, VR] at h ⊢; rw [h, fixE_den Gd]
  | .str _, x, h => by simpa only [pinV] using h
  | .ptr _ _, x, h => by simpa only [pinV] using h
  | .pnil, x, h => by simpa only [pinV] using h
  | .slice _ _ _ _ _ _, x, h => by simpa only [pinV] using h
  | .eslice _, x, h => by simpa only [pinV] using h
  | .snil, x, h => by simpa only [pinV] using h
  | .map _, x, h => by simpa only [pinV] using h
  | .mnil, x, h => by simpa only [pinV] using h
  | .func _ _ _, x, h => by simpa only [pinV] using h
  | .fnil, x, h => by simpa only [pinV] using h
  | .iface _ _, x, h => by simpa only [pinV] using h
  | .inil, x, h => by simpa only [pinV] using h
  | .agg cs, x, h => by
    simp only [pinV, VR] at h ⊢
    obtain ⟨c, h1, h2⟩ := h
    exact ⟨c, h1, pinVs_ok Gd cs _ h2⟩
  | .tuple _, x, h => by simpa only [pinV] using h
  | .strd _, x, h => by simpa only [pinV] using h
  | .ptx _ _ _ _ _, x, h => by simpa only [pinV] using h
  | .vsl _, x, h => by simpa only [pinV] using h
  | .junk, x, h => by simpa only [pinV] using h
theorem pinVs_ok (Gd : GoodCx σ Γ) : ∀ (vs : List V) (xs : List Value), VRs σ ρ vs xs → VRs σ ρ (pinVs Γ vs) xs
  | [], xs, h => by simpa only [pinVs] using h
  | v :: l, xs, h => by
    simp only [pinVs, VRs] at h ⊢
    obtain ⟨v', l', h1, h2, h3⟩ := h
    exact ⟨v', l', h1, pinV_ok Gd v _ h2, pinVs_ok Gd l _ h3⟩
end
theorem leafV_ok {v w : V} (h : leafV v w = true) : ∀ x, VR σ ρ v x → VR σ ρ w x := fun x hx => by rw [← leafV_eq h]; exact hx
mutual
theorem sameU_ok (Gd : GoodCx σ Γ) : ∀ (v w : V), sameU Γ v w = true → ∀ x : Value, VR σ ρ v x → VR σ ρ w x
  | .int k a, w, h, x, hx => by
    cases w <;> simp only [sameU] at h <;> first | exact leafV_ok h x hx | skip
    rename_i l b
    split at h
    · rename_i e1
      have e1 := eqK_eq e1
      subst e1
      split at h
      · rename_i e2; rw [← eqE_eq e2]; exact hx
      · have := provF_ok Gd h
        simp only [IsF, decide_eq_true_eq] at this
        simp only [VR] at hx ⊢
        rw [hx, this]
    · cases h
  | .agg a, w, h, x, hx => by
    cases w <;> simp only [sameU] at h <;> first | exact leafV_ok h x hx | skip
    simp only [VR] at hx ⊢
    obtain ⟨c, h1, h2⟩ := hx
    exact ⟨c, h1, sameUs_ok Gd a _ h _ h2⟩
  | .tuple a, w, h, x, hx => by
    cases w <;> simp only [sameU] at h <;> first | exact leafV_ok h x hx | skip
    simp only [VR] at hx ⊢
    obtain ⟨c, h1, h2⟩ := hx
    exact ⟨c, h1, sameUs_ok Gd a _ h _ h2⟩
  | .bool _, w, h, x, hx => leafV_ok (by cases w <;> simpa only [sameU] using h) x hx
  | .str _, w, h, x, hx => leafV_ok (by cases w <;> simpa only [sameU] using h) x hx
  | .ptr _ _, w, h, x, hx => leafV_ok (by cases w <;> simpa only [sameU] using h) x hx
  | .pnil, w, h, x, hx => leafV_ok (by cases w <;> simpa only [sameU] using h) x hx
  | .slice _ _ _ _ _ _, w, h, x, hx => leafV_ok (by cases w <;> simpa only [sameU] using h) x hx
  | .eslice _, w, h, x, hx => leafV_ok (by cases w <;> simpa only [sameU] using h) x hx
  | .snil, w, h, x, hx => leafV_ok (by cases w <;> simpa only [sameU] using h) x hx
  | .map _, w, h, x, hx => leafV_ok (by cases w <;> simpa only [sameU] using h) x hx
  | .mnil, w, h, x, hx => leafV_ok (by cases w <;> simpa only [sameU] using h) x hx
  | .func _ _ _, w, h, x, hx => leafV_ok (by cases w <;> simpa only [sameU] using h) x hx
  | .fnil, w, h, x, hx => leafV_ok (by cases w <;> simpa only [sameU] using h) x hx
  | .iface _ _, w, h, x, hx => leafV_ok (by cases w <;> simpa only [sameU] using h) x hx
  | .inil, w, h, x, hx => leafV_ok (by cases w <;> simpa only [sameU] using h) x hx
  | .ptx _ _ _ _ _, w, h, x, hx => leafV_ok (by cases w <;> simpa only [sameU] using h) x hx
  | .strd _, w, h, x, hx => leafV_ok (by cases w <;> simpa only [sameU] using h) x hx
  | .vsl e, w, h, x, hx => leafV_ok (by cases w <;> simpa only [sameU] using h) x hx
  | .junk, w, h, x, hx => leafV_ok (by cases w <;> simpa only [sameU] using h) x hx
theorem sameUs_ok (Gd : GoodCx σ Γ) : ∀ (vs ws : List V), sameUs Γ vs ws = true → ∀ xs : List Value, VRs σ ρ vs xs → VRs σ ρ ws xs
  | [], ws, h, xs, hx => by
    cases ws <;> simp only [sameUs] at h <;> first | exact hx | cases h
  | v :: l, ws, h, xs, hx => by
    cases ws with
    | nil => simp only [sameUs] at h; cases h
    | cons w m =>
      simp only [sameUs] at h
      split at h
      · rename_i e
        simp only [VRs] at hx ⊢
        obtain ⟨v', l', h1, h2, h3⟩ := hx
        exact ⟨v', l', h1, sameU_ok Gd v w e _ h2, sameUs_ok Gd l m h _ h3⟩
      · cases h
end
end

/-- which way, and what is known there -/
inductive Way where
  | run
  /-- it cannot be: the n-th of what is known, held against the rest -/
  | not (n : Nat)
  /-- a number from lo on, below lo + n, that is none of these -/
  | gone (e : E) (lo : Int) (n : Nat)
  | fork (q : Bool) (x y : E) (a b : Way)

noncomputable def ranBy (Γ : Cx) (r : Option (V × H)) (v : V) (h' : H) : Bool := match r with
  | some (w, g) => match sameU Γ w v with
    | true => match Nat.ble g.next h'.next with
      | true => subTr h'.tr g.tr
      | false => false
    | false => false
  | none => false
noncomputable def goneF (Γ : Cx) (e : E) (lo : Int) (n : Nat) : Bool :=
  Nat.rec true (fun k ih => match decF Γ true e (.lit (addI lo (.ofNat k))) with
    | some false => ih
    | _ => false) n
theorem goneF_ok {σ : Nat → Int} {Γ : Cx} (Gd : GoodCx σ Γ) {e : E} {lo : Int} : ∀ {n : Nat}, goneF Γ e lo n = true → ∀ k : Nat, k < n → e.den σ ≠ lo + k
  | 0, _, k, hk => by omega
  | n + 1, h, k, hk => by
    have h : (match decF Γ true e (.lit (addI lo (.ofNat n))) with
      | some false => goneF Γ e lo n
      | _ => false) = true := h
    split at h
    · rename_i e1
      by_cases hkn : k = n
      · subst hkn
        have := decF_ok Gd e1
        simp only [IsF, E.den, addI_eq, decide_eq_false_iff_not] at this
        exact this
      · exact goneF_ok Gd h k (by omega)
    · cases h
noncomputable def isGone (Γ : Cx) (e : E) (lo : Int) (n : Nat) : Bool := match decF Γ false e (.lit lo) with
  | some false => match decF Γ false e (.lit (addI lo (.ofNat n))) with
    | some true => goneF Γ e lo n
    | _ => false
  | _ => false
theorem isGone_ok {σ : Nat → Int} {Γ : Cx} (Gd : GoodCx σ Γ) {e : E} {lo : Int} {n : Nat} (h : isGone Γ e lo n = true) : False := by
  unfold isGone at h
  split at h
  · rename_i e1
    split at h
    · rename_i e2
      have h1 := decF_ok Gd e1
      have h2 := decF_ok Gd e2
      have h3 := goneF_ok Gd h
      simp only [addI_eq] at h2
      have h1 : ¬ e.den σ < lo := of_decide_eq_false h1
      have h2 : e.den σ < lo + (n : Int) := of_decide_eq_true h2
      have := h3 (e.den σ - lo).toNat (by omega)
      omega
    · cases h
  · cases h
noncomputable def cutN (n : Nat) (l : List (Bool × E × E × Bool)) : List (Bool × E × E × Bool) := List.rec (fun _ => []) (fun a t ih n => Nat.rec t (fun k _ => a :: ih k) n) l n
theorem cutN_mem : ∀ {l : List (Bool × E × E × Bool)} {n : Nat} {x}, x ∈ cutN n l → x ∈ l
  | [], n, x, h => by cases h
  | a :: l, 0, x, h => List.mem_cons_of_mem _ h
  | a :: l, n + 1, x, h => by
    have h : x ∈ a :: cutN n l := h
    cases h with
    | head => exact List.mem_cons_self
    | tail _ h => exact List.mem_cons_of_mem _ (cutN_mem h)
noncomputable def notW (cx : List (Bool × E × E × Bool) → Fns → Cx) (xs : Fns) (fs : List (Bool × E × E × Bool)) (n : Nat) : Bool := match nthL fs n with
  | some c => provF 40 (cx (cutN n fs) xs) c.1 c.2.1 c.2.2.1 (match c.2.2.2 with | true => false | false => true)
  | none => false
theorem Known2.less {τ : Nat → Int} {r : Rg} {fs gs : List (Bool × E × E × Bool)} (h : Known2 τ r fs) (hs : ∀ x ∈ gs, x ∈ fs) : Known2 τ r gs :=
  ⟨h.rng, fun q a b t hm => h.facts q a b t (hs _ hm)⟩
theorem notW_ok {P : Program} {B : Bad} {xs : Fns} {τ : Nat → Int} {r : Rg} {fs : List (Bool × E × E × Bool)} (hk : Known2 τ r fs) {n : Nat} (h : notW (cxX P B r) xs fs n = true) : False := by
  unfold notW at h
  split at h
  · rename_i c hc
    rw [nthL_eq] at hc
    have hm := List.mem_of_getElem? hc
    have hk1 : Known2 τ r (cutN n fs) := hk.less fun x hm => cutN_mem hm
    have Gd : GoodCx τ (cxX P B r (cutN n fs) xs) := ⟨hk1.rng, hk1.facts⟩
    have h1 := provF_ok Gd h
    obtain ⟨q, x, y, t⟩ := c
    have h2 : IsF τ q x y t := by
      have := hk.facts q x y t hm
      cases q <;> exact this
    have h3 := h1.symm.trans h2
    cases t <;> cases h3
  · cases h
/-- ws: what is known on the way; m.facts: the call's own -/
noncomputable def waysOk (P : Program) (B : Bad) (xs : Fns) (lf d : Nat) (f : FuncId) (m : Sym) (w : Way) : List (Bool × E × E × Bool) → Bool :=
  Way.rec (fun ws => ranBy (cxX P B m.rng (ws ++ m.facts) xs) (evCall (cxX P B m.rng (ws ++ m.facts) xs) lf d f (pinVs (cxX P B m.rng (ws ++ m.facts) xs) m.args) m.pre) m.v m.post)
    (fun n ws => notW (cxX P B m.rng) xs (ws ++ m.facts) n)
    (fun e lo n ws => isGone (cxX P B m.rng (ws ++ m.facts) xs) e lo n)
    (fun q x y _ _ a b ws => match a ((q, x, y, true) :: ws) with
      | true => b ((q, x, y, false) :: ws)
      | false => false) w
/-- the call, where all that is known -/
def SymAt (P : Program) (G : Nat) (W0 : World) (f : FuncId) (m : Sym) (ws : List (Bool × E × E × Bool)) : Prop :=
  ∀ τ : Nat → Int, Known2 τ m.rng (ws ++ m.facts) → MemoOk P G τ W0 f ⟨m.args, m.pre, m.v, m.post⟩
theorem Known2.cons {σ : Nat → Int} {r : Rg} {ws : List (Bool × E × E × Bool)} (hk : Known2 σ r ws) {q : Bool} {x y : E} {t : Bool} (h : IsF σ q x y t) : Known2 σ r ((q, x, y, t) :: ws) :=
  ⟨hk.rng, fun q' a b t' hm => by
    cases hm with
    | head => exact h
    | tail _ hm => exact hk.facts q' a b t' hm⟩
theorem Known2.by_ {σ : Nat → Int} {r : Rg} {ws : List (Bool × E × E × Bool)} {C : Prop} (hk : Known2 σ r ws) (q : Bool) (x y : E) (ht : Known2 σ r ((q, x, y, true) :: ws) → C) (hf : Known2 σ r ((q, x, y, false) :: ws) → C) : C := by
  cases hc : (match q with | true => decide (x.den σ = y.den σ) | false => decide (x.den σ < y.den σ)) with
  | true => exact ht (hk.cons hc)
  | false => exact hf (hk.cons hc)
theorem symAt_by {P : Program} {G : Nat} {W0 : World} {f : FuncId} {m : Sym} {ws : List (Bool × E × E × Bool)} {q : Bool} {x y : E}
    (ht : SymAt P G W0 f m ((q, x, y, true) :: ws)) (hf : SymAt P G W0 f m ((q, x, y, false) :: ws)) : SymAt P G W0 f m ws := fun τ hk => hk.by_ q x y (fun h => ht τ h) (fun h => hf τ h)
theorem symAt_ok {P : Program} {G : Nat} {B : Bad} {W0 : World} {xs : Fns} (hp : Fit P G B) {lf d : Nat} {f : FuncId} {m : Sym} (hx : ∀ τ : Nat → Int, Known2 τ m.rng m.facts → FnsOk P G τ W0 xs) :
    ∀ {w : Way} {ws : List (Bool × E × E × Bool)}, waysOk P B xs lf d f m w ws = true → SymAt P G W0 f m ws
  | .run, ws, run => fun τ hk => by
    have run : ranBy (cxX P B m.rng (ws ++ m.facts) xs) (evCall (cxX P B m.rng (ws ++ m.facts) xs) lf d f (pinVs (cxX P B m.rng (ws ++ m.facts) xs) m.args) m.pre) m.v m.post = true := run
    have hk0 : Known2 τ m.rng m.facts := hk.less fun x hm => List.mem_append_right _ hm
    have Gd : GoodCx τ (cxX P B m.rng (ws ++ m.facts) xs) := ⟨hk.rng, hk.facts⟩
    intro as ρ W hv R g
    unfold ranBy at run
    split at run
    · rename_i w k hr
      split at run
      · rename_i e1
        split at run
        · rename_i e2
          have e2 := bleN e2
          have hs : Sub m.post.tr k.tr := subTr_get run
          obtain ⟨nx, W1, h1, h2⟩ := call_x hp hk (hx τ hk0) lf d f _ as m.pre _ k ρ W hr (pinVs_ok Gd _ _ hv) R g
          refine ⟨nx, W1, h1, ?_⟩
          rcases h2 with ⟨e3, e4, hc⟩ | ⟨x, ρ', e3, hvx, S⟩
          · refine .inl ⟨e3, e4, hc.mono ?_⟩
            rintro e w' ⟨x, ρ', he, hvx, S⟩
            exact ⟨x, ρ', he, sameU_ok Gd _ _ e1 _ hvx, S.less (Sub.refl _) (Nat.le_refl _) hs e2⟩
          · exact .inr ⟨x, ρ', e3, sameU_ok Gd _ _ e1 _ hvx, S.less (Sub.refl _) (Nat.le_refl _) hs e2⟩
        · cases run
      · cases run
    · cases run
  | .not n, ws, run => fun τ hk => (notW_ok hk (show notW (cxX P B m.rng) xs (ws ++ m.facts) n = true from run)).elim
  | .gone e lo n, ws, run => fun τ hk =>
    (isGone_ok (Γ := cxX P B m.rng (ws ++ m.facts) xs) ⟨hk.rng, hk.facts⟩ (show isGone (cxX P B m.rng (ws ++ m.facts) xs) e lo n = true from run)).elim
  | .fork q x y a b, ws, run => by
    have run : (match waysOk P B xs lf d f m a ((q, x, y, true) :: ws) with
      | true => waysOk P B xs lf d f m b ((q, x, y, false) :: ws)
      | false => false) = true := run
    split at run
    · rename_i e
      exact symAt_by (symAt_ok hp hx e) (symAt_ok hp hx run)
    · cases run
/-- all ways told -/
theorem sym_by {P : Program} {G : Nat} {W0 : World} {f : FuncId} {m : Sym} (h : SymAt P G W0 f m []) (hl : listed m.names m.pre.tr 0 1 = true) : SymOk P G W0 f m :=
  ⟨fun τ hk => h τ hk, fun i o hg => by
    have := listed_get hl i o hg
    rw [Nat.zero_add, Nat.one_mul] at this
    exact this⟩
/-- A LAW's CALL, told apart on the way. -/
noncomputable def lawWays (P : Program) (B : Bad) (fns : List (Bool × E × E × Bool) → Fns) (lf d : Nat) (f : FuncId) (vs : List V) (r : Rg) (h : H) (w : Way) : List (Bool × E × E × Bool) → Bool :=
  Way.rec (fun ws => isTrue (evCall (cxX P B r ws (fns ws)) lf d f (pinVs (cxX P B r ws (fns ws)) vs) h))
    (fun n ws => notW (cxX P B r) [] ws n)
    (fun e lo n ws => isGone (cxX P B r ws []) e lo n)
    (fun q x y _ _ a b ws => match a ((q, x, y, true) :: ws) with
      | true => b ((q, x, y, false) :: ws)
      | false => false) w
theorem law_ways {P : Program} {G N : Nat} {B : Bad} {σ : Nat → Int} {W : World} {es : TypeId} {l : Errs} {as : List Addr} {f : FuncId} {rng : Rg} {fns : List (Bool × E × E × Bool) → Fns} {lf d : Nat} {vs : List V} {xs : Array Value} (hp : Fit P G B)
    (hS : Sents es W l as) (hlen : as.length = l.length) (hn : (placesOf l as).Nodup) (hG : ∀ g, hasBit G g = true → ∃ s, (g, s) ∈ l) (hlt : ∀ x ∈ l, x.1 < N ∧ hasBit G x.1 = true) (hbad : inB f B = false)
    (hx : ∀ ws, Known2 σ rng ws → FnsOk P G σ W (fns ws))
    (hv : ∀ ρ, VRs σ ρ vs xs.toList) (hbod : ∃ fn, P.funcs[f]? = some fn ∧ fn.body.isSome = true) :
    ∀ {w : Way} {ws : List (Bool × E × E × Bool)}, Known2 σ rng ws → lawWays P B fns lf d f vs rng (sentH es N l) w ws = true → Calls P f xs W fun e w' => e = .returned (.bool true) ∧ Below W.heap.size W w'
  | .run, ws, hk, run => law_case_x hp hS hlen hn hG hlt hbad hk (hx ws hk) (fun ρ => pinVs_ok (Γ := cxX P B rng ws (fns ws)) ⟨hk.rng, hk.facts⟩ _ _ (hv ρ)) hbod
      (show isTrue (evCall (cxX P B rng ws (fns ws)) lf d f (pinVs (cxX P B rng ws (fns ws)) vs) (sentH es N l)) = true from run)
  | .not n, ws, hk, run => (notW_ok hk (show notW (cxX P B rng) [] ws n = true from run)).elim
  | .gone e lo n, ws, hk, run => (isGone_ok (Γ := cxX P B rng ws []) ⟨hk.rng, hk.facts⟩ (show isGone (cxX P B rng ws []) e lo n = true from run)).elim
  | .fork q x y a b, ws, hk, run => by
    have run : (match lawWays P B fns lf d f vs rng (sentH es N l) a ((q, x, y, true) :: ws) with
      | true => lawWays P B fns lf d f vs rng (sentH es N l) b ((q, x, y, false) :: ws)
      | false => false) = true := run
    split at run
    · rename_i e
      exact hk.by_ q x y (fun h => law_ways hp hS hlen hn hG hlt hbad hx hv hbod h e) (fun h => law_ways hp hS hlen hn hG hlt hbad hx hv hbod h run)
    · cases run
end Tk
