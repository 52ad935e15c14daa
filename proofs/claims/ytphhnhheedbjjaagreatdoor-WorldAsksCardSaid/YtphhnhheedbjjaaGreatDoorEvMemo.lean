/- Calls that are run once: what came of them is kept, and looked up; heaps of which something is forgotten. -/
import Derived.Test.YtphhnhheedbjjaaGreatDoorEvLaw2
set_option linter.unusedVariables false
set_option linter.unusedSimpArgs false
namespace Tk
open Go Go.RowKit

/- heaps held against each other -/
noncomputable def leafV (a b : V) : Bool := match a, b with
  | .int k (.lit x), .int l (.lit y) => eqK k l && eqI x y
  | .bool a, .bool b => eqB a b
  | .ptr r o, .ptr r' o' => Nat.beq r r' && Nat.beq o o'
  | a, b => sameV a b
theorem leafV_eq {a b : V} (h : leafV a b = true) : a = b := by
  unfold leafV at h
  split at h
  · simp only [Bool.and_eq_true] at h
    exact sameV_eq _ _ (by simp only [sameV, eqE, Bool.and_eq_true]; exact h)
  · exact sameV_eq _ _ (by simpa only [sameV] using h)
  · exact sameV_eq _ _ (by simpa only [sameV] using h)
  · exact sameV_eq _ _ h
noncomputable def eqRow (l : List V) : List V → Bool :=
  List.rec (fun m => match m with | [] => true | _ :: _ => false) (fun a _ ih m => match m with | [] => false | b :: m => match leafV a b with | true => ih m | false => false) l
theorem eqRow_eq : ∀ {l m : List V}, eqRow l m = true → l = m
  | [], m, h => by
    cases m with
    | nil => rfl
    | cons b m => cases h
  | a :: l, m, h => by
    cases m with
    | nil => cases h
    | cons b m =>
      have h : (match leafV a b with | true => eqRow l m | false => false) = true := h
      split at h
      · rename_i e
        rw [leafV_eq e, eqRow_eq h]
      · cases h
noncomputable def eqRows (l : List (List V)) : List (List V) → Bool :=
  List.rec (fun m => match m with | [] => true | _ :: _ => false) (fun a _ ih m => match m with | [] => false | b :: m => match eqRow a b with | true => ih m | false => false) l
theorem eqRows_eq : ∀ {l m : List (List V)}, eqRows l m = true → l = m
  | [], m, h => by
    cases m with
    | nil => rfl
    | cons b m => cases h
  | a :: l, m, h => by
    cases m with
    | nil => cases h
    | cons b m =>
      have h : (match eqRow a b with | true => eqRows l m | false => false) = true := h
      split at h
      · rename_i e
        rw [eqRow_eq e, eqRows_eq h]
      · cases h
noncomputable def eqEnts (l : List (V × V × Nat)) : List (V × V × Nat) → Bool :=
  List.rec (fun m => match m with | [] => true | _ :: _ => false) (fun a _ ih m => match m with | [] => false | b :: m => match leafV a.1 b.1 && leafV a.2.1 b.2.1 && Nat.beq a.2.2 b.2.2 with | true => ih m | false => false) l
theorem eqEnts_eq : ∀ {l m : List (V × V × Nat)}, eqEnts l m = true → l = m
  | [], m, h => by
    cases m with
    | nil => rfl
    | cons b m => cases h
  | (a1, a2, a3) :: l, m, h => by
    cases m with
    | nil => cases h
    | cons b m =>
      obtain ⟨b1, b2, b3⟩ := b
      have h : (match leafV a1 b1 && leafV a2 b2 && Nat.beq a3 b3 with | true => eqEnts l m | false => false) = true := h
      split at h
      · rename_i e
        simp only [Bool.and_eq_true] at e
        rw [leafV_eq e.1.1, leafV_eq e.1.2, beqN e.2, eqEnts_eq h]
      · cases h
noncomputable def eqOptN : Option Nat → Option Nat → Bool
  | none, none => true
  | some a, some b => Nat.beq a b
  | _, _ => false
theorem eqOptN_eq {a b : Option Nat} (h : eqOptN a b = true) : a = b := by
  cases a <;> cases b <;> first | rfl | (cases h; done) | exact congrArg some (beqN h)
noncomputable def eqOb : Ob → Ob → Bool
  | .cells a l r, .cells b m s => match Nat.beq a b && eqB r s with
    | true => eqRows l m
    | false => false
  | .map l c, .map m d => Nat.beq c d && eqEnts l m
  | .mapIter a b c d, .mapIter a' b' c' d' => eqOptN a a' && Nat.beq b b' && eqNats c c' && Nat.beq d d'
  | .strIter a b, .strIter a' b' => eqNats a a' && Nat.beq b b'
  | _, _ => false
theorem eqOb_eq {a b : Ob} (h : eqOb a b = true) : a = b := by
  cases a <;> cases b <;> simp only [eqOb] at h <;> first | (cases h; done) | skip
  · split at h
    · rename_i e
      simp only [Bool.and_eq_true] at e
      rw [beqN e.1, eqB_eq e.2, eqRows_eq h]
    · cases h
  · simp only [Bool.and_eq_true] at h
    rw [beqN h.1, eqEnts_eq h.2]
  · simp only [Bool.and_eq_true] at h
    rw [eqOptN_eq h.1.1.1, beqN h.1.1.2, eqNats_iff.1 h.1.2, beqN h.2]
  · simp only [Bool.and_eq_true] at h
    rw [eqNats_iff.1 h.1, beqN h.2]
noncomputable def subO (x y : Option Ob) : Bool := match x with
  | none => true
  | some o => match y with
    | some o' => eqOb o o'
    | none => false
/-- what stands in the first stands in the second -/
noncomputable def subTr (t : Tr Ob) : Tr Ob → Bool :=
  Tr.rec (fun _ => true) (fun _ x _ il ir u => match u with
    | .lf => match x with
      | none => match il .lf with
        | true => ir .lf
        | false => false
      | some _ => false
    | .nd l y r => match subO x y with
      | true => match il l with
        | true => ir r
        | false => false
      | false => false) t
theorem subTr_get : ∀ {t u : Tr Ob}, subTr t u = true → ∀ (r : Nat) (o : Ob), t.get r = some o → u.get r = some o
  | .lf, u, _, r, o, h => by rw [Tr.get_lf] at h; cases h
  | .nd l x rr, u, hs, r, o, h => by
    cases u with
    | lf =>
      cases x with
      | some o' =>
        have hs : false = true := hs
        cases hs
      | none =>
        have hs : (match subTr l .lf with
          | true => subTr rr .lf
          | false => false) = true := hs
        split at hs
        · rename_i e2
          exfalso
          cases r with
          | zero => rw [Tr.get_nd_zero] at h; cases h
          | succ j =>
            rw [Tr.get_nd_succ] at h
            split at h
            · have := subTr_get e2 _ _ h
              rw [Tr.get_lf] at this; cases this
            · have := subTr_get hs _ _ h
              rw [Tr.get_lf] at this; cases this
        · cases hs
    | nd l' y r' =>
      have hs : (match subO x y with
        | true => match subTr l l' with
          | true => subTr rr r'
          | false => false
        | false => false) = true := hs
      split at hs
      · rename_i e1
        split at hs
        · rename_i e2
          cases r with
          | zero =>
            rw [Tr.get_nd_zero] at h ⊢
            subst h
            cases y with
            | none => cases e1
            | some o' =>
              have e1 : eqOb o o' = true := e1
              rw [eqOb_eq e1]
          | succ j =>
            rw [Tr.get_nd_succ] at h ⊢
            split
            · rename_i hj
              rw [if_pos hj] at h
              exact subTr_get e2 _ _ h
            · rename_i hj
              rw [if_neg hj] at h
              exact subTr_get hs _ _ h
        · cases hs
      · cases hs
def Sub (t u : Tr Ob) : Prop := ∀ (r : Nat) (o : Ob), t.get r = some o → u.get r = some o
theorem Sub.refl (t : Tr Ob) : Sub t t := fun _ _ h => h

section
variable {σ : Nat → Int} {W0 : World} {ρ ρ' : Inj} {h h₁ h₁' h₂' : H} {W W' : World}
theorem Rel.sub (R : Rel σ W0 ρ h W) (hs : Sub h₁.tr h.tr) (hn : h.next ≤ h₁.next) : Rel σ W0 ρ h₁ W :=
  ⟨R.below, fun r hr => R.dom r (Nat.le_trans hn hr), R.blk, fun r o l hg hl => R.obs r o l (hs r o hg) hl, fun r r' o o' l l' hg hg' => R.apart r r' o o' l l' (hs r o hg) (hs r' o' hg')⟩
theorem Known.sub {b : Nat} (hs : Sub h₁.tr h.tr) (k : Known ρ h₁ b) : Known ρ h b := by
  obtain ⟨r, o, l, h1, h2, h3⟩ := k
  exact ⟨r, o, l, hs r o h1, h2, h3⟩
/-- less is known of where it begins, less is kept of what came -/
theorem Stp.less (S : Stp σ W0 ρ h₁ W ρ' h₁' W') (hs : Sub h₁.tr h.tr) (hn : h.next ≤ h₁.next) (hs' : Sub h₂'.tr h₁'.tr) (hn' : h₁'.next ≤ h₂'.next) : Stp σ W0 ρ h W ρ' h₂' W' where
  ext := S.ext
  rel := S.rel.sub hs' hn'
  own := fun b k => by
    rcases S.own b (k.sub hs') with k | k
    · exact .inl k
    · exact .inr (k.sub hs)
  frame := fun b hb hk => S.frame b hb fun k => hk (k.sub hs)
  size := S.size
  next := Nat.le_trans hn (Nat.le_trans S.next hn')
  low := fun k hk => S.low k (Nat.lt_of_lt_of_le hk hn)
/-- a call that knew no block, and whose blocks are forgotten -/
theorem Stp.bare {n : Nat} (S : Stp σ W0 ρ ⟨.lf, n⟩ W ρ' h₁' W') (R : Rel σ W0 ρ h W) : Stp σ W0 ρ h W ρ h W' := by
  have hno : ∀ b, ¬ Known ρ ⟨.lf, n⟩ b := by
    rintro b ⟨r, o, l, hg, _⟩
    have hg : (Tr.lf : Tr Ob).get r = some o := hg
    rw [Tr.get_lf] at hg; cases hg
  have hfr : ∀ b, b < W.heap.size → W'.heap[b]? = W.heap[b]? := fun b hb => S.frame b hb (hno b)
  refine ⟨Ext.refl _, ⟨S.rel.below, R.dom, fun r l hl => Nat.lt_of_lt_of_le (R.blk r l hl) S.size, fun r o l hg hl => ?_, R.apart⟩, fun b hb => .inr hb, fun b hb _ => hfr b hb, S.size, Nat.le_refl _, fun _ _ => rfl⟩
  obtain ⟨h1, h2⟩ := R.obs r o l hg hl
  exact ⟨ObR.mono (Ext.refl _) (hfr _ (R.blk r l hl)) h1, h2⟩
end

/- calls that are kept -/
abbrev Fn := List V → H → Option (V × H)
structure Memo where
  args : List V
  h : H
  v : V
  h' : H
/-- what a call of a function with these arguments in this heap comes to -/
def MemoOk (P : Program) (G : Nat) (σ : Nat → Int) (W0 : World) (f : FuncId) (m : Memo) : Prop :=
  ∀ (xs : Array Value) (ρ : Inj) (W : World), VRs σ ρ m.args xs.toList → Rel σ W0 ρ m.h W → Glob G ρ →
    ∃ nx W1, (callFunc f xs).run P W = .ok nx W1 ∧
      ((nx = .enter f xs ∧ W1 = W ∧ Calls P f xs W (fun e w' => ∃ x ρ', e = .returned x ∧ VR σ ρ' m.v x ∧ Stp σ W0 ρ m.h W ρ' m.h' w')) ∨
       (∃ x ρ', nx = .value x ∧ VR σ ρ' m.v x ∧ Stp σ W0 ρ m.h W ρ' m.h' W1))
noncomputable def memoIs (m : Memo) (args : List V) (h : H) : Bool := match Nat.beq m.h.next h.next with
  | true => match eqRow m.args args with
    | true => subTr m.h.tr h.tr
    | false => false
  | false => false
noncomputable def memoFn (ms : List Memo) : Fn := fun args h =>
  List.rec none (fun m _ ih => match memoIs m args h with
    | true => some (m.v, m.h')
    | false => ih) ms
theorem memo_fn_ok {P : Program} {G : Nat} {σ : Nat → Int} {W0 : World} {f : FuncId} : ∀ {ms : List Memo}, (∀ m ∈ ms, MemoOk P G σ W0 f m) → CallOk P G σ W0 f (memoFn ms)
  | [], _ => fun vs xs h v h' ρ W e => by cases e
  | m :: ms, hms => fun vs xs h v h' ρ W e hv R g => by
    have e : (match memoIs m vs h with
      | true => some (m.v, m.h')
      | false => memoFn ms vs h) = some (v, h') := e
    split at e
    · rename_i hm
      unfold memoIs at hm
      split at hm
      · rename_i hn
        split at hm
        · rename_i ha
          have ha := eqRow_eq ha
          have hs : Sub m.h.tr h.tr := subTr_get hm
          have hn : h.next ≤ m.h.next := Nat.le_of_eq (beqN hn).symm
          simp only [Option.some.injEq, Prod.mk.injEq] at e
          obtain ⟨rfl, rfl⟩ := e
          subst ha
          obtain ⟨nx, W1, h1, h2⟩ := hms m (List.mem_cons_self) xs ρ W hv (R.sub hs hn) g
          refine ⟨nx, W1, h1, ?_⟩
          rcases h2 with ⟨e1, e2, hc⟩ | ⟨x, ρ', e1, hx, S⟩
          · refine .inl ⟨e1, e2, hc.mono ?_⟩
            rintro e w' ⟨x, ρ', he, hx, S⟩
            exact ⟨x, ρ', he, hx, S.less hs hn (Sub.refl _) (Nat.le_refl _)⟩
          · exact .inr ⟨x, ρ', e1, hx, S.less hs hn (Sub.refl _) (Nat.le_refl _)⟩
        · cases hm
      · cases hm
    · exact memo_fn_ok (fun m' hm' => hms m' (List.mem_cons_of_mem _ hm')) vs xs h v h' ρ W e hv R g


mutual
noncomputable def bareV : V → Bool
  | .bool _ => true
  | .int _ _ => true
  | .str _ => true
  | .pnil => true
  | .snil => true
  | .mnil => true
  | .fnil => true
  | .inil => true
  | .agg cs => bareVs cs
  | .tuple cs => bareVs cs
  | .iface _ v => bareV v
  | _ => false
noncomputable def bareVs : List V → Bool
  | [] => true
  | v :: l => bareV v && bareVs l
end
mutual
theorem VR.barely {σ : Nat → Int} {ρ ρ' : Inj} : ∀ (v : V) (x : Value), bareV v = true → VR σ ρ v x → VR σ ρ' v x
  | .bool _, x, _, h => by simpa only [VR] using h
  | .int _ _, x, _, h => by simpa only [VR] using h
  | .str _, x, _, h => by simpa only [VR] using h
  | .pnil, x, _, h => by simpa only [VR] using h
  | .snil, x, _, h => by simpa only [VR] using h
  | .mnil, x, _, h => by simpa only [VR] using h
  | .fnil, x, _, h => by simpa only [VR] using h
  | .inil, x, _, h => by simpa only [VR] using h
  | .agg cs, x, hp, h => by
    simp only [bareV] at hp
    simp only [VR] at h ⊢
    obtain ⟨c, h1, h2⟩ := h
    exact ⟨c, h1, VRs.barely cs _ hp h2⟩
  | .tuple cs, x, hp, h => by
    simp only [bareV] at hp
    simp only [VR] at h ⊢
    obtain ⟨c, h1, h2⟩ := h
    exact ⟨c, h1, VRs.barely cs _ hp h2⟩
  | .iface t v, x, hp, h => by
    simp only [bareV] at hp
    simp only [VR] at h ⊢
    obtain ⟨c, h1, h2⟩ := h
    exact ⟨c, h1, VR.barely v _ hp h2⟩
  | .ptr _ _, x, hp, h => by simp [bareV] at hp
  | .slice _ _ _ _ _ _, x, hp, h => by simp [bareV] at hp
  | .eslice _, x, hp, h => by simp [bareV] at hp
  | .map _, x, hp, h => by simp [bareV] at hp
  | .func _ _ _, x, hp, h => by simp [bareV] at hp
theorem VRs.barely {σ : Nat → Int} {ρ ρ' : Inj} : ∀ (vs : List V) (xs : List Value), bareVs vs = true → VRs σ ρ vs xs → VRs σ ρ' vs xs
  | [], xs, _, h => by simpa only [VRs] using h
  | v :: vs, xs, hp, h => by
    simp only [bareVs, Bool.and_eq_true] at hp
    simp only [VRs] at h ⊢
    obtain ⟨v', l', h1, h2, h3⟩ := h
    exact ⟨v', l', h1, VR.barely v _ hp.1 h2, VRs.barely vs _ hp.2 h3⟩
end
/-- a call that looks at no block: arguments, value, where it begins to name its own blocks -/
abbrev Pur := List V × V × Nat
def PureOk (P : Program) (G : Nat) (σ : Nat → Int) (W0 : World) (f : FuncId) (p : Pur) : Prop :=
  ∃ h', MemoOk P G σ W0 f ⟨p.1, ⟨.lf, p.2.2⟩, p.2.1, h'⟩ ∧ bareV p.2.1 = true
noncomputable def pureFn (ps : List Pur) : Fn := fun args h =>
  List.rec none (fun p _ ih => match eqRow p.1 args with
    | true => match Nat.ble h.next p.2.2 with
      | true => some (p.2.1, h)
      | false => none
    | false => ih) ps
theorem pure_fn_ok {P : Program} {G : Nat} {σ : Nat → Int} {W0 : World} {f : FuncId} : ∀ {ps : List Pur}, (∀ p ∈ ps, PureOk P G σ W0 f p) → CallOk P G σ W0 f (pureFn ps)
  | [], _ => fun vs xs h v h' ρ W e => by cases e
  | p :: ps, hps => fun vs xs h v h' ρ W e hv R g => by
    have e : (match eqRow p.1 vs with
      | true => match Nat.ble h.next p.2.2 with
        | true => some (p.2.1, h)
        | false => none
      | false => pureFn ps vs h) = some (v, h') := e
    split at e
    · rename_i ha
      split at e
      · rename_i hn
        have ha := eqRow_eq ha
        have hn := bleN hn
        simp only [Option.some.injEq, Prod.mk.injEq] at e
        obtain ⟨rfl, rfl⟩ := e
        subst ha
        obtain ⟨g', hm, hp⟩ := hps p (List.mem_cons_self)
        obtain ⟨nx, W1, h1, h2⟩ := hm xs ρ W hv (R.sub (h₁ := ⟨.lf, p.2.2⟩) (fun r o hg => by
          have hg : (Tr.lf : Tr Ob).get r = some o := hg
          rw [Tr.get_lf] at hg; cases hg) hn) g
        refine ⟨nx, W1, h1, ?_⟩
        rcases h2 with ⟨e1, e2, hc⟩ | ⟨x, ρ', e1, hx, S⟩
        · refine .inl ⟨e1, e2, hc.mono ?_⟩
          rintro e w' ⟨x, ρ', he, hx, S⟩
          exact ⟨x, ρ, he, VR.barely _ _ hp hx, S.bare R⟩
        · exact .inr ⟨x, ρ, e1, VR.barely _ _ hp hx, S.bare R⟩
      · cases e
    · exact pure_fn_ok (fun p' hp' => hps p' (List.mem_cons_of_mem _ hp')) vs xs h v h' ρ W e hv R g
/-- this one, or else that one -/
noncomputable def orFn (a b : Fn) : Fn := fun args h => match a args h with
  | some r => some r
  | none => b args h
theorem or_fn_ok {P : Program} {G : Nat} {σ : Nat → Int} {W0 : World} {f : FuncId} {a b : Fn} (ha : CallOk P G σ W0 f a) (hb : CallOk P G σ W0 f b) : CallOk P G σ W0 f (orFn a b) := by
  intro vs xs h v h' ρ W e hv R g
  unfold orFn at e
  split at e
  · rename_i r hr
    rw [e] at hr
    exact ha vs xs h v h' ρ W hr hv R g
  · exact hb vs xs h v h' ρ W e hv R g

/- contexts with a table of kept functions -/
abbrev Fns := List (FuncId × Fn)
noncomputable def lookX (f : FuncId) (xs : Fns) : Option Fn := List.rec none (fun x _ ih => match Nat.beq x.1 f with
  | true => some x.2
  | false => ih) xs
theorem lookX_mem {f : FuncId} {g : Fn} : ∀ {xs : Fns}, lookX f xs = some g → (f, g) ∈ xs
  | [], h => by cases h
  | (f', g') :: xs, h => by
    have k : (match Nat.beq f' f with
      | true => some g'
      | false => lookX f xs) = some g := h
    cases e : Nat.beq f' f with
    | true =>
      rw [e] at k
      have e := beqN e
      subst e
      have k := Option.some.inj k
      subst k
      exact List.mem_cons_self
    | false =>
      rw [e] at k
      exact List.mem_cons_of_mem _ (lookX_mem k)
noncomputable def extX (B : Bad) (xs : Fns) (f : FuncId) : Option Fn := match lookX f xs with
  | some g => some g
  | none => badExt B none f
noncomputable def cxX (P : Program) (B : Bad) (rng : List (Int × Int)) (facts : List (Bool × E × E × Bool)) (xs : Fns) : Cx := { P, rng, facts, ext := extX B xs, blk := fun _ _ => none }
/-- what is said of the unknown numbers -/
structure Known2 (σ : Nat → Int) (rng : List (Int × Int)) (facts : List (Bool × E × E × Bool)) : Prop where
  rng : ∀ (i : Nat) lo hi, rng[i]? = some (lo, hi) → lo ≤ σ i ∧ σ i ≤ hi
  facts : ∀ q a b t, (q, a, b, t) ∈ facts → (match q with | true => decide (a.den σ = b.den σ) | false => decide (a.den σ < b.den σ)) = t
theorem Known2.nil (σ : Nat → Int) : Known2 σ [] [] := ⟨fun i lo hi h => by simp at h, fun q a b t h => by simp at h⟩
def FnsOk (P : Program) (G : Nat) (σ : Nat → Int) (W0 : World) (xs : Fns) : Prop := ∀ f g, (f, g) ∈ xs → CallOk P G σ W0 f g
theorem FnsOk.nil {P : Program} {G : Nat} {σ : Nat → Int} {W0 : World} : FnsOk P G σ W0 [] := fun f g h => by cases h
theorem FnsOk.cons {P : Program} {G : Nat} {σ : Nat → Int} {W0 : World} {f : FuncId} {g : Fn} {xs : Fns} (h : CallOk P G σ W0 f g) (hs : FnsOk P G σ W0 xs) : FnsOk P G σ W0 ((f, g) :: xs) := fun f' g' hm => by
  cases hm with
  | head => exact h
  | tail _ hm => exact hs f' g' hm
theorem call_x {P : Program} {G : Nat} {B : Bad} {σ : Nat → Int} {W0 : World} {rng : List (Int × Int)} {facts : List (Bool × E × E × Bool)} {xs : Fns} (hp : Fit P G B) (hk : Known2 σ rng facts) (hx : FnsOk P G σ W0 xs) (lf d : Nat) (f : FuncId) :
    CallOk P G σ W0 f (evCall (cxX P B rng facts xs) lf d f) :=
  calls_ok (Γ := cxX P B rng facts xs) ⟨hk.rng, hk.facts⟩ hp.mixed lf (fun _ _ => rfl) (fun f' g' h => by
    simp only [cxX, extX] at h
    split at h
    · rename_i g hg
      cases h
      exact hx f' g' (lookX_mem hg)
    · simp only [badExt] at h
      split at h
      · cases h; exact nope_ok
      · cases h) (fun f' fn h hf => by
    simp only [cxX, extX] at h
    split at h
    · cases h
    · exact hp.body f' fn (badExt_none h) hf) d f
/-- held against what is kept -/
noncomputable def ranTo (r : Option (V × H)) (v : V) (h' : H) : Bool := match r with
  | some (w, g) => match leafV w v with
    | true => match Nat.ble g.next h'.next with
      | true => subTr h'.tr g.tr
      | false => false
    | false => false
  | none => false
/-- A CALL THAT IS RUN ONCE. -/
theorem memo_ok {P : Program} {G : Nat} {B : Bad} {σ : Nat → Int} {W0 : World} {rng : List (Int × Int)} {facts : List (Bool × E × E × Bool)} {xs : Fns} (hp : Fit P G B) (hk : Known2 σ rng facts) (hx : FnsOk P G σ W0 xs) {lf d : Nat} {f : FuncId} {m : Memo}
    (run : ranTo (evCall (cxX P B rng facts xs) lf d f m.args m.h) m.v m.h' = true) : MemoOk P G σ W0 f m := by
  intro as ρ W hv R g
  unfold ranTo at run
  split at run
  · rename_i w k hr
    split at run
    · rename_i e1
      split at run
      · rename_i e2
        have e1 := leafV_eq e1
        subst e1
        have e2 := bleN e2
        have hs : Sub m.h'.tr k.tr := subTr_get run
        obtain ⟨nx, W1, h1, h2⟩ := call_x hp hk hx lf d f m.args as m.h _ k ρ W hr hv R g
        refine ⟨nx, W1, h1, ?_⟩
        rcases h2 with ⟨e3, e4, hc⟩ | ⟨x, ρ', e3, hvx, S⟩
        · refine .inl ⟨e3, e4, hc.mono ?_⟩
          rintro e w' ⟨x, ρ', he, hvx, S⟩
          exact ⟨x, ρ', he, hvx, S.less (Sub.refl _) (Nat.le_refl _) hs e2⟩
        · exact .inr ⟨x, ρ', e3, hvx, S.less (Sub.refl _) (Nat.le_refl _) hs e2⟩
      · cases run
    · cases run
  · cases run
noncomputable def ranPure (r : Option (V × H)) (v : V) : Bool := match r with
  | some (w, g) => match leafV w v with
    | true => bareV v
    | false => false
  | none => false
theorem pure_ok {P : Program} {G : Nat} {B : Bad} {σ : Nat → Int} {W0 : World} {rng : List (Int × Int)} {facts : List (Bool × E × E × Bool)} {xs : Fns} (hp : Fit P G B) (hk : Known2 σ rng facts) (hx : FnsOk P G σ W0 xs) {lf d : Nat} {f : FuncId} {p : Pur}
    (run : ranPure (evCall (cxX P B rng facts xs) lf d f p.1 ⟨.lf, p.2.2⟩) p.2.1 = true) : PureOk P G σ W0 f p := by
  unfold ranPure at run
  split at run
  · rename_i w k hr
    split at run
    · rename_i e1
      have e1 := leafV_eq e1
      subst e1
      refine ⟨k, ?_, run⟩
      intro as ρ W hv R g
      exact call_x hp hk hx lf d f p.1 as ⟨.lf, p.2.2⟩ _ k ρ W hr hv R g
    · cases run
  · cases run
/-- A LAW's CALL AT ONE CASE: 'run' is what the kernel runs. -/
theorem law_case_x {P : Program} {G N : Nat} {B : Bad} {σ : Nat → Int} {W : World} {es : TypeId} {l : Errs} {as : List Addr} {f : FuncId} {rng : List (Int × Int)} {facts : List (Bool × E × E × Bool)} {fs : Fns} {lf d : Nat} {vs : List V} {xs : Array Value} (hp : Fit P G B)
    (hS : Sents es W l as) (hlen : as.length = l.length) (hn : (placesOf l as).Nodup) (hG : ∀ g, hasBit G g = true → ∃ s, (g, s) ∈ l) (hlt : ∀ x ∈ l, x.1 < N ∧ hasBit G x.1 = true) (hbad : inB f B = false)
    (hk : Known2 σ rng facts) (hx : FnsOk P G σ W fs)
    (hv : ∀ ρ, VRs σ ρ vs xs.toList) (hbod : ∃ fn, P.funcs[f]? = some fn ∧ fn.body.isSome = true)
    (run : isTrue (evCall (cxX P B rng facts fs) lf d f vs (sentH es N l)) = true) : Calls P f xs W fun e w' => e = .returned (.bool true) ∧ Below W.heap.size W w' := by
  obtain ⟨R, g⟩ := start_rel (σ := σ) hS hlen hn hG hlt
  have hC := call_x (W0 := W) hp hk hx lf d f
  cases hr : evCall (cxX P B rng facts fs) lf d f vs (sentH es N l) with
  | none => rw [hr] at run; cases run
  | some p =>
    obtain ⟨v, h'⟩ := p
    rw [hr] at run
    have hvt : v = .bool true := by
      cases v <;> simp only [isTrue] at run <;> first | (cases run; done) | skip
      rename_i b
      cases b
      · cases run
      · rfl
    subst hvt
    obtain ⟨nx, W1, h1, h2⟩ := hC vs xs (sentH es N l) _ h' _ W hr (hv _) R g
    rcases h2 with ⟨_, _, hcalls⟩ | ⟨x, ρ', e1, hvx, S⟩
    · refine hcalls.mono ?_
      rintro e w' ⟨x, ρ', rfl, hvx, S⟩
      simp only [VR] at hvx
      exact ⟨by rw [hvx], S.rel.below⟩
    · exfalso
      obtain ⟨fn, hfn, hb⟩ := hbod
      have hname := (hp.body f fn hbad hfn).2
      have hname : fn.name ≠ "runtime.NumGoroutine" := by simpa using hname
      obtain ⟨body, hb'⟩ := Option.isSome_iff_exists.1 hb
      have hcf : (callFunc f xs).run P W = .ok (.enter f xs) W := by simp [callFunc, hfn, hname, hb']
      have h1' : (callFunc f xs).run P W = .ok nx W1 := h1
      rw [hcf, e1] at h1'
      cases h1'

/- heaps written down -/
noncomputable def rp {α : Type} (n : Nat) (a : α) (l : List α) : List α := Nat.rec l (fun _ ih => a :: ih) n
noncomputable def setL {α : Type} (l : List α) : Nat → α → List α := List.rec (fun _ _ => []) (fun a t ih i x => Nat.rec (x :: t) (fun k _ => a :: ih k x) i) l
noncomputable def hDel (l : List Nat) (t : Tr Ob) : Tr Ob := List.rec t (fun r _ ih => Tr.del ih r) l
noncomputable def hNew (l : List (Nat × Ob)) (t : Tr Ob) : Tr Ob := List.rec t (fun x _ ih => Tr.set ih x.1 x.2) l
noncomputable def hRow (l : List (Nat × Nat × List V)) (t : Tr Ob) : Tr Ob := List.rec t (fun x _ ih => match Tr.get ih x.1 with
  | some (.cells sz cs ro) => Tr.set ih x.1 (.cells sz (setL cs x.2.1 x.2.2) ro)
  | _ => ih) l
noncomputable def hCel (l : List (Nat × Nat × Nat × V)) (t : Tr Ob) : Tr Ob := List.rec t (fun x _ ih => match Tr.get ih x.1 with
  | some (.cells sz cs ro) => match nthL cs x.2.1 with
    | some row => Tr.set ih x.1 (.cells sz (setL cs x.2.1 (setL row x.2.2.1 x.2.2.2)) ro)
    | none => ih
  | _ => ih) l
noncomputable def hUpc (h : H) (next : Nat) (d : List Nat) (n : List (Nat × Ob)) (w : List (Nat × Nat × List V)) (c : List (Nat × Nat × Nat × V)) : H := ⟨hCel c (hRow w (hNew n (hDel d h.tr))), next⟩
noncomputable def hUpd (h : H) (next : Nat) (d : List Nat) (n : List (Nat × Ob)) (w : List (Nat × Nat × List V)) : H := ⟨hRow w (hNew n (hDel d h.tr)), next⟩
noncomputable def I (n : Nat) : V := .int .i64 (.lit (.ofNat n))
noncomputable def U (n : Nat) : V := .int .u32 (.lit (.ofNat n))
noncomputable def IZ (n : Int) : V := .int .i64 (.lit n)
noncomputable def bT : V := .bool true
noncomputable def bF : V := .bool false
/-- what Number comes to -/
def TabOk (P : Program) (B : Bad) (num : FuncId) (σ : Nat → Int) (tab : NumTabE) : Prop :=
  ∀ i k c, (i, k, c) ∈ tab → NumRuns P B num k ∧ 0 < k ∧ k < 4611686018427387904 ∧ -9223372036854775808 ≤ σ i ∧ σ i ≤ 9223372036854775807 ∧ numOf (σ i) k = c.den σ
theorem TabOk.ok {P : Program} {G : Nat} {B : Bad} {σ : Nat → Int} {W0 : World} {num : FuncId} {tab : NumTabE} (hp : Fit P G B) (h : TabOk P B num σ tab) : CallOk P G σ W0 num (numExtE tab) := num_ok_e hp tab h
theorem TabOk.nil {P : Program} {B : Bad} {num : FuncId} {σ : Nat → Int} : TabOk P B num σ [] := fun i k c h => by cases h
theorem TabOk.cons {P : Program} {B : Bad} {num : FuncId} {σ : Nat → Int} {tab : NumTabE} {i : Nat} {k : Int} {c : E} (hr : NumRuns P B num k) (h0 : 0 < k) (h1 : k < 4611686018427387904) (h2 : -9223372036854775808 ≤ σ i) (h3 : σ i ≤ 9223372036854775807) (h4 : numOf (σ i) k = c.den σ) (h : TabOk P B num σ tab) : TabOk P B num σ ((i, k, c) :: tab) := fun i' k' c' hm => by
  cases hm with
  | head => exact ⟨hr, h0, h1, h2, h3, h4⟩
  | tail _ hm => exact h i' k' c' hm
theorem all_nil {α : Type} {p : α → Prop} : ∀ x ∈ ([] : List α), p x := fun x h => by cases h
theorem all_cons {α : Type} {p : α → Prop} {a : α} {l : List α} (h : p a) (hl : ∀ x ∈ l, p x) : ∀ x ∈ a :: l, p x := fun x hm => by
  cases hm with
  | head => exact h
  | tail _ hm => exact hl x hm
/-- no bit behind the last one -/
theorem bit_lt {M N : Nat} (h : M < 2 ^ N) {g : Nat} (hb : hasBit M g = true) : g < N := by
  rcases Nat.lt_or_ge g N with hg | hg
  · exact hg
  · exfalso
    have : Nat.shiftRight M g = 0 := by
      show M >>> g = 0
      rw [Nat.shiftRight_eq_div_pow]
      exact Nat.div_eq_of_lt (Nat.lt_of_lt_of_le h (Nat.pow_le_pow_right (by omega) hg))
    simp only [hasBit, this] at hb
    exact absurd hb (by decide)
theorem bits_all {M N : Nat} {l : Errs} (h : M < 2 ^ N) (ha : ((List.range N).all fun g => !(hasBit M g) || l.any fun x => x.1 == g) = true) (g : Nat) (hb : hasBit M g = true) : ∃ s, (g, s) ∈ l := by
  have hg := bit_lt h hb
  have := List.all_eq_true.1 ha g (List.mem_range.2 hg)
  rw [hb] at this
  simp only [Bool.not_true, Bool.false_or] at this
  obtain ⟨x, hx, he⟩ := List.any_eq_true.1 this
  have he : x.1 = g := by simpa using he
  exact ⟨x.2, by rw [← he]; exact hx⟩
end Tk
