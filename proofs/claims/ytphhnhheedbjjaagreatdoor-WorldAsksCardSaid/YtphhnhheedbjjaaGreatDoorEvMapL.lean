/- A loop over a map that takes entries out of it: whichever comes first. -/
import Derived.Test.YtphhnhheedbjjaaGreatDoorEvRun
import Derived.Maps.RangeRun
set_option linter.unusedVariables false
set_option linter.unusedSimpArgs false
namespace Tk
open Go Go.RowKit

def Ex.exit' : Ex → Exit
  | .normal => .normal
  | .exit id => .exit id
  | .ret => .ret
/-- WHAT IS TO BE SHOWN OF REGIONS THAT DRAW THEIR ORDER. -/
def DrawnSound (Γ : Cx) (G : Nat) (σ : Nat → Int) (W0 : World) (call : CallF) : Prop :=
  ∀ (n : Nat) (ops : Array Oper) (plan : List Tk.Item) (T : Tm) (h : H) (T' : Tm) (h' : H) (ρ : Inj) (a : Act) (W : World) (D : List Deferred) (Q : Exit → Act → World → Prop),
    regionOk ops = true → planOf ops.toList = some plan → opsIn G ops = true → evDrawn call Γ n ops plan T h = some (T', h') → TR σ ρ n T a D → Rel σ W0 ρ h W → Glob G ρ →
    (∀ a' W' ρ', TR σ ρ' n T' a' D → Stp σ W0 ρ h W ρ' h' W' → Q .normal a' W') → wpAny Γ.P .any ops Q ops.size (Array.replicate ops.size false) a W

section
variable {σ : Nat → Int} {ρ ρ' : Inj}
mutual
theorem VR.back (hx : Ext ρ ρ') : ∀ (v : V) (x y : Value), VR σ ρ v y → VR σ ρ' v x → VR σ ρ v x
  | .bool _, x, y, _, h => by simpa only [VR] using h
  | .int _ _, x, y, _, h => by simpa only [VR] using h
  | .str _, x, y, _, h => by simpa only [VR] using h
  | .ptr r o, x, y, h0, h => by
    simp only [VR] at h0 h ⊢
    obtain ⟨l, h1, _⟩ := h0
    obtain ⟨l', h1', h2⟩ := h
    rw [hx _ _ h1] at h1'; cases h1'
    exact ⟨l, h1, h2⟩
  | .pnil, x, y, _, h => by simpa only [VR] using h
  | .slice r o len cap esz ex, x, y, h0, h => by
    simp only [VR] at h0 h ⊢
    obtain ⟨l, c, h1, _⟩ := h0
    obtain ⟨l', c', h1', h2⟩ := h
    rw [hx _ _ h1] at h1'; cases h1'
    exact ⟨l, c', h1, h2⟩
  | .eslice _, x, y, _, h => by simpa only [VR] using h
  | .snil, x, y, _, h => by simpa only [VR] using h
  | .map r, x, y, h0, h => by
    simp only [VR] at h0 h ⊢
    obtain ⟨l, h1, _⟩ := h0
    obtain ⟨l', h1', h2⟩ := h
    rw [hx _ _ h1] at h1'; cases h1'
    exact ⟨l, h1, h2⟩
  | .mnil, x, y, _, h => by simpa only [VR] using h
  | .func f a b, x, y, h0, h => by
    simp only [VR] at h0 h ⊢
    obtain ⟨a0, b0, _, k1, k2⟩ := h0
    obtain ⟨a', b', e, h1, h2⟩ := h
    exact ⟨a', b', e, VRs.back hx a _ _ k1 h1, VRs.back hx b _ _ k2 h2⟩
  | .fnil, x, y, _, h => by simpa only [VR] using h
  | .iface t v, x, y, h0, h => by
    simp only [VR] at h0 h ⊢
    obtain ⟨c0, _, k⟩ := h0
    obtain ⟨c, e, h1⟩ := h
    exact ⟨c, e, VR.back hx v _ _ k h1⟩
  | .inil, x, y, _, h => by simpa only [VR] using h
  | .agg cs, x, y, h0, h => by
    simp only [VR] at h0 h ⊢
    obtain ⟨c0, _, k⟩ := h0
    obtain ⟨c, e, h1⟩ := h
    exact ⟨c, e, VRs.back hx cs _ _ k h1⟩
  | .tuple cs, x, y, h0, h => by
    simp only [VR] at h0 h ⊢
    obtain ⟨c0, _, k⟩ := h0
    obtain ⟨c, e, h1⟩ := h
    exact ⟨c, e, VRs.back hx cs _ _ k h1⟩
  | .strd ps, x, y, _, h => by simpa only [VR] using h
  | .ptx r o sz e n, x, y, h0, h => by
    simp only [VR] at h0 h ⊢
    obtain ⟨l0, _, h1, _⟩ := h0
    obtain ⟨l, i, h2, h3⟩ := h
    have := hx _ _ h1
    rw [h2] at this; cases this
    exact ⟨_, i, h1, h3⟩
  | .vsl e, x, y, _, h => by simpa only [VR] using h
  | .junk, x, y, _, h => by simp only [VR]
theorem VRs.back (hx : Ext ρ ρ') : ∀ (vs : List V) (xs ys : List Value), VRs σ ρ vs ys → VRs σ ρ' vs xs → VRs σ ρ vs xs
  | [], xs, ys, _, h => by simpa only [VRs] using h
  | v :: l, xs, ys, h0, h => by
    simp only [VRs] at h0 h ⊢
    obtain ⟨_, _, _, k1, k2⟩ := h0
    obtain ⟨x, l', e, h1, h2⟩ := h
    exact ⟨x, l', e, VR.back hx v _ _ k1 h1, VRs.back hx l _ _ k2 h2⟩
end
theorem entR.back (hx : Ext ρ ρ') : ∀ {es : Ents} {l l0 : List MapEntry}, entR σ ρ es l0 → entR σ ρ' es l → entR σ ρ es l
  | [], l, l0, _, h => by simpa only [entR] using h
  | (k, v, b) :: es, l, l0, h0, h => by
    simp only [entR] at h0 h ⊢
    obtain ⟨_, _, _, _, k1, k2, k3⟩ := h0
    obtain ⟨k', v', l', e, h1, h2, h3⟩ := h
    exact ⟨k', v', l', e, VR.back hx _ _ _ k1 h1, VR.back hx _ _ _ k2 h2, entR.back hx k3 h3⟩
theorem ObR.back (hx : Ext ρ ρ') {W W' : World} {l : Loc} {o : Ob} (h0 : ObR σ ρ W l o) (h : ObR σ ρ' W' l o) : ObR σ ρ W' l o := by
  cases o with
  | cells sz cs ro =>
    obtain ⟨_, _, _, _, _, _, k⟩ := h0
    obtain ⟨C, e, h1, h2, h3, h4, h5⟩ := h
    exact ⟨C, e, h1, h2, h3, h4, VRs.back hx _ _ _ k h5⟩
  | map es clock =>
    obtain ⟨_, _, k⟩ := h0
    obtain ⟨es', h1, h2⟩ := h
    exact ⟨es', h1, entR.back hx k h2⟩
  | mapIter m since seen stepped =>
    obtain ⟨_, k, _⟩ := h0
    obtain ⟨h1, h2, h3⟩ := h
    refine ⟨?_, k, h3⟩
    rw [h1]
    cases m with
    | none => rfl
    | some r => obtain ⟨l', hl⟩ := k r rfl; simp [hl, hx _ _ hl]
  | strIter s pos => exact h
/-- entries that are left out -/
theorem entR.filter (p : Nat → Bool) : ∀ {es : Ents} {l : List MapEntry}, entR σ ρ es l → entR σ ρ (es.filter fun e => p e.2.2) (l.filter fun e => p e.born)
  | [], l, h => by simp only [entR] at h; subst h; simp [entR]
  | (k, v, b) :: es, l, h => by
    simp only [entR] at h
    obtain ⟨k', v', l', rfl, h1, h2, h3⟩ := h
    have ih := entR.filter p h3
    by_cases hb : p b = true
    · simp only [List.filter_cons, hb, if_true, entR]
      exact ⟨k', v', _, rfl, h1, h2, ih⟩
    · simp only [List.filter_cons, hb]
      exact ih
theorem entR.mem : ∀ {es : Ents} {l : List MapEntry} {x : MapEntry}, entR σ ρ es l → x ∈ l → ∃ e ∈ es, e.2.2 = x.born ∧ VR σ ρ e.1 x.key ∧ VR σ ρ e.2.1 x.val
  | [], l, x, h, hx => by simp only [entR] at h; subst h; cases hx
  | (k, v, b) :: es, l, x, h, hx => by
    simp only [entR] at h
    obtain ⟨k', v', l', rfl, h1, h2, h3⟩ := h
    cases hx with
    | head => exact ⟨_, List.mem_cons_self, rfl, h1, h2⟩
    | tail _ hm => obtain ⟨e, he, q⟩ := entR.mem h3 hm; exact ⟨e, List.mem_cons_of_mem _ he, q⟩
theorem entR.borns : ∀ {es : Ents} {l : List MapEntry}, entR σ ρ es l → l.map (·.born) = es.map (·.2.2)
  | [], l, h => by simp only [entR] at h; subst h; rfl
  | (k, v, b) :: es, l, h => by
    simp only [entR] at h
    obtain ⟨k', v', l', rfl, h1, h2, h3⟩ := h
    simp [entR.borns h3]
end

/- lists and temporaries -/
theorem junkAll_get : ∀ (l : List Tmp) (T : Tm) (t : Tmp), (t ∈ l → Tm.get (junkAll l T) t = .junk) ∧ (t ∉ l → Tm.get (junkAll l T) t = Tm.get T t)
  | [], T, t => ⟨(fun h => by cases h), fun _ => rfl⟩
  | d :: l, T, t => by
    obtain ⟨h1, h2⟩ := junkAll_get l (Tr.set T d .junk) t
    show (t ∈ d :: l → Tm.get (junkAll l (Tr.set T d .junk)) t = .junk) ∧ (t ∉ d :: l → Tm.get (junkAll l (Tr.set T d .junk)) t = Tm.get T t)
    constructor
    · intro h
      by_cases hl : t ∈ l
      · exact h1 hl
      · rw [h2 hl, tm_set]
        have : d = t := by
          cases h with
          | head => rfl
          | tail _ hm => exact absurd hm hl
        rw [if_pos this]
    · intro h
      have hl : t ∉ l := fun k => h (List.mem_cons_of_mem _ k)
      rw [h2 hl, tm_set, if_neg (fun e => h (by rw [e]; exact List.mem_cons_self))]
theorem memN_ok {n : Nat} : ∀ {l : List Nat}, memN n l = true ↔ n ∈ l
  | [] => by simp [memN]
  | m :: l => by
    simp only [memN]
    split
    · rename_i e; simp [beqN e]
    · rename_i e
      have e := beqF e
      rw [memN_ok]
      simp [e]
theorem dropN_mem {a b r : Nat} : ∀ {l : List Nat}, r ∈ dropN a b l → r ≠ a ∧ r ≠ b
  | [], h => by cases h
  | n :: l, h => by
    simp only [dropN] at h
    split at h
    · rename_i e1 e2
      cases h with
      | head => exact ⟨beqF e1, beqF e2⟩
      | tail _ hm => exact dropN_mem hm
    · exact dropN_mem h
theorem pickTr_get {t : Tr Ob} {r : Nat} {o : Ob} : ∀ {l : List Nat}, (pickTr t l).get r = some o → r ∈ l ∧ t.get r = some o
  | [], h => by have h : (Tr.lf : Tr Ob).get r = some o := h; rw [Tr.get_lf] at h; cases h
  | n :: l, h => by
    simp only [pickTr] at h
    split at h
    · rename_i o' ho'
      rw [Tr.get_set] at h
      split at h
      · rename_i e; subst e; cases h; exact ⟨List.mem_cons_self, ho'⟩
      · obtain ⟨h1, h2⟩ := pickTr_get h; exact ⟨List.mem_cons_of_mem _ h1, h2⟩
    · obtain ⟨h1, h2⟩ := pickTr_get h; exact ⟨List.mem_cons_of_mem _ h1, h2⟩
theorem sameRows_eq : ∀ {a b : List (List V)}, sameRows a b = true → a = b
  | [], [], _ => rfl
  | [], _ :: _, h => by cases h
  | _ :: _, [], h => by cases h
  | a :: l, b :: m, h => by
    simp only [sameRows, Bool.and_eq_true] at h
    rw [sameVs_eq _ _ h.1, sameRows_eq h.2]
theorem sameCells_ok {a b : Option Ob} (h : sameCells a b = true) : ∃ s l, a = some (.cells s l false) ∧ b = some (.cells s l false) := by
  unfold sameCells at h
  split at h
  · simp only [Bool.and_eq_true] at h
    exact ⟨_, _, rfl, by rw [beqN h.1, sameRows_eq h.2]⟩
  · cases h
theorem sameAt_ok {t u : Tr Ob} {r : Nat} : ∀ {l : List Nat}, sameAt t u l = true → r ∈ l → ∃ s c, t.get r = some (.cells s c false) ∧ u.get r = some (.cells s c false)
  | [], _, h => by cases h
  | n :: l, hs, h => by
    simp only [sameAt] at hs
    split at hs
    · rename_i e
      cases h with
      | head => exact sameCells_ok e
      | tail _ hm => exact sameAt_ok hs hm
    · cases hs
theorem roundsM_ok {f : V × V × Nat → Option Bool} : ∀ {es l : Ents}, roundsM f es = some l → l = es.filter (fun e => match f e with | some true => false | _ => true) ∧ ∀ e ∈ es, ∃ b, f e = some b
  | [], l, h => by cases h; exact ⟨rfl, fun e he => by cases he⟩
  | e :: es, l, h => by
    simp only [roundsM] at h
    split at h
    · rename_i l1 e1 e2
      cases h
      obtain ⟨h1, h2⟩ := roundsM_ok e2
      refine ⟨by simp [List.filter_cons, e1, h1], fun x hx => ?_⟩
      cases hx with
      | head => exact ⟨_, e1⟩
      | tail _ hm => exact h2 x hm
    · rename_i l1 e1 e2
      cases h
      obtain ⟨h1, h2⟩ := roundsM_ok e2
      refine ⟨by simp [List.filter_cons, e1, h1], fun x hx => ?_⟩
      cases hx with
      | head => exact ⟨_, e1⟩
      | tail _ hm => exact h2 x hm
    · cases h
theorem inEnts_ok {b : Nat} : ∀ {es : Ents}, inEnts b es = false → b ∉ es.map (·.2.2)
  | [], _ => by simp
  | e :: es, h => by
    simp only [inEnts] at h
    split at h
    · cases h
    · rename_i q
      have := inEnts_ok h
      have q := beqF q
      simp only [List.map_cons, List.mem_cons, not_or]
      exact ⟨q, this⟩
theorem bornOnce_ok : ∀ {es : Ents}, bornOnce es = true → (es.map (·.2.2)).Nodup
  | [], _ => by simp
  | e :: es, h => by
    simp only [bornOnce] at h
    split at h
    · cases h
    · rename_i q
      rw [List.map_cons, List.nodup_cons]
      exact ⟨inEnts_ok q, bornOnce_ok h⟩
theorem oneKey_ok {Γ : Cx} {kt : KT} {k : V} {b : Nat} : ∀ {es : Ents}, oneKey Γ kt k b es = true → ∀ e ∈ es, eqKey Γ kt k e.1 = some (Nat.beq b e.2.2)
  | [], _, e, he => by cases he
  | x :: es, h, e, he => by
    simp only [oneKey] at h
    split at h
    · rename_i t ht
      split at h
      · rename_i q
        cases he with
        | head => rw [ht, eqB_eq q]
        | tail _ hm => exact oneKey_ok h e hm
      · cases h
    · cases h
/-- found by its key -/
theorem find_one {Γ : Cx} {kt : KT} {k : V} {b : Nat} : ∀ {es : Ents} (i : Nat), (∀ e ∈ es, eqKey Γ kt k e.1 = some (Nat.beq b e.2.2)) → b ∈ es.map (·.2.2) → (es.map (·.2.2)).Nodup →
    ∃ j v, findV Γ kt k es i = some (some (i + j, v)) ∧ dropAt es j = es.filter (fun e => !Nat.beq b e.2.2)
  | [], i, _, h, _ => by simp at h
  | (k', v, c) :: es, i, hk, hb, hn => by
    have h0 := hk _ List.mem_cons_self
    simp only [findV, h0]
    rw [List.map_cons, List.nodup_cons] at hn
    rcases hc : Nat.beq b c with _ | _
    · simp only []
      have hne := beqF hc
      obtain ⟨j, v', q1, q2⟩ := find_one (es := es) (i + 1) (fun e he => hk e (List.mem_cons_of_mem _ he)) (by
        rw [List.map_cons] at hb
        rcases List.mem_cons.1 hb with q | q
        · exact absurd q hne
        · exact q) hn.2
      refine ⟨j + 1, v', by rw [q1]; congr 3; omega, ?_⟩
      show (k', v, c) :: dropAt es j = _
      rw [q2]
      simp [List.filter_cons, hc]
    · simp only []
      have hbc := beqN hc
      refine ⟨0, v, rfl, ?_⟩
      show es = _
      simp only [List.filter_cons, hc]
      symm
      rw [show (if (!true) = true then _ else _) = _ from if_neg (by simp)]
      apply List.filter_eq_self.2
      intro e he
      have : e.2.2 ≠ b := fun q => hn.1 (by rw [← hbc, ← q]; exact List.mem_map.2 ⟨e, he, rfl⟩)
      cases hq : Nat.beq b e.2.2 with
      | false => rfl
      | true => exact absurd (beqN hq).symm this

section
variable {Γ : Cx} {σ : Nat → Int} {n : Nat} {D : List Deferred} {G : Nat} {W0 : World} {call : CallF} {ρ : Inj} {T : Tm} {a : Act}
theorem TR.put_junk {d : Tmp} {x : Value} (h : TR σ ρ n T a D) (hd : d < n) (hj : Tm.get T d = .junk) : TR σ ρ n T (a.put (some d) x) D := by
  refine ⟨by simp [Act.put, h.size], h.defers, fun t => ?_⟩
  show VR σ ρ _ ((a.tmps.setIfInBounds d x).getD t undef)
  rw [getD_put (by rw [h.size]; exact hd)]
  split
  · rename_i e; subst e; rw [hj]; simp only [VR]
  · exact h.get t
theorem TR.put_set {d : Tmp} {x : Value} {v : V} (h : TR σ ρ n T a D) (hd : d < n) (hv : VR σ ρ v x) : TR σ ρ n (Tr.set T d v) (a.put (some d) x) D := by
  refine ⟨by simp [Act.put, h.size], h.defers, fun t => ?_⟩
  show VR σ ρ _ ((a.tmps.setIfInBounds d x).getD t undef)
  rw [getD_put (by rw [h.size]; exact hd), tm_set]
  split
  · exact hv
  · exact h.get t
theorem TR.junked (h : TR σ ρ n T a D) (l : List Tmp) : TR σ ρ n (junkAll l T) a D := by
  refine ⟨h.size, h.defers, fun t => ?_⟩
  by_cases e : t ∈ l
  · rw [(junkAll_get l T t).1 e]; simp only [VR]
  · rw [(junkAll_get l T t).2 e]; exact h.get t
/-- back to what was known ahead of it -/
theorem TR.again {ρ' : Inj} {T0 : Tm} {a0 : Act} {l : List Tmp} (h0 : TR σ ρ n (junkAll l T0) a0 D) (hx : Ext ρ ρ') (h : TR σ ρ' n T a D) (hk : ∀ t, t ∉ l → Tm.get T t = Tm.get (junkAll l T0) t) : TR σ ρ n (junkAll l T0) a D := by
  refine ⟨h.size, h.defers, fun t => ?_⟩
  by_cases e : t ∈ l
  · rw [(junkAll_get l T0 t).1 e]; simp only [VR]
  · have := h.get t
    rw [hk t e] at this
    exact VR.back hx _ _ _ (h0.get t) this
theorem evOper_keep {ops : Array Oper} {o : Oper} {h h' : H} {T' : Tm} (he : evOper call Γ n ops o T h = some (T', h')) (t : Tmp) (ht : o.dst ≠ some t) : Tm.get T' t = Tm.get T t := by
  have hp : ∃ v, put n o.dst v T = some T' := by
    unfold evOper at he
    have key : ∀ {r : Option (V × H)}, putV n o.dst r T = some (T', h') → ∃ v, put n o.dst v T = some T' := by
      intro r e
      unfold putV at e
      split at e
      · split at e
        · rename_i q; cases e; exact ⟨_, q⟩
        · cases e
      · cases e
    split at he
    · exact key he
    · exact key he
    · cases he
  obtain ⟨v, hp⟩ := hp
  rcases put_eq hp with ⟨_, rfl⟩ | ⟨d, hd, _, rfl⟩
  · rfl
  · rw [tm_set, if_neg (fun e => ht (by rw [hd, e]))]
theorem evOps_keep {ops : Array Oper} : ∀ (l : List Oper) {T T' : Tm} {h h' : H}, evOps call Γ n ops l T h = some (T', h') → ∀ t, t ∉ dstsOf l → Tm.get T' t = Tm.get T t
  | [], T, T', h, h', he, t, _ => by
    have he : some (T, h) = some (T', h') := he
    cases he; rfl
  | o :: l, T, T', h, h', he, t, ht => by
    rw [evOps_cons] at he
    split at he
    · rename_i T1 h1 e1
      have k : o.dst ≠ some t ∧ t ∉ dstsOf l := by
        constructor
        · intro e; exact ht (by simp [dstsOf, e])
        · intro e; apply ht; simp only [dstsOf]; split
          · exact List.mem_cons_of_mem _ e
          · exact e
      rw [evOps_keep l he t k.2, evOper_keep e1 t k.1]
    · cases he
theorem mem_appL {α : Type} {x : α} {l m : List α} : x ∈ appL l m ↔ x ∈ l ∨ x ∈ m := by rw [appL_eq, List.mem_append]
theorem allLt_ok {k : Nat} : ∀ {l : List Nat}, allLt k l = true → ∀ t ∈ l, t < k
  | [], _, t, h => by cases h
  | b :: l, hs, t, h => by
    simp only [allLt] at hs
    split at hs
    · rename_i e
      cases h with
      | head => exact bleN e
      | tail _ hm => exact allLt_ok hs t hm
    · cases hs
theorem oper_value {P : Program} {o : Oper} {x : Value} {W W' : World} {next : Act → World → Prop} {Q : Exit → Act → World → Prop} (hr : (execOp a.eval o).run P W = .ok (.value x) W') (hn : next (a.put o.dst x) W') : o.wp P a W next Q := by
  unfold Oper.wp
  rw [hr]
  exact hn
theorem wpOps_value {P : Program} {ops : Array Oper} {i : Nat} {l : List Nat} {o : Oper} {x : Value} {W W' : World} {Q : Exit → Act → World → Prop} (ho : ops[i]? = some o) (hg : o.guard = none) (hr : (execOp a.eval o).run P W = .ok (.value x) W')
    (hn : wpOps P ops Q l (a.put o.dst x) W') : wpOps P ops Q (i :: l) a W := by
  rw [wpOps]
  simp only [ho]
  have hw : Region.wanted o (yielded ops a.tmps) = true := by unfold Region.wanted; rw [hg]
  rw [hw]
  simp only [if_true]
  exact .inl (oper_value hr hn)
theorem isNext_ok {l : List Oper} {it d0 d1 : Tmp} (h : isNext l = some (it, d0, d1)) : ∃ o1 o2, l = [o1, o2] ∧ o1.dst = some d0 ∧ o1.op = .next (.tmp it) false ∧ o1.guard = none ∧ o2.dst = some d1 ∧ o2.op = .extract (.tmp d0) 0 ∧ o2.guard = none := by
  unfold isNext at h
  split at h
  · rename_i o1 o2
    split at h
    · split at h
      · rename_i e
        cases h
        rw [beqN e]
        exact ⟨_, _, rfl, rfl, rfl, rfl, rfl, rfl, rfl⟩
      · cases h
    · cases h
  · cases h
theorem isEntry_ok {l : List Oper} {it e0 : Tmp} (h : isEntry it l = some e0) : ∃ o1 l', l = o1 :: l' ∧ o1.dst = some e0 ∧ o1.op = .entry (.tmp it) ∧ o1.guard = none := by
  unfold isEntry at h
  split at h
  · split at h
    · rename_i e
      cases h
      rw [← beqN e]
      exact ⟨_, _, rfl, rfl, rfl, rfl⟩
    · cases h
  · cases h
end

section
variable {Γ : Cx} {n : Nat} {call : CallF} {ops : Array Oper} {base : Nat} {T T' : Tm} {h h1 : H} {v : V}
theorem evPlan_cons' (x : Tk.Item) (rest : List Tk.Item) (snaps : List H) (T : Tm) (h : H) : evPlan call Γ n ops base (x :: rest) snaps T h = match wantedT ops x.o.guard T with
    | none => none
    | some false => match put n x.o.dst undefV T with
      | some T => evPlan call Γ n ops base rest (addSnap x.c snaps h) T h
      | none => none
    | some true => match evItem call Γ base x rest snaps T h with
      | none => none
      | some (v, h') => match put n x.o.dst v T with
        | none => none
        | some T' => evPlan call Γ n ops base rest (addSnap x.c snaps h) T' h' := rfl
theorem plan_quiet {x : Tk.Item} {rest : List Tk.Item} (hc : x.c = .quiet) (hg : x.o.guard = none) (hs : stepO call Γ x.o.op T h = some (v, h1)) (hp : put n x.o.dst v T = some T') :
    evPlan call Γ n ops base (x :: rest) [] T h = evPlan call Γ n ops base rest [] T' h := by
  rw [evPlan_cons']
  have hw : wantedT ops x.o.guard T = some true := by rw [hg]; rfl
  rw [hw]
  have hi : evItem call Γ base x rest [] T h = some (v, h) := by
    unfold evItem
    rw [hc]
    simp only [hs, dropL_eq, List.drop_nil, stays]
  simp only [hi, hp, hc, addSnap]
theorem plan_act {x : Tk.Item} (hc : x.c = .act) (hg : x.o.guard = none) (hs : stepO call Γ x.o.op T h = some (v, h1)) (hp : put n x.o.dst v T = some T') :
    evPlan call Γ n ops base [x] [] T h = some (T', h1) := by
  rw [evPlan_cons']
  have hw : wantedT ops x.o.guard T = some true := by rw [hg]; rfl
  rw [hw]
  have hi : evItem call Γ base x [] [] T h = some (v, h1) := by
    unfold evItem
    rw [hc]
    simp only [hs, freshIn]
  simp only [hi, hp]
  rfl
theorem readN_tr (h : H) (k r sz w : Nat) : ∀ n o, readN ⟨h.tr, k⟩ r sz w n o = readN h r sz w n o
  | 0, o => rfl
  | n + 1, o => by
    simp only [readN]
    rw [readN_tr h k r sz w n (o + sz)]
    rfl
theorem readX_tr (h : H) (k r o sz : Nat) (e : E) (n w : Nat) : readX ⟨h.tr, k⟩ r o sz e n w = readX h r o sz e n w := by
  unfold readX
  rw [readN_tr]
theorem loadP_tr (P : Program) (t : TypeId) (h : H) (k : Nat) (a : V) : loadP P t ⟨h.tr, k⟩ a = loadP P t h a := by
  unfold loadP
  rcases aggT P t with _ | _ | _ <;> rcases szT P t with _ | s <;> cases a <;> first | rfl | (simp only [readX_tr])
theorem deleteP_at {td : TypeId} {kt : KT} {q : TypeId} {r : Nat} {key v : V} {es : Ents} {clock i : Nat} (hm : mapT Γ.P td = some (kt, q)) (hk : keyOk kt key = true) (hg : Tr.get h.tr r = some (.map es clock)) (hf : findV Γ kt key es 0 = some (some (i, v))) :
    deleteP Γ td (.map r) key h = some (h.setOb r (.map (dropAt es i) clock)) := by
  unfold deleteP
  simp only [hm, hk, hg, hf]
theorem act_of {x : Tk.Item} (h : isAct x = true) : x.c = .act := by
  unfold isAct at h
  split at h
  · assumption
  · cases h
theorem quiet_cons {x : Tk.Item} {l : List Tk.Item} (h : allQuiet (x :: l) = true) : x.c = .quiet ∧ allQuiet l = true := by
  simp only [allQuiet] at h
  split at h
  · rename_i e; exact ⟨e, h⟩
  · cases h
theorem put_some {d : Tmp} (hd : d < n) (v : V) (T : Tm) : put n (some d) v T = some (Tr.set T d v) := by
  simp only [put]
  rw [Nat.ble_eq_true_of_le hd]
theorem take_ok {plan : List Tk.Item} {x0 : Operand} {st : TypeId} {fd : Nat} {tm tk td : TypeId} {a0 : Tmp} {v0 v1 v2 k : V} {m : Nat} (ht : isTake plan = some (x0, st, fd, tm, tk, a0, td)) (hn : ∀ t ∈ dstsOf (opsIt plan), t < n)
    (h0 : opd x0 T = some v0) (e1 : checked v0 = some v1) (e2 : fieldAtP Γ.P st fd v1 = some v2) (e3 : loadP Γ.P tm h v2 = some (.map m)) (e4 : loadP Γ.P tk h (Tm.get T a0) = some k)
    (e5 : deleteP Γ td (.map m) k h = some h1) :
    ∃ T', evPlan call Γ n ops base plan [] T h = some (T', h1) ∧ ∀ t, t ∉ dstsOf (opsIt plan) → Tm.get T' t = Tm.get T t := by
  unfold isTake at ht
  split at ht
  · rename_i i0 i1 i2 i3 i4 i5
    split at ht
    · rename_i q0 x0' ty0 po0 af0 q1 p0 ty1 po1 af1 q2 st' p1 fd' ty2 po2 af2 q3 tm' p2 ty3 po3 af3 q4 tk' a0' ty4 po4 af4 c ty5 po5 af5 o0 o1 o2 o3 o4 o5
      split at ht
      · rename_i p3 p4 td' tl hcal hargs htys
        split at ht
        · rename_i hb
          cases ht
          simp only [Bool.and_eq_true] at hb
          obtain ⟨⟨⟨b0, b5⟩, b1⟩, b2, b3, b4, b6, b7, b8, b9, b10⟩ := hb
          have c0 := (quiet_cons b0).1
          have c1 := (quiet_cons (quiet_cons b0).2).1
          have c2 := (quiet_cons (quiet_cons (quiet_cons b0).2).2).1
          have c3 := (quiet_cons (quiet_cons (quiet_cons (quiet_cons b0).2).2).2).1
          have c4 := (quiet_cons (quiet_cons (quiet_cons (quiet_cons (quiet_cons b0).2).2).2).2).1
          have c5 := act_of b5
          have b1 := beqN b1
          have b2 := beqN b2
          have b3 := beqN b3
          have b4 := beqN b4
          have b6 := beqN b6
          subst b1 b2 b3 b4 b6
          have ne : ∀ {x y : Nat}, notB (Nat.beq x y) = true → x ≠ y := fun {x y} q e => by subst e; simp [notB] at q
          have n34 := ne b7.1
          have na0 := ne b7.2
          have na1 := ne b8
          have na2 := ne b9
          have na3 := ne b10
          have hd : dstsOf (opsIt [i0, i1, i2, i3, i4, i5]) = [p0, p1, p2, p3, p4] := by simp [opsIt, dstsOf, o0, o1, o2, o3, o4, o5]
          rw [hd] at hn ⊢
          have l0 : p0 < n := hn _ (by simp)
          have l1 : p1 < n := hn _ (by simp)
          have l2 : p2 < n := hn _ (by simp)
          have l3 : p3 < n := hn _ (by simp)
          have l4 : p4 < n := hn _ (by simp)
          have g : ∀ (T : Tm) (d : Nat) (v : V), Tm.get (Tr.set T d v) d = v := fun T d v => by rw [tm_set, if_pos rfl]
          refine ⟨Tr.set (Tr.set (Tr.set (Tr.set (Tr.set T p0 v0) p1 v1) p2 v2) p3 (.map m)) p4 k, ?_, ?_⟩
          · rw [plan_quiet (v := v0) (h1 := h) c0 (by rw [o0]) (by rw [o0]; simp [stepO, step1, s0v, h0, keepH]) (by rw [o0]; exact put_some l0 _ _)]
            rw [plan_quiet (v := v1) (h1 := h) c1 (by rw [o1]) (by rw [o1]; simp [stepO, step1, s0v, opd, g, e1, keepH]) (by rw [o1]; exact put_some l1 _ _)]
            rw [plan_quiet (v := v2) (h1 := h) c2 (by rw [o2]) (by rw [o2]; simp [stepO, step1, s0v, opd, g, e2, keepH]) (by rw [o2]; exact put_some l2 _ _)]
            rw [plan_quiet (v := .map m) (h1 := h) c3 (by rw [o3]) (by rw [o3]; simp [stepO, step1, s0v, opd, g, e3, keepH]) (by rw [o3]; exact put_some l3 _ _)]
            rw [plan_quiet (v := k) (h1 := h) c4 (by rw [o4]) (by
              rw [o4]
              have : Tm.get (Tr.set (Tr.set (Tr.set (Tr.set T p0 v0) p1 v1) p2 v2) p3 (.map m)) a0 = Tm.get T a0 := by
                rw [tm_set, if_neg (fun e => na3 e.symm), tm_set, if_neg (fun e => na2 e.symm), tm_set, if_neg (fun e => na1 e.symm), tm_set, if_neg (fun e => na0 e.symm)]
              simp [stepO, step1, s0v, opd, this, e4, keepH]) (by rw [o4]; exact put_some l4 _ _)]
            refine plan_act (v := .tuple []) (h1 := h1) c5 (by rw [o5]) ?_ (by rw [o5]; rfl)
            rw [o5]
            have q3 : Tm.get (Tr.set (Tr.set (Tr.set (Tr.set (Tr.set T p0 v0) p1 v1) p2 v2) p3 (.map m)) p4 k) p3 = .map m := by
              rw [tm_set, if_neg (fun e => n34 e.symm), g]
            simp [stepO, stepC, hcal, hargs, htys, sBuiltin, s2, opd, q3, g, e5]
          · intro t ht
            simp only [List.mem_cons, List.not_mem_nil, or_false, not_or] at ht
            obtain ⟨t0, t1, t2, t3, t4⟩ := ht
            rw [tm_set, if_neg (fun e => t4 e.symm), tm_set, if_neg (fun e => t3 e.symm), tm_set, if_neg (fun e => t2 e.symm), tm_set, if_neg (fun e => t1 e.symm), tm_set, if_neg (fun e => t0 e.symm)]
        · cases ht
      · cases ht
    · cases ht
  · cases ht
end

/-- the loop is under way -/
structure LoopInv (σ : Nat → Int) (W0 : World) (ρ : Inj) (h : H) (W : World) (n : Nat) (D : List Deferred) (T0 : Tm) (m rI : Nat) (M L : Loc) (es : Ents) (del : V × V × Nat → Bool) (since clock : Nat) (sj : List Nat) (a : Act) (W' : World) : Prop where
  tr : TR σ ρ n T0 a D
  below : Below W0.heap.size W0 W'
  size : W.heap.size ≤ W'.heap.size
  obs : ∀ r o l, h.tr.get r = some o → ρ r = some l → r ≠ m → r ≠ rI → ObR σ ρ W' l o
  map : ObR σ ρ W' M (.map (es.filter fun e => !(sj.contains e.2.2 && del e)) clock)
  it : ∃ last, W'.heap[L.blk]? = some (.mapIter (some M.blk) since sj.toArray last) ∧ since ≤ last
  frame : ∀ b, b < W.heap.size → ¬ Known ρ h b → W'.heap[b]? = W.heap[b]?
section
variable {Γ : Cx} {σ : Nat → Int} {n : Nat} {D : List Deferred} {G : Nat} {W0 : World} {call : CallF}
theorem small_rel {ρ : Inj} {h : H} {W W1 : World} {hs : Tr Ob} {m rI : Nat} (R : Rel σ W0 ρ h W) (below : Below W0.heap.size W0 W1) (size : W.heap.size ≤ W1.heap.size)
    (obs : ∀ r o l, h.tr.get r = some o → ρ r = some l → r ≠ m → r ≠ rI → ObR σ ρ W1 l o) (hin : ∀ r o, hs.get r = some o → h.tr.get r = some o ∧ r ≠ m ∧ r ≠ rI) : Rel σ W0 ρ ⟨hs, h.next⟩ W1 :=
  ⟨below, R.dom, fun r l hl => Nat.lt_of_lt_of_le (R.blk r l hl) size, fun r o l hg hl => by
    obtain ⟨q1, q2, q3⟩ := hin r o hg
    exact ⟨obs r o l q1 hl q2 q3, (R.obs r o l q1 hl).2⟩, fun r r' o o' l l' hg hg' hne hl hl' => R.apart r r' o o' l l' (hin r o hg).1 (hin r' o' hg').1 hne hl hl'⟩
/-- one more block that nothing else touches -/
theorem Rel.more {ρ : Inj} {h : H} {W : World} (R : Rel σ W0 ρ h W) {m : Nat} {M : Loc} {o : Ob} (hM : ρ m = some M) (hO : ObR σ ρ W M o) (hf : o.free = true) (hW : W0.heap.size ≤ M.blk)
    (hap : ∀ r o' l, h.tr.get r = some o' → ρ r = some l → r ≠ m → l.blk ≠ M.blk) : Rel σ W0 ρ ⟨Tr.set h.tr m o, h.next⟩ W := by
  refine ⟨R.below, R.dom, R.blk, fun r o' l hg hl => ?_, fun r r' o1 o2 l l' hg hg' hne hl hl' => ?_⟩
  · have hg2 : (Tr.set h.tr m o).get r = some o' := hg
    clear hg
    rw [Tr.get_set] at hg2
    split at hg2
    · rename_i e; subst e; cases hg2; rw [hM] at hl; cases hl; exact ⟨hO, Place.mk hf hW⟩
    · exact R.obs r o' l hg2 hl
  · have hg : (Tr.set h.tr m o).get r = some o1 := hg
    have hg' : (Tr.set h.tr m o).get r' = some o2 := hg'
    rw [Tr.get_set] at hg hg'
    split at hg
    · rename_i e
      subst e
      rw [if_neg hne] at hg'
      rw [hM] at hl; cases hl
      exact .inl (fun e => hap r' o2 l' hg' hl' (fun e => hne e.symm) e.symm)
    · rename_i e
      split at hg'
      · rename_i e'
        subst e'
        rw [hM] at hl'; cases hl'
        exact .inl (hap r o1 l hg hl (fun k => e k.symm))
      · exact R.apart r r' o1 o2 l l' hg hg' hne hl hl'
theorem setBlock_get {W : World} {b k : Nat} {o : Obj} (hb : b < W.heap.size) : (ChangeMaps.setBlock W b o).heap[k]? = if b = k then some o else W.heap[k]? := by
  unfold ChangeMaps.setBlock
  show (W.heap.setIfInBounds b o)[k]? = _
  by_cases e : b = k
  · subst e; simp [hb]
  · simp [e, Array.getElem?_setIfInBounds_ne e]
noncomputable def ML.names (p : ML) (T : Tm) (rI m : Nat) : List Nat := dropN rI m (namesAt (junkAll p.dsts T) (appL (readsOf p.ops2.toList) (appL (readsOf p.ops3.toList) (readsOf (opsIt p.plan)))))
theorem evMap_inv {p : ML} {T : Tm} {h : H} {x : Ex} {T' : Tm} {h' : H} (he : evMap call Γ n p T h = some (x, T', h')) :
    ∃ rI m since last es clock kt q es', Tm.get T p.it = .ptr rI 0 ∧ Tr.get h.tr rI = some (.mapIter (some m) since [] last) ∧ Tr.get h.tr m = some (.map es clock) ∧ mapT Γ.P p.td = some (kt, q) ∧
      allL (fun e : V × V × Nat => Nat.ble (e.2.2 + 1) since) es = true ∧ since ≤ last ∧ since ≤ clock ∧ bornOnce es = true ∧ allLt n p.dsts = true ∧ p.it ∉ p.dsts ∧ rI ≠ m ∧ sameAt (pickTr h.tr (p.names T rI m)) (pickTr h.tr (p.names T rI m)) (p.names T rI m) = true ∧
      roundsM (roundM call Γ n p (p.names T rI m) (pickTr h.tr (p.names T rI m)) h.next m kt es (junkAll p.dsts T)) es = some es' ∧
      x = .normal ∧ T' = junkAll p.dsts T ∧ h' = { tr := Tr.del (Tr.set h.tr m (.map es' clock)) rI, next := h.next } := by
  unfold evMap at he
  split at he
  · rename_i rI hit
    split at he
    · rename_i m since last hgI
      split at he
      · rename_i es clock kt q hgm hmt
        simp only [] at he
        split at he
        · cases he
        · rename_i hc
          simp only [Bool.and_eq_true] at hc
          obtain ⟨c1, c2, c3, c4, c5, c6, c7, c8⟩ := hc
          split at he
          · rename_i es' hr
            cases he
            refine ⟨rI, m, since, last, es, clock, kt, q, es', hit, hgI, hgm, hmt, c1, bleN c2, bleN c3, c4, c5, ?_, ?_, c8, hr, rfl, rfl, rfl⟩
            · intro k
              rw [memN_ok.2 k] at c6
              cases c6
            · intro k
              subst k
              simp [notB] at c7
          · cases he
      · cases he
    · cases he
  · cases he
theorem loadP_map (P : Program) (t : TypeId) (tr : Tr Ob) (m : Nat) (es es2 : Ents) (c c2 k k2 : Nat) (v : V) : loadP P t ⟨Tr.set tr m (.map es c), k⟩ v = loadP P t ⟨Tr.set tr m (.map es2 c2), k2⟩ v := by
  have key : ∀ (r o s : Nat), H.read ⟨Tr.set tr m (.map es c), k⟩ r o s = H.read ⟨Tr.set tr m (.map es2 c2), k2⟩ r o s := by
    intro r o s
    unfold H.read
    simp only [Tr.get_set]
    by_cases e : m = r
    · simp only [e, if_true]
    · simp only [e, if_false]
  have keyN : ∀ (r s w n o : Nat), readN ⟨Tr.set tr m (.map es c), k⟩ r s w n o = readN ⟨Tr.set tr m (.map es2 c2), k2⟩ r s w n o := by
    intro r s w n
    induction n with
    | zero => intro o; rfl
    | succ n ih => intro o; simp only [readN, key, ih]
  have keyX : ∀ (r o s : Nat) (e : E) (n w : Nat), readX ⟨Tr.set tr m (.map es c), k⟩ r o s e n w = readX ⟨Tr.set tr m (.map es2 c2), k2⟩ r o s e n w := by
    intro r o s e n w
    unfold readX
    rw [keyN]
  unfold loadP
  rcases aggT P t with _ | _ | _ <;> rcases szT P t with _ | s <;> cases v <;> first | rfl | (simp only [key]; done) | (simp only [keyX]; done) | (simp only [keyX]; rfl)
theorem fresh_quiet {base : Nat} {tr : Tr Ob} {x : Tk.Item} (hx : isAct x = true) : ∀ (l : List Tk.Item), allQuiet l = true → freshIn base tr (l ++ [x]) = true
  | [], _ => by show (match x.c with | .make => _ | _ => true) = true; rw [act_of hx]
  | y :: l, h => by
    obtain ⟨h1, h2⟩ := quiet_cons h
    show (match y.c with | .make => _ | _ => freshIn base tr (l ++ [x])) = true
    rw [h1]
    exact fresh_quiet hx l h2
theorem fresh_take {base : Nat} {tr : Tr Ob} {plan : List Tk.Item} {q} (h : isTake plan = some q) : freshIn base tr plan = true := by
  unfold isTake at h
  split at h
  · rename_i i0 i1 i2 i3 i4 i5
    split at h
    · split at h
      · split at h
        · rename_i hb
          simp only [Bool.and_eq_true] at hb
          exact fresh_quiet hb.1.1.2 [i0, i1, i2, i3, i4] hb.1.1.1
        · cases h
      · cases h
    · cases h
  · cases h
theorem born_one {es : Ents} (hn : (es.map (·.2.2)).Nodup) : ∀ {e f : V × V × Nat}, e ∈ es → f ∈ es → e.2.2 = f.2.2 → e = f := by
  induction es with
  | nil => intro e f he; cases he
  | cons x es ih =>
    rw [List.map_cons, List.nodup_cons] at hn
    intro e f he hf h
    cases he with
    | head => cases hf with
      | head => rfl
      | tail _ hf => exact absurd (List.mem_map.2 ⟨f, hf, h.symm⟩) hn.1
    | tail _ he => cases hf with
      | head => exact absurd (List.mem_map.2 ⟨e, he, h⟩) hn.1
      | tail _ hf => exact ih hn.2 he hf h
theorem has_snoc (l : List Nat) (b c : Nat) : (l ++ [b]).contains c = (l.contains c || Nat.beq b c) := by
  rw [Bool.eq_iff_iff]
  simp only [List.contains_iff_mem, List.mem_append, List.mem_singleton, Bool.or_eq_true]
  constructor
  · rintro (h | rfl)
    · exact .inl h
    · exact .inr (Nat.beq_refl _)
  · rintro (h | h)
    · exact .inl h
    · exact .inr (beqN h).symm
theorem map_ok (Gd : GoodCx σ Γ) (hm : Γ.P.follows .mixedOrders = true) (hcall : ∀ f, CallOk Γ.P G σ W0 f (call f)) (hdraw : DrawnSound Γ G σ W0 call) {id : Nat} {b : Code} {p : ML} (hp : mapLoop? id b = some p) (hok : codeOk G b = true)
    {T : Tm} {h : H} {x : Ex} {T' : Tm} {h' : H} {ρ : Inj} {a : Act} {W : World} {Q : Exit → Act → World → Prop} (he : evMap call Γ n p T h = some (x, T', h')) (ht : TR σ ρ n T a D) (R : Rel σ W0 ρ h W) (g : Glob G ρ)
    (hQ : ∀ a' W' ρ', TR σ ρ' n T' a' D → Stp σ W0 ρ h W ρ' h' W' → Q x.exit' a' W') : (Code.block id b).wp Γ.P Q a W := by
  obtain ⟨rI, m, since, last, es, clock, kt, q, es', hit, hgI, hgm, hmt, hborn, hsl, hsc, honce, hdn, hitd, hrm, hsame, hrs, rfl, rfl, rfl⟩ := evMap_inv he
  clear he
  -- the text
  unfold mapLoop? at hp
  split at hp
  case h_2 => cases hp
  rename_i _ r1 ops1 t1 id' b1 r2 ops2 r3 ops3 c r4 ops4
  split at hp
  case h_2 => cases hp
  rename_i it d0 d1 hnx
  split at hp
  case h_2 => cases hp
  rename_i e0 plan hb12 hen hpl
  split at hp
  case h_2 => cases hp
  rename_i x0 st fd tm tk a0 td htk
  cases hp
  simp only [Bool.and_eq_true] at hb12
  have hb1 := beqN hb12.1
  have hb2 := beqN hb12.2
  subst hb1 hb2
  generalize hpe : (ML.mk it d0 t1 ops1 e0 ops2 ops3 c ops4 plan x0 st fd tm tk a0 td) = p at *
  have pit : p.it = it := by rw [← hpe]
  obtain ⟨o1, o2, hl1, ho1d, ho1o, ho1g, ho2d, ho2o, ho2g⟩ := isNext_ok hnx
  obtain ⟨o3, l2, hl2, ho3d, ho3o, ho3g⟩ := isEntry_ok hen
  have hdsts : p.dsts = appL (dstsOf ops1.toList) (appL (dstsOf ops2.toList) (appL (dstsOf ops3.toList) (dstsOf (opsIt plan)))) := by rw [← hpe]; rfl
  have md0 : d0 ∈ p.dsts := by rw [hdsts, mem_appL, hl1]; left; simp [dstsOf, ho1d]
  have md1 : t1 ∈ p.dsts := by rw [hdsts, mem_appL, hl1]; left; simp [dstsOf, ho1d, ho2d]
  have me0 : e0 ∈ p.dsts := by rw [hdsts, mem_appL, mem_appL, hl2]; right; left; simp [dstsOf, ho3d]
  have m2 : ∀ t ∈ dstsOf ops2.toList, t ∈ p.dsts := fun t k => by rw [hdsts, mem_appL, mem_appL]; exact .inr (.inl k)
  have m3 : ∀ t ∈ dstsOf ops3.toList, t ∈ p.dsts := fun t k => by rw [hdsts, mem_appL, mem_appL, mem_appL]; exact .inr (.inr (.inl k))
  have m4 : ∀ t ∈ dstsOf (opsIt plan), t ∈ p.dsts := fun t k => by rw [hdsts, mem_appL, mem_appL, mem_appL]; exact .inr (.inr (.inr k))
  have hlt := allLt_ok hdn
  have hT0 : TR σ ρ n (junkAll p.dsts T) a D := ht.junked _
  have hTd : ∀ t, t ∈ p.dsts → Tm.get (junkAll p.dsts T) t = .junk := fun t k => (junkAll_get p.dsts T t).1 k
  have hTit : Tm.get (junkAll p.dsts T) it = .ptr rI 0 := by rw [(junkAll_get p.dsts T it).2 (pit ▸ hitd), ← pit]; exact hit
  -- where it lies
  have hVit := ht.get it
  rw [← pit, hit] at hVit
  simp only [VR] at hVit
  obtain ⟨L, hL, _⟩ := hVit
  obtain ⟨hOI, hfI⟩ := R.obs rI _ L hgI hL
  obtain ⟨hI1, hI2, hI3⟩ := hOI
  obtain ⟨M, hM⟩ := hI2 m rfl
  simp only [Option.bind_some, hM, Option.map_some] at hI1
  obtain ⟨hOM, hfM⟩ := R.obs m _ M hgm hM
  have apI : ∀ r o l, h.tr.get r = some o → ρ r = some l → r ≠ rI → l.blk ≠ L.blk := fun r o l hg hl hne => by
    rcases R.apart r rI o _ l L hg hgI hne hl hL with k | ⟨_, k, _⟩
    · exact k
    · cases k
  have apM : ∀ r o l, h.tr.get r = some o → ρ r = some l → r ≠ m → l.blk ≠ M.blk := fun r o l hg hl hne => by
    rcases R.apart r m o _ l M hg hgm hne hl hM with k | ⟨_, k, _⟩
    · exact k
    · cases k
  have hLM : L.blk ≠ M.blk := apM rI _ L hgI hL hrm
  generalize hnm : p.names T rI m = names at hsame hrs
  generalize hhs : pickTr h.tr names = hs at hsame hrs
  have hsin : ∀ r o, hs.get r = some o → h.tr.get r = some o ∧ r ≠ m ∧ r ≠ rI := fun r o k => by
    rw [← hhs] at k
    obtain ⟨k1, k2⟩ := pickTr_get k
    rw [← hnm] at k1
    have := dropN_mem k1
    exact ⟨k2, this.2, this.1⟩
  have hsnm : ∀ r o, hs.get r = some o → r ∈ names := fun r o k => by
    rw [← hhs] at k
    exact (pickTr_get k).1
  have hsfree : ∀ r o, hs.get r = some o → o.free = true := fun r o k => by
    obtain ⟨s, cs, q1, _⟩ := sameAt_ok hsame (hsnm r o k)
    rw [k] at q1
    cases q1
    rfl
  have away : ∀ r o l, h.tr.get r = some o → ρ r = some l → hs.get r = none → ¬ Known ρ ⟨hs, h.next⟩ l.blk := by
    rintro r o l hg hl hn ⟨r2, o2, l2, g2, k2, e⟩
    have g2 : hs.get r2 = some o2 := g2
    have hne : r ≠ r2 := fun e => by subst e; rw [hn] at g2; cases g2
    rcases R.apart r r2 o o2 l l2 hg (hsin r2 o2 g2).1 hne hl k2 with k | ⟨_, k, _⟩
    · exact k e.symm
    · rw [hsfree r2 o2 g2] at k; cases k
  have awayM : ¬ Known ρ ⟨hs, h.next⟩ M.blk := away m _ M hgm hM (by
    cases e : hs.get m with
    | none => rfl
    | some o => exact absurd rfl (hsin m o e).2.1)
  have awayL : ¬ Known ρ ⟨hs, h.next⟩ L.blk := away rI _ L hgI hL (by
    cases e : hs.get rI with
    | none => rfl
    | some o => exact absurd rfl (hsin rI o e).2.2)
  obtain ⟨hes, hrd⟩ := roundsM_ok hrs
  let del : V × V × Nat → Bool := fun e => match roundM call Γ n p names hs h.next m kt es (junkAll p.dsts T) e with
    | some true => true
    | _ => false
  have hes : es' = es.filter fun e => !del e := by
    rw [hes]
    congr 1
    funext e
    show _ = !(match roundM call Γ n p names hs h.next m kt es (junkAll p.dsts T) e with | some true => true | _ => false)
    split <;> simp_all
  have hbornl : ∀ e ∈ es, e.2.2 < since := fun e k => by
    rw [allL_eq, List.all_eq_true] at hborn
    exact bleN (hborn e k)
  have hnd := bornOnce_ok honce
  have inv0 : LoopInv σ W0 ρ h W n D (junkAll p.dsts T) m rI M L es del since clock [] a W := by
    refine ⟨hT0, R.below, Nat.le_refl _, fun r o l hg hl _ _ => (R.obs r o l hg hl).1, ?_, ⟨last, hI1, hsl⟩, fun _ _ _ => rfl⟩
    have : (es.filter fun e => !(([] : List Nat).contains e.2.2 && del e)) = es := by simp
    rw [this]
    exact hOM
  -- the text that is allowed
  have hok1 : codeOk G (Code.seq (.region r1 ops1 false) (.seq (.cond (.tmp t1) .skip (.exit id')) (.block b1 (.seq (.region r2 ops2 false) (.seq (.region r3 ops3 false) (.cond (.tmp c) (.region r4 ops4 true) .skip)))))) = true := hok
  simp only [codeOk, opdIn, Bool.and_eq_true, Bool.true_and, Bool.and_true] at hok1
  refine wp_block ?_
  refine wp_loop_rounds (es.length + 1) ?_
  have key : ∀ (Qb : Exit → Act → World → Prop), (∀ a' W', TR σ ρ n (junkAll p.dsts T) a' D → Stp σ W0 ρ h W ρ { tr := (h.tr.set m (Ob.map es' clock)).del rI, next := h.next } W' → Qb (.exit id') a' W') →
      ∀ (N : Nat) (sj : List Nat) (a' : Act) (W' : World), (es.filter fun e => !sj.contains e.2.2).length < N → LoopInv σ W0 ρ h W n D (junkAll p.dsts T) m rI M L es del since clock sj a' W' →
      Code.rounds Γ.P (Code.seq (.region r1 ops1 false) (.seq (.cond (.tmp t1) .skip (.exit id')) (.block b1 (.seq (.region r2 ops2 false) (.seq (.region r3 ops3 false) (.cond (.tmp c) (.region r4 ops4 true) .skip))))))
        Qb N a' W' := by
    intro Qb hQb N
    induction N with
    | zero => intro sj a' W' hN; omega
    | succ N ih =>
      intro sj a' W' hN inv
      rw [rounds_succ]
      refine wp_seq ?_
      refine wp_region ?_
      have hsz1 : ops1.size = 2 := by rw [← Array.length_toList, hl1]; rfl
      have hg1 : ops1[0]? = some o1 := by rw [← Array.getElem?_toList, hl1]; rfl
      have hg2 : ops1[1]? = some o2 := by rw [← Array.getElem?_toList, hl1]; rfl
      rw [show List.range ops1.size = [0, 1] by rw [hsz1]; rfl]
      obtain ⟨lst, hIt, hls⟩ := inv.it
      obtain ⟨es0, hMw, hMe⟩ := inv.map
      have hold : ∀ x ∈ es0.toList, x.born < since := fun x hx => by
        obtain ⟨e, he, hb, _⟩ := hMe.mem hx
        rw [← hb]
        exact hbornl e (List.mem_filter.1 he).1
      have hitv : a'.tmps.getD it undef = .pointer (some ⟨L.blk, 0, none⟩) := by
        have k := inv.tr.get it
        rw [hTit] at k
        simp only [VR] at k
        obtain ⟨l, hl, k⟩ := k
        rw [hL] at hl; cases hl
        rw [k, hI3]
      have hdn1 := hlt d0 md0
      have hdn2 := hlt t1 md1
      have hdn3 := hlt e0 me0
      rcases run_next_at (P := Γ.P) W' o1.type L.blk M.blk since lst sj.toArray es0 clock hIt hMw hold hls with ⟨hnone, hr1⟩ | ⟨e', he', w1, hw1, hr1⟩
      · -- nothing is left
        refine wpOps_value (x := .tuple #[.bool false]) (W' := W') hg1 ho1g (by simp [execOp, ho1o, Act.eval, hitv, hr1]) ?_
        have hd1 : (a'.put o1.dst (.tuple #[.bool false])).tmps.getD d0 undef = .tuple #[.bool false] := by
          rw [ho1d]
          show (a'.tmps.setIfInBounds d0 _).getD d0 undef = _
          rw [getD_put (by rw [inv.tr.size]; exact hdn1), if_pos rfl]
        refine wpOps_value (x := .bool false) (W' := W') hg2 ho2g (by simp [execOp, ho2o, Act.eval, hd1, Instr.extract]) ?_
        refine wp_seq ?_
        refine wp_cond_false ?_ ?_
        · rw [ho2d]
          show ((a'.put o1.dst (.tuple #[.bool false])).tmps.setIfInBounds t1 _).getD t1 undef = _
          rw [getD_put (by rw [ho1d]; simp [Act.put, inv.tr.size]; exact hdn2), if_pos rfl]
        · refine wp_exit ?_
          show Qb (.exit id') _ _
          refine hQb _ _ ?_ ?_
          · rw [ho1d, ho2d]
            exact (inv.tr.put_junk hdn1 (hTd d0 md0)).put_junk hdn2 (hTd t1 md1)
          · -- what is there at the end
            have hall : ∀ e ∈ es, (!(sj.contains e.2.2 && del e)) = (!del e) := by
              intro e k
              by_cases hc : sj.contains e.2.2 = true
              · rw [hc, Bool.true_and]
              · -- it would be left
                by_cases hd : del e = true
                · exfalso
                  have hin : e ∈ es.filter fun e => !(sj.contains e.2.2 && del e) := List.mem_filter.2 ⟨k, by rw [Bool.not_eq_true] at hc; rw [hc]; rfl⟩
                  have hb : e.2.2 ∈ es0.toList.map (·.born) := by rw [hMe.borns]; exact List.mem_map.2 ⟨e, hin, rfl⟩
                  obtain ⟨y, hy1, hy2⟩ := List.mem_map.1 hb
                  have : y ∈ (Go.leftOf es0 sj.toArray).toList := by
                    unfold Go.leftOf
                    simp only [Array.toList_filter, List.mem_filter]
                    refine ⟨hy1, ?_⟩
                    rw [hy2]
                    simpa using hc
                  have h0 : (Go.leftOf es0 sj.toArray).toList.length = 0 := by rw [Array.length_toList]; exact hnone
                  rw [List.length_eq_zero_iff.1 h0] at this
                  cases this
                · simp [hd]
            have hfin : (es.filter fun e => !(sj.contains e.2.2 && del e)) = es' := by
              rw [hes]
              exact List.filter_congr hall
            have inv := inv
            refine ⟨Ext.refl _, ⟨inv.below, R.dom, fun r l hl => Nat.lt_of_lt_of_le (R.blk r l hl) inv.size, fun r o l hg hl => ?_, fun r r' o o' l l' hg hg' hne hl hl' => ?_⟩, ?_, fun b hb hk => inv.frame b hb hk, inv.size, Nat.le_refl _, fun _ _ => rfl⟩
            · have hg2 : (Tr.del (Tr.set h.tr m (.map es' clock)) rI).get r = some o := hg
              clear hg
              rw [Tr.get_del] at hg2
              split at hg2
              · cases hg2
              · rename_i nI
                rw [Tr.get_set] at hg2
                split at hg2
                · rename_i e
                  subst e
                  cases hg2
                  rw [hM] at hl; cases hl
                  exact ⟨by rw [← hfin]; exact inv.map, Place.mk rfl (hfM.1 rfl)⟩
                · rename_i nm
                  exact ⟨inv.obs r o l hg2 hl (fun e => nm e.symm) (fun e => nI e.symm), (R.obs r o l hg2 hl).2⟩
            · have back : ∀ (r : Nat) (o : Ob), (Tr.del (Tr.set h.tr m (.map es' clock)) rI).get r = some o → ∃ o', h.tr.get r = some o' ∧ o'.free = o.free ∧ o'.rows = o.rows ∧ o'.arg = o.arg := by
                intro r o hg
                rw [Tr.get_del] at hg
                split at hg
                · cases hg
                · rw [Tr.get_set] at hg
                  split at hg
                  · rename_i e
                    subst e
                    cases hg
                    exact ⟨_, hgm, rfl, rfl, rfl⟩
                  · exact ⟨o, hg, rfl, rfl, rfl⟩
              obtain ⟨p1, k1, k2, k3, k4⟩ := back r o hg
              obtain ⟨p2, j1, j2, j3, j4⟩ := back r' o' hg'
              have := R.apart r r' p1 p2 l l' k1 j1 hne hl hl'
              unfold Apart at this ⊢
              rw [k2, k3, j2, j3, k4, j4] at this
              exact this
            · rintro b ⟨r, o, l, hg, hl, rfl⟩
              right
              have hg2 : (Tr.del (Tr.set h.tr m (.map es' clock)) rI).get r = some o := hg
              clear hg
              rw [Tr.get_del] at hg2
              split at hg2
              · cases hg2
              · rw [Tr.get_set] at hg2
                split at hg2
                · rename_i e; subst e; exact ⟨_, _, l, hgm, hl, rfl⟩
                · exact ⟨r, o, l, hg2, hl, rfl⟩
      · -- an entry has come
        have hheap : w1.heap = W'.heap := by rcases hw1 with rfl | rfl <;> rfl
        have hbel1 : Below W0.heap.size W0 w1 := by
          rcases hw1 with rfl | rfl
          · exact inv.below
          · exact inv.below.drew
        generalize hW1 : ChangeMaps.setBlock w1 L.blk (.mapIter (some M.blk) since (sj.toArray.push e'.born) clock) = W1 at hr1
        have hLsz : L.blk < W'.heap.size := Nat.lt_of_lt_of_le (R.blk rI L hL) inv.size
        have hW1get : ∀ k, W1.heap[k]? = if L.blk = k then some (.mapIter (some M.blk) since (sj.toArray.push e'.born) clock) else W'.heap[k]? := by
          intro k
          rw [← hW1, setBlock_get (by rw [hheap]; exact hLsz), hheap]
        have hW1size : W1.heap.size = W'.heap.size := by rw [← hW1]; simp [ChangeMaps.setBlock, hheap]
        have hbelow1 : Below W0.heap.size W0 W1 := by
          refine ⟨by rw [← hW1]; exact hbel1.os, by rw [← hW1]; exact hbel1.tape, by rw [← hW1]; exact hbel1.output, by rw [hW1size]; exact inv.below.size, fun k hk => ?_⟩
          rw [hW1get, if_neg (by have := hfI.1 rfl; omega)]
          exact inv.below.block k hk
        have hsize1 : W.heap.size ≤ W1.heap.size := by rw [hW1size]; exact inv.size
        have hobs1 : ∀ r o l, h.tr.get r = some o → ρ r = some l → r ≠ m → r ≠ rI → ObR σ ρ W1 l o := fun r o l hg hl h1 h2 =>
          ObR.mono (Ext.refl _) (by rw [hW1get, if_neg (fun e => apI r o l hg hl h2 e.symm)]) (inv.obs r o l hg hl h1 h2)
        have hMw1 : W1.heap[M.blk]? = some (.map es0 clock) := by rw [hW1get, if_neg hLM]; exact hMw
        have hIt1 : W1.heap[L.blk]? = some (.mapIter (some M.blk) since (sj.toArray.push e'.born) clock) := by rw [hW1get, if_pos rfl]
        -- the entry
        have hein : e' ∈ es0.toList ∧ e'.born ∉ sj := by
          unfold Go.leftOf at he'
          simp only [Array.toList_filter, List.mem_filter] at he'
          exact ⟨he'.1, by simpa using he'.2⟩
        obtain ⟨e, hee, hebn, hek, hev⟩ := hMe.mem hein.1
        have hees : e ∈ es := (List.mem_filter.1 hee).1
        have hnd0 : (es0.toList.map (·.born)).Nodup := by
          rw [hMe.borns]
          exact List.Nodup.sublist (List.Sublist.map _ List.filter_sublist) hnd
        -- next
        refine wpOps_value (x := .tuple #[.bool true, e'.key, e'.val]) (W' := W1) hg1 ho1g (by simp [execOp, ho1o, Act.eval, hitv, hr1]) ?_
        have hd1 : (a'.put o1.dst (.tuple #[.bool true, e'.key, e'.val])).tmps.getD d0 undef = .tuple #[.bool true, e'.key, e'.val] := by
          rw [ho1d]
          show (a'.tmps.setIfInBounds d0 _).getD d0 undef = _
          rw [getD_put (by rw [inv.tr.size]; exact hdn1), if_pos rfl]
        refine wpOps_value (x := .bool true) (W' := W1) hg2 ho2g (by simp [execOp, ho2o, Act.eval, hd1, Instr.extract]) ?_
        have htr2 : TR σ ρ n (Tr.set (Tr.set (junkAll p.dsts T) d0 (.tuple [.bool true, e.1, e.2.1])) t1 (.bool true)) ((a'.put o1.dst (.tuple #[.bool true, e'.key, e'.val])).put o2.dst (.bool true)) D := by
          rw [ho1d, ho2d]
          refine (inv.tr.put_set hdn1 ?_).put_set hdn2 (by simp [VR])
          simp only [VR]
          exact ⟨_, rfl, VRs.cons (by simp [VR]) (VRs.cons hek (VRs.cons hev VRs.nil))⟩
        generalize (a'.put o1.dst (.tuple #[.bool true, e'.key, e'.val])).put o2.dst (.bool true) = a2 at htr2
        have hc2 : a2.eval (.tmp t1) = .bool true := by
          have k := htr2.get t1
          rw [tm_set, if_pos rfl] at k
          simp only [VR] at k
          exact k
        refine wp_seq ?_
        refine wp_cond_true hc2 ?_
        refine wp_skip ?_
        refine wp_block ?_
        -- what has come
        refine wp_seq ?_
        refine wp_region ?_
        have hg3 : ops2[0]? = some o3 := by rw [← Array.getElem?_toList, hl2]; rfl
        have hrange : List.range ops2.size = 0 :: List.range' 1 l2.length := by
          rw [← Array.length_toList, hl2, List.length_cons, List.range_eq_range', List.range'_succ]
        rw [hrange]
        have hitv2 : a2.tmps.getD it undef = .pointer (some ⟨L.blk, 0, none⟩) := by
          have k := htr2.get it
          have n1 : t1 ≠ it := fun e => hitd (by rw [pit, ← e]; exact md1)
          have n0 : d0 ≠ it := fun e => hitd (by rw [pit, ← e]; exact md0)
          rw [tm_set, if_neg n1, tm_set, if_neg n0, hTit] at k
          simp only [VR] at k
          obtain ⟨l, hl, k⟩ := k
          rw [hL] at hl; cases hl
          rw [k, hI3]
        have hr3 := run_entry_at (P := Γ.P) W1 L.blk M.blk since sj.toArray es0 clock e' hIt1 hMw1 hein.1 hnd0
        refine wpOps_value (x := .tuple #[e'.key, e'.val]) (W' := W1) hg3 ho3g (by simp [execOp, ho3o, Act.eval, hitv2, hr3]) ?_
        have htr3 : TR σ ρ n (Tr.set (Tr.set (Tr.set (junkAll p.dsts T) d0 (.tuple [.bool true, e.1, e.2.1])) t1 (.bool true)) e0 (.tuple [e.1, e.2.1])) (a2.put o3.dst (.tuple #[e'.key, e'.val])) D := by
          rw [ho3d]
          refine htr2.put_set hdn3 ?_
          simp only [VR]
          exact ⟨_, rfl, VRs.cons hek (VRs.cons hev VRs.nil)⟩
        generalize a2.put o3.dst (.tuple #[e'.key, e'.val]) = a3 at htr3
        -- the rest of it, over the small heap
        have R1 : Rel σ W0 ρ ⟨hs, h.next⟩ W1 := small_rel R hbelow1 hsize1 hobs1 hsin
        obtain ⟨bd, hbd⟩ := hrd e hees
        have hround := hbd
        unfold roundM at hround
        have hp2 : p.ops2 = ops2 := by rw [← hpe]
        have hp3 : p.ops3 = ops3 := by rw [← hpe]
        have hpd0 : p.d0 = d0 := by rw [← hpe]
        have hpd1 : p.d1 = t1 := by rw [← hpe]
        have hpe0 : p.e0 = e0 := by rw [← hpe]
        have hpc : p.c = c := by rw [← hpe]
        rw [hp2, hp3, hpd0, hpd1, hpe0, hpc] at hround
        split at hround
        · cases hround
        rename_i T2 h2 hev2
        split at hround
        · cases hround
        rename_i T3 h3 hev3
        have hdrop : dropL ops2.toList 1 = l2 := by rw [dropL_eq, hl2]; rfl
        rw [hdrop] at hev2
        refine ops_ok (D := D) Gd hcall ops2 hok1.2.1 l2 1 _ _ ρ a3 W1 T2 h2 (by rw [hl2]; rfl) hev2 htr3 R1 g ?_
        intro a4 W2 ρ2 htr4 S2
        refine wp_seq ?_
        refine wp_region ?_
        rw [List.range_eq_range', ← Array.length_toList]
        refine ops_ok (D := D) Gd hcall ops3 hok1.2.2.1 ops3.toList 0 T2 h2 ρ2 a4 W2 T3 h3 rfl hev3 htr4 S2.rel (g.mono S2.ext) ?_
        intro a5 W3 ρ3 htr5 S3
        have S := S2.trans S3
        -- what has stayed
        have hkeep : ∀ t, t ∉ p.dsts → Tm.get T3 t = Tm.get (junkAll p.dsts T) t := by
          intro t k
          rw [evOps_keep _ hev3 t (fun q => k (m3 t q)), evOps_keep _ hev2 t (fun q => k (m2 t (by rw [hl2]; simp only [dstsOf]; split <;> first | exact List.mem_cons_of_mem _ q | exact q)))]
          rw [tm_set, if_neg (fun q => k (by rw [← q]; exact me0)), tm_set, if_neg (fun q => k (by rw [← q]; exact md1)), tm_set, if_neg (fun q => k (by rw [← q]; exact md0))]
        -- what is so behind the round
        have hmn : m < h.next := by
          rcases Nat.lt_or_ge m h.next with k | k
          · exact k
          · rw [R.dom m k] at hM; cases hM
        have hblkW : ∀ r l, ρ r = some l → l.blk < W1.heap.size := fun r l hl => Nat.lt_of_lt_of_le (R.blk r l hl) hsize1
        have hMw3 : W3.heap[M.blk]? = some (.map es0 clock) := by rw [S.frame _ (hblkW m M hM) awayM]; exact hMw1
        have hIt3 : W3.heap[L.blk]? = some (.mapIter (some M.blk) since (sj.toArray.push e'.born) clock) := by rw [S.frame _ (hblkW rI L hL) awayL]; exact hIt1
        have hkn : ∀ x, Known ρ ⟨hs, h.next⟩ x → Known ρ h x := by
          rintro x ⟨r, o, l, k1, k2, k3⟩
          exact ⟨r, o, l, (hsin r o k1).1, k2, k3⟩
        have hobs3 : sameAt hs h3.tr names = true → ∀ r o l, h.tr.get r = some o → ρ r = some l → r ≠ m → r ≠ rI → ObR σ ρ W3 l o := by
          intro hs3 r o l hg hl q1 q2
          cases hr : hs.get r with
          | some o2 =>
            obtain ⟨s, cs, k1, k2⟩ := sameAt_ok hs3 (hsnm r o2 hr)
            have := (hsin r o2 hr).1
            rw [hg] at this
            have this := Option.some.inj this
            subst this
            rw [hr] at k1
            have k1 := Option.some.inj k1
            subst k1
            exact ObR.back S.ext (hobs1 r _ l hg hl q1 q2) (S.rel.obs r _ l k2 (S.ext r l hl)).1
          | none => exact ObR.mono (Ext.refl _) (S.frame _ (hblkW r l hl) (away r o l hg hl hr)) (hobs1 r o l hg hl q1 q2)
        have hframe3 : ∀ x, x < W.heap.size → ¬ Known ρ h x → W3.heap[x]? = W.heap[x]? := by
          intro x hx hk
          have nL : L.blk ≠ x := fun e => hk ⟨rI, _, L, hgI, hL, e⟩
          rw [S.frame x (Nat.lt_of_lt_of_le hx hsize1) (fun k => hk (hkn x k)), hW1get, if_neg nL]
          exact inv.frame x hx hk
        have hmeas : (es.filter fun x => !(sj ++ [e'.born]).contains x.2.2).length < N := by
          have e1 : (es.filter fun x => !(sj ++ [e'.born]).contains x.2.2) = (es.filter fun x => !sj.contains x.2.2).filter (fun x => !Nat.beq e'.born x.2.2) := by
            rw [List.filter_filter]
            refine List.filter_congr fun x _ => ?_
            rw [has_snoc, Bool.not_or, Bool.and_comm]
          rw [e1]
          have e2 : ((es.filter fun x => !sj.contains x.2.2).filter (fun x => !Nat.beq e'.born x.2.2)).length < (es.filter fun x => !sj.contains x.2.2).length := by
            rw [List.length_filter_lt_length_iff_exists]
            refine ⟨e, List.mem_filter.2 ⟨hees, ?_⟩, ?_⟩
            · rw [hebn]; simpa using hein.2
            · rw [hebn]; simp
          omega
        have hpush : sj.toArray.push e'.born = (sj ++ [e'.born]).toArray := by simp
        split at hround
        · -- it stays
          rename_i hs3 hc3
          have hbf : roundM call Γ n p names hs h.next m kt es (junkAll p.dsts T) e = some false := by rw [hbd]; exact hround.symm ▸ rfl
          have hdel : del e = false := by
            show (match roundM call Γ n p names hs h.next m kt es (junkAll p.dsts T) e with | some true => true | _ => false) = false
            rw [hbf]
          have hcv : a5.eval (.tmp c) = .bool false := by
            have k := htr5.get c
            rw [hc3] at k
            simp only [VR] at k
            exact k
          refine wp_cond_false hcv ?_
          refine wp_skip ?_
          refine ih (sj ++ [e'.born]) a5 W3 hmeas ⟨TR.again inv.tr S.ext htr5 hkeep, S.rel.below, Nat.le_trans hsize1 S.size, hobs3 hs3, ?_, ⟨clock, by rw [hIt3, hpush], hsc⟩, hframe3⟩
          have e1 : (es.filter fun x => !((sj ++ [e'.born]).contains x.2.2 && del x)) = es.filter fun x => !(sj.contains x.2.2 && del x) := by
            refine List.filter_congr fun x hx => ?_
            rw [has_snoc]
            cases hbx : Nat.beq e'.born x.2.2 with
            | false => simp
            | true =>
              have : x = e := born_one hnd hx hees (by rw [hebn]; exact (beqN hbx).symm)
              subst this
              rw [hdel]; simp
          rw [e1]
          exact ⟨es0, hMw3, hMe⟩
        · -- it is taken out
          rename_i hs3 hc3
          have hpx0 : p.x0 = x0 := by rw [← hpe]
          have hpst : p.st = st := by rw [← hpe]
          have hpfd : p.fd = fd := by rw [← hpe]
          have hptm : p.tm = tm := by rw [← hpe]
          have hptk : p.tk = tk := by rw [← hpe]
          have hpa0 : p.a0 = a0 := by rw [← hpe]
          have hptd : p.td = td := by rw [← hpe]
          rw [hpx0, hpst, hpfd, hptm, hptk, hpa0] at hround
          split at hround
          · cases hround
          rename_i v0 q0
          split at hround
          · cases hround
          rename_i v1 q1
          split at hround
          · cases hround
          rename_i v2 q2
          split at hround
          case h_2 => cases hround
          rename_i m' k q3 q4
          split at hround
          case h_2 => cases hround
          rename_i q5
          simp only [Bool.and_eq_true] at q5
          have q6 := beqN q5.1
          subst q6
          have q7 := sameV_eq _ _ q5.2.1
          subst q7
          have hbt : roundM call Γ n p names hs h.next m' kt es (junkAll p.dsts T) e = some true := by rw [hbd]; exact hround.symm ▸ rfl
          have hdel : del e = true := by
            show (match roundM call Γ n p names hs h.next m' kt es (junkAll p.dsts T) e with | some true => true | _ => false) = true
            rw [hbt]
          have hcv : a5.eval (.tmp c) = .bool true := by
            have k := htr5.get c
            rw [hc3] at k
            simp only [VR] at k
            exact k
          refine wp_cond_true hcv ?_
          -- the map beside the small heap
          generalize hesj : (es.filter fun x => !(sj.contains x.2.2 && del x)) = esj at hMe hee
          have hM3 : ρ3 m' = some M := S.ext _ _ hM
          have hnk3 : ∀ x, x < W1.heap.size → ¬ Known ρ ⟨hs, h.next⟩ x → ¬ Known ρ3 h3 x := by
            intro x hx hk k
            rcases S.own x k with k | k
            · omega
            · exact hk k
          have R3 : Rel σ W0 ρ3 ⟨Tr.set h3.tr m' (.map esj clock), h3.next⟩ W3 := by
            refine Rel.more S.rel hM3 ⟨es0, hMw3, entR.mono S.ext hMe⟩ rfl (hfM.1 rfl) ?_
            intro r o' l hg hl hne e
            exact hnk3 M.blk (hblkW m' M hM) awayM ⟨r, o', l, hg, hl, e⟩
          have hkey : ∀ x ∈ esj, eqKey Γ kt e.1 x.1 = some (Nat.beq e.2.2 x.2.2) := fun x hx => oneKey_ok q5.2.2.2 x (by rw [← hesj] at hx; exact (List.mem_filter.1 hx).1)
          have hndj : (esj.map (·.2.2)).Nodup := by
            rw [← hesj]
            exact List.Nodup.sublist (List.Sublist.map _ List.filter_sublist) hnd
          obtain ⟨j, vj, hfind, hdropj⟩ := find_one 0 hkey (List.mem_map.2 ⟨e, hee, rfl⟩) hndj
          have hplsz : p.plan = plan := by rw [← hpe]
          obtain ⟨T4, hev4, hT4⟩ := take_ok (Γ := Γ) (call := call) (ops := ops4) (base := h3.next) (n := n) (T := T3)
            (h := ⟨Tr.set h3.tr m' (.map esj clock), h3.next + ops4.size⟩) htk (fun t k => hlt t (m4 t k)) q0 q1 q2
            (by rw [← q3]; exact loadP_map _ _ _ _ _ _ _ _ _ _ _) (by rw [← q4]; exact loadP_map _ _ _ _ _ _ _ _ _ _ _)
            (deleteP_at (q := q) (clock := clock) (es := esj) (v := vj) (i := 0 + j) (by rw [← hptd]; exact hmt) q5.2.2.1 (by show Tr.get (Tr.set h3.tr m' (.map esj clock)) m' = _; rw [Tr.get_set, if_pos rfl]) hfind)
          have hdrawn : evDrawn call Γ n ops4 plan T3 ⟨Tr.set h3.tr m' (.map esj clock), h3.next⟩ = some (T4, H.setOb ⟨Tr.set h3.tr m' (.map esj clock), h3.next + ops4.size⟩ m' (.map (dropAt esj (0 + j)) clock)) := by
            unfold evDrawn
            rw [fresh_take htk]
            exact hev4
          refine wp_region_any hm (hdraw n ops4 plan T3 _ T4 _ ρ3 a5 _ D _ hok1.2.2.2.2 hpl hok1.2.2.2.1 hdrawn htr5 R3.drew (g.mono S.ext) ?_)
          intro a6 W4 ρ4 htr6 S4
          have hx4 : Ext ρ ρ4 := S.ext.trans S4.ext
          have hsz4 : W1.heap.size ≤ W4.heap.size := Nat.le_trans S.size S4.size
          have h4get : ∀ r, r ≠ m' → (H.setOb ⟨Tr.set h3.tr m' (.map esj clock), h3.next + ops4.size⟩ m' (.map (dropAt esj (0 + j)) clock)).tr.get r = h3.tr.get r := by
            intro r hr
            show (Tr.set (Tr.set h3.tr m' (.map esj clock)) m' (.map (dropAt esj (0 + j)) clock)).get r = _
            rw [Tr.get_set, if_neg (fun e => hr e.symm), Tr.get_set, if_neg (fun e => hr e.symm)]
          have hnk4 : ∀ x, x < W1.heap.size → x ≠ M.blk → ¬ Known ρ ⟨hs, h.next⟩ x → ¬ Known ρ3 ⟨Tr.set h3.tr m' (.map esj clock), h3.next⟩ x := by
            rintro x hx hxM hk ⟨r, o, l, k1, k2, k3⟩
            have k1 : (Tr.set h3.tr m' (.map esj clock)).get r = some o := k1
            rw [Tr.get_set] at k1
            split at k1
            · rename_i e
              subst e
              rw [hM3] at k2; cases k2
              exact hxM k3.symm
            · exact hnk3 x hx hk ⟨r, o, l, k1, k2, k3⟩
          have hstay : ∀ x, x < W1.heap.size → x ≠ M.blk → ¬ Known ρ ⟨hs, h.next⟩ x → W4.heap[x]? = W1.heap[x]? := fun x hx hxM hk => by
            rw [S4.frame x (Nat.lt_of_lt_of_le hx S.size) (hnk4 x hx hxM hk)]
            exact S.frame x hx hk
          have hdj : dropAt esj (0 + j) = es.filter fun x => !((sj ++ [e'.born]).contains x.2.2 && del x) := by
            rw [Nat.zero_add, hdropj, ← hesj, List.filter_filter]
            refine List.filter_congr fun x hx => ?_
            rw [has_snoc, ← hebn]
            cases hbx : Nat.beq e.2.2 x.2.2 with
            | false => simp
            | true =>
              have : x = e := born_one hnd hx hees (beqN hbx).symm
              subst this
              rw [hdel]; simp
          refine ih (sj ++ [e'.born]) a6 W4 hmeas ⟨?_, S4.rel.below, Nat.le_trans hsize1 hsz4, ?_, ?_, ⟨clock, ?_, hsc⟩, ?_⟩
          · refine TR.again inv.tr hx4 htr6 (fun t k => ?_)
            rw [hT4 t (fun q => k (m4 t q))]
            exact hkeep t k
          · intro r o l hg hl n1 n2
            cases hr : hs.get r with
            | some o2 =>
              obtain ⟨s, cs, k1, k2⟩ := sameAt_ok hs3 (hsnm r o2 hr)
              have := (hsin r o2 hr).1
              rw [hg] at this
              have this := Option.some.inj this
              subst this
              rw [hr] at k1
              have k1 := Option.some.inj k1
              subst k1
              exact ObR.back hx4 (hobs1 r _ l hg hl n1 n2) (S4.rel.obs r _ l (by rw [h4get r n1]; exact k2) (hx4 r l hl)).1
            | none => exact ObR.mono (Ext.refl _) (hstay _ (hblkW r l hl) (apM r o l hg hl n1) (away r o l hg hl hr)) (hobs1 r o l hg hl n1 n2)
          · have hO4 := (S4.rel.obs m' (.map (dropAt esj (0 + j)) clock) M (by
              show (Tr.set (Tr.set h3.tr m' (.map esj clock)) m' (.map (dropAt esj (0 + j)) clock)).get m' = _
              rw [Tr.get_set, if_pos rfl]) (S4.ext _ _ hM3)).1
            obtain ⟨es4, k1, k2⟩ := hO4
            rw [hdj] at k2
            refine ⟨es4, k1, entR.back (l0 := es0.toList.filter fun x => !Nat.beq e.2.2 x.born) hx4 ?_ k2⟩
            rw [← hdj, Nat.zero_add, hdropj]
            exact entR.filter (fun b => !Nat.beq e.2.2 b) hMe
          · rw [hstay _ (hblkW rI L hL) hLM awayL, hIt1, hpush]
          · intro x hx hk
            have nL : L.blk ≠ x := fun e => hk ⟨rI, _, L, hgI, hL, e⟩
            have nM : x ≠ M.blk := fun e => hk ⟨m', _, M, hgm, hM, e.symm⟩
            rw [hstay x (Nat.lt_of_lt_of_le hx hsize1) nM (fun k => hk (hkn x k)), hW1get, if_neg nL]
            exact inv.frame x hx hk
        · cases hround
  refine key _ (fun a' W' h1 h2 => ?_) _ [] a W (Nat.lt_succ_of_le (List.length_filter_le _ _)) inv0
  show (if id' = id' then Q .normal a' W' else _)
  rw [if_pos rfl]
  exact hQ a' W' ρ h1 h2
end
end Tk
