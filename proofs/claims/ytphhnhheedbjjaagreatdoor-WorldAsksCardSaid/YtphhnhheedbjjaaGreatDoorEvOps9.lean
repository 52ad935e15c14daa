/- The evaluator's operations held against the model's, one by one (9): maps' operations. -/
import Derived.Test.YtphhnhheedbjjaaGreatDoorEvOps8
set_option linter.unusedVariables false
set_option linter.unusedSimpArgs false
namespace Tk
open Go Go.RowKit

section
variable {P : Program} {σ : Nat → Int} {ρ : Inj}
theorem mapT_ok {t : TypeId} {kt : KT} {e : TypeId} (h : mapT P t = some (kt, e)) : ∃ k, P.underlying t = some (.map k e) ∧ keyT P k = some kt := by
  unfold mapT at h
  split at h
  · rename_i k e' hu
    split at h
    · rename_i kt' hk
      simp only [Option.some.injEq, Prod.mk.injEq] at h
      obtain ⟨rfl, rfl⟩ := h
      exact ⟨k, hu, hk⟩
    · cases h
  · cases h
theorem okV_ok {ok : Bool} {v : V} {x : Value} {b : Bool} (h : VR σ ρ v x) : VR σ ρ (okV ok v b) (if ok then .tuple #[x, .bool b] else x) := by
  cases ok
  · exact h
  · simp only [okV, if_true, VR]
    exact ⟨_, rfl, VRs.cons h (VRs.cons (by simp [VR]) VRs.nil)⟩
theorem getObj_ok {W : World} {r : Nat} {o : Obj} (h : W.heap[r]? = some o) (hc : ∀ a b c, o ≠ .cells a b c) : (getObj r).run P W = .ok o W := by
  unfold getObj
  cases o <;> first | (simp only [Sem.run, h]; done) | exact absurd rfl (hc _ _ _)
def _root_.Go.World.putObj (W : World) (r : Nat) (o : Obj) : World := { W with heap := W.heap.setIfInBounds r o }
theorem setObj_ok {W : World} {r : Nat} {o o' : Obj} (h : W.heap[r]? = some o) (hc : ∀ a b c, o ≠ .cells a b c) : (setObj r o').run P W = .ok () (W.putObj r o') := by
  unfold setObj
  cases o <;> first | (simp only [Sem.run, h]; rfl) | exact absurd rfl (hc _ _ _)
theorem putObj_get {W : World} {r : Nat} {o o' : Obj} (h : W.heap[r]? = some o) : (W.putObj r o').heap[r]? = some o' := by
  have : r < W.heap.size := by
    rcases Nat.lt_or_ge r W.heap.size with h1 | h1
    · exact h1
    · rw [Array.getElem?_eq_none h1] at h; cases h
  simp [World.putObj, Array.getElem?_setIfInBounds, this]
theorem putObj_other {W : World} {r k : Nat} {o' : Obj} (h : k ≠ r) : (W.putObj r o').heap[k]? = W.heap[k]? := by
  simp only [World.putObj, Array.getElem?_setIfInBounds]
  rw [if_neg (fun e => h e.symm)]
theorem putObj_size {W : World} {r : Nat} {o' : Obj} : (W.putObj r o').heap.size = W.heap.size := by simp [World.putObj]
/-- a block that is no row of cells is put anew -/
theorem putOb_ok {W0 : World} {h : H} {W : World} (R : Rel σ W0 ρ h W) {r : Nat} {ob ob' : Ob} {L : Loc} {o' o : Obj} (hg : h.tr.get r = some ob) (hL : ρ r = some L) (hf : ob.free = true) (hf' : ob'.free = true) (hh : W.heap[L.blk]? = some o)
    (hob : ObR σ ρ (W.putObj L.blk o') L ob') : Stp σ W0 ρ h W ρ (h.setOb r ob') (W.putObj L.blk o') :=
  put_ok R hg hL hf hf' putObj_size rfl rfl rfl (fun _ hk => putObj_other hk) hob
theorem ents_ok {W0 : World} {h : H} {W : World} (R : Rel σ W0 ρ h W) {r : Nat} {es : Ents} {clock : Nat} (hg : h.tr.get r = some (.map es clock)) (hk : ∃ L, ρ r = some L) : ∃ L es', ρ r = some L ∧ W.heap[L.blk]? = some (.map es' clock) ∧ entR σ ρ es es'.toList := by
  obtain ⟨L, hL⟩ := hk
  obtain ⟨hO, _⟩ := R.obs r _ L hg hL
  obtain ⟨es', h1, h2⟩ := hO
  exact ⟨L, es', hL, h1, h2⟩
theorem good_lookup {Γ : Cx} (G : GoodCx σ Γ) (hP : Γ.P = P) (t : TypeId) (x i : Operand) (ok : Bool) : GoodQ P σ (.lookup t x i ok) (s2v (fun h m k => lookupP Γ t ok m k h) x i) :=
  good_s2v (by simp [Op.operands]) (by simp [Op.operands]) fun W0 h a b v ρ W ε o ho hf ha hb R => by
    subst hP
    unfold lookupP at hf
    rcases hm : mapT Γ.P t with _ | ⟨kt, e⟩
    · simp only [hm] at hf; cases hf
    rcases hz : zeroT Γ.P e with _ | z
    · simp only [hm, hz] at hf; cases hf
    simp only [hm, hz] at hf
    obtain ⟨k, hu, hk⟩ := mapT_ok hm
    obtain ⟨_, zx, _, _, hzv, hrun⟩ := zeroT_ok (σ := σ) (ρ := ρ) W hz
    have go : ∀ {es : Ents} {es' : Array MapEntry} {mv : Value}, keyOk kt b = true → entR σ ρ es es'.toList → ε x = mv → (mv = .map none ∧ es' = #[] ∨ ∃ r clock, mv = .map (some r) ∧ (getObj r).run Γ.P W = .ok (.map es' clock) W) →
        (match findV Γ kt b es 0 with | some (some (_, v)) => some (okV ok v true) | some none => some (okV ok z false) | none => none) = some v →
        ∃ y, (execOp ε o).run Γ.P W = .ok (.value y) W ∧ VR σ ρ v y := by
      intro es es' mv ho' hent hmv hcase hfind
      have hck := checkKey_ok W hk ho' hb es'.isEmpty 9998
      split at hfind
      · rename_i j v' hfv
        obtain ⟨r', q1, q2⟩ := findKey_ok G W hk hb hfv hent
        obtain ⟨y, rfl, q2⟩ := q2
        cases hfind
        refine ⟨_, ?_, okV_ok q2⟩
        rcases hcase with ⟨rfl, rfl⟩ | ⟨r, clock, rfl, hg⟩
        · simp only [Array.isEmpty_empty] at hck
          simp [execOp, ho, hmv, Instr.lookup, run_underlying hu, hck, q1]
        · simp [execOp, ho, hmv, Instr.lookup, run_underlying hu, hck, q1, hg]
      · rename_i hfv
        obtain ⟨r', q1, q2⟩ := findKey_ok G W hk hb hfv hent
        simp only [FR] at q2
        subst q2
        cases hfind
        refine ⟨_, ?_, okV_ok hzv⟩
        rcases hcase with ⟨rfl, rfl⟩ | ⟨r, clock, rfl, hg⟩
        · simp only [Array.isEmpty_empty] at hck
          simp [execOp, ho, hmv, Instr.lookup, run_underlying hu, hck, q1, hrun]
        · simp [execOp, ho, hmv, Instr.lookup, run_underlying hu, hck, q1, hg, hrun]
      · cases hfind
    split at hf
    · rename_i es hko hes
      unfold entsOf at hes
      split at hes
      · cases hes
        simp only [VR] at ha
        exact go (es := []) (es' := #[]) hko (by simp [entR]) ha (.inl ⟨rfl, rfl⟩) hf
      · rename_i r
        split at hes
        · rename_i es1 clock hg
          cases hes
          simp only [VR] at ha
          obtain ⟨L, hL, ha⟩ := ha
          obtain ⟨L', es', hL', h1, h2⟩ := ents_ok R hg ⟨_, hL⟩
          rw [hL] at hL'; cases hL'
          exact go hko h2 ha (.inr ⟨L.blk, clock, rfl, getObj_ok h1 (by simp)⟩) hf
        · cases hes
      · cases hes
    · cases hf
theorem ent_get : ∀ {es : Ents} {l : List MapEntry} (i : Nat) {k v : V} {b : Nat}, entR σ ρ es l → es[i]? = some (k, v, b) → ∃ k' v', l[i]? = some ⟨k', v', b⟩ ∧ VR σ ρ k k' ∧ VR σ ρ v v'
  | [], l, i, k, v, b, _, h => by simp at h
  | (a, c, d) :: es, l, 0, k, v, b, he, h => by
    simp only [entR] at he
    obtain ⟨a', c', l', rfl, h1, h2, h3⟩ := he
    simp at h
    obtain ⟨rfl, rfl, rfl⟩ := h
    exact ⟨a', c', rfl, h1, h2⟩
  | (a, c, d) :: es, l, i + 1, k, v, b, he, h => by
    simp only [entR] at he
    obtain ⟨a', c', l', rfl, h1, h2, h3⟩ := he
    exact ent_get i h3 (by simpa using h)
theorem ent_set : ∀ {es : Ents} {l : List MapEntry} (i : Nat) {k v : V} {x y : Value}, entR σ ρ es l → VR σ ρ k x → VR σ ρ v y → entR σ ρ (setVal es i k v) (l.modify i fun e => { e with key := x, val := y })
  | [], l, i, k, v, x, y, he, _, _ => by simp only [entR] at he; subst he; simp [setVal, entR]
  | (a, c, d) :: es, l, 0, k, v, x, y, he, h1, h2 => by
    simp only [entR] at he
    obtain ⟨a', c', l', rfl, _, _, h3⟩ := he
    simp only [setVal, entR]
    exact ⟨x, y, l', by simp, h1, h2, h3⟩
  | (a, c, d) :: es, l, i + 1, k, v, x, y, he, h1, h2 => by
    simp only [entR] at he
    obtain ⟨a', c', l', rfl, h4, h5, h3⟩ := he
    simp only [setVal, entR]
    exact ⟨a', c', _, by simp, h4, h5, ent_set i h3 h1 h2⟩
theorem ent_push : ∀ {es : Ents} {l : List MapEntry} {k v : V} {b : Nat} {x y : Value}, entR σ ρ es l → VR σ ρ k x → VR σ ρ v y → entR σ ρ (es ++ [(k, v, b)]) (l ++ [⟨x, y, b⟩])
  | [], l, k, v, b, x, y, he, h1, h2 => by
    simp only [entR] at he; subst he
    show entR σ ρ [(k, v, b)] [⟨x, y, b⟩]
    simp only [entR]
    exact ⟨x, y, [], rfl, h1, h2, rfl⟩
  | (a, c, d) :: es, l, k, v, b, x, y, he, h1, h2 => by
    simp only [entR] at he
    obtain ⟨a', c', l', rfl, h4, h5, h3⟩ := he
    simp only [List.cons_append, entR]
    exact ⟨a', c', _, rfl, h4, h5, ent_push h3 h1 h2⟩
theorem ent_del : ∀ {es : Ents} {l : List MapEntry} (i : Nat), entR σ ρ es l → entR σ ρ (dropAt es i) (l.eraseIdx i)
  | [], l, i, he => by simp only [entR] at he; subst he; simp [dropAt, entR]
  | (a, c, d) :: es, l, 0, he => by
    simp only [entR] at he
    obtain ⟨a', c', l', rfl, h4, h5, h3⟩ := he
    simpa [dropAt] using h3
  | (a, c, d) :: es, l, i + 1, he => by
    simp only [entR] at he
    obtain ⟨a', c', l', rfl, h4, h5, h3⟩ := he
    simp only [dropAt, entR, List.eraseIdx_cons_succ]
    exact ⟨a', c', _, rfl, h4, h5, ent_del i h3⟩
/-- a key's value is one alone -/
theorem one_int {v w : V} {x y : Value} (h : isInt v = true) (hs : sameV w v = true) (hw : VR σ ρ w x) (hv : VR σ ρ v y) : x = y ∧ ∀ n, Instr.sameBits n y y = true := by
  cases v <;> try (cases h; done)
  rename_i k e
  cases w <;> simp only [sameV] at hs <;> try (cases hs; done)
  simp only [Bool.and_eq_true] at hs
  have h1 := eqK_eq hs.1
  have h2 := eqE_eq hs.2
  subst h1 h2
  simp only [VR] at hw hv
  subst hw hv
  exact ⟨rfl, fun n => by cases n <;> simp [Instr.sameBits]⟩
theorem one_ints : ∀ {vs ws : List V} {xs ys : List Value}, vs.all isInt = true → sameVs ws vs = true → VRs σ ρ ws xs → VRs σ ρ vs ys → xs = ys ∧ ∀ n, (ys.zip ys).all (fun (x, y) => Instr.sameBits n x y) = true
  | [], [], xs, ys, _, _, h1, h2 => by simp only [VRs] at h1 h2; subst h1 h2; simp
  | [], _ :: _, xs, ys, _, h, _, _ => by simp [sameVs] at h
  | _ :: _, [], xs, ys, _, h, _, _ => by simp [sameVs] at h
  | v :: vs, w :: ws, xs, ys, ha, hs, h1, h2 => by
    simp only [List.all_cons, Bool.and_eq_true] at ha
    simp only [sameVs, Bool.and_eq_true] at hs
    simp only [VRs] at h1 h2
    obtain ⟨x, xs', rfl, h3, h4⟩ := h1
    obtain ⟨y, ys', rfl, h5, h6⟩ := h2
    obtain ⟨rfl, q1⟩ := one_int ha.1 hs.1 h3 h5
    obtain ⟨rfl, q2⟩ := one_ints ha.2 hs.2 h4 h6
    exact ⟨rfl, fun n => by simp only [List.zip_cons_cons, List.all_cons, q1, q2, Bool.and_self]⟩
theorem one_key {kt : KT} {v w : V} {x y : Value} (h : keyOk kt v = true) (hs : sameV w v = true) (hw : VR σ ρ w x) (hv : VR σ ρ v y) : x = y ∧ Instr.sameBits 10000 y y = true := by
  cases kt with
  | int => obtain ⟨a, b⟩ := one_int (by simpa [keyOk] using h) hs hw hv; exact ⟨a, b _⟩
  | str =>
    cases v <;> simp only [keyOk] at h <;> try (cases h; done)
    cases w <;> simp only [sameV] at hs <;> try (cases hs; done)
    have := eqNats_iff.1 hs
    subst this
    simp only [VR] at hw hv
    subst hw hv
    exact ⟨rfl, by simp [Instr.sameBits, beq_toListBytes]⟩
  | flat n =>
    cases v <;> simp only [keyOk] at h <;> try (cases h; done)
    rename_i vs
    cases w <;> simp only [sameV] at hs <;> try (cases hs; done)
    rename_i ws
    simp only [Bool.and_eq_true, allL_eq] at h
    simp only [VR] at hw hv
    obtain ⟨xs, rfl, hw⟩ := hw
    obtain ⟨ys, rfl, hv⟩ := hv
    obtain ⟨a, b⟩ := one_ints h.2 hs hw hv
    have : xs = ys := Array.ext' a
    subst this
    refine ⟨rfl, ?_⟩
    rw [show (10000 : Nat) = 9999 + 1 from rfl, Instr.sameBits]
    simp only [beq_self_eq_true, Bool.true_and]
    exact b 9999
theorem findV_lt {Γ : Cx} {kt : KT} {k : V} : ∀ {es : Ents} {i j : Nat} {v : V}, findV Γ kt k es i = some (some (j, v)) → i ≤ j ∧ j < i + es.length
  | [], i, j, v, h => by simp [findV] at h
  | (a, b, c) :: es, i, j, v, h => by
    simp only [findV] at h
    split at h
    · simp only [Option.some.injEq, Prod.mk.injEq] at h; simp; omega
    · have := findV_lt h; simp; omega
    · cases h
theorem good_update {Γ : Cx} (G : GoodCx σ Γ) (hP : Γ.P = P) (t : TypeId) (m k x : Operand) : Good P σ (.mapUpdate t m k x) (sUpdate Γ t m k x) := by
  intro W0 T h v h' ρ W ε o ho hs hε R
  subst hP
  simp only [sUpdate] at hs
  split at hs
  · rename_i mv kv xv e1 e2 e3
    have hm := hε m (by simp [Op.operands]) _ e1
    have hk := hε k (by simp [Op.operands]) _ e2
    have hx := hε x (by simp [Op.operands]) _ e3
    cases hu : updateP Γ t mv kv xv h with
    | none => rw [hu] at hs; cases hs
    | some h1 =>
      rw [hu] at hs
      simp only [unitH, Option.some.injEq, Prod.mk.injEq] at hs
      obtain ⟨rfl, rfl⟩ := hs
      unfold updateP at hu
      rcases hmt : mapT Γ.P t with _ | ⟨kt, e⟩
      · simp only [hmt] at hu; cases hu
      simp only [hmt] at hu
      obtain ⟨kty, hun, hkt⟩ := mapT_ok hmt
      split at hu
      · rename_i r hko
        split at hu
        · rename_i es clock hg
          simp only [VR] at hm
          obtain ⟨L, hL, hm⟩ := hm
          obtain ⟨L', es', hL', h1', h2'⟩ := ents_ok R hg ⟨_, hL⟩
          rw [hL] at hL'; cases hL'
          have hget := getObj_ok (P := Γ.P) h1' (by simp)
          have hck := checkKey_ok W hkt hko hk false 9998
          split at hu
          · rename_i i v0 hfv
            obtain ⟨r', q1, q2⟩ := findKey_ok G W hkt hk hfv h2'
            obtain ⟨y, rfl, q2⟩ := q2
            split at hu
            · rename_i k' hka
              split at hu
              · rename_i hsame
                cases hu
                unfold keyAt at hka
                split at hka
                · rename_i en hnth
                  cases hka
                  rw [nthL_eq] at hnth
                  obtain ⟨ka, va, ba⟩ := en
                  obtain ⟨k1, v1, g1, g2, g3⟩ := ent_get i h2' hnth
                  obtain ⟨hkk, hsb⟩ := one_key hko hsame g2 hk
                  subst hkk
                  have hgi : es'[i]? = some ⟨ε k, v1, ba⟩ := by simpa using g1
                  have hkeep : (Instr.keyThatStays (ε k) (ε k)).run Γ.P W = .ok (ε k) W := by simp [Instr.keyThatStays, hsb]
                  have hset := setObj_ok (P := Γ.P) (o' := .map (es'.modify i fun e => { e with key := ε k, val := ε x }) clock) h1' (by simp)
                  refine fine_skip (W' := W.putObj L.blk (.map (es'.modify i fun e => { e with key := ε k, val := ε x }) clock)) ?_ (putOb_ok R hg hL rfl rfl h1' ⟨_, putObj_get h1', ?_⟩)
                  · simp [execOp, ho, Instr.mapUpdate, run_underlying hun, hm, hget, hck, q1, hgi, hkeep, hset]
                  · rw [Array.toList_modify]
                    exact ent_set i h2' hk hx
                · cases hka
              · cases hu
            · cases hu
          · rename_i hfv
            obtain ⟨r', q1, q2⟩ := findKey_ok G W hkt hk hfv h2'
            simp only [FR] at q2
            subst q2
            cases hu
            have hset := setObj_ok (P := Γ.P) (o' := .map (es'.push ⟨ε k, ε x, clock⟩) (clock + 1)) h1' (by simp)
            refine fine_skip (W' := W.putObj L.blk (.map (es'.push ⟨ε k, ε x, clock⟩) (clock + 1))) ?_ (putOb_ok R hg hL rfl rfl h1' ⟨_, putObj_get h1', ?_⟩)
            · simp [execOp, ho, Instr.mapUpdate, run_underlying hun, hm, hget, hck, q1, hset]
            · rw [Array.toList_push, appL_eq]
              exact ent_push h2' hk hx
          · cases hu
        · cases hu
      · cases hu
  · cases hs
theorem good_delete {Γ : Cx} (G : GoodCx σ Γ) (hP : Γ.P = P) (ts : Array TypeId) (t : TypeId) (l : List TypeId) (x y : Operand) (hts : ts.toList = t :: l) :
    Good P σ (.call ⟨.builtin .delete, #[x, y], ts⟩) (s2 (fun m k h => match deleteP Γ t m k h with | some h => some (.tuple [], h) | none => none) x y) :=
  good_s2 (by simp [Op.operands, Call.operands]) (by simp [Op.operands, Call.operands]) fun W0 h h' a b v ρ W ε o ho hf ha hb R => by
    subst hP
    have ht := first_ty hts
    cases hd : deleteP Γ t a b h with
    | none => simp only [hd] at hf; cases hf
    | some h1 =>
      simp only [hd, Option.some.injEq, Prod.mk.injEq] at hf
      obtain ⟨rfl, rfl⟩ := hf
      have fin : ∀ {W' : World}, (Builtin.delete_ ts o.type #[ε x, ε y]).run Γ.P W = .ok (.tuple #[]) W' → Stp σ W0 ρ h W ρ h1 W' → Fine Γ.P σ W0 ε o (.tuple []) ρ h W h1 := fun {W'} q S =>
        fine_step (x := .tuple #[]) (by simp [execOp, ho, resolve, invoke, builtin, q]) vr_undef S
      unfold deleteP at hd
      rcases hmt : mapT Γ.P t with _ | ⟨kt, e⟩
      · simp only [hmt] at hd; cases hd
      simp only [hmt] at hd
      obtain ⟨kty, hun, hkt⟩ := mapT_ok hmt
      split at hd
      · cases hd
      · rename_i hko
        split at hd
        · cases hd
          simp only [VR] at ha
          have hck := checkKey_ok W hkt hko hb true 9998
          exact fin (by simp [Builtin.delete_, ht, run_underlying hun, ha, hck]) (Stp.refl R)
        · rename_i r
          split at hd
          · rename_i es clock hg
            simp only [VR] at ha
            obtain ⟨L, hL, ha⟩ := ha
            obtain ⟨L', es', hL', h1', h2'⟩ := ents_ok R hg ⟨_, hL⟩
            rw [hL] at hL'; cases hL'
            have hget := getObj_ok (P := Γ.P) h1' (by simp)
            have hck := checkKey_ok W hkt hko hb es'.isEmpty 9998
            split at hd
            · rename_i i v0 hfv
              obtain ⟨r', q1, q2⟩ := findKey_ok G W hkt hb hfv h2'
              obtain ⟨y', rfl, q2⟩ := q2
              cases hd
              have hset := setObj_ok (P := Γ.P) (o' := .map (es'.eraseIdxIfInBounds i) clock) h1' (by simp)
              refine fin (W' := W.putObj L.blk (.map (es'.eraseIdxIfInBounds i) clock)) ?_ (putOb_ok R hg hL rfl rfl h1' ⟨_, putObj_get h1', ?_⟩)
              · simp [Builtin.delete_, ht, run_underlying hun, ha, hget, hck, q1, hset]
              · have := findV_lt hfv
                rw [Array.toList_eraseIdxIfInBounds]
                exact ent_del i h2'
            · rename_i hfv
              obtain ⟨r', q1, q2⟩ := findKey_ok G W hkt hb hfv h2'
              simp only [FR] at q2
              subst q2
              cases hd
              have hset := setObj_ok (P := Γ.P) (o' := .map es' clock) h1' (by simp)
              have hsame : W.putObj L.blk (.map es' clock) = W := by
                unfold World.putObj
                have : W.heap.setIfInBounds L.blk (.map es' clock) = W.heap := by
                  apply Array.ext_getElem?
                  intro j
                  rw [Array.getElem?_setIfInBounds]
                  split
                  · rename_i e
                    subst e
                    split
                    · exact h1'.symm
                    · rename_i hh
                      have : L.blk < W.heap.size := R.blk r L hL
                      exact absurd this hh
                  · rfl
                rw [this]
              rw [hsame] at hset
              exact fin (by simp [Builtin.delete_, ht, run_underlying hun, ha, hget, hck, q1, hset]) (Stp.refl R)
            · cases hd
          · cases hd
        · cases hd
end
end Tk
