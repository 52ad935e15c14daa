/- The evaluator's operations held against the model's, one by one (8): maps. -/
import Derived.Test.YtphhnhheedbjjaaGreatDoorEvOps7
import Derived.Laws.StructEq
set_option linter.unusedVariables false
set_option linter.unusedSimpArgs false
namespace Tk
open Go Go.RowKit

section
variable {P : Program} {σ : Nat → Int} {ρ : Inj}
theorem keyT_ok {t : TypeId} {kt : KT} (h : keyT P t = some kt) :
    (kt = .int ∧ ∃ k, P.underlying t = some (.int k)) ∨ (kt = .str ∧ P.underlying t = some .string) ∨
    (∃ fs : Array Field, kt = .flat fs.size ∧ P.underlying t = some (.struct fs) ∧ flatInts P fs.toList 0 = true ∧ P.stoodInHeld t = false) := by
  unfold keyT at h
  split at h
  · rename_i k hk; cases h; exact .inl ⟨rfl, k, hk⟩
  · rename_i hk; cases h; exact .inr (.inl ⟨rfl, hk⟩)
  · rename_i fs hk
    split at h
    · rename_i hc
      cases h
      simp only [Bool.and_eq_true, Bool.not_eq_true'] at hc
      exact .inr (.inr ⟨fs, rfl, hk, hc.1, hc.2⟩)
    · cases h
  · cases h
theorem flat_cons {f : Field} {fs : List Field} {i : Nat} (h : flatInts P (f :: fs) i = true) : (∃ k, P.underlying f.type = some (.int k)) ∧ f.offset = i ∧ f.name ≠ "_" ∧ flatInts P fs (i + 1) = true := by
  simp only [flatInts, Bool.and_eq_true] at h
  obtain ⟨⟨⟨⟨h1, h2⟩, h3⟩, h4⟩, h5⟩ := h
  refine ⟨?_, beqN h3, by simpa using h4, h5⟩
  unfold isIntT at h1
  split at h1
  · rename_i k hk; exact ⟨k, hk⟩
  · cases h1
theorem int_not_agg {t : TypeId} {k : IntKind} (w : World) (h : P.underlying t = some (.int k)) : (isAgg t).run P w = .ok false w := by
  have : aggT P t = some false := by unfold aggT; rw [h]
  exact aggT_ok w this
/-- ints that are to be the cells of a key -/
theorem vrs_head {v : V} {vs : List V} {i : Nat} {xs : Array Value} (h : VRs σ ρ (v :: vs) (xs.toList.drop i)) : ∃ x, xs[i]? = some x ∧ VR σ ρ v x ∧ VRs σ ρ vs (xs.toList.drop (i + 1)) := by
  simp only [VRs] at h
  obtain ⟨x, l, h1, h2, h3⟩ := h
  refine ⟨x, ?_, h2, ?_⟩
  · have := congrArg (fun l => l[0]?) h1
    simpa using this
  · have := congrArg (List.drop 1) h1
    rw [List.drop_drop] at this
    rw [show i + 1 = i + 1 from rfl, this]
    simpa using h3
theorem eqFields_ok {Γ : Cx} (G : GoodCx σ Γ) (d : Nat) (w : World) (xs ys : Array Value) : ∀ (fs : List Field) (i : Nat) (as bs : List V) (r : Bool), flatInts P fs i = true → as.length = fs.length → eqInts Γ as bs = some r →
    VRs σ ρ as (xs.toList.drop i) → VRs σ ρ bs (ys.toList.drop i) → (Op.eqFields (d + 1) xs ys fs).run P w = .ok r w
  | [], i, [], bs, r, _, _, he, _, _ => by
    cases bs with
    | nil => simp only [eqInts, Option.some.injEq] at he; subst he; simp [Op.eqFields]
    | cons b bs => simp only [eqInts] at he; cases he
  | [], i, a :: as, bs, r, _, hl, _, _, _ => by simp at hl
  | f :: fs, i, [], bs, r, _, hl, _, _, _ => by simp at hl
  | f :: fs, i, a :: as, [], r, _, _, he, _, _ => by simp only [eqInts] at he; cases he
  | f :: fs, i, a :: as, b :: bs, r, hf, hl, he, hx, hy => by
    obtain ⟨⟨k, hk⟩, ho, hn, hf'⟩ := flat_cons hf
    obtain ⟨x, x1, x2, x3⟩ := vrs_head hx
    obtain ⟨y, y1, y2, y3⟩ := vrs_head hy
    simp only [eqInts] at he
    split at he
    · rename_i k1 m k2 n
      split at he
      · rename_i e
        have e := eqK_eq e
        subst e
        simp only [VR] at x2 y2
        subst x2 y2
        have hag := int_not_agg w hk
        have eqq : ∀ t, isE Γ m n = some t → (m.den σ == n.den σ) = t := fun t e => by have := isE_ok G _ _ _ e; rw [beq_dec]; exact this
        split at he
        · rename_i e
          have e := eqq _ e
          have ih := eqFields_ok G d w xs ys fs (i + 1) as bs r hf' (by simpa using hl) he x3 y3
          simp only [Op.eqFields, if_pos hn]
          simp [part, hag, ho, x1, y1, run_equalIn_int w d f.type k1 k _ _ hk, e, ih]
        · rename_i e
          have e := eqq _ e
          cases he
          simp only [Op.eqFields, if_pos hn]
          simp [part, hag, ho, x1, y1, run_equalIn_int w d f.type k1 k _ _ hk, e]
        · cases he
      · cases he
    · cases he
theorem eqKey_flat {Γ : Cx} (G : GoodCx σ Γ) (w : World) {t : TypeId} {fs : Array Field} {a b : V} {x y : Value} {r : Bool} (hu : P.underlying t = some (.struct fs)) (hf : flatInts P fs.toList 0 = true) (hs : P.stoodInHeld t = false)
    (he : eqKey Γ (.flat fs.size) a b = some r) (ha : VR σ ρ a x) (hb : VR σ ρ b y) : (Op.equal t x y).run P w = .ok r w := by
  unfold eqKey at he
  simp only [] at he
  split at he
  · rename_i as bs
    split at he
    · rename_i hc
      simp only [Bool.and_eq_true, lenL_eq] at hc
      simp only [VR] at ha hb
      obtain ⟨xs, rfl, ha⟩ := ha
      obtain ⟨ys, rfl, hb⟩ := hb
      have hfo : P.fieldsOf t = fs := by simp [Program.fieldsOf, hu]
      have := run_equalIn_struct (P := P) w 9999 t xs ys (by rw [hfo]; exact hu) hs
      show (Op.equalIn (9999 + 1) t (.agg xs) (.agg ys)).run P w = _
      rw [this, hfo]
      exact eqFields_ok G 9998 w xs ys fs.toList 0 as bs r hf (by have := beqN hc.1; simpa using this) he (by simpa using ha) (by simpa using hb)
    · cases he
  · cases he
/-- what a search found -/
def FR (σ : Nat → Int) (ρ : Inj) : Option (Nat × V) → Option (Nat × Value) → Prop
  | none, r => r = none
  | some (i, v), r => ∃ x, r = some (i, x) ∧ VR σ ρ v x
theorem findNow_ok {Γ : Cx} {kt : KT} {d : TypeDesc} {k : V} {x : Value} (hnow : ∀ {b y r}, eqKey Γ kt k b = some r → VR σ ρ b y → Instr.sameNow d x y = some r) : ∀ (es : Ents) (l : List MapEntry) (i : Nat) (r : Option (Nat × V)),
    findV Γ kt k es i = some r → entR σ ρ es l → ∃ r', Instr.findNow d x l i = some r' ∧ FR σ ρ r r'
  | [], l, i, r, h, k => by simp only [findV, Option.some.injEq] at h; subst h; simp only [entR] at k; subst k; exact ⟨none, rfl, rfl⟩
  | (a, v, b) :: es, l, i, r, h, k => by
    simp only [entR] at k
    obtain ⟨a', v', l', rfl, k1, k2, k3⟩ := k
    simp only [findV] at h
    split at h
    · rename_i e
      cases h
      exact ⟨some (i, v'), by simp only [Instr.findNow, hnow e k1], v', rfl, k2⟩
    · rename_i e
      obtain ⟨r', q1, q2⟩ := findNow_ok hnow es l' (i + 1) r h k3
      exact ⟨r', by simp only [Instr.findNow, hnow e k1, q1], q2⟩
    · cases h
theorem findAsk_ok {Γ : Cx} {kt : KT} {t : TypeId} {k : V} {x : Value} (w : World) (hnow : ∀ {b y r}, eqKey Γ kt k b = some r → VR σ ρ b y → (Op.equal t x y).run P w = .ok r w) : ∀ (es : Ents) (l : List MapEntry) (i : Nat) (r : Option (Nat × V)),
    findV Γ kt k es i = some r → entR σ ρ es l → ∃ r', (Instr.findAsking t x l i).run P w = .ok r' w ∧ FR σ ρ r r'
  | [], l, i, r, h, k => by simp only [findV, Option.some.injEq] at h; subst h; simp only [entR] at k; subst k; exact ⟨none, rfl, rfl⟩
  | (a, v, b) :: es, l, i, r, h, k => by
    simp only [entR] at k
    obtain ⟨a', v', l', rfl, k1, k2, k3⟩ := k
    simp only [findV] at h
    split at h
    · rename_i e
      cases h
      exact ⟨some (i, v'), by simp [Instr.findAsking, hnow e k1], v', rfl, k2⟩
    · rename_i e
      obtain ⟨r', q1, q2⟩ := findAsk_ok w hnow es l' (i + 1) r h k3
      exact ⟨r', by simp [Instr.findAsking, hnow e k1, q1], q2⟩
    · cases h
theorem findKey_ok {Γ : Cx} (G : GoodCx σ Γ) {kt : KT} {t : TypeId} {k : V} {x : Value} (w : World) (hk : keyT P t = some kt) {es : Ents} {l : List MapEntry} {r : Option (Nat × V)} (hx : VR σ ρ k x) (h : findV Γ kt k es 0 = some r) (he : entR σ ρ es l) :
    ∃ r', (Instr.findKey t x l).run P w = .ok r' w ∧ FR σ ρ r r' := by
  rcases keyT_ok hk with ⟨rfl, kk, hu⟩ | ⟨rfl, hu⟩ | ⟨fs, rfl, hu, hf, hs⟩
  · obtain ⟨r', q1, q2⟩ := findNow_ok (d := .int kk) (x := x) (by
      intro b y r h1 h2
      unfold eqKey at h1
      simp only [] at h1
      split at h1
      · rename_i k1 m k2 n
        split at h1
        · rename_i e
          have e := eqK_eq e
          subst e
          simp only [VR] at hx h2
          subst hx h2
          have := isE_ok G _ _ _ h1
          simp [Instr.sameNow, beq_dec, this]
        · cases h1
      · cases h1) es l 0 r h he
    exact ⟨r', by simp [Instr.findKey, run_underlying hu, q1], q2⟩
  · obtain ⟨r', q1, q2⟩ := findNow_ok (d := .string) (x := x) (by
      intro b y r h1 h2
      unfold eqKey at h1
      simp only [] at h1
      split at h1
      · rename_i m n
        cases h1
        simp only [VR] at hx h2
        subst hx h2
        simp only [Instr.sameNow, beq_toListBytes, eqText_ok]
      · cases h1) es l 0 r h he
    exact ⟨r', by simp [Instr.findKey, run_underlying hu, q1], q2⟩
  · cases l with
    | nil =>
      cases es with
      | nil => simp only [findV, Option.some.injEq] at h; subst h; exact ⟨none, by simp [Instr.findKey, run_underlying hu, Instr.findNow], rfl⟩
      | cons e es => obtain ⟨a, v, b⟩ := e; simp only [entR] at he; obtain ⟨_, _, _, he, _⟩ := he; cases he
    | cons e l =>
      obtain ⟨r', q1, q2⟩ := findAsk_ok (P := P) (t := t) (x := x) w (fun h1 h2 => eqKey_flat G w hu hf hs h1 hx h2) es (e :: l) 0 r h he
      exact ⟨r', by simp [Instr.findKey, run_underlying hu, Instr.findNow, Instr.sameNow, q1], q2⟩
theorem checkKey_ok {kt : KT} {t : TypeId} {k : V} {x : Value} (w : World) (hk : keyT P t = some kt) (ho : keyOk kt k = true) (hx : VR σ ρ k x) (em : Bool) (n : Nat) : (Instr.checkKey em (n + 2) t x).run P w = .ok () w := by
  rcases keyT_ok hk with ⟨rfl, kk, hu⟩ | ⟨rfl, hu⟩ | ⟨fs, rfl, hu, hf, hs⟩
  · simp [Instr.checkKey, run_underlying hu]
  · simp [Instr.checkKey, run_underlying hu]
  · unfold keyOk at ho
    simp only [] at ho
    split at ho
    · rename_i as
      simp only [Bool.and_eq_true, lenL_eq] at ho
      have hl := beqN ho.1
      simp only [VR] at hx
      obtain ⟨xs, rfl, hx⟩ := hx
      rw [Instr.checkKey]
      simp only [Sem.run_bind, run_underlying hu, Result.andThen_ok]
      rw [← Array.forIn_toList]
      have hlen : xs.size = fs.size := by have := hx.length; simp at this; omega
      have gen : ∀ (body : Field → PUnit → Sem (ForInStep PUnit)), (∀ f i k, P.underlying f.type = some (.int k) → f.offset = i → f.name ≠ "_" → i < xs.size → (body f PUnit.unit).run P w = .ok (.yield PUnit.unit) w) →
          ∀ (l : List Field) (i : Nat), flatInts P l i = true → i + l.length ≤ xs.size → (forIn l PUnit.unit body).run P w = .ok PUnit.unit w := by
        intro body hb l
        induction l with
        | nil => intro i _ _; simp
        | cons f l ih =>
          intro i hfl hle
          obtain ⟨⟨k, hk⟩, hof, hn, hf'⟩ := flat_cons hfl
          simp only [List.length_cons] at hle
          simp only [List.forIn_cons, Sem.run_bind, hb f i k hk hof hn (by omega), Result.andThen_ok]
          exact ih (i + 1) hf' (by omega)
      rw [gen _ ?_ fs.toList 0 hf (by simp; omega)]
      · simp
      intro f i k hk hof hn hlt
      have hg : xs[f.offset]? = some xs[i] := by rw [hof]; exact Array.getElem?_eq_getElem (by omega)
      have hc : (Instr.checkKey em (n + 1) f.type xs[i]).run P w = .ok () w := by simp [Instr.checkKey, run_underlying hk]
      simp [hn, part, int_not_agg w hk, hg, hc]
    · cases ho
end
end Tk
