/- The evaluator's heap held against the model's: reading, writing, new blocks. -/
import Derived.Test.YtphhnhheedbjjaaGreatDoorEvRel
set_option linter.unusedVariables false
namespace Tk
open Go Go.RowKit

/- pieces -/
def Shape (sz : Nat) : List (List V) → Prop
  | [] => True
  | [c] => c.length ≤ sz
  | c :: d :: rest => c.length = sz ∧ Shape sz (d :: rest)
theorem Shape.tail {sz : Nat} {c : List V} {rest : List (List V)} (h : Shape sz (c :: rest)) : Shape sz rest := by
  cases rest with
  | nil => trivial
  | cons d r => exact h.2
theorem Shape.head {sz : Nat} {c : List V} {rest : List (List V)} (h : Shape sz (c :: rest)) : c.length ≤ sz ∧ (rest ≠ [] → c.length = sz) := by
  cases rest with
  | nil => exact ⟨h, fun k => absurd rfl k⟩
  | cons d r => exact ⟨Nat.le_of_eq h.1, fun _ => h.1⟩
theorem Shape.cons {sz : Nat} {c : List V} {rest : List (List V)} (hr : Shape sz rest) (h1 : c.length ≤ sz) (h2 : rest ≠ [] → c.length = sz) : Shape sz (c :: rest) := by
  cases rest with
  | nil => exact h1
  | cons d r => exact ⟨h2 (by simp), hr⟩
theorem flat_len (c : List V) (rest : List (List V)) : (c :: rest).flatten.length = c.length + rest.flatten.length := by rw [List.flatten_cons, List.length_append]
theorem shape_drop {sz : Nat} : ∀ (q : Nat) {cs : List (List V)}, Shape sz cs → Shape sz (cs.drop q) ∧ (cs.drop q).flatten = cs.flatten.drop (q * sz)
  | 0, cs, h => by simpa using h
  | q + 1, [], h => by simp [Shape]
  | q + 1, c :: rest, h => by
    obtain ⟨h1, h2⟩ := shape_drop q h.tail
    refine ⟨h1, ?_⟩
    simp only [List.drop_succ_cons, List.flatten_cons, h2]
    cases rest with
    | nil =>
      have := h.head.1
      rw [List.drop_eq_nil_of_le (by simp), List.drop_eq_nil_of_le (by
        simp only [List.flatten_nil, List.append_nil]
        have : sz ≤ (q + 1) * sz := Nat.le_mul_of_pos_left _ (by omega)
        omega)]
    | cons d r =>
      have hc := h.1
      have hle : c.length ≤ (q + 1) * sz := by rw [hc]; exact Nat.le_mul_of_pos_left _ (by omega)
      rw [List.drop_append, List.drop_eq_nil_of_le (as := c) hle, List.nil_append]
      congr 1
      rw [hc, Nat.add_mul]; omega
theorem gather_cons (c : List V) (rest : List (List V)) (off n : Nat) : gather (c :: rest) off n =
    match Nat.ble n (lenL (dropL c off)) with
      | true => some (takeL (dropL c off) n)
      | false => match gather rest 0 (n - lenL (dropL c off)) with
        | some r => some (appL (dropL c off) r)
        | none => none := rfl
theorem gather_nil (off n : Nat) : gather [] off n = (Nat.rec (some []) (fun _ _ => none) n : Option (List V)) := rfl
theorem gather_spec {sz : Nat} : ∀ (cs : List (List V)) (off n : Nat) (l : List V), Shape sz cs → off < sz → gather cs off n = some l →
    l.length = n ∧ (n ≠ 0 → off + n ≤ cs.flatten.length) ∧ l = (cs.flatten.drop off).take n
  | [], off, 0, l, _, _, h => by rw [gather_nil] at h; cases h; simp
  | [], off, n + 1, l, _, _, h => by rw [gather_nil] at h; cases h
  | c :: rest, off, n, l, hs, hoff, h => by
    rw [gather_cons, dropL_eq, lenL_eq, takeL_eq] at h
    cases hb : Nat.ble n (c.drop off).length with
    | true =>
      rw [hb] at h
      have hle := bleN hb
      simp only [Option.some.injEq] at h
      subst h
      rw [List.length_drop] at hle
      refine ⟨by simp [List.length_take]; omega, fun hn => by rw [flat_len]; omega, ?_⟩
      rw [List.flatten_cons, List.drop_append, List.take_append_of_le_length (by simp; omega)]
    | false =>
      rw [hb] at h
      have hlt := bleF hb
      simp only [] at h
      cases hg : gather rest 0 (n - (c.drop off).length) with
      | none => rw [hg] at h; cases h
      | some r =>
        rw [hg] at h
        simp only [Option.some.injEq, appL_eq] at h
        subst h
        have hsz : 0 < sz := by omega
        obtain ⟨i1, i2, i3⟩ := gather_spec rest 0 _ r hs.tail hsz hg
        rw [List.length_drop] at hlt hg i1 i2 i3
        have hrest : rest ≠ [] := by
          rintro rfl
          have : n - (c.length - off) ≠ 0 := by omega
          have := i2 this
          simp at this
          omega
        have hc := hs.head.2 hrest
        have hn2 := i2 (by omega)
        refine ⟨by rw [List.length_append, List.length_drop, i1]; omega, fun hn => by rw [flat_len]; omega, ?_⟩
        rw [List.flatten_cons, List.drop_append_of_le_length (by omega), List.take_append, List.length_drop, i3]
        rw [List.take_of_length_le (l := c.drop off) (by rw [List.length_drop]; omega), List.drop_zero]
theorem scatter_cons (c : List V) (rest : List (List V)) (off : Nat) (vs : List V) : scatter (c :: rest) off vs =
    match Nat.ble (lenL vs) (lenL c - off) with
      | true => some (appL (takeL c off) (appL vs (dropL c (off + lenL vs))) :: rest)
      | false => match scatter rest 0 (dropL vs (lenL c - off)) with
        | some r => some (appL (takeL c off) (takeL vs (lenL c - off)) :: r)
        | none => none := rfl
theorem scatter_nil (off : Nat) (vs : List V) : scatter [] off vs = match vs with | [] => some [] | _ :: _ => none := rfl
theorem scatter_spec {sz : Nat} : ∀ (cs : List (List V)) (off : Nat) (vs : List V) (cs' : List (List V)), Shape sz cs → off < sz → scatter cs off vs = some cs' →
    Shape sz cs' ∧ cs'.length = cs.length ∧ (vs ≠ [] → off + vs.length ≤ cs.flatten.length) ∧ cs'.flatten = cs.flatten.take off ++ vs ++ cs.flatten.drop (off + vs.length)
  | [], off, [], cs', _, _, h => by
    rw [scatter_nil] at h
    simp only [Option.some.injEq] at h
    subst h
    exact ⟨trivial, rfl, fun k => absurd rfl k, by simp⟩
  | [], off, v :: vs, cs', _, _, h => by rw [scatter_nil] at h; cases h
  | c :: rest, off, vs, cs', hs, hoff, h => by
    rw [scatter_cons, lenL_eq, lenL_eq, appL_eq, appL_eq, appL_eq, takeL_eq, takeL_eq, dropL_eq, dropL_eq] at h
    cases hb : Nat.ble vs.length (c.length - off) with
    | true =>
      rw [hb] at h
      have hle := bleN hb
      simp only [Option.some.injEq] at h
      subst h
      by_cases hv : vs = []
      · subst hv
        have e : (c.take off ++ ([] ++ c.drop (off + ([] : List V).length))) = c := by simp
        rw [e]
        exact ⟨hs, rfl, fun k => absurd rfl k, by simp⟩
      have hpos : 0 < vs.length := List.length_pos_iff.2 hv
      have hlen : (c.take off ++ (vs ++ c.drop (off + vs.length))).length = c.length := by simp; omega
      refine ⟨Shape.cons hs.tail (by rw [hlen]; exact hs.head.1) (fun k => by rw [hlen]; exact hs.head.2 k), by simp, fun _ => by rw [flat_len]; omega, ?_⟩
      rw [List.flatten_cons, List.flatten_cons, List.take_append_of_le_length (by omega), List.drop_append_of_le_length (by omega)]
      simp
    | false =>
      rw [hb] at h
      have hlt := bleF hb
      simp only [] at h
      cases hg : scatter rest 0 (vs.drop (c.length - off)) with
      | none => rw [hg] at h; cases h
      | some r =>
        rw [hg] at h
        simp only [Option.some.injEq] at h
        subst h
        have hsz : 0 < sz := by omega
        obtain ⟨i1, il, i2, i3⟩ := scatter_spec rest 0 _ r hs.tail hsz hg
        have hne : vs.drop (c.length - off) ≠ [] := by
          intro k; have := congrArg List.length k; simp at this; omega
        have h2 := i2 hne
        simp only [List.length_drop, Nat.zero_add] at h2
        have hrest : rest ≠ [] := by
          rintro rfl; simp at h2; omega
        have hc := hs.head.2 hrest
        have hr : r ≠ [] := by
          rintro rfl; simp at il; exact hrest (by simpa using il.symm)
        have hlen : (c.take off ++ vs.take (c.length - off)).length = c.length := by simp; omega
        refine ⟨Shape.cons i1 (by rw [hlen]; exact hs.head.1) (fun k => by rw [hlen]; exact hs.head.2 hrest), by simp [il], fun _ => by rw [flat_len]; omega, ?_⟩
        rw [List.flatten_cons, List.flatten_cons, i3]
        simp only [List.take_zero, List.nil_append, List.length_drop, Nat.zero_add]
        rw [List.take_append_of_le_length (by omega), List.drop_append]
        rw [List.drop_eq_nil_of_le (as := c) (by omega)]
        simp only [List.append_assoc, List.nil_append]
        congr 1
        rw [← List.append_assoc, List.take_append_drop]
        congr 2
        omega
theorem scatterAt_cons_zero (c : List V) (rest : List (List V)) (off : Nat) (vs : List V) : scatterAt (c :: rest) 0 off vs = scatter (c :: rest) off vs := rfl
theorem scatterAt_cons_succ (c : List V) (rest : List (List V)) (q off : Nat) (vs : List V) : scatterAt (c :: rest) (q + 1) off vs = match scatterAt rest q off vs with
      | some r => some (c :: r)
      | none => none := rfl
theorem scatterAt_nil (q off : Nat) (vs : List V) : scatterAt [] q off vs = (Nat.rec (scatter [] off vs) (fun _ _ => none) q : Option (List (List V))) := rfl
theorem scatterAt_spec {sz : Nat} : ∀ (cs : List (List V)) (q off : Nat) (vs : List V) (cs' : List (List V)), Shape sz cs → off < sz → scatterAt cs q off vs = some cs' →
    Shape sz cs' ∧ cs'.length = cs.length ∧ (vs ≠ [] → q * sz + off + vs.length ≤ cs.flatten.length) ∧ cs'.flatten = cs.flatten.take (q * sz + off) ++ vs ++ cs.flatten.drop (q * sz + off + vs.length)
  | cs, 0, off, vs, cs', hs, hoff, h => by
    have h' : scatter cs off vs = some cs' := by cases cs <;> exact h
    simpa using scatter_spec cs off vs cs' hs hoff h'
  | [], q + 1, off, vs, cs', _, _, h => by rw [scatterAt_nil] at h; cases h
  | c :: rest, q + 1, off, vs, cs', hs, hoff, h => by
    rw [scatterAt_cons_succ] at h
    cases hg : scatterAt rest q off vs with
    | none => rw [hg] at h; cases h
    | some r =>
      rw [hg] at h
      simp only [Option.some.injEq] at h
      subst h
      obtain ⟨i1, il, i2, i3⟩ := scatterAt_spec rest q off vs r hs.tail hoff hg
      by_cases hrest : rest = []
      · subst hrest
        have hr : r = [] := by simpa using il
        subst hr
        have hv : vs = [] := by
          by_cases hv : vs = []
          · exact hv
          · have h3 := i2 hv; have h4 := List.length_pos_iff.2 hv; simp only [List.flatten_nil, List.length_nil] at h3; omega
        subst hv
        refine ⟨hs, rfl, fun k => absurd rfl k, by simp⟩
      · have hc := hs.head.2 hrest
        have hr : r ≠ [] := by
          rintro rfl; simp at il; exact hrest (by simpa using il.symm)
        have e : (q + 1) * sz + off = c.length + (q * sz + off) := by rw [hc, Nat.add_mul]; omega
        refine ⟨Shape.cons i1 hs.head.1 (fun _ => hc), by simp [il], fun hv => by have := i2 hv; rw [flat_len]; omega, ?_⟩
        rw [List.flatten_cons, List.flatten_cons, i3, e]
        rw [List.take_append, List.drop_append]
        rw [List.take_of_length_le (l := c) (by omega), List.drop_eq_nil_of_le (as := c) (by omega)]
        simp only [List.append_assoc, List.nil_append]
        congr 3
        · omega
        · congr 1; omega
theorem chunk_spec (sz : Nat) (hsz : 0 < sz) : ∀ (f : Nat) (l : List V), l.length ≤ f → Shape sz (chunk f sz l) ∧ (chunk f sz l).flatten = l
  | 0, l, h => by have : l = [] := List.length_eq_zero_iff.1 (by omega); subst this; simp [chunk, Shape]
  | f + 1, [], h => by simp [chunk, Shape]
  | f + 1, a :: l, h => by
    have e : chunk (f + 1) sz (a :: l) = (a :: l).take sz :: chunk f sz ((a :: l).drop sz) := by rw [chunk, takeL_eq, dropL_eq]
    obtain ⟨i1, i2⟩ := chunk_spec sz hsz f ((a :: l).drop sz) (by simp at h ⊢; omega)
    rw [e]
    refine ⟨Shape.cons i1 (by simp; omega) (fun k => ?_), by rw [List.flatten_cons, i2, List.take_append_drop]⟩
    have : (a :: l).drop sz ≠ [] := by
      intro hn; rw [hn] at k; apply k; cases f <;> simp [chunk]
    have := List.length_pos_iff.2 this
    simp at this ⊢; omega

/- the relation -/
def entR (σ : Nat → Int) (ρ : Inj) : Ents → List MapEntry → Prop
  | [], l => l = []
  | (k, v, b) :: es, l => ∃ k' v' l', l = { key := k', val := v', born := b } :: l' ∧ VR σ ρ k k' ∧ VR σ ρ v v' ∧ entR σ ρ es l'
theorem entR.mono {σ : Nat → Int} {ρ ρ' : Inj} (hx : Ext ρ ρ') : ∀ {es : Ents} {l : List MapEntry}, entR σ ρ es l → entR σ ρ' es l
  | [], l, h => by simpa only [entR] using h
  | (k, v, b) :: es, l, h => by
    simp only [entR] at h ⊢
    obtain ⟨k', v', l', h1, h2, h3, h4⟩ := h
    exact ⟨k', v', l', h1, VR.mono hx _ _ h2, VR.mono hx _ _ h3, entR.mono hx h4⟩
def Ob.rows : Ob → List V
  | .cells _ cs _ => cs.flatten
  | _ => []
def Ob.free : Ob → Bool
  | .cells _ _ true => false
  | _ => true
/-- a row of cells; k: an argument's, that may be frozen in part -/
def RowAt (W : World) (b : Nat) (C : Array Value) (e : TypeId) (k : Bool) : Prop :=
  ∃ z : Nat × Nat, W.heap[b]? = some (.cells C e z) ∧ (k = false → z = (0, 0))
theorem RowAt.mk {W : World} {b : Nat} {C : Array Value} {e : TypeId} {k : Bool} (h : W.heap[b]? = some (.cells C e (0, 0))) : RowAt W b C e k := ⟨_, h, fun _ => rfl⟩
theorem RowAt.free {W : World} {b : Nat} {C : Array Value} {e : TypeId} (h : RowAt W b C e false) : W.heap[b]? = some (.cells C e (0, 0)) := by
  obtain ⟨z, h1, h2⟩ := h
  rw [h1, h2 rfl]
theorem RowAt.to {W W' : World} {b : Nat} {C : Array Value} {e : TypeId} {k : Bool} (hw : W'.heap[b]? = W.heap[b]?) (h : RowAt W b C e k) : RowAt W' b C e k := by
  obtain ⟨z, h1, h2⟩ := h
  exact ⟨z, hw.trans h1, h2⟩
def ObR (σ : Nat → Int) (ρ : Inj) (W : World) (l : Loc) : Ob → Prop
  | .cells sz cs ro => ∃ C e, RowAt W l.blk C e (ro && Nat.beq sz argSz) ∧ (l.base + l.tot ≤ C.size ∧ ((ro && Nat.beq sz argSz) = false → C.size = l.base + l.tot)) ∧ Shape sz cs ∧ cs.flatten.length ≤ l.tot ∧ VRs σ ρ cs.flatten ((C.toList.drop l.base).take cs.flatten.length)
  | .map es clock => ∃ es', W.heap[l.blk]? = some (.map es' clock) ∧ entR σ ρ es es'.toList
  | .mapIter m since seen stepped => W.heap[l.blk]? = some (.mapIter (m.bind fun r => (ρ r).map (·.blk)) since seen.toArray stepped) ∧ (∀ r, m = some r → ∃ l', ρ r = some l') ∧ l.base = 0
  | .strIter s pos => W.heap[l.blk]? = some (.stringIter (bytesA s) pos) ∧ l.base = 0
theorem ObR.mono {σ : Nat → Int} {ρ ρ' : Inj} {W W' : World} {l : Loc} {o : Ob} (hx : Ext ρ ρ') (hw : W'.heap[l.blk]? = W.heap[l.blk]?) (h : ObR σ ρ W l o) : ObR σ ρ' W' l o := by
  cases o with
  | cells sz cs ro =>
    obtain ⟨C, e, h1, h2, h3, h4, h5⟩ := h
    exact ⟨C, e, h1.to hw, h2, h3, h4, VRs.mono hx _ _ h5⟩
  | map es clock =>
    obtain ⟨es', h1, h2⟩ := h
    exact ⟨es', hw ▸ h1, entR.mono hx h2⟩
  | mapIter m since seen stepped =>
    obtain ⟨h1, h2, h3⟩ := h
    refine ⟨?_, fun r hr => let ⟨l', hl⟩ := h2 r hr; ⟨l', hx _ _ hl⟩, h3⟩
    rw [hw, h1]
    cases m with
    | none => rfl
    | some r => obtain ⟨l', hl⟩ := h2 r rfl; simp [hl, hx _ _ hl]
  | strIter s pos => exact ⟨hw.trans h.1, h.2⟩

/-- an argument's row -/
noncomputable def Ob.arg : Ob → Bool
  | .cells sz _ true => Nat.beq sz argSz
  | _ => false
/-- what is made lies behind what was there; an argument's row was there -/
def Place (W0 : World) (o : Ob) (l : Loc) : Prop := (o.free = true → W0.heap.size ≤ l.blk) ∧ (o.arg = true → l.blk < W0.heap.size)
theorem Ob.arg_free {o : Ob} (h : o.free = true) : o.arg = false := by
  cases o with
  | cells sz cs ro => cases ro <;> simp_all [Ob.free, Ob.arg]
  | _ => rfl
theorem Place.mk {W0 : World} {o : Ob} {l : Loc} (hf : o.free = true) (h : W0.heap.size ≤ l.blk) : Place W0 o l := ⟨fun _ => h, fun k => by rw [Ob.arg_free hf] at k; cases k⟩
/-- two blocks of the evaluator's do not touch -/
def Apart (o o' : Ob) (l l' : Loc) : Prop :=
  l.blk ≠ l'.blk ∨ (o.free = false ∧ o'.free = false ∧ ((l.base + o.rows.length ≤ l'.base ∨ l'.base + o'.rows.length ≤ l.base) ∨ o.arg = true ∨ o'.arg = true))
structure Rel (σ : Nat → Int) (W0 : World) (ρ : Inj) (h : H) (W : World) : Prop where
  below : Below W0.heap.size W0 W
  dom : ∀ r, h.next ≤ r → ρ r = none
  blk : ∀ r l, ρ r = some l → l.blk < W.heap.size
  obs : ∀ r o l, h.tr.get r = some o → ρ r = some l → ObR σ ρ W l o ∧ Place W0 o l
  apart : ∀ r r' o o' l l', h.tr.get r = some o → h.tr.get r' = some o' → r ≠ r' → ρ r = some l → ρ r' = some l' → Apart o o' l l'
/-- the blocks that the evaluator knows -/
def Known (ρ : Inj) (h : H) (b : Nat) : Prop := ∃ r o l, h.tr.get r = some o ∧ ρ r = some l ∧ l.blk = b
structure Stp (σ : Nat → Int) (W0 : World) (ρ : Inj) (h : H) (W : World) (ρ' : Inj) (h' : H) (W' : World) : Prop where
  ext : Ext ρ ρ'
  rel : Rel σ W0 ρ' h' W'
  own : ∀ b, Known ρ' h' b → W.heap.size ≤ b ∨ Known ρ h b
  frame : ∀ b, b < W.heap.size → ¬ Known ρ h b → W'.heap[b]? = W.heap[b]?
  size : W.heap.size ≤ W'.heap.size
  next : h.next ≤ h'.next
  low : ∀ k, k < h.next → ρ' k = ρ k
theorem Stp.refl {σ : Nat → Int} {W0 : World} {ρ : Inj} {h : H} {W : World} (r : Rel σ W0 ρ h W) : Stp σ W0 ρ h W ρ h W :=
  ⟨Ext.refl _, r, fun _ k => .inr k, fun _ _ _ => rfl, Nat.le_refl _, Nat.le_refl _, fun _ _ => rfl⟩
theorem Stp.trans {σ : Nat → Int} {W0 : World} {ρ ρ₁ ρ₂ : Inj} {h h₁ h₂ : H} {W W₁ W₂ : World} (a : Stp σ W0 ρ h W ρ₁ h₁ W₁) (b : Stp σ W0 ρ₁ h₁ W₁ ρ₂ h₂ W₂) : Stp σ W0 ρ h W ρ₂ h₂ W₂ where
  ext := a.ext.trans b.ext
  rel := b.rel
  own := fun x k => by
    rcases b.own x k with k | k
    · exact .inl (Nat.le_trans a.size k)
    · exact a.own x k
  frame := fun x hx hk => by
    have hk1 : ¬ Known ρ₁ h₁ x := fun k => by
      rcases a.own x k with k | k
      · omega
      · exact hk k
    rw [b.frame x (Nat.lt_of_lt_of_le hx a.size) hk1, a.frame x hx hk]
  size := Nat.le_trans a.size b.size
  next := Nat.le_trans a.next b.next
  low := fun k hk => (b.low k (Nat.lt_of_lt_of_le hk a.next)).trans (a.low k hk)

section
variable {σ : Nat → Int} {W0 : World} {ρ : Inj} {h : H} {W : World}
theorem add_off (a b n : Nat) : (⟨a, b, none⟩ : Addr).add n = ⟨a, b + n, none⟩ := by unfold Addr.add; split <;> simp_all
theorem cell_at {C : Array Value} {e : TypeId} {fz : Nat × Nat} {b o : Nat} (hb : W.heap[b]? = some (.cells C e fz)) : W.cell? ⟨b, o, none⟩ = C[o]? := by simp [World.cell?, hb]

/-- WHAT IS READ. -/
theorem read_ok (R : Rel σ W0 ρ h W) {r o n : Nat} {l : List V} (hr : h.read r o n = some l) (hk : ∃ L, ρ r = some L) :
    ∃ L C e xs, ρ r = some L ∧ (∃ z : Nat × Nat, W.heap[L.blk]? = some (.cells C e z) ∧ (isArg h r = false → z = (0, 0))) ∧ VRs σ ρ l xs ∧ xs.length = n ∧ l.length = n ∧ (n ≠ 0 → L.base + o + n ≤ C.size) ∧
      (∀ (j : Nat) (x : Value), xs[j]? = some x → W.cell? ((⟨L.blk, L.base + o, none⟩ : Addr).add j) = some x) := by
  unfold H.read at hr
  split at hr
  · rename_i sz cs ro hg
    split at hr
    · cases hr
    · rename_i s
      obtain ⟨L, hL⟩ := hk
      obtain ⟨hO, _⟩ := R.obs r _ L hg hL
      obtain ⟨C, e, ⟨z, h1, hz⟩, h2, h3, h4, h5⟩ := hO
      rw [dropL_eq] at hr
      obtain ⟨d1, d2⟩ := shape_drop (o / (s + 1)) h3
      obtain ⟨g1, g2, g3⟩ := gather_spec _ _ _ l d1 (Nat.mod_lt _ (by omega)) hr
      rw [d2, List.drop_drop, Nat.mul_comm, Nat.div_add_mod] at g3
      have g2' : n ≠ 0 → o + n ≤ cs.flatten.length := fun hn => by
        have t1 := g2 hn
        rw [d2, List.length_drop, Nat.mul_comm] at t1
        have t2 := Nat.div_add_mod o (s + 1)
        generalize (s + 1) * (o / (s + 1)) = q at *
        generalize o % (s + 1) = m at *
        omega
      have hx : VRs σ ρ l ((((C.toList.drop L.base).take cs.flatten.length).drop o).take n) := by rw [g3]; exact (h5.drop o).take n
      refine ⟨L, C, e, _, hL, ⟨z, h1, fun k => hz (by simpa only [isArg, hg] using k)⟩, hx, ?_, g1, fun hn => by have := g2' hn; omega, ?_⟩
      · rw [hx.length, g1]
      · intro j x hj
        rw [add_off, cell_at h1]
        rw [List.getElem?_take] at hj
        split at hj
        · rw [List.getElem?_drop, List.getElem?_take] at hj
          split at hj
          · rw [List.getElem?_drop] at hj
            rw [← hj, Array.getElem?_toList]
            congr 1
            omega
          · cases hj
        · cases hj
  · cases hr

theorem scalar_one : ∀ {v : V} {x : Value}, VR σ ρ v x → v.scalar = true → x.oneCell' = true := by
  intro v x hv hs
  cases v <;> simp only [VR, V.scalar] at hv hs <;> first
    | (subst hv; rfl)
    | (cases hs; done)
    | (obtain ⟨_, _, rfl⟩ := hv; rfl)
    | (obtain ⟨_, _, _, rfl, _⟩ := hv; rfl)
    | (obtain ⟨_, _, rfl, _⟩ := hv; rfl)
    | (obtain ⟨_, rfl, _⟩ := hv; rfl)
    | (obtain ⟨_, _, _, _, _, rfl⟩ := hv; rfl)
theorem scalars_one : ∀ {vs : List V} {xs : List Value}, VRs σ ρ vs xs → vs.all V.scalar = true → ∀ x ∈ xs, x.oneCell' = true
  | [], xs, hv, _ => by simp only [VRs] at hv; subst hv; simp
  | v :: vs, xs, hv, hs => by
    simp only [VRs] at hv
    obtain ⟨x, l, rfl, h1, h2⟩ := hv
    simp only [List.all_cons, Bool.and_eq_true] at hs
    intro y hy
    rcases List.mem_cons.1 hy with rfl | hy
    · exact scalar_one h1 hs.1
    · exact scalars_one h2 hs.2 y hy

theorem setRow_size (w : World) (g : Nat) (c : Array Value) : (w.setRow g c).heap.size = w.heap.size := by simp [World.setRow]
theorem setRow_other (w : World) (g : Nat) (c : Array Value) (k : Nat) (hk : k ≠ g) : (w.setRow g c).heap[k]? = w.heap[k]? := by
  simp only [World.setRow, Array.getElem?_modify]
  rw [if_neg (by omega)]

/-- WHAT COMES OF ANOTHER OBJECT IN THE PLACE OF ONE (of a block that is the call's own). -/
theorem put_ok (R : Rel σ W0 ρ h W) {r : Nat} {ob ob' : Ob} {L : Loc} {W' : World} (hg : h.tr.get r = some ob) (hL : ρ r = some L) (hf : ob.free = true) (hf' : ob'.free = true)
    (hW : W'.heap.size = W.heap.size) (hos : W'.os = W.os) (hta : W'.tape = W.tape) (hou : W'.output = W.output) (hoth : ∀ k, k ≠ L.blk → W'.heap[k]? = W.heap[k]?) (hob : ObR σ ρ W' L ob') :
    Stp σ W0 ρ h W ρ { tr := h.tr.set r ob', next := h.next } W' := by
  have hown : W0.heap.size ≤ L.blk := by
    exact (R.obs r ob L hg hL).2.1 hf
  refine ⟨Ext.refl _, ?_, ?_, ?_, Nat.le_of_eq hW.symm, Nat.le_refl _, fun _ _ => rfl⟩
  · refine ⟨?_, R.dom, fun r' l hl => by rw [hW]; exact R.blk r' l hl, ?_, ?_⟩
    · refine ⟨hos.trans R.below.os, hta.trans R.below.tape, hou.trans R.below.output, by rw [hW]; exact R.below.size, fun k hk => ?_⟩
      rw [hoth k (by omega)]; exact R.below.block k hk
    · intro r' o' l' hg' hl'
      rw [Tr.get_set] at hg'
      split at hg'
      · rename_i e
        subst e
        cases hg'
        rw [hL] at hl'; cases hl'
        exact ⟨hob, Place.mk hf' hown⟩
      · rename_i hne
        obtain ⟨hO, hfr⟩ := R.obs r' o' l' hg' hl'
        refine ⟨ObR.mono (Ext.refl _) (hoth _ ?_) hO, hfr⟩
        rcases R.apart r r' ob o' L l' hg hg' hne hL hl' with hap | ⟨hap, _⟩
        · exact fun e => hap e.symm
        · rw [hf] at hap; cases hap
    · intro r1 r2 o1 o2 l1 l2 h1 h2 hne hl1 hl2
      rw [Tr.get_set] at h1 h2
      by_cases e1 : r = r1
      · subst e1
        rw [if_pos rfl] at h1
        cases h1
        rw [if_neg hne] at h2
        rw [hL] at hl1; cases hl1
        rcases R.apart r r2 ob o2 L l2 hg h2 hne hL hl2 with hap | ⟨hap, _⟩
        · exact .inl hap
        · rw [hf] at hap; cases hap
      · rw [if_neg e1] at h1
        by_cases e2 : r = r2
        · subst e2
          rw [if_pos rfl] at h2
          cases h2
          rw [hL] at hl2; cases hl2
          rcases R.apart r1 r o1 ob l1 L h1 hg hne hl1 hL with hap | ⟨_, hap, _⟩
          · exact .inl hap
          · rw [hf] at hap; cases hap
        · rw [if_neg e2] at h2
          exact R.apart r1 r2 o1 o2 l1 l2 h1 h2 hne hl1 hl2
  · rintro b ⟨r', o', l', hg', hl', rfl⟩
    rw [Tr.get_set] at hg'
    split at hg'
    · rename_i e
      subst e
      rw [hL] at hl'; cases hl'
      exact .inr ⟨r, ob, L, hg, hL, rfl⟩
    · exact .inr ⟨r', o', l', hg', hl', rfl⟩
  · intro b _ hk
    exact hoth b (fun e => hk ⟨r, ob, L, hg, hL, e.symm⟩)

/-- WHAT IS WRITTEN. -/
theorem write_ok (R : Rel σ W0 ρ h W) {r o : Nat} {vs : List V} {xs : List Value} {h' : H} (hw : h.write r o vs = some h') (hk : ∃ L, ρ r = some L) (hv : VRs σ ρ vs xs) (P : Program) :
    ∃ L C e W', ρ r = some L ∧ W.heap[L.blk]? = some (.cells C e (0, 0)) ∧ (vs ≠ [] → L.base + o + vs.length ≤ C.size) ∧ (storeCells ⟨L.blk, L.base + o, none⟩ xs).run P W = .ok () W' ∧ Stp σ W0 ρ h W ρ h' W' := by
  unfold H.write at hw
  split at hw
  · rename_i hall
    rw [allL_eq] at hall
    split at hw
    · rename_i sz cs hg
      split at hw
      · cases hw
      · rename_i s
        split at hw
        · rename_i cs' hsc
          simp only [Option.some.injEq] at hw
          subst hw
          obtain ⟨L, hL⟩ := hk
          obtain ⟨hO, _⟩ := R.obs r _ L hg hL
          obtain ⟨C, e, h1, h2, h3, h4, h5⟩ := hO
          have h1 := h1.free
          obtain ⟨s1, _, s2, s3⟩ := scatterAt_spec cs _ _ vs cs' h3 (Nat.mod_lt _ (by omega)) hsc
          have ho : o / (s + 1) * (s + 1) + o % (s + 1) = o := by rw [Nat.mul_comm]; exact Nat.div_add_mod _ _
          rw [ho] at s2 s3
          have hx1 := scalars_one hv hall
          have hlen := hv.length
          by_cases hvs : vs = []
          · subst hvs
            have hxs : xs = [] := by simpa using hlen
            subst hxs
            simp only [List.append_nil, List.length_nil, Nat.add_zero, List.take_append_drop] at s3
            refine ⟨L, C, e, W, hL, h1, fun k => absurd rfl k, rfl, ?_⟩
            refine put_ok R hg hL rfl rfl rfl rfl rfl rfl (fun _ _ => rfl) ?_
            exact ⟨C, e, RowAt.mk h1, h2, s1, by rw [s3]; exact h4, by rw [s3]; exact h5⟩
          · have hle := s2 hvs
            have hfit : L.base + o + 0 + xs.length ≤ C.size := by omega
            have hrun := run_storeCells_at P L.blk (L.base + o) e xs 0 C W h1 hfit hx1
            simp only [Nat.add_zero] at hrun
            refine ⟨L, C, e, _, hL, h1, fun _ => by omega, hrun, ?_⟩
            refine put_ok R hg hL rfl rfl (setRow_size ..) rfl rfl rfl (fun k hk => setRow_other _ _ _ _ hk) ?_
            have hsz : (C.toList.take (L.base + o) ++ xs ++ C.toList.drop (L.base + o + xs.length)).length = C.size := by simp; omega
            have hfl : cs'.flatten.length = cs.flatten.length := by
              rw [s3, List.length_append, List.length_append, List.length_take, List.length_drop]; omega
            refine ⟨_, e, RowAt.mk (setRow_heap W L.blk C _ e (0, 0) h1), (have h2' := h2.2 rfl; have q : (C.toList.take (L.base + o) ++ xs ++ C.toList.drop (L.base + o + xs.length)).toArray.size = L.base + L.tot := (by simpa using hsz.trans h2'); ⟨by omega, fun _ => q⟩), s1, by omega, ?_⟩
            rw [hfl]
            have e1 : ((C.toList.take (L.base + o) ++ xs ++ C.toList.drop (L.base + o + xs.length)).toArray.toList.drop L.base).take cs.flatten.length =
                (((C.toList.drop L.base).take cs.flatten.length).take o) ++ xs ++ (((C.toList.drop L.base).take cs.flatten.length).drop (o + vs.length)) := by
              apply List.ext_getElem?
              intro j
              have hcl : C.toList.length = C.size := by simp
              simp only [List.getElem?_append, List.getElem?_take, List.getElem?_drop, List.length_take, List.length_drop, List.length_append, hlen, hcl]
              by_cases c1 : j < o
              · rw [if_pos (by omega), if_pos (by omega), if_pos (by omega), if_pos (by omega), if_pos (by omega), if_pos (by omega), if_pos (by omega), if_pos (by omega)]
              · by_cases c2 : j < o + vs.length
                · rw [if_pos (by omega), if_pos (by omega), if_neg (by omega), if_pos (by omega), if_neg (by omega)]
                  congr 1; omega
                · by_cases c3 : j < cs.flatten.length
                  · rw [if_pos (by omega), if_neg (by omega), if_neg (by omega), if_pos (by omega)]
                    congr 1; omega
                  · rw [if_neg (by omega), if_neg (by omega), if_neg (by omega)]
            rw [e1, s3]
            exact ((h5.take o).append hv).append (h5.drop _)
        · cases hw
    · cases hw
  · cases hw

/-- WHAT IS MADE: a new block. -/
def Inj.plus (ρ : Inj) (r : Nat) (L : Loc) : Inj := fun k => if k = r then some L else ρ k
theorem alloc_rel (R : Rel σ W0 ρ h W) (ob : Ob) (obj : Obj) (L : Loc) (hb : L.blk = W.heap.size) (hf : ob.free = true)
    (hO : ObR σ (ρ.plus h.next L) (W.alloc obj) L ob) : Stp σ W0 ρ h W (ρ.plus h.next L) (h.new ob) (W.alloc obj) := by
  have hx : Ext ρ (ρ.plus h.next L) := fun r l hl => by
    have : r ≠ h.next := fun e => by rw [e, R.dom _ (Nat.le_refl _)] at hl; cases hl
    simp [Inj.plus, this, hl]
  have hs : (W.alloc obj).heap.size = W.heap.size + 1 := Array.size_push ..
  have hold : ∀ r l, r ≠ h.next → (ρ.plus h.next L) r = some l → ρ r = some l := fun r l hr hl => by simpa [Inj.plus, hr] using hl
  have hnew : (ρ.plus h.next L) h.next = some L := by simp [Inj.plus]
  refine ⟨hx, ?_, ?_, fun b hb' _ => heap_alloc_old W obj b hb', by omega, by simp [H.new], fun k hk => by simp only [Inj.plus]; rw [if_neg (by omega)]⟩
  · refine ⟨R.below.alloc R.below.size obj, fun r hr => ?_, fun r l hl => ?_, ?_, ?_⟩
    · have : r ≠ h.next := by simp [H.new] at hr; omega
      simp only [Inj.plus, this, if_false]
      exact R.dom r (by simp [H.new] at hr; omega)
    · by_cases e : r = h.next
      · subst e; rw [hnew] at hl; cases hl; omega
      · have := R.blk r l (hold r l e hl); omega
    · intro r o l hg hl
      simp only [H.new, Tr.get_set] at hg
      split at hg
      · rename_i e
        subst e
        cases hg
        rw [hnew] at hl; cases hl
        exact ⟨hO, Place.mk hf (by rw [hb]; exact R.below.size)⟩
      · rename_i hne
        have hl := hold r l (fun e => hne e.symm) hl
        obtain ⟨hO', hfr⟩ := R.obs r o l hg hl
        exact ⟨ObR.mono hx (heap_alloc_old W obj _ (R.blk r l hl)) hO', hfr⟩
    · intro r1 r2 o1 o2 l1 l2 h1 h2 hne hl1 hl2
      simp only [H.new, Tr.get_set] at h1 h2
      by_cases e1 : h.next = r1
      · subst e1
        rw [if_neg hne] at h2
        rw [hnew] at hl1; cases hl1
        have := R.blk r2 l2 (hold r2 l2 (fun e => hne e.symm) hl2)
        exact .inl (by omega)
      · rw [if_neg e1] at h1
        by_cases e2 : h.next = r2
        · subst e2
          rw [hnew] at hl2; cases hl2
          have := R.blk r1 l1 (hold r1 l1 hne hl1)
          exact .inl (by omega)
        · rw [if_neg e2] at h2
          exact R.apart r1 r2 o1 o2 l1 l2 h1 h2 hne (hold r1 l1 (fun e => e1 e.symm) hl1) (hold r2 l2 (fun e => e2 e.symm) hl2)
  · rintro b ⟨r, o, l, hg, hl, rfl⟩
    simp only [H.new, Tr.get_set] at hg
    split at hg
    · rename_i e
      subst e
      rw [hnew] at hl; cases hl
      exact .inl (by omega)
    · rename_i hne
      exact .inr ⟨r, o, l, hg, hold r l (fun e => hne e.symm) hl, rfl⟩
theorem newCells_mk (hd : ρ h.next = none) {sz : Nat} {cs : List V} {h' : H} (hn : h.newCells sz cs = some h') {xs rest : List Value} (hv : VRs σ ρ cs xs) (t : TypeId) (W : World) :
    ∃ ob, h' = h.new ob ∧ ob.free = true ∧ ObR σ (ρ.plus h.next ⟨W.heap.size, 0, xs.length + rest.length⟩) (W.alloc (.cells (xs ++ rest).toArray t)) ⟨W.heap.size, 0, xs.length + rest.length⟩ ob := by
  unfold H.newCells at hn
  split at hn
  · cases hn
  · rename_i s
    simp only [Option.some.injEq, lenL_eq] at hn
    subst hn
    obtain ⟨c1, c2⟩ := chunk_spec (s + 1) (by omega) cs.length cs (Nat.le_refl _)
    refine ⟨_, rfl, rfl, ?_⟩
    have hx : Ext ρ (ρ.plus h.next ⟨W.heap.size, 0, xs.length + rest.length⟩) := fun r l hl => by
      have : r ≠ h.next := fun e => by rw [e, hd] at hl; cases hl
      simp [Inj.plus, this, hl]
    refine ⟨_, t, RowAt.mk (heap_alloc_new W _), by simp, c1, by rw [c2, ← hv.length]; simp, ?_⟩
    rw [c2]
    have : ((xs ++ rest).toArray.toList.drop 0).take cs.length = xs := by simp [← hv.length]
    rw [this]
    exact VRs.mono hx _ _ hv
theorem newCells_ok (R : Rel σ W0 ρ h W) {sz : Nat} {cs : List V} {h' : H} (hn : h.newCells sz cs = some h') {xs rest : List Value} (hv : VRs σ ρ cs xs) (t : TypeId) :
    Stp σ W0 ρ h W (ρ.plus h.next ⟨W.heap.size, 0, xs.length + rest.length⟩) h' (W.alloc (.cells (xs ++ rest).toArray t)) := by
  obtain ⟨ob, rfl, hf, hO⟩ := newCells_mk (R.dom _ (Nat.le_refl _)) hn (rest := rest) hv t W
  exact alloc_rel R _ _ _ rfl hf hO
end
end Tk
