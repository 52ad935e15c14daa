/- Where a law's call begins that is handed a list: its row, or its length alone. -/
import Derived.Test.YtphhnhheedbjjaaGreatDoorEvBy
import Derived.OpenShut
set_option linter.unusedVariables false
set_option linter.unusedSimpArgs false
namespace Tk
open Go Go.RowKit

theorem sent_none {es N : Nat} {l : Errs} (hlt : ∀ x ∈ l, x.1 < N) : (sentH es N l).tr.get (N + l.length) = none := by
  cases h : (sentH es N l).tr.get (N + l.length) with
  | none => rfl
  | some o =>
    obtain ⟨j, g, s, h1, h2⟩ := sent_get (show (sentTr es N l 0).get (N + l.length) = some o from h)
    have hj := (List.getElem?_eq_some_iff.1 h1).1
    have hm := hlt (g, s) (List.mem_of_getElem? h1)
    simp only at hm
    rcases h2 with ⟨e, _⟩ | ⟨e, _⟩ <;> omega
theorem plus_ext {ρ : Inj} {r : Nat} {L : Loc} (h : ρ r = none) : Ext ρ (ρ.plus r L) := fun k l hl => by
  have : k ≠ r := fun e => by rw [e, h] at hl; cases hl
  simp [Inj.plus, this, hl]
/-- the heap with one name more, of which nothing is known -/
noncomputable def nameH (h : H) : H := ⟨h.tr, h.next + 1⟩
/-- the heap with a list's row -/
noncomputable def rowH (h : H) (row : List V) : H := ⟨Tr.set h.tr h.next (.cells argSz [row] true), h.next + 1⟩
section
variable {σ : Nat → Int} {W : World} {ρ : Inj} {h : H}
theorem rel_name (R : Rel σ W ρ h W) (hn : h.tr.get h.next = none) (L : Loc) (hb : L.blk < W.heap.size) : Rel σ W (ρ.plus h.next L) (nameH h) W := by
  have hx : Ext ρ (ρ.plus h.next L) := plus_ext (R.dom _ (Nat.le_refl _))
  have hne : ∀ r o, (nameH h).tr.get r = some o → r ≠ h.next := fun r o hg e => by
    subst e
    have hg : h.tr.get h.next = some o := hg
    rw [hn] at hg; cases hg
  have hold : ∀ r l, r ≠ h.next → (ρ.plus h.next L) r = some l → ρ r = some l := fun r l hr hl => by simpa [Inj.plus, hr] using hl
  refine ⟨R.below, fun r hr => ?_, fun r l hl => ?_, fun r o l hg hl => ?_, fun r r' o o' l l' hg hg' hrr hl hl' => ?_⟩
  · have hr : h.next + 1 ≤ r := hr
    have : r ≠ h.next := by omega
    simp only [Inj.plus, this, if_false]
    exact R.dom r (by omega)
  · by_cases e : r = h.next
    · subst e; simp [Inj.plus] at hl; subst hl; exact hb
    · exact R.blk r l (hold r l e hl)
  · obtain ⟨h1, h2⟩ := R.obs r o l hg (hold r l (hne r o hg) hl)
    exact ⟨ObR.mono hx rfl h1, h2⟩
  · exact R.apart r r' o o' l l' hg hg' hrr (hold r l (hne r o hg) hl) (hold r' l' (hne r' o' hg') hl')
theorem rel_row (R : Rel σ W ρ h W) (L : Loc) (hb : L.blk < W.heap.size) {row : List V} (hO : ObR σ (ρ.plus h.next L) W L (.cells argSz [row] true))
    (hap : ∀ r o l, h.tr.get r = some o → ρ r = some l → Apart o (.cells argSz [row] true) l L) : Rel σ W (ρ.plus h.next L) (rowH h row) W := by
  have hx : Ext ρ (ρ.plus h.next L) := plus_ext (R.dom _ (Nat.le_refl _))
  have hold : ∀ r l, r ≠ h.next → (ρ.plus h.next L) r = some l → ρ r = some l := fun r l hr hl => by simpa [Inj.plus, hr] using hl
  have hnew : ∀ l, (ρ.plus h.next L) h.next = some l → l = L := fun l hl => by simp [Inj.plus] at hl; exact hl.symm
  have hget : ∀ r o, (rowH h row).tr.get r = some o → (r = h.next ∧ o = .cells argSz [row] true) ∨ (r ≠ h.next ∧ h.tr.get r = some o) := by
    intro r o hg
    simp only [rowH, Tr.get_set] at hg
    split at hg
    · rename_i e; cases hg; exact .inl ⟨e.symm, rfl⟩
    · rename_i e; exact .inr ⟨fun k => e k.symm, hg⟩
  refine ⟨R.below, fun r hr => ?_, fun r l hl => ?_, fun r o l hg hl => ?_, fun r r' o o' l l' hg hg' hrr hl hl' => ?_⟩
  · have hr : h.next + 1 ≤ r := hr
    have : r ≠ h.next := by omega
    simp only [Inj.plus, this, if_false]
    exact R.dom r (by omega)
  · by_cases e : r = h.next
    · subst e; rw [hnew l hl]; exact hb
    · exact R.blk r l (hold r l e hl)
  · rcases hget r o hg with ⟨rfl, rfl⟩ | ⟨e, hg⟩
    · rw [hnew l hl]; exact ⟨hO, fun k => (by cases k), fun _ => hb⟩
    · obtain ⟨h1, h2⟩ := R.obs r o l hg (hold r l e hl)
      exact ⟨ObR.mono hx rfl h1, h2⟩
  · rcases hget r o hg with ⟨rfl, rfl⟩ | ⟨e, hg⟩
    · rw [hnew l hl]
      rcases hget r' o' hg' with ⟨rfl, rfl⟩ | ⟨e', hg'⟩
      · exact absurd rfl hrr
      · rcases hap r' o' l' hg' (hold r' l' e' hl') with q | ⟨q1, q2, q3⟩
        · exact .inl fun k => q k.symm
        · exact .inr ⟨q2, q1, by rcases q3 with q | q; exact .inl q.symm; exact .inr q.symm⟩
    · rcases hget r' o' hg' with ⟨rfl, rfl⟩ | ⟨e', hg'⟩
      · rw [hnew l' hl']; exact hap r o l hg (hold r l e hl)
      · exact R.apart r r' o o' l l' hg hg' hrr (hold r l e hl) (hold r' l' e' hl')
theorem Glob.plus {M : Nat} (g : Glob M ρ) {r : Nat} {L : Loc} (h : ρ r = none) : Glob M (ρ.plus r L) := fun k hk => by
  obtain ⟨t, ht⟩ := g k hk
  exact ⟨t, plus_ext h _ _ ht⟩
end

/-- a list's row: its cells up to the capacity; none of them a text, an interface value -/
structure RowIs (W : World) (a : Addr) (xs : List Value) (m : Nat) : Prop where
  le : xs.length ≤ m
  pos : 0 < m
  cell : ∀ i, i < m → ∃ x, W.cell? (a.add i) = some x
  val : ∀ i x, xs[i]? = some x → W.cell? (a.add i) = some x
  plain : ∀ x ∈ xs, (∀ s, x ≠ .string s) ∧ ∀ t v, x ≠ .iface t v
theorem RowIs.spot {W : World} {a : Addr} {xs : List Value} {m : Nat} (h : RowIs W a xs m) : a = ⟨a.block, a.off, none⟩ := by
  obtain ⟨x, hx⟩ := h.cell 0 h.pos
  have : a.spot = none := by simpa [Addr.add] using World.cell?_spot hx
  cases a
  simp only at this
  subst this
  rfl
theorem RowIs.heap {W : World} {a : Addr} {xs : List Value} {m : Nat} (h : RowIs W a xs m) : ∃ C e z, W.heap[a.block]? = some (.cells C e z) ∧ a.off + m ≤ C.size ∧ (C.toList.drop a.off).take xs.length = xs := by
  have hs := h.spot
  generalize hb : a.block = b at hs
  generalize ho : a.off = o at hs
  subst hs
  simp only at hb ho
  obtain ⟨x, hx⟩ := h.cell 0 h.pos
  rw [add_off] at hx
  unfold World.cell? at hx
  split at hx
  · rename_i C e z hbk
    have hbk : W.heap[b]? = some (.cells C e z) := hbk
    have hin : ∀ i, i < m → o + i < C.size := fun i hi => by
      obtain ⟨y, hy⟩ := h.cell i hi
      rw [add_off, cell_at hbk] at hy
      exact (Array.getElem?_eq_some_iff.1 hy).1
    refine ⟨C, e, z, hbk, ?_, ?_⟩
    · have := hin (m - 1) (by have := h.pos; omega)
      have := h.pos
      omega
    · apply List.ext_getElem?
      intro j
      rw [List.getElem?_take, List.getElem?_drop, Array.getElem?_toList]
      split
      · rename_i hj
        have := h.val j _ (List.getElem?_eq_getElem hj)
        rw [add_off, cell_at hbk] at this
        rw [this, List.getElem?_eq_getElem hj]
      · rename_i hj
        rw [List.getElem?_eq_none (by omega)]
  · cases hx
theorem RowIs.lt {W : World} {a : Addr} {xs : List Value} {m : Nat} (h : RowIs W a xs m) : a.block < W.heap.size := by
  obtain ⟨C, e, z, h1, _⟩ := h.heap
  exact (Array.getElem?_eq_some_iff.1 h1).1
section
variable {P : Program} {G N : Nat} {B : Bad} {σ : Nat → Int} {W : World} {es : TypeId} {l : Errs} {as : List Addr}
/-- the start, and a list of which the length alone is looked at -/
theorem start_name (hS : Sents es W l as) (hlen : as.length = l.length) (hn : (placesOf l as).Nodup) (hG : ∀ g, hasBit G g = true → ∃ s, (g, s) ∈ l) (hlt : ∀ x ∈ l, x.1 < N ∧ hasBit G x.1 = true)
    (L : Loc) (hb : L.blk < W.heap.size) : ∃ ρ, Rel σ W ρ (nameH (sentH es N l)) W ∧ Glob G ρ ∧ ρ (N + l.length) = some L := by
  obtain ⟨R, g⟩ := start_rel (σ := σ) hS hlen hn hG hlt
  have hd := R.dom _ (Nat.le_refl _)
  exact ⟨_, rel_name R (sent_none fun x hx => (hlt x hx).1) L hb, g.plus hd, by simp [Inj.plus, sentH]⟩
/-- the start, and no list -/
theorem start_skip (hS : Sents es W l as) (hlen : as.length = l.length) (hn : (placesOf l as).Nodup) (hG : ∀ g, hasBit G g = true → ∃ s, (g, s) ∈ l) (hlt : ∀ x ∈ l, x.1 < N ∧ hasBit G x.1 = true) :
    ∃ ρ, Rel σ W ρ (nameH (sentH es N l)) W ∧ Glob G ρ := by
  obtain ⟨R, g⟩ := start_rel (σ := σ) hS hlen hn hG hlt
  exact ⟨_, ⟨R.below, fun r hr => R.dom r (by have hr : (sentH es N l).next + 1 ≤ r := hr; omega), R.blk, R.obs, R.apart⟩, g⟩
/-- the start, and a list's row -/
theorem start_row (hS : Sents es W l as) (hlen : as.length = l.length) (hn : (placesOf l as).Nodup) (hG : ∀ g, hasBit G g = true → ∃ s, (g, s) ∈ l) (hlt : ∀ x ∈ l, x.1 < N ∧ hasBit G x.1 = true)
    {a : Addr} {xs : List Value} {m : Nat} (hr : RowIs W a xs m) {row : List V} (hv : ∀ ρ, VRs σ ρ row xs) (hsz : Nat.ble row.length argSz = true) :
    ∃ ρ, Rel σ W ρ (rowH (sentH es N l) row) W ∧ Glob G ρ ∧ ρ (N + l.length) = some ⟨a.block, a.off, m⟩ := by
  obtain ⟨R, g⟩ := start_rel (σ := σ) hS hlen hn hG hlt
  have hd := R.dom _ (Nat.le_refl _)
  obtain ⟨C, e, z, h1, h2, h3⟩ := hr.heap
  have hxl : xs.length = row.length := (hv (startInj W N G as)).length
  refine ⟨_, rel_row R ⟨a.block, a.off, m⟩ hr.lt ?_ ?_, g.plus hd, by simp [Inj.plus, sentH]⟩
  · refine ⟨C, e, ⟨z, h1, fun k => by simp at k⟩, ⟨h2, fun k => by simp at k⟩, by simpa [Shape] using bleN hsz, ?_, ?_⟩
    · have := hr.le
      simp only [List.flatten_cons, List.flatten_nil, List.append_nil]
      omega
    · simp only [List.flatten_cons, List.flatten_nil, List.append_nil]
      rw [← hxl, h3]
      exact hv _
  · intro r o L hg hL
    cases hf : o.free with
    | true =>
      left
      have h4 := (R.obs r o L hg hL).2.1 hf
      have h5 := hr.lt
      intro e
      have e : L.blk = a.block := e
      omega
    | false => exact .inr ⟨hf, rfl, .inr (.inr (by simp [Ob.arg]))⟩
/-- the list itself -/
theorem vr_list {σ : Nat → Int} {ρ : Inj} {r n cap sz : Nat} {a : Addr} (hr : ρ r = some ⟨a.block, a.off, cap * sz⟩) (ha : a.spot = none) (hc : n ≤ cap) : VR σ ρ (.slice r 0 n n sz false) (.slice (some a) n cap) := by
  unfold VR
  refine ⟨_, cap, hr, ?_, hc, fun k => (by cases k), fun _ => Nat.zero_add _⟩
  cases a
  simp only at ha
  subst ha
  rfl
theorem vr_empty {σ : Nat → Int} {ρ : Inj} {a : Addr} {cap : Nat} : VR σ ρ (.eslice false) (.slice (some a) 0 cap) := by
  unfold VR
  exact ⟨a, cap, rfl, fun k => (by cases k)⟩
theorem vr_nil {σ : Nat → Int} {ρ : Inj} : VR σ ρ .snil (.slice none 0 0) := by simp only [VR]

/-- A LAW's CALL AT ONE CASE, begun anywhere -/
theorem law_case_r {f : FuncId} {rng : Rg} {facts : List (Bool × E × E × Bool)} {fs : Fns} {lf d : Nat} {vs : List V} {xs : Array Value} {h : H} {ρ : Inj} (hp : Fit P G B) (hbad : inB f B = false)
    (hk : Known2 σ rng facts) (hx : FnsOk P G σ W fs) (R : Rel σ W ρ h W) (g : Glob G ρ) (hv : VRs σ ρ vs xs.toList) (hbod : ∃ fn, P.funcs[f]? = some fn ∧ fn.body.isSome = true)
    (run : isTrue (evCall (cxX P B rng facts fs) lf d f vs h) = true) : Calls P f xs W fun e w' => e = .returned (.bool true) ∧ Below W.heap.size W w' := by
  have hC := call_x (W0 := W) hp hk hx lf d f
  cases hr : evCall (cxX P B rng facts fs) lf d f vs h with
  | none => rw [hr] at run; cases run
  | some p =>
    obtain ⟨v, h'⟩ := p
    rw [hr] at run
    have hvt : v = .bool true := by
      cases v <;> simp only [isTrue] at run <;> first | (cases run; done) | skip
      rename_i b
      cases b
      · cases run
      · rfl
    subst hvt
    obtain ⟨nx, W1, h1, h2⟩ := hC vs xs h _ h' _ W hr hv R g
    rcases h2 with ⟨_, _, hcalls⟩ | ⟨x, ρ', e1, hvx, S⟩
    · refine hcalls.mono ?_
      rintro e w' ⟨x, ρ', rfl, hvx, S⟩
      simp only [VR] at hvx
      exact ⟨by rw [hvx], S.rel.below⟩
    · exfalso
      obtain ⟨fn, hfn, hb⟩ := hbod
      have hname := (hp.body f fn hbad hfn).2
      have hname : fn.name ≠ "runtime.NumGoroutine" := by simpa using hname
      obtain ⟨body, hb'⟩ := Option.isSome_iff_exists.1 hb
      have hcf : (callFunc f xs).run P W = .ok (.enter f xs) W := by simp [callFunc, hfn, hname, hb']
      have h1' : (callFunc f xs).run P W = .ok nx W1 := h1
      rw [hcf, e1] at h1'
      cases h1'
theorem law_ways_r {f : FuncId} {rng : Rg} {fns : List (Bool × E × E × Bool) → Fns} {lf d : Nat} {vs : List V} {xs : Array Value} {h : H} {ρ : Inj} (hp : Fit P G B) (hbad : inB f B = false)
    (hx : ∀ ws, Known2 σ rng ws → FnsOk P G σ W (fns ws)) (R : Rel σ W ρ h W) (g : Glob G ρ) (hv : VRs σ ρ vs xs.toList) (hbod : ∃ fn, P.funcs[f]? = some fn ∧ fn.body.isSome = true) :
    ∀ {w : Way} {ws : List (Bool × E × E × Bool)}, Known2 σ rng ws → lawWays P B fns lf d f vs rng h w ws = true → Calls P f xs W fun e w' => e = .returned (.bool true) ∧ Below W.heap.size W w'
  | .run, ws, hk, run => law_case_r hp hbad hk (hx ws hk) R g (pinVs_ok (Γ := cxX P B rng ws (fns ws)) ⟨hk.rng, hk.facts⟩ _ _ hv) hbod
      (show isTrue (evCall (cxX P B rng ws (fns ws)) lf d f (pinVs (cxX P B rng ws (fns ws)) vs) h) = true from run)
  | .not n, ws, hk, run => (notW_ok hk (show notW (cxX P B rng) [] ws n = true from run)).elim
  | .gone e lo n, ws, hk, run => (isGone_ok (Γ := cxX P B rng ws []) ⟨hk.rng, hk.facts⟩ (show isGone (cxX P B rng ws []) e lo n = true from run)).elim
  | .fork q x y a b, ws, hk, run => by
    have run : (match lawWays P B fns lf d f vs rng h a ((q, x, y, true) :: ws) with
      | true => lawWays P B fns lf d f vs rng h b ((q, x, y, false) :: ws)
      | false => false) = true := run
    split at run
    · rename_i e
      exact hk.by_ q x y (fun k => law_ways_r hp hbad hx R g hv hbod k e) (fun k => law_ways_r hp hbad hx R g hv hbod k run)
    · cases run
end
/-- a list of whole numbers that is handed in -/
def IsInts (W : World) (k : IntKind) (v : Value) : Prop := v = .slice none 0 0 ∨ ∃ (a : Addr) (len cap : Nat) (zs : List Int), v = .slice (some a) len cap ∧ len ≤ cap ∧ zs.length = cap ∧
  (∀ i, i < cap → W.cell? (a.add i) = some (.int k (zs.getD i 0))) ∧ ∀ n ∈ zs, (Lit.int k n).wf = true
theorem isInts {H : Type} {enc : TypeId × Value → H} {P : Program} {W : World} {r : Reach} {b0 : Nat} {held : Bool} {t e : TypeId} {k : IntKind} {v : Value} {d : DataW H} {ps : List MemPlace} (ht : P.underlying t = some (.slice e)) (he : P.underlying e = some (.int k)) (hc : P.cellsOf e = 1)
    (hval : Value.okWide P W r b0 t v) (hd : DataW.Trod enc P W 0 (fun _ => true) held t v d ps) : IsInts W k v := by
  obtain ⟨fuel, hf⟩ := hd
  obtain ⟨a0, len, cap, rfl⟩ := Go.WideShapes.okWide_slice ht hval
  rcases Go.ChangeShapes.open_ints ht he hc hf with ⟨hcs, hx⟩ | ⟨a, len', cap', zs, hcs, _, hl, hm, hz, hx, hcell, hwz⟩
  · left
    simpa [Value.cells] using hcs
  · right
    simp [Value.cells] at hcs
    obtain ⟨rfl, rfl, rfl⟩ := hcs
    simp only [if_true] at hz
    exact ⟨a, len, cap, zs, rfl, hl, hz, fun i hi => hcell i (by omega), hwz⟩
theorem rowInts {W : World} {k : IntKind} {a : Addr} {len cap : Nat} {zs : List Int} (hle : len ≤ cap) (hpos : 0 < cap) (hcell : ∀ i, i < cap → W.cell? (a.add i) = some (.int k (zs.getD i 0))) :
    RowIs W a ((List.range len).map fun i => .int k (zs.getD i 0)) cap := by
  refine ⟨by simpa using hle, hpos, fun i hi => ⟨_, hcell i hi⟩, fun i x hx => ?_, fun x hx => ?_⟩
  · rcases Nat.lt_or_ge i len with h | h
    · rw [List.getElem?_map, List.getElem?_range h] at hx
      simp only [Option.map_some, Option.some.injEq] at hx
      rw [← hx]
      exact hcell i (by omega)
    · rw [List.getElem?_eq_none (by simpa using h)] at hx
      cases hx
  · obtain ⟨i, _, rfl⟩ := List.mem_map.1 hx
    exact ⟨fun s e => (by cases e), fun t v e => (by cases e)⟩
noncomputable def intRow (k : IntKind) (b : Nat) : Nat → List V
  | 0 => []
  | n + 1 => .int k (.var b) :: intRow k (b + 1) n
theorem intRow_len (k : IntKind) : ∀ (n b : Nat), (intRow k b n).length = n
  | 0, b => rfl
  | n + 1, b => by simp [intRow, intRow_len k n (b + 1)]
theorem vrs_ints {σ : Nat → Int} {ρ : Inj} {k : IntKind} {zs : List Int} : ∀ (n b j : Nat), (∀ i, σ (b + i) = zs.getD (j + i) 0) → VRs σ ρ (intRow k b n) ((List.range' j n).map fun i => .int k (zs.getD i 0))
  | 0, b, j, h => by simpa [intRow] using VRs.nil
  | n + 1, b, j, h => by
    rw [List.range'_succ, List.map_cons]
    refine VRs.cons (by simp only [VR, E.den]; rw [show b = b + 0 from rfl, h 0]; rfl) (vrs_ints n (b + 1) (j + 1) fun i => ?_)
    rw [show b + 1 + i = b + (1 + i) by omega, h (1 + i), show j + (1 + i) = j + 1 + i by omega]
theorem ints_wf {k : IntKind} {zs : List Int} (hw : ∀ n ∈ zs, (Lit.int k n).wf = true) (i : Nat) : (Lit.int k (zs.getD i 0)).wf = true := by
  rcases Nat.lt_or_ge i zs.length with h | h
  · rw [List.getD_eq_getElem?_getD, List.getElem?_eq_getElem h]
    exact hw _ (List.getElem_mem h)
  · rw [List.getD_eq_getElem?_getD, List.getElem?_eq_none h]
    cases k <;> decide
/-- a struct of five whole numbers that is handed in -/
theorem open_key {H : Type} {enc : TypeId × Value → H} {P : Program} {W : World} {r : Reach} {b0 : Nat} {held : Bool} {t : TypeId} {f0 f1 f2 f3 f4 : Field} {v : Value} {d : DataW H} {ps : List MemPlace}
    (hs : P.underlying t = some (.struct #[f0, f1, f2, f3, f4])) (hC : P.cellsOf t = 5) (ho : f0.offset = 0 ∧ f1.offset = 1 ∧ f2.offset = 2 ∧ f3.offset = 3 ∧ f4.offset = 4)
    (ht : f1.type = f0.type ∧ f2.type = f0.type ∧ f3.type = f0.type) (hI : P.underlying f0.type = some (.int .i64)) (hU : P.underlying f4.type = some (.int .u32)) (cI : P.cellsOf f0.type = 1) (cU : P.cellsOf f4.type = 1)
    (hval : Value.okWide P W r b0 t v) (hd : DataW.Trod enc P W 0 (fun _ => true) held t v d ps) :
    ∃ a b c e g : Int, v = .agg #[.int .i64 a, .int .i64 b, .int .i64 c, .int .i64 e, .int .u32 g] ∧ (Lit.int .i64 a).wf = true ∧ (Lit.int .i64 b).wf = true ∧ (Lit.int .i64 c).wf = true ∧ (Lit.int .i64 e).wf = true ∧ (Lit.int .u32 g).wf = true := by
  obtain ⟨cs, rfl, hsz⟩ := Go.WideShapes.okWide_struct hs hval
  obtain ⟨fuel, hf⟩ := hd
  obtain ⟨xs, n, _, _, _, hxl, hfi⟩ := DataW.trod_struct hs hf
  obtain ⟨o0, o1, o2, o3, o4⟩ := ho
  obtain ⟨t1, t2, t3⟩ := ht
  rw [hC] at hsz
  obtain ⟨l⟩ := cs
  match l, hsz with
  | [y0, y1, y2, y3, y4], _ =>
    have key : ∀ (i : Nat) (fd : Field) (k : IntKind) (y : Value), #[f0, f1, f2, f3, f4][i]? = some fd → P.underlying fd.type = some (.int k) → (([y0, y1, y2, y3, y4] : List Value).drop fd.offset).take (P.cellsOf fd.type) = [y] → i < 5 → ∃ z, y = .int k z ∧ (Lit.int k z).wf = true := by
      intro i fd k y h1 h2 h3 h4
      have h5 := hfi i fd h1
      have h6 : i < xs.length := by rw [hxl]; simpa using h4
      rw [List.getElem?_eq_getElem h6] at h5
      have h7 : (Value.agg ⟨[y0, y1, y2, y3, y4]⟩).cells.toList = [y0, y1, y2, y3, y4] := rfl
      rw [h7, h3] at h5
      obtain ⟨z, e1, _, e2⟩ := DataW.trod_int h2 h5
      exact ⟨z, by simpa using e1, e2⟩
    obtain ⟨a, rfl, wa⟩ := key 0 f0 .i64 y0 rfl hI (by rw [o0, cI]; rfl) (by omega)
    obtain ⟨b, rfl, wb⟩ := key 1 f1 .i64 y1 rfl (by rw [t1]; exact hI) (by rw [o1, t1, cI]; rfl) (by omega)
    obtain ⟨c, rfl, wc⟩ := key 2 f2 .i64 y2 rfl (by rw [t2]; exact hI) (by rw [o2, t2, cI]; rfl) (by omega)
    obtain ⟨e, rfl, we⟩ := key 3 f3 .i64 y3 rfl (by rw [t3]; exact hI) (by rw [o3, t3, cI]; rfl) (by omega)
    obtain ⟨g, rfl, wg⟩ := key 4 f4 .u32 y4 rfl hU (by rw [o4, cU]; rfl) (by omega)
    exact ⟨a, b, c, e, g, rfl, wa, wb, wc, we, wg⟩
/-- a struct of five whole numbers, by its cells -/
theorem trod_key {H : Type} {enc : TypeId × Value → H} {P : Program} {W : World} {held : Bool} {t : TypeId} {f0 f1 f2 f3 f4 : Field} {fuel : Nat} {cs : List Value} {x : DataW H × List MemPlace}
    (hs : P.underlying t = some (.struct #[f0, f1, f2, f3, f4])) (hC : P.cellsOf t = 5) (ho : f0.offset = 0 ∧ f1.offset = 1 ∧ f2.offset = 2 ∧ f3.offset = 3 ∧ f4.offset = 4)
    (ht : f1.type = f0.type ∧ f2.type = f0.type ∧ f3.type = f0.type) (hI : P.underlying f0.type = some (.int .i64)) (hU : P.underlying f4.type = some (.int .u32)) (cI : P.cellsOf f0.type = 1) (cU : P.cellsOf f4.type = 1)
    (hf : DataW.trod enc P W 0 (fun _ => true) held fuel t cs = some x) :
    ∃ a b c e g : Int, cs = [.int .i64 a, .int .i64 b, .int .i64 c, .int .i64 e, .int .u32 g] ∧ (Lit.int .i64 a).wf = true ∧ (Lit.int .i64 b).wf = true ∧ (Lit.int .i64 c).wf = true ∧ (Lit.int .i64 e).wf = true ∧ (Lit.int .u32 g).wf = true := by
  obtain ⟨xs, n, _, _, hsz, hxl, hfi⟩ := DataW.trod_struct hs hf
  obtain ⟨o0, o1, o2, o3, o4⟩ := ho
  obtain ⟨t1, t2, t3⟩ := ht
  rw [hC] at hsz
  match cs, hsz with
  | [y0, y1, y2, y3, y4], _ =>
    have key : ∀ (i : Nat) (fd : Field) (k : IntKind) (y : Value), #[f0, f1, f2, f3, f4][i]? = some fd → P.underlying fd.type = some (.int k) → (([y0, y1, y2, y3, y4] : List Value).drop fd.offset).take (P.cellsOf fd.type) = [y] → i < 5 → ∃ z, y = .int k z ∧ (Lit.int k z).wf = true := by
      intro i fd k y h1 h2 h3 h4
      have h5 := hfi i fd h1
      have h6 : i < xs.length := by rw [hxl]; simpa using h4
      rw [List.getElem?_eq_getElem h6, h3] at h5
      obtain ⟨z, e1, _, e2⟩ := DataW.trod_int h2 h5
      exact ⟨z, by simpa using e1, e2⟩
    obtain ⟨a, rfl, wa⟩ := key 0 f0 .i64 y0 rfl hI (by rw [o0, cI]; rfl) (by omega)
    obtain ⟨b, rfl, wb⟩ := key 1 f1 .i64 y1 rfl (by rw [t1]; exact hI) (by rw [o1, t1, cI]; rfl) (by omega)
    obtain ⟨c, rfl, wc⟩ := key 2 f2 .i64 y2 rfl (by rw [t2]; exact hI) (by rw [o2, t2, cI]; rfl) (by omega)
    obtain ⟨e, rfl, we⟩ := key 3 f3 .i64 y3 rfl (by rw [t3]; exact hI) (by rw [o3, t3, cI]; rfl) (by omega)
    obtain ⟨g, rfl, wg⟩ := key 4 f4 .u32 y4 rfl hU (by rw [o4, cU]; rfl) (by omega)
    exact ⟨a, b, c, e, g, rfl, wa, wb, wc, we, wg⟩
/-- a note that is handed in: a number, three numbers, three structs of five numbers -/
theorem open_note {H : Type} {enc : TypeId × Value → H} {P : Program} {W : World} {r : Reach} {b0 : Nat} {held : Bool} {t tk : TypeId} {g0 g1 g2 : Field} {f0 f1 f2 f3 f4 : Field} {v : Value} {d : DataW H} {ps : List MemPlace}
    (hn : P.underlying t = some (.struct #[g0, g1, g2])) (hN : P.cellsOf t = 19) (hg : g0.offset = 0 ∧ g1.offset = 1 ∧ g2.offset = 4) (gU : P.underlying g0.type = some (.int .u32)) (cG : P.cellsOf g0.type = 1)
    (g1A : P.underlying g1.type = some (.array 3 g0.type)) (c1A : P.cellsOf g1.type = 3) (g2A : P.underlying g2.type = some (.array 3 tk)) (c2A : P.cellsOf g2.type = 15)
    (hs : P.underlying tk = some (.struct #[f0, f1, f2, f3, f4])) (hC : P.cellsOf tk = 5) (ho : f0.offset = 0 ∧ f1.offset = 1 ∧ f2.offset = 2 ∧ f3.offset = 3 ∧ f4.offset = 4)
    (ht : f1.type = f0.type ∧ f2.type = f0.type ∧ f3.type = f0.type) (hI : P.underlying f0.type = some (.int .i64)) (hU : P.underlying f4.type = some (.int .u32)) (cI : P.cellsOf f0.type = 1) (cU : P.cellsOf f4.type = 1)
    (hval : Value.okWide P W r b0 t v) (hd : DataW.Trod enc P W 0 (fun _ => true) held t v d ps) :
    ∃ z0 z1 z2 z3 z4 z5 z6 z7 z8 z9 z10 z11 z12 z13 z14 z15 z16 z17 z18 : Int, v = .agg #[.int .u32 z0, .int .u32 z1, .int .u32 z2, .int .u32 z3, .int .i64 z4, .int .i64 z5, .int .i64 z6, .int .i64 z7, .int .u32 z8, .int .i64 z9, .int .i64 z10, .int .i64 z11, .int .i64 z12, .int .u32 z13, .int .i64 z14, .int .i64 z15, .int .i64 z16, .int .i64 z17, .int .u32 z18] ∧ (Lit.int .u32 z0).wf = true ∧ (Lit.int .u32 z1).wf = true ∧ (Lit.int .u32 z2).wf = true ∧ (Lit.int .u32 z3).wf = true ∧ (Lit.int .i64 z4).wf = true ∧ (Lit.int .i64 z5).wf = true ∧ (Lit.int .i64 z6).wf = true ∧ (Lit.int .i64 z7).wf = true ∧ (Lit.int .u32 z8).wf = true ∧ (Lit.int .i64 z9).wf = true ∧ (Lit.int .i64 z10).wf = true ∧ (Lit.int .i64 z11).wf = true ∧ (Lit.int .i64 z12).wf = true ∧ (Lit.int .u32 z13).wf = true ∧ (Lit.int .i64 z14).wf = true ∧ (Lit.int .i64 z15).wf = true ∧ (Lit.int .i64 z16).wf = true ∧ (Lit.int .i64 z17).wf = true ∧ (Lit.int .u32 z18).wf = true := by
  obtain ⟨cs, rfl, hsz⟩ := Go.WideShapes.okWide_struct hn hval
  obtain ⟨fuel, hf⟩ := hd
  obtain ⟨xs, n, _, _, _, hxl, hfi⟩ := DataW.trod_struct hn hf
  obtain ⟨o0, o1, o2⟩ := hg
  rw [hN] at hsz
  obtain ⟨l⟩ := cs
  match l, hsz with
  | [y0, y1, y2, y3, y4, y5, y6, y7, y8, y9, y10, y11, y12, y13, y14, y15, y16, y17, y18], _ =>
    have hl : (Value.agg ⟨[y0, y1, y2, y3, y4, y5, y6, y7, y8, y9, y10, y11, y12, y13, y14, y15, y16, y17, y18]⟩).cells.toList = [y0, y1, y2, y3, y4, y5, y6, y7, y8, y9, y10, y11, y12, y13, y14, y15, y16, y17, y18] := rfl
    have fld : ∀ (i : Nat) (fd : Field), #[g0, g1, g2][i]? = some fd → i < 3 → ∃ z, DataW.trod enc P W 0 (fun _ => true) held n fd.type (([y0, y1, y2, y3, y4, y5, y6, y7, y8, y9, y10, y11, y12, y13, y14, y15, y16, y17, y18].drop fd.offset).take (P.cellsOf fd.type)) = some z := by
      intro i fd h1 h4
      have h5 := hfi i fd h1
      have h6 : i < xs.length := by rw [hxl]; simpa using h4
      rw [List.getElem?_eq_getElem h6, hl] at h5
      exact ⟨_, h5⟩
    obtain ⟨q0, k0⟩ := fld 0 g0 rfl (by omega)
    obtain ⟨q1, k1⟩ := fld 1 g1 rfl (by omega)
    obtain ⟨q2, k2⟩ := fld 2 g2 rfl (by omega)
    rw [o0, cG] at k0
    rw [o1, c1A] at k1
    rw [o2, c2A] at k2
    have k0 : DataW.trod enc P W 0 (fun _ => true) held n g0.type [y0] = some q0 := k0
    have k1 : DataW.trod enc P W 0 (fun _ => true) held n g1.type [y1, y2, y3] = some q1 := k1
    have k2 : DataW.trod enc P W 0 (fun _ => true) held n g2.type [y4, y5, y6, y7, y8, y9, y10, y11, y12, y13, y14, y15, y16, y17, y18] = some q2 := k2
    obtain ⟨x1, m1, _, _, _, l1, a1⟩ := DataW.trod_array g1A k1
    obtain ⟨x2, m2, _, _, _, l2, a2⟩ := DataW.trod_array g2A k2
    rw [cG] at a1
    rw [hC] at a2
    obtain ⟨z0, e0, _, w0⟩ := DataW.trod_int gU k0
    obtain rfl : y0 = .int .u32 z0 := by simpa using e0
    have el1 : ∀ (i : Nat) (y : Value), i < 3 → (([y1, y2, y3] : List Value).drop (i * 1)).take 1 = [y] → ∃ z, y = .int .u32 z ∧ (Lit.int .u32 z).wf = true := by
      intro i y hi hy
      have h := a1 i hi
      rw [hy, List.getElem?_eq_getElem (by rw [l1]; exact hi)] at h
      obtain ⟨z, e, _, w⟩ := DataW.trod_int gU h
      exact ⟨z, by simpa using e, w⟩
    obtain ⟨z1, rfl, w1⟩ := el1 0 y1 (by omega) rfl
    obtain ⟨z2, rfl, w2⟩ := el1 1 y2 (by omega) rfl
    obtain ⟨z3, rfl, w3⟩ := el1 2 y3 (by omega) rfl
    have el2 : ∀ (i : Nat) (c : List Value), i < 3 → (([y4, y5, y6, y7, y8, y9, y10, y11, y12, y13, y14, y15, y16, y17, y18] : List Value).drop (i * 5)).take 5 = c → ∃ x, DataW.trod enc P W 0 (fun _ => true) held m2 tk c = some x := by
      intro i c hi hc
      have h := a2 i hi
      rw [hc, List.getElem?_eq_getElem (by rw [l2]; exact hi)] at h
      exact ⟨_, h⟩
    obtain ⟨_, r0⟩ := el2 0 [y4, y5, y6, y7, y8] (by omega) rfl
    obtain ⟨z4, z5, z6, z7, z8, e1, w4, w5, w6, w7, w8⟩ := trod_key hs hC ho ht hI hU cI cU r0
    simp only [List.cons.injEq, and_true] at e1
    obtain ⟨rfl, rfl, rfl, rfl, rfl⟩ := e1
    obtain ⟨_, r1⟩ := el2 1 [y9, y10, y11, y12, y13] (by omega) rfl
    obtain ⟨z9, z10, z11, z12, z13, e2, w9, w10, w11, w12, w13⟩ := trod_key hs hC ho ht hI hU cI cU r1
    simp only [List.cons.injEq, and_true] at e2
    obtain ⟨rfl, rfl, rfl, rfl, rfl⟩ := e2
    obtain ⟨_, r2⟩ := el2 2 [y14, y15, y16, y17, y18] (by omega) rfl
    obtain ⟨z14, z15, z16, z17, z18, e3, w14, w15, w16, w17, w18⟩ := trod_key hs hC ho ht hI hU cI cU r2
    simp only [List.cons.injEq, and_true] at e3
    obtain ⟨rfl, rfl, rfl, rfl, rfl⟩ := e3
    exact ⟨z0, z1, z2, z3, z4, z5, z6, z7, z8, z9, z10, z11, z12, z13, z14, z15, z16, z17, z18, rfl, w0, w1, w2, w3, w4, w5, w6, w7, w8, w9, w10, w11, w12, w13, w14, w15, w16, w17, w18⟩
end Tk
