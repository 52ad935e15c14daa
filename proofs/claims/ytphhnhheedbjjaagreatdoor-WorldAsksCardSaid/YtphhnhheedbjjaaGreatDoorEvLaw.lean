/- Where a law's call begins: the listed errors, the unknown numbers. -/
import Derived.Test.YtphhnhheedbjjaaGreatDoorEvDraw5
import Derived.Stop.LaidErr
set_option linter.unusedVariables false
set_option linter.unusedSimpArgs false
namespace Tk
open Go Go.RowKit

/-- a listed error: its variable's place, its text -/
abbrev Errs := List (Nat × List UInt8)
/-- the evaluator's heap where the call begins: es: the type *errors.errorString -/
noncomputable def sentTr (es G : Nat) : Errs → Nat → Tr Ob
  | [], _ => .lf
  | (g, s) :: l, k => Tr.set (Tr.set (sentTr es G l (k + 1)) g (.cells 1 [[.iface es (.ptr (G + k) 0)]] true)) (G + k) (.cells 1 [[.str (s.map (·.toNat))]] true)
noncomputable def sentH (es G : Nat) (l : Errs) : H := { tr := sentTr es G l 0, next := G + l.length }
def SentAt (es : TypeId) (W : World) (g : Nat) (s : List UInt8) (a : Addr) : Prop :=
  (∃ t, W.heap[g]? = some (.cells #[.iface es (.pointer (some a))] t (0, 0))) ∧ a.spot = none ∧ ∃ C t b, W.heap[a.block]? = some (.cells C t (0, 0)) ∧ C[a.off]? = some (.string b) ∧ b.data.toList = s
def Sents (es : TypeId) (W : World) : Errs → List Addr → Prop
  | [], as => as = []
  | (g, s) :: l, as => ∃ a r, as = a :: r ∧ SentAt es W g s a ∧ Sents es W l r
def placesOf : Errs → List Addr → List MemPlace
  | (g, s) :: l, a :: r => .cell g 0 :: .cell a.block a.off :: placesOf l r
  | _, _ => []
theorem sents_of {P : Program} {W : World} {nm : String} {ti tp te ts : TypeId} {ms : Array (String × TypeId)} {f : Field}
    (hi : P.underlying ti = some (.interface ms)) (hrow : ∀ u, P.typeName? 3 u = some nm → u = tp)
    (hp : P.underlying tp = some (.pointer te)) (he : P.underlying te = some (.struct #[f])) (hft : f.type = ts) (hfo : f.offset = 0) (hs : P.underlying ts = some .string) (hc : P.cellsOf te = 1) (hcs : P.cellsOf ts = 1) :
    ∀ (l : List (String × Nat × List UInt8)) (ps : List MemPlace), (∀ x ∈ l, P.globalNamed x.1 = some x.2.1 ∧ (P.globals[x.2.1]?).map (·.type) = some ti) →
      DataW.LaidVars P W (l.map fun x => (x.1, .iface nm (.ptr (.agg [.lit (.string x.2.2)])))) ps →
      (∀ b off, MemPlace.cell b off ∈ ps → (∃ c t, W.heap[b]? = some (.cells c t (0, 0))) ∧ ∀ u v, W.cell? ⟨b, off, none⟩ = some (.iface u v) → Value.okWide P W .any 0 u v) →
      ∃ as, Sents tp W (l.map (·.2)) as ∧ as.length = l.length ∧ ps = placesOf (l.map (·.2)) as
  | [], ps, _, h, _ => by
    simp only [List.map_nil, DataW.LaidVars] at h
    exact ⟨[], rfl, rfl, h⟩
  | (n, g, s) :: l, ps, hg, h, hrows => by
    obtain ⟨g0, t0, cs0, f0, p0, q0, hg0, ht0, hv0, hd0, hrest, e0⟩ := h
    obtain ⟨hgn, hty⟩ := hg (n, g, s) (by simp)
    simp only at hgn hty
    obtain rfl := Option.some.inj (hgn.symm.trans hg0)
    obtain rfl := Option.some.inj (hty.symm.trans ht0)
    obtain ⟨l0⟩ := cs0
    subst e0
    have ok0 : ∀ u v, l0 = [.iface u v] → Value.okWide P W .any 0 u v := fun u v e => by
      subst e
      exact (hrows g 0 (by simp [MemPlace.row])).2 u v (by simpa using World.var?_cell hg0 hv0 0)
    obtain ⟨a0, s0, rfl, hc0, hs0, hz0, rfl⟩ := errorString_of_trod hi hrow hp he hft hfo hs hc hcs hd0 ok0
    obtain ⟨c1, t1, hb1⟩ := (hrows a0.block a0.off (by simp [MemPlace.row])).1
    obtain ⟨c2, t2, hb2⟩ := (hrows g 0 (by simp [MemPlace.row])).1
    obtain ⟨as, i1, i2, i3⟩ := sents_of hi hrow hp he hft hfo hs hc hcs l q0 (fun x hx => hg x (List.mem_cons_of_mem _ hx)) hrest (fun b off hm => hrows b off (List.mem_append_right _ hm))
    have hspot := World.cell?_spot hc0
    have hcell : c1[a0.off]? = some (.string s0) := by
      have := hc0
      simp only [World.cell?, hb1, hspot] at this
      simpa using this
    have hvar : c2 = #[.iface tp (.pointer (some a0))] := by
      have := hv0
      unfold World.var? at this
      simp only [hg0, Option.bind_some, hb2, Option.some.injEq] at this
      exact this
    subst hvar
    refine ⟨a0 :: as, ⟨a0, as, rfl, ⟨⟨t2, hb2⟩, hspot, c1, t1, s0, hb1, hcell, hs0⟩, i1⟩, by simp [i2], ?_⟩
    rw [i3]
    simp [placesOf, MemPlace.row]
theorem sent_get {es G : Nat} : ∀ {l : Errs} {k r : Nat} {o : Ob}, (sentTr es G l k).get r = some o → ∃ j g s, l[j]? = some (g, s) ∧
    ((r = g ∧ o = .cells 1 [[.iface es (.ptr (G + (k + j)) 0)]] true) ∨ (r = G + (k + j) ∧ o = .cells 1 [[.str (s.map (·.toNat))]] true))
  | [], k, r, o, h => by simp only [sentTr] at h; rw [Tr.get_lf] at h; cases h
  | (g, s) :: l, k, r, o, h => by
    simp only [sentTr, Tr.get_set] at h
    split at h
    · rename_i e
      cases h
      exact ⟨0, g, s, rfl, .inr ⟨e.symm, rfl⟩⟩
    · split at h
      · rename_i e
        cases h
        exact ⟨0, g, s, rfl, .inl ⟨e.symm, rfl⟩⟩
      · obtain ⟨j, g', s', h1, h2⟩ := sent_get h
        refine ⟨j + 1, g', s', by simpa using h1, ?_⟩
        rw [show k + (j + 1) = k + 1 + j by omega]
        exact h2
theorem sents_get {es : TypeId} {W : World} : ∀ {l : Errs} {as : List Addr} {j g : Nat} {s : List UInt8}, Sents es W l as → l[j]? = some (g, s) → ∃ a, as[j]? = some a ∧ SentAt es W g s a ∧ (placesOf l as)[2 * j]? = some (.cell g 0) ∧ (placesOf l as)[2 * j + 1]? = some (.cell a.block a.off)
  | [], as, j, g, s, _, h => by simp at h
  | (g0, s0) :: l, as, 0, g, s, hS, h => by
    obtain ⟨a, r, rfl, h1, _⟩ := hS
    simp at h
    obtain ⟨rfl, rfl⟩ := h
    exact ⟨a, rfl, h1, rfl, rfl⟩
  | (g0, s0) :: l, as, j + 1, g, s, hS, h => by
    obtain ⟨a, r, rfl, _, h2⟩ := hS
    obtain ⟨b, i1, i2, i3, i4⟩ := sents_get h2 (j := j) (by simpa using h)
    refine ⟨b, by simpa using i1, i2, ?_, ?_⟩
    · rw [show 2 * (j + 1) = 2 * j + 1 + 1 by omega]; simpa [placesOf] using i3
    · rw [show 2 * (j + 1) + 1 = 2 * j + 1 + 1 + 1 by omega]; simpa [placesOf] using i4
def rowSize (W : World) (b : Nat) : Nat := match W.heap[b]? with
  | some (.cells C _ _) => C.size
  | _ => 0
noncomputable def startInj (W : World) (G M : Nat) (as : List Addr) : Inj := fun r => if r < G then (if hasBit M r = true then some ⟨r, 0, 1⟩ else none) else (as[r - G]?).map fun a => ⟨a.block, a.off, rowSize W a.block - a.off⟩
/-- WHERE A LAW's CALL BEGINS. -/
theorem start_rel {σ : Nat → Int} {W : World} {es G M : Nat} {l : Errs} {as : List Addr} (hS : Sents es W l as) (hlen : as.length = l.length) (hn : (placesOf l as).Nodup) (hG : ∀ g, hasBit M g = true → ∃ s, (g, s) ∈ l) (hlt : ∀ x ∈ l, x.1 < G ∧ hasBit M x.1 = true) :
    Rel σ W (startInj W G M as) (sentH es G l) W ∧ Glob M (startInj W G M as) := by
  have hsome : ∀ g, g < G → hasBit M g = true → startInj W G M as g = some ⟨g, 0, 1⟩ := fun g hg hm => by simp [startInj, hg, hm]
  have hptr : ∀ j a, as[j]? = some a → startInj W G M as (G + j) = some ⟨a.block, a.off, rowSize W a.block - a.off⟩ := fun j a ha => by
    simp only [startInj]
    rw [if_neg (by omega), show G + j - G = j by omega, ha]
    rfl
  -- a block, its place, its number
  have info : ∀ r o L, (sentH es G l).tr.get r = some o → startInj W G M as r = some L → ObR σ (startInj W G M as) W L o ∧ o.free = false ∧ o.rows.length = 1 ∧
      ∃ i, (placesOf l as)[i]? = some (.cell L.blk L.base) ∧ ((∃ j, i = 2 * j ∧ ∃ g s, l[j]? = some (g, s) ∧ r = g) ∨ (∃ j, i = 2 * j + 1 ∧ r = G + j)) := by
    intro r o L hg hL
    obtain ⟨j, g, s, h1, h2⟩ := sent_get hg
    obtain ⟨a, i1, ⟨⟨t, q1⟩, q2, C, t', b, q3, q4, q5⟩, i3, i4⟩ := sents_get hS h1
    simp only [Nat.zero_add] at h2
    rcases h2 with ⟨rfl, rfl⟩ | ⟨rfl, rfl⟩
    · have hgl := hlt (r, s) (List.mem_of_getElem? h1)
      rw [hsome r hgl.1 hgl.2] at hL
      cases hL
      refine ⟨⟨_, t, RowAt.mk q1, ⟨Nat.le_refl _, fun _ => rfl⟩, by simp [Shape], by simp, ?_⟩, rfl, rfl, 2 * j, i3, .inl ⟨j, rfl, r, s, h1, rfl⟩⟩
      simp only [List.flatten_cons, List.flatten_nil, List.append_nil, List.length_cons, List.length_nil, List.drop_zero]
      refine VRs.cons ?_ VRs.nil
      simp only [VR]
      refine ⟨_, rfl, _, hptr j a i1, ?_⟩
      obtain ⟨ab, ao, asp⟩ := a
      simp only at q2
      subst q2
      rfl
    · rw [hptr j a i1] at hL
      cases hL
      have hoff : a.off < C.size := by
        rcases Nat.lt_or_ge a.off C.size with h | h
        · exact h
        · rw [Array.getElem?_eq_none h] at q4; cases q4
      have hrow : rowSize W a.block = C.size := by simp [rowSize, q3]
      refine ⟨⟨C, t', RowAt.mk q3, ⟨by simp only [hrow]; omega, fun _ => by simp only [hrow]; omega⟩, by simp [Shape], by simp [hrow]; omega, ?_⟩, rfl, rfl, 2 * j + 1, i4, .inr ⟨j, rfl, rfl⟩⟩
      simp only [List.flatten_cons, List.flatten_nil, List.append_nil, List.length_cons, List.length_nil]
      have e : (C.toList.drop a.off).take 1 = [Value.string b] := by
        have hd : C.toList.drop a.off = Value.string b :: C.toList.drop (a.off + 1) := by
          rw [List.drop_eq_getElem_cons (by simpa using hoff)]
          congr 1
          rw [Array.getElem?_eq_getElem hoff] at q4
          simpa using Option.some.inj q4
        rw [hd]; rfl
      rw [show 0 + 1 = 1 from rfl, e]
      refine VRs.cons ?_ VRs.nil
      simp only [VR]
      apply congrArg
      apply ByteArray.ext
      apply Array.ext'
      simp only [bytesA, List.map_map]
      rw [q5]
      have : (UInt8.ofNat ∘ fun x : UInt8 => x.toNat) = _root_.id := by funext x; simp
      rw [this]; simp
  refine ⟨⟨Below.refl _ _, ?_, ?_, ?_, ?_⟩, fun g hg => by
    obtain ⟨s, hs⟩ := hG g hg
    exact ⟨1, hsome g (hlt _ hs).1 hg⟩⟩
  · intro r hr
    simp only [sentH] at hr
    simp only [startInj]
    rw [if_neg (by omega), List.getElem?_eq_none (by omega)]
    rfl
  · intro r L hL
    by_cases hr : r < G
    · have hmr : hasBit M r = true := by
        simp only [startInj] at hL
        rw [if_pos hr] at hL
        split at hL
        · assumption
        · cases hL
      rw [hsome r hr hmr] at hL; cases hL
      obtain ⟨s, hs⟩ := hG r hmr
      obtain ⟨j, hj⟩ := List.mem_iff_getElem?.1 hs
      obtain ⟨a, i1, ⟨⟨t, q1⟩, _⟩, _⟩ := sents_get hS hj
      show r < W.heap.size
      rcases Nat.lt_or_ge r W.heap.size with h | h
      · exact h
      · rw [Array.getElem?_eq_none h] at q1; cases q1
    · simp only [startInj] at hL
      rw [if_neg hr] at hL
      rcases ha : as[r - G]? with _ | a
      · rw [ha] at hL; cases hL
      · rw [ha] at hL
        cases hL
        have hjl : r - G < l.length := by rw [← hlen]; exact (List.getElem?_eq_some_iff.1 ha).1
        obtain ⟨x, hx⟩ : ∃ x, l[r - G]? = some x := ⟨_, List.getElem?_eq_getElem hjl⟩
        obtain ⟨a', i1, ⟨_, _, C, t', b, q3, _⟩, _⟩ := sents_get hS (j := r - G) (g := x.1) (s := x.2) hx
        rw [ha] at i1; cases i1
        show a.block < W.heap.size
        rcases Nat.lt_or_ge a.block W.heap.size with h | h
        · exact h
        · rw [Array.getElem?_eq_none h] at q3; cases q3
  · intro r o L hg hL
    obtain ⟨h1, h2, _⟩ := info r o L hg hL
    refine ⟨h1, fun e => (by rw [h2] at e; cases e), fun e => ?_⟩
    obtain ⟨j, g', s', _, k⟩ := sent_get hg
    rcases k with ⟨_, rfl⟩ | ⟨_, rfl⟩ <;> simp [Ob.arg, argSz] at e
  · intro r r' o o' L L' hg hg' hne hL hL'
    obtain ⟨_, f1, n1, i, p1, c1⟩ := info r o L hg hL
    obtain ⟨_, f2, n2, i', p2, c2⟩ := info r' o' L' hg' hL'
    by_cases hb : L.blk = L'.blk
    · right
      refine ⟨f1, f2, .inl ?_⟩
      rw [n1, n2]
      have : L.base ≠ L'.base := by
        intro hbase
        have hi : i = i' := by
          refine (List.getElem?_inj (List.getElem?_eq_some_iff.1 p1).1 hn).1 ?_
          rw [p1, p2, hb, hbase]
        subst hi
        apply hne
        rcases c1 with ⟨j, e1, g, s, e2, e3⟩ | ⟨j, e1, e3⟩ <;> rcases c2 with ⟨j', e1', g', s', e2', e3'⟩ | ⟨j', e1', e3'⟩
        · have : j = j' := by omega
          subst this
          rw [e2] at e2'; cases e2'
          rw [e3, e3']
        · omega
        · omega
        · have : j = j' := by omega
          subst this
          rw [e3, e3']
      omega
    · exact .inl hb
/-- what is laid of some of the variables alone -/
theorem laid_filter {P : Program} {W : World} (keep : String × DataW Unit → Bool) : ∀ (l : List (String × DataW Unit)) (ps : List MemPlace), DataW.LaidVars P W l ps → ∃ qs, DataW.LaidVars P W (l.filter keep) qs ∧ qs.Sublist ps
  | [], ps, h => by
    simp only [DataW.LaidVars] at h
    subst h
    exact ⟨[], rfl, List.Sublist.refl _⟩
  | (n, d) :: r, ps, h => by
    obtain ⟨g, t, cs, fuel, p, q, h1, h2, h3, h4, h5, rfl⟩ := h
    obtain ⟨qs, h6, h7⟩ := laid_filter keep r q h5
    cases hk : keep (n, d) with
    | true =>
      rw [List.filter_cons_of_pos (by rw [hk])]
      exact ⟨_, ⟨g, t, cs, fuel, p, qs, h1, h2, h3, h4, h6, rfl⟩, List.Sublist.append (List.Sublist.refl _) h7⟩
    | false =>
      rw [List.filter_cons_of_neg (by rw [hk]; decide)]
      exact ⟨qs, h6, h7.trans (List.sublist_append_right _ _)⟩
theorem laidMet_filter {P : Program} {W : World} (keep : String × DataW Unit → Bool) {l : List (String × DataW Unit)} (h : laidMet P l W) : laidMet P (l.filter keep) W := by
  obtain ⟨ps, h1, h2, h3⟩ := h
  obtain ⟨qs, h4, h5⟩ := laid_filter keep l ps h1
  exact ⟨qs, h4, h2.sublist h5, fun b off hm => h3 b off (h5.subset hm)⟩
end Tk
