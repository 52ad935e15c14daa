/- The evaluator's operations held against the model's, one by one (4): append, copy, lengths. -/
import Derived.Test.YtphhnhheedbjjaaGreatDoorEvOps3
set_option linter.unusedVariables false
set_option linter.unusedSimpArgs false
namespace Tk
open Go Go.RowKit

section
variable {P : Program} {σ : Nat → Int} {W0 : World} {ρ : Inj} {h : H} {W : World}
theorem Rel.drew (R : Rel σ W0 ρ h W) : Rel σ W0 ρ h W.drew :=
  ⟨R.below.drew, R.dom, R.blk, fun r o l hg hl => let ⟨h2, h3⟩ := R.obs r o l hg hl; ⟨ObR.mono (W := W) (W' := W.drew) (Ext.refl _) rfl h2, h3⟩, R.apart⟩
theorem Stp.drew (R : Rel σ W0 ρ h W) : Stp σ W0 ρ h W ρ h W.drew := ⟨Ext.refl _, R.drew, fun _ k => .inr k, fun _ _ _ => rfl, Nat.le_refl _, Nat.le_refl _, fun _ _ => rfl⟩
theorem Rel.kill (R : Rel σ W0 ρ h W) (r : Nat) : Rel σ W0 ρ (h.kill r) W := by
  have hsub : ∀ k o, (h.kill r).tr.get k = some o → h.tr.get k = some o ∧ k ≠ r := by
    intro k o hg
    simp only [H.kill, Tr.get_del] at hg
    split at hg
    · cases hg
    · rename_i hne; exact ⟨hg, fun e => hne e.symm⟩
  exact ⟨R.below, R.dom, R.blk, fun k o l hg hl => R.obs k o l (hsub k o hg).1 hl, fun r1 r2 o1 o2 l1 l2 h1 h2 => R.apart r1 r2 o1 o2 l1 l2 (hsub _ _ h1).1 (hsub _ _ h2).1⟩
theorem Stp.kill (R : Rel σ W0 ρ h W) (r : Nat) : Stp σ W0 ρ h W ρ (h.kill r) W := by
  refine ⟨Ext.refl _, R.kill r, ?_, fun _ _ _ => rfl, Nat.le_refl _, Nat.le_refl _, fun _ _ => rfl⟩
  rintro b ⟨k, o, l, hg, hl, rfl⟩
  simp only [H.kill, Tr.get_del] at hg
  split at hg
  · cases hg
  · exact .inr ⟨k, o, l, hg, hl, rfl⟩
/-- a row that has room goes on where it lies, under another name -/
theorem move_ok (R : Rel σ W0 ρ h W) {r o sz n : Nat} {old nw : List V} {os ns : List Value} {L : Loc} {C : Array Value} {e : TypeId} {h' : H} (hL : ρ r = some L) (hfree : ∃ s cs, h.tr.get r = some (.cells s cs false))
    (hb : W.heap[L.blk]? = some (.cells C e (0, 0))) (hC : C.size = L.base + L.tot) (hn : (h.kill r).newCells sz (old ++ nw) = some h') (ho : VRs σ ρ old os) (hw : VRs σ ρ nw ns)
    (hos : ∀ (j : Nat) (x : Value), os[j]? = some x → C[L.base + o + j]? = some x) (hfit : o + old.length + nw.length ≤ L.tot) :
    Stp σ W0 ρ h W (ρ.plus h.next ⟨L.blk, L.base + o, L.tot - o⟩) h' (W.setRow L.blk (C.toList.take (L.base + o + old.length) ++ ns ++ C.toList.drop (L.base + o + old.length + ns.length)).toArray) := by
  obtain ⟨s0, cs0, hg0⟩ := hfree
  have hown : W0.heap.size ≤ L.blk := by
    exact (R.obs r _ L hg0 hL).2.1 rfl
  have hlt : L.blk < W.heap.size := R.blk r L hL
  have hrn : r ≠ h.next := fun e => by rw [e, R.dom _ (Nat.le_refl _)] at hL; cases hL
  unfold H.newCells at hn
  split at hn
  · cases hn
  rename_i s
  simp only [Option.some.injEq, lenL_eq] at hn
  subst hn
  obtain ⟨c1, c2⟩ := chunk_spec (s + 1) (by omega) (old ++ nw).length (old ++ nw) (Nat.le_refl _)
  have hx : Ext ρ (ρ.plus h.next ⟨L.blk, L.base + o, L.tot - o⟩) := fun r l hl => by
    have : r ≠ h.next := fun e => by rw [e, R.dom _ (Nat.le_refl _)] at hl; cases hl
    simp [Inj.plus, this, hl]
  have hold : ∀ k l, k ≠ h.next → (ρ.plus h.next ⟨L.blk, L.base + o, L.tot - o⟩) k = some l → ρ k = some l := fun r l hr hl => by simpa [Inj.plus, hr] using hl
  have hnew : (ρ.plus h.next ⟨L.blk, L.base + o, L.tot - o⟩) h.next = some ⟨L.blk, L.base + o, L.tot - o⟩ := by simp [Inj.plus]
  have hlo := ho.length
  have hln := hw.length
  have hsz : (C.toList.take (L.base + o + old.length) ++ ns ++ C.toList.drop (L.base + o + old.length + ns.length)).length = C.size := by simp; omega
  have hget : ∀ k ob, (((h.kill r).new (.cells (s + 1) (chunk (old ++ nw).length (s + 1) (old ++ nw)) false)).tr.get k = some ob) → (k = h.next ∧ ob = .cells (s + 1) (chunk (old ++ nw).length (s + 1) (old ++ nw)) false) ∨ (k ≠ h.next ∧ k ≠ r ∧ h.tr.get k = some ob) := by
    intro k ob hg
    simp only [H.new, H.kill, Tr.get_set, Tr.get_del] at hg
    split at hg
    · rename_i e; cases hg; exact .inl ⟨e.symm, rfl⟩
    · rename_i e1
      split at hg
      · cases hg
      · rename_i e2; exact .inr ⟨fun e => e1 e.symm, fun e => e2 e.symm, hg⟩
  have hsub : ∀ k l, ρ k = some l → l.blk < W.heap.size := R.blk
  refine ⟨hx, ?_, ?_, ?_, by rw [setRow_size]; exact Nat.le_refl _, by simp [H.new, H.kill], fun k hk => by simp only [Inj.plus]; rw [if_neg (by omega)]⟩
  · refine ⟨?_, fun k hk => ?_, fun k l hl => ?_, ?_, ?_⟩
    · refine ⟨R.below.os, R.below.tape, R.below.output, by rw [setRow_size]; exact R.below.size, fun k hk => ?_⟩
      rw [setRow_other _ _ _ _ (by omega)]; exact R.below.block k hk
    · have : k ≠ h.next := by simp [H.new, H.kill] at hk; omega
      simp only [Inj.plus, this, if_false]
      exact R.dom k (by simp [H.new, H.kill] at hk; omega)
    · rw [setRow_size]
      by_cases e1 : k = h.next
      · subst e1; rw [hnew] at hl; cases hl; exact hlt
      · exact R.blk k l (hold k l e1 hl)
    · intro k ob l hg hl
      rcases hget k ob hg with ⟨rfl, rfl⟩ | ⟨k1, k2, hg⟩
      · rw [hnew] at hl; cases hl
        refine ⟨?_, Place.mk rfl hown⟩
        have hq : (C.toList.take (L.base + o + old.length) ++ ns ++ C.toList.drop (L.base + o + old.length + ns.length)).toArray.size = (L.base + o) + (L.tot - o) := by rw [List.size_toArray, hsz, hC]; omega
        refine ⟨_, e, RowAt.mk (setRow_heap W L.blk C _ e (0, 0) hb), ⟨Nat.le_of_eq hq.symm, fun _ => hq⟩, c1, by rw [c2]; simp; omega, ?_⟩
        rw [c2]
        have e1 : ((C.toList.take (L.base + o + old.length) ++ ns ++ C.toList.drop (L.base + o + old.length + ns.length)).toArray.toList.drop (L.base + o)).take (old ++ nw).length = os ++ ns := by
          apply List.ext_getElem?
          intro j
          have hcl : C.toList.length = C.size := by simp
          simp only [List.getElem?_append, List.getElem?_take, List.getElem?_drop, List.length_take, List.length_append, hcl]
          by_cases q1 : j < old.length
          · have hj : os[j]? = some os[j] := List.getElem?_eq_getElem (by omega)
            rw [if_pos (by omega), if_pos (by omega), if_pos (by omega), if_pos (by omega), if_pos (by omega), hj]
            have := hos j _ hj
            simpa using this
          · by_cases q2 : j < old.length + nw.length
            · rw [if_pos (by omega), if_pos (by omega), if_neg (by omega), if_neg (by omega)]
              congr 1; omega
            · rw [if_neg (by omega), if_neg (by omega), List.getElem?_eq_none (by omega)]
        show VRs _ _ _ (((C.toList.take (L.base + o + old.length) ++ ns ++ C.toList.drop (L.base + o + old.length + ns.length)).toArray.toList.drop (L.base + o)).take (old ++ nw).length)
        rw [e1]
        exact VRs.mono hx _ _ (ho.append hw)
      · have hl := hold k l k1 hl
        obtain ⟨hO, hfr⟩ := R.obs k ob l hg hl
        refine ⟨ObR.mono hx (setRow_other _ _ _ _ ?_) hO, hfr⟩
        rcases R.apart r k _ ob L l hg0 hg (fun e => k2 e.symm) hL hl with hap | ⟨hap, _⟩
        · exact fun e => hap e.symm
        · cases hap
    · intro r1 r2 o1 o2 l1 l2 h1 h2 hne hl1 hl2
      rcases hget r1 o1 h1 with ⟨e1, rfl⟩ | ⟨a1, a2, h1⟩
      · subst e1
        rw [hnew] at hl1; cases hl1
        rcases hget r2 o2 h2 with ⟨e2, rfl⟩ | ⟨b1, b2, h2⟩
        · exact absurd e2.symm hne
        · rcases R.apart r r2 _ o2 L l2 hg0 h2 (fun e => b2 e.symm) hL (hold r2 l2 b1 hl2) with hap | ⟨hap, _⟩
          · exact .inl hap
          · cases hap
      · rcases hget r2 o2 h2 with ⟨e2, rfl⟩ | ⟨b1, b2, h2⟩
        · subst e2
          rw [hnew] at hl2; cases hl2
          rcases R.apart r1 r o1 _ l1 L h1 hg0 a2 (hold r1 l1 a1 hl1) hL with hap | ⟨_, hap, _⟩
          · exact .inl hap
          · cases hap
        · exact R.apart r1 r2 o1 o2 l1 l2 h1 h2 hne (hold r1 l1 a1 hl1) (hold r2 l2 b1 hl2)
  · rintro b ⟨k, ob, l, hg, hl, rfl⟩
    rcases hget k ob hg with ⟨rfl, rfl⟩ | ⟨k1, k2, hg⟩
    · rw [hnew] at hl; cases hl
      exact .inr ⟨r, _, L, hg0, hL, rfl⟩
    · exact .inr ⟨k, ob, l, hg, hold k l k1 hl, rfl⟩
  · intro b _ hk
    exact setRow_other _ _ _ _ (fun e => hk ⟨r, _, L, hg0, hL, e.symm⟩)

theorem appended_ok (R : Rel σ W0 ρ h W) {ints : Bool} {bytes size : Nat} {z x : V} {zx x' : Value} {n : Nat} {nw : List V} (hzj : isJunk z = false) (hz : VR σ ρ z zx) (hzs : zx.cells.size = size) (hs : 0 < size)
    (ha : appended ints bytes size z.cells x h = some (n, nw)) (hx : VR σ ρ x x') (i : TypeInfo) (hi : i.size = size) (hb : i.bytes = bytes) :
    ∃ new, VRs σ ρ nw new ∧ (if ints then (asInt x').run P W = .ok (n : Int) W ∧ n ≤ 2 ^ 31 ∧ n * i.bytes ≤ 2 ^ 47 else (Builtin.lenOf x').run P W = .ok n W) ∧
      (if ints then (if n * i.size = 0 then #[] else Builtin.zeroCells zx.cells n) = new.toArray else (Builtin.firstCells i.size n x').run P W = .ok new.toArray W) ∧
      (if ints then (if n * i.size = 0 then #[] else Builtin.zeroCells zx.cells n) = new.toArray else (Builtin.firstCells i.size n x').run P W.drew = .ok new.toArray W.drew) ∧ (n = 0 → nw = [] ∨ True) := by
  subst hi hb
  unfold appended at ha
  split at ha
  · split at ha
    · rename_i m hm
      split at ha
      · rename_i hb1
        simp only [Option.some.injEq, Prod.mk.injEq] at ha
        obtain ⟨rfl, rfl⟩ := ha
        simp only [Bool.and_eq_true] at hb1
        have b1 := bleN hb1.1
        have b2 := bleN hb1.2
        have hrep := repl_ok (cells_ok hzj hz) (by omega) m
        rw [hzs] at hrep
        have e : Builtin.zeroCells zx.cells m = (Array.range (m * i.size)).map (zx.cells[· % i.size]!) := by simp [Builtin.zeroCells, hzs]
        refine ⟨_, hrep, ?_, ?_, ?_, fun _ => .inr trivial⟩
        · simp only [if_true]
          exact ⟨by rw [int_nat_ok (P := P) hm hx], b1, b2⟩
        · simp only [if_true]
          split
          · rename_i h0; rw [h0]; simp [range_none]
          · rw [e]
        · simp only [if_true]
          split
          · rename_i h0; rw [h0]; simp [range_none]
          · rw [e]
      · cases ha
    · cases ha
  · split at ha
    · rename_i m hm
      split at ha
      · rename_i l hl
        simp only [Option.some.injEq, Prod.mk.injEq] at ha
        obtain ⟨rfl, rfl⟩ := ha
        obtain ⟨xs, h1, h2⟩ := first_ok (P := P) R hl hx
        obtain ⟨ys, h3, h4⟩ := first_ok (P := P) R.drew hl hx
        have hlen := lenV_ok (P := P) R hm hl hx
        have hxy : xs = ys := by
          unfold Builtin.firstCells at h1 h3
          cases x' <;> try (cases h1; done)
          case string s =>
            simp at h1 h3
            have := h1.symm.trans h3
            simpa using congrArg Array.toList this
          case slice a n' c =>
            cases a with
            | none => simp at h1 h3; subst h1; subst h3; rfl
            | some a =>
              have key : ∀ (k i : Nat) (acc : Array Value) (r1 r2 : Array Value) , (loadCellsFrom a i k acc).run P W = .ok r1 W → (loadCellsFrom a i k acc).run P W.drew = .ok r2 W.drew → r1 = r2 := by
                intro k
                induction k with
                | zero => intro i acc r1 r2 q1 q2; simp [loadCellsFrom] at q1 q2; rw [← q1, ← q2]
                | succ k ih =>
                  intro i acc r1 r2 q1 q2
                  simp only [loadCellsFrom, Sem.run_bind, run_load] at q1 q2
                  have hc : W.drew.cell? (a.add i) = W.cell? (a.add i) := rfl
                  rw [hc] at q2
                  cases hcell : W.cell? (a.add i) with
                  | some v =>
                    rw [hcell] at q1 q2
                    simp only [Result.andThen_ok] at q1 q2
                    exact ih _ _ _ _ q1 q2
                  | none =>
                    rw [hcell] at q1 q2
                    simp only [] at q1 q2
                    have hf : World.farLoad P W.drew (a.add i) (Mode.plain == Mode.atomic) = World.farLoad P W (a.add i) (Mode.plain == Mode.atomic) := by
                      simp only [World.farLoad]
                      rfl
                    rw [hf] at q2
                    cases hfl : World.farLoad P W (a.add i) (Mode.plain == Mode.atomic) with
                    | ok p => rw [hfl] at q1 q2; simp only [Result.andThen_ok] at q1 q2; exact ih _ _ _ _ q1 q2
                    | error e => rw [hfl] at q1; cases q1
              have := key _ 0 #[] _ _ h1 h3
              simpa using congrArg Array.toList this
        subst hxy
        exact ⟨xs, h2, by simpa using hlen, by simpa using h1, by simpa using h3, fun _ => .inr trivial⟩
      · cases ha
    · cases ha
/- the quick way to append comes to the same -/
theorem gather_rows {sz : Nat} (hsz : 0 < sz) : ∀ (rows rest : List (List V)), (∀ c ∈ rows, c.length = sz) → gather (rows ++ rest) 0 (rows.length * sz) = some rows.flatten
  | [], rest, _ => by
    rw [List.length_nil, Nat.zero_mul, List.nil_append, List.flatten_nil]
    cases rest with
    | nil => rfl
    | cons c rest =>
      have e : Nat.ble 0 (lenL (dropL c 0)) = true := by rw [Nat.ble_eq]; exact Nat.zero_le _
      rw [gather_cons]
      simp only [e, takeL_eq, List.take_zero]
  | c :: rows, rest, h => by
    have hc : c.length = sz := h c List.mem_cons_self
    rw [List.cons_append, gather_cons, dropL_eq, lenL_eq, List.drop_zero, takeL_eq]
    cases rows with
    | nil =>
      have e1 : Nat.ble ([c].length * sz) c.length = true := by rw [Nat.ble_eq]; simp [hc]
      rw [e1]
      simp [List.take_of_length_le (Nat.le_of_eq hc)]
    | cons d rows =>
      have e1 : Nat.ble ((c :: d :: rows).length * sz) c.length = false := by
        rw [Bool.eq_false_iff]
        intro k
        have := Nat.le_of_ble_eq_true k
        simp only [List.length_cons, hc, Nat.add_mul, Nat.one_mul] at this
        omega
      rw [e1]
      have e2 : (c :: d :: rows).length * sz - c.length = (d :: rows).length * sz := by
        simp only [List.length_cons, hc, Nat.add_mul, Nat.one_mul]
        omega
      simp only [e2, gather_rows hsz (d :: rows) rest (fun x hx => h x (List.mem_cons_of_mem _ hx))]
      simp [appL_eq]
theorem chunk_rows {sz : Nat} (hsz : 0 < sz) : ∀ (rows : List (List V)) (f : Nat), rows.length ≤ f → (∀ c ∈ rows, c.length = sz) → chunk f sz rows.flatten = rows
  | [], f, _, _ => by cases f <;> simp [chunk]
  | c :: rows, f, hf, h => by
    have hc : c.length = sz := h c List.mem_cons_self
    match f, hf with
    | f + 1, hf =>
      cases c with
      | nil => simp at hc; omega
      | cons a l =>
        have e : chunk (f + 1) sz (a :: (l ++ rows.flatten)) = (a :: (l ++ rows.flatten)).take sz :: chunk f sz ((a :: (l ++ rows.flatten)).drop sz) := by rw [chunk, takeL_eq, dropL_eq]
        have e1 : (a :: (l ++ rows.flatten)).take sz = a :: l := by rw [← List.cons_append]; exact List.take_left' hc
        have e2 : (a :: (l ++ rows.flatten)).drop sz = rows.flatten := by rw [← List.cons_append]; exact List.drop_left' hc
        rw [List.flatten_cons, List.cons_append, e, e1, e2, chunk_rows hsz rows f (by simpa using hf) (fun x hx => h x (List.mem_cons_of_mem _ hx))]
theorem flatQ_len {sz : Nat} : ∀ {rows : List (List V)}, (∀ c ∈ rows, c.length = sz) → rows.flatten.length = rows.length * sz
  | [], _ => by simp
  | c :: rows, h => by
    rw [List.flatten_cons, List.length_append, flatQ_len (fun x hx => h x (List.mem_cons_of_mem _ hx)), h c List.mem_cons_self, List.length_cons, Nat.add_mul]
    omega
theorem pieces_ok {z : Nat} {h : H} {r o k cap esz : Nat} {ex : Bool} {ps : List (List V)} (hp : piecesV (z + 1) h (.slice r o k cap esz ex) = some ps) :
    ps.length = k ∧ (∀ c ∈ ps, c.length = z + 1) ∧ h.read r o (k * (z + 1)) = some ps.flatten := by
  simp only [piecesV] at hp
  split at hp
  · rename_i sz cs ro hg
    split at hp
    · rename_i e
      simp only [Option.some.injEq] at hp
      simp only [Bool.and_eq_true, lenL_eq, takeL_eq, dropL_eq, allL_eq, List.all_eq_true] at e
      rw [takeL_eq, dropL_eq] at hp
      obtain ⟨⟨⟨e1, e2⟩, e3⟩, e4⟩ := e
      have e1 := beqN e1
      have e2 := beqN e2
      have e3 := beqN e3
      subst e1
      rw [hp] at e3 e4
      have hall : ∀ c ∈ ps, c.length = z + 1 := fun c hc => beqN (e4 c hc)
      refine ⟨e3, hall, ?_⟩
      unfold H.read
      rw [hg]
      simp only [e2, dropL_eq]
      have := gather_rows (sz := z + 1) (by omega) ps ((cs.drop (o / (z + 1))).drop k) hall
      rw [← hp, List.take_append_drop, hp, e3] at this
      exact this
    · cases hp
  · cases hp
theorem freshQ_ok {z bytes total : Nat} {ps px : List (List V)} {h : H} {q : V × H} (hq : freshQ (z + 1) bytes ps px total h = some q) (h1 : ∀ c ∈ ps, c.length = z + 1) (h2 : ∀ c ∈ px, c.length = z + 1) (ht : total = ps.length + px.length) :
    freshRow (z + 1) bytes ps.flatten px.flatten total h = some q := by
  unfold freshQ at hq
  split at hq
  · rename_i e
    simp only [Option.some.injEq] at hq
    have hall : ∀ c ∈ ps ++ px, c.length = z + 1 := fun c hc => by
      rcases List.mem_append.1 hc with k | k
      · exact h1 c k
      · exact h2 c k
    unfold freshRow
    have e3 : Nat.beq (lenL ps.flatten + lenL px.flatten) (total * (z + 1)) = true := by
      rw [lenL_eq, lenL_eq, flatQ_len h1, flatQ_len h2, ht, Nat.add_mul]
      exact Nat.beq_refl _
    rw [e, e3]
    simp only [Bool.and_true, withNew, H.newCells]
    rw [← hq, lenL_eq, appL_eq, appL_eq, ← List.flatten_append, chunk_rows (by omega) _ _ _ hall]
    rw [flatQ_len hall]
    exact Nat.le_mul_of_pos_right _ (by omega)
  · cases hq
theorem first_slice {h : H} {size k r o len cap esz : Nat} {ex : Bool} : firstV h size (k + 1) (.slice r o len cap esz ex) = h.read r o ((k + 1) * size) := rfl
theorem appendQ_ok {size bytes : Nat} {z : List V} {s x : V} {h : H} {q : V × H} (hq : appendQ size bytes s x h = some q) : appendA size bytes z false s x h = some q := by
  unfold appendQ at hq
  split at hq
  · rename_i r' o' n c' e' b'
    split at hq
    · rename_i m sz
      split at hq
      · cases hq
      · rename_i px hpx
        obtain ⟨x1, x2, x3⟩ := pieces_ok hpx
        have hap : appended false bytes (sz + 1) z (.slice r' o' (m + 1) c' e' b') h = some (m + 1, px.flatten) := by
          simp only [appended, lenV, first_slice, x3]
        unfold appendA
        rw [hap]
        show appendTo (sz + 1) bytes s (m + 1) px.flatten h = some q
        unfold appendTo
        split at hq
        · have := freshQ_ok (ps := []) hq (by simp) x2 (by simp [x1])
          simpa using this
        · rename_i ex
          split at hq
          · have := freshQ_ok (ps := []) hq (by simp) x2 (by simp [x1])
            simpa using this
          · cases hq
        · rename_i r o len cap esz ex
          split at hq
          · rename_i k e1 e2
            simp only [e1, e2]
            split at hq
            · cases hq
            · rename_i ps hps
              obtain ⟨s1, s2, s3⟩ := pieces_ok hps
              simp only [first_slice, s3]
              split at hq
              · exact freshQ_ok hq s2 x2 (by rw [s1, x1])
              · split at hq
                · rename_i e3
                  rw [Bool.and_eq_true] at e3
                  have e4 : allL V.scalar px.flatten = true := by
                    rw [allL_eq, List.all_eq_true]
                    intro v hv
                    obtain ⟨c, hc, hvc⟩ := List.mem_flatten.1 hv
                    have := e3.2
                    rw [allL_eq, List.all_eq_true] at this
                    have := this c hc
                    rw [allL_eq, List.all_eq_true] at this
                    exact this v hvc
                  simp only [e3.1, e4, Bool.and_true]
                  exact freshQ_ok hq s2 x2 (by rw [s1, x1])
                · cases hq
          · cases hq
        · cases hq
    · cases hq
  · cases hq
theorem appendB_eq {size bytes : Nat} {z : List V} {ints : Bool} {s x : V} {h : H} : appendB size bytes z ints s x h = appendA size bytes z ints s x h := by
  unfold appendB
  split
  · rfl
  · split
    · rename_i q hq
      exact (appendQ_ok hq).symm
    · rfl
theorem freshRow_ok {size bytes total : Nat} {old nw : List V} {os ns : List Value} {v : V} {h' : H} (R : Rel σ W0 ρ h W) (hf : freshRow size bytes old nw total h = some (v, h'))
    (ho : VRs σ ρ old os) (hn : VRs σ ρ nw ns) (z : Value) (hz : z.cells.size = size) (e : TypeId) (cap : Nat) (hcap : total ≤ cap) :
    total * bytes ≤ 2 ^ 36 ∧ total ≤ 2 ^ 36 ∧ ∃ ρ', VR σ ρ' v (.slice (some ⟨W.heap.size, 0, none⟩) total cap) ∧ Stp σ W0 ρ h W ρ' h' (W.alloc (.cells (os ++ ns ++ (Builtin.zeroCells z.cells (cap - total)).toList).toArray e)) := by
  unfold freshRow at hf
  split at hf
  · rename_i hb
    simp only [Bool.and_eq_true, lenL_eq, appL_eq] at hb
    have b1 := bleN hb.1.1
    have b2 := bleN hb.1.2
    have b3 := beqN hb.2
    obtain ⟨hc, rfl⟩ := withNew_ok hf
    rw [appL_eq] at hc
    have S := newCells_ok R hc (ho.append hn) (rest := (Builtin.zeroCells z.cells (cap - total)).toList) e
    refine ⟨b1, b2, _, ?_, S⟩
    refine vr_new_slice ρ _ _ _ _ _ _ false cap hcap (fun k => by cases k) (fun _ => ?_)
    have h1 := ho.length
    have h2 := hn.length
    simp only [List.length_append, Array.length_toList, size_zeroCells, h1, h2, hz, b3]
    rw [← Nat.add_mul]
    congr 1
    omega
  · cases hf
theorem run_append (ε : Operand → Value) (o : Oper) (ts : Array TypeId) (x y : Operand) (callee : Callee) (hc : callee = .builtin .append) (ho : o.op = .call ⟨callee, #[x, y], ts⟩) {v : Value} {W' : World}
    (h : (Builtin.append_ ts o.type #[ε x, ε y]).run P W = .ok v W') : (execOp ε o).run P W = .ok (.value v) W' := by
  subst hc
  simp [execOp, ho, resolve, invoke, builtin, h]
theorem new_nil {ints : Bool} {bytes size : Nat} {z : List V} {x : V} {nw : List V} {new : List Value} (hap : appended ints bytes size z x h = some (0, nw)) (q1 : VRs σ ρ nw new) : new = [] := by
  have := q1.length
  unfold appended at hap
  split at hap
  · split at hap
    · split at hap
      · simp only [Option.some.injEq, Prod.mk.injEq] at hap
        obtain ⟨h1, h2⟩ := hap
        subst h1
        simp only [repl] at h2
        subst h2
        simpa using this
      · cases hap
    · cases hap
  · split at hap
    · split at hap
      · rename_i l hl
        simp only [Option.some.injEq, Prod.mk.injEq] at hap
        obtain ⟨h1, h2⟩ := hap
        subst h1 h2
        unfold firstV at hl
        split at hl
        · cases hl; simpa using this
        · cases hl; simpa using this
        · cases hl; simpa using this
        · cases hl; simpa [takeL_eq, bytesV] using this
        · cases hl
      · cases hap
    · cases hap
theorem own_row (R : Rel σ W0 ρ h W) {r ofs len cap cap' size : Nat} {ex : Bool} {old : List V} {os : List Value} {L : Loc} (hL : ρ r = some L) (hfr : isFree (Tr.get h.tr r) = true)
    (hold : firstV h size len (.slice r ofs len cap size ex) = some old) (o1 : (Builtin.firstCells size len (.slice (some ⟨L.blk, L.base + ofs, none⟩) len cap')).run P W.drew = .ok os.toArray W.drew) (o2 : VRs σ ρ old os) :
    ∃ C e', W.heap[L.blk]? = some (.cells C e' (0, 0)) ∧ C.size = L.base + L.tot ∧ (∃ s cs, h.tr.get r = some (.cells s cs false)) ∧ (∀ (j : Nat) (x : Value), os[j]? = some x → C[L.base + ofs + j]? = some x) ∧ old.length = len * size := by
  obtain ⟨s, cs, hg⟩ : ∃ s cs, h.tr.get r = some (.cells s cs false) := by
    unfold isFree at hfr
    split at hfr
    · rename_i s cs hg; exact ⟨s, cs, hg⟩
    · cases hfr
  obtain ⟨hO, _⟩ := R.obs r _ L hg hL
  obtain ⟨C, e, h1, h2, _, _, _⟩ := hO
  have h1 := h1.free
  have h2 := h2.2 rfl
  refine ⟨C, e, h1, h2, ⟨s, cs, hg⟩, ?_⟩
  unfold firstV at hold
  cases len with
  | zero =>
    simp only [Option.some.injEq] at hold
    subst hold
    simp only [VRs] at o2
    subst o2
    exact ⟨fun j x hj => by simp at hj, by simp⟩
  | succ k =>
    simp only [] at hold
    obtain ⟨L', C', e', xs, hL', hb, hv, hn, hn', hle, hc⟩ := read_ok R hold ⟨_, hL⟩
    rw [hL] at hL'; cases hL'
    rw [h1] at hb; cases hb
    have h3 := run_firstCells_some (P := P) W.drew size (k + 1) ⟨L.blk, L.base + ofs, none⟩ (k + 1) cap' xs hn hc
    rw [h3] at o1
    have : xs = os := by
      have := (Result.ok.inj o1).1
      simpa using congrArg Array.toList this
    subst this
    refine ⟨fun j x hj => ?_, hn'⟩
    have := hc j x hj
    rwa [add_off, cell_at h1] at this
theorem good_append (ts : Array TypeId) (x y : Operand) : Good P σ (.call ⟨.builtin .append, #[x, y], ts⟩) (s2 (appendP P ts.toList) x y) :=
  good_s2 (by simp [Op.operands, Call.operands]) (by simp [Op.operands, Call.operands]) fun W0 h h' a b v ρ W ε o ho hf ha hb R => by
    unfold appendP at hf
    rcases hts : ts.toList with _ | ⟨t0, _ | ⟨t1, rest⟩⟩
    · simp only [hts] at hf; cases hf
    · simp only [hts] at hf; cases hf
    · simp only [hts] at hf
      have ht0 : ts[0]? = some t0 := by rw [← Array.getElem?_toList, hts]; rfl
      have ht1 : ts[1]? = some t1 := by rw [← Array.getElem?_toList, hts]; rfl
      rcases hel : elemT P t0 with _ | e
      · simp only [hel] at hf; cases hf
      rcases hi : P.info? e with _ | i
      · simp only [hel, hi] at hf; cases hf
      rcases hz : zeroT P e with _ | z
      · simp only [hel, hi, hz] at hf; cases hf
      simp only [hel, hi, hz] at hf
      rcases hk : appKind P t1 with _ | ints
      · simp only [hk] at hf; cases hf
      rcases hc : (Nat.ble 1 i.size && Nat.beq (lenL z.cells) i.size) with _ | _
      · simp only [hk, hc] at hf; cases hf
      simp only [hk, hc] at hf
      simp only [Bool.and_eq_true, lenL_eq] at hc
      have c0 := bleN hc.1
      have c1 := beqN hc.2
      obtain ⟨i', zx, hi', hzx, hv, hrun⟩ := zeroT_ok (σ := σ) (ρ := ρ) W hz
      rw [hi] at hi'; cases hi'
      have hzc := zcells_ok hz hv
      have hxs : zx.cells.size = i.size := by rw [← c1, ← hzc.length]; simp
      have A : AppArgs P ts e i zx ints := ⟨⟨t0, ht0, elemT_ok hel⟩, ⟨t1, ht1, hk⟩, hi, hzx⟩
      rw [appendB_eq] at hf
      unfold appendA at hf
      split at hf
      · rename_i n nw hap
        obtain ⟨new, q1, q2, q3, q4, _⟩ := appended_ok (P := P) R (zero_noJunk hz) hv hxs c0 hap hb i rfl rfl
        have fin : ∀ {base : Option Addr} {sLen sCap : Nat} {y' : Value} {W' : World}, ε x = .slice base sLen sCap → (Builtin.append_ ts o.type #[.slice base sLen sCap, ε y]).run P W = .ok y' W' → (execOp ε o).run P W = .ok (.value y') W' := by
          intro base sLen sCap y' W' hx h
          exact run_append ε o ts x y _ rfl ho (by rw [hx]; exact h)
        -- a new row
        have fresh : ∀ {base : Option Addr} {sLen sCap : Nat} {old : List V} {os : List Value} {hk : H}, ε x = .slice base sLen sCap → Stp σ W0 ρ h W ρ hk W.drew → freshRow i.size i.bytes old nw (sLen + n) hk = some (v, h') → VRs σ ρ old os →
            (Builtin.firstCells i.size sLen (.slice base sLen sCap)).run P W.drew = .ok os.toArray W.drew → sCap < sLen + n → Fine P σ W0 ε o v ρ h W h' := by
          intro base sLen sCap old os hk hx S hfr ho' hod hlt
          obtain ⟨f1, f2, ρ', hv', S'⟩ := freshRow_ok S.rel hfr ho' q1 zx hxs e (grownCap W (sLen + n) sCap e) (grownCap_ge ..)
          have hrun := append_new (P := P) W A o.type (base := base) q2 q4 hod hlt f1 f2
          exact fine_step (fin hx hrun) hv' (S.trans S')
        unfold appendTo at hf
        split at hf
        · rename_i r ofs len cap esz ex
          have ha0 := ha
          simp only [VR] at ha
          obtain ⟨L, cap', hL, hx, a1, a2, a3⟩ := ha
          split at hf
          · cases hf
          rename_i e1
          have e1 := beqN e1
          subst e1
          split at hf
          · rename_i e2
            have e2 := bleN e2
            split at hf
            · simp only [Option.some.injEq, Prod.mk.injEq] at hf
              obtain ⟨rfl, rfl⟩ := hf
              have hnew0 := new_nil hap q1
              subst hnew0
              have hrun := append_in (P := P) W A o.type (base := some ⟨L.blk, L.base + ofs, none⟩) (sLen := len) (sCap := cap') (n := 0) q2 q3 (by omega) (W' := W) rfl
              exact fine_value R (fin hx hrun) (by rw [Nat.add_zero, ← hx]; exact ha0)
            · rename_i k
              obtain ⟨hw, rfl⟩ := withNew_ok hf
              obtain ⟨L', C, e', W', hL', hb', hle, hst, S⟩ := write_ok R hw ⟨_, hL⟩ q1 P
              rw [hL] at hL'; cases hL'
              have hrun := append_in (P := P) W A o.type (base := some ⟨L.blk, L.base + ofs, none⟩) (sLen := len) (sCap := cap') q2 q3 (by omega) (W' := W') (by
                simp only [add_off, Nat.add_assoc]; exact hst)
              refine fine_step (fin hx hrun) ?_ S
              simp only [VR]
              exact ⟨L, cap', hL, rfl, a1, a2, a3⟩
          · rename_i e2
            have e2 := bleF e2
            split at hf
            · cases hf
            · rename_i old hold
              obtain ⟨os, o1, o2⟩ := first_ok (P := P) R.drew hold (by simp only [VR]; exact ⟨L, cap', hL, rfl, a1, a2, a3⟩ : VR σ ρ (.slice r ofs len cap i.size ex) (.slice (some ⟨L.blk, L.base + ofs, none⟩) len cap'))
              cases ex with
              | true =>
                simp only [] at hf
                exact fresh hx (Stp.drew R) hf o2 o1 (by rw [a2 rfl]; exact e2)
              | false =>
                simp only [] at hf
                split at hf
                rotate_left
                · cases hf
                rename_i hfr
                simp only [Bool.and_eq_true, allL_eq] at hfr
                obtain ⟨hfr, hsc⟩ := hfr
                by_cases hroom : len + n ≤ cap'
                · -- in place, though not known
                  have hf0 := hf
                  unfold freshRow at hf
                  split at hf
                  · rename_i hbb
                    simp only [Bool.and_eq_true, lenL_eq, appL_eq] at hbb
                    have b3 := beqN hbb.2
                    obtain ⟨hcn, rfl⟩ := withNew_ok hf
                    rw [appL_eq] at hcn
                    have hcap := a3 rfl
                    have hmul : (len + n) * i.size ≤ cap' * i.size := Nat.mul_le_mul_right _ hroom
                    have hL0 := own_row R hL hfr hold o1 o2
                    obtain ⟨C, e', hbk, hCs, hfree, hoC, hol⟩ := hL0
                    have hlo := o2.length
                    have hln := q1.length
                    have S := move_ok (n := n) R hL hfree hbk hCs hcn o2 q1 hoC (by omega)
                    have hst : (storeCells ((⟨L.blk, L.base + ofs, none⟩ : Addr).add (len * i.size)) new).run P W = .ok () (W.setRow L.blk (C.toList.take (L.base + ofs + old.length) ++ new ++ C.toList.drop (L.base + ofs + old.length + new.length)).toArray) := by
                      have hone := scalars_one q1 hsc
                      have := run_storeCells_at P L.blk (L.base + ofs + old.length) e' new 0 C W hbk (by omega) hone
                      simpa only [add_off, Nat.add_zero, hol] using this
                    have hrun := append_in (P := P) W A o.type (base := some ⟨L.blk, L.base + ofs, none⟩) (sLen := len) (sCap := cap') q2 q3 hroom (W' := _) hst
                    refine fine_step (fin hx hrun) ?_ S
                    simp only [VR]
                    refine ⟨⟨L.blk, L.base + ofs, L.tot - ofs⟩, cap', by simp [Inj.plus, H.kill], by simp, hroom, (fun q => by cases q), fun _ => by simp; omega⟩
                  · cases hf
                · have K : Stp σ W0 ρ h W ρ (h.kill r) W.drew := (Stp.kill R r).trans (Stp.drew (R.kill r))
                  exact fresh hx K hf o2 o1 (by omega)
        · simp only [VR] at ha
          split at hf
          · cases hf
            have hnew0 := new_nil hap q1
            subst hnew0
            have hrun := append_in (P := P) W A o.type (base := none) (sLen := 0) (sCap := 0) (n := 0) q2 q3 (by omega) (W' := W) rfl
            exact fine_value R (fin ha hrun) (by simp [VR])
          · exact fresh (sLen := 0) (sCap := 0) ha (Stp.drew R) (by simpa using hf) VRs.nil (by simp [Builtin.firstCells]) (by omega)
        · rename_i ex
          simp only [VR] at ha
          obtain ⟨ad, cap', hx, a1⟩ := ha
          split at hf
          · cases hf
            have hnew0 := new_nil hap q1
            subst hnew0
            have hrun := append_in (P := P) W A o.type (base := some ad) (sLen := 0) (sCap := cap') (n := 0) q2 q3 (by omega) (W' := W) rfl
            exact fine_value R (fin hx hrun) (by simp only [VR]; exact ⟨ad, cap', by simp, a1⟩)
          · split at hf
            · have : cap' = 0 := a1 rfl
              subst this
              exact fresh (sLen := 0) (sCap := 0) hx (Stp.drew R) (by simpa using hf) VRs.nil (by simp [Builtin.firstCells, loadCells, loadCellsFrom]) (by omega)
            · cases hf
        · cases hf
      · cases hf
end
end Tk
