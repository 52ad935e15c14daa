/- Calls that are kept for the blocks alone that they come to: all other blocks stay. -/
import Derived.Test.YtphhnhheedbjjaaGreatDoorEvMemo
set_option linter.unusedVariables false
set_option linter.unusedSimpArgs false
namespace Tk
open Go Go.RowKit

/-- every name is below the bound; off, st: where this trie's names begin, how far they lie apart -/
noncomputable def ltTr (b : Nat) (t : Tr Ob) : Nat → Nat → Bool :=
  Tr.rec (fun _ _ => true) (fun _ x _ il ir off st => match x with
    | none => match il (off + st) (2 * st) with
      | true => ir (off + 2 * st) (2 * st)
      | false => false
    | some _ => match Nat.ble (off + 1) b with
      | true => match il (off + st) (2 * st) with
        | true => ir (off + 2 * st) (2 * st)
        | false => false
      | false => false) t
theorem ltTr_get {b : Nat} : ∀ {t : Tr Ob} {off st : Nat}, ltTr b t off st = true → ∀ (i : Nat) (o : Ob), t.get i = some o → off + st * i < b
  | .lf, off, st, _, i, o, h => by rw [Tr.get_lf] at h; cases h
  | .nd l x r, off, st, hl, i, o, h => by
    have key : ltTr b l (off + st) (2 * st) = true ∧ ltTr b r (off + 2 * st) (2 * st) = true ∧ (x ≠ none → off < b) := by
      cases x with
      | none =>
        have hl : (match ltTr b l (off + st) (2 * st) with
          | true => ltTr b r (off + 2 * st) (2 * st)
          | false => false) = true := hl
        split at hl
        · rename_i e; exact ⟨e, hl, fun k => absurd rfl k⟩
        · cases hl
      | some o' =>
        have hl : (match Nat.ble (off + 1) b with
          | true => match ltTr b l (off + st) (2 * st) with
            | true => ltTr b r (off + 2 * st) (2 * st)
            | false => false
          | false => false) = true := hl
        split at hl
        · rename_i e1
          split at hl
          · rename_i e; exact ⟨e, hl, fun _ => bleN e1⟩
          · cases hl
        · cases hl
    obtain ⟨k1, k2, k3⟩ := key
    cases i with
    | zero =>
      rw [Tr.get_nd_zero] at h
      have := k3 (by rw [h]; simp)
      omega
    | succ j =>
      rw [Tr.get_nd_succ] at h
      split at h
      · rename_i hj
        have := ltTr_get k1 _ _ h
        have e : off + st + 2 * st * (j / 2) = off + st * (j + 1) := by
          have : j + 1 = 1 + 2 * (j / 2) := by omega
          rw [this, Nat.mul_add, Nat.mul_one, ← Nat.mul_assoc, Nat.mul_comm st 2]; omega
        omega
      · rename_i hj
        have := ltTr_get k2 _ _ h
        have e : off + 2 * st + 2 * st * (j / 2) = off + st * (j + 1) := by
          have : j + 1 = 2 + 2 * (j / 2) := by omega
          rw [this, Nat.mul_add, ← Nat.mul_assoc, Nat.mul_comm st 2]; omega
        omega
noncomputable def freeO (x y : Option Ob) : Bool := match x with
  | some _ => true
  | none => match y with
    | none => true
    | some o => o.free
/-- what is not in the first is a block that may be turned -/
noncomputable def exTr (t : Tr Ob) : Tr Ob → Bool :=
  Tr.rec (fun u => Tr.rec true (fun _ y _ il ir => match freeO none y with
      | true => match il with
        | true => ir
        | false => false
      | false => false) u)
    (fun _ x _ il ir u => match u with
      | .lf => true
      | .nd l y r => match freeO x y with
        | true => match il l with
          | true => ir r
          | false => false
        | false => false) t
theorem exTr_lf : ∀ {u : Tr Ob}, exTr .lf u = true → ∀ (i : Nat) (o : Ob), u.get i = some o → o.free = true
  | .lf, _, i, o, h => by rw [Tr.get_lf] at h; cases h
  | .nd l y r, he, i, o, h => by
    have he : (match freeO none y with
      | true => match exTr .lf l with
        | true => exTr .lf r
        | false => false
      | false => false) = true := he
    split at he
    · rename_i e1
      split at he
      · rename_i e2
        cases i with
        | zero =>
          rw [Tr.get_nd_zero] at h
          subst h
          exact e1
        | succ j =>
          rw [Tr.get_nd_succ] at h
          split at h
          · exact exTr_lf e2 _ _ h
          · exact exTr_lf he _ _ h
      · cases he
    · cases he
theorem exTr_get : ∀ {t u : Tr Ob}, exTr t u = true → ∀ (i : Nat) (o : Ob), u.get i = some o → t.get i = none → o.free = true
  | .lf, u, he, i, o, h, _ => exTr_lf he i o h
  | .nd l x r, u, he, i, o, h, hn => by
    cases u with
    | lf => rw [Tr.get_lf] at h; cases h
    | nd l' y r' =>
      have he : (match freeO x y with
        | true => match exTr l l' with
          | true => exTr r r'
          | false => false
        | false => false) = true := he
      split at he
      · rename_i e1
        split at he
        · rename_i e2
          cases i with
          | zero =>
            rw [Tr.get_nd_zero] at h hn
            subst h hn
            exact e1
          | succ j =>
            rw [Tr.get_nd_succ] at h hn
            split at h
            · rename_i hj
              rw [if_pos hj] at hn
              exact exTr_get e2 _ _ h hn
            · rename_i hj
              rw [if_neg hj] at hn
              exact exTr_get he _ _ h hn
        · cases he
      · cases he
noncomputable def pick3 (a b c : Option Ob) : Option Ob := match a with
  | some _ => b
  | none => match b with
    | some o => some o
    | none => c
/-- what came of the first is the second; all else as in the third -/
noncomputable def merge (a : Tr Ob) : Tr Ob → Tr Ob → Tr Ob :=
  Tr.rec (fun b => Tr.rec (fun c => c) (fun l y r il ir c => match c with
      | .lf => .nd l y r
      | .nd l' z r' => .nd (il l') (pick3 none y z) (ir r')) b)
    (fun l x r il ir b c => match b with
      | .lf => match c with
        | .lf => .lf
        | .nd l' z r' => .nd (il .lf l') (pick3 x none z) (ir .lf r')
      | .nd lb y rb => match c with
        | .lf => .nd (il lb .lf) (pick3 x y none) (ir rb .lf)
        | .nd l' z r' => .nd (il lb l') (pick3 x y z) (ir rb r')) a
theorem merge_lf : ∀ (b c : Tr Ob) (i : Nat), (merge .lf b c).get i = pick3 none (b.get i) (c.get i)
  | .lf, c, i => by
    show c.get i = _
    rw [Tr.get_lf]; rfl
  | .nd l y r, .lf, i => by
    show (Tr.nd l y r).get i = _
    rw [Tr.get_lf]
    cases (Tr.nd l y r).get i <;> rfl
  | .nd l y r, .nd l' z r', i => by
    show (Tr.nd (merge .lf l l') (pick3 none y z) (merge .lf r r')).get i = _
    cases i with
    | zero => simp only [Tr.get_nd_zero]
    | succ j =>
      simp only [Tr.get_nd_succ]
      split
      · exact merge_lf l l' _
      · exact merge_lf r r' _
theorem merge_get : ∀ (a b c : Tr Ob) (i : Nat), (merge a b c).get i = pick3 (a.get i) (b.get i) (c.get i)
  | .lf, b, c, i => by rw [merge_lf, Tr.get_lf]
  | .nd l x r, .lf, .lf, i => by
    show (Tr.lf : Tr Ob).get i = _
    rw [Tr.get_lf]
    cases (Tr.nd l x r).get i <;> rfl
  | .nd l x r, .lf, .nd l' z r', i => by
    show (Tr.nd (merge l .lf l') (pick3 x none z) (merge r .lf r')).get i = _
    cases i with
    | zero => simp only [Tr.get_nd_zero, Tr.get_lf]
    | succ j =>
      simp only [Tr.get_nd_succ, Tr.get_lf]
      split
      · rw [merge_get l .lf l', Tr.get_lf]
      · rw [merge_get r .lf r', Tr.get_lf]
  | .nd l x r, .nd lb y rb, .lf, i => by
    show (Tr.nd (merge l lb .lf) (pick3 x y none) (merge r rb .lf)).get i = _
    cases i with
    | zero => simp only [Tr.get_nd_zero, Tr.get_lf]
    | succ j =>
      simp only [Tr.get_nd_succ, Tr.get_lf]
      split
      · rw [merge_get l lb .lf, Tr.get_lf]
      · rw [merge_get r rb .lf, Tr.get_lf]
  | .nd l x r, .nd lb y rb, .nd l' z r', i => by
    show (Tr.nd (merge l lb l') (pick3 x y z) (merge r rb r')).get i = _
    cases i with
    | zero => simp only [Tr.get_nd_zero]
    | succ j =>
      simp only [Tr.get_nd_succ]
      split
      · exact merge_get l lb l' _
      · exact merge_get r rb r' _
section
variable {σ : Nat → Int} {W0 : World} {ρ ρ' : Inj} {h h₁ h₁' : H} {W W' : World}
/-- THE BLOCKS THAT A CALL DOES NOT COME TO STAY. -/
theorem Stp.framed (R : Rel σ W0 ρ h W) (S : Stp σ W0 ρ h₁ W ρ' h₁' W') (hs : Sub h₁.tr h.tr) (hn : h₁.next = h.next)
    (hlt : ∀ (i : Nat) (o : Ob), h.tr.get i = some o → i < h.next) (hex : ∀ (i : Nat) (o : Ob), h.tr.get i = some o → h₁.tr.get i = none → o.free = true) :
    Stp σ W0 ρ h W ρ' ⟨merge h₁.tr h₁'.tr h.tr, h₁'.next⟩ W' := by
  -- where a block of the joined heap comes from
  have from_ : ∀ (r : Nat) (o : Ob), (merge h₁.tr h₁'.tr h.tr).get r = some o → h₁'.tr.get r = some o ∨ (h₁.tr.get r = none ∧ h₁'.tr.get r = none ∧ h.tr.get r = some o) := by
    intro r o hg
    rw [merge_get] at hg
    cases ha : h₁.tr.get r with
    | some o' => rw [ha] at hg; exact .inl hg
    | none =>
      rw [ha] at hg
      cases hb : h₁'.tr.get r with
      | some o' => rw [hb] at hg; exact .inl hg
      | none => rw [hb] at hg; exact .inr ⟨rfl, rfl, hg⟩
  have old : ∀ (r : Nat) (o : Ob) (l : Loc), h.tr.get r = some o → ρ' r = some l → ρ r = some l := by
    intro r o l hg hl
    rw [← S.low r (by rw [hn]; exact hlt r o hg)]
    exact hl
  -- a block that stays lies in no block that the call knew
  have away : ∀ (r : Nat) (o : Ob) (l : Loc), h₁.tr.get r = none → h.tr.get r = some o → ρ r = some l → ¬ Known ρ h₁ l.blk := by
    rintro r o l hna hg hl ⟨r2, o2, l2, g2, k2, e⟩
    have hne : r ≠ r2 := by
      rintro rfl
      rw [hna] at g2; cases g2
    rcases R.apart r r2 o o2 l l2 hg (hs r2 o2 g2) hne hl k2 with hb | ⟨hf, _, _⟩
    · exact hb e.symm
    · rw [hex r o hg hna] at hf; cases hf
  refine ⟨S.ext, ⟨S.rel.below, S.rel.dom, S.rel.blk, ?_, ?_⟩, ?_, ?_, S.size, (by show h.next ≤ h₁'.next; have := S.next; omega), fun k hk => S.low k (by omega)⟩
  · intro r o l hg hl
    rcases from_ r o hg with hb | ⟨ha, hb, hc⟩
    · exact S.rel.obs r o l hb hl
    · have hl0 := old r o l hc hl
      obtain ⟨q1, q2⟩ := R.obs r o l hc hl0
      exact ⟨ObR.mono S.ext (S.frame _ (R.blk r l hl0) (away r o l ha hc hl0)) q1, q2⟩
  · intro r r' o o' l l' hg hg' hne hl hl'
    -- one from the call, one that stays
    have mixed : ∀ (r1 r2 : Nat) (o1 o2 : Ob) (l1 l2 : Loc), h₁'.tr.get r1 = some o1 → ρ' r1 = some l1 → h₁.tr.get r2 = none → h.tr.get r2 = some o2 → ρ r2 = some l2 → l1.blk ≠ l2.blk := by
      intro r1 r2 o1 o2 l1 l2 g1 k1 a2 c2 k2 e
      rcases S.own l1.blk ⟨r1, o1, l1, g1, k1, rfl⟩ with hnew | hk
      · have := R.blk r2 l2 k2
        omega
      · exact away r2 o2 l2 a2 c2 k2 (e ▸ hk)
    rcases from_ r o hg with hb | ⟨ha, hb, hc⟩ <;> rcases from_ r' o' hg' with hb' | ⟨ha', hb', hc'⟩
    · exact S.rel.apart r r' o o' l l' hb hb' hne hl hl'
    · exact .inl (mixed r r' o o' l l' hb hl ha' hc' (old r' o' l' hc' hl'))
    · exact .inl (fun e => mixed r' r o' o l' l hb' hl' ha hc (old r o l hc hl) e.symm)
    · exact R.apart r r' o o' l l' hc hc' hne (old r o l hc hl) (old r' o' l' hc' hl')
  · rintro b ⟨r, o, l, hg, hl, rfl⟩
    rcases from_ r o hg with hb | ⟨ha, hb, hc⟩
    · rcases S.own l.blk ⟨r, o, l, hb, hl, rfl⟩ with k | k
      · exact .inl k
      · exact .inr (k.sub hs)
    · exact .inr ⟨r, o, l, hc, old r o l hc hl, rfl⟩
  · exact fun b hb hk => S.frame b hb fun k => hk (k.sub hs)
end
noncomputable def frameIs (m : Memo) (args : List V) (h : H) : Bool := match Nat.beq m.h.next h.next with
  | true => match eqRow m.args args with
    | true => match subTr m.h.tr h.tr with
      | true => match exTr m.h.tr h.tr with
        | true => ltTr h.next h.tr 0 1
        | false => false
      | false => false
    | false => false
  | false => false
noncomputable def frameFn (ms : List Memo) : Fn := fun args h =>
  List.rec none (fun m _ ih => match frameIs m args h with
    | true => some (m.v, ⟨merge m.h.tr m.h'.tr h.tr, m.h'.next⟩)
    | false => ih) ms
theorem frame_fn_ok {P : Program} {G : Nat} {σ : Nat → Int} {W0 : World} {f : FuncId} : ∀ {ms : List Memo}, (∀ m ∈ ms, MemoOk P G σ W0 f m) → CallOk P G σ W0 f (frameFn ms)
  | [], _ => fun vs xs h v h' ρ W e => by cases e
  | m :: ms, hms => fun vs xs h v h' ρ W e hv R g => by
    have e : (match frameIs m vs h with
      | true => some (m.v, ⟨merge m.h.tr m.h'.tr h.tr, m.h'.next⟩)
      | false => frameFn ms vs h) = some (v, h') := e
    split at e
    · rename_i hm
      unfold frameIs at hm
      split at hm
      · rename_i hn
        split at hm
        · rename_i ha
          split at hm
          · rename_i hsub
            split at hm
            · rename_i hex
              have ha := eqRow_eq ha
              have hs : Sub m.h.tr h.tr := subTr_get hsub
              have hn := beqN hn
              have hlt : ∀ (i : Nat) (o : Ob), h.tr.get i = some o → i < h.next := fun i o hg => by
                have := ltTr_get hm i o hg
                omega
              simp only [Option.some.injEq, Prod.mk.injEq] at e
              obtain ⟨rfl, rfl⟩ := e
              subst ha
              obtain ⟨nx, W1, h1, h2⟩ := hms m (List.mem_cons_self) xs ρ W hv (R.sub hs (Nat.le_of_eq hn.symm)) g
              refine ⟨nx, W1, h1, ?_⟩
              rcases h2 with ⟨e1, e2, hc⟩ | ⟨x, ρ', e1, hx, S⟩
              · refine .inl ⟨e1, e2, hc.mono ?_⟩
                rintro e w' ⟨x, ρ', he, hx, S⟩
                exact ⟨x, ρ', he, hx, Stp.framed R S hs hn hlt (exTr_get hex)⟩
              · exact .inr ⟨x, ρ', e1, hx, Stp.framed R S hs hn hlt (exTr_get hex)⟩
            · cases hm
          · cases hm
        · cases hm
      · cases hm
    · exact frame_fn_ok (fun m' hm' => hms m' (List.mem_cons_of_mem _ hm')) vs xs h v h' ρ W e hv R g
end Tk
