/- Regions that draw their order (1): what is looked at once; the run in the plan's order, step by step. -/
import Derived.Test.YtphhnhheedbjjaaGreatDoorEvCode
set_option linter.unusedVariables false
set_option linter.unusedSimpArgs false
namespace Tk
open Go Go.RowKit

theorem hasBit_eq (m i : Nat) : hasBit m i = m.testBit i := by
  have h : Nat.land (Nat.shiftRight m i) 1 = 1 &&& (m >>> i) := Nat.and_comm _ _
  unfold hasBit
  rw [h]
  show _ = ((1 &&& (m >>> i)) != 0)
  generalize 1 &&& (m >>> i) = k
  cases k <;> rfl
theorem bit_lor (a b j : Nat) : (Nat.lor a b).testBit j = (a.testBit j || b.testBit j) := Nat.testBit_or a b j
theorem bit_pow (i j : Nat) : (2 ^ i).testBit j = decide (i = j) := Nat.testBit_two_pow
theorem bit_sub {m d : Nat} (h : Nat.beq (Nat.land m d) m = true) {j : Nat} (hj : m.testBit j = true) : d.testBit j = true := by
  have e := beqN h
  have : (Nat.land m d).testBit j = true := by rw [e]; exact hj
  have h2 : (m &&& d).testBit j = true := this
  rw [Nat.testBit_and] at h2
  simp at h2
  exact h2.2
theorem mem_parts (m : Nat) : ∀ (l a b : List Tk.Item), partIn m l = (a, b) → ∀ x, (x ∈ a ∨ x ∈ b) → x ∈ l
  | [], a, b, h, x, hx => by simp only [partIn, Prod.mk.injEq] at h; obtain ⟨rfl, rfl⟩ := h; simp at hx
  | y :: l, a, b, h, x, hx => by
    rcases hp : partIn m l with ⟨a', b'⟩
    simp only [partIn, hp] at h
    have ih := mem_parts m l a' b' hp
    split at h
    · simp only [Prod.mk.injEq] at h
      obtain ⟨rfl, rfl⟩ := h
      rcases hx with hx | hx
      · rcases List.mem_cons.1 hx with rfl | hx
        · simp
        · exact List.mem_cons_of_mem _ (ih x (.inl hx))
      · exact List.mem_cons_of_mem _ (ih x (.inr hx))
    · simp only [Prod.mk.injEq] at h
      obtain ⟨rfl, rfl⟩ := h
      rcases hx with hx | hx
      · exact List.mem_cons_of_mem _ (ih x (.inl hx))
      · rcases List.mem_cons.1 hx with rfl | hx
        · simp
        · exact List.mem_cons_of_mem _ (ih x (.inr hx))
theorem mem_lined : ∀ (acts rest : List Tk.Item) (x : Tk.Item), x ∈ lined acts rest → x ∈ rest
  | [], rest, x, h => by simpa [lined] using h
  | y :: acts, rest, x, h => by
    rcases h1 : partIn y.m rest with ⟨a, b⟩
    rcases h2 : partIn (2 ^ y.i) b with ⟨u, c⟩
    simp only [lined, h1, h2, appL_eq, List.mem_append] at h
    have m1 := mem_parts _ _ _ _ h1
    have m2 := mem_parts _ _ _ _ h2
    rcases h with h | h | h
    · exact m1 x (.inl h)
    · exact m1 x (.inr (m2 x (.inl h)))
    · exact m1 x (.inr (m2 x (.inr (mem_lined acts c x h))))
theorem mem_withLo (acts : List Tk.Item) : ∀ (l : List Tk.Item) (x : Tk.Item), x ∈ withLo acts l → ∃ y ∈ l, x.i = y.i ∧ x.o = y.o ∧ x.c = y.c
  | [], x, h => by simp [withLo] at h
  | y :: l, x, h => by
    simp only [withLo] at h
    rcases List.mem_cons.1 h with rfl | h
    · exact ⟨y, by simp, rfl, rfl, rfl⟩
    · obtain ⟨z, h1, h2⟩ := mem_withLo acts l x h
      exact ⟨z, List.mem_cons_of_mem _ h1, h2⟩
theorem mem_items : ∀ (os : List Oper) (ms : List Nat) (i : Nat) (x : Tk.Item), x ∈ items os ms i → ∃ k, x.i = i + k ∧ os[k]? = some x.o ∧ x.c = classOf x.o.op
  | [], ms, i, x, h => by cases ms <;> simp [items] at h
  | o :: os, [], i, x, h => by simp [items] at h
  | o :: os, m :: ms, i, x, h => by
    simp only [items] at h
    rcases List.mem_cons.1 h with rfl | h
    · exact ⟨0, rfl, rfl, rfl⟩
    · obtain ⟨k, h1, h2, h3⟩ := mem_items os ms (i + 1) x h
      exact ⟨k + 1, by omega, by simpa using h2, h3⟩
theorem plan_get {ops : Array Oper} {plan : List Tk.Item} (h : planOf ops.toList = some plan) : ∀ x ∈ plan, ops[x.i]? = some x.o ∧ x.c = classOf x.o.op := by
  intro x hx
  unfold planOf at h
  simp only [] at h
  split at h
  · cases h
    obtain ⟨y, h1, h2, h3, h4⟩ := mem_withLo _ _ x hx
    obtain ⟨k, h5, h6, h7⟩ := mem_items _ _ _ y (mem_lined _ _ y h1)
    have : ops[k]? = some y.o := by simpa using h6
    rw [h2, h3, h4, h5]
    simp only [Nat.zero_add]
    exact ⟨this, h7⟩
  · cases h
theorem maskOf_bit {its : List Tk.Item} {i j : Nat} (h : (maskOf i its).testBit j = true) : ∃ y ∈ its, y.i = i ∧ y.m.testBit j = true := by
  induction its with
  | nil => simp [maskOf] at h
  | cons x l ih =>
    simp only [maskOf] at h
    split at h
    · rename_i e
      exact ⟨x, by simp, beqN e, h⟩
    · obtain ⟨y, h1, h2⟩ := ih h
      exact ⟨y, List.mem_cons_of_mem _ h1, h2⟩
theorem edges_bit {its : List Tk.Item} : ∀ {es : List Edge} {j : Nat}, (edgesMask its es).testBit j = true → ∃ e ∈ es, Region.binds .any e = true ∧ (j = e.on ∨ ∃ y ∈ its, y.i = e.on ∧ y.m.testBit j = true)
  | [], j, h => by simp [edgesMask] at h
  | e :: es, j, h => by
    simp only [edgesMask] at h
    split at h
    · rename_i hb
      rw [bit_lor, bit_lor, bit_pow] at h
      simp only [Bool.or_eq_true, decide_eq_true_eq] at h
      rcases h with (h | h) | h
      · exact ⟨e, by simp, hb, .inl h.symm⟩
      · exact ⟨e, by simp, hb, .inr (maskOf_bit h)⟩
      · obtain ⟨e', h1, h2⟩ := edges_bit h
        exact ⟨e', List.mem_cons_of_mem _ h1, h2⟩
    · obtain ⟨e', h1, h2⟩ := edges_bit h
      exact ⟨e', List.mem_cons_of_mem _ h1, h2⟩
theorem edges_on {its : List Tk.Item} : ∀ {es : List Edge} {e : Edge}, e ∈ es → Region.binds .any e = true → (edgesMask its es).testBit e.on = true
  | x :: es, e, h, hb => by
    simp only [edgesMask]
    rcases List.mem_cons.1 h with rfl | h
    · simp only [hb]
      rw [bit_lor, bit_lor, bit_pow]
      simp
    · have := edges_on (its := its) h hb
      split
      · rw [bit_lor, this]; simp
      · exact this
theorem tmps_mem {l : List Operand} {t : Tmp} : t ∈ tmpsOf l ↔ Operand.tmp t ∈ l := by
  induction l with
  | nil => simp [tmpsOf]
  | cons x l ih => cases x <;> simp [tmpsOf, ih]
/-- WHAT IS LOOKED AT ONCE. -/
structure Reg (ops : Array Oper) (its : List Tk.Item) : Prop where
  get : ∀ x ∈ its, ops[x.i]? = some x.o
  cls : ∀ x ∈ its, x.c = classOf x.o.op
  edge : ∀ x ∈ its, ∀ e ∈ x.o.after.toList, Region.binds .any e = true → x.m.testBit e.on = true
  mask : ∀ x ∈ its, ∀ j, x.m.testBit j = true → ∃ e ∈ x.o.after.toList, Region.binds .any e = true ∧ (j = e.on ∨ ∃ y ∈ its, y.i = e.on ∧ y.m.testBit j = true)
  data : ∀ x ∈ its, ∀ y ∈ its, y.i ≠ x.i → (∀ t, t ∈ looksT ops x.o → y.o.dst = some t → x.m.testBit y.i = true ∨ y.m.testBit x.i = true) ∧ (∀ d, x.o.dst = some d → y.o.dst ≠ some d)
  line : inLine (actsOf its) = true
theorem reg_of {ops : Array Oper} {its : List Tk.Item} (h : planOf ops.toList = some its) (hr : regionOk ops = true) : Reg ops its ∧ planOk (actsOf its) ops.size its 0 = true := by
  unfold regionOk at hr
  simp only [h, Bool.and_eq_true, allL_eq, List.all_eq_true] at hr
  obtain ⟨⟨h1, h2⟩, h3⟩ := hr
  have hm : ∀ x ∈ its, x.m = edgesMask its x.o.after.toList := fun x hx => beqN (h3 x hx).2
  refine ⟨⟨fun x hx => (plan_get h x hx).1, fun x hx => (plan_get h x hx).2, fun x hx e he hb => ?_, fun x hx j hj => ?_, fun x hx y hy hne => ?_, h2⟩, h1⟩
  · rw [hm x hx]; exact edges_on he hb
  · rw [hm x hx] at hj; exact edges_bit hj
  · have := (h3 x hx).1
    unfold dataItem at this
    rw [allL_eq, List.all_eq_true] at this
    have := this y hy
    have hb : Nat.beq y.i x.i = false := by
      rcases hq : Nat.beq y.i x.i with _ | _
      · rfl
      · exact absurd (beqN hq) hne
    simp only [hb, Bool.and_eq_true, allL_eq, List.all_eq_true, Bool.or_eq_true, hasBit_eq] at this
    obtain ⟨q1, q2⟩ := this
    have hw : ∀ t, y.o.dst = some t → writes y t = true := fun t ht => by simp [writes, ht]
    refine ⟨fun t ht hd => ?_, fun d hd hdy => ?_⟩
    · rcases q1 t ht with (q | q) | q
      · rw [hw t hd] at q; cases q
      · exact .inl q
      · exact .inr q
    · simp only [hd] at q2
      rw [hw d hdy] at q2
      cases q2
theorem plan_fresh {acts : List Tk.Item} {size : Nat} : ∀ {l : List Tk.Item} {d : Nat}, planOk acts size l d = true → ∀ y ∈ l, d.testBit y.i = false
  | [], d, h, y, hy => by simp at hy
  | x :: l, d, h, y, hy => by
    simp only [planOk, Bool.and_eq_true, hasBit_eq] at h
    rcases List.mem_cons.1 hy with rfl | hy
    · have := h.1.1.1.2
      cases hq : d.testBit y.i with
      | false => rfl
      | true => rw [hq] at this; cases this
    · have := plan_fresh h.2 y hy
      rw [bit_lor] at this
      simp at this
      exact this.1
theorem plan_ne {acts : List Tk.Item} {size : Nat} {x : Tk.Item} {l : List Tk.Item} {d : Nat} (h : planOk acts size (x :: l) d = true) : ∀ y ∈ l, y.i ≠ x.i := by
  simp only [planOk, Bool.and_eq_true] at h
  intro y hy e
  have := plan_fresh h.2 y hy
  rw [bit_lor, bit_pow, e] at this
  simp at this

/- the run in the plan's order -/
structure Rec where
  x : Tk.Item
  T : Tm
  h : H
  v : V
  T' : Tm
  h' : H
  snaps : List H
  d : Nat
  on : Bool
def itsOf (l : List Rec) : List Tk.Item := l.map (·.x)
section
variable (call : CallF) (Γ : Cx) (n : Nat) (ops : Array Oper) (base : Nat) (acts : List Tk.Item)
def Chain : List Rec → List H → Nat → Tm → H → Tm → H → Prop
  | [], snaps, d, T, h, Tz, hz => Tz = T ∧ hz = h ∧ d = 2 ^ ops.size - 1
  | r :: l, snaps, d, T, h, Tz, hz => r.snaps = snaps ∧ r.d = d ∧ r.T = T ∧ r.h = h ∧ freshIn base h.tr (r.x :: itsOf l) = true ∧ planOk acts ops.size (r.x :: itsOf l) d = true ∧
      some r.on = wantedT ops r.x.o.guard T ∧ (r.on = false → r.v = undefV ∧ r.h' = h) ∧ (r.on = true → evItem call Γ base r.x (itsOf l) snaps T h = some (r.v, r.h')) ∧
      put n r.x.o.dst r.v T = some r.T' ∧ Chain l (addSnap r.x.c snaps h) (Nat.lor d (2 ^ r.x.i)) r.T' r.h' Tz hz
theorem evPlan_cons (x : Tk.Item) (rest : List Tk.Item) (snaps : List H) (T : Tm) (h : H) : evPlan call Γ n ops base (x :: rest) snaps T h = match wantedT ops x.o.guard T with
    | none => none
    | some false => match put n x.o.dst undefV T with
      | some T => evPlan call Γ n ops base rest (addSnap x.c snaps h) T h
      | none => none
    | some true => match evItem call Γ base x rest snaps T h with
      | none => none
      | some (v, h') => match put n x.o.dst v T with
        | none => none
        | some T' => evPlan call Γ n ops base rest (addSnap x.c snaps h) T' h' := rfl
end
theorem make_form {Γ : Cx} {op : Op} (hc : classOf op = .make) {T : Tm} {h h' : H} {v : V} (hs : step1 Γ op T h = some (v, h')) : ∃ ob, h' = h.new ob := by
  have nc : ∀ {sz : Nat} {cs : List V} {u : V}, withNew (h.newCells sz cs) u = some (v, h') → ∃ ob, h' = h.new ob := by
    intro sz cs u e
    obtain ⟨e, _⟩ := withNew_ok e
    unfold H.newCells at e
    split at e
    · cases e
    · cases e; exact ⟨_, rfl⟩
  have nv : ∀ {u : V}, Tk.newVar u h = some (v, h') → ∃ ob, h' = h.new ob := by
    intro u e
    unfold Tk.newVar at e
    split at e
    · exact nc e
    · cases e
  cases op <;> try (cases hc; done)
  case alloc t =>
    have hs : sAlloc (zeroT Γ.P t) T h = some (v, h') := hs
    rcases hz : zeroT Γ.P t with _ | z
    · rw [hz] at hs; cases hs
    · rw [hz] at hs; exact nv hs
  case box t x =>
    have hs : s0 Tk.newVar x T h = some (v, h') := hs
    simp only [s0] at hs
    split at hs
    · exact nv hs
    · cases hs
  case buildSlice t k ps =>
    have hs : sParts (buildSliceP Γ.P t k) ps.toList T h = some (v, h') := hs
    simp only [sParts] at hs
    split at hs
    · unfold buildSliceP at hs
      rcases hel : elemT Γ.P t with _ | e
      · simp only [hel] at hs; cases hs
      rcases hsz : szT Γ.P e with _ | sz
      · simp only [hel, hsz] at hs; cases hs
      rcases hz : zeroT Γ.P e with _ | z
      · simp only [hel, hsz, hz] at hs; cases hs
      simp only [hel, hsz, hz] at hs
      rcases hcc : (Nat.beq (lenL z.cells) sz && Nat.ble (k * sz) (2 ^ 24)) with _ | _
      · simp only [hcc] at hs; cases hs
      simp only [hcc] at hs
      split at hs
      · split at hs
        · exact nc hs
        · cases hs
      · cases hs
    · cases hs
  case makeMap t r =>
    have hs : sMakeMap r T h = some (v, h') := hs
    cases r with
    | none => cases hs; exact ⟨_, rfl⟩
    | some r => cases hs
  case makeSlice t l c =>
    have hs : s2 (makeSliceP Γ Γ.P t) l c T h = some (v, h') := hs
    simp only [s2] at hs
    split at hs
    · unfold makeSliceP at hs
      rcases hel : elemT Γ.P t with _ | e
      · simp only [hel] at hs; cases hs
      rcases hi : Γ.P.info? e with _ | i
      · simp only [hel, hi] at hs; cases hs
      rcases hz : zeroT Γ.P e with _ | z
      · simp only [hel, hi, hz] at hs; cases hs
      simp only [hel, hi, hz] at hs
      rcases hcc : (Nat.beq (lenL z.cells) i.size && allL V.scalar z.cells) with _ | _
      · simp only [hcc] at hs; cases hs
      simp only [hcc] at hs
      split at hs
      · split at hs
        · exact nc hs
        · cases hs
      · unfold makeSym at hs
        split at hs
        · cases hs
        · split at hs
          · simp only [Option.some.injEq, Prod.mk.injEq] at hs
            exact ⟨_, hs.2.symm⟩
          · cases hs
    · cases hs
  case call c =>
    exfalso
    simp only [classOf] at hc
    split at hc
    · split at hc <;> cases hc
    · cases hc
theorem step_quiet {call : CallF} {Γ : Cx} {op : Op} (hc : classOf op ≠ .act) : stepO call Γ op = step1 Γ op := by
  cases op <;> try rfl
  rename_i c
  simp only [stepO, stepC, step1]
  cases hcc : c.callee
  case value f => exfalso; apply hc; simp [classOf, hcc]
  all_goals rfl
end Tk
