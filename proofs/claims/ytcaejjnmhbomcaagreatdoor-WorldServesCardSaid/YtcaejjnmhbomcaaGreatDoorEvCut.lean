/- A law whose loop is long: its rounds told apart, piece by piece, with states written down in between. -/
import Derived.Test.YtcaejjnmhbomcaaGreatDoorEvArg
set_option linter.unusedVariables false
set_option linter.unusedSimpArgs false
namespace Tk
open Go Go.RowKit

/-- the way to a loop: 0, 1 the first, the second of two; 2, 3 then, else; 4 a block's, a scope's body -/
noncomputable def toL (ev : Code → St) : List Nat → Code → Tm → H → Option (Tm × H)
  | [], c => match c with
    | .loop _ => fun T h => some (T, h)
    | _ => fun _ _ => none
  | i :: p, c => match c with
    | .seq a b => match i with
      | 0 => toL ev p a
      | _ + 1 => fun T h => match ev a T h with
        | some (.normal, T, h) => toL ev p b T h
        | _ => none
    | .cond x a b => fun T h => match opd x T with
      | some (.bool true) => match Nat.beq i 2 with
        | true => toL ev p a T h
        | false => none
      | some (.bool false) => match Nat.beq i 3 with
        | true => toL ev p b T h
        | false => none
      | _ => none
    | .block _ b => toL ev p b
    | .scope b => toL ev p b
    | _ => fun _ _ => none
noncomputable def bodyL : List Nat → Code → Option Code
  | [], c => match c with
    | .loop b => some b
    | _ => none
  | i :: p, c => match c with
    | .seq a b => match i with
      | 0 => bodyL p a
      | _ + 1 => bodyL p b
    | .cond _ a b => match Nat.beq i 2 with
      | true => bodyL p a
      | false => bodyL p b
    | .block _ b => bodyL p b
    | .scope b => bodyL p b
    | _ => none
/-- what comes behind the loop -/
noncomputable def fromL (ev : Code → St) : List Nat → Code → Ex × Tm × H → Option (Ex × Tm × H)
  | [], _ => fun r => some r
  | i :: p, c => match c with
    | .seq a b => match i with
      | 0 => fun r => match fromL ev p a r with
        | some (.normal, T, h) => ev b T h
        | r => r
      | _ + 1 => fromL ev p b
    | .cond _ a b => match Nat.beq i 2 with
      | true => fromL ev p a
      | false => fromL ev p b
    | .block id b => fun r => match fromL ev p b r with
      | some (.exit id', T, h) => match Nat.beq id' id with
        | true => some (.normal, T, h)
        | false => some (.exit id', T, h)
      | r => r
    | .scope b => fromL ev p b
    | _ => fun _ => none
/-- k rounds that go on -/
noncomputable def roundsL (k : Nat) (b : St) : Tm → H → Option (Tm × H) :=
  Nat.rec (fun T h => some (T, h)) (fun _ ih T h => match b T h with
    | some (.normal, T, h) => ih T h
    | _ => none) k
noncomputable def lessT (T : Tm) (l : List V) : Nat → Bool := List.rec (fun _ => true) (fun v _ ih i => match isJunk v with
  | true => ih (i + 1)
  | false => match leafV v (Tm.get T i) with
    | true => ih (i + 1)
    | false => false) l
/-- a state that is written down: what is told of the slots (junk: nothing), of the heap -/
noncomputable def atS (n : Nat) (l : List V) (h2 : H) (r : Option (Tm × H)) : Bool := match r with
  | some (T, h) => match Nat.beq (lenL l) n && lessT T l 0 && Nat.ble h.next h2.next with
    | true => subTr h2.tr h.tr
    | false => false
  | none => false
noncomputable def tmL (l : List V) : Tm := setAll l 0 .lf

theorem lessT_ok {T : Tm} : ∀ (l : List V) (i : Nat), lessT T l i = true → ∀ j v, l[j]? = some v → v = .junk ∨ v = Tm.get T (i + j)
  | [], i, _, j, v, hj => by simp at hj
  | w :: l, i, h, j, v, hj => by
    have h : (match isJunk w with
      | true => lessT T l (i + 1)
      | false => match leafV w (Tm.get T i) with
        | true => lessT T l (i + 1)
        | false => false) = true := h
    have tail : lessT T l (i + 1) = true := by
      split at h
      · exact h
      · split at h
        · exact h
        · cases h
    cases j with
    | zero =>
      simp at hj; subst hj
      split at h
      · rename_i hjk
        left
        cases w <;> first | rfl | cases hjk
      · split at h
        · rename_i he; right; exact leafV_eq he
        · cases h
    | succ j =>
      have := lessT_ok l (i + 1) tail j v (by simpa using hj)
      rwa [show i + 1 + j = i + (j + 1) by omega] at this
section
variable {Γ : Cx} {σ : Nat → Int} {n : Nat} {D : List Deferred} {G : Nat} {W0 : World} {call : CallF}
theorem TR.less {ρ : Inj} {T : Tm} {a : Act} {l : List V} (ht : TR σ ρ n T a D) (hl : l.length = n) (h : lessT T l 0 = true) : TR σ ρ n (tmL l) a D := by
  refine ⟨ht.size, ht.defers, fun t => ?_⟩
  unfold tmL
  rw [setAll_get]
  simp only [Nat.zero_le, true_and, Nat.zero_add, Nat.sub_zero]
  split
  · rename_i hlt
    rcases lessT_ok l 0 h t (l[t]) (List.getElem?_eq_getElem hlt) with e | e
    · rw [e]; simp only [VR]
    · rw [e, Nat.zero_add]; exact ht.get t
  · rename_i hge
    have : a.tmps.getD t undef = undef := by
      rw [Array.getD_eq_getD_getElem?, Array.getElem?_eq_none (by rw [ht.size]; omega)]; rfl
    rw [this]
    exact vr_undef
/-- what a state leads to -/
def Leads (σ : Nat → Int) (W0 : World) (n : Nat) (D : List Deferred) (G : Nat) (T : Tm) (h : H) (x : Ex) (T' : Tm) (h' : H) (goal : (Exit → Act → World → Prop) → Act → World → Prop) : Prop :=
  ∀ (ρ : Inj) (a : Act) (W : World) (Q : Exit → Act → World → Prop), TR σ ρ n T a D → Rel σ W0 ρ h W → Glob G ρ → (∀ a' W' ρ', TR σ ρ' n T' a' D → Stp σ W0 ρ h W ρ' h' W' → Q x.exit' a' W') → goal Q a W
theorem Leads.less {T : Tm} {h : H} {x : Ex} {T' : Tm} {h' : H} {goal : (Exit → Act → World → Prop) → Act → World → Prop} {l : List V} {h2 : H}
    (L : Leads σ W0 n D G (tmL l) h2 x T' h' goal) (hs : atS n l h2 (some (T, h)) = true) : Leads σ W0 n D G T h x T' h' goal := by
  intro ρ a W Q ht R g hQ
  unfold atS at hs
  simp only at hs
  split at hs
  · rename_i e
    simp only [Bool.and_eq_true, lenL_eq] at e
    have e1 := beqN e.1.1
    have e3 := bleN e.2
    have hsub : Sub h2.tr h.tr := subTr_get hs
    exact L ρ a W Q (ht.less e1 e.1.2) (R.sub hsub e3) g (fun a' W' ρ' h1 S => hQ a' W' ρ' h1 (S.less hsub e3 (Sub.refl _) (Nat.le_refl _)))
  · cases hs
variable (Gd : GoodCx σ Γ) (hm : Γ.P.follows .mixedOrders = true) (hcall : ∀ f, CallOk Γ.P G σ W0 f (call f)) (hdraw : DrawnSound Γ G σ W0 call) (f lf : Nat) (hblk : ∀ id, Γ.blk f id = none)
include Gd hm hcall hdraw hblk
theorem rounds_end {b : Code} (hb : codeOk G b = true) {x : Ex} {T' : Tm} {h' : H} : ∀ (m : Nat) (T : Tm) (h : H), iter m (evC call Γ f n lf b) T h = some (x, T', h') → Leads σ W0 n D G T h x T' h' fun Q a W => Code.rounds Γ.P b Q m a W := by
  intro m
  induction m with
  | zero => intro T h he; cases he
  | succ k ih =>
    intro T h he ρ a W Q ht R g hQ
    have he : (match evC call Γ f n lf b T h with
      | some (.normal, T, h) => iter k (evC call Γ f n lf b) T h
      | r => r) = some (x, T', h') := he
    rw [rounds_succ]
    split at he
    · rename_i T1 h1 h2
      refine code_ok Gd hm hcall hdraw f lf hblk b T h .normal T1 h1 ρ a W _ hb h2 ht R g (fun a' W' ρ' ht' S => ?_)
      exact ih T1 h1 he ρ' a' W' Q ht' S.rel (g.mono S.ext) (fun a'' W'' ρ'' h3 S' => hQ a'' W'' ρ'' h3 (S.trans S'))
    · rename_i hnn
      refine code_ok Gd hm hcall hdraw f lf hblk b T h x T' h' ρ a W _ hb he ht R g (fun a' W' ρ' ht' S => ?_)
      have := hQ a' W' ρ' ht' S
      cases x with
      | normal => exact absurd he (hnn T' h')
      | exit id => exact this
      | ret => exact this
theorem rounds_on {b : Code} (hb : codeOk G b = true) {x : Ex} {T' : Tm} {h' : H} {m : Nat} : ∀ (k : Nat) (T : Tm) (h : H) (T1 : Tm) (h1 : H), roundsL k (evC call Γ f n lf b) T h = some (T1, h1) → (Leads σ W0 n D G T1 h1 x T' h' fun Q a W => Code.rounds Γ.P b Q m a W) →
    Leads σ W0 n D G T h x T' h' fun Q a W => Code.rounds Γ.P b Q (m + k) a W := by
  intro k
  induction k with
  | zero => intro T h T1 h1 he L; cases he; exact L
  | succ k ih =>
    intro T h T1 h1 he L ρ a W Q ht R g hQ
    have he : (match evC call Γ f n lf b T h with
      | some (.normal, T, h) => roundsL k (evC call Γ f n lf b) T h
      | _ => none) = some (T1, h1) := he
    show Code.rounds Γ.P b Q (m + k + 1) a W
    rw [rounds_succ]
    split at he
    · rename_i T2 h2 e2
      refine code_ok Gd hm hcall hdraw f lf hblk b T h .normal T2 h2 ρ a W _ hb e2 ht R g (fun a' W' ρ' ht' S => ?_)
      exact ih T2 h2 T1 h1 he L ρ' a' W' Q ht' S.rel (g.mono S.ext) (fun a'' W'' ρ'' h3 S' => hQ a'' W'' ρ'' h3 (S.trans S'))
    · cases he
/-- A PIECE OF A LOOP: from one state that is written down to the next one. -/
theorem rounds_seg {b : Code} (hb : codeOk G b = true) {x : Ex} {T' : Tm} {h' : H} {m k : Nat} {T : Tm} {h : H} {l : List V} {h2 : H} (run : atS n l h2 (roundsL k (evC call Γ f n lf b) T h) = true)
    (L : Leads σ W0 n D G (tmL l) h2 x T' h' fun Q a W => Code.rounds Γ.P b Q m a W) : Leads σ W0 n D G T h x T' h' fun Q a W => Code.rounds Γ.P b Q (m + k) a W := by
  rcases hr : roundsL k (evC call Γ f n lf b) T h with _ | ⟨T1, h1⟩
  · rw [hr] at run; cases run
  · rw [hr] at run
    exact rounds_on Gd hm hcall hdraw f lf hblk hb k T h T1 h1 hr (L.less run)
omit Gd hm hcall hdraw hblk in
theorem loop_leads {b : Code} {x : Ex} {T' : Tm} {h' : H} {m : Nat} {T : Tm} {h : H} (L : Leads σ W0 n D G T h x T' h' fun Q a W => Code.rounds Γ.P b Q m a W) : Leads σ W0 n D G T h x T' h' fun Q a W => (Code.loop b).wp Γ.P Q a W :=
  fun ρ a W Q ht R g hQ => wp_loop_rounds m (L ρ a W Q ht R g hQ)
theorem cutL_ok {x : Ex} {T2 : Tm} {h2 : H} {b : Code} {T1 : Tm} {h1 : H} (hloop : Leads σ W0 n D G T1 h1 x T2 h2 fun Q a W => (Code.loop b).wp Γ.P Q a W) :
    ∀ (p : List Nat) (c : Code) (T : Tm) (h : H) (x' : Ex) (T' : Tm) (h' : H), codeOk G c = true → bodyL p c = some b → toL (evC call Γ f n lf) p c T h = some (T1, h1) → fromL (evC call Γ f n lf) p c (x, T2, h2) = some (x', T', h') →
      Leads σ W0 n D G T h x' T' h' fun Q a W => c.wp Γ.P Q a W
  | [], c, T, h, x', T', h', hok, hb, hto, hfrom => by
    cases c with
    | loop b' =>
      simp only [bodyL, Option.some.injEq] at hb
      subst hb
      simp only [toL, Option.some.injEq, Prod.mk.injEq] at hto
      obtain ⟨rfl, rfl⟩ := hto
      simp only [fromL, Option.some.injEq, Prod.mk.injEq] at hfrom
      obtain ⟨rfl, rfl, rfl⟩ := hfrom
      exact hloop
    | _ => simp [bodyL] at hb
  | i :: p, c, T, h, x', T', h', hok, hb, hto, hfrom => by
    have ih := cutL_ok hloop p
    cases c with
    | seq c1 c2 =>
      simp only [codeOk, Bool.and_eq_true] at hok
      cases i with
      | zero =>
        simp only [bodyL] at hb
        simp only [toL] at hto
        simp only [fromL] at hfrom
        intro ρ a W Q ht R g hQ
        refine wp_seq ?_
        split at hfrom
        · rename_i T3 h3 e3
          refine ih c1 T h .normal T3 h3 hok.1 hb hto e3 ρ a W _ ht R g (fun a' W' ρ' ht' S => ?_)
          exact code_ok Gd hm hcall hdraw f lf hblk c2 T3 h3 x' T' h' ρ' a' W' Q hok.2 hfrom ht' S.rel (g.mono S.ext) (fun a'' W'' ρ'' h4 S' => hQ a'' W'' ρ'' h4 (S.trans S'))
        · rename_i hnn
          refine ih c1 T h x' T' h' hok.1 hb hto hfrom ρ a W _ ht R g (fun a' W' ρ' ht' S => ?_)
          have := hQ a' W' ρ' ht' S
          cases x' with
          | normal => exact absurd hfrom (hnn T' h')
          | exit id => exact this
          | ret => exact this
      | succ i =>
        simp only [bodyL] at hb
        simp only [toL] at hto
        simp only [fromL] at hfrom
        intro ρ a W Q ht R g hQ
        refine wp_seq ?_
        split at hto
        · rename_i T3 h3 e3
          refine code_ok Gd hm hcall hdraw f lf hblk c1 T h .normal T3 h3 ρ a W _ hok.1 e3 ht R g (fun a' W' ρ' ht' S => ?_)
          exact ih c2 T3 h3 x' T' h' hok.2 hb hto hfrom ρ' a' W' Q ht' S.rel (g.mono S.ext) (fun a'' W'' ρ'' h4 S' => hQ a'' W'' ρ'' h4 (S.trans S'))
        · cases hto
    | cond v c1 c2 =>
      simp only [codeOk, Bool.and_eq_true] at hok
      simp only [toL] at hto
      intro ρ a W Q ht R g hQ
      split at hto
      · rename_i hc
        split at hto
        · rename_i hi
          have hv := opd_ok (T := T) g (fun t _ => ht.get t) hok.1.1 _ hc
          simp only [VR] at hv
          simp only [bodyL, hi] at hb
          simp only [fromL, hi] at hfrom
          exact wp_cond_true hv (ih c1 T h x' T' h' hok.1.2 hb hto hfrom ρ a W Q ht R g hQ)
        · cases hto
      · rename_i hc
        split at hto
        · rename_i hi
          have hv := opd_ok (T := T) g (fun t _ => ht.get t) hok.1.1 _ hc
          simp only [VR] at hv
          have hi2 : Nat.beq i 2 = false := by rw [beqN hi]; rfl
          simp only [bodyL, hi2] at hb
          simp only [fromL, hi2] at hfrom
          exact wp_cond_false hv (ih c2 T h x' T' h' hok.2 hb hto hfrom ρ a W Q ht R g hQ)
        · cases hto
      · cases hto
    | block id c1 =>
      simp only [codeOk] at hok
      simp only [bodyL] at hb
      simp only [toL] at hto
      simp only [fromL] at hfrom
      intro ρ a W Q ht R g hQ
      refine wp_block ?_
      split at hfrom
      · rename_i id' T3 h3 e3
        rcases hid : Nat.beq id' id with _ | _
        · simp only [hid, Option.some.injEq, Prod.mk.injEq] at hfrom
          obtain ⟨rfl, rfl, rfl⟩ := hfrom
          refine ih c1 T h (.exit id') T3 h3 hok hb hto e3 ρ a W _ ht R g (fun a' W' ρ' ht' S => ?_)
          have hne : id' ≠ id := fun e => by subst e; simp at hid
          show (if id' = id then Q .normal a' W' else Q (.exit id') a' W')
          rw [if_neg hne]
          exact hQ a' W' ρ' ht' S
        · simp only [hid, Option.some.injEq, Prod.mk.injEq] at hfrom
          obtain ⟨rfl, rfl, rfl⟩ := hfrom
          refine ih c1 T h (.exit id') T3 h3 hok hb hto e3 ρ a W _ ht R g (fun a' W' ρ' ht' S => ?_)
          show (if id' = id then Q .normal a' W' else Q (.exit id') a' W')
          rw [if_pos (beqN hid)]
          exact hQ a' W' ρ' ht' S
      · rename_i hnn
        refine ih c1 T h x' T' h' hok hb hto hfrom ρ a W _ ht R g (fun a' W' ρ' ht' S => ?_)
        have := hQ a' W' ρ' ht' S
        cases x' with
        | normal => exact this
        | exit id' => exact absurd hfrom (hnn id' T' h')
        | ret => exact this
    | scope c1 =>
      simp only [codeOk] at hok
      simp only [bodyL] at hb
      simp only [toL] at hto
      simp only [fromL] at hfrom
      intro ρ a W Q ht R g hQ
      refine wp_scope_straight (ih c1 T h x' T' h' hok hb hto hfrom ρ a W _ ht R g (fun a' W' ρ' ht' S => ?_))
      have := hQ a' W' ρ' ht' S
      cases x' <;> exact this
    | _ => simp [bodyL] at hb
end
/-- what comes of the rounds that are left, and of what comes behind the loop -/
noncomputable def bindR (r : Option (Ex × Tm × H)) (k : Ex × Tm × H → Option (Ex × Tm × H)) : Option (Ex × Tm × H) := match r with
  | some r => k r
  | none => none
section
variable {P : Program} {G : Nat} {B : Bad} {σ : Nat → Int} {W : World} {rng : List (Int × Int)} {facts : List (Bool × E × E × Bool)} {fs : Fns}
/-- pieces, one behind the other: from one state that is written down to another one, by so many rounds -/
def Segs (P : Program) (G : Nat) (σ : Nat → Int) (W : World) (n : Nat) (b : Code) (l1 : List V) (h1 : H) (l2 : List V) (h2 : H) (M : Nat) : Prop :=
  ∀ {x : Ex} {T' : Tm} {h' : H} {m : Nat}, (Leads σ W n [] G (tmL l2) h2 x T' h' fun Q a W => Code.rounds P b Q m a W) → Leads σ W n [] G (tmL l1) h1 x T' h' fun Q a W => Code.rounds P b Q (m + M) a W
theorem Segs.refl {n : Nat} {b : Code} {l1 : List V} {h1 : H} : Segs P G σ W n b l1 h1 l1 h1 0 := fun L => L
theorem Segs.step (hp : Fit P G B) (hk : Known2 σ rng facts) (hx : FnsOk P G σ W fs) {lf d f n : Nat} {b : Code} (hb : codeOk G b = true) {l1 l2 l3 : List V} {h1 h2 h3 : H} {k M : Nat}
    (run : atS n l2 h2 (roundsL k (evC (evCall (cxX P B rng facts fs) lf d) (cxX P B rng facts fs) f n lf b) (tmL l1) h1) = true) (S : Segs P G σ W n b l2 h2 l3 h3 M) : Segs P G σ W n b l1 h1 l3 h3 (M + k) := by
  intro x T' h' m L
  have hC : ∀ g, CallOk P G σ W g (evCall (cxX P B rng facts fs) lf d g) := fun g => call_x hp hk hx lf d g
  have Gd : GoodCx σ (cxX P B rng facts fs) := ⟨hk.rng, hk.facts⟩
  have := rounds_seg (Γ := cxX P B rng facts fs) Gd hp.mixed hC (drawn_sound Gd hC) f lf (fun _ => rfl) hb run (S L)
  rwa [Nat.add_assoc] at this
/-- A LAW WHOSE LOOP IS RUN PIECE BY PIECE. -/
theorem law_cut (hp : Fit P G B) {f : FuncId} (hbad : inB f B = false) (hk : Known2 σ rng facts) (hx : FnsOk P G σ W fs) {h : H} {ρ : Inj} (R : Rel σ W ρ h W) (g : Glob G ρ) {vs : List V} {xs : Array Value} (hv : VRs σ ρ vs xs.toList)
    {fn : Func} {body b : Code} (hf : P.funcs[f]? = some fn) (hb : fn.body = some body) {p : List Nat} (hbl : bodyL p body = some b) {lf d n M m : Nat} (hn : maxN (lenL vs) fn.ntmps = n) {l1 l2 : List V} {h1 h2 : H} (hob : codeOk G b = true)
    (to : atS n l1 h1 (toL (evC (evCall (cxX P B rng facts fs) lf d) (cxX P B rng facts fs) f n lf) p body (setAll vs 0 .lf) h) = true)
    (segs : Segs P G σ W n b l1 h1 l2 h2 M)
    (fin : isTrue (leave P fn.results.toList (bindR (iter m (evC (evCall (cxX P B rng facts fs) lf d) (cxX P B rng facts fs) f n lf b) (tmL l2) h2) (fromL (evC (evCall (cxX P B rng facts fs) lf d) (cxX P B rng facts fs) f n lf) p body))) = true) :
    Calls P f xs W fun e w' => e = .returned (.bool true) ∧ Below W.heap.size W w' := by
  subst hn
  have hC : ∀ g, CallOk P G σ W g (evCall (cxX P B rng facts fs) lf d g) := fun g => call_x hp hk hx lf d g
  have Gd : GoodCx σ (cxX P B rng facts fs) := ⟨hk.rng, hk.facts⟩
  obtain ⟨hok, hname⟩ := hp.body f fn hbad hf
  simp only [bodyOk, hb] at hok
  refine calls_of_wp hf hb ?_
  rcases hi : iter m (evC (evCall (cxX P B rng facts fs) lf d) (cxX P B rng facts fs) f (maxN (lenL vs) fn.ntmps) lf b) (tmL l2) h2 with _ | ⟨x, T2, g2⟩
  · rw [hi] at fin; cases fin
  rw [hi] at fin
  have fin : isTrue (leave P fn.results.toList (fromL (evC (evCall (cxX P B rng facts fs) lf d) (cxX P B rng facts fs) f (maxN (lenL vs) fn.ntmps) lf) p body (x, T2, g2))) = true := fin
  rcases hfr : fromL (evC (evCall (cxX P B rng facts fs) lf d) (cxX P B rng facts fs) f (maxN (lenL vs) fn.ntmps) lf) p body (x, T2, g2) with _ | ⟨x', T', h'⟩
  · rw [hfr] at fin; cases fin
  rw [hfr] at fin
  have L2 := rounds_end (Γ := cxX P B rng facts fs) (n := maxN (lenL vs) fn.ntmps) (D := []) Gd hp.mixed hC (drawn_sound Gd hC) f lf (fun _ => rfl) hob m (tmL l2) h2 hi
  have L1 := segs L2
  rcases hto : toL (evC (evCall (cxX P B rng facts fs) lf d) (cxX P B rng facts fs) f (maxN (lenL vs) fn.ntmps) lf) p body (setAll vs 0 .lf) h with _ | ⟨T1, g1⟩
  · rw [hto] at to; cases to
  rw [hto] at to
  have L0 := loop_leads (Γ := cxX P B rng facts fs) (L1.less to)
  have key := cutL_ok (Γ := cxX P B rng facts fs) (n := maxN (lenL vs) fn.ntmps) (D := []) Gd hp.mixed hC (drawn_sound Gd hC) f lf (fun _ => rfl) L0 p body (setAll vs 0 .lf) h x' T' h' hok hbl hto hfr
  have fin0 : ∀ (x0 : Ex), (x0 = .normal ∨ x0 = .ret) → isTrue (match results P fn.results.toList T' h' with | some vs => some (resultOf vs, h') | none => none) = true →
      ∀ a' W' ρ', TR σ ρ' (maxN (lenL vs) fn.ntmps) T' a' [] → Stp σ W ρ h W ρ' h' W' → bodyPost P fn (fun e w' => e = .returned (.bool true) ∧ Below W.heap.size W w') x0.exit' a' W' := by
    intro x0 hx0 hr a' W' ρ' ht' S
    split at hr
    · rename_i l hl
      obtain ⟨ys, k1, k2⟩ := results_ok (Γ := cxX P B rng facts fs) S.rel ht' _ _ hl
      have hrun : (Go.results fn a'.tmps).run P W' = .ok (if h : ys.toArray.size = 1 then ys.toArray[0] else .tuple ys.toArray) W' := by
        show (Array.mapM (resOf a') fn.results >>= fun vs => pure (if h : vs.size = 1 then vs[0] else .tuple vs)).run P W' = _
        rw [Array.mapM_eq_mapM_toList, map_eq_pure_bind]
        have k2 : (fn.results.toList.mapM (resOf a')).run P W' = .ok ys W' := k2
        simp only [Sem.run_bind, k2, Result.andThen_ok, Sem.run_pure]
      have hres := resultOf_ok k1
      have htrue : resultOf l = .bool true := by
        generalize resultOf l = v at hr
        cases v <;> simp only [isTrue] at hr <;> first | (cases hr; done) | skip
        rename_i q
        cases q
        · cases hr
        · rfl
      rw [htrue] at hres
      simp only [VR] at hres
      rcases hx0 with rfl | rfl <;> exact ⟨ht'.defers, _, hrun, by rw [hres], S.rel.below⟩
    · cases hr
  cases x' with
  | exit id => cases fin
  | normal => exact key ρ _ W _ (enter_tr hv fn.ntmps) R g (fin0 .normal (.inl rfl) fin)
  | ret => exact key ρ _ W _ (enter_tr hv fn.ntmps) R g (fin0 .ret (.inr rfl) fin)
end
end Tk
