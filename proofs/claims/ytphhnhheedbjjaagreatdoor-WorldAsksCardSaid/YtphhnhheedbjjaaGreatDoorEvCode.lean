/- The evaluator's runs held against the model's: code, functions. -/
import Derived.Test.YtphhnhheedbjjaaGreatDoorEvMapL
set_option linter.unusedVariables false
set_option linter.unusedSimpArgs false
namespace Tk
open Go Go.RowKit

/-- the code without what names other globals -/
noncomputable def cutC (G : Nat) (c : Code) : Code :=
  Code.rec .skip (fun id ops draw => match opsIn G ops with | true => .region id ops draw | false => .refuse "")
    (fun _ _ a b => .seq a b) (fun c _ _ a b => .cond c a b) (fun id _ b => match mapLoop? id b with | some _ => .refuse "" | none => .block id b) (fun _ b => .loop b) (fun f ps _ _ a b => .rangeFunc f ps a b)
    (fun id => .exit id) (fun _ b => .scope b) (fun l => .label l) (fun l => .goto l) .ret (fun w => .refuse w) c
noncomputable def cutK (ct : Bool) (G : Nat) (c : Code) : Code := match ct with
  | true => cutC G c
  | false => c
section
variable {ct : Bool} {G : Nat}
theorem cutK_skip : cutK ct G .skip = .skip := by cases ct <;> rfl
theorem cutK_seq (a b : Code) : cutK ct G (.seq a b) = .seq (cutK ct G a) (cutK ct G b) := by cases ct <;> rfl
theorem cutK_cond (c : Operand) (a b : Code) : cutK ct G (.cond c a b) = .cond c (cutK ct G a) (cutK ct G b) := by cases ct <;> rfl
theorem cutK_loop (b : Code) : cutK ct G (.loop b) = .loop (cutK ct G b) := by cases ct <;> rfl
theorem cutK_range (f : Operand) (ps : Array Tmp) (a b : Code) : cutK ct G (.rangeFunc f ps a b) = .rangeFunc f ps (cutK ct G a) (cutK ct G b) := by cases ct <;> rfl
theorem cutK_exit (id : Nat) : cutK ct G (.exit id) = .exit id := by cases ct <;> rfl
theorem cutK_scope (b : Code) : cutK ct G (.scope b) = .scope (cutK ct G b) := by cases ct <;> rfl
theorem cutK_label (l : Nat) : cutK ct G (.label l) = .label l := by cases ct <;> rfl
theorem cutK_goto (l : Nat) : cutK ct G (.goto l) = .goto l := by cases ct <;> rfl
theorem cutK_ret : cutK ct G .ret = .ret := by cases ct <;> rfl
theorem cutK_refuse (w : String) : cutK ct G (.refuse w) = .refuse w := by cases ct <;> rfl
end
section
variable {Γ : Cx} {σ : Nat → Int} {n : Nat} {D : List Deferred} {G : Nat} {W0 : World} {call : CallF}
theorem done_ok {r : Option (Tm × H)} {x : Ex} {T : Tm} {h : H} (e : done r = some (x, T, h)) : x = .normal ∧ r = some (T, h) := by
  rcases r with _ | ⟨T1, h1⟩
  · cases e
  · simp only [done, Option.some.injEq, Prod.mk.injEq] at e
    obtain ⟨rfl, rfl, rfl⟩ := e
    exact ⟨rfl, rfl⟩
theorem code_ok_c (ct : Bool) (Gd : GoodCx σ Γ) (hm : Γ.P.follows .mixedOrders = true) (hcall : ∀ f, CallOk Γ.P G σ W0 f (call f)) (hdraw : DrawnSound Γ G σ W0 call) (f lf : Nat) (hblk : ∀ id, Γ.blk f id = none) :
    ∀ (c : Code) (T : Tm) (h : H) (x : Ex) (T' : Tm) (h' : H) (ρ : Inj) (a : Act) (W : World) (Q : Exit → Act → World → Prop), codeOk G (cutK ct G c) = true →
      evC call Γ f n lf (cutK ct G c) T h = some (x, T', h') → TR σ ρ n T a D → Rel σ W0 ρ h W → Glob G ρ →
      (∀ a' W' ρ', TR σ ρ' n T' a' D → Stp σ W0 ρ h W ρ' h' W' → Q x.exit' a' W') → c.wp Γ.P Q a W := by
  intro c
  induction c with
  | skip =>
    intro T h x T' h' ρ a W Q _ he ht R g hQ
    rw [cutK_skip] at he
    have he : some (Ex.normal, T, h) = some (x, T', h') := he
    cases he
    exact wp_skip (hQ a W ρ ht (Stp.refl R))
  | region id ops draw =>
    intro T h x T' h' ρ a W Q hok he ht R g hQ
    have hreg : cutK ct G (.region id ops draw) = .region id ops draw := by
      cases ct with
      | false => rfl
      | true =>
        show (match opsIn G ops with | true => Code.region id ops draw | false => .refuse "") = _
        cases ho : opsIn G ops with
        | true => rfl
        | false =>
          exfalso
          have he : evC call Γ f n lf (match opsIn G ops with | true => Code.region id ops draw | false => .refuse "") T h = some (x, T', h') := he
          rw [ho] at he
          cases he
    rw [hreg] at hok he
    simp only [codeOk, Bool.and_eq_true] at hok
    have he : evRegion call Γ n ops draw T h = some (x, T', h') := he
    cases draw with
    | false =>
      simp only [evRegion] at he
      obtain ⟨rfl, he2⟩ := done_ok he
      refine wp_region ?_
      rw [List.range_eq_range', ← Array.length_toList]
      exact ops_ok Gd hcall ops hok.1 ops.toList 0 T h ρ a W T' h' rfl he2 ht R g hQ
    | true =>
      simp only [evRegion] at he
      rcases hp : planOf ops.toList with _ | plan
      · simp only [hp] at he; cases he
      · simp only [hp] at he
        obtain ⟨rfl, he2⟩ := done_ok he
        exact wp_region_any hm (hdraw n ops plan T h T' h' ρ a _ D Q hok.2 hp hok.1 he2 ht R.drew g (fun a' W' ρ' h1 S => hQ a' W' ρ' h1 ((Stp.drew R).trans S)))
  | seq p q ihp ihq =>
    intro T h x T' h' ρ a W Q hok he ht R g hQ
    rw [cutK_seq] at hok he
    simp only [codeOk, Bool.and_eq_true] at hok
    have he : evSeq (evC call Γ f n lf (cutK ct G p)) (evC call Γ f n lf (cutK ct G q)) T h = some (x, T', h') := he
    simp only [evSeq] at he
    refine wp_seq ?_
    split at he
    · rename_i T1 h1 h2
      refine ihp T h .normal T1 h1 ρ a W _ hok.1 h2 ht R g (fun a' W' ρ' ht' S => ?_)
      exact ihq T1 h1 x T' h' ρ' a' W' Q hok.2 he ht' S.rel (g.mono S.ext) (fun a'' W'' ρ'' h3 S' => hQ a'' W'' ρ'' h3 (S.trans S'))
    · rename_i hnn
      refine ihp T h x T' h' ρ a W _ hok.1 he ht R g (fun a' W' ρ' ht' S => ?_)
      have := hQ a' W' ρ' ht' S
      cases x with
      | normal => exact absurd he (hnn T' h')
      | exit id => exact this
      | ret => exact this
  | cond c p q ihp ihq =>
    intro T h x T' h' ρ a W Q hok he ht R g hQ
    rw [cutK_cond] at hok he
    simp only [codeOk, Bool.and_eq_true] at hok
    have he : evCond c (evC call Γ f n lf (cutK ct G p)) (evC call Γ f n lf (cutK ct G q)) T h = some (x, T', h') := he
    simp only [evCond] at he
    split at he
    · rename_i hc
      have hv := opd_ok (T := T) g (fun t _ => ht.get t) hok.1.1 _ hc
      simp only [VR] at hv
      exact wp_cond_true hv (ihp T h x T' h' ρ a W Q hok.1.2 he ht R g hQ)
    · rename_i hc
      have hv := opd_ok (T := T) g (fun t _ => ht.get t) hok.1.1 _ hc
      simp only [VR] at hv
      exact wp_cond_false hv (ihq T h x T' h' ρ a W Q hok.2 he ht R g hQ)
    · cases he
  | block id p ihp =>
    intro T h x T' h' ρ a W Q hok he ht R g hQ
    have hcut : cutK ct G (.block id p) = .block id (cutK ct G p) ∧ (ct = true → mapLoop? id (cutK ct G p) = none) := by
      cases ct with
      | false => exact ⟨rfl, fun k => by cases k⟩
      | true =>
        have e : cutK true G (.block id p) = (match mapLoop? id (cutC G p) with | some _ => .refuse "" | none => .block id (cutC G p)) := rfl
        cases hq : mapLoop? id (cutC G p) with
        | none => exact ⟨by rw [e, hq]; rfl, fun _ => hq⟩
        | some q =>
          exfalso
          rw [e, hq] at he
          cases he
    obtain ⟨hcut1, hcut2⟩ := hcut
    rw [hcut1] at hok he
    have he : (match mapLoop? id (cutK ct G p) with
      | some q => evMap call Γ n q
      | none => evBlock id (evC call Γ f n lf (cutK ct G p))) T h = some (x, T', h') := he
    rcases hq : mapLoop? id (cutK ct G p) with _ | q
    case some =>
      rw [hq] at he
      cases ct with
      | true => rw [hcut2 rfl] at hq; cases hq
      | false => exact map_ok Gd hm hcall hdraw hq hok he ht R g hQ
    rw [hq] at he
    simp only [evBlock] at he
    refine wp_block ?_
    split at he
    · rename_i id' T1 h1 h2
      rcases hid : Nat.beq id' id with _ | _
      · simp only [hid, Option.some.injEq, Prod.mk.injEq] at he
        obtain ⟨rfl, rfl, rfl⟩ := he
        refine ihp T h (.exit id') T1 h1 ρ a W _ hok h2 ht R g (fun a' W' ρ' ht' S => ?_)
        have hne : id' ≠ id := fun e => by subst e; simp at hid
        show (if id' = id then Q .normal a' W' else Q (.exit id') a' W')
        rw [if_neg hne]
        exact hQ a' W' ρ' ht' S
      · simp only [hid, Option.some.injEq, Prod.mk.injEq] at he
        obtain ⟨rfl, rfl, rfl⟩ := he
        refine ihp T h (.exit id') T1 h1 ρ a W _ hok h2 ht R g (fun a' W' ρ' ht' S => ?_)
        show (if id' = id then Q .normal a' W' else Q (.exit id') a' W')
        rw [if_pos (beqN hid)]
        exact hQ a' W' ρ' ht' S
    · rename_i hnn
      refine ihp T h x T' h' ρ a W _ hok he ht R g (fun a' W' ρ' ht' S => ?_)
      have := hQ a' W' ρ' ht' S
      cases x with
      | normal => exact this
      | exit id' => exact absurd he (hnn id' T' h')
      | ret => exact this
  | loop p ihp =>
    intro T h x T' h' ρ a W Q hok he ht R g hQ
    rw [cutK_loop] at hok he
    have he : iter lf (evC call Γ f n lf (cutK ct G p)) T h = some (x, T', h') := he
    refine wp_loop_rounds lf ?_
    have key : ∀ (k : Nat) (T : Tm) (h : H) (ρ : Inj) (a : Act) (W : World), iter k (evC call Γ f n lf (cutK ct G p)) T h = some (x, T', h') → TR σ ρ n T a D → Rel σ W0 ρ h W → Glob G ρ →
        (∀ a' W' ρ', TR σ ρ' n T' a' D → Stp σ W0 ρ h W ρ' h' W' → Q x.exit' a' W') → Code.rounds Γ.P p Q k a W := by
      intro k
      induction k with
      | zero => intro T h ρ a W he; cases he
      | succ k ih =>
        intro T h ρ a W he ht R g hQ
        have he : (match evC call Γ f n lf (cutK ct G p) T h with
          | some (.normal, T, h) => iter k (evC call Γ f n lf (cutK ct G p)) T h
          | r => r) = some (x, T', h') := he
        rw [rounds_succ]
        split at he
        · rename_i T1 h1 h2
          refine ihp T h .normal T1 h1 ρ a W _ hok h2 ht R g (fun a' W' ρ' ht' S => ?_)
          exact ih T1 h1 ρ' a' W' he ht' S.rel (g.mono S.ext) (fun a'' W'' ρ'' h3 S' => hQ a'' W'' ρ'' h3 (S.trans S'))
        · rename_i hnn
          refine ihp T h x T' h' ρ a W _ hok he ht R g (fun a' W' ρ' ht' S => ?_)
          have := hQ a' W' ρ' ht' S
          cases x with
          | normal => exact absurd he (hnn T' h')
          | exit id => exact this
          | ret => exact this
    exact key lf T h ρ a W he ht R g hQ
  | exit id =>
    intro T h x T' h' ρ a W Q _ he ht R g hQ
    rw [cutK_exit] at he
    have he : some (Ex.exit id, T, h) = some (x, T', h') := he
    cases he
    exact wp_exit (hQ a W ρ ht (Stp.refl R))
  | scope p ihp =>
    intro T h x T' h' ρ a W Q hok he ht R g hQ
    rw [cutK_scope] at hok he
    have he : evC call Γ f n lf (cutK ct G p) T h = some (x, T', h') := he
    refine wp_scope_straight (ihp T h x T' h' ρ a W _ hok he ht R g (fun a' W' ρ' ht' S => ?_))
    have := hQ a' W' ρ' ht' S
    cases x <;> exact this
  | label l =>
    intro T h x T' h' ρ a W Q _ he ht R g hQ
    rw [cutK_label] at he
    have he : some (Ex.normal, T, h) = some (x, T', h') := he
    cases he
    exact wp_label (hQ a W ρ ht (Stp.refl R))
  | ret =>
    intro T h x T' h' ρ a W Q _ he ht R g hQ
    rw [cutK_ret] at he
    have he : some (Ex.ret, T, h) = some (x, T', h') := he
    cases he
    exact wp_ret (hQ a W ρ ht (Stp.refl R))
  | rangeFunc g ps as bd => intro T h x T' h' ρ a W Q _ he; rw [cutK_range] at he; cases he
  | goto l => intro T h x T' h' ρ a W Q _ he; rw [cutK_goto] at he; cases he
  | refuse w => intro T h x T' h' ρ a W Q _ he; rw [cutK_refuse] at he; cases he
theorem code_ok (Gd : GoodCx σ Γ) (hm : Γ.P.follows .mixedOrders = true) (hcall : ∀ f, CallOk Γ.P G σ W0 f (call f)) (hdraw : DrawnSound Γ G σ W0 call) (f lf : Nat) (hblk : ∀ id, Γ.blk f id = none) :
    ∀ (c : Code) (T : Tm) (h : H) (x : Ex) (T' : Tm) (h' : H) (ρ : Inj) (a : Act) (W : World) (Q : Exit → Act → World → Prop), codeOk G c = true →
      evC call Γ f n lf c T h = some (x, T', h') → TR σ ρ n T a D → Rel σ W0 ρ h W → Glob G ρ →
      (∀ a' W' ρ', TR σ ρ' n T' a' D → Stp σ W0 ρ h W ρ' h' W' → Q x.exit' a' W') → c.wp Γ.P Q a W :=
  code_ok_c false Gd hm hcall hdraw f lf hblk
/- functions -/
theorem setAll_get : ∀ (vs : List V) (i : Nat) (T : Tm) (t : Nat), Tm.get (setAll vs i T) t = if h : i ≤ t ∧ t < i + vs.length then vs[t - i] else Tm.get T t
  | [], i, T, t => by rw [dif_neg (fun h => by simp at h; omega)]; rfl
  | v :: vs, i, T, t => by
    rw [setAll, setAll_get vs (i + 1) (Tr.set T i v) t, tm_set]
    by_cases h : i + 1 ≤ t ∧ t < i + 1 + vs.length
    · rw [dif_pos h, dif_pos (by simp; omega)]
      have : t - i = (t - (i + 1)) + 1 := by omega
      simp [this]
    · rw [dif_neg h]
      by_cases e : i = t
      · subst e; rw [if_pos rfl, dif_pos (by simp)]; simp
      · rw [if_neg e, dif_neg (by simp; omega)]
theorem maxN_eq (a b : Nat) : maxN a b = a + (b - a) := by
  unfold maxN
  split
  · rename_i e; have := bleN e; omega
  · rename_i e; have := bleF e; omega
theorem enter_tr {ρ : Inj} {vs : List V} {xs : Array Value} (h : VRs σ ρ vs xs.toList) (m : Nat) : TR σ ρ (maxN (lenL vs) m) (setAll vs 0 .lf) { tmps := xs ++ Array.replicate (m - xs.size) undef, defers := [] } [] := by
  have hl := h.length
  simp only [Array.length_toList] at hl
  refine ⟨by rw [maxN_eq, lenL_eq]; simp [hl], rfl, fun t => ?_⟩
  rw [setAll_get]
  simp only [Nat.zero_le, true_and, Nat.zero_add, Nat.sub_zero]
  split
  · rename_i hlt
    obtain ⟨x, hx, hv⟩ := h.get t (List.getElem?_eq_getElem hlt)
    have hx : xs[t]? = some x := by simpa using hx
    have hlt' : t < xs.size := by omega
    have hxx : xs[t] = x := by rw [Array.getElem?_eq_getElem hlt'] at hx; exact Option.some.inj hx
    simp [Array.getElem?_append, hlt', hxx]
    exact hv
  · rename_i hge
    have e : ((xs ++ Array.replicate (m - xs.size) undef).getD t undef) = undef := by
      simp [Array.getElem?_append, Array.getElem?_replicate]
      rw [if_neg (by omega)]
      split <;> rfl
    show VR σ ρ _ ((xs ++ Array.replicate (m - xs.size) undef).getD t undef)
    rw [e]
    show VR σ ρ (Tm.get .lf t) undef
    exact vr_undef
def resOf (a : Act) : ResultVar → Sem Value
  | .tmp t => pure (a.tmps.getD t undef)
  | .cell b t => do loadVar t (← asAddr (a.tmps.getD b undef))
theorem results_ok {ρ : Inj} {T : Tm} {h : H} {a : Act} {W : World} (R : Rel σ W0 ρ h W) (ht : TR σ ρ n T a D) : ∀ (rs : List ResultVar) (l : List V), Tk.results Γ.P rs T h = some l →
    ∃ xs, VRs σ ρ l xs ∧ (rs.mapM (resOf a)).run Γ.P W = .ok xs W
  | [], l, e => by
    simp only [Tk.results, Option.some.injEq] at e
    subst e
    exact ⟨[], VRs.nil, by simp⟩
  | r :: rs, l, e => by
    cases r with
    | tmp t =>
      simp only [Tk.results] at e
      split at e
      · rename_i l1 e1
        cases e
        obtain ⟨xs, h1, h2⟩ := results_ok R ht rs l1 e1
        exact ⟨_ :: xs, VRs.cons (ht.get t) h1, by simp only [List.mapM_cons, resOf, Sem.run_bind, Sem.run_pure, Result.andThen_ok, h2]⟩
      · cases e
    | cell b t =>
      simp only [Tk.results] at e
      split at e
      · rename_i v l1 e0 e1
        cases e
        obtain ⟨xs, h1, h2⟩ := results_ok R ht rs l1 e1
        obtain ⟨ad, y, hx, hr, hv⟩ := load_ok (P := Γ.P) R e0 (ht.get b)
        refine ⟨y :: xs, VRs.cons hv h1, ?_⟩
        have e2 : (resOf a (.cell b t)).run Γ.P W = .ok y W := by simp only [resOf, Sem.run_bind, hx, asAddr, Sem.run_pure, Result.andThen_ok, hr]
        rw [List.mapM_cons, Sem.run_bind, e2]
        simp only [Result.andThen_ok, Sem.run_bind, h2, Sem.run_pure]
      · cases e
theorem resultOf_ok {ρ : Inj} {l : List V} {xs : List Value} (h : VRs σ ρ l xs) : VR σ ρ (resultOf l) (if h : xs.toArray.size = 1 then xs.toArray[0] else .tuple xs.toArray) := by
  have hl := h.length
  cases l with
  | nil =>
    simp only [VRs] at h; subst h
    simp only [resultOf]
    rw [dif_neg (by simp)]
    exact vr_undef
  | cons v l =>
    cases l with
    | nil =>
      simp only [VRs] at h
      obtain ⟨x, _, rfl, hv, rfl⟩ := h
      rw [dif_pos (by simp)]
      exact hv
    | cons w l =>
      rw [dif_neg (by simp at hl ⊢; omega)]
      simp only [resultOf, VR]
      exact ⟨_, rfl, h⟩
/-- A FUNCTION. -/
theorem callFn_ok (Gd : GoodCx σ Γ) (hm : Γ.P.follows .mixedOrders = true) (hcall : ∀ f, CallOk Γ.P G σ W0 f (call f)) (hdraw : DrawnSound Γ G σ W0 call) (lf : Nat) (hblk : ∀ f id, Γ.blk f id = none)
    (hext : ∀ f g, Γ.ext f = some g → CallOk Γ.P G σ W0 f g) (hbody : ∀ (f : FuncId) (fn : Func), Γ.ext f = none → Γ.P.funcs[f]? = some fn → bodyOk G fn = true ∧ (fn.name == "runtime.NumGoroutine") = false) (f : FuncId) : CallOk Γ.P G σ W0 f (callFn call Γ lf f) := by
  unfold callFn
  rcases hx : Γ.ext f with _ | g
  · simp only []
    rcases hf : Γ.P.funcs[f]? with _ | fn
    · intro vs xs h v h' ρ W e; cases e
    · simp only []
      rcases hb : fn.body with _ | body
      · intro vs xs h v h' ρ W e; cases e
      · simp only []
        obtain ⟨hok, hname⟩ := hbody f fn hx hf
        simp only [bodyOk, hb] at hok
        have hname : fn.name ≠ "runtime.NumGoroutine" := by simpa using hname
        intro vs xs h v h' ρ W e hv R g
        refine ⟨.enter f xs, W, by simp [callFunc, hf, hname, hb], .inl ⟨rfl, rfl, ?_⟩⟩
        refine calls_of_wp hf hb ?_
        simp only [enter, leave] at e
        split at e
        · rename_i r x T1 h1 hev
          have fin : ∀ (x' : Ex), (x' = .normal ∨ x' = .ret) → (match results Γ.P fn.results.toList T1 h1 with | some vs => some (resultOf vs, h1) | none => none) = some (v, h') →
              ∀ a' W' ρ', TR σ ρ' (maxN (lenL vs) fn.ntmps) T1 a' [] → Stp σ W0 ρ h W ρ' h1 W' → bodyPost Γ.P fn (fun e w' => ∃ x ρ', e = .returned x ∧ VR σ ρ' v x ∧ Stp σ W0 ρ h W ρ' h' w') x'.exit' a' W' := by
            intro x' hx' hr a' W' ρ' ht' S
            split at hr
            · rename_i l hl
              simp only [Option.some.injEq, Prod.mk.injEq] at hr
              obtain ⟨rfl, rfl⟩ := hr
              obtain ⟨ys, h1, h2⟩ := results_ok S.rel ht' _ _ hl
              have hrun : (Go.results fn a'.tmps).run Γ.P W' = .ok (if h : ys.toArray.size = 1 then ys.toArray[0] else .tuple ys.toArray) W' := by
                show (Array.mapM (resOf a') fn.results >>= fun vs => pure (if h : vs.size = 1 then vs[0] else .tuple vs)).run Γ.P W' = _
                rw [Array.mapM_eq_mapM_toList, map_eq_pure_bind]
                simp only [Sem.run_bind, h2, Result.andThen_ok, Sem.run_pure]
              rcases hx' with rfl | rfl <;> exact ⟨ht'.defers, _, hrun, _, ρ', rfl, resultOf_ok h1, S⟩
            · cases hr
          cases x with
          | exit id => cases e
          | normal => exact code_ok Gd hm hcall hdraw f lf (hblk f) body _ h .normal T1 h1 ρ _ W _ hok hev (enter_tr hv fn.ntmps) R g (fin .normal (.inl rfl) e)
          | ret => exact code_ok Gd hm hcall hdraw f lf (hblk f) body _ h .ret T1 h1 ρ _ W _ hok hev (enter_tr hv fn.ntmps) R g (fin .ret (.inr rfl) e)
        · cases e
  · simp only []
    exact hext f g hx
/-- A FUNCTION OF WHICH SOME PARTS ARE NOT GONE INTO. -/
theorem cutFn_ok (Gd : GoodCx σ Γ) (hm : Γ.P.follows .mixedOrders = true) (hcall : ∀ f, CallOk Γ.P G σ W0 f (call f)) (hdraw : DrawnSound Γ G σ W0 call) (lf : Nat) {f : FuncId} (hblk : ∀ id, Γ.blk f id = none) {fn : Func} {body : Code}
    (hf : Γ.P.funcs[f]? = some fn) (hb : fn.body = some body) (hok : codeOk G (cutC G body) = true) (hname : (fn.name == "runtime.NumGoroutine") = false) : CallOk Γ.P G σ W0 f (enter call Γ lf f fn (cutC G body)) := by
  have hname : fn.name ≠ "runtime.NumGoroutine" := by simpa using hname
  intro vs xs h v h' ρ W e hv R g
  refine ⟨.enter f xs, W, by simp [callFunc, hf, hname, hb], .inl ⟨rfl, rfl, ?_⟩⟩
  refine calls_of_wp hf hb ?_
  simp only [enter, leave] at e
  split at e
  · rename_i r x T1 h1 hev
    have fin : ∀ (x' : Ex), (x' = .normal ∨ x' = .ret) → (match results Γ.P fn.results.toList T1 h1 with | some vs => some (resultOf vs, h1) | none => none) = some (v, h') →
        ∀ a' W' ρ', TR σ ρ' (maxN (lenL vs) fn.ntmps) T1 a' [] → Stp σ W0 ρ h W ρ' h1 W' → bodyPost Γ.P fn (fun e w' => ∃ x ρ', e = .returned x ∧ VR σ ρ' v x ∧ Stp σ W0 ρ h W ρ' h' w') x'.exit' a' W' := by
      intro x' hx' hr a' W' ρ' ht' S
      split at hr
      · rename_i l hl
        simp only [Option.some.injEq, Prod.mk.injEq] at hr
        obtain ⟨rfl, rfl⟩ := hr
        obtain ⟨ys, h1, h2⟩ := results_ok S.rel ht' _ _ hl
        have hrun : (Go.results fn a'.tmps).run Γ.P W' = .ok (if h : ys.toArray.size = 1 then ys.toArray[0] else .tuple ys.toArray) W' := by
          show (Array.mapM (resOf a') fn.results >>= fun vs => pure (if h : vs.size = 1 then vs[0] else .tuple vs)).run Γ.P W' = _
          rw [Array.mapM_eq_mapM_toList, map_eq_pure_bind]
          simp only [Sem.run_bind, h2, Result.andThen_ok, Sem.run_pure]
        rcases hx' with rfl | rfl <;> exact ⟨ht'.defers, _, hrun, _, ρ', rfl, resultOf_ok h1, S⟩
      · cases hr
    cases x with
    | exit id => cases e
    | normal => exact code_ok_c true Gd hm hcall hdraw f lf hblk body _ h .normal T1 h1 ρ _ W _ hok hev (enter_tr hv fn.ntmps) R g (fin .normal (.inl rfl) e)
    | ret => exact code_ok_c true Gd hm hcall hdraw f lf hblk body _ h .ret T1 h1 ρ _ W _ hok hev (enter_tr hv fn.ntmps) R g (fin .ret (.inr rfl) e)
  · cases e
/-- CALLS. -/
theorem evCall_ok (Gd : GoodCx σ Γ) (hm : Γ.P.follows .mixedOrders = true) (hdraw : ∀ call, (∀ f, CallOk Γ.P G σ W0 f (call f)) → DrawnSound Γ G σ W0 call) (lf : Nat) (hblk : ∀ f id, Γ.blk f id = none)
    (hext : ∀ f g, Γ.ext f = some g → CallOk Γ.P G σ W0 f g) (hbody : ∀ (f : FuncId) (fn : Func), Γ.ext f = none → Γ.P.funcs[f]? = some fn → bodyOk G fn = true ∧ (fn.name == "runtime.NumGoroutine") = false) : ∀ (d : Nat) (f : FuncId), CallOk Γ.P G σ W0 f (evCall Γ lf d f)
  | 0, f => by intro vs xs h v h' ρ W e; cases e
  | d + 1, f => by
    have ih := evCall_ok Gd hm hdraw lf hblk hext hbody d
    exact callFn_ok Gd hm ih (hdraw _ ih) lf hblk hext hbody f
end
end Tk
