/- The evaluator's runs held against the model's: operations with calls, code. -/
import Derived.Test.YtphhnhheedbjjaaGreatDoorEvOps10
import Derived.Orders
import Derived.Scope
import Derived.LoopN
set_option linter.unusedVariables false
set_option linter.unusedSimpArgs false
namespace Tk
open Go Go.RowKit

/-- The temporaries. -/
structure TR (σ : Nat → Int) (ρ : Inj) (n : Nat) (T : Tm) (a : Act) (D : List Deferred) : Prop where
  size : a.tmps.size = n
  defers : a.defers = D
  get : ∀ t, VR σ ρ (Tm.get T t) (a.tmps.getD t undef)
def Glob (G : Nat) (ρ : Inj) : Prop := ∀ g, hasBit G g = true → ∃ t, ρ g = some ⟨g, 0, t⟩
theorem Glob.mono {G : Nat} {ρ ρ' : Inj} (h : Glob G ρ) (hx : Ext ρ ρ') : Glob G ρ' := fun g hg => let ⟨t, ht⟩ := h g hg; ⟨t, hx _ _ ht⟩
section
variable {P : Program} {σ : Nat → Int} {ρ ρ' : Inj} {n : Nat} {T T' : Tm} {a : Act} {D : List Deferred} {G : Nat}
theorem TR.mono (h : TR σ ρ n T a D) (hx : Ext ρ ρ') : TR σ ρ' n T a D := ⟨h.size, h.defers, fun t => VR.mono hx _ _ (h.get t)⟩
theorem opd_ok {x : Operand} (g : Glob G ρ) (hT : ∀ t, x = .tmp t → VR σ ρ (Tm.get T t) (a.tmps.getD t undef)) (hx : opdIn G x = true) : OpR σ ρ T a.eval x := by
  intro u hu
  cases x with
  | tmp t => simp only [opd, Option.some.injEq] at hu; subst hu; exact hT t rfl
  | const v =>
    simp only [opd] at hu
    cases hv : ofValue v with
    | none => rw [hv] at hu; cases hu
    | some w => rw [hv] at hu; cases hu; exact ofValue_ok _ _ hv
  | global k =>
    simp only [opd, Option.some.injEq] at hu
    subst hu
    obtain ⟨t, ht⟩ := g k hx
    simp only [VR, Act.eval]
    exact ⟨_, ht, by simp⟩
  | func f =>
    simp only [opd, Option.some.injEq] at hu
    subst hu
    simp only [VR, Act.eval]
    exact ⟨#[], #[], rfl, VRs.nil, VRs.nil⟩
theorem tm_set (T : Tm) (d t : Nat) (v : V) : Tm.get (Tr.set T d v) t = if d = t then v else Tm.get T t := by
  unfold Tm.get
  rw [Tr.get_set]
  by_cases e : d = t
  · rw [if_pos e, if_pos e]
  · rw [if_neg e, if_neg e]
theorem put_eq {dst : Option Tmp} {v : V} (hp : put n dst v T = some T') : (dst = none ∧ T' = T) ∨ ∃ d, dst = some d ∧ d < n ∧ T' = Tr.set T d v := by
  cases dst with
  | none => simp only [put, Option.some.injEq] at hp; exact .inl ⟨rfl, hp.symm⟩
  | some d =>
    simp only [put] at hp
    rcases hb : Nat.ble (d + 1) n with _ | _
    · simp only [hb] at hp; cases hp
    · simp only [hb, Option.some.injEq] at hp
      exact .inr ⟨d, rfl, bleN hb, hp.symm⟩
theorem getD_put {a : Act} {d t : Nat} {x : Value} (h : d < a.tmps.size) : (a.tmps.setIfInBounds d x).getD t undef = if d = t then x else a.tmps.getD t undef := by
  by_cases e : d = t
  · subst e; simp [h]
  · rw [if_neg e]; simp [Array.getElem?_setIfInBounds_ne e]
theorem put_tr {dst : Option Tmp} {v : V} {x : Value} (h : TR σ ρ n T a D) (hx : Ext ρ ρ') (hp : put n dst v T = some T') (hv : VR σ ρ' v x) : TR σ ρ' n T' (a.put dst x) D := by
  rcases put_eq hp with ⟨rfl, rfl⟩ | ⟨d, rfl, hlt, rfl⟩
  · exact h.mono hx
  · refine ⟨by simp [Act.put, h.size], h.defers, fun t => ?_⟩
    rw [tm_set]
    show VR σ ρ' _ ((a.tmps.setIfInBounds d x).getD t undef)
    rw [getD_put (by rw [h.size]; exact hlt)]
    split
    · exact hv
    · exact VR.mono hx _ _ (h.get t)
/-- whether it is wanted -/
theorem wanted_ok {ops : Array Oper} {o : Oper} {t : Bool} (hT : ∀ t, t ∈ guardTmp ops o.guard → VR σ ρ (Tm.get T t) (a.tmps.getD t undef)) (hw : wantedT ops o.guard T = some t) : Region.wanted o (yielded ops a.tmps) = t := by
  unfold Region.wanted
  unfold wantedT at hw
  rcases hg : o.guard with _ | ⟨j, w⟩
  · simp only [hg] at hw; cases hw; rfl
  · simp only [hg] at hw ⊢
    unfold yielded
    rcases hd : (ops[j]?).bind (·.dst) with _ | d
    · simp only [hd] at hw; cases hw; simp [hd]
    · simp only [hd] at hw
      simp only [hd, Option.bind_some]
      have hV := hT d (by simp only [hg, guardTmp, hd]; simp)
      cases hv : Tm.get T d
      case bool b =>
        rw [hv] at hV
        simp only [hv] at hw
        simp only [VR] at hV
        have : a.tmps[d]? = some (.bool b) := by
          rcases hq : a.tmps[d]? with _ | y
          · simp [hq, undef] at hV
          · simp [hq] at hV; rw [hV]
        simp only [this]
        simp only [Option.some.injEq] at hw
        rw [← hw]
        cases b <;> cases w <;> rfl
      case junk => simp only [hv] at hw; cases hw
      all_goals
        rw [hv] at hV
        simp only [hv, Option.some.injEq] at hw
        rw [← hw]
        simp only [VR] at hV
        rcases hq : a.tmps[d]? with _ | y
        · rfl
        · simp only [Array.getD_eq_getD_getElem?, hq, Option.getD_some] at hV
          cases y <;> first | rfl | (exfalso; simp at hV; done) | skip
theorem vrs_args {σ : Nat → Int} {ρ : Inj} {a b c : List V} {xs ys zs : Array Value} (h1 : VRs σ ρ a xs.toList) (h2 : VRs σ ρ b ys.toList) (h3 : VRs σ ρ c zs.toList) : VRs σ ρ (appL a (appL b c)) (xs ++ ys ++ zs).toList := by
  rw [appL_eq, appL_eq]
  simp only [Array.toList_append, List.append_assoc]
  exact h1.append (h2.append h3)
end

/-- what a call of a function comes to -/
def CallOk (P : Program) (G : Nat) (σ : Nat → Int) (W0 : World) (f : FuncId) (g : List V → H → Option (V × H)) : Prop :=
  ∀ (vs : List V) (xs : Array Value) (h : H) (v : V) (h' : H) (ρ : Inj) (W : World), g vs h = some (v, h') → VRs σ ρ vs xs.toList → Rel σ W0 ρ h W → Glob G ρ →
    ∃ nx W1, (callFunc f xs).run P W = .ok nx W1 ∧
      ((nx = .enter f xs ∧ W1 = W ∧ Calls P f xs W (fun e w' => ∃ x ρ', e = .returned x ∧ VR σ ρ' v x ∧ Stp σ W0 ρ h W ρ' h' w')) ∨
       (∃ x ρ', nx = .value x ∧ VR σ ρ' v x ∧ Stp σ W0 ρ h W ρ' h' W1))
section
variable {Γ : Cx} {σ : Nat → Int} {ρ : Inj} {n : Nat} {T T' : Tm} {a : Act} {D : List Deferred} {G : Nat} {W0 W : World} {call : CallF} {h h' : H}
/-- AN OPERATION. -/
theorem oper_ok (Gd : GoodCx σ Γ) (hcall : ∀ f, CallOk Γ.P G σ W0 f (call f)) (o : Oper) {v : V} (hs : stepO call Γ o.op T h = some (v, h')) (g : Glob G ρ)
    (hε : ∀ x, x ∈ o.op.operands.toList → OpR σ ρ T a.eval x) (R : Rel σ W0 ρ h W) {next : Act → World → Prop} {Q : Exit → Act → World → Prop}
    (hn : ∀ x W' ρ', VR σ ρ' v x → Stp σ W0 ρ h W ρ' h' W' → next (a.put o.dst x) W') : o.wp Γ.P a W next Q := by
  have base : stepO call Γ o.op T h = step1 Γ o.op T h → o.wp Γ.P a W next Q := by
    intro e
    rw [e] at hs
    obtain ⟨nx, W', ρ', v', hr, hnx, hv, S⟩ := good_step1 Gd o.op W0 T h v h' ρ W a.eval o rfl hs hε R
    unfold Oper.wp
    rw [hr]
    rcases hnx with rfl | ⟨rfl, rfl⟩
    · exact hn _ _ _ hv S
    · exact hn _ _ _ hv S
  obtain ⟨dst, op, type, pos, after, guard⟩ := o
  cases op <;> try exact base rfl
  rename_i c
  cases hc : c.callee
  case builtin b => exact base (by simp only [stepO, stepC, step1, hc])
  case invoke r m => exact base (by simp only [stepO, stepC, step1, hc])
  case value f =>
    simp only [stepO, stepC, hc, sCall] at hs
    split at hs
    · rename_i fn first cap vs e1 e2
      have h1 := hε f (by simp [Op.operands, Call.operands, hc]) _ e1
      simp only [VR] at h1
      obtain ⟨xs, zs, hf, k1, k3⟩ := h1
      have k2 := opds_ok e2 (fun x hx => hε x (by simp only [Op.operands, Call.operands, hc]; simp at hx ⊢; exact .inr hx))
      have k2' : VRs σ ρ vs (c.args.map a.eval).toList := by simpa using k2
      obtain ⟨nx, W1, hr, hcase⟩ := hcall fn _ _ h v h' ρ W hs (vrs_args k1 k2' k3) R g
      have hrun : (execOp a.eval ⟨dst, .call c, type, pos, after, guard⟩).run Γ.P W = .ok nx W1 := by
        rw [Array.append_assoc] at hr
        simp [execOp, resolve, hc, hf, Deferred.ofValue, invoke, hr]
      unfold Oper.wp
      rw [hrun]
      rcases hcase with ⟨rfl, rfl, hC⟩ | ⟨x, ρ', rfl, hv, S⟩
      · refine Calls.mono hC ?_
        rintro e w' ⟨x, ρ', rfl, hv, S⟩
        exact hn x w' ρ' hv S
      · exact hn x W1 ρ' hv S
    · cases hs
theorem evOps_cons (call : CallF) (Γ : Cx) (n : Nat) (ops : Array Oper) (o : Oper) (l : List Oper) (T : Tm) (h : H) : evOps call Γ n ops (o :: l) T h = match evOper call Γ n ops o T h with
    | some (T, h) => evOps call Γ n ops l T h
    | none => none := rfl
theorem vr_undef' : VR σ ρ undefV undef := vr_undef
/-- OPERATIONS IN THE TEXT'S ORDER. -/
theorem ops_ok (Gd : GoodCx σ Γ) (hcall : ∀ f, CallOk Γ.P G σ W0 f (call f)) (ops : Array Oper) (hin : opsIn G ops = true) {Q : Exit → Act → World → Prop} : ∀ (l : List Oper) (i : Nat) (T : Tm) (h : H) (ρ : Inj) (a : Act) (W : World) (T' : Tm) (h' : H),
    ops.toList.drop i = l → evOps call Γ n ops l T h = some (T', h') → TR σ ρ n T a D → Rel σ W0 ρ h W → Glob G ρ →
    (∀ a' W' ρ', TR σ ρ' n T' a' D → Stp σ W0 ρ h W ρ' h' W' → Q .normal a' W') → wpOps Γ.P ops Q (List.range' i l.length) a W := by
  intro l
  induction l with
  | nil =>
    intro i T h ρ a W T' h' _ he ht R g hQ
    have he : some (T, h) = some (T', h') := he
    cases he
    exact hQ a W ρ ht (Stp.refl R)
  | cons o l ih =>
    intro i T h ρ a W T' h' hl he ht R g hQ
    have ho : ops[i]? = some o := by
      have := congrArg (fun l => l[0]?) hl
      simpa using this
    have hl' : ops.toList.drop (i + 1) = l := by
      have := congrArg (List.drop 1) hl
      simpa [List.drop_drop] using this
    have hmem : o ∈ ops.toList := by rw [← Array.getElem?_toList] at ho; exact List.mem_of_getElem? ho
    have hoin : ∀ x, x ∈ o.op.operands.toList → opdIn G x = true := by
      unfold opsIn at hin
      rw [allL_eq, List.all_eq_true] at hin
      have := hin o hmem
      rw [allL_eq, List.all_eq_true] at this
      exact this
    rw [List.length_cons, List.range'_succ, wpOps]
    simp only [ho]
    rw [evOps_cons] at he
    unfold evOper at he
    rcases hw : wantedT ops o.guard T with _ | _ | _
    · simp only [hw] at he; cases he
    all_goals rw [wanted_ok (ρ := ρ) (T := T) (fun t _ => ht.get t) hw]
    · simp only [hw, putV] at he
      simp only [Bool.false_eq_true, if_false]
      rcases hp : put n o.dst undefV T with _ | T1
      · simp only [hp] at he; cases he
      · simp only [hp] at he
        exact ih (i + 1) T1 h ρ _ W T' h' hl' he (put_tr ht (Ext.refl _) hp vr_undef) R g hQ
    · simp only [hw] at he
      simp only [if_true]
      rcases hs : stepO call Γ o.op T h with _ | ⟨v, h1⟩
      · simp only [hs, putV] at he; cases he
      · simp only [hs, putV] at he
        rcases hp : put n o.dst v T with _ | T1
        · simp only [hp] at he; cases he
        · simp only [hp] at he
          refine .inl (oper_ok Gd hcall o hs g (fun x hx => opd_ok g (fun t _ => ht.get t) (hoin x hx)) R ?_)
          intro x W' ρ' hv S
          exact ih (i + 1) T1 h1 ρ' _ W' T' h' hl' he (put_tr ht S.ext hp hv) S.rel (g.mono S.ext) (fun a' W'' ρ'' ht' S' => hQ a' W'' ρ'' ht' (S.trans S'))
end
end Tk
