/- A law's own code, gone through with unknown numbers that are told apart on the way. -/
import Derived.Test.YtphhnhheedbjjaaGreatDoorEvFrame
set_option linter.unusedVariables false
set_option linter.unusedSimpArgs false
namespace Tk
open Go Go.RowKit

/-- where to tell an unknown number apart: is it the least that it can be, or more? -/
inductive Sc where
  | stop
  | peel (v : Nat) (a b : Sc)
abbrev Rg := List (Int × Int)
abbrev KF := Rg → Sc → Ex → Tm → H → Bool
abbrev SF := KF → Rg → Sc → Tm → H → Bool
noncomputable def runR (ev : Rg → St) (K : KF) (S : Sc) : Rg → Tm → H → Bool :=
  Sc.rec (fun r T h => match ev r T h with
      | some (x, T', h') => K r .stop x T' h'
      | none => false)
    (fun v a b iha ihb r T h => match ev r T h with
      | some (x, T', h') => K r (.peel v a b) x T' h'
      | none => match nthL r v with
        | some (lo, hi) => match iha (setL r v (lo, lo)) T h with
          | true => ihb (setL r v (lo + 1, hi)) T h
          | false => false
        | none => false) S
noncomputable def iterF (n : Nat) (b : SF) : SF :=
  Nat.rec (fun _ _ _ _ _ => false) (fun _ ih K r S T h => b (fun r S x T h => match x with
    | .normal => ih K r S T h
    | x => K r S x T h) r S T h) n
noncomputable def evF (ev : Rg → Array Oper → Bool → St) (lf : Nat) (c : Code) : SF :=
  Code.rec
    (fun K r S T h => K r S .normal T h)
    (fun _ ops draw K r S T h => runR (fun r => ev r ops draw) K S r T h)
    (fun _ _ a b K r S T h => a (fun r S x T h => match x with
      | .normal => b K r S T h
      | x => K r S x T h) r S T h)
    (fun c _ _ a b K r S T h => match opd c T with
      | some (.bool true) => a K r S T h
      | some (.bool false) => b K r S T h
      | _ => false)
    (fun id _ b K r S T h => b (fun r S x T h => match x with
      | .exit id' => match Nat.beq id' id with
        | true => K r S .normal T h
        | false => K r S (.exit id') T h
      | x => K r S x T h) r S T h)
    (fun _ b => iterF lf b)
    (fun _ _ _ _ _ _ => fun _ _ _ _ _ => false)
    (fun id K r S T h => K r S (.exit id) T h)
    (fun _ b => b)
    (fun _ K r S T h => K r S .normal T h)
    (fun _ _ _ _ _ _ => false)
    (fun K r S T h => K r S .ret T h)
    (fun _ _ _ _ _ _ => false) c

theorem setL_get {α : Type} (x : α) : ∀ (l : List α) (v i : Nat) (y : α), (setL l v x)[i]? = some y → (i = v ∧ y = x) ∨ (i ≠ v ∧ l[i]? = some y)
  | [], v, i, y, h => by simp [setL] at h
  | a :: l, 0, i, y, h => by
    have h : (x :: l)[i]? = some y := h
    cases i with
    | zero => simp at h; exact .inl ⟨rfl, h.symm⟩
    | succ i => exact .inr ⟨by omega, by simpa using h⟩
  | a :: l, v + 1, i, y, h => by
    have h : (a :: setL l v x)[i]? = some y := h
    cases i with
    | zero => exact .inr ⟨by omega, by simpa using h⟩
    | succ i =>
      rcases setL_get x l v i y (by simpa using h) with ⟨rfl, h2⟩ | ⟨h1, h2⟩
      · exact .inl ⟨rfl, h2⟩
      · exact .inr ⟨by omega, by simpa using h2⟩
def RngOk (σ : Nat → Int) (r : Rg) : Prop := ∀ (i : Nat) lo hi, r[i]? = some (lo, hi) → lo ≤ σ i ∧ σ i ≤ hi
theorem RngOk.set {σ : Nat → Int} {r : Rg} {v : Nat} {lo hi : Int} (h : RngOk σ r) (h1 : lo ≤ σ v) (h2 : σ v ≤ hi) : RngOk σ (setL r v (lo, hi)) := by
  intro i lo' hi' hi'
  rcases setL_get _ _ _ _ _ hi' with ⟨rfl, e⟩ | ⟨_, e⟩
  · cases e; exact ⟨h1, h2⟩
  · exact h i lo' _ e
section
variable {P : Program} {G : Nat} {B : Bad} {σ : Nat → Int} {W0 : World} {facts : List (Bool × E × E × Bool)} {fs : Fns} {n : Nat} {D : List Deferred}
noncomputable def evR (P : Program) (B : Bad) (facts : List (Bool × E × E × Bool)) (fs : Fns) (lf d n : Nat) (r : Rg) (ops : Array Oper) (draw : Bool) : St :=
  evRegion (evCall (cxX P B r facts fs) lf d) (cxX P B r facts fs) n ops draw
theorem codeF_ok (hp : Fit P G B) (hfa : ∀ q a b t, (q, a, b, t) ∈ facts → (match q with | true => decide (a.den σ = b.den σ) | false => decide (a.den σ < b.den σ)) = t) (hx : FnsOk P G σ W0 fs) (lf d : Nat) :
    ∀ (c : Code) (K : KF) (r : Rg) (S : Sc) (T : Tm) (h : H) (ρ : Inj) (a : Act) (W : World) (Q : Exit → Act → World → Prop), codeOk G c = true →
      evF (evR P B facts fs lf d n) lf c K r S T h = true → RngOk σ r → TR σ ρ n T a D → Rel σ W0 ρ h W → Glob G ρ →
      (∀ r' S' x T' h' a' W' ρ', RngOk σ r' → K r' S' x T' h' = true → TR σ ρ' n T' a' D → Stp σ W0 ρ h W ρ' h' W' → Q x.exit' a' W') → c.wp P Q a W := by
  intro c
  induction c with
  | skip =>
    intro K r S T h ρ a W Q _ he hr ht R g hQ
    exact wp_skip (hQ r S .normal T h a W ρ hr he ht (Stp.refl R))
  | region id ops draw =>
    intro K r S T h ρ a W Q hok he hr ht R g hQ
    have hok' : codeOk G (.region id ops draw) = true := hok
    have he : runR (fun r => evR P B facts fs lf d n r ops draw) K S r T h = true := he
    have step : ∀ (r : Rg) (S : Sc) (x : Ex) (T' : Tm) (h' : H), RngOk σ r → evR P B facts fs lf d n r ops draw T h = some (x, T', h') → K r S x T' h' = true → (Code.region id ops draw).wp P Q a W := by
      intro r S x T' h' hr hev hK
      have Gd : GoodCx σ (cxX P B r facts fs) := ⟨hr, hfa⟩
      exact code_ok (Γ := cxX P B r facts fs) Gd hp.mixed (fun f => call_x hp ⟨hr, hfa⟩ hx lf d f) (drawn_sound Gd (fun f => call_x hp ⟨hr, hfa⟩ hx lf d f)) 0 lf (fun _ => rfl) (.region id ops draw) T h x T' h' ρ a W Q hok' hev ht R g
        (fun a' W' ρ' ht' S' => hQ r S x T' h' a' W' ρ' hr hK ht' S')
    clear hok
    induction S generalizing r with
    | stop =>
      have he : (match evR P B facts fs lf d n r ops draw T h with
        | some (x, T', h') => K r .stop x T' h'
        | none => false) = true := he
      split at he
      · rename_i x T' h' hev
        exact step r _ x T' h' hr hev he
      · cases he
    | peel v sa sb iha ihb =>
      have he : (match evR P B facts fs lf d n r ops draw T h with
        | some (x, T', h') => K r (.peel v sa sb) x T' h'
        | none => match nthL r v with
          | some (lo, hi) => match runR (fun r => evR P B facts fs lf d n r ops draw) K sa (setL r v (lo, lo)) T h with
            | true => runR (fun r => evR P B facts fs lf d n r ops draw) K sb (setL r v (lo + 1, hi)) T h
            | false => false
          | none => false) = true := he
      split at he
      · rename_i x T' h' hev
        exact step r _ x T' h' hr hev he
      · split at he
        · rename_i lo hi hv
          split at he
          · rename_i h1
            rw [nthL_eq] at hv
            have hb := hr v lo hi hv
            by_cases hlo : σ v = lo
            · exact iha _ h1 (hr.set (by omega) (by omega)) h1
            · exact ihb _ he (hr.set (by omega) (by omega)) he
          · cases he
        · cases he
  | seq p q ihp ihq =>
    intro K r S T h ρ a W Q hok he hr ht R g hQ
    simp only [codeOk, Bool.and_eq_true] at hok
    refine wp_seq ?_
    refine ihp _ r S T h ρ a W _ hok.1 he hr ht R g (fun r1 S1 x T1 h1 a1 W1 ρ1 hr1 hK ht1 St1 => ?_)
    cases x with
    | normal => exact ihq K r1 S1 T1 h1 ρ1 a1 W1 Q hok.2 hK hr1 ht1 St1.rel (g.mono St1.ext) (fun r2 S2 x2 T2 h2 a2 W2 ρ2 hr2 hK2 ht2 St2 => hQ r2 S2 x2 T2 h2 a2 W2 ρ2 hr2 hK2 ht2 (St1.trans St2))
    | exit id => exact hQ r1 S1 (.exit id) T1 h1 a1 W1 ρ1 hr1 hK ht1 St1
    | ret => exact hQ r1 S1 .ret T1 h1 a1 W1 ρ1 hr1 hK ht1 St1
  | cond c p q ihp ihq =>
    intro K r S T h ρ a W Q hok he hr ht R g hQ
    simp only [codeOk, Bool.and_eq_true] at hok
    have he : (match opd c T with
      | some (.bool true) => evF (evR P B facts fs lf d n) lf p K r S T h
      | some (.bool false) => evF (evR P B facts fs lf d n) lf q K r S T h
      | _ => false) = true := he
    split at he
    · rename_i hc
      have hv := opd_ok (T := T) g (fun t _ => ht.get t) hok.1.1 _ hc
      simp only [VR] at hv
      exact wp_cond_true hv (ihp K r S T h ρ a W Q hok.1.2 he hr ht R g hQ)
    · rename_i hc
      have hv := opd_ok (T := T) g (fun t _ => ht.get t) hok.1.1 _ hc
      simp only [VR] at hv
      exact wp_cond_false hv (ihq K r S T h ρ a W Q hok.2 he hr ht R g hQ)
    · cases he
  | block id p ihp =>
    intro K r S T h ρ a W Q hok he hr ht R g hQ
    refine wp_block ?_
    refine ihp _ r S T h ρ a W _ hok he hr ht R g (fun r1 S1 x T1 h1 a1 W1 ρ1 hr1 hK ht1 St1 => ?_)
    cases x with
    | normal => exact hQ r1 S1 .normal T1 h1 a1 W1 ρ1 hr1 hK ht1 St1
    | ret => exact hQ r1 S1 .ret T1 h1 a1 W1 ρ1 hr1 hK ht1 St1
    | exit id' =>
      have hK : (match Nat.beq id' id with
        | true => K r1 S1 .normal T1 h1
        | false => K r1 S1 (.exit id') T1 h1) = true := hK
      show (if id' = id then Q .normal a1 W1 else Q (.exit id') a1 W1)
      rcases hid : Nat.beq id' id with _ | _
      · rw [hid] at hK
        rw [if_neg (fun e => by subst e; simp at hid)]
        exact hQ r1 S1 (.exit id') T1 h1 a1 W1 ρ1 hr1 hK ht1 St1
      · rw [hid] at hK
        rw [if_pos (beqN hid)]
        exact hQ r1 S1 .normal T1 h1 a1 W1 ρ1 hr1 hK ht1 St1
  | loop p ihp =>
    intro K r S T h ρ a W Q hok he hr ht R g hQ
    have he : iterF lf (evF (evR P B facts fs lf d n) lf p) K r S T h = true := he
    refine wp_loop_rounds lf ?_
    have key : ∀ (k : Nat) (r : Rg) (S : Sc) (T : Tm) (h : H) (ρ : Inj) (a : Act) (W : World), iterF k (evF (evR P B facts fs lf d n) lf p) K r S T h = true → RngOk σ r → TR σ ρ n T a D → Rel σ W0 ρ h W → Glob G ρ →
        (∀ r' S' x T' h' a' W' ρ', RngOk σ r' → K r' S' x T' h' = true → TR σ ρ' n T' a' D → Stp σ W0 ρ h W ρ' h' W' → Q x.exit' a' W') → Code.rounds P p Q k a W := by
      intro k
      induction k with
      | zero => intro r S T h ρ a W he; cases he
      | succ k ih =>
        intro r S T h ρ a W he hr ht R g hQ
        rw [rounds_succ]
        have he : evF (evR P B facts fs lf d n) lf p (fun r S x T h => match x with
          | .normal => iterF k (evF (evR P B facts fs lf d n) lf p) K r S T h
          | x => K r S x T h) r S T h = true := he
        refine ihp _ r S T h ρ a W _ hok he hr ht R g (fun r1 S1 x T1 h1 a1 W1 ρ1 hr1 hK ht1 St1 => ?_)
        cases x with
        | normal => exact ih r1 S1 T1 h1 ρ1 a1 W1 hK hr1 ht1 St1.rel (g.mono St1.ext) (fun r2 S2 x2 T2 h2 a2 W2 ρ2 hr2 hK2 ht2 St2 => hQ r2 S2 x2 T2 h2 a2 W2 ρ2 hr2 hK2 ht2 (St1.trans St2))
        | exit id => exact hQ r1 S1 (.exit id) T1 h1 a1 W1 ρ1 hr1 hK ht1 St1
        | ret => exact hQ r1 S1 .ret T1 h1 a1 W1 ρ1 hr1 hK ht1 St1
    exact key lf r S T h ρ a W he hr ht R g hQ
  | exit id =>
    intro K r S T h ρ a W Q _ he hr ht R g hQ
    exact wp_exit (hQ r S (.exit id) T h a W ρ hr he ht (Stp.refl R))
  | scope p ihp =>
    intro K r S T h ρ a W Q hok he hr ht R g hQ
    refine wp_scope_straight (ihp K r S T h ρ a W _ hok he hr ht R g (fun r1 S1 x T1 h1 a1 W1 ρ1 hr1 hK ht1 St1 => ?_))
    have := hQ r1 S1 x T1 h1 a1 W1 ρ1 hr1 hK ht1 St1
    cases x <;> exact this
  | label l =>
    intro K r S T h ρ a W Q _ he hr ht R g hQ
    exact wp_label (hQ r S .normal T h a W ρ hr he ht (Stp.refl R))
  | ret =>
    intro K r S T h ρ a W Q _ he hr ht R g hQ
    exact wp_ret (hQ r S .ret T h a W ρ hr he ht (Stp.refl R))
  | _ => intro K r S T h ρ a W Q _ he; cases he
/-- where a law has to end -/
noncomputable def endF (P : Program) (rs : List ResultVar) : KF := fun _ _ x T h => match x with
  | .exit _ => false
  | _ => match results P rs T h with
    | some [.bool true] => true
    | _ => false
noncomputable def lawF (P : Program) (B : Bad) (facts : List (Bool × E × E × Bool)) (fs : Fns) (lf d f : Nat) (vs : List V) (r : Rg) (S : Sc) (h : H) : Bool := match P.funcs[f]? with
  | none => false
  | some fn => match fn.body with
    | none => false
    | some body => evF (evR P B facts fs lf d (maxN (lenL vs) fn.ntmps)) lf body (endF P fn.results.toList) r S (setAll vs 0 .lf) h
/-- A LAW's CALL: 'run' is what the kernel runs. -/
theorem law_case_f {N : Nat} {W : World} {es : TypeId} {l : Errs} {as : List Addr} {f : FuncId} {lf d : Nat} {vs : List V} {xs : Array Value} {r : Rg} {S : Sc} (hp : Fit P G B)
    (hS : Sents es W l as) (hlen : as.length = l.length) (hn : (placesOf l as).Nodup) (hG : ∀ g, hasBit G g = true → ∃ s, (g, s) ∈ l) (hlt : ∀ x ∈ l, x.1 < N ∧ hasBit G x.1 = true) (hbad : inB f B = false)
    (hk : Known2 σ r facts) (hx : FnsOk P G σ W fs) (hv : ∀ ρ, VRs σ ρ vs xs.toList)
    (run : lawF P B facts fs lf d f vs r S (sentH es N l) = true) : Calls P f xs W fun e w' => e = .returned (.bool true) ∧ Below W.heap.size W w' := by
  obtain ⟨R, g⟩ := start_rel (σ := σ) hS hlen hn hG hlt
  unfold lawF at run
  split at run
  · cases run
  · rename_i fn hf
    split at run
    · cases run
    · rename_i body hb
      obtain ⟨hok, hname⟩ := hp.body f fn hbad hf
      simp only [bodyOk, hb] at hok
      refine calls_of_wp hf hb ?_
      refine codeF_ok (D := []) hp hk.facts hx lf d body _ r S _ _ _ _ W _ hok run hk.rng (enter_tr (hv _) fn.ntmps) R g (fun r' S' x T' h' a' W' ρ' hr' hK ht' St' => ?_)
      have fin : ∀ (x' : Ex), (x' = .normal ∨ x' = .ret) → (match results P fn.results.toList T' h' with | some [.bool true] => true | _ => false) = true →
          bodyPost P fn (fun e w' => e = .returned (.bool true) ∧ Below W.heap.size W w') x'.exit' a' W' := by
        intro x' hx' hr
        split at hr
        · rename_i hl
          obtain ⟨ys, h1, h2⟩ := results_ok (Γ := cxX P B [] [] []) St'.rel ht' _ _ hl
          have hrun : (Go.results fn a'.tmps).run P W' = .ok (if h : ys.toArray.size = 1 then ys.toArray[0] else .tuple ys.toArray) W' := by
            show (Array.mapM (resOf a') fn.results >>= fun vs => pure (if h : vs.size = 1 then vs[0] else .tuple vs)).run P W' = _
            rw [Array.mapM_eq_mapM_toList, map_eq_pure_bind]
            have h2 : (List.mapM (resOf a') fn.results.toList).run P W' = .ok ys W' := h2
            simp only [Sem.run_bind, h2, Result.andThen_ok, Sem.run_pure]
          have hvr := resultOf_ok h1
          simp only [resultOf, VR] at hvr
          rcases hx' with rfl | rfl <;> exact ⟨ht'.defers, _, hrun, by rw [hvr], St'.rel.below⟩
        · cases hr
      cases x with
      | exit id => cases hK
      | normal => exact fin .normal (.inl rfl) hK
      | ret => exact fin .ret (.inr rfl) hK
end
/-- one after the other: is it the least that it can be? -/
noncomputable def peels (n v : Nat) : Sc := Nat.rec .stop (fun _ ih => .peel v .stop ih) n
/-- the second's bounds are no narrower -/
noncomputable def relaxOk : Rg → Rg → Bool
  | _, [] => true
  | [], _ :: _ => false
  | (l, h) :: r, (l', h') :: r' => match ltI l l', ltI h' h with
    | false, false => relaxOk r r'
    | _, _ => false
theorem relaxOk_ok : ∀ {r r' : Rg}, relaxOk r r' = true → ∀ (i : Nat) (lo hi : Int), r'[i]? = some (lo, hi) → ∃ lo' hi', r[i]? = some (lo', hi') ∧ lo ≤ lo' ∧ hi' ≤ hi
  | _, [], _, i, lo, hi, h => by simp at h
  | [], _ :: _, h, _, _, _, _ => by simp [relaxOk] at h
  | (l, h) :: r, (l', h') :: r', hr, i, lo, hi, hi' => by
    simp only [relaxOk] at hr
    split at hr
    · rename_i e1 e2
      rw [ltI_eq, decide_eq_false_iff_not] at e1 e2
      cases i with
      | zero =>
        simp at hi'
        obtain ⟨rfl, rfl⟩ := hi'
        exact ⟨l, h, rfl, by omega, by omega⟩
      | succ i =>
        obtain ⟨a, b, q1, q2, q3⟩ := relaxOk_ok hr i lo hi (by simpa using hi')
        exact ⟨a, b, by simpa using q1, q2, q3⟩
    · cases hr
theorem Known2.relax {σ : Nat → Int} {r r' : Rg} {facts : List (Bool × E × E × Bool)} (hk : Known2 σ r facts) (h : relaxOk r r' = true) : Known2 σ r' facts :=
  ⟨fun i lo hi hi' => by
    obtain ⟨a, b, q1, q2, q3⟩ := relaxOk_ok h i lo hi hi'
    have := hk.rng i a b q1
    omega, hk.facts⟩
end Tk
