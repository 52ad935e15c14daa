/- Regions that draw their order (5): joined. -/
import Derived.Test.YtphhnhheedbjjaaGreatDoorEvDraw4
set_option linter.unusedVariables false
set_option linter.unusedSimpArgs false
namespace Tk
open Go Go.RowKit

/-- how many are not done -/
def undone (size : Nat) (listed : Array Bool) : Nat := ((List.range size).filter fun i => !listed.getD i true).length
theorem filter_lt {l : List Nat} {p q : Nat → Bool} {i : Nat} (hi : i ∈ l) (hp : p i = true) (hq : q i = false) (himp : ∀ k, q k = true → p k = true) : (l.filter q).length < (l.filter p).length := by
  induction l with
  | nil => simp at hi
  | cons x l ih =>
    have hle : (l.filter q).length ≤ (l.filter p).length := by
      clear ih hi
      induction l with
      | nil => simp
      | cons y l ih2 =>
        simp only [List.filter_cons]
        split
        · rename_i hy; rw [if_pos (himp y hy)]; simp; exact ih2
        · split
          · simp; omega
          · exact ih2
    simp only [List.filter_cons]
    rcases List.mem_cons.1 hi with e | hi
    · subst e; rw [hp, hq]; simp; omega
    · have := ih hi
      split
      · rename_i hy; rw [if_pos (himp x hy)]; simp; omega
      · split
        · simp; omega
        · exact this
theorem undone_set {size : Nat} {listed : Array Bool} {i : Nat} (hi : i < size) (h : listed.getD i true = false) : undone size (listed.setIfInBounds i true) < undone size listed := by
  unfold undone
  have hlt : i < listed.size := by
    rcases Nat.lt_or_ge i listed.size with h' | h'
    · exact h'
    · simp [Array.getElem?_eq_none h'] at h
  refine filter_lt (i := i) (List.mem_range.2 hi) (by rw [h]; rfl) (by simp [hlt]) (fun k hk => ?_)
  by_cases e : i = k
  · subst e; simp [hlt] at hk
  · rw [getD_set_ne true e] at hk; exact hk
section
variable {call : CallF} {Γ : Cx} {n : Nat} {ops : Array Oper} {its : List Tk.Item} {all : List Rec} {Tz : Tm} {hz : H}
variable {G : Nat} {σ : Nat → Int} {W0 : World} {D : List Deferred}
variable {T0 : Tm} {h0 : H} {ρ0 : Inj} {W1 : World}
/-- an order's next operation -/
theorem J.next' (Gd : GoodCx σ Γ) (hcall : ∀ f, CallOk Γ.P G σ W0 f (call f)) (Rg : Reg ops its) (hall : itsOf all = its) (hin : opsIn G ops = true)
    (hC : Chain call Γ n ops h0.next (actsOf its) all [] 0 T0 { tr := h0.tr, next := h0.next + ops.size } Tz hz)
    {recs : List Rec} {snaps : List H} {d : Nat} {T : Tm} {h : H} {listed : Array Bool} {a : Act} {W : World} {ρ : Inj}
    (j : J call Γ n ops its all Tz hz G σ W0 D T0 h0 ρ0 W1 recs snaps d T h listed a W ρ) {i : Nat} (hi : i ∈ Region.ready .any ops listed) {Q : Exit → Act → World → Prop} {K : Act → World → Prop}
    (hK : ∀ recs' snaps' d' T' h' a' W' ρ', J call Γ n ops its all Tz hz G σ W0 D T0 h0 ρ0 W1 recs' snaps' d' T' h' (listed.setIfInBounds i true) a' W' ρ' → K a' W') : wpOp Γ.P ops Q i K a W := by
  obtain ⟨hun, o, ho, hedges⟩ := mem_ready.1 hi
  have hilt : i < ops.size := (Array.getElem?_eq_some_iff.1 ho).1
  have hU : ∀ p ∈ all, ∀ q ∈ all, p.x.i = q.x.i → p = q := chain_one hC
  have hmem : ∀ y ∈ all, y.x ∈ its := fun y hy => by rw [← hall]; exact List.mem_map.2 ⟨y, hy, rfl⟩
  have hW : ∀ p ∈ all, ∀ q ∈ all, q.x.i ≠ p.x.i → ∀ t, p.x.o.dst = some t → q.x.o.dst ≠ some t := fun p hp q hq hne t ht => (Rg.data p.x (hmem p hp) q.x (hmem q hq) hne).2 t ht
  obtain ⟨r, hra, rfl⟩ : ∃ r ∈ all, r.x.i = i := by
    rcases chain_all hC i hilt with q | q
    · simp at q
    · exact q
  have hro : r.x.o = o := by have := Rg.get r.x (hmem r hra); rw [ho] at this; exact (Option.some.inj this).symm
  subst hro
  have hun' := exec_not hun
  have hmask : ∀ k, r.x.m.testBit k = true → exec listed k := by
    intro k hk
    obtain ⟨e, he, hb, hke⟩ := Rg.mask r.x (hmem r hra) k hk
    have heon := hedges e (by simpa using he) hb
    rcases hke with rfl | ⟨y, hy, hye, hym⟩
    · exact heon
    · obtain ⟨q, hq, rfl⟩ : ∃ q ∈ all, q.x = y := by rw [← hall] at hy; obtain ⟨q, a, b⟩ := List.mem_map.1 hy; exact ⟨q, a, b⟩
      exact j.closed q hq (by rw [hye]; exact heon) k hym
  have hr : r ∈ recs := (j.cover r hra).resolve_right (fun k => hun' (j.pre _ k))
  have hcls := Rg.cls r.x (hmem r hra)
  have hclsr : ∀ q ∈ recs, q.x.c = classOf q.x.o.op := fun q hq => Rg.cls _ (hmem q (j.sub q hq))
  obtain ⟨l, cr, _, _, alt⟩ := chain_split j.chain r hr
  have hlo := chain_late cr
  obtain ⟨_, _, _, _, hfr, hpl, hon, hoff, hev, hput, _⟩ := cr
  -- what it looks at
  have hcanon := (chain_canon (T0 := T0) hU hW (fun r hr => hr) hC ⟨fun r hr hb => by simp at hb, fun t _ => rfl⟩).1 r hra
  have hdcl := chain_dcl hU (fun r hr => hr) hC (fun y hy hb => by simp at hb) r hra
  have hlook := fun t ht => j.looks Rg hall hU hra hcanon hdcl hun' hmask t ht
  have hwant : Region.wanted r.x.o (yielded ops a.tmps) = r.on := by
    exact wanted_ok (fun t ht => hlook t (by unfold looksT; rw [appL_eq]; exact List.mem_append.2 (.inr ht))) hon.symm
  have hoin : ∀ x, x ∈ r.x.o.op.operands.toList → opdIn G x = true := by
    unfold opsIn at hin
    rw [allL_eq, List.all_eq_true] at hin
    have hmo : r.x.o ∈ ops.toList := by rw [← Array.getElem?_toList] at ho; exact List.mem_of_getElem? ho
    have := hin r.x.o hmo
    rw [allL_eq, List.all_eq_true] at this
    exact this
  have hε : ∀ x, x ∈ r.x.o.op.operands.toList → OpR σ ρ r.T a.eval x := fun x hx => opd_ok j.glob (fun t ht => hlook t (by
    unfold looksT; rw [appL_eq]; refine List.mem_append.2 (.inl (tmps_mem.2 ?_)); rw [← ht]; exact hx)) (hoin x hx)
  unfold wpOp
  simp only [ho, hwant]
  by_cases hact : isAct r.x = true
  · -- an act
    obtain ⟨pre, r0, t, e, hpre, hact0⟩ := first_act recs ⟨r, hr, hact⟩
    have hrr : r = r0 := by
      subst e
      rcases List.mem_append.1 hr with k | k
      · exact absurd hact (hpre r k)
      rcases List.mem_cons.1 k with k | k
      · exact k
      exfalso
      obtain ⟨pa, e1, _⟩ := j.actl
      have hl := Rg.line
      rw [e1] at hl
      have hl := line_drop hl
      rw [itsOf_append, acts_pre hpre] at hl
      change inLine (actsOf (r0.x :: itsOf t)) = true at hl
      rw [actsOf] at hl
      simp only [hact0] at hl
      obtain ⟨z, hz1, hz2⟩ := line_pred hl r.x (acts_mem.2 ⟨List.mem_map.2 ⟨r, k, rfl⟩, hact⟩)
      have hze := hmask _ hz2
      rcases hz1 with rfl | hz1
      · exact j.acts r0 (by simp) hact0 hze
      · obtain ⟨z1, z2⟩ := acts_mem.1 hz1
        obtain ⟨q, hq, rfl⟩ := List.mem_map.1 z1
        exact j.acts q (by simp [hq]) z2 hze
    subst hrr
    subst e
    have hend := (chain_drop hpre hact j.chain).2.1
    have hg := grown_end hclsr j.chain
    rw [hend] at hg
    obtain ⟨hR, _⟩ := j.up hU hg
    cases hon2 : r.on with
    | false =>
      simp only [Bool.false_eq_true, if_false]
      obtain ⟨e1, e2⟩ := hoff hon2
      refine hK t _ _ _ _ _ W ρ (j.act Rg hall hU hW hpre hact hun hmask (x := undef) (by rw [e1]; exact vr_undef) ?_)
      rw [e2]; exact Stp.refl hR
    | true =>
      simp only [if_true]
      obtain ⟨hs, _⟩ := item_act ((act_iff _).1 hact) (hev hon2)
      refine .inl (oper_ok Gd hcall r.x.o hs j.glob hε hR ?_)
      intro x W' ρ' hv S
      exact hK t _ _ _ _ _ W' ρ' (j.act Rg hall hU hW hpre hact hun hmask hv S)
  · -- none
    have hidnone : r.made → h.tr.get (r.id h0.next) = none := by
      intro hm
      have hch := j.chain
      have : ∀ {recs : List Rec} {snaps : List H} {d : Nat} {T : Tm} {h : H}, Chain call Γ n ops h0.next (actsOf its) recs snaps d T h Tz hz → ∀ r ∈ recs, r.made → h.tr.get (r.id h0.next) = none := by
        intro recs snaps d T h hc r hr hm
        cases recs with
        | nil => simp at hr
        | cons p recs =>
          obtain ⟨_, _, _, _, hf, _⟩ := hc
          exact fresh_mem hf r.x (by rcases List.mem_cons.1 hr with rfl | hr; simp; exact List.mem_cons_of_mem _ (List.mem_map.2 ⟨r, hr, rfl⟩)) hm.1
      exact this hch r hr hm
    cases hon2 : r.on with
    | false =>
      simp only [Bool.false_eq_true, if_false]
      obtain ⟨e1, e2⟩ := hoff hon2
      have hnm : ¬ r.made := fun m => by rw [m.2] at hon2; cases hon2
      exact hK recs snaps d T h _ W ρ (j.skip hU hW hr hact hun hmask hput (x := undef) (by rw [e1]; exact vr_undef) (Ext.refl _) (fun _ _ => rfl) (fun _ => ⟨rfl, rfl⟩) (fun m => absurd m hnm) hidnone hilt)
    | true =>
      simp only [if_true]
      left
      have hev := hev hon2
      cases hc : r.x.c with
      | act => exact absurd ((act_iff _).2 hc) hact
      | quiet =>
        have hnm : ¬ r.made := fun m => by rw [m.1] at hc; cases hc
        obtain ⟨_, ⟨h1, hs⟩, hst⟩ := item_quiet hc hcls hev
        obtain ⟨K', hRK, h2, hs2⟩ : ∃ K', Rel σ W0 ρ K' W ∧ ∃ h2, step1 Γ r.x.o.op r.T K' = some (r.v, h2) := by
          rcases alt with ⟨e1, _⟩ | ⟨m, e1⟩
          · exact ⟨r.h, (j.up hU (grown_at hclsr j.chain r hr e1)).1, h1, hs⟩
          · refine ⟨endOf recs hz, (j.up hU (grown_end hclsr j.chain)).1, ?_⟩
            refine stays_mem hst _ ?_
            have hle : r.x.lo ≤ snaps.length := by
              obtain ⟨pa, p1, p2⟩ := j.actl
              rw [← p2]
              refine Nat.le_trans hlo ?_
              rw [p1]
              refine countIn_le _ _ _ fun y hy => ?_
              obtain ⟨y1, y2⟩ := acts_mem.1 hy
              obtain ⟨q, hq, rfl⟩ := List.mem_map.1 y1
              cases hb : r.x.m.testBit q.x.i with
              | false => rfl
              | true => exact absurd (hmask _ hb) (j.acts q hq y2)
            rw [e1]
            rw [List.drop_append_of_le_length hle]
            simp
        obtain ⟨_, x, hx, hv⟩ := quiet_step Gd r.x.o.op (by rw [← hcls, hc]) W0 r.T K' r.v h2 ρ W a.eval r.x.o rfl hs2 hε hRK
        unfold Oper.wp
        rw [hx]
        exact hK recs snaps d T h _ W ρ (j.skip hU hW hr hact hun hmask hput hv (Ext.refl _) (fun _ _ => rfl) (fun _ => ⟨rfl, rfl⟩) (fun m => absurd m hnm) hidnone hilt)
      | make =>
        have hmd : r.made := ⟨hc, hon2⟩
        obtain ⟨ob, hs, hh⟩ := item_make hc hcls hev
        have hnone : ρ (h0.next + r.x.i) = none := j.free r hr hmd hun'
        obtain ⟨x, obj, ob', tot, hx, hnew, hf, hO, hv⟩ := make_step Gd r.x.o.op (by rw [← hcls, hc]) r.T { tr := r.h.tr, next := h0.next + r.x.i } r.v _ ρ W a.eval r.x.o rfl hs hε hnone
        unfold Oper.wp
        rw [hx]
        have hob : ob = ob' := by
          have := congrArg (fun (k : H) => k.tr.get (h0.next + r.x.i)) hnew
          simp only [H.new, Tr.get_set, if_true] at this
          exact Option.some.inj this
        subst hob
        have hplus : ∀ k, k ≠ r.id h0.next → (ρ.plus (h0.next + r.x.i) ⟨W.heap.size, 0, tot⟩) k = ρ k := fun k hk => by
          have hk : k ≠ h0.next + r.x.i := hk
          simp only [Inj.plus]; rw [if_neg hk]
        have hself : (ρ.plus (h0.next + r.x.i) ⟨W.heap.size, 0, tot⟩) (r.id h0.next) = some ⟨W.heap.size, 0, tot⟩ := by simp [Inj.plus, Rec.id]
        have hx' : Ext ρ (ρ.plus (h0.next + r.x.i) ⟨W.heap.size, 0, tot⟩) := fun k l hl => by
          have : k ≠ h0.next + r.x.i := fun e => by rw [e, hnone] at hl; cases hl
          simp [Inj.plus, this, hl]
        refine hK recs snaps d T h _ (W.alloc obj) _ (j.skip hU hW hr hact hun hmask hput hv hx' hplus (fun m => absurd hmd m) (fun _ => ⟨obj, tot, rfl, hself, ob, ?_, hf, hO⟩) hidnone hilt)
        rw [hh]
        show (Tr.set r.h.tr (h0.next + r.x.i) ob).get (h0.next + r.x.i) = some ob
        rw [Tr.get_set]; simp
/-- the end of it -/
theorem J.done (Rg : Reg ops its) (hall : itsOf all = its) (hsz : ∀ x ∈ its, x.i < ops.size)
    (hC : Chain call Γ n ops h0.next (actsOf its) all [] 0 T0 { tr := h0.tr, next := h0.next + ops.size } Tz hz)
    {recs : List Rec} {snaps : List H} {d : Nat} {T : Tm} {h : H} {listed : Array Bool} {a : Act} {W : World} {ρ : Inj}
    (j : J call Γ n ops its all Tz hz G σ W0 D T0 h0 ρ0 W1 recs snaps d T h listed a W ρ) (hls : listed.size = ops.size) (hnone : Region.ready .any ops listed = []) : TR σ ρ n Tz a D ∧ Stp σ W0 ρ0 h0 W1 ρ hz W := by
  have hU : ∀ p ∈ all, ∀ q ∈ all, p.x.i = q.x.i → p = q := chain_one hC
  have hmem : ∀ y ∈ all, y.x ∈ its := fun y hy => by rw [← hall]; exact List.mem_map.2 ⟨y, hy, rfl⟩
  have hW : ∀ p ∈ all, ∀ q ∈ all, q.x.i ≠ p.x.i → ∀ t, p.x.o.dst = some t → q.x.o.dst ≠ some t := fun p hp q hq hne t ht => (Rg.data p.x (hmem p hp) q.x (hmem q hq) hne).2 t ht
  have hdcl := fun r hr => chain_dcl hU (fun r hr => hr) hC (fun y hy hb => by simp at hb) r hr
  -- the first of the plan's order that is not done could be done
  have hexe : ∀ {rs : List Rec} {sn : List H} {dd : Nat} {TT : Tm} {hh : H}, Chain call Γ n ops h0.next (actsOf its) rs sn dd TT hh Tz hz → (∀ r ∈ rs, r ∈ all) → (∀ k, dd.testBit k = true → exec listed k) → ∀ r ∈ rs, exec listed r.x.i := by
    intro rs
    induction rs with
    | nil => intro sn dd TT hh _ _ _ r hr; simp at hr
    | cons p rs ih =>
      intro sn dd TT hh hc hsub hdd r hr
      obtain ⟨q1, q2, q3, q4, q5, q6, q7, q8, q9, q10, q11⟩ := hc
      have hp : exec listed p.x.i := by
        have hpa := hsub p (by simp)
        by_cases he : exec listed p.x.i
        · exact he
        · exfalso
          have hlt : p.x.i < listed.size := by rw [hls]; exact hsz _ (hmem p hpa)
          have hf : listed.getD p.x.i true = false := by
            unfold exec at he
            simp [hlt] at he ⊢
            exact he
          have : p.x.i ∈ Region.ready .any ops listed := by
            refine mem_ready.2 ⟨hf, p.x.o, Rg.get _ (hmem p hpa), fun e he' hb => ?_⟩
            have h1 := Rg.edge p.x (hmem p hpa) e (by simpa using he') hb
            have h2 := (hdcl p hpa).2.1 _ h1
            rw [q2] at h2
            exact hdd _ h2
          rw [hnone] at this
          cases this
      rcases List.mem_cons.1 hr with rfl | hr
      · exact hp
      · refine ih q11 (fun r hr => hsub r (List.mem_cons_of_mem _ hr)) (fun k hk => ?_) r hr
        rw [bit_lor, bit_pow] at hk
        simp only [Bool.or_eq_true, decide_eq_true_eq] at hk
        rcases hk with hk | hk
        · exact hdd k hk
        · rw [← hk]; exact hp
  have hex : ∀ r ∈ all, exec listed r.x.i := hexe hC (fun r hr => hr) (fun k hk => by simp at hk)
  have hnoact : ∀ r ∈ recs, isAct r.x ≠ true := fun r hr ha => j.acts r hr ha (hex r (j.sub r hr))
  have hend : endOf recs hz = hz := by
    have : ∀ l : List Rec, (∀ r ∈ l, isAct r.x ≠ true) → endOf l hz = hz := by
      intro l
      induction l with
      | nil => intro _; rfl
      | cons p l ih => intro hl; rw [endOf, if_neg (hl p (by simp))]; exact ih fun r hr => hl r (List.mem_cons_of_mem _ hr)
    exact this recs hnoact
  have hclsr : ∀ q ∈ recs, q.x.c = classOf q.x.o.op := fun q hq => Rg.cls _ (hmem q (j.sub q hq))
  have hg := grown_end hclsr j.chain
  rw [hend] at hg
  obtain ⟨hR, hK⟩ := j.up hU hg
  obtain ⟨c1, c2⟩ := (chain_canon (T0 := T0) hU hW (fun r hr => hr) hC ⟨fun r hr hb => by simp at hb, fun t _ => rfl⟩).2
  refine ⟨⟨j.tsize, j.tdef, fun t => ?_⟩, ⟨j.ext, hR, ?_, j.frame, j.size, ?_, j.low⟩⟩
  · have hbit : ∀ r ∈ all, (2 ^ ops.size - 1).testBit r.x.i = true := fun r hr => by
      rw [Nat.testBit_two_pow_sub_one]; simpa using hsz _ (hmem r hr)
    by_cases hw : ∃ r ∈ all, r.x.o.dst = some t
    · obtain ⟨r, hr, hd⟩ := hw
      rw [c1 r hr (hbit r hr) t hd]
      exact j.t1 r hr (hex r hr) t hd
    · rw [c2 t fun r hr _ hd => hw ⟨r, hr, hd⟩]
      exact j.t2 t fun r hr _ hd => hw ⟨r, hr, hd⟩
  · intro b hb
    rcases hK b hb with k | ⟨p, p1, p2, p3, p0, lp, p4, p5⟩
    · exact j.own b k
    · obtain ⟨ob, L, b1, b2, b3, b4, b5, b6, b7⟩ := j.made p p1 p2 p3
      rw [p4] at b2; cases b2
      rw [← p5]; exact .inl b6
  · rw [hg.1]; have := j.next; omega
/-- REGIONS THAT DRAW THEIR ORDER. -/
theorem drawn_sound (Gd : GoodCx σ Γ) (hcall : ∀ f, CallOk Γ.P G σ W0 f (call f)) : DrawnSound Γ G σ W0 call := by
  intro n ops plan T0 h0 Tz hz ρ0 a W1 D Q hok hp hin he ht R g hQ
  obtain ⟨Rg, hpl⟩ := reg_of hp hok
  unfold evDrawn at he
  rcases hf : freshIn h0.next h0.tr plan with _ | _
  · simp only [hf] at he; cases he
  simp only [hf] at he
  obtain ⟨all, hall, hC⟩ := chain_of (base := h0.next) (h := { tr := h0.tr, next := h0.next + ops.size }) Rg.cls hpl hf he
  have hsz : ∀ x ∈ plan, x.i < ops.size := fun x hx => (Array.getElem?_eq_some_iff.1 (Rg.get x hx)).1
  have hrep : ∀ k, ¬ exec (Array.replicate ops.size false) k := by
    intro k
    unfold exec
    simp only [Array.getD_eq_getD_getElem?, Array.getElem?_replicate]
    split <;> simp
  have j0 : J call Γ n ops plan all Tz hz G σ W0 D T0 h0 ρ0 W1 all [] 0 T0 { tr := h0.tr, next := h0.next + ops.size } (Array.replicate ops.size false) a W1 ρ0 := by
    refine ⟨hC, fun r hr => hr, fun k hk => by simp at hk, fun r hr => .inl hr, fun r hr he => absurd he (hrep _), fun r hr _ he => hrep _ he, ⟨[], by rw [hall]; rfl, rfl⟩, ?_, g, fun r hr _ he => absurd he (hrep _), ?_,
      fun r hr q hq _ _ he => absurd he (hrep _), Ext.refl _, fun _ _ => rfl, Nat.le_refl _, Nat.le_refl _, fun b hb => .inr hb, fun b _ _ => rfl, ht.size, ht.defers, fun r hr he => absurd he (hrep _), fun t _ => ht.get t⟩
    · exact ⟨R.below, fun k hk => R.dom k (by simp at hk; omega), R.blk, R.obs, R.apart⟩
    · intro r hr _ _
      exact R.dom _ (by simp only [Rec.id]; omega)
  have game : ∀ (fuel : Nat) (recs : List Rec) (snaps : List H) (d : Nat) (T : Tm) (h : H) (listed : Array Bool) (a : Act) (W : World) (ρ : Inj), undone ops.size listed ≤ fuel → listed.size = ops.size →
      J call Γ n ops plan all Tz hz G σ W0 D T0 h0 ρ0 W1 recs snaps d T h listed a W ρ → wpAny Γ.P .any ops Q fuel listed a W := by
    intro fuel
    induction fuel with
    | zero =>
      intro recs snaps d T h listed a W ρ hu hls j
      have hnone : Region.ready .any ops listed = [] := by
        cases hr : Region.ready .any ops listed with
        | nil => rfl
        | cons i l =>
          have hi : i ∈ Region.ready .any ops listed := by rw [hr]; simp
          obtain ⟨h1, o, ho, _⟩ := mem_ready.1 hi
          have := undone_set (Array.getElem?_eq_some_iff.1 ho).1 h1
          omega
      obtain ⟨h1, h2⟩ := j.done Rg hall hsz hC hls hnone
      exact ⟨hnone, hQ a W ρ h1 h2⟩
    | succ fuel ih =>
      intro recs snaps d T h listed a W ρ hu hls j
      refine ⟨fun hnone => ?_, fun i hi => ?_⟩
      · obtain ⟨h1, h2⟩ := j.done Rg hall hsz hC hls hnone
        exact hQ a W ρ h1 h2
      · refine j.next' Gd hcall Rg hall hin hC hi ?_
        intro recs' snaps' d' T' h' a' W' ρ' j'
        obtain ⟨h1, o, ho, _⟩ := mem_ready.1 hi
        have := undone_set (Array.getElem?_eq_some_iff.1 ho).1 h1
        exact ih recs' snaps' d' T' h' _ a' W' ρ' (by omega) (by rw [Array.size_setIfInBounds]; exact hls) j'
  refine game ops.size all [] 0 T0 _ _ a W1 ρ0 ?_ (by simp) j0
  unfold undone
  exact Nat.le_trans (List.length_filter_le _ _) (by simp)
end
/-- CALLS. -/
theorem calls_ok {Γ : Cx} {G : Nat} {σ : Nat → Int} {W0 : World} (Gd : GoodCx σ Γ) (hm : Γ.P.follows .mixedOrders = true) (lf : Nat) (hblk : ∀ f id, Γ.blk f id = none)
    (hext : ∀ f g, Γ.ext f = some g → CallOk Γ.P G σ W0 f g) (hbody : ∀ (f : FuncId) (fn : Func), Γ.ext f = none → Γ.P.funcs[f]? = some fn → bodyOk G fn = true ∧ (fn.name == "runtime.NumGoroutine") = false) (d : Nat) (f : FuncId) : CallOk Γ.P G σ W0 f (evCall Γ lf d f) :=
  evCall_ok Gd hm (fun call hc => drawn_sound Gd hc) lf hblk hext hbody d f
end Tk
