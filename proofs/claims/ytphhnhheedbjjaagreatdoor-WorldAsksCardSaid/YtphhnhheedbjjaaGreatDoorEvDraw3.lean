/- Regions that draw their order (3): every order comes to the same. -/
import Derived.Test.YtphhnhheedbjjaaGreatDoorEvDraw2
set_option linter.unusedVariables false
set_option linter.unusedSimpArgs false
namespace Tk
open Go Go.RowKit

theorem stays_mem {f : H → Option (V × H)} {v : V} : ∀ {l : List H}, stays f v l = true → ∀ s ∈ l, ∃ h', f s = some (v, h')
  | [], _, s, hs => by simp at hs
  | k :: l, h, s, hs => by
    simp only [stays] at h
    split at h
    · rename_i w h' hk
      split at h
      · rename_i hsame
        rcases List.mem_cons.1 hs with rfl | hs
        · exact ⟨h', by rw [hk, sameV_eq _ _ hsame]⟩
        · exact stays_mem h s hs
      · cases h
    · cases h

def exec (listed : Array Bool) (i : Nat) : Prop := listed.getD i false = true
theorem exec_set {listed : Array Bool} {i : Nat} (h : listed.getD i true = false) (j : Nat) : exec (listed.setIfInBounds i true) j ↔ exec listed j ∨ j = i := by
  have hlt : i < listed.size := by
    rcases Nat.lt_or_ge i listed.size with h' | h'
    · exact h'
    · simp [Array.getElem?_eq_none h'] at h
  unfold exec
  by_cases e : j = i
  · subst e; simp [hlt]
  · rw [getD_set_ne false (fun q => e q.symm)]; simp [e]
theorem exec_not {listed : Array Bool} {i : Nat} (h : listed.getD i true = false) : ¬ exec listed i := by
  have hlt : i < listed.size := by
    rcases Nat.lt_or_ge i listed.size with h' | h'
    · exact h'
    · simp [Array.getElem?_eq_none h'] at h
  unfold exec
  simp [hlt] at h ⊢
  exact h
section
variable (call : CallF) (Γ : Cx) (n : Nat) (ops : Array Oper) (its : List Tk.Item) (all : List Rec) (Tz : Tm) (hz : H)
variable (G : Nat) (σ : Nat → Int) (W0 : World) (D : List Deferred)
/- where the region begins -/
variable (T0 : Tm) (h0 : H) (ρ0 : Inj) (W1 : World)
/-- a block made ahead of its time -/
def Pend (h : H) (ρ : Inj) (W : World) (r : Rec) : Prop :=
  ∃ ob L, r.h'.tr.get (r.id h0.next) = some ob ∧ ρ (r.id h0.next) = some L ∧ ob.free = true ∧ ObR σ ρ W L ob ∧ W0.heap.size ≤ L.blk ∧ W1.heap.size ≤ L.blk ∧ ¬ Known ρ h L.blk
structure J (recs : List Rec) (snaps : List H) (d : Nat) (T : Tm) (h : H) (listed : Array Bool) (a : Act) (W : World) (ρ : Inj) : Prop where
  chain : Chain call Γ n ops h0.next (actsOf its) recs snaps d T h Tz hz
  sub : ∀ r ∈ recs, r ∈ all
  pre : ∀ j, d.testBit j = true → exec listed j
  cover : ∀ r ∈ all, r ∈ recs ∨ d.testBit r.x.i = true
  closed : ∀ r ∈ all, exec listed r.x.i → ∀ j, r.x.m.testBit j = true → exec listed j
  acts : ∀ r ∈ recs, isAct r.x = true → ¬ exec listed r.x.i
  actl : ∃ pa, actsOf its = pa ++ actsOf (itsOf recs) ∧ pa.length = snaps.length
  rel : Rel σ W0 ρ h W
  glob : Glob G ρ
  made : ∀ r ∈ recs, r.made → exec listed r.x.i → Pend σ W0 h0 W1 h ρ W r
  free : ∀ r ∈ recs, r.made → ¬ exec listed r.x.i → ρ (r.id h0.next) = none
  two : ∀ r ∈ recs, ∀ q ∈ recs, r.made → q.made → exec listed r.x.i → exec listed q.x.i → r.x.i ≠ q.x.i → ∀ l l', ρ (r.id h0.next) = some l → ρ (q.id h0.next) = some l' → l.blk ≠ l'.blk
  ext : Ext ρ0 ρ
  low : ∀ k, k < h0.next → ρ k = ρ0 k
  next : h0.next + ops.size ≤ h.next
  size : W1.heap.size ≤ W.heap.size
  own : ∀ b, Known ρ h b → W1.heap.size ≤ b ∨ Known ρ0 h0 b
  frame : ∀ b, b < W1.heap.size → ¬ Known ρ0 h0 b → W.heap[b]? = W1.heap[b]?
  tsize : a.tmps.size = n
  tdef : a.defers = D
  t1 : ∀ r ∈ all, exec listed r.x.i → ∀ t, r.x.o.dst = some t → VR σ ρ r.v (a.tmps.getD t undef)
  t2 : ∀ t, (∀ r ∈ all, exec listed r.x.i → r.x.o.dst ≠ some t) → VR σ ρ (Tm.get T0 t) (a.tmps.getD t undef)
end
section
variable {call : CallF} {Γ : Cx} {n : Nat} {ops : Array Oper} {its : List Tk.Item} {all : List Rec} {Tz : Tm} {hz : H}
variable {G : Nat} {σ : Nat → Int} {W0 : World} {D : List Deferred}
variable {T0 : Tm} {h0 : H} {ρ0 : Inj} {W1 : World}
variable {recs : List Rec} {snaps : List H} {d : Nat} {T : Tm} {h : H} {listed : Array Bool} {a : Act} {W : World} {ρ : Inj}
/-- the real world fits a heap of the plan's order that has more blocks -/
theorem J.up (j : J call Γ n ops its all Tz hz G σ W0 D T0 h0 ρ0 W1 recs snaps d T h listed a W ρ) (hU : ∀ p ∈ all, ∀ q ∈ all, p.x.i = q.x.i → p = q) {K : H} (g : Grown' h0.next recs h K) : Rel σ W0 ρ K W ∧
    (∀ b, Known ρ K b → Known ρ h b ∨ ∃ r ∈ recs, r.made ∧ exec listed r.x.i ∧ (∃ o, K.tr.get (r.id h0.next) = some o) ∧ ∃ l, ρ (r.id h0.next) = some l ∧ l.blk = b) := by
  obtain ⟨g1, g2⟩ := g
  have cls : ∀ k o l, K.tr.get k = some o → ρ k = some l → h.tr.get k = some o ∨ ∃ r ∈ recs, r.made ∧ exec listed r.x.i ∧ k = r.id h0.next ∧ r.h'.tr.get k = some o := by
    intro k o l hk hl
    rcases g2 k o hk with q | ⟨r, a1, a2, a3, a4⟩
    · exact .inl q
    · by_cases he : exec listed r.x.i
      · exact .inr ⟨r, a1, a2, he, a3, a4⟩
      · have := j.free r a1 a2 he
        rw [← a3, hl] at this; cases this
  refine ⟨⟨j.rel.below, fun r hr => j.rel.dom r (by rw [← g1]; exact hr), j.rel.blk, ?_, ?_⟩, ?_⟩
  · intro k o l hk hl
    rcases cls k o l hk hl with q | ⟨r, a1, a2, he, a3, a4⟩
    · exact j.rel.obs k o l q hl
    · obtain ⟨ob, L, b1, b2, b3, b4, b5, b6, b7⟩ := j.made r a1 a2 he
      rw [a3] at hl a4
      rw [hl] at b2; cases b2
      rw [a4] at b1; cases b1
      exact ⟨b4, Place.mk b3 b5⟩
  · intro k1 k2 o1 o2 l1 l2 hk1 hk2 hne hl1 hl2
    rcases cls k1 o1 l1 hk1 hl1 with q1 | ⟨r1, a1, a2, he, a3, a4⟩
    · rcases cls k2 o2 l2 hk2 hl2 with q2 | ⟨r2, c1, c2, ce, c3, c4⟩
      · exact j.rel.apart k1 k2 o1 o2 l1 l2 q1 q2 hne hl1 hl2
      · obtain ⟨ob, L, b1, b2, b3, b4, b5, b6, b7⟩ := j.made r2 c1 c2 ce
        rw [c3] at hl2
        rw [hl2] at b2; cases b2
        exact .inl (fun e => b7 ⟨k1, o1, l1, q1, hl1, e⟩)
    · obtain ⟨ob, L, b1, b2, b3, b4, b5, b6, b7⟩ := j.made r1 a1 a2 he
      rcases cls k2 o2 l2 hk2 hl2 with q2 | ⟨r2, c1, c2, ce, c3, c4⟩
      · rw [a3] at hl1
        rw [hl1] at b2; cases b2
        exact .inl (fun e => b7 ⟨k2, o2, l2, q2, hl2, e.symm⟩)
      · rw [a3] at hl1
        rw [c3] at hl2
        refine .inl (j.two r1 a1 r2 c1 a2 c2 he ce (fun e => hne ?_) l1 l2 hl1 hl2)
        rw [a3, c3]; simp only [Rec.id, e]
  · rintro b ⟨k, o, l, hk, hl, rfl⟩
    rcases cls k o l hk hl with q | ⟨r, a1, a2, he, a3, a4⟩
    · exact .inl ⟨k, o, l, q, hl, rfl⟩
    · exact .inr ⟨r, a1, a2, he, ⟨o, by rw [← a3]; exact hk⟩, l, by rw [← a3]; exact hl, rfl⟩
/-- what one looks at -/
theorem J.looks (j : J call Γ n ops its all Tz hz G σ W0 D T0 h0 ρ0 W1 recs snaps d T h listed a W ρ) (Rg : Reg ops its) (hall : itsOf all = its) (hU : ∀ p ∈ all, ∀ q ∈ all, p.x.i = q.x.i → p = q)
    {r : Rec} (hr : r ∈ all) (hcan : Canon all T0 r.d r.T) (hdcl : (∀ y ∈ all, r.d.testBit y.x.i = true → ∀ j, y.x.m.testBit j = true → r.d.testBit j = true) ∧ (∀ j, r.x.m.testBit j = true → r.d.testBit j = true) ∧ r.d.testBit r.x.i = false)
    (hun : ¬ exec listed r.x.i) (hmask : ∀ j, r.x.m.testBit j = true → exec listed j) (t : Tmp) (ht : t ∈ looksT ops r.x.o) : VR σ ρ (Tm.get r.T t) (a.tmps.getD t undef) := by
  have hmem : ∀ y ∈ all, y.x ∈ its := fun y hy => by rw [← hall]; exact List.mem_map.2 ⟨y, hy, rfl⟩
  have hW : ∀ p ∈ all, ∀ q ∈ all, q.x.i ≠ p.x.i → ∀ t, p.x.o.dst = some t → q.x.o.dst ≠ some t := fun p hp q hq hne t ht => (Rg.data p.x (hmem p hp) q.x (hmem q hq) hne).2 t ht
  obtain ⟨c1, c2⟩ := hcan
  obtain ⟨d1, d2, d3⟩ := hdcl
  by_cases hex : ∃ y ∈ all, y.x.i ≠ r.x.i ∧ y.x.o.dst = some t
  · obtain ⟨y, hy, hne, hd⟩ := hex
    rcases (Rg.data r.x (hmem r hr) y.x (hmem y hy) hne).1 t ht hd with hm | hm
    · rw [c1 y hy (d2 _ hm) t hd]
      exact j.t1 y hy (hmask _ hm) t hd
    · have hyn : ¬ exec listed y.x.i := fun e => hun (j.closed y hy e _ hm)
      have hyd : r.d.testBit y.x.i = false := by
        cases hq : r.d.testBit y.x.i with
        | false => rfl
        | true => have := d1 y hy hq _ hm; rw [this] at d3; cases d3
      rw [c2 t fun q hq hb => ?_]
      · refine j.t2 t fun q hq he hdq => ?_
        have : q.x.i ≠ y.x.i := fun e => hyn (by rw [← e]; exact he)
        exact hW q hq y hy (fun e => this e.symm) t hdq hd
      · intro hdq
        have : q.x.i ≠ y.x.i := fun e => by rw [e] at hb; rw [hb] at hyd; cases hyd
        exact hW q hq y hy (fun e => this e.symm) t hdq hd
  · have hno : ∀ q ∈ all, q.x.i ≠ r.x.i → q.x.o.dst ≠ some t := fun q hq hne hd => hex ⟨q, hq, hne, hd⟩
    rw [c2 t fun q hq hb => hno q hq (fun e => by rw [e] at hb; rw [hb] at d3; cases d3)]
    exact j.t2 t fun q hq he => hno q hq (fun e => hun (by rw [← e]; exact he))
/-- an operation that is no act is done -/
theorem J.skip (j : J call Γ n ops its all Tz hz G σ W0 D T0 h0 ρ0 W1 recs snaps d T h listed a W ρ) (hU : ∀ p ∈ all, ∀ q ∈ all, p.x.i = q.x.i → p = q) (hW : ∀ p ∈ all, ∀ q ∈ all, q.x.i ≠ p.x.i → ∀ t, p.x.o.dst = some t → q.x.o.dst ≠ some t)
    {r : Rec} (hr : r ∈ recs) (hact : isAct r.x ≠ true) (hun : listed.getD r.x.i true = false) (hmask : ∀ j, r.x.m.testBit j = true → exec listed j) (hput : put n r.x.o.dst r.v r.T = some r.T')
    {x : Value} {ρ' : Inj} {W' : World} (hv : VR σ ρ' r.v x) (hx : Ext ρ ρ') (hlow : ∀ k, k ≠ r.id h0.next → ρ' k = ρ k) (hnm : ¬ r.made → ρ' = ρ ∧ W' = W)
    (hm : r.made → ∃ obj tot, W' = W.alloc obj ∧ ρ' (r.id h0.next) = some ⟨W.heap.size, 0, tot⟩ ∧ ∃ ob, r.h'.tr.get (r.id h0.next) = some ob ∧ ob.free = true ∧ ObR σ ρ' W' ⟨W.heap.size, 0, tot⟩ ob) (hid : r.made → h.tr.get (r.id h0.next) = none) (hlt : r.x.i < ops.size) :
    J call Γ n ops its all Tz hz G σ W0 D T0 h0 ρ0 W1 recs snaps d T h (listed.setIfInBounds r.x.i true) (a.put r.x.o.dst x) W' ρ' := by
  have hex := exec_set hun
  have hun' := exec_not hun
  have hidlt : r.id h0.next < h.next := by have := j.next; simp only [Rec.id]; omega
  -- the world
  have hW' : ∀ b, b < W.heap.size → W'.heap[b]? = W.heap[b]? := by
    intro b hb
    by_cases hmd : r.made
    · obtain ⟨obj, tot, rfl, _⟩ := hm hmd
      exact (by first | exact Go.RowKit.heap_alloc_old W obj b hb | exact heap_alloc_old W obj hb)
    · rw [(hnm hmd).2]
  have hsz : W.heap.size ≤ W'.heap.size := by
    by_cases hmd : r.made
    · obtain ⟨obj, tot, rfl, _⟩ := hm hmd
      have : (W.alloc obj).heap.size = W.heap.size + 1 := Array.size_push ..
      omega
    · rw [(hnm hmd).2]; exact Nat.le_refl _
  have hnew : ∀ k l, ρ' k = some l → ρ k = some l ∨ (r.made ∧ k = r.id h0.next ∧ ρ k = none ∧ l.blk = W.heap.size ∧ W'.heap.size = W.heap.size + 1) := by
    intro k l hl
    by_cases hk : k = r.id h0.next
    · by_cases hmd : r.made
      · obtain ⟨obj, tot, rfl, h2, _⟩ := hm hmd
        subst hk
        rw [h2] at hl; cases hl
        exact .inr ⟨hmd, rfl, j.free r hr hmd hun', rfl, Array.size_push ..⟩
      · rw [(hnm hmd).1] at hl; exact .inl hl
    · rw [hlow k hk] at hl; exact .inl hl
  have hknown : ∀ b, Known ρ' h b → Known ρ h b := by
    rintro b ⟨k, o, l, hk, hl, rfl⟩
    rcases hnew k l hl with q | ⟨hmd, rfl, _⟩
    · exact ⟨k, o, l, hk, q, rfl⟩
    · rw [hid hmd] at hk; cases hk
  have hrel : Rel σ W0 ρ' h W' := by
    refine ⟨?_, fun k hk => ?_, fun k l hl => ?_, ?_, ?_⟩
    · by_cases hmd : r.made
      · obtain ⟨obj, tot, rfl, _⟩ := hm hmd
        exact j.rel.below.alloc j.rel.below.size obj
      · rw [(hnm hmd).2]; exact j.rel.below
    · rw [hlow k (by omega)]; exact j.rel.dom k hk
    · rcases hnew k l hl with q | ⟨_, _, _, q, q2⟩
      · have := j.rel.blk k l q; omega
      · omega
    · intro k o l hk hl
      rcases hnew k l hl with q | ⟨hmd, rfl, _⟩
      · obtain ⟨b1, b2⟩ := j.rel.obs k o l hk q
        exact ⟨ObR.mono hx (hW' _ (j.rel.blk k l q)) b1, b2⟩
      · rw [hid hmd] at hk; cases hk
    · intro k1 k2 o1 o2 l1 l2 hk1 hk2 hne hl1 hl2
      rcases hnew k1 l1 hl1 with q1 | ⟨hmd, rfl, _⟩
      · rcases hnew k2 l2 hl2 with q2 | ⟨hmd, rfl, _⟩
        · exact j.rel.apart k1 k2 o1 o2 l1 l2 hk1 hk2 hne q1 q2
        · rw [hid hmd] at hk2; cases hk2
      · rw [hid hmd] at hk1; cases hk1
  have hne_id : ∀ q ∈ recs, q.x.i ≠ r.x.i → q.id h0.next ≠ r.id h0.next := fun q _ hq e => hq (by simp only [Rec.id] at e; omega)
  refine ⟨j.chain, j.sub, fun k hk => (hex k).2 (.inl (j.pre k hk)), j.cover, ?_, ?_, j.actl, hrel, j.glob.mono hx, ?_, ?_, ?_, j.ext.trans hx, ?_, j.next, Nat.le_trans j.size hsz, fun b hb => j.own b (hknown b hb), ?_, ?_, ?_, ?_, ?_⟩
  · intro q hq he k hk
    rcases (hex q.x.i).1 he with he | he
    · exact (hex k).2 (.inl (j.closed q hq he k hk))
    · have := hU q hq r (j.sub r hr) he
      subst this
      exact (hex k).2 (.inl (hmask k hk))
  · intro q hq hqa he
    rcases (hex q.x.i).1 he with he | he
    · exact j.acts q hq hqa he
    · have := hU q (j.sub q hq) r (j.sub r hr) he
      subst this
      exact hact hqa
  · intro q hq hqm he
    rcases (hex q.x.i).1 he with he | he
    · have hqr : q.x.i ≠ r.x.i := fun e => hun' (by rw [← e]; exact he)
      obtain ⟨ob, L, b1, b2, b3, b4, b5, b6, b7⟩ := j.made q hq hqm he
      exact ⟨ob, L, b1, hx _ _ b2, b3, ObR.mono hx (hW' _ (j.rel.blk _ L b2)) b4, b5, b6, fun k => b7 (hknown _ k)⟩
    · have := hU q (j.sub q hq) r (j.sub r hr) he
      subst this
      obtain ⟨obj, tot, e1, e2, ob, e3, e4, e5⟩ := hm hqm
      refine ⟨ob, _, e3, e2, e4, e5, j.rel.below.size, j.size, ?_⟩
      rintro ⟨k, o, l, hk, hl, hb⟩
      rcases hnew k l hl with q | ⟨hmd, rfl, _⟩
      · have := j.rel.blk k l q
        simp only at hb
        omega
      · rw [hid hmd] at hk; cases hk
  · intro q hq hqm he
    have he1 : ¬ exec listed q.x.i := fun e => he ((hex _).2 (.inl e))
    have he2 : q.x.i ≠ r.x.i := fun e => he ((hex _).2 (.inr e))
    rw [hlow _ (hne_id q hq he2)]
    exact j.free q hq hqm he1
  · intro p hp q hq hpm hqm hpe hqe hne l l' hl hl'
    rcases hnew _ l hl with p1 | ⟨_, p1, _, p2, _⟩
    · rcases hnew _ l' hl' with q1 | ⟨_, q1, _, q2, _⟩
      · have hpe' : exec listed p.x.i := by
          rcases (hex _).1 hpe with e | e
          · exact e
          · have : p.id h0.next = r.id h0.next := by simp only [Rec.id, e]
            by_cases hrm : r.made
            · rw [this, j.free r hr hrm hun'] at p1; cases p1
            · have := hU p (j.sub p hp) r (j.sub r hr) e; subst this; exact absurd hpm hrm
        have hqe' : exec listed q.x.i := by
          rcases (hex _).1 hqe with e | e
          · exact e
          · have : q.id h0.next = r.id h0.next := by simp only [Rec.id, e]
            by_cases hrm : r.made
            · rw [this, j.free r hr hrm hun'] at q1; cases q1
            · have := hU q (j.sub q hq) r (j.sub r hr) e; subst this; exact absurd hqm hrm
        exact j.two p hp q hq hpm hqm hpe' hqe' hne l l' p1 q1
      · have := j.rel.blk _ l p1; omega
    · rcases hnew _ l' hl' with q1 | ⟨_, q1, _, q2, _⟩
      · have := j.rel.blk _ l' q1; omega
      · exfalso; apply hne
        simp only [Rec.id] at p1 q1; omega
  · intro k hk
    rw [hlow k (by simp only [Rec.id]; omega)]
    exact j.low k hk
  · intro b hb hk
    rw [hW' b (Nat.lt_of_lt_of_le hb j.size)]
    exact j.frame b hb hk
  · cases hd : r.x.o.dst with
    | none => exact j.tsize
    | some t => show (a.tmps.setIfInBounds t x).size = n; rw [Array.size_setIfInBounds]; exact j.tsize
  · cases hd : r.x.o.dst with
    | none => exact j.tdef
    | some t => exact j.tdef
  · intro q hq he t ht
    rcases put_eq hput with ⟨e1, _⟩ | ⟨k, e1, hkn, _⟩
    · have hqr : q.x.i ≠ r.x.i := fun e => by
        have := hU q hq r (j.sub r hr) e
        subst this; rw [ht] at e1; cases e1
      rcases (hex _).1 he with he | he
      · rw [e1]; exact VR.mono hx _ _ (j.t1 q hq he t ht)
      · exact absurd he hqr
    · rw [e1]
      show VR σ ρ' q.v ((a.tmps.setIfInBounds k x).getD t undef)
      rw [getD_put (by rw [j.tsize]; exact hkn)]
      by_cases hkt : k = t
      · rw [if_pos hkt]
        subst hkt
        by_cases hqr : q.x.i = r.x.i
        · have := hU q hq r (j.sub r hr) hqr
          subst this; exact hv
        · exact absurd ht (hW r (j.sub r hr) q hq hqr k e1)
      · rw [if_neg hkt]
        rcases (hex _).1 he with he | he
        · exact VR.mono hx _ _ (j.t1 q hq he t ht)
        · have := hU q hq r (j.sub r hr) he
          subst this
          rw [e1] at ht; cases ht; exact absurd rfl hkt
  · intro t hno
    have hno' : ∀ q ∈ all, exec listed q.x.i → q.x.o.dst ≠ some t := fun q hq he => hno q hq ((hex _).2 (.inl he))
    have hr' := hno r (j.sub r hr) ((hex _).2 (.inr rfl))
    have := VR.mono hx _ _ (j.t2 t hno')
    rcases put_eq hput with ⟨e1, _⟩ | ⟨k, e1, hkn, _⟩
    · rw [e1]; exact this
    · rw [e1]
      show VR σ ρ' _ ((a.tmps.setIfInBounds k x).getD t undef)
      rw [getD_put (by rw [j.tsize]; exact hkn), if_neg (fun e => hr' (by rw [e1, e]))]
      exact this
end
end Tk
