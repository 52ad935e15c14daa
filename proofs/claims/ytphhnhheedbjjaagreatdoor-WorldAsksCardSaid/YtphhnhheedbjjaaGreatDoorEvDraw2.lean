/- Regions that draw their order (2): the run in the plan's order. -/
import Derived.Test.YtphhnhheedbjjaaGreatDoorEvDraw1
set_option linter.unusedVariables false
set_option linter.unusedSimpArgs false
namespace Tk
open Go Go.RowKit

noncomputable def endOf : List Rec → H → H
  | [], hz => hz
  | r :: l, hz => if isAct r.x then r.h else endOf l hz
def Rec.id (r : Rec) (base : Nat) : Nat := base + r.x.i
def Rec.made (r : Rec) : Prop := r.x.c = .make ∧ r.on = true
theorem act_iff (x : Tk.Item) : isAct x = true ↔ x.c = .act := by unfold isAct; cases x.c <;> simp
theorem addSnap_act {x : Tk.Item} (h : isAct x = true) (snaps : List H) (k : H) : addSnap x.c snaps k = snaps ++ [k] := by
  rw [(act_iff x).1 h]; simp [addSnap, appL_eq]
theorem addSnap_not {x : Tk.Item} (h : isAct x ≠ true) (snaps : List H) (k : H) : addSnap x.c snaps k = snaps := by
  have : x.c ≠ .act := fun e => h ((act_iff x).2 e)
  unfold addSnap
  cases hc : x.c <;> first | rfl | exact absurd hc this
theorem fresh_cons {base : Nat} {tr : Tr Ob} {x : Tk.Item} {l : List Tk.Item} (h : freshIn base tr (x :: l) = true) : (x.c = .make → Tr.get tr (base + x.i) = none) ∧ freshIn base tr l = true := by
  simp only [freshIn] at h
  split at h
  · split at h
    · rename_i hq; exact ⟨fun _ => hq, h⟩
    · cases h
  · rename_i hne; exact ⟨fun e => absurd e hne, h⟩
theorem fresh_mem {base : Nat} {tr : Tr Ob} : ∀ {l : List Tk.Item}, freshIn base tr l = true → ∀ y ∈ l, y.c = .make → Tr.get tr (base + y.i) = none
  | [], _, y, hy, _ => by simp at hy
  | x :: l, h, y, hy, hc => by
    obtain ⟨h1, h2⟩ := fresh_cons h
    rcases List.mem_cons.1 hy with rfl | hy
    · exact h1 hc
    · exact fresh_mem h2 y hy hc
theorem fresh_set {base : Nat} {tr : Tr Ob} {k : Nat} {o : Ob} : ∀ {l : List Tk.Item}, freshIn base tr l = true → (∀ y ∈ l, base + y.i ≠ k) → freshIn base (tr.set k o) l = true
  | [], _, _ => rfl
  | x :: l, h, hne => by
    obtain ⟨h1, h2⟩ := fresh_cons h
    have ih := fresh_set (o := o) h2 (fun y hy => hne y (List.mem_cons_of_mem _ hy))
    simp only [freshIn]
    cases hc : x.c
    · exact ih
    · simp only [Tr.get_set]
      rw [if_neg (fun e => hne x (by simp) e.symm), h1 hc]
      exact ih
    · exact ih
section
variable {call : CallF} {Γ : Cx} {n : Nat} {ops : Array Oper} {base : Nat} {acts : List Tk.Item}
/-- one that makes a block -/
theorem item_make {x : Tk.Item} {rest : List Tk.Item} {snaps : List H} {T : Tm} {h h' : H} {v : V} (hc : x.c = .make) (hcls : x.c = classOf x.o.op) (he : evItem call Γ base x rest snaps T h = some (v, h')) :
    ∃ ob, step1 Γ x.o.op T { tr := h.tr, next := base + x.i } = some (v, H.new { tr := h.tr, next := base + x.i } ob) ∧ h' = { tr := h.tr.set (base + x.i) ob, next := h.next } := by
  unfold evItem at he
  rw [hc] at he
  simp only [] at he
  rw [step_quiet (by rw [← hcls, hc]; simp)] at he
  split at he
  · rename_i v1 h1 hs
    simp only [Option.some.injEq, Prod.mk.injEq] at he
    obtain ⟨rfl, rfl⟩ := he
    obtain ⟨ob, rfl⟩ := make_form (by rw [← hcls, hc]) hs
    exact ⟨ob, hs, rfl⟩
  · cases he
theorem item_quiet {x : Tk.Item} {rest : List Tk.Item} {snaps : List H} {T : Tm} {h h' : H} {v : V} (hc : x.c = .quiet) (hcls : x.c = classOf x.o.op) (he : evItem call Γ base x rest snaps T h = some (v, h')) :
    h' = h ∧ (∃ h1, step1 Γ x.o.op T h = some (v, h1)) ∧ stays (step1 Γ x.o.op T) v (snaps.drop x.lo) = true := by
  unfold evItem at he
  rw [hc] at he
  simp only [] at he
  rw [step_quiet (by rw [← hcls, hc]; simp), dropL_eq] at he
  split at he
  · rename_i v1 h1 hs
    split at he
    · rename_i hst
      simp only [Option.some.injEq, Prod.mk.injEq] at he
      obtain ⟨rfl, rfl⟩ := he
      exact ⟨rfl, ⟨h1, hs⟩, hst⟩
    · cases he
  · cases he
theorem item_act {x : Tk.Item} {rest : List Tk.Item} {snaps : List H} {T : Tm} {h h' : H} {v : V} (hc : x.c = .act) (he : evItem call Γ base x rest snaps T h = some (v, h')) :
    stepO call Γ x.o.op T h = some (v, h') ∧ freshIn base h'.tr rest = true := by
  unfold evItem at he
  rw [hc] at he
  simp only [] at he
  split at he
  · split at he
    · rename_i hst
      simp only [Option.some.injEq, Prod.mk.injEq] at he
      obtain ⟨rfl, rfl⟩ := he
      exact ⟨by assumption, hst⟩
    · cases he
  · cases he
theorem chain_of : ∀ {its : List Tk.Item} {snaps : List H} {d : Nat} {T : Tm} {h : H} {Tz : Tm} {hz : H}, (∀ x ∈ its, x.c = classOf x.o.op) → planOk acts ops.size its d = true → freshIn base h.tr its = true →
    evPlan call Γ n ops base its snaps T h = some (Tz, hz) → ∃ recs, itsOf recs = its ∧ Chain call Γ n ops base acts recs snaps d T h Tz hz
  | [], snaps, d, T, h, Tz, hz, _, hp, hf, he => by
    have he : some (T, h) = some (Tz, hz) := he
    cases he
    exact ⟨[], rfl, rfl, rfl, beqN hp⟩
  | x :: its, snaps, d, T, h, Tz, hz, hcl, hp, hf, he => by
    rw [evPlan_cons] at he
    have hp2 : planOk acts ops.size its (Nat.lor d (2 ^ x.i)) = true := by
      simp only [planOk, Bool.and_eq_true] at hp; exact hp.2
    have hcl2 : ∀ y ∈ its, y.c = classOf y.o.op := fun y hy => hcl y (List.mem_cons_of_mem _ hy)
    obtain ⟨hf1, hf2⟩ := fresh_cons hf
    rcases hw : wantedT ops x.o.guard T with _ | _ | _
    · simp only [hw] at he; cases he
    · simp only [hw] at he
      rcases hpt : put n x.o.dst undefV T with _ | T1
      · simp only [hpt] at he; cases he
      · simp only [hpt] at he
        obtain ⟨recs, h1, h2⟩ := chain_of hcl2 hp2 hf2 he
        refine ⟨⟨x, T, h, undefV, T1, h, snaps, d, false⟩ :: recs, by simp [itsOf] at h1 ⊢; exact h1, rfl, rfl, rfl, rfl, ?_, ?_, hw.symm, fun _ => ⟨rfl, rfl⟩, (fun q => by cases q), hpt, h2⟩
        · rw [h1]; exact hf
        · rw [h1]; exact hp
    · simp only [hw] at he
      rcases hev : evItem call Γ base x its snaps T h with _ | ⟨v, h'⟩
      · simp only [hev] at he; cases he
      · simp only [hev] at he
        rcases hpt : put n x.o.dst v T with _ | T1
        · simp only [hpt] at he; cases he
        · simp only [hpt] at he
          have hf3 : freshIn base h'.tr its = true := by
            cases hc : x.c with
            | quiet => obtain ⟨rfl, _⟩ := item_quiet hc (hcl x (by simp)) hev; exact hf2
            | make =>
              obtain ⟨ob, _, rfl⟩ := item_make hc (hcl x (by simp)) hev
              exact fresh_set hf2 (fun y hy e => plan_ne hp y hy (by omega))
            | act => exact (item_act hc hev).2
          obtain ⟨recs, h1, h2⟩ := chain_of hcl2 hp2 hf3 he
          refine ⟨⟨x, T, h, v, T1, h', snaps, d, true⟩ :: recs, by simp [itsOf] at h1 ⊢; exact h1, rfl, rfl, rfl, rfl, ?_, ?_, hw.symm, (fun q => by cases q), fun _ => ?_, hpt, h2⟩
          · rw [h1]; exact hf
          · rw [h1]; exact hp
          · rw [h1]; exact hev
variable {recs : List Rec} {snaps : List H} {d : Nat} {T : Tm} {h : H} {Tz : Tm} {hz : H}
/-- where one of them stands -/
theorem chain_split : ∀ {recs : List Rec} {snaps : List H} {d : Nat} {T : Tm} {h : H}, Chain call Γ n ops base acts recs snaps d T h Tz hz → ∀ r ∈ recs,
    ∃ l, Chain call Γ n ops base acts (r :: l) r.snaps r.d r.T r.h Tz hz ∧ (∀ y ∈ r :: l, y ∈ recs) ∧ (∀ j, d.testBit j = true → r.d.testBit j = true) ∧
      ((r.snaps = snaps ∧ endOf (r :: l) hz = endOf recs hz) ∨ ∃ m, r.snaps = snaps ++ endOf recs hz :: m)
  | [], _, _, _, _, _, r, hr => by simp at hr
  | q :: recs, snaps, d, T, h, hC, r, hr => by
    rcases List.mem_cons.1 hr with rfl | hr
    · have hC0 := hC
      obtain ⟨rfl, rfl, rfl, rfl, _⟩ := hC
      exact ⟨recs, hC0, fun y hy => hy, fun j hj => hj, .inl ⟨rfl, rfl⟩⟩
    · obtain ⟨h1, h2, h3, h4, h5, h6, h7, h8, h9, h10, h11⟩ := hC
      obtain ⟨l, a1, a2, a3, a4⟩ := chain_split h11 r hr
      refine ⟨l, a1, fun y hy => List.mem_cons_of_mem _ (a2 y hy), fun j hj => a3 j (by rw [bit_lor, hj]; rfl), ?_⟩
      by_cases hact : isAct q.x = true
      · right
        rw [addSnap_act hact] at a4
        have hend : endOf (q :: recs) hz = h := by rw [endOf, if_pos hact, h4]
        rw [hend]
        rcases a4 with ⟨b1, _⟩ | ⟨m, b1⟩
        · exact ⟨[], b1⟩
        · exact ⟨endOf recs hz :: m, by rw [b1]; simp⟩
      · rw [addSnap_not hact] at a4
        have hend : endOf (q :: recs) hz = endOf recs hz := by rw [endOf, if_neg hact]
        rw [hend]
        exact a4
/-- what is in a heap of the same stretch -/
def Grown' (base : Nat) (recs : List Rec) (h K : H) : Prop :=
  K.next = h.next ∧ ∀ k o, K.tr.get k = some o → h.tr.get k = some o ∨ ∃ r ∈ recs, r.made ∧ k = r.id base ∧ r.h'.tr.get k = some o
theorem grown_step {q : Rec} {recs : List Rec} {h K : H} (hact : isAct q.x ≠ true) (hcls : q.x.c = classOf q.x.o.op) (h4 : q.h = h) (h8 : q.on = false → q.v = undefV ∧ q.h' = h) (h9 : q.on = true → evItem call Γ base q.x (itsOf recs) snaps T h = some (q.v, q.h'))
    (g : Grown' base recs q.h' K) : Grown' base (q :: recs) h K := by
  obtain ⟨g1, g2⟩ := g
  cases hon : q.on with
  | false =>
    obtain ⟨_, e⟩ := h8 hon
    rw [e] at g1 g2
    exact ⟨g1, fun k o hk => (g2 k o hk).imp id fun ⟨r, a, b⟩ => ⟨r, List.mem_cons_of_mem _ a, b⟩⟩
  | true =>
    have he := h9 hon
    cases hc : q.x.c with
    | act => exact absurd ((act_iff _).2 hc) hact
    | quiet =>
      obtain ⟨e, _⟩ := item_quiet hc hcls he
      rw [e] at g1 g2
      exact ⟨g1, fun k o hk => (g2 k o hk).imp id fun ⟨r, a, b⟩ => ⟨r, List.mem_cons_of_mem _ a, b⟩⟩
    | make =>
      obtain ⟨ob, _, e⟩ := item_make hc hcls he
      refine ⟨by rw [g1, e], fun k o hk => ?_⟩
      rcases g2 k o hk with q1 | ⟨r, a, b⟩
      · by_cases hid : k = base + q.x.i
        · exact .inr ⟨q, by simp, ⟨hc, hon⟩, hid, q1⟩
        · left
          rw [e] at q1
          simp only [Tr.get_set] at q1
          rwa [if_neg (fun e => hid e.symm)] at q1
      · exact .inr ⟨r, List.mem_cons_of_mem _ a, b⟩
theorem grown_end : ∀ {recs : List Rec} {snaps : List H} {d : Nat} {T : Tm} {h : H}, (∀ r ∈ recs, r.x.c = classOf r.x.o.op) → Chain call Γ n ops base acts recs snaps d T h Tz hz → Grown' base recs h (endOf recs hz)
  | [], _, _, _, h, _, hC => by
    obtain ⟨_, rfl, _⟩ := hC
    exact ⟨rfl, fun k o hk => .inl hk⟩
  | q :: recs, snaps, d, T, h, hcl, hC => by
    obtain ⟨h1, h2, h3, h4, h5, h6, h7, h8, h9, h10, h11⟩ := hC
    by_cases hact : isAct q.x = true
    · rw [endOf, if_pos hact, h4]
      exact ⟨rfl, fun k o hk => .inl hk⟩
    · rw [endOf, if_neg hact]
      exact grown_step hact (hcl q (by simp)) h4 h8 h9 (grown_end (fun r hr => hcl r (List.mem_cons_of_mem _ hr)) h11)
theorem grown_at : ∀ {recs : List Rec} {snaps : List H} {d : Nat} {T : Tm} {h : H}, (∀ r ∈ recs, r.x.c = classOf r.x.o.op) → Chain call Γ n ops base acts recs snaps d T h Tz hz → ∀ r ∈ recs, r.snaps = snaps → Grown' base recs h r.h
  | [], _, _, _, h, _, hC, r, hr, _ => by simp at hr
  | q :: recs, snaps, d, T, h, hcl, hC, r, hr, hs => by
    obtain ⟨h1, h2, h3, h4, h5, h6, h7, h8, h9, h10, h11⟩ := hC
    rcases List.mem_cons.1 hr with rfl | hr
    · rw [h4]; exact ⟨rfl, fun k o hk => .inl hk⟩
    · by_cases hact : isAct q.x = true
      · exfalso
        obtain ⟨l, a1, a2, a3, a4⟩ := chain_split h11 r hr
        rw [addSnap_act hact] at a4
        have hlen := congrArg List.length hs
        rcases a4 with ⟨b1, _⟩ | ⟨m, b1⟩
        · rw [b1] at hlen; simp at hlen
        · rw [b1] at hlen; simp at hlen
      · rw [addSnap_not hact] at h11
        exact grown_step hact (hcl q (by simp)) h4 h8 h9 (grown_at (fun r hr => hcl r (List.mem_cons_of_mem _ hr)) h11 r hr hs)
/-- one place, one operation -/
theorem chain_one : ∀ {recs : List Rec} {snaps : List H} {d : Nat} {T : Tm} {h : H}, Chain call Γ n ops base acts recs snaps d T h Tz hz → ∀ r ∈ recs, ∀ q ∈ recs, r.x.i = q.x.i → r = q
  | [], _, _, _, _, _, r, hr, _, _, _ => by simp at hr
  | p :: recs, snaps, d, T, h, hC, r, hr, q, hq, he => by
    obtain ⟨h1, h2, h3, h4, h5, h6, h7, h8, h9, h10, h11⟩ := hC
    have hne := plan_ne h6
    have hmem : ∀ y ∈ recs, y.x ∈ itsOf recs := fun y hy => List.mem_map.2 ⟨y, hy, rfl⟩
    rcases List.mem_cons.1 hr with e1 | hr
    · rcases List.mem_cons.1 hq with e2 | hq
      · rw [e1, e2]
      · rw [e1] at he; exact absurd he.symm (hne _ (hmem q hq))
    · rcases List.mem_cons.1 hq with e2 | hq
      · rw [e2] at he; exact absurd he (hne _ (hmem r hr))
      · exact chain_one h11 r hr q hq he
/-- nothing is left out -/
theorem chain_all : ∀ {recs : List Rec} {snaps : List H} {d : Nat} {T : Tm} {h : H}, Chain call Γ n ops base acts recs snaps d T h Tz hz → ∀ i, i < ops.size → d.testBit i = true ∨ ∃ r ∈ recs, r.x.i = i
  | [], _, d, _, _, hC, i, hi => by
    obtain ⟨_, _, rfl⟩ := hC
    left
    rw [Nat.testBit_two_pow_sub_one]
    simpa using hi
  | p :: recs, snaps, d, T, h, hC, i, hi => by
    obtain ⟨h1, h2, h3, h4, h5, h6, h7, h8, h9, h10, h11⟩ := hC
    rcases chain_all h11 i hi with q | ⟨r, a, b⟩
    · rw [bit_lor, bit_pow] at q
      simp only [Bool.or_eq_true, decide_eq_true_eq] at q
      rcases q with q | q
      · exact .inl q
      · exact .inr ⟨p, by simp, q⟩
    · exact .inr ⟨r, List.mem_cons_of_mem _ a, b⟩
/-- the temporaries in the plan's order -/
def Canon (all : List Rec) (T0 : Tm) (d : Nat) (T : Tm) : Prop :=
  (∀ r ∈ all, d.testBit r.x.i = true → ∀ t, r.x.o.dst = some t → Tm.get T t = r.v) ∧ (∀ t, (∀ r ∈ all, d.testBit r.x.i = true → r.x.o.dst ≠ some t) → Tm.get T t = Tm.get T0 t)
theorem canon_step {all : List Rec} {T0 : Tm} {d : Nat} {T T' : Tm} {r : Rec} (hU : ∀ p ∈ all, ∀ q ∈ all, p.x.i = q.x.i → p = q) (hW : ∀ p ∈ all, ∀ q ∈ all, q.x.i ≠ p.x.i → ∀ t, p.x.o.dst = some t → q.x.o.dst ≠ some t)
    (hr : r ∈ all) (hc : Canon all T0 d T) (hp : put n r.x.o.dst r.v T = some T') (hd : d.testBit r.x.i = false) : Canon all T0 (Nat.lor d (2 ^ r.x.i)) T' := by
  have hbit : ∀ q : Rec, (Nat.lor d (2 ^ r.x.i)).testBit q.x.i = true ↔ d.testBit q.x.i = true ∨ r.x.i = q.x.i := fun q => by rw [bit_lor, bit_pow]; simp
  obtain ⟨c1, c2⟩ := hc
  have hget : ∀ t, Tm.get T' t = if r.x.o.dst = some t then r.v else Tm.get T t := by
    intro t
    rcases put_eq hp with ⟨e1, rfl⟩ | ⟨k, e1, _, rfl⟩
    · rw [e1]; simp
    · rw [tm_set, e1]
      by_cases e : k = t
      · subst e; simp
      · rw [if_neg e, if_neg (by simpa using e)]
  refine ⟨fun q hq hb t ht => ?_, fun t hno => ?_⟩
  · rw [hget]
    rcases (hbit q).1 hb with hb | hb
    · have hne : q.x.i ≠ r.x.i := fun e => by rw [e] at hb; rw [hb] at hd; cases hd
      rw [if_neg (hW q hq r hr (fun e => hne e.symm) t ht)]
      exact c1 q hq hb t ht
    · have := hU r hr q hq hb
      subst this
      rw [if_pos ht]
  · rw [hget, if_neg (hno r hr ((hbit r).2 (.inr rfl)))]
    exact c2 t fun q hq hb => hno q hq ((hbit q).2 (.inl hb))
theorem chain_canon {all : List Rec} {T0 : Tm} (hU : ∀ p ∈ all, ∀ q ∈ all, p.x.i = q.x.i → p = q) (hW : ∀ p ∈ all, ∀ q ∈ all, q.x.i ≠ p.x.i → ∀ t, p.x.o.dst = some t → q.x.o.dst ≠ some t) :
    ∀ {recs : List Rec} {snaps : List H} {d : Nat} {T : Tm} {h : H}, (∀ r ∈ recs, r ∈ all) → Chain call Γ n ops base acts recs snaps d T h Tz hz → Canon all T0 d T →
      (∀ r ∈ recs, Canon all T0 r.d r.T) ∧ Canon all T0 (2 ^ ops.size - 1) Tz
  | [], _, d, T, _, _, hC, hc => by
    obtain ⟨rfl, _, rfl⟩ := hC
    exact ⟨fun r hr => by simp at hr, hc⟩
  | p :: recs, snaps, d, T, h, hs, hC, hc => by
    obtain ⟨h1, h2, h3, h4, h5, h6, h7, h8, h9, h10, h11⟩ := hC
    have hd := plan_fresh h6 p.x (by simp)
    have := canon_step hU hW (hs p (by simp)) hc h10 hd
    obtain ⟨i1, i2⟩ := chain_canon hU hW (fun r hr => hs r (List.mem_cons_of_mem _ hr)) h11 this
    refine ⟨fun r hr => ?_, i2⟩
    rcases List.mem_cons.1 hr with rfl | hr
    · rw [h2, h3]; exact hc
    · exact i1 r hr
/-- what is done ahead of one needs nothing that is not -/
theorem chain_dcl {all : List Rec} (hU : ∀ p ∈ all, ∀ q ∈ all, p.x.i = q.x.i → p = q) : ∀ {recs : List Rec} {snaps : List H} {d : Nat} {T : Tm} {h : H}, (∀ r ∈ recs, r ∈ all) → Chain call Γ n ops base acts recs snaps d T h Tz hz →
    (∀ y ∈ all, d.testBit y.x.i = true → ∀ j, y.x.m.testBit j = true → d.testBit j = true) → ∀ r ∈ recs, (∀ y ∈ all, r.d.testBit y.x.i = true → ∀ j, y.x.m.testBit j = true → r.d.testBit j = true) ∧ (∀ j, r.x.m.testBit j = true → r.d.testBit j = true) ∧ r.d.testBit r.x.i = false
  | [], d, _, _, _, _, _, _, r, hr => by simp at hr
  | p :: recs, snaps, d, T, h, hs, hC, hd, r, hr => by
    obtain ⟨h1, h2, h3, h4, h5, h6, h7, h8, h9, h10, h11⟩ := hC
    have hf := plan_fresh h6 p.x (by simp)
    have hm : ∀ j, p.x.m.testBit j = true → d.testBit j = true := by
      simp only [planOk, Bool.and_eq_true] at h6
      exact fun j hj => bit_sub h6.1.1.1.1 hj
    rcases List.mem_cons.1 hr with rfl | hr
    · rw [h2]; exact ⟨hd, hm, hf⟩
    · refine chain_dcl hU (fun r hr => hs r (List.mem_cons_of_mem _ hr)) h11 ?_ r hr
      intro y hy hb j hj
      rw [bit_lor, bit_pow] at hb ⊢
      simp only [Bool.or_eq_true, decide_eq_true_eq] at hb ⊢
      rcases hb with hb | hb
      · exact .inl (hd y hy hb j hj)
      · have := hU p (hs p (by simp)) y hy hb
        subst this
        exact .inl (hm j hj)
theorem itsOf_append (a b : List Rec) : itsOf (a ++ b) = itsOf a ++ itsOf b := by simp [itsOf]
theorem firstAct_pre : ∀ {pre : List Rec} {r : Rec} {l : List Rec}, (∀ y ∈ pre, isAct y.x ≠ true) → isAct r.x = true → firstAct (itsOf (pre ++ r :: l)) = some r.x
  | [], r, l, _, hr => by simp only [List.nil_append, itsOf, List.map_cons, firstAct, hr]
  | p :: pre, r, l, h, hr => by
    have hp := h p (by simp)
    have ih := firstAct_pre (l := l) (fun y hy => h y (List.mem_cons_of_mem _ hy)) hr
    have hp' : isAct p.x = false := by simpa using hp
    simp only [List.cons_append, itsOf, List.map_cons, firstAct, hp'] at ih ⊢
    exact ih
/-- up to the first act -/
theorem chain_drop : ∀ {pre : List Rec} {r : Rec} {l : List Rec} {snaps : List H} {d : Nat} {T : Tm} {h : H}, (∀ y ∈ pre, isAct y.x ≠ true) → isAct r.x = true → Chain call Γ n ops base acts (pre ++ r :: l) snaps d T h Tz hz →
    Chain call Γ n ops base acts (r :: l) snaps r.d r.T r.h Tz hz ∧ endOf (pre ++ r :: l) hz = r.h ∧ (∀ j, r.d.testBit j = true ↔ d.testBit j = true ∨ ∃ y ∈ pre, y.x.i = j) ∧ (∀ y ∈ pre, r.x.m.testBit y.x.i = true)
  | [], r, l, snaps, d, T, h, _, hr, hC => by
    have hC0 := hC
    obtain ⟨h1, h2, h3, h4, _⟩ := hC
    rw [List.nil_append] at hC0
    refine ⟨by rw [h2, h3, h4]; exact hC0, by simp [endOf, hr], fun j => by simp [h2], fun y hy => by simp at hy⟩
  | p :: pre, r, l, snaps, d, T, h, hn, hr, hC => by
    obtain ⟨h1, h2, h3, h4, h5, h6, h7, h8, h9, h10, h11⟩ := hC
    have hp := hn p (by simp)
    have hn' : ∀ y ∈ pre, isAct y.x ≠ true := fun y hy => hn y (List.mem_cons_of_mem _ hy)
    change Chain call Γ n ops base acts (pre ++ r :: l) _ _ _ _ _ _ at h11
    rw [addSnap_not hp] at h11
    obtain ⟨a1, a2, a3, a4⟩ := chain_drop hn' hr h11
    refine ⟨a1, by rw [List.cons_append, endOf, if_neg hp]; exact a2, fun j => ?_, fun y hy => ?_⟩
    · rw [a3, bit_lor, bit_pow]
      simp only [Bool.or_eq_true, decide_eq_true_eq, List.mem_cons, exists_eq_or_imp]
      constructor
      · rintro ((q | q) | q)
        · exact .inl q
        · exact .inr (.inl q)
        · exact .inr (.inr q)
      · rintro (q | q | q)
        · exact .inl (.inl q)
        · exact .inl (.inr q)
        · exact .inr q
    · rcases List.mem_cons.1 hy with rfl | hy
      · have hlate : isLate y.x (itsOf (pre ++ r :: l)) = true := by
          simp only [planOk, Bool.and_eq_true] at h6
          exact h6.1.1.2
        unfold isLate at hlate
        have hp' : isAct y.x = false := by simpa using hp
        simp only [hp', firstAct_pre hn' hr, hasBit_eq] at hlate
        exact hlate
      · exact a4 y hy
theorem chain_late {r : Rec} {l : List Rec} {snaps : List H} {d : Nat} {T : Tm} {h : H} (hC : Chain call Γ n ops base acts (r :: l) snaps d T h Tz hz) : r.x.lo ≤ countIn r.x.m acts := by
  obtain ⟨h1, h2, h3, h4, h5, h6, _⟩ := hC
  simp only [planOk, Bool.and_eq_true] at h6
  exact bleN h6.1.2
theorem countIn_le (m : Nat) : ∀ (pa l : List Tk.Item), (∀ y ∈ l, m.testBit y.i = false) → countIn m (pa ++ l) ≤ pa.length
  | [], [], _ => by simp [countIn]
  | [], y :: l, h => by
    have := h y (by simp)
    have ih := countIn_le m [] l (fun z hz => h z (List.mem_cons_of_mem _ hz))
    simp only [List.nil_append, countIn, hasBit_eq, this] at ih ⊢
    exact ih
  | p :: pa, l, h => by
    have ih := countIn_le m pa l h
    simp only [List.cons_append, countIn, List.length_cons]
    split
    · omega
    · omega
theorem acts_mem {l : List Tk.Item} {x : Tk.Item} : x ∈ actsOf l ↔ x ∈ l ∧ isAct x = true := by
  induction l with
  | nil => simp [actsOf]
  | cons y l ih =>
    simp only [actsOf]
    split
    · rename_i hy
      simp only [List.mem_cons, ih]
      constructor
      · rintro (rfl | ⟨h1, h2⟩)
        · exact ⟨.inl rfl, hy⟩
        · exact ⟨.inr h1, h2⟩
      · rintro ⟨rfl | h1, h2⟩
        · exact .inl rfl
        · exact .inr ⟨h1, h2⟩
    · rename_i hy
      simp only [List.mem_cons, ih]
      constructor
      · rintro ⟨h1, h2⟩; exact ⟨.inr h1, h2⟩
      · rintro ⟨rfl | h1, h2⟩
        · rw [hy] at h2; cases h2
        · exact ⟨h1, h2⟩
/-- each act but the first has one ahead of it -/
theorem line_pred : ∀ {l : List Tk.Item} {x : Tk.Item}, inLine (x :: l) = true → ∀ y ∈ l, ∃ z, (z = x ∨ z ∈ l) ∧ y.m.testBit z.i = true
  | [], x, _, y, hy => by simp at hy
  | w :: l, x, h, y, hy => by
    simp only [inLine] at h
    split at h
    · rename_i hb
      rw [hasBit_eq] at hb
      rcases List.mem_cons.1 hy with rfl | hy
      · exact ⟨x, .inl rfl, hb⟩
      · obtain ⟨z, h1, h2⟩ := line_pred (l := l) (x := w) h y hy
        refine ⟨z, .inr ?_, h2⟩
        rcases h1 with rfl | h1
        · simp
        · exact List.mem_cons_of_mem _ h1
    · cases h
theorem line_drop : ∀ {pa l : List Tk.Item}, inLine (pa ++ l) = true → inLine l = true
  | [], l, h => h
  | [x], l, h => by
    cases l with
    | nil => rfl
    | cons y l => simp only [List.cons_append, List.nil_append, inLine] at h; split at h; exact h; cases h
  | x :: y :: pa, l, h => by
    simp only [List.cons_append, inLine] at h
    split at h
    · exact line_drop (pa := y :: pa) h
    · cases h
end
end Tk
