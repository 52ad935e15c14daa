/- Regions that draw their order (4): the game, and its end. -/
import Derived.Test.YtphhnhheedbjjaaGreatDoorEvDraw3
set_option linter.unusedVariables false
set_option linter.unusedSimpArgs false
namespace Tk
open Go Go.RowKit

theorem first_act : ∀ (l : List Rec), (∃ r ∈ l, isAct r.x = true) → ∃ pre r0 t, l = pre ++ r0 :: t ∧ (∀ y ∈ pre, isAct y.x ≠ true) ∧ isAct r0.x = true
  | [], ⟨r, h, _⟩ => by simp at h
  | p :: l, ⟨r, hr, ha⟩ => by
    by_cases hp : isAct p.x = true
    · exact ⟨[], p, l, rfl, fun y hy => by simp at hy, hp⟩
    · have hr' : r ∈ l := by
        rcases List.mem_cons.1 hr with e | h
        · rw [e] at ha; exact absurd ha hp
        · exact h
      obtain ⟨pre, r0, t, e, h1, h2⟩ := first_act l ⟨r, hr', ha⟩
      refine ⟨p :: pre, r0, t, by rw [e]; rfl, fun y hy => ?_, h2⟩
      rcases List.mem_cons.1 hy with e | hy
      · rw [e]; exact hp
      · exact h1 y hy
theorem acts_pre : ∀ {pre : List Rec} {l : List Tk.Item}, (∀ y ∈ pre, isAct y.x ≠ true) → actsOf (itsOf pre ++ l) = actsOf l
  | [], l, _ => rfl
  | p :: pre, l, h => by
    have hp : isAct p.x = false := by have := h p (by simp); simpa using this
    show actsOf (p.x :: (itsOf pre ++ l)) = _
    rw [actsOf]
    simp only [hp]
    exact acts_pre fun y hy => h y (List.mem_cons_of_mem _ hy)
section
variable {call : CallF} {Γ : Cx} {n : Nat} {ops : Array Oper} {its : List Tk.Item} {all : List Rec} {Tz : Tm} {hz : H}
variable {G : Nat} {σ : Nat → Int} {W0 : World} {D : List Deferred}
variable {T0 : Tm} {h0 : H} {ρ0 : Inj} {W1 : World}
variable {recs : List Rec} {snaps : List H} {d : Nat} {T : Tm} {h : H} {listed : Array Bool} {a : Act} {W : World} {ρ : Inj}
/-- an act is done -/
theorem J.act (Rg : Reg ops its) (hall : itsOf all = its) (hU : ∀ p ∈ all, ∀ q ∈ all, p.x.i = q.x.i → p = q) (hW : ∀ p ∈ all, ∀ q ∈ all, q.x.i ≠ p.x.i → ∀ t, p.x.o.dst = some t → q.x.o.dst ≠ some t)
    {pre l : List Rec} {r : Rec} (j : J call Γ n ops its all Tz hz G σ W0 D T0 h0 ρ0 W1 (pre ++ r :: l) snaps d T h listed a W ρ) (hpre : ∀ y ∈ pre, isAct y.x ≠ true) (hact : isAct r.x = true)
    (hun : listed.getD r.x.i true = false) (hmask : ∀ k, r.x.m.testBit k = true → exec listed k) {x : Value} {ρ' : Inj} {W' : World} (hv : VR σ ρ' r.v x) (S : Stp σ W0 ρ r.h W ρ' r.h' W') :
    J call Γ n ops its all Tz hz G σ W0 D T0 h0 ρ0 W1 l (snaps ++ [r.h]) (Nat.lor r.d (2 ^ r.x.i)) r.T' r.h' (listed.setIfInBounds r.x.i true) (a.put r.x.o.dst x) W' ρ' := by
  have hex := exec_set hun
  have hun' := exec_not hun
  obtain ⟨cr, hend, hbits, hlate⟩ := chain_drop hpre hact j.chain
  obtain ⟨h1, h2, h3, h4, h5, h6, h7, h8, h9, h10, h11⟩ := cr
  rw [addSnap_act hact] at h11
  have hmemr : r ∈ pre ++ r :: l := by simp
  have hmeml : ∀ y ∈ l, y ∈ pre ++ r :: l := fun y hy => by simp [hy]
  have hmemp : ∀ y ∈ pre, y ∈ pre ++ r :: l := fun y hy => by simp [hy]
  have hcls : ∀ q ∈ pre ++ r :: l, q.x.c = classOf q.x.o.op := fun q hq => Rg.cls _ (by rw [← hall]; exact List.mem_map.2 ⟨q, j.sub q hq, rfl⟩)
  have hlt : ∀ q ∈ all, q.x.i < ops.size := fun q hq => by
    have := Rg.get q.x (by rw [← hall]; exact List.mem_map.2 ⟨q, hq, rfl⟩)
    exact (Array.getElem?_eq_some_iff.1 this).1
  have hg := grown_end hcls j.chain
  rw [hend] at hg
  obtain ⟨hR, hK⟩ := j.up hU hg
  have hnext : r.h.next = h.next := hg.1
  have hpex : ∀ y ∈ pre, exec listed y.x.i := fun y hy => hmask _ (hlate y hy)
  have hne : ∀ q ∈ l, q.x.i ≠ r.x.i := fun q hq => plan_ne h6 q.x (List.mem_map.2 ⟨q, hq, rfl⟩)
  have hrm : ¬ r.made := fun m => by have := (act_iff _).1 hact; rw [m.1] at this; cases this
  -- a block made ahead of its time is none that the act knows
  have apart : ∀ q ∈ l, q.made → exec listed q.x.i → ∀ L, ρ (q.id h0.next) = some L → ¬ Known ρ r.h L.blk := by
    intro q hq hqm hqe L hL hk
    obtain ⟨ob, L', b1, b2, b3, b4, b5, b6, b7⟩ := j.made q (hmeml q hq) hqm hqe
    rw [hL] at b2; cases b2
    rcases hK _ hk with k | ⟨p, p1, p2, p3, ⟨o, p0⟩, lp, p4, p5⟩
    · exact b7 k
    · refine j.two p p1 q (hmeml q hq) p2 hqm p3 hqe (fun e => ?_) lp L p4 hL p5
      have hpq := hU p (j.sub p p1) q (j.sub q (hmeml q hq)) e
      subst hpq
      have hf := fresh_mem (fresh_cons h5).2 p.x (List.mem_map.2 ⟨p, hq, rfl⟩) p2.1
      rw [show h0.next + p.x.i = p.id h0.next from rfl, p0] at hf
      cases hf
  have hsame : ∀ q ∈ l, q.x.i < ops.size → ρ' (q.id h0.next) = ρ (q.id h0.next) := fun q hq hq2 => S.low _ (by rw [hnext]; have := j.next; simp only [Rec.id]; omega)
  have hact_l : ∀ q ∈ l, exec (listed.setIfInBounds r.x.i true) q.x.i → exec listed q.x.i := fun q hq he => ((hex _).1 he).resolve_right (hne q hq)
  refine ⟨h11, fun q hq => j.sub q (hmeml q hq), ?_, ?_, ?_, ?_, ?_, S.rel, j.glob.mono S.ext, ?_, ?_, ?_, j.ext.trans S.ext, ?_, ?_, Nat.le_trans j.size S.size, ?_, ?_, ?_, ?_, ?_, ?_⟩
  · intro k hk
    rw [bit_lor, bit_pow] at hk
    simp only [Bool.or_eq_true, decide_eq_true_eq] at hk
    rcases hk with hk | hk
    · rcases (hbits k).1 hk with q | ⟨y, hy, rfl⟩
      · exact (hex k).2 (.inl (j.pre k q))
      · exact (hex _).2 (.inl (hpex y hy))
    · exact (hex k).2 (.inr hk.symm)
  · intro q hq
    rw [bit_lor, bit_pow]
    simp only [Bool.or_eq_true, decide_eq_true_eq]
    rcases j.cover q hq with k | k
    · rcases List.mem_append.1 k with k | k
      · exact .inr (.inl ((hbits _).2 (.inr ⟨q, k, rfl⟩)))
      · rcases List.mem_cons.1 k with rfl | k
        · exact .inr (.inr rfl)
        · exact .inl k
    · exact .inr (.inl ((hbits _).2 (.inl k)))
  · intro q hq he k hk
    rcases (hex q.x.i).1 he with he | he
    · exact (hex k).2 (.inl (j.closed q hq he k hk))
    · have := hU q hq r (j.sub r hmemr) he
      subst this
      exact (hex k).2 (.inl (hmask k hk))
  · intro q hq hqa he
    exact j.acts q (hmeml q hq) hqa (hact_l q hq he)
  · obtain ⟨pa, e1, e2⟩ := j.actl
    refine ⟨pa ++ [r.x], ?_, by simp [e2]⟩
    rw [e1, itsOf_append, acts_pre hpre]
    show pa ++ actsOf (r.x :: itsOf l) = _
    rw [actsOf]
    simp [hact]
  · intro q hq hqm he
    have he := hact_l q hq he
    obtain ⟨ob, L, b1, b2, b3, b4, b5, b6, b7⟩ := j.made q (hmeml q hq) hqm he
    have hnk := apart q hq hqm he L b2
    have hLW := j.rel.blk _ L b2
    refine ⟨ob, L, b1, S.ext _ _ b2, b3, ObR.mono S.ext (S.frame _ hLW hnk) b4, b5, b6, fun k => ?_⟩
    rcases S.own _ k with q1 | q1
    · omega
    · exact hnk q1
  · intro q hq hqm he
    rw [hsame q hq (hlt q (j.sub q (hmeml q hq)))]
    exact j.free q (hmeml q hq) hqm (fun e => he ((hex _).2 (.inl e)))
  · intro p hp q hq hpm hqm hpe hqe hne' l1 l2 hl1 hl2
    rw [hsame p hp (hlt p (j.sub p (hmeml p hp)))] at hl1
    rw [hsame q hq (hlt q (j.sub q (hmeml q hq)))] at hl2
    exact j.two p (hmeml p hp) q (hmeml q hq) hpm hqm (hact_l p hp hpe) (hact_l q hq hqe) hne' l1 l2 hl1 hl2
  · intro k hk
    rw [S.low k (by rw [hnext]; have := j.next; omega)]
    exact j.low k hk
  · have := S.next; rw [hnext] at this; exact Nat.le_trans j.next this
  · intro b hb
    rcases S.own b hb with q | q
    · exact .inl (Nat.le_trans j.size q)
    · rcases hK b q with k | ⟨p, p1, p2, p3, p0, lp, p4, p5⟩
      · exact j.own b k
      · obtain ⟨ob, L, b1, b2, b3, b4, b5, b6, b7⟩ := j.made p p1 p2 p3
        rw [p4] at b2; cases b2
        rw [← p5]; exact .inl b6
  · intro b hb hk
    have hnk : ¬ Known ρ r.h b := fun q => by
      rcases hK b q with k | ⟨p, p1, p2, p3, p0, lp, p4, p5⟩
      · rcases j.own b k with q | q
        · omega
        · exact hk q
      · obtain ⟨ob, L, b1, b2, b3, b4, b5, b6, b7⟩ := j.made p p1 p2 p3
        rw [p4] at b2; cases b2
        omega
    rw [S.frame b (Nat.lt_of_lt_of_le hb j.size) hnk]
    exact j.frame b hb hk
  · cases hd : r.x.o.dst with
    | none => exact j.tsize
    | some t => show (a.tmps.setIfInBounds t x).size = n; rw [Array.size_setIfInBounds]; exact j.tsize
  · cases hd : r.x.o.dst with
    | none => exact j.tdef
    | some t => exact j.tdef
  · intro q hq he t ht
    rcases put_eq h10 with ⟨e1, _⟩ | ⟨k, e1, hkn, _⟩
    · have hqr : q.x.i ≠ r.x.i := fun e => by
        have := hU q hq r (j.sub r hmemr) e
        subst this; rw [ht] at e1; cases e1
      rcases (hex _).1 he with he | he
      · rw [e1]; exact VR.mono S.ext _ _ (j.t1 q hq he t ht)
      · exact absurd he hqr
    · rw [e1]
      show VR σ ρ' q.v ((a.tmps.setIfInBounds k x).getD t undef)
      rw [getD_put (by rw [j.tsize]; exact hkn)]
      by_cases hkt : k = t
      · rw [if_pos hkt]
        subst hkt
        by_cases hqr : q.x.i = r.x.i
        · have := hU q hq r (j.sub r hmemr) hqr
          subst this; exact hv
        · exact absurd ht (hW r (j.sub r hmemr) q hq hqr k e1)
      · rw [if_neg hkt]
        rcases (hex _).1 he with he | he
        · exact VR.mono S.ext _ _ (j.t1 q hq he t ht)
        · have := hU q hq r (j.sub r hmemr) he
          subst this
          rw [e1] at ht; cases ht; exact absurd rfl hkt
  · intro t hno
    have hno' : ∀ q ∈ all, exec listed q.x.i → q.x.o.dst ≠ some t := fun q hq he => hno q hq ((hex _).2 (.inl he))
    have hr' := hno r (j.sub r hmemr) ((hex _).2 (.inr rfl))
    have := VR.mono S.ext _ _ (j.t2 t hno')
    rcases put_eq h10 with ⟨e1, _⟩ | ⟨k, e1, hkn, _⟩
    · rw [e1]; exact this
    · rw [e1]
      show VR σ ρ' _ ((a.tmps.setIfInBounds k x).getD t undef)
      rw [getD_put (by rw [j.tsize]; exact hkn), if_neg (fun e => hr' (by rw [e1, e]))]
      exact this
end
end Tk
