/- The evaluator's numbers held against the model's. -/
import Derived.Test.YtphhnhheedbjjaaGreatDoorEvHeap
import Derived.IntWalk
set_option linter.unusedVariables false
namespace Tk
open Go Go.RowKit

theorem ltI_eq (a b : Int) : ltI a b = decide (a < b) := by
  cases a <;> cases b <;> rename_i a b <;> simp only [ltI]
  · cases h : Nat.ble (a + 1) b with
    | true => have := bleN h; symm; rw [decide_eq_true_iff]; show (a : Int) < (b : Int); omega
    | false => have := bleF h; symm; rw [decide_eq_false_iff_not]; show ¬ (a : Int) < (b : Int); omega
  · symm; rw [decide_eq_false_iff_not]; intro h; have := Int.negSucc_lt_zero b; have : (0 : Int) ≤ Int.ofNat a := Int.natCast_nonneg a; omega
  · symm; rw [decide_eq_true_iff]; have := Int.negSucc_lt_zero a; have : (0 : Int) ≤ Int.ofNat b := Int.natCast_nonneg b; omega
  · cases h : Nat.ble (b + 1) a with
    | true => have := bleN h; symm; rw [decide_eq_true_iff, Int.negSucc_eq, Int.negSucc_eq]; omega
    | false => have := bleF h; symm; rw [decide_eq_false_iff_not, Int.negSucc_eq, Int.negSucc_eq]; omega
theorem eqI_eq (a b : Int) : eqI a b = decide (a = b) := by
  cases a <;> cases b <;> rename_i a b <;> simp only [eqI]
  · cases h : Nat.beq a b with
    | true => have := beqN h; subst this; simp
    | false => have := beqF h; symm; rw [decide_eq_false_iff_not]; intro e; exact this (Int.ofNat.inj e)
  · simp
  · simp
  · cases h : Nat.beq a b with
    | true => have := beqN h; subst this; simp
    | false => have := beqF h; symm; rw [decide_eq_false_iff_not]; intro e; exact this (Int.negSucc.inj e)
theorem eqK_eq {a b : IntKind} (h : eqK a b = true) : a = b := by
  cases a <;> cases b <;> first | rfl | (exact absurd h (by decide))
theorem opNo_inj {a b : BinOp} (h : Nat.beq (opNo a) (opNo b) = true) : a = b := by
  cases a <;> cases b <;> first | rfl | (exact absurd h (by decide))
theorem eqB_eq {a b : Bool} (h : eqB a b = true) : a = b := by cases a <;> cases b <;> first | rfl | cases h
theorem eqE_eq : ∀ {a b : E}, eqE a b = true → a = b
  | .lit a, b, h => by
    cases b <;> simp only [eqE] at h <;> first | cases h | (rw [eqI_eq, decide_eq_true_iff] at h; rw [h])
  | .var a, b, h => by
    cases b <;> simp only [eqE] at h <;> first | cases h | rw [beqN h]
  | .add a c, b, h => by
    cases b <;> simp only [eqE] at h <;> first | cases h | (rw [Bool.and_eq_true] at h; rw [eqE_eq h.1, eqE_eq h.2])
  | .sub a c, b, h => by
    cases b <;> simp only [eqE] at h <;> first | cases h | (rw [Bool.and_eq_true] at h; rw [eqE_eq h.1, eqE_eq h.2])
  | .wrap k a, b, h => by
    cases b <;> simp only [eqE] at h <;> first | cases h | (rw [Bool.and_eq_true] at h; rw [eqK_eq h.1, eqE_eq h.2])
  | .bop o k a c, b, h => by
    cases b <;> simp only [eqE] at h <;> first | cases h | (simp only [Bool.and_eq_true] at h; rw [opNo_inj h.1.1.1, eqK_eq h.1.1.2, eqE_eq h.1.2, eqE_eq h.2])
  | .ite q x y a c, b, h => by
    cases b <;> simp only [eqE] at h <;> first | cases h | skip
    rename_i q' x' y' a' c'
    simp only [Bool.and_eq_true] at h
    have hq : q = q' := by
      have := h.1.1.1.1
      cases q <;> cases q' <;> first | rfl | (exact absurd this (by decide))
    rw [hq, eqE_eq h.1.1.1.2, eqE_eq h.1.1.2, eqE_eq h.1.2, eqE_eq h.2]

theorem wrap_range (k : IntKind) (n : Int) : k.min ≤ k.wrap n ∧ k.wrap n ≤ k.max := by
  cases k <;> simp only [IntKind.wrap, IntKind.min, IntKind.max, IntKind.signed, IntKind.bits] <;> simp <;> (try split) <;> omega
theorem wrap_id (k : IntKind) (n : Int) (h : k.min ≤ n) (h' : n ≤ k.max) : k.wrap n = n := by
  cases k <;> simp only [IntKind.wrap, IntKind.min, IntKind.max, IntKind.signed, IntKind.bits] at * <;> simp at * <;> (try split) <;> omega
theorem topK_eq (k : IntKind) : (topK k : Int) = k.max := by cases k <;> decide
theorem min_le (k : IntKind) : k.min ≤ 0 := by cases k <;> decide
theorem wrapI_eq (k : IntKind) (n : Int) : wrapI k n = k.wrap n := by
  cases n with
  | ofNat m =>
    simp only [wrapI]
    cases h : Nat.ble m (topK k) with
    | true =>
      have h1 := bleN h
      have h2 := topK_eq k
      have h3 := min_le k
      rw [wrap_id k _ (by have : (0 : Int) ≤ Int.ofNat m := Int.natCast_nonneg m; omega) (by rw [← h2]; show (m : Int) ≤ _; omega)]
    | false => rfl
  | negSucc m => rfl
theorem addI_eq (a b : Int) : addI a b = a + b := by
  cases a <;> cases b <;> first | rfl | (simp only [addI])

/-- what is said of the unknown numbers is so -/
structure GoodCx (σ : Nat → Int) (Γ : Cx) : Prop where
  rng : ∀ (i : Nat) lo hi, Γ.rng[i]? = some (lo, hi) → lo ≤ σ i ∧ σ i ≤ hi
  facts : ∀ q a b t, (q, a, b, t) ∈ Γ.facts → (match q with | true => decide (a.den σ = b.den σ) | false => decide (a.den σ < b.den σ)) = t

section
variable {σ : Nat → Int} {Γ : Cx}
theorem and_le (k : IntKind) (x c : Int) (h0 : 0 ≤ c) (h1 : c ≤ k.max) : 0 ≤ bopV .and k x c ∧ bopV .and k x c ≤ c := by
  have key : ∀ n : Nat, ((BitVec.ofInt n x &&& BitVec.ofInt n c).toNat : Int) ≤ (c.toNat : Int) := by
    intro n
    rw [BitVec.toNat_and]
    have : (BitVec.ofInt n c).toNat ≤ c.toNat := by
      rw [BitVec.toNat_ofInt]
      have : c % ((2 ^ n : Nat) : Int) ≤ c := by
        have := Int.emod_add_mul_ediv c ((2 ^ n : Nat) : Int)
        have h2 : 0 ≤ c / ((2 ^ n : Nat) : Int) := Int.ediv_nonneg h0 (Int.natCast_nonneg _)
        have h3 : 0 ≤ ((2 ^ n : Nat) : Int) * (c / ((2 ^ n : Nat) : Int)) := Int.mul_nonneg (Int.natCast_nonneg _) h2
        omega
      omega
    have := Nat.and_le_right (n := (BitVec.ofInt n x).toNat) (m := (BitVec.ofInt n c).toNat)
    omega
  have hk := key k.bits
  simp only [bopV]
  have hm := min_le k
  rw [wrap_id k _ (by have := Int.natCast_nonneg (BitVec.ofInt k.bits x &&& BitVec.ofInt k.bits c).toNat; omega) (by omega)]
  exact ⟨Int.natCast_nonneg _, by omega⟩
theorem rem_range (x c : Int) (h0 : 0 ≤ x) (h1 : 0 < c) : 0 ≤ x.tmod c ∧ x.tmod c ≤ c - 1 := by
  have := Int.tmod_nonneg c h0
  have := Int.tmod_lt_of_pos x h1
  omega
theorem shr_range (k : IntKind) (x y : Int) (h0 : 0 ≤ x) : 0 ≤ bopV .shr k x y ∧ bopV .shr k x y ≤ x := by
  simp only [bopV]
  rw [Int.fdiv_eq_ediv_of_nonneg x (Int.pow_nonneg (by omega))]
  exact ⟨Int.ediv_nonneg h0 (Int.pow_nonneg (by omega)), Int.ediv_le_self _ h0⟩
theorem rg_ok (G : GoodCx σ Γ) : ∀ (e : E) (lo hi : Int), e.rg Γ.rng = some (lo, hi) → lo ≤ e.den σ ∧ e.den σ ≤ hi
  | .lit n, lo, hi, h => by simp only [E.rg] at h; cases h; simp [E.den]
  | .var i, lo, hi, h => by simp only [E.rg, nthL_eq] at h; exact G.rng i lo hi h
  | .add a b, lo, hi, h => by
    simp only [E.rg] at h
    split at h
    · rename_i la ha lb hb ea eb
      simp only [Option.some.injEq, Prod.mk.injEq] at h
      obtain ⟨rfl, rfl⟩ := h
      have := rg_ok G a _ _ ea
      have := rg_ok G b _ _ eb
      simp only [E.den]; omega
    · cases h
  | .sub a b, lo, hi, h => by
    simp only [E.rg] at h
    split at h
    · rename_i la ha lb hb ea eb
      simp only [Option.some.injEq, Prod.mk.injEq] at h
      obtain ⟨rfl, rfl⟩ := h
      have := rg_ok G a _ _ ea
      have := rg_ok G b _ _ eb
      simp only [E.den]; omega
    · cases h
  | .wrap k a, lo, hi, h => by
    simp only [E.rg] at h; cases h
    exact wrap_range k _
  | .bop op k a b, lo, hi, h => by
    have hw : ∀ n : Int, k.min ≤ k.wrap n ∧ k.wrap n ≤ k.max := wrap_range k
    cases op <;> simp only [E.rg] at h <;> try (cases h; done)
    case mul => simp only [Option.some.injEq, Prod.mk.injEq] at h; obtain ⟨rfl, rfl⟩ := h; exact hw _
    case quo => simp only [Option.some.injEq, Prod.mk.injEq] at h; obtain ⟨rfl, rfl⟩ := h; exact hw _
    case or => simp only [Option.some.injEq, Prod.mk.injEq] at h; obtain ⟨rfl, rfl⟩ := h; exact hw _
    case xor => simp only [Option.some.injEq, Prod.mk.injEq] at h; obtain ⟨rfl, rfl⟩ := h; exact hw _
    case andNot => simp only [Option.some.injEq, Prod.mk.injEq] at h; obtain ⟨rfl, rfl⟩ := h; exact hw _
    case shl => simp only [Option.some.injEq, Prod.mk.injEq] at h; obtain ⟨rfl, rfl⟩ := h; exact hw _
    case rem =>
      split at h
      · rename_i la hh c ea
        split at h
        · rename_i e1 e2
          simp only [Option.some.injEq, Prod.mk.injEq] at h
          obtain ⟨rfl, rfl⟩ := h
          rw [ltI_eq, decide_eq_false_iff_not] at e1
          rw [ltI_eq, decide_eq_true_iff] at e2
          have := rg_ok G a _ _ ea
          exact rem_range _ _ (by omega) e2
        · cases h
      · cases h
    case and =>
      split at h
      · rename_i c
        split at h
        · rename_i n hn
          simp only [Option.some.injEq, Prod.mk.injEq] at h
          obtain ⟨rfl, rfl⟩ := h
          split at hn
          · rename_i la ha ea
            split at hn
            · rename_i e1
              cases hn
              rw [eqI_eq, decide_eq_true_iff] at e1
              subst e1
              have := rg_ok G a _ _ ea
              have e2 : a.den σ = n := by omega
              simp only [E.den, e2]
              exact ⟨Int.le_refl _, Int.le_refl _⟩
            · cases hn
          · cases hn
        · split at h
          · rename_i e1 e2
            simp only [Option.some.injEq, Prod.mk.injEq] at h
            obtain ⟨rfl, rfl⟩ := h
            rw [ltI_eq, decide_eq_false_iff_not] at e1 e2
            exact and_le k _ c (by omega) (by omega)
          · simp only [Option.some.injEq, Prod.mk.injEq] at h; obtain ⟨rfl, rfl⟩ := h; exact hw _
      · simp only [Option.some.injEq, Prod.mk.injEq] at h; obtain ⟨rfl, rfl⟩ := h; exact hw _
    case shr =>
      split at h
      · rename_i la ha ea
        have ra := rg_ok G a _ _ ea
        split at h
        · rename_i e1
          rw [ltI_eq, decide_eq_false_iff_not] at e1
          have h2 := shr_range k (a.den σ) (b.den σ) (by omega)
          have fin : ∀ {y : Int}, ha ≤ y → 0 ≤ bopV .shr k (a.den σ) (b.den σ) ∧ bopV .shr k (a.den σ) (b.den σ) ≤ y := fun hy => ⟨h2.1, by omega⟩
          split at h
          · rename_i l
            split at h
            · rename_i u
              split at h
              · rename_i s
                split at h
                · rename_i hs
                  have hs := bleN hs
                  simp only [Option.some.injEq, Prod.mk.injEq] at h
                  obtain ⟨rfl, rfl⟩ := h
                  obtain ⟨n, hn⟩ := Int.eq_ofNat_of_zero_le (Int.le_trans (Int.natCast_nonneg l) ra.1)
                  simp only [E.den, hn]
                  rw [hn] at ra
                  have r1 : l ≤ n := Int.ofNat_le.1 ra.1
                  have r2 : n ≤ u := Int.ofNat_le.1 ra.2
                  have e : bopV .shr k (n : Int) (Int.ofNat s) = ((n / 2 ^ s : Nat) : Int) := by
                    simp only [bopV]
                    rw [show (Int.ofNat s).toNat = s from rfl, Nat.min_eq_left hs, Int.fdiv_eq_ediv_of_nonneg _ (Int.pow_nonneg (by omega))]
                    simp
                  rw [e]
                  exact ⟨Int.ofNat_le.2 (Nat.div_le_div_right r1), Int.ofNat_le.2 (Nat.div_le_div_right r2)⟩
                · simp only [Option.some.injEq, Prod.mk.injEq] at h; obtain ⟨rfl, rfl⟩ := h; exact fin (Int.le_refl _)
              · simp only [Option.some.injEq, Prod.mk.injEq] at h; obtain ⟨rfl, rfl⟩ := h; exact fin (Int.le_refl _)
            · simp only [Option.some.injEq, Prod.mk.injEq] at h; obtain ⟨rfl, rfl⟩ := h; exact fin (Int.le_refl _)
          · cases h
        · cases h
      · cases h
  | .ite q x y a b, lo, hi, h => by
    simp only [E.rg] at h
    split at h
    · rename_i la ha lb hb ea eb
      simp only [Option.some.injEq, Prod.mk.injEq] at h
      have h1 := rg_ok G a _ _ ea
      have h2 := rg_ok G b _ _ eb
      have h3 : lo ≤ la ∧ lo ≤ lb := by
        have := h.1
        split at this
        · rename_i e; rw [ltI_eq, decide_eq_true_iff] at e; omega
        · rename_i e; rw [ltI_eq, decide_eq_false_iff_not] at e; omega
      have h4 : ha ≤ hi ∧ hb ≤ hi := by
        have := h.2
        split at this
        · rename_i e; rw [ltI_eq, decide_eq_true_iff] at e; omega
        · rename_i e; rw [ltI_eq, decide_eq_false_iff_not] at e; omega
      simp only [E.den]
      split <;> omega
    · cases h

theorem lookFact_ok : ∀ (fs : List (Bool × E × E × Bool)), (∀ q a b t, (q, a, b, t) ∈ fs → (match q with | true => decide (a.den σ = b.den σ) | false => decide (a.den σ < b.den σ)) = t) →
    ∀ q a b t, lookFact fs q a b = some t → (match q with | true => decide (a.den σ = b.den σ) | false => decide (a.den σ < b.den σ)) = t
  | [], _, q, a, b, t, h => by simp only [lookFact] at h; cases h
  | (q', a', b', t') :: fs, hf, q, a, b, t, h => by
    simp only [lookFact] at h
    split at h
    · rename_i e
      cases h
      simp only [Bool.and_eq_true] at e
      obtain rfl := eqB_eq e.1.1
      obtain rfl := eqE_eq e.1.2
      obtain rfl := eqE_eq e.2
      exact hf _ _ _ _ (by simp)
    · exact lookFact_ok fs (fun q a b t hm => hf q a b t (by simp [hm])) q a b t h
theorem maxO_le {a l : Nat} {r : Option Nat} {x : Int} (h : maxO a r = some l) (ha : (a : Int) ≤ x) (hr : ∀ r0, r = some r0 → (r0 : Int) ≤ x) : (l : Int) ≤ x := by
  cases r with
  | none => simp only [maxO] at h; cases h; exact ha
  | some b =>
    simp only [maxO] at h
    split at h <;> cases h
    · exact hr _ rfl
    · exact ha
theorem minO_ge {a l : Nat} {r : Option Nat} {x : Int} (h : minO a r = some l) (ha : x ≤ (a : Int)) (hr : ∀ r0, r = some r0 → x ≤ (r0 : Int)) : x ≤ (l : Int) := by
  cases r with
  | none => simp only [minO] at h; cases h; exact ha
  | some b =>
    simp only [minO] at h
    split at h <;> cases h
    · exact ha
    · exact hr _ rfl
theorem lowF_ok {a : E} : ∀ (fs : List (Bool × E × E × Bool)), (∀ q a b t, (q, a, b, t) ∈ fs → (match q with | true => decide (a.den σ = b.den σ) | false => decide (a.den σ < b.den σ)) = t) →
    ∀ (r : Option Nat) (l : Nat), lowF a fs r = some l → (∀ r0, r = some r0 → (r0 : Int) ≤ a.den σ) → (l : Int) ≤ a.den σ
  | [], _, r, l, h, hr => by simp only [lowF] at h; exact hr l h
  | (q, x, y, t) :: fs, hf, r, l, h, hr => by
    have ih := lowF_ok (a := a) fs (fun q a b t hm => hf q a b t (List.mem_cons_of_mem _ hm))
    have h0 := hf q x y t (List.mem_cons_self ..)
    unfold lowF at h
    split at h
    · exact ih r l h hr
    · split at h
      · split at h
        · rename_i c
          split at h
          · rename_i e
            have e := eqE_eq e
            subst e
            have h0 : decide ((c : Int) < y.den σ) = true := h0
            rw [decide_eq_true_iff] at h0
            exact ih _ l h fun r0 e0 => maxO_le e0 (by omega) hr
          · exact ih r l h hr
        · exact ih r l h hr
      · split at h
        · rename_i c
          split at h
          · rename_i e
            have e := eqE_eq e
            subst e
            have h0 : decide (x.den σ < (c : Int)) = false := h0
            rw [decide_eq_false_iff_not] at h0
            exact ih _ l h fun r0 e0 => maxO_le e0 (by omega) hr
          · exact ih r l h hr
        · exact ih r l h hr
theorem highF_ok {a : E} : ∀ (fs : List (Bool × E × E × Bool)), (∀ q a b t, (q, a, b, t) ∈ fs → (match q with | true => decide (a.den σ = b.den σ) | false => decide (a.den σ < b.den σ)) = t) →
    ∀ (r : Option Nat) (l : Nat), highF a fs r = some l → (∀ r0, r = some r0 → a.den σ ≤ (r0 : Int)) → a.den σ ≤ (l : Int)
  | [], _, r, l, h, hr => by simp only [highF] at h; exact hr l h
  | (q, x, y, t) :: fs, hf, r, l, h, hr => by
    have ih := highF_ok (a := a) fs (fun q a b t hm => hf q a b t (List.mem_cons_of_mem _ hm))
    have h0 := hf q x y t (List.mem_cons_self ..)
    unfold highF at h
    split at h
    · exact ih r l h hr
    · split at h
      · split at h
        · rename_i c
          split at h
          · rename_i e
            have e := eqE_eq e
            subst e
            have h0 : decide (x.den σ < ((c + 1 : Nat) : Int)) = true := h0
            rw [decide_eq_true_iff] at h0
            exact ih _ l h fun r0 e0 => minO_ge e0 (by omega) hr
          · exact ih r l h hr
        · exact ih r l h hr
      · split at h
        · rename_i c
          split at h
          · rename_i e
            have e := eqE_eq e
            subst e
            have h0 : decide ((c : Int) < y.den σ) = false := h0
            rw [decide_eq_false_iff_not] at h0
            exact ih _ l h fun r0 e0 => minO_ge e0 (by omega) hr
          · exact ih r l h hr
        · exact ih r l h hr
theorem bndE_ok {Γ : Cx} (G : GoodCx σ Γ) {a : E} {l u : Nat} (h : bndE Γ a = some (l, u)) : (l : Int) ≤ a.den σ ∧ a.den σ ≤ (u : Int) := by
  have fin : ∀ {l0 u0 : Option Nat}, (match lowF a Γ.facts l0, highF a Γ.facts u0 with | some l, some u => some (l, u) | _, _ => none) = some (l, u) →
      (∀ r0, l0 = some r0 → (r0 : Int) ≤ a.den σ) → (∀ r0, u0 = some r0 → a.den σ ≤ (r0 : Int)) → (l : Int) ≤ a.den σ ∧ a.den σ ≤ (u : Int) := by
    intro l0 u0 e h1 h2
    split at e
    · rename_i l' u' e1 e2
      cases e
      exact ⟨lowF_ok Γ.facts G.facts _ _ e1 h1, highF_ok Γ.facts G.facts _ _ e2 h2⟩
    · cases e
  unfold bndE at h
  split at h
  rename_i l0 u0 hm
  refine fin h ?_ ?_
  · intro r0 e
    subst e
    split at hm
    · rename_i l1 u1 hrg
      cases hm
      exact (rg_ok G a _ _ hrg).1
    · cases hm
    · cases hm
  · intro r0 e
    subst e
    split at hm
    · rename_i l1 u1 hrg
      cases hm
      exact (rg_ok G a _ _ hrg).2
    · rename_i l1 u1 hrg
      cases hm
      exact (rg_ok G a _ _ hrg).2
    · cases hm
theorem ltB_ok (G : GoodCx σ Γ) (a b : E) (t : Bool) (h : ltB Γ a b = some t) : decide (a.den σ < b.den σ) = t := by
  unfold ltB at h
  split at h
  · rename_i la ua lb ub ea eb
    obtain ⟨a1, a2⟩ := bndE_ok G ea
    obtain ⟨b1, b2⟩ := bndE_ok G eb
    split at h
    · rename_i e; cases h
      have := bleN e
      rw [decide_eq_true_iff]; omega
    · split at h
      · rename_i e; cases h
        have := bleN e
        rw [decide_eq_false_iff_not]; omega
      · cases h
  · cases h
theorem eqB2_ok (G : GoodCx σ Γ) (a b : E) (t : Bool) (h : eqB2 Γ a b = some t) : decide (a.den σ = b.den σ) = t := by
  unfold eqB2 at h
  split at h
  · rename_i la ua lb ub ea eb
    obtain ⟨a1, a2⟩ := bndE_ok G ea
    obtain ⟨b1, b2⟩ := bndE_ok G eb
    split at h
    · rename_i e; cases h
      have := bleN e
      rw [decide_eq_false_iff_not]; omega
    · split at h
      · rename_i e; cases h
        have := bleN e
        rw [decide_eq_false_iff_not]; omega
      · split at h
        · rename_i e; cases h
          simp only [Bool.and_eq_true] at e
          have e1 := beqN e.1.1
          have e2 := beqN e.1.2
          have e3 := beqN e.2
          rw [decide_eq_true_iff]; omega
        · cases h
  · cases h
theorem ltS_ok (G : GoodCx σ Γ) (a b : E) (t : Bool) (h : ltS Γ a b = some t) : decide (a.den σ < b.den σ) = t := by
  unfold ltS at h
  split at h
  · rename_i e
    cases h
    exact lookFact_ok Γ.facts G.facts false a b _ e
  · split at h
    · rename_i la ha lb hb ea eb
      have ra := rg_ok G a _ _ ea
      have rb := rg_ok G b _ _ eb
      split at h
      · rename_i e; cases h
        rw [ltI_eq, decide_eq_true_iff] at e
        rw [decide_eq_true_iff]; omega
      · split at h
        · rename_i e; cases h
          rw [ltI_eq, decide_eq_false_iff_not] at e
          rw [decide_eq_false_iff_not]; omega
        · exact ltB_ok G a b t h
    · exact ltB_ok G a b t h
theorem ltE_ok (G : GoodCx σ Γ) (a b : E) (t : Bool) (h : ltE Γ a b = some t) : decide (a.den σ < b.den σ) = t := by
  unfold ltE at h
  split at h
  · simp only [Option.some.injEq] at h
    rw [← h, ltI_eq]; rfl
  · exact ltS_ok G _ _ t h
theorem eqS_ok (G : GoodCx σ Γ) (a b : E) (t : Bool) (h : eqS Γ a b = some t) : decide (a.den σ = b.den σ) = t := by
  unfold eqS at h
  split at h
  · rename_i e; cases h; rw [eqE_eq e]; simp
  · split at h
    · rename_i e
      cases h
      split at e
      · rename_i e1
        cases e
        exact lookFact_ok Γ.facts G.facts true a b _ e1
      · have := lookFact_ok Γ.facts G.facts true b a _ e
        rw [← this]
        exact decide_eq_decide.2 eq_comm
    · split at h
      · rename_i la ha lb hb ea eb
        have ra := rg_ok G a _ _ ea
        have rb := rg_ok G b _ _ eb
        split at h
        · rename_i e; cases h
          rw [ltI_eq, decide_eq_true_iff] at e
          rw [decide_eq_false_iff_not]; omega
        · split at h
          · rename_i e; cases h
            rw [ltI_eq, decide_eq_true_iff] at e
            rw [decide_eq_false_iff_not]; omega
          · split at h
            · rename_i e; cases h
              simp only [Bool.and_eq_true, eqI_eq, decide_eq_true_eq] at e
              rw [decide_eq_true_iff]; omega
            · exact eqB2_ok G a b t h
      · exact eqB2_ok G a b t h
theorem isE_ok (G : GoodCx σ Γ) (a b : E) (t : Bool) (h : isE Γ a b = some t) : decide (a.den σ = b.den σ) = t := by
  unfold isE at h
  split at h
  · simp only [Option.some.injEq] at h
    rw [← h, eqI_eq]; rfl
  · have := eqS_ok G _ _ t h
    rw [← this]
    exact decide_eq_decide.2 eq_comm
  · exact eqS_ok G _ _ t h
theorem wrapE_den (G : GoodCx σ Γ) (k : IntKind) (e : E) : (wrapE Γ k e).den σ = k.wrap (e.den σ) := by
  unfold wrapE
  split
  · simp [E.den, wrapI_eq]
  · unfold wrapS
    split
    · rename_i l h e1
      split
      · rename_i e2 e3
        rw [ltI_eq, decide_eq_false_iff_not] at e2 e3
        have := rg_ok G _ _ _ e1
        rw [wrap_id k _ (by omega) (by omega)]
      · rfl
    · rfl
theorem addE_den (a b : E) : (addE a b).den σ = a.den σ + b.den σ := by
  unfold addE
  split
  · simp [E.den, addI_eq]
  · unfold addS
    split <;> simp only [E.den] <;> omega
theorem subE_den (a b : E) : (subE a b).den σ = a.den σ - b.den σ := by
  unfold subE
  split
  · simp [E.den]
  · unfold subS
    split <;> simp only [E.den] <;> omega
theorem pinS_den (G : GoodCx σ Γ) (e : E) : (pinS Γ e).den σ = e.den σ := by
  unfold pinS
  split
  · rename_i l h e1
    split
    · rename_i e2
      simp only [eqI_eq, decide_eq_true_eq] at e2
      have := rg_ok G _ _ _ e1
      simp only [E.den]
      omega
    · rfl
  · rfl
theorem pinE_den (G : GoodCx σ Γ) (e : E) : (pinE Γ e).den σ = e.den σ := by
  unfold pinE
  split
  · rfl
  · exact pinS_den G _
theorem wrap_emod (k : IntKind) (m : Int) : k.wrap m % (2 ^ k.bits : Nat) = m % (2 ^ k.bits : Nat) := by
  cases k <;> simp [IntKind.wrap, IntKind.bits, IntKind.signed] <;> (try split) <;> omega
theorem ofInt_wrap (k : IntKind) (n : BitVec k.bits) : BitVec.ofInt k.bits (k.wrap (n.toNat : Int)) = n := by
  apply BitVec.eq_of_toNat_eq
  rw [BitVec.toNat_ofInt, wrap_emod]
  have h : n.toNat < 2 ^ k.bits := n.isLt
  have : ((n.toNat : Int) % ((2 ^ k.bits : Nat) : Int)) = ((n.toNat % 2 ^ k.bits : Nat) : Int) := (Int.natCast_emod _ _).symm
  rw [this, Int.toNat_natCast, Nat.mod_eq_of_lt h]
theorem or_or (k : IntKind) (x p q : Int) : bopV .or k (bopV .or k x p) q = bopV .or k x (bopV .or k p q) := by
  simp only [bopV]
  rw [ofInt_wrap, ofInt_wrap, BitVec.or_assoc]
theorem bopS_den (op : BinOp) (k : IntKind) (a b : E) : (bopS op k a b).den σ = bopV op k (a.den σ) (b.den σ) := by
  unfold bopS
  split
  · split
    · split
      · rename_i e
        have e := eqK_eq e
        subst e
        simp only [E.den]
        exact (or_or _ _ _ _).symm
      · rfl
    · rfl
  · rfl
theorem bopE_den (op : BinOp) (k : IntKind) (a b : E) : (bopE op k a b).den σ = bopV op k (a.den σ) (b.den σ) := by
  unfold bopE; split
  · simp [E.den]
  · exact bopS_den _ _ _ _

theorem litOf_mem {e : E} {n : Int} : ∀ {fs : List (Bool × E × E × Bool)}, litOf e fs = some n → ∃ c, eqE c e = true ∧ (true, c, E.lit n, true) ∈ fs
  | [], h => by cases h
  | (q, a, b, t) :: fs, h => by
    simp only [litOf] at h
    split at h
    · split at h
      · rename_i m _ hq
        simp only [Bool.and_eq_true] at hq
        have h := Option.some.inj h
        subst h
        obtain ⟨⟨h1, h2⟩, h3⟩ := hq
        subst h1 h2
        exact ⟨a, h3, List.mem_cons_self⟩
      · obtain ⟨c, h1, h2⟩ := litOf_mem h
        exact ⟨c, h1, List.mem_cons_of_mem _ h2⟩
    · obtain ⟨c, h1, h2⟩ := litOf_mem h
      exact ⟨c, h1, List.mem_cons_of_mem _ h2⟩
theorem fixE_den (G : GoodCx σ Γ) (e : E) : (fixE Γ e).den σ = e.den σ := by
  unfold fixE
  split
  · rfl
  · split
    · rename_i n h
      obtain ⟨a, h1, h2⟩ := litOf_mem h
      have := G.2 _ _ _ _ h2
      simp only [decide_eq_true_eq] at this
      rw [eqE_eq h1] at this
      exact this.symm
    · exact pinS_den G _
theorem beq_dec (x y : Int) : (x == y) = decide (x = y) := by rw [Bool.eq_iff_iff]; simp
theorem le_dec (x y : Int) : decide (x ≤ y) = !decide (y < x) := by
  rw [Bool.eq_iff_iff]; simp
theorem vbool_ok {b : Option Bool} {v : V} (h : vbool b = some v) : ∃ t, b = some t ∧ v = .bool t := by
  cases b with
  | none => cases h
  | some t => exact ⟨t, rfl, (Option.some.inj h).symm⟩
theorem vnot_ok {b : Option Bool} {v : V} (h : vnot b = some v) : ∃ t, b = some t ∧ v = .bool !t := by
  cases b with
  | none => cases h
  | some t => cases t <;> exact ⟨_, rfl, (Option.some.inj h).symm⟩

variable {P : Program} {ρ : Inj}
/-- two numbers of a kind -/
theorem or_add (k : IntKind) (l x j : Nat) (h1 : l % 2 ^ j = 0) (h2 : x < 2 ^ j) (h3 : ((l + x : Nat) : Int) ≤ k.max) : bopV .or k (l : Int) (x : Int) = ((l + x : Nat) : Int) := by
  have hb : k.max < 2 ^ k.bits := by cases k <;> decide
  have hlt : l + x < 2 ^ k.bits := by
    have : ((l + x : Nat) : Int) < ((2 ^ k.bits : Nat) : Int) := by
      rw [Int.natCast_pow]; exact Int.lt_of_le_of_lt h3 hb
    exact Int.ofNat_lt.1 this
  have e1 : (BitVec.ofInt k.bits (l : Int)).toNat = l := by rw [BitVec.toNat_ofInt]; rw [← Int.natCast_emod, Int.toNat_natCast]; exact Nat.mod_eq_of_lt (by omega)
  have e2 : (BitVec.ofInt k.bits (x : Int)).toNat = x := by rw [BitVec.toNat_ofInt]; rw [← Int.natCast_emod, Int.toNat_natCast]; exact Nat.mod_eq_of_lt (by omega)
  simp only [bopV]
  rw [BitVec.toNat_or, e1, e2]
  have e3 : l ||| x = l + x := by
    obtain ⟨q, rfl⟩ := Nat.dvd_of_mod_eq_zero h1
    have := Nat.shiftLeft_add_eq_or_of_lt h2 q
    rw [Nat.shiftLeft_eq, Nat.mul_comm] at this
    exact this.symm
  rw [e3]
  exact wrap_id k _ (by have := min_le k; have : (0 : Int) ≤ ((l + x : Nat) : Int) := Int.natCast_nonneg _; omega) h3
theorem and_ones (k : IntKind) (y c : Nat) (hc : 2 ^ (Nat.log2 c + 1) = c + 1) (h2 : ((c : Nat) : Int) ≤ k.max) (h3 : ((y : Nat) : Int) ≤ k.max) : bopV .and k (y : Int) (c : Int) = ((y % (c + 1) : Nat) : Int) := by
  have hb : k.max < 2 ^ k.bits := by cases k <;> decide
  have lt : ∀ z : Nat, ((z : Nat) : Int) ≤ k.max → z < 2 ^ k.bits := fun z hz => by
    have : ((z : Nat) : Int) < ((2 ^ k.bits : Nat) : Int) := by
      rw [Int.natCast_pow]; exact Int.lt_of_le_of_lt hz hb
    exact Int.ofNat_lt.1 this
  have e1 : (BitVec.ofInt k.bits (y : Int)).toNat = y := by rw [BitVec.toNat_ofInt]; rw [← Int.natCast_emod, Int.toNat_natCast]; exact Nat.mod_eq_of_lt (lt y h3)
  have e2 : (BitVec.ofInt k.bits (c : Int)).toNat = c := by rw [BitVec.toNat_ofInt]; rw [← Int.natCast_emod, Int.toNat_natCast]; exact Nat.mod_eq_of_lt (lt c h2)
  simp only [bopV]
  rw [BitVec.toNat_and, e1, e2]
  have e3 : y &&& c = y % (c + 1) := by
    have := Nat.and_two_pow_sub_one_eq_mod y (Nat.log2 c + 1)
    rw [hc] at this
    simpa using this
  rw [e3]
  have hm : y % (c + 1) ≤ c := by have := Nat.mod_lt y (show 0 < c + 1 by omega); omega
  exact wrap_id k _ (by have := min_le k; have : (0 : Int) ≤ ((y % (c + 1) : Nat) : Int) := Int.natCast_nonneg _; omega) (by have : ((y % (c + 1) : Nat) : Int) ≤ ((c : Nat) : Int) := Int.ofNat_le.2 hm; omega)
theorem lt_log2 (u : Nat) : u < 2 ^ (Nat.log2 u + 1) := Nat.lt_log2_self
theorem orE_den (G : GoodCx σ Γ) (k : IntKind) (a b : E) : (orE Γ k a b).den σ = bopV .or k (a.den σ) (b.den σ) := by
  unfold orE
  split
  · rename_i l
    split
    · rw [bopE_den]
    · split
      · rename_i lo u hb
        split
        · rename_i hc
          simp only [Bool.and_eq_true] at hc
          obtain ⟨b1, b2⟩ := bndE_ok G hb
          obtain ⟨n, hn⟩ := Int.eq_ofNat_of_zero_le (Int.le_trans (Int.natCast_nonneg lo) b1)
          rw [hn] at b2
          have b2 := Int.ofNat_le.1 b2
          have h1 := beqN hc.1
          have h2 := bleN hc.2
          have h3 := topK_eq k
          simp only [E.den, hn]
          rw [show (Int.ofNat l : Int) = (l : Int) from rfl, or_add k l n _ h1 (Nat.lt_of_le_of_lt b2 (lt_log2 u)) (by rw [← h3]; exact Int.ofNat_le.2 (by omega))]
          simp
        · rw [bopE_den]
      · rw [bopE_den]
  · rw [bopE_den]
theorem belowP_ok (G : GoodCx σ Γ) {x : E} {c : Nat} (h : belowP Γ x c = true) : ∃ n : Nat, x.den σ = (n : Int) ∧ n ≤ c := by
  unfold belowP at h
  split at h
  · rename_i lo u hb
    obtain ⟨b1, b2⟩ := bndE_ok G hb
    obtain ⟨n, hn⟩ := Int.eq_ofNat_of_zero_le (Int.le_trans (Int.natCast_nonneg lo) b1)
    rw [hn] at b2
    have b2 := Int.ofNat_le.1 b2
    exact ⟨n, hn, Nat.le_trans b2 (bleN h)⟩
  · cases h
theorem andE_den (G : GoodCx σ Γ) (k : IntKind) (a b : E) : (andE Γ k a b).den σ = bopV .and k (a.den σ) (b.den σ) := by
  unfold andE
  split
  · rename_i c
    split
    · rw [bopE_den]
    · rename_i hc
      simp only [Bool.and_eq_true] at hc
      have c1 := beqN hc.1
      have c2 : ((c : Nat) : Int) ≤ k.max := by rw [← topK_eq k]; exact Int.ofNat_le.2 (bleN hc.2)
      split
      · rw [bopE_den]
      · rename_i l x
        split
        · rename_i hx
          simp only [Bool.and_eq_true] at hx
          obtain ⟨n, hn, hle⟩ := belowP_ok G hx.1.1
          have h1 := beqN hx.1.2
          have h2 := bleN hx.2
          simp only [E.den, hn]
          rw [show ((Int.ofNat l : Int) + (n : Int)) = ((l + n : Nat) : Int) by simp, show (Int.ofNat c : Int) = (c : Int) from rfl, and_ones k (l + n) c c1 c2 (by rw [← topK_eq k]; exact Int.ofNat_le.2 (by omega))]
          congr 1
          rw [Nat.add_mod, h1, Nat.zero_add, Nat.mod_mod, Nat.mod_eq_of_lt (by omega)]
        · rw [bopE_den]
      · split
        · rename_i hx
          obtain ⟨n, hn, hle⟩ := belowP_ok G hx
          simp only [E.den, hn]
          rw [show (Int.ofNat c : Int) = (c : Int) from rfl, and_ones k n c c1 c2 (Int.le_trans (Int.ofNat_le.2 hle) c2), Nat.mod_eq_of_lt (by omega)]
        · rw [bopE_den]
  · rw [bopE_den]
theorem bopG_den (G : GoodCx σ Γ) (op : BinOp) (k : IntKind) (a b : E) : (bopG Γ op k a b).den σ = bopV op k (a.den σ) (b.den σ) := by
  unfold bopG
  split
  · exact andE_den G k a b
  · exact orE_den G k a b
  · exact bopE_den _ _ _ _
theorem binInt_ok (G : GoodCx σ Γ) (op : BinOp) (t : TypeId) (k : IntKind) (a b : E) (v : V) (w : World) (hs : isShift op = false) (h : binInt op Γ k a b = some v) :
    ∃ v', (binOp op t (.int k (a.den σ)) (.int k (b.den σ))).run P w = .ok v' w ∧ VR σ ρ v v' := by
  have hdiv : ∀ {op : BinOp} {v : V}, divInt Γ op k a b = some v → b.den σ ≠ 0 ∧ v = .int k (fixE Γ (bopE op k a b)) := by
    intro op v h
    unfold divInt at h
    split at h
    · rename_i e
      have := isE_ok G _ _ _ e
      rw [decide_eq_false_iff_not] at this
      exact ⟨by simpa [E.den] using this, (Option.some.inj h).symm⟩
    · cases h
  cases op <;> simp only [binInt] at h <;> try (cases hs; done)
  case add => cases h; exact ⟨_, by simp [binOp, Op.intArith]; rfl, by simp [VR, wrapE_den G, addE_den, pinE_den G]⟩
  case sub => cases h; exact ⟨_, by simp [binOp, Op.intArith]; rfl, by simp [VR, wrapE_den G, subE_den, pinE_den G]⟩
  case mul => cases h; exact ⟨_, by simp [binOp, Op.intArith]; rfl, by simp [VR, bopE_den, bopV]⟩
  case quo =>
    obtain ⟨h0, rfl⟩ := hdiv h
    exact ⟨_, by simp [binOp, Op.intDiv, h0]; rfl, by simp [VR, fixE_den G, bopE_den, bopV]⟩
  case rem =>
    obtain ⟨h0, rfl⟩ := hdiv h
    exact ⟨_, by simp [binOp, Op.intDiv, h0]; rfl, by simp [VR, fixE_den G, bopE_den, bopV]⟩
  case and => cases h; exact ⟨_, by simp [binOp, Op.intBits]; rfl, by simp [VR, fixE_den G, andE_den G, bopV]⟩
  case or => cases h; exact ⟨_, by simp [binOp, Op.intBits]; rfl, by simp [VR, orE_den G, bopV]⟩
  case xor => cases h; exact ⟨_, by simp [binOp, Op.intBits]; rfl, by simp [VR, bopE_den, bopV]⟩
  case andNot => cases h; exact ⟨_, by simp [binOp, Op.intBits]; rfl, by simp [VR, bopE_den, bopV]⟩
  case eql =>
    obtain ⟨t, e, rfl⟩ := vbool_ok h
    have := isE_ok G _ _ _ e
    exact ⟨_, by simp [binOp, Op.intCmp]; rfl, by simp [VR, ← this, beq_dec]⟩
  case neq =>
    obtain ⟨t, e, rfl⟩ := vnot_ok h
    have := isE_ok G _ _ _ e
    exact ⟨_, by simp [binOp, Op.intCmp]; rfl, by simp [VR, ← this, bne, beq_dec]⟩
  case lss =>
    obtain ⟨t, e, rfl⟩ := vbool_ok h
    have := ltE_ok G _ _ _ e
    exact ⟨_, by simp [binOp, Op.intCmp]; rfl, by simp [VR, ← this]⟩
  case gtr =>
    obtain ⟨t, e, rfl⟩ := vbool_ok h
    have := ltE_ok G _ _ _ e
    exact ⟨_, by simp [binOp, Op.intCmp]; rfl, by simp [VR, ← this]⟩
  case leq =>
    obtain ⟨t, e, rfl⟩ := vnot_ok h
    have := ltE_ok G _ _ _ e
    exact ⟨_, by simp [binOp, Op.intCmp]; rfl, by simp [VR, ← this, le_dec]⟩
  case geq =>
    obtain ⟨t, e, rfl⟩ := vnot_ok h
    have := ltE_ok G _ _ _ e
    exact ⟨_, by simp [binOp, Op.intCmp]; rfl, by simp [VR, ← this, le_dec]⟩
theorem shiftInt_ok (G : GoodCx σ Γ) (op : BinOp) (t : TypeId) (k k' : IntKind) (a b : E) (v : V) (w : World) (hs : isShift op = true) (h : shiftInt Γ op k a b = some v) :
    ∃ v', (binOp op t (.int k (a.den σ)) (.int k' (b.den σ))).run P w = .ok v' w ∧ VR σ ρ v v' := by
  unfold shiftInt at h
  split at h
  · rename_i e
    have := ltE_ok G _ _ _ e
    rw [decide_eq_false_iff_not] at this
    simp only [E.den] at this
    cases h
    cases op <;> try (cases hs; done)
    case shl => exact ⟨_, by simp [binOp, Op.shift, this]; rfl, by simp [VR, fixE_den G, bopE_den, bopV]⟩
    case shr => exact ⟨_, by simp [binOp, Op.shift, this]; rfl, by simp [VR, fixE_den G, bopE_den, bopV]⟩
  · cases h
end
end Tk
