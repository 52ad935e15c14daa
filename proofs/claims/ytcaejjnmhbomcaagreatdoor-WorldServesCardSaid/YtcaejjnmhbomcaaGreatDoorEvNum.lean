/- The evaluator's numbers held against the model's. -/
import Derived.Test.YtcaejjnmhbomcaaGreatDoorEvHeap
import Derived.IntWalk
set_option linter.unusedVariables false
namespace Tk
open Go Go.RowKit

theorem ltI_eq (a b : Int) : ltI a b = decide (a < b) := by
  cases a <;> cases b <;> rename_i a b <;> simp only [ltI]
  · cases h : Nat.ble (a + 1) b with
    | true => have := bleN h; symm; rw [decide_eq_true_iff]; show (a : Int) < (b : Int); omega
    | false => have := bleF h; symm; rw [decide_eq_false_iff_not]; show ¬ (a : Int) < (b : Int); omega
  · symm; rw [decide_eq_false_iff_not]; intro h; have := Int.negSucc_lt_zero b; have : (0 : Int) ≤ Int.ofNat a := Int.natCast_nonneg a; omega
  · symm; rw [decide_eq_true_iff]; have := Int.negSucc_lt_zero a; have : (0 : Int) ≤ Int.ofNat b := Int.natCast_nonneg b; omega
  · cases h : Nat.ble (b + 1) a with
    | true => have := bleN h; symm; rw [decide_eq_true_iff, Int.negSucc_eq, Int.negSucc_eq]; omega
    | false => have := bleF h; symm; rw [decide_eq_false_iff_not, Int.negSucc_eq, Int.negSucc_eq]; omega
theorem eqI_eq (a b : Int) : eqI a b = decide (a = b) := by
  cases a <;> cases b <;> rename_i a b <;> simp only [eqI]
  · cases h : Nat.beq a b with
    | true => have := beqN h; subst this; simp
    | false => have := beqF h; symm; rw [decide_eq_false_iff_not]; intro e; exact this (Int.ofNat.inj e)
  · simp
  · simp
  · cases h : Nat.beq a b with
    | true => have := beqN h; subst this; simp
    | false => have := beqF h; symm; rw [decide_eq_false_iff_not]; intro e; exact this (Int.negSucc.inj e)
theorem eqK_eq {a b : IntKind} (h : eqK a b = true) : a = b := by
  cases a <;> cases b <;> first | rfl | (exact absurd h (by decide))
theorem opNo_inj {a b : BinOp} (h : Nat.beq (opNo a) (opNo b) = true) : a = b := by
  cases a <;> cases b <;> first | rfl | (exact absurd h (by decide))
theorem eqB_eq {a b : Bool} (h : eqB a b = true) : a = b := by cases a <;> cases b <;> first | rfl | cases h
theorem eqE_eq : ∀ {a b : E}, eqE a b = true → a = b
  | .lit a, b, h => by
    cases b <;> simp only [eqE] at h <;> first | cases h | (rw [eqI_eq, decide_eq_true_iff] at h; rw [h])
  | .var a, b, h => by
    cases b <;> simp only [eqE] at h <;> first | cases h | rw [beqN h]
  | .add a c, b, h => by
    cases b <;> simp only [eqE] at h <;> first | cases h | (rw [Bool.and_eq_true] at h; rw [eqE_eq h.1, eqE_eq h.2])
  | .sub a c, b, h => by
    cases b <;> simp only [eqE] at h <;> first | cases h | (rw [Bool.and_eq_true] at h; rw [eqE_eq h.1, eqE_eq h.2])
  | .wrap k a, b, h => by
    cases b <;> simp only [eqE] at h <;> first | cases h | (rw [Bool.and_eq_true] at h; rw [eqK_eq h.1, eqE_eq h.2])
  | .bop o k a c, b, h => by
    cases b <;> simp only [eqE] at h <;> first | cases h | (simp only [Bool.and_eq_true] at h; rw [opNo_inj h.1.1.1, eqK_eq h.1.1.2, eqE_eq h.1.2, eqE_eq h.2])
  | .ite q x y a c, b, h => by
    cases b <;> simp only [eqE] at h <;> first | cases h | skip
    rename_i q' x' y' a' c'
    simp only [Bool.and_eq_true] at h
    have hq : q = q' := by
      have := h.1.1.1.1
      cases q <;> cases q' <;> first | rfl | (exact absurd this (by decide))
    rw [hq, eqE_eq h.1.1.1.2, eqE_eq h.1.1.2, eqE_eq h.1.2, eqE_eq h.2]

theorem wrap_range (k : IntKind) (n : Int) : k.min ≤ k.wrap n ∧ k.wrap n ≤ k.max := by
  cases k <;> simp only [IntKind.wrap, IntKind.min, IntKind.max, IntKind.signed, IntKind.bits] <;> simp <;> (try split) <;> omega
theorem wrap_id (k : IntKind) (n : Int) (h : k.min ≤ n) (h' : n ≤ k.max) : k.wrap n = n := by
  cases k <;> simp only [IntKind.wrap, IntKind.min, IntKind.max, IntKind.signed, IntKind.bits] at * <;> simp at * <;> (try split) <;> omega
theorem topK_eq (k : IntKind) : (topK k : Int) = k.max := by cases k <;> decide
theorem min_le (k : IntKind) : k.min ≤ 0 := by cases k <;> decide
theorem wrapI_eq (k : IntKind) (n : Int) : wrapI k n = k.wrap n := by
  cases n with
  | ofNat m =>
    simp only [wrapI]
    cases h : Nat.ble m (topK k) with
    | true =>
      have h1 := bleN h
      have h2 := topK_eq k
      have h3 := min_le k
      rw [wrap_id k _ (by have : (0 : Int) ≤ Int.ofNat m := Int.natCast_nonneg m; omega) (by rw [← h2]; show (m : Int) ≤ _; omega)]
    | false => rfl
  | negSucc m => rfl
theorem addI_eq (a b : Int) : addI a b = a + b := by
  cases a <;> cases b <;> first | rfl | (simp only [addI])

/-- what is said of the unknown numbers is so -/
structure GoodCx (σ : Nat → Int) (Γ : Cx) : Prop where
  rng : ∀ (i : Nat) lo hi, Γ.rng[i]? = some (lo, hi) → lo ≤ σ i ∧ σ i ≤ hi
  facts : ∀ q a b t, (q, a, b, t) ∈ Γ.facts → (match q with | true => decide (a.den σ = b.den σ) | false => decide (a.den σ < b.den σ)) = t

section
variable {σ : Nat → Int} {Γ : Cx}
theorem and_le (k : IntKind) (x c : Int) (h0 : 0 ≤ c) (h1 : c ≤ k.max) : 0 ≤ bopV .and k x c ∧ bopV .and k x c ≤ c := by
  have key : ∀ n : Nat, ((BitVec.ofInt n x &&& BitVec.ofInt n c).toNat : Int) ≤ (c.toNat : Int) := by
    intro n
    rw [BitVec.toNat_and]
    have : (BitVec.ofInt n c).toNat ≤ c.toNat := by
      rw [BitVec.toNat_ofInt]
      have : c % ((2 ^ n : Nat) : Int) ≤ c := by
        have := Int.emod_add_mul_ediv c ((2 ^ n : Nat) : Int)
        have h2 : 0 ≤ c / ((2 ^ n : Nat) : Int) := Int.ediv_nonneg h0 (Int.natCast_nonneg _)
        have h3 : 0 ≤ ((2 ^ n : Nat) : Int) * (c / ((2 ^ n : Nat) : Int)) := Int.mul_nonneg (Int.natCast_nonneg _) h2
        omega
      omega
    have := Nat.and_le_right (n := (BitVec.ofInt n x).toNat) (m := (BitVec.ofInt n c).toNat)
    omega
  have hk := key k.bits
  simp only [bopV]
  have hm := min_le k
  rw [wrap_id k _ (by have := Int.natCast_nonneg (BitVec.ofInt k.bits x &&& BitVec.ofInt k.bits c).toNat; omega) (by omega)]
  exact ⟨Int.natCast_nonneg _, by omega⟩
theorem rem_range (x c : Int) (h0 : 0 ≤ x) (h1 : 0 < c) : 0 ≤ x.tmod c ∧ x.tmod c ≤ c - 1 := by
  have := Int.tmod_nonneg c h0
  have := Int.tmod_lt_of_pos x h1
  omega
theorem shr_range (k : IntKind) (x y : Int) (h0 : 0 ≤ x) : 0 ≤ bopV .shr k x y ∧ bopV .shr k x y ≤ x := by
  simp only [bopV]
  rw [Int.fdiv_eq_ediv_of_nonneg x (Int.pow_nonneg (by omega))]
  exact ⟨Int.ediv_nonneg h0 (Int.pow_nonneg (by omega)), Int.ediv_le_self _ h0⟩
theorem rg_ok (G : GoodCx σ Γ) : ∀ (e : E) (lo hi : Int), e.rg Γ.rng = some (lo, hi) → lo ≤ e.den σ ∧ e.den σ ≤ hi
  | .lit n, lo, hi, h => by simp only [E.rg] at h; cases h; simp [E.den]
  | .var i, lo, hi, h => by simp only [E.rg, nthL_eq] at h; exact G.rng i lo hi h
  | .add a b, lo, hi, h => by
    simp only [E.rg] at h
    split at h
    · rename_i la ha lb hb ea eb
      simp only [Option.some.injEq, Prod.mk.injEq] at h
      obtain ⟨rfl, rfl⟩ := h
      have := rg_ok G a _ _ ea
      have := rg_ok G b _ _ eb
      simp only [E.den]; omega
    · cases h
  | .sub a b, lo, hi, h => by
    simp only [E.rg] at h
    split at h
    · rename_i la ha lb hb ea eb
      simp only [Option.some.injEq, Prod.mk.injEq] at h
      obtain ⟨rfl, rfl⟩ := h
      have := rg_ok G a _ _ ea
      have := rg_ok G b _ _ eb
      simp only [E.den]; omega
    · cases h
  | .wrap k a, lo, hi, h => by
    simp only [E.rg] at h; cases h
    exact wrap_range k _
  | .bop op k a b, lo, hi, h => by
    have hw : ∀ n : Int, k.min ≤ k.wrap n ∧ k.wrap n ≤ k.max := wrap_range k
    cases op <;> simp only [E.rg] at h <;> try (cases h; done)
    case mul => simp only [Option.some.injEq, Prod.mk.injEq] at h; obtain ⟨rfl, rfl⟩ := h; exact hw _
    case quo => simp only [Option.some.injEq, Prod.mk.injEq] at h; obtain ⟨rfl, rfl⟩ := h; exact hw _
    case or => simp only [Option.some.injEq, Prod.mk.injEq] at h; obtain ⟨rfl, rfl⟩ := h; exact hw _
    case xor => simp only [Option.some.injEq, Prod.mk.injEq] at h; obtain ⟨rfl, rfl⟩ := h; exact hw _
    case andNot => simp only [Option.some.injEq, Prod.mk.injEq] at h; obtain ⟨rfl, rfl⟩ := h; exact hw _
    case shl => simp only [Option.some.injEq, Prod.mk.injEq] at h; obtain ⟨rfl, rfl⟩ := h; exact hw _
    case rem =>
      split at h
      · rename_i la hh c ea
        split at h
        · rename_i e1 e2
          simp only [Option.some.injEq, Prod.mk.injEq] at h
          obtain ⟨rfl, rfl⟩ := h
          rw [ltI_eq, decide_eq_false_iff_not] at e1
          rw [ltI_eq, decide_eq_true_iff] at e2
          have := rg_ok G a _ _ ea
          exact rem_range _ _ (by omega) e2
        · cases h
      · cases h
    case and =>
      split at h
      · rename_i c
        split at h
        · rename_i e1 e2
          simp only [Option.some.injEq, Prod.mk.injEq] at h
          obtain ⟨rfl, rfl⟩ := h
          rw [ltI_eq, decide_eq_false_iff_not] at e1 e2
          exact and_le k _ c (by omega) (by omega)
        · simp only [Option.some.injEq, Prod.mk.injEq] at h; obtain ⟨rfl, rfl⟩ := h; exact hw _
      · simp only [Option.some.injEq, Prod.mk.injEq] at h; obtain ⟨rfl, rfl⟩ := h; exact hw _
    case shr =>
      split at h
      · rename_i la ha ea
        split at h
        · rename_i e1
          simp only [Option.some.injEq, Prod.mk.injEq] at h
          obtain ⟨rfl, rfl⟩ := h
          rw [ltI_eq, decide_eq_false_iff_not] at e1
          have := rg_ok G a _ _ ea
          have h2 := shr_range k (a.den σ) (b.den σ) (by omega)
          simp only [E.den]; omega
        · cases h
      · cases h
  | .ite q x y a b, lo, hi, h => by
    simp only [E.rg] at h
    split at h
    · rename_i la ha lb hb ea eb
      simp only [Option.some.injEq, Prod.mk.injEq] at h
      have h1 := rg_ok G a _ _ ea
      have h2 := rg_ok G b _ _ eb
      have h3 : lo ≤ la ∧ lo ≤ lb := by
        have := h.1
        split at this
        · rename_i e; rw [ltI_eq, decide_eq_true_iff] at e; omega
        · rename_i e; rw [ltI_eq, decide_eq_false_iff_not] at e; omega
      have h4 : ha ≤ hi ∧ hb ≤ hi := by
        have := h.2
        split at this
        · rename_i e; rw [ltI_eq, decide_eq_true_iff] at e; omega
        · rename_i e; rw [ltI_eq, decide_eq_false_iff_not] at e; omega
      simp only [E.den]
      split <;> omega
    · cases h

theorem lookFact_ok : ∀ (fs : List (Bool × E × E × Bool)), (∀ q a b t, (q, a, b, t) ∈ fs → (match q with | true => decide (a.den σ = b.den σ) | false => decide (a.den σ < b.den σ)) = t) →
    ∀ q a b t, lookFact fs q a b = some t → (match q with | true => decide (a.den σ = b.den σ) | false => decide (a.den σ < b.den σ)) = t
  | [], _, q, a, b, t, h => by simp only [lookFact] at h; cases h
  | (q', a', b', t') :: fs, hf, q, a, b, t, h => by
    simp only [lookFact] at h
    split at h
    · rename_i e
      cases h
      simp only [Bool.and_eq_true] at e
      obtain rfl := eqB_eq e.1.1
      obtain rfl := eqE_eq e.1.2
      obtain rfl := eqE_eq e.2
      exact hf _ _ _ _ (by simp)
    · exact lookFact_ok fs (fun q a b t hm => hf q a b t (by simp [hm])) q a b t h
theorem ltS_ok (G : GoodCx σ Γ) (a b : E) (t : Bool) (h : ltS Γ a b = some t) : decide (a.den σ < b.den σ) = t := by
  unfold ltS at h
  split at h
  · rename_i e
    cases h
    exact lookFact_ok Γ.facts G.facts false a b _ e
  · split at h
    · rename_i la ha lb hb ea eb
      have ra := rg_ok G a _ _ ea
      have rb := rg_ok G b _ _ eb
      split at h
      · rename_i e; cases h
        rw [ltI_eq, decide_eq_true_iff] at e
        rw [decide_eq_true_iff]; omega
      · split at h
        · rename_i e; cases h
          rw [ltI_eq, decide_eq_false_iff_not] at e
          rw [decide_eq_false_iff_not]; omega
        · cases h
    · cases h
theorem ltE_ok (G : GoodCx σ Γ) (a b : E) (t : Bool) (h : ltE Γ a b = some t) : decide (a.den σ < b.den σ) = t := by
  unfold ltE at h
  split at h
  · simp only [Option.some.injEq] at h
    rw [← h, ltI_eq]; rfl
  · exact ltS_ok G _ _ t h
theorem eqS_ok (G : GoodCx σ Γ) (a b : E) (t : Bool) (h : eqS Γ a b = some t) : decide (a.den σ = b.den σ) = t := by
  unfold eqS at h
  split at h
  · rename_i e; cases h; rw [eqE_eq e]; simp
  · split at h
    · rename_i e
      cases h
      split at e
      · rename_i e1
        cases e
        exact lookFact_ok Γ.facts G.facts true a b _ e1
      · have := lookFact_ok Γ.facts G.facts true b a _ e
        rw [← this]
        exact decide_eq_decide.2 eq_comm
    · split at h
      · rename_i la ha lb hb ea eb
        have ra := rg_ok G a _ _ ea
        have rb := rg_ok G b _ _ eb
        split at h
        · rename_i e; cases h
          rw [ltI_eq, decide_eq_true_iff] at e
          rw [decide_eq_false_iff_not]; omega
        · split at h
          · rename_i e; cases h
            rw [ltI_eq, decide_eq_true_iff] at e
            rw [decide_eq_false_iff_not]; omega
          · split at h
            · rename_i e; cases h
              simp only [Bool.and_eq_true, eqI_eq, decide_eq_true_eq] at e
              rw [decide_eq_true_iff]; omega
            · cases h
      · cases h
theorem isE_ok (G : GoodCx σ Γ) (a b : E) (t : Bool) (h : isE Γ a b = some t) : decide (a.den σ = b.den σ) = t := by
  unfold isE at h
  split at h
  · simp only [Option.some.injEq] at h
    rw [← h, eqI_eq]; rfl
  · have := eqS_ok G _ _ t h
    rw [← this]
    exact decide_eq_decide.2 eq_comm
  · exact eqS_ok G _ _ t h
theorem wrapE_den (G : GoodCx σ Γ) (k : IntKind) (e : E) : (wrapE Γ k e).den σ = k.wrap (e.den σ) := by
  unfold wrapE
  split
  · simp [E.den, wrapI_eq]
  · unfold wrapS
    split
    · rename_i l h e1
      split
      · rename_i e2 e3
        rw [ltI_eq, decide_eq_false_iff_not] at e2 e3
        have := rg_ok G _ _ _ e1
        rw [wrap_id k _ (by omega) (by omega)]
      · rfl
    · rfl
theorem addE_den (a b : E) : (addE a b).den σ = a.den σ + b.den σ := by
  unfold addE
  split
  · simp [E.den, addI_eq]
  · unfold addS
    split <;> simp only [E.den] <;> omega
theorem subE_den (a b : E) : (subE a b).den σ = a.den σ - b.den σ := by
  unfold subE
  split
  · simp [E.den]
  · unfold subS
    split <;> simp only [E.den] <;> omega
theorem pinS_den (G : GoodCx σ Γ) (e : E) : (pinS Γ e).den σ = e.den σ := by
  unfold pinS
  split
  · rename_i l h e1
    split
    · rename_i e2
      simp only [eqI_eq, decide_eq_true_eq] at e2
      have := rg_ok G _ _ _ e1
      simp only [E.den]
      omega
    · rfl
  · rfl
theorem pinE_den (G : GoodCx σ Γ) (e : E) : (pinE Γ e).den σ = e.den σ := by
  unfold pinE
  split
  · rfl
  · exact pinS_den G _
theorem wrap_emod (k : IntKind) (m : Int) : k.wrap m % (2 ^ k.bits : Nat) = m % (2 ^ k.bits : Nat) := by
  cases k <;> simp [IntKind.wrap, IntKind.bits, IntKind.signed] <;> (try split) <;> omega
theorem ofInt_wrap (k : IntKind) (n : BitVec k.bits) : BitVec.ofInt k.bits (k.wrap (n.toNat : Int)) = n := by
  apply BitVec.eq_of_toNat_eq
  rw [BitVec.toNat_ofInt, wrap_emod]
  have h : n.toNat < 2 ^ k.bits := n.isLt
  have : ((n.toNat : Int) % ((2 ^ k.bits : Nat) : Int)) = ((n.toNat % 2 ^ k.bits : Nat) : Int) := (Int.natCast_emod _ _).symm
  rw [this, Int.toNat_natCast, Nat.mod_eq_of_lt h]
theorem or_or (k : IntKind) (x p q : Int) : bopV .or k (bopV .or k x p) q = bopV .or k x (bopV .or k p q) := by
  simp only [bopV]
  rw [ofInt_wrap, ofInt_wrap, BitVec.or_assoc]
theorem bopS_den (op : BinOp) (k : IntKind) (a b : E) : (bopS op k a b).den σ = bopV op k (a.den σ) (b.den σ) := by
  unfold bopS
  split
  · split
    · split
      · rename_i e
        have e := eqK_eq e
        subst e
        simp only [E.den]
        exact (or_or _ _ _ _).symm
      · rfl
    · rfl
  · rfl
theorem bopE_den (op : BinOp) (k : IntKind) (a b : E) : (bopE op k a b).den σ = bopV op k (a.den σ) (b.den σ) := by
  unfold bopE; split
  · simp [E.den]
  · exact bopS_den _ _ _ _

theorem litOf_mem {e : E} {n : Int} : ∀ {fs : List (Bool × E × E × Bool)}, litOf e fs = some n → ∃ c, eqE c e = true ∧ (true, c, E.lit n, true) ∈ fs
  | [], h => by cases h
  | (q, a, b, t) :: fs, h => by
    simp only [litOf] at h
    split at h
    · split at h
      · rename_i m _ hq
        simp only [Bool.and_eq_true] at hq
        have h := Option.some.inj h
        subst h
        obtain ⟨⟨h1, h2⟩, h3⟩ := hq
        subst h1 h2
        exact ⟨a, h3, List.mem_cons_self⟩
      · obtain ⟨c, h1, h2⟩ := litOf_mem h
        exact ⟨c, h1, List.mem_cons_of_mem _ h2⟩
    · obtain ⟨c, h1, h2⟩ := litOf_mem h
      exact ⟨c, h1, List.mem_cons_of_mem _ h2⟩
theorem fixE_den (G : GoodCx σ Γ) (e : E) : (fixE Γ e).den σ = e.den σ := by
  unfold fixE
  split
  · rfl
  · split
    · rename_i n h
      obtain ⟨a, h1, h2⟩ := litOf_mem h
      have := G.2 _ _ _ _ h2
      simp only [decide_eq_true_eq] at this
      rw [eqE_eq h1] at this
      exact this.symm
    · exact pinS_den G _
theorem beq_dec (x y : Int) : (x == y) = decide (x = y) := by rw [Bool.eq_iff_iff]; simp
theorem le_dec (x y : Int) : decide (x ≤ y) = !decide (y < x) := by
  rw [Bool.eq_iff_iff]; simp
theorem vbool_ok {b : Option Bool} {v : V} (h : vbool b = some v) : ∃ t, b = some t ∧ v = .bool t := by
  cases b with
  | none => cases h
  | some t => exact ⟨t, rfl, (Option.some.inj h).symm⟩
theorem vnot_ok {b : Option Bool} {v : V} (h : vnot b = some v) : ∃ t, b = some t ∧ v = .bool !t := by
  cases b with
  | none => cases h
  | some t => cases t <;> exact ⟨_, rfl, (Option.some.inj h).symm⟩

variable {P : Program} {ρ : Inj}
/-- two numbers of a kind -/
theorem binInt_ok (G : GoodCx σ Γ) (op : BinOp) (t : TypeId) (k : IntKind) (a b : E) (v : V) (w : World) (hs : isShift op = false) (h : binInt op Γ k a b = some v) :
    ∃ v', (binOp op t (.int k (a.den σ)) (.int k (b.den σ))).run P w = .ok v' w ∧ VR σ ρ v v' := by
  have hdiv : ∀ {op : BinOp} {v : V}, divInt Γ op k a b = some v → b.den σ ≠ 0 ∧ v = .int k (fixE Γ (bopE op k a b)) := by
    intro op v h
    unfold divInt at h
    split at h
    · rename_i e
      have := isE_ok G _ _ _ e
      rw [decide_eq_false_iff_not] at this
      exact ⟨by simpa [E.den] using this, (Option.some.inj h).symm⟩
    · cases h
  cases op <;> simp only [binInt] at h <;> try (cases hs; done)
  case add => cases h; exact ⟨_, by simp [binOp, Op.intArith]; rfl, by simp [VR, wrapE_den G, addE_den, pinE_den G]⟩
  case sub => cases h; exact ⟨_, by simp [binOp, Op.intArith]; rfl, by simp [VR, wrapE_den G, subE_den, pinE_den G]⟩
  case mul => cases h; exact ⟨_, by simp [binOp, Op.intArith]; rfl, by simp [VR, bopE_den, bopV]⟩
  case quo =>
    obtain ⟨h0, rfl⟩ := hdiv h
    exact ⟨_, by simp [binOp, Op.intDiv, h0]; rfl, by simp [VR, fixE_den G, bopE_den, bopV]⟩
  case rem =>
    obtain ⟨h0, rfl⟩ := hdiv h
    exact ⟨_, by simp [binOp, Op.intDiv, h0]; rfl, by simp [VR, fixE_den G, bopE_den, bopV]⟩
  case and => cases h; exact ⟨_, by simp [binOp, Op.intBits]; rfl, by simp [VR, fixE_den G, bopE_den, bopV]⟩
  case or => cases h; exact ⟨_, by simp [binOp, Op.intBits]; rfl, by simp [VR, bopE_den, bopV]⟩
  case xor => cases h; exact ⟨_, by simp [binOp, Op.intBits]; rfl, by simp [VR, bopE_den, bopV]⟩
  case andNot => cases h; exact ⟨_, by simp [binOp, Op.intBits]; rfl, by simp [VR, bopE_den, bopV]⟩
  case eql =>
    obtain ⟨t, e, rfl⟩ := vbool_ok h
    have := isE_ok G _ _ _ e
    exact ⟨_, by simp [binOp, Op.intCmp]; rfl, by simp [VR, ← this, beq_dec]⟩
  case neq =>
    obtain ⟨t, e, rfl⟩ := vnot_ok h
    have := isE_ok G _ _ _ e
    exact ⟨_, by simp [binOp, Op.intCmp]; rfl, by simp [VR, ← this, bne, beq_dec]⟩
  case lss =>
    obtain ⟨t, e, rfl⟩ := vbool_ok h
    have := ltE_ok G _ _ _ e
    exact ⟨_, by simp [binOp, Op.intCmp]; rfl, by simp [VR, ← this]⟩
  case gtr =>
    obtain ⟨t, e, rfl⟩ := vbool_ok h
    have := ltE_ok G _ _ _ e
    exact ⟨_, by simp [binOp, Op.intCmp]; rfl, by simp [VR, ← this]⟩
  case leq =>
    obtain ⟨t, e, rfl⟩ := vnot_ok h
    have := ltE_ok G _ _ _ e
    exact ⟨_, by simp [binOp, Op.intCmp]; rfl, by simp [VR, ← this, le_dec]⟩
  case geq =>
    obtain ⟨t, e, rfl⟩ := vnot_ok h
    have := ltE_ok G _ _ _ e
    exact ⟨_, by simp [binOp, Op.intCmp]; rfl, by simp [VR, ← this, le_dec]⟩
theorem shiftInt_ok (G : GoodCx σ Γ) (op : BinOp) (t : TypeId) (k k' : IntKind) (a b : E) (v : V) (w : World) (hs : isShift op = true) (h : shiftInt Γ op k a b = some v) :
    ∃ v', (binOp op t (.int k (a.den σ)) (.int k' (b.den σ))).run P w = .ok v' w ∧ VR σ ρ v v' := by
  unfold shiftInt at h
  split at h
  · rename_i e
    have := ltE_ok G _ _ _ e
    rw [decide_eq_false_iff_not] at this
    simp only [E.den] at this
    cases h
    cases op <;> try (cases hs; done)
    case shl => exact ⟨_, by simp [binOp, Op.shift, this]; rfl, by simp [VR, fixE_den G, bopE_den, bopV]⟩
    case shr => exact ⟨_, by simp [binOp, Op.shift, this]; rfl, by simp [VR, fixE_den G, bopE_den, bopV]⟩
  · cases h
end
end Tk
