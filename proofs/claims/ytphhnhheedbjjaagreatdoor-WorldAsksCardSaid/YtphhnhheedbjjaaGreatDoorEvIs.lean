/- errors.Is over errors of errors.New's make. -/
import Derived.Test.YtphhnhheedbjjaaGreatDoorEvFn
set_option linter.unusedVariables false
set_option linter.unusedSimpArgs false
namespace Tk
open Go Go.RowKit

noncomputable def hasCell : Option Ob → Bool
  | some (.cells sz ((_ :: _) :: _) _) => match Nat.beq sz argSz with
    | true => false
    | false => true
  | _ => false
noncomputable def isFn (es : Nat) : Fn := fun args h => match args with
  | [.inil, .iface u (.ptr r2 o2)] => match Nat.beq u es with
    | true => some (.bool false, h)
    | false => none
  | [.iface t (.ptr r1 o1), .iface u (.ptr r2 o2)] => match Nat.beq t es && Nat.beq u es && Nat.beq o1 0 && Nat.beq o2 0 && hasCell (Tr.get h.tr r1) && hasCell (Tr.get h.tr r2) with
    | true => match Nat.beq r1 r2 with
      | true => some (.bool true, h)
      | false => some (.bool false, h)
    | false => none
  | _ => none
theorem hasCell_ok {o : Option Ob} (h : hasCell o = true) : ∃ sz cs ro, o = some (.cells sz cs ro) ∧ Nat.beq sz argSz = false ∧ 0 < cs.flatten.length := by
  unfold hasCell at h
  split at h
  · split at h
    · cases h
    · rename_i e; exact ⟨_, _, _, rfl, e, by simp⟩
  · cases h
theorem is_ok {P : Program} {G : Nat} {σ : Nat → Int} {W0 : World} {f : FuncId} {fn : Func} {es : TypeId} (hf : P.funcs[f]? = some fn) (hb : fn.body.isSome = true) (hn : (fn.name == "runtime.NumGoroutine") = false)
    (C1 : ∀ (a : Addr) (w : World), Calls P f #[.iface es (.pointer (some a)), .iface es (.pointer (some a))] w fun e w' => e = .returned (.bool true) ∧ w' = w)
    (C2 : ∀ (b : Addr) (w : World), Calls P f #[.nilIface, .iface es (.pointer (some b))] w fun e w' => e = .returned (.bool false) ∧ w' = w)
    (C3 : ∀ (a b : Addr) (ca cb : Array Value) (ta tb : TypeId) (w : World), a ≠ b → w.heap[a.block]? = some (.cells ca ta (0, 0)) → w.heap[b.block]? = some (.cells cb tb (0, 0)) →
      Calls P f #[.iface es (.pointer (some a)), .iface es (.pointer (some b))] w fun e w' => e = .returned (.bool false) ∧ w' = w) : CallOk P G σ W0 f (isFn es) :=
  fn_ok hf hb hn fun vs xs h v h' ρ W e hv R => by
    unfold isFn at e
    split at e
    · rename_i u r2 o2
      split at e
      · rename_i hu
        have hu := beqN hu
        subst hu
        cases e
        obtain ⟨x, y, rfl, hx, hy⟩ := vrs2 hv
        simp only [VR] at hx hy
        obtain ⟨y', rfl, L, hL, rfl⟩ := hy
        subst hx
        refine (C2 _ W).mono ?_
        rintro e w' ⟨rfl, rfl⟩
        exact ⟨_, ρ, rfl, by simp [VR], Stp.refl R⟩
      · cases e
    · rename_i t r1 o1 u r2 o2
      split at e
      · rename_i hc
        simp only [Bool.and_eq_true] at hc
        obtain ⟨⟨⟨⟨⟨h1, h2⟩, h3⟩, h4⟩, h5⟩, h6⟩ := hc
        have h1 := beqN h1
        have h2 := beqN h2
        have h3 := beqN h3
        have h4 := beqN h4
        subst h1 h2 h3 h4
        obtain ⟨x, y, rfl, hx, hy⟩ := vrs2 hv
        simp only [VR] at hx hy
        obtain ⟨x', rfl, L1, hL1, rfl⟩ := hx
        obtain ⟨y', rfl, L2, hL2, rfl⟩ := hy
        obtain ⟨s1, c1, b1, g1, u1, k1⟩ := hasCell_ok h5
        obtain ⟨s2, c2, b2, g2, u2, k2⟩ := hasCell_ok h6
        obtain ⟨⟨C1', e1, q1, _⟩, _⟩ := R.obs r1 _ L1 g1 hL1
        obtain ⟨⟨C2', e2, q2, _⟩, _⟩ := R.obs r2 _ L2 g2 hL2
        rw [u1, Bool.and_false] at q1
        rw [u2, Bool.and_false] at q2
        have q1 := q1.free
        have q2 := q2.free
        split at e
        · rename_i hr
          have hr := beqN hr
          subst hr
          rw [hL1] at hL2
          cases hL2
          cases e
          refine (C1 _ W).mono ?_
          rintro e w' ⟨rfl, rfl⟩
          exact ⟨_, ρ, rfl, by simp [VR], Stp.refl R⟩
        · rename_i hr
          have hr := beqF hr
          cases e
          refine (C3 _ _ C1' C2' e1 e2 W ?_ q1 q2).mono ?_
          · intro ea
            simp only [Nat.add_zero, Addr.mk.injEq] at ea
            rcases R.apart r1 r2 _ _ L1 L2 g1 g2 hr hL1 hL2 with hb | ⟨_, _, hb⟩
            · exact hb ea.1
            · rcases hb with hb | hb | hb
              · simp only [Ob.rows] at hb
                omega
              · cases b1 <;> simp_all [Ob.arg]
              · cases b2 <;> simp_all [Ob.arg]
          · rintro e w' ⟨rfl, rfl⟩
            exact ⟨_, ρ, rfl, by simp [VR], Stp.refl R⟩
      · cases e
    · cases e
end Tk
