/- The evaluator's operations held against the model's, one by one (7): binary operations joined, maps. -/
import Derived.Test.YtphhnhheedbjjaaGreatDoorEvOps6
set_option linter.unusedVariables false
set_option linter.unusedSimpArgs false
namespace Tk
open Go Go.RowKit

def plainV : Value → Bool
  | .int _ _ | .float _ _ | .complex _ _ _ | .string _ | .agg _ => false
  | _ => true
theorem binOp_eql (t : TypeId) (x y : Value) (hx : plainV x = true) : binOp .eql t x y = (do pure (.bool (← Op.equal t x y))) := by
  cases x <;> first | (cases hx; done) | (cases y <;> rfl)
theorem binOp_neq (t : TypeId) (x y : Value) (hx : plainV x = true) : binOp .neq t x y = (do pure (.bool (!(← Op.equal t x y)))) := by
  cases x <;> first | (cases hx; done) | (cases y <;> rfl)
section
variable {P : Program} {σ : Nat → Int} {ρ : Inj} {W0 : World} {h : H} {W : World}
theorem guard_ok (op : BinOp) (t : TypeId) (x y : Operand) (a b : Value) (hag : ∀ c, a ≠ .agg c) (hn : a = .nilIface → b = .nilIface → (isConst x || isConst y) = true) : (eqGuard op t x y a b).run P W = .ok () W := by
  unfold eqGuard
  cases op <;> first | rfl | skip
  all_goals
    simp only [Bool.not_true, Bool.false_eq_true, if_false]
    split
    · rename_i e1 e2
      have := hn rfl rfl
      clear hn
      cases x <;> cases y <;> first | rfl | (cases this; done)
    · exact absurd rfl (hag _)
    · rfl
theorem eqlP_ok {Γ : Cx} (hP : Γ.P = P) (R : Rel σ W0 ρ h W) {op : BinOp} {t : TypeId} {x y : Operand} {a b v : V} {x' y' : Value} (he : eqlP Γ op t h a b = some v) (ha : VR σ ρ a x') (hb : VR σ ρ b y') (hp : plainV x' = true)
    (hn : x' = .nilIface → y' = .nilIface → (isConst x || isConst y) = true) : ∃ z, (do eqGuard op t x y x' y'; binOp op t x' y').run P W = .ok z W ∧ VR σ ρ v z := by
  have hg := guard_ok (P := P) (W := W) op t x y x' y' (fun c e => by subst e; cases hp) hn
  unfold eqlP at he
  cases op <;> simp only [] at he <;> try (cases he; done)
  case eql =>
    obtain ⟨r, e, rfl⟩ := vbool_ok he
    have := equal_ok hP R e ha hb
    exact ⟨.bool r, by simp only [Sem.run_bind, hg, Result.andThen_ok, binOp_eql t x' y' hp, this, Sem.run_pure], by simp [VR]⟩
  case neq =>
    obtain ⟨r, e, rfl⟩ := vnot_ok he
    have := equal_ok hP R e ha hb
    exact ⟨.bool !r, by simp only [Sem.run_bind, hg, Result.andThen_ok, binOp_neq t x' y' hp, this, Sem.run_pure], by simp [VR]⟩
theorem good_binOp {Γ : Cx} (G : GoodCx σ Γ) (hP : Γ.P = P) (op : BinOp) (t : TypeId) (x y : Operand) (c : TypeId) : GoodQ P σ (.binOp op t x y c) (s2v (binP Γ op t (isConst x || isConst y)) x y) :=
  good_s2v (by simp [Op.operands]) (by simp [Op.operands]) fun W0 h a b v ρ W ε o ho hf ha hb R => by
    have fin : ∀ {z : Value}, (do eqGuard op t x y (ε x) (ε y); binOp op t (ε x) (ε y)).run P W = .ok z W → VR σ ρ v z → ∃ z, (execOp ε o).run P W = .ok (.value z) W ∧ VR σ ρ v z := fun {z} q hv =>
      ⟨z, by simp only [execOp, ho, Sem.run_bind, Sem.run_pure] at q ⊢; rw [q]; rfl, hv⟩
    have gd : (∀ c, ε x ≠ .agg c) → (ε x ≠ .nilIface) → (eqGuard op t x y (ε x) (ε y)).run P W = .ok () W := fun q1 q2 => guard_ok op t x y _ _ q1 (fun e => absurd e q2)
    have eql : ∀ {a' : V}, eqlP Γ op t h a' b = some v → VR σ ρ a' (ε x) → plainV (ε x) = true → (ε x = .nilIface → ε y = .nilIface → (isConst x || isConst y) = true) → ∃ z, (execOp ε o).run P W = .ok (.value z) W ∧ VR σ ρ v z := fun {a'} q1 q2 q3 q4 => by
      obtain ⟨z, hz, hv⟩ := eqlP_ok hP R (x := x) (y := y) q1 q2 hb q3 q4
      exact fin hz hv
    unfold binP at hf
    split at hf
    · rename_i k m
      split at hf
      · rename_i k' n
        simp only [VR] at ha hb
        have g := gd (fun c => by rw [ha]; simp) (by rw [ha]; simp)
        split at hf
        · rename_i hs
          obtain ⟨z, hz, hv⟩ := shiftInt_ok (P := P) (ρ := ρ) G op t k k' m n v W hs hf
          exact fin (by rw [Sem.run_bind, g, ha, hb]; exact hz) hv
        · rename_i hs
          split at hf
          · rename_i e
            have e := eqK_eq e
            subst e
            obtain ⟨z, hz, hv⟩ := binInt_ok (P := P) (ρ := ρ) G op t k m n v W (by simpa using hs) hf
            exact fin (by rw [Sem.run_bind, g, ha, hb]; exact hz) hv
          · cases hf
      · cases hf
    · rename_i m
      split at hf
      · rename_i n
        simp only [VR] at ha hb
        have g := gd (fun c => by rw [ha]; simp) (by rw [ha]; simp)
        obtain ⟨z, hz, hv⟩ := strOp_ok (P := P) (σ := σ) (ρ := ρ) W op t m n v hf
        exact fin (by rw [Sem.run_bind, g, ha, hb]; exact hz) hv
      · rename_i n
        simp only [VR] at ha hb
        have g := gd (fun c => by rw [ha]; simp) (by rw [ha]; simp)
        obtain ⟨z, hz, hv⟩ := strD_ok (P := P) (σ := σ) (ρ := ρ) G W op t (pcs m) n v hf
        rw [pcs_val] at hz
        exact fin (by rw [Sem.run_bind, g, ha, hb]; exact hz) hv
      · cases hf
    · rename_i m
      split at hf
      · rename_i n hn
        have hb := toD_ok hn hb
        simp only [VR] at ha
        have g := gd (fun c => by rw [ha]; simp) (by rw [ha]; simp)
        obtain ⟨z, hz, hv⟩ := strD_ok (P := P) (σ := σ) (ρ := ρ) G W op t m n v hf
        exact fin (by rw [Sem.run_bind, g, ha, hb]; exact hz) hv
      · cases hf
    · cases hf
    · have ha0 := ha
      simp only [VR] at ha
      split at hf
      · split at hf
        · rename_i hc
          exact eql hf ha0 (by rw [ha]; rfl) (fun _ _ => hc)
        · cases hf
      · cases hf
      · rename_i hbn hbj
        refine eql hf ha0 (by rw [ha]; rfl) (fun _ e2 => ?_)
        exfalso
        cases b <;> simp only [VR] at hb <;> first | (exact hbn rfl) | (exact hbj rfl) | (rw [e2] at hb; simp at hb)
    · cases hf
    · rename_i h1 h2 h2b h3 h4 h5
      refine eql hf ha ?_ ?_
      · cases a <;> simp only [VR] at ha <;> first | (exact absurd rfl (h1 _ _)) | (exact absurd rfl (h2 _)) | (exact absurd rfl (h2b _)) | (exact absurd rfl (h3 _)) | (exact absurd rfl h5) | (rw [ha]; rfl) | (obtain ⟨_, _, _, _, _, ha⟩ := ha; rw [ha]; rfl) | (obtain ⟨_, _, _, ha, _⟩ := ha; rw [ha]; rfl) | (obtain ⟨_, ha⟩ := ha; first | (rw [ha.1]; rfl) | (rw [ha.2]; rfl)) | (obtain ⟨_, _, ha⟩ := ha; first | (rw [ha.1]; rfl) | (rw [ha.2.1]; rfl))
      · intro e
        exfalso
        cases a <;> simp only [VR] at ha <;> first | (exact h4 rfl) | (exact h5 rfl) | (rw [e] at ha; simp at ha)
end
end Tk
