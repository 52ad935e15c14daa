/- The evaluator's operations held against the model's, one by one (1). -/
import Derived.Test.YtphhnhheedbjjaaGreatDoorEvNum
import Derived.LaidEqlPtr
set_option linter.unusedVariables false
set_option linter.unusedSimpArgs false
namespace Tk
open Go Go.RowKit

section
variable {σ : Nat → Int} {ρ : Inj}
theorem vr_undef : VR σ ρ undefV undef := by simp only [undefV, VR]; exact ⟨#[], rfl, VRs.nil⟩
theorem bytesA_toNat (s : ByteArray) : bytesA (s.data.toList.map (·.toNat)) = s := by
  cases s with
  | mk d =>
    simp only [bytesA, List.map_map]
    congr 1
    apply Array.ext'
    simp [Function.comp_def]
mutual
theorem ofValue_ok : ∀ (x : Value) (v : V), ofValue x = some v → VR σ ρ v x
  | .bool b, v, h => by simp only [ofValue] at h; cases h; simp [VR]
  | .int k n, v, h => by simp only [ofValue] at h; cases h; simp [VR, E.den]
  | .string s, v, h => by simp only [ofValue] at h; cases h; simp [VR, bytesA_toNat]
  | .pointer a, v, h => by cases a <;> simp only [ofValue] at h <;> cases h; simp [VR]
  | .slice a n m, v, h => by
    unfold ofValue at h
    split at h <;> try (cases h; done)
    all_goals (rename_i e; cases e)
    cases h; simp [VR]
  | .map r, v, h => by cases r <;> simp only [ofValue] at h <;> cases h; simp [VR]
  | .nilFunc, v, h => by simp only [ofValue] at h; cases h; simp [VR]
  | .nilIface, v, h => by simp only [ofValue] at h; cases h; simp [VR]
  | .agg ⟨cs⟩, v, h => by
    simp only [ofValue, Option.map_eq_some_iff] at h
    obtain ⟨l, h1, rfl⟩ := h
    simp only [VR]
    exact ⟨_, rfl, ofValues_ok cs l h1⟩
  | .tuple ⟨cs⟩, v, h => by
    simp only [ofValue, Option.map_eq_some_iff] at h
    obtain ⟨l, h1, rfl⟩ := h
    simp only [VR]
    exact ⟨_, rfl, ofValues_ok cs l h1⟩
  | .float .., v, h => by simp [ofValue] at h
  | .complex .., v, h => by simp [ofValue] at h
  | .chan .., v, h => by simp [ofValue] at h
  | .func .., v, h => by simp [ofValue] at h
  | .iface .., v, h => by simp [ofValue] at h
theorem ofValues_ok : ∀ (xs : List Value) (vs : List V), ofValues xs = some vs → VRs σ ρ vs xs
  | [], vs, h => by simp only [ofValues] at h; cases h; exact VRs.nil
  | x :: xs, vs, h => by
    simp only [ofValues] at h
    split at h
    · rename_i v l h1 h2
      cases h
      exact VRs.cons (ofValue_ok x v h1) (ofValues_ok xs l h2)
    · cases h
end
theorem cells_ok {v : V} {x : Value} (hj : isJunk v = false) (h : VR σ ρ v x) : VRs σ ρ v.cells x.cells.toList := by
  have one : ∀ {v : V} {x : Value}, VR σ ρ v x → x.cells = #[x] → VRs σ ρ [v] x.cells.toList := fun h e => by rw [e]; exact VRs.cons h VRs.nil
  have h0 := h
  cases v <;> simp only [VR] at h <;> first
    | (cases hj; done)
    | (obtain ⟨cs, rfl, h⟩ := h; exact h)
    | (refine one h0 ?_; first
        | (subst h; rfl)
        | (obtain ⟨_, _, rfl⟩ := h; rfl)
        | (obtain ⟨_, _, _, rfl, _⟩ := h; rfl)
        | (obtain ⟨_, _, rfl, _⟩ := h; rfl)
        | (obtain ⟨_, rfl, _⟩ := h; rfl)
        | (obtain ⟨_, _, _, _, _, rfl⟩ := h; rfl))
theorem scalar_noJunk {v : V} (h : allL V.scalar v.cells = true) : isJunk v = false := by
  cases v <;> first | rfl | (cases h; done)
theorem write_noJunk {h h' : H} {r o : Nat} {v : V} (e : h.write r o v.cells = some h') : isJunk v = false := by
  unfold H.write at e
  split at e
  · rename_i h1; exact scalar_noJunk h1
  · cases e
theorem ofValue_noJunk {x : Value} {v : V} (h : ofValue x = some v) : isJunk v = false := by
  cases hv : v <;> first | rfl | skip
  exfalso
  subst hv
  unfold ofValue at h
  split at h <;> first
    | (cases h; done)
    | (rename_i cs; rcases hh : ofValues cs.toList with _ | l <;> rw [hh] at h <;> cases h; done)
theorem zero_noJunk {P : Program} {t : TypeId} {z : V} (h : zeroT P t = some z) : isJunk z = false := by
  unfold zeroT at h
  split at h
  · split at h
    · exact ofValue_noJunk h
    · cases h
  · cases h
theorem zcells_ok {P : Program} {t : TypeId} {z : V} {x : Value} (hz : zeroT P t = some z) (h : VR σ ρ z x) : VRs σ ρ z.cells x.cells.toList := cells_ok (zero_noJunk hz) h
variable {P : Program} (w : World)
theorem aggT_ok {t : TypeId} {b : Bool} (h : aggT P t = some b) : (isAgg t).run P w = .ok b w := by
  unfold aggT at h
  cases hu : P.underlying t with
  | none => rw [hu] at h; cases h
  | some d =>
    rw [hu] at h
    cases d <;> simp only [Option.some.injEq] at h <;> subst h <;> simp [isAgg, run_underlying hu]
theorem szT_ok {t : TypeId} {n : Nat} (h : szT P t = some n) : (Go.sizeOf t).run P w = .ok n w := by
  unfold szT at h
  cases hi : P.info? t with
  | none => rw [hi] at h; cases h
  | some i => rw [hi] at h; cases h; simp [Go.sizeOf, typeInfo, hi]
theorem szT_info {t : TypeId} {n : Nat} (h : szT P t = some n) : ∃ i, P.info? t = some i ∧ i.size = n := by
  unfold szT at h
  cases hi : P.info? t with
  | none => rw [hi] at h; cases h
  | some i => rw [hi] at h; cases h; exact ⟨i, rfl, rfl⟩
theorem zeroT_ok {t : TypeId} {z : V} (h : zeroT P t = some z) : ∃ i x, P.info? t = some i ∧ i.zero = some x ∧ VR σ ρ z x ∧ (zeroValue t).run P w = .ok x w := by
  unfold zeroT at h
  split at h
  · rename_i i hi
    split at h
    · rename_i x hx
      exact ⟨i, x, hi, hx, ofValue_ok x z h, by simp [zeroValue, typeInfo, hi, hx]⟩
    · cases h
  · cases h
theorem elemT_ok {t e : TypeId} (h : elemT P t = some e) : P.underlying t = some (.slice e) := by
  unfold elemT at h
  split at h
  · rename_i hu; cases h; exact hu
  · cases h
theorem takeX_ok {α : Type} {n : Nat} {l r : List α} (h : takeX n l = some r) : r = l.take n ∧ r.length = n ∧ n ≤ l.length := by
  simp only [takeX] at h
  split at h
  · rename_i e
    cases h
    rw [takeL_eq, lenL_eq] at e
    have := beqN e
    rw [takeL_eq]
    exact ⟨rfl, this, by rw [List.length_take] at this; omega⟩
  · cases h
/-- a part of an aggregate -/
theorem part_ok {t : TypeId} {off : Nat} {cs : List V} {v : V} {xs : Array Value} (h : partV P t off cs = some v) (hx : VRs σ ρ cs xs.toList) :
    ∃ x, (part t xs off).run P w = .ok x w ∧ VR σ ρ v x := by
  unfold partV at h
  rcases h1 : aggT P t with _ | b
  · simp only [h1] at h; cases h
  cases b with
  | true =>
    rcases h2 : szT P t with _ | n
    · simp only [h1, h2] at h; cases h
    simp only [h1, h2, dropL_eq] at h
    split at h
    · rename_i l hl
      cases h
      obtain ⟨rfl, hn, hle⟩ := takeX_ok hl
      refine ⟨.agg (xs.extract off (off + n)), by simp [part, aggT_ok w h1, szT_ok w h2], ?_⟩
      simp only [VR]
      refine ⟨_, rfl, ?_⟩
      have : (xs.extract off (off + n)).toList = (xs.toList.drop off).take n := by simp [List.take_drop]
      rw [this]
      exact (hx.drop off).take n
    · cases h
  | false =>
    simp only [h1, nthL_eq] at h
    obtain ⟨x, hx1, hx2⟩ := hx.get off h
    have hx1' : xs[off]? = some x := by simpa using hx1
    exact ⟨x, by simp [part, aggT_ok w h1, hx1'], hx2⟩
theorem vrs_get {cs : List V} {xs : List Value} (h : VRs σ ρ cs xs) (i : Nat) : xs[i]? = none ↔ cs[i]? = none := by
  simp [h.length]
end

/-- WHAT AN OPERATION COMES TO. -/
def Fine (P : Program) (σ : Nat → Int) (W0 : World) (ε : Operand → Value) (o : Oper) (v : V) (ρ : Inj) (h : H) (W : World) (h' : H) : Prop :=
  ∃ nx W' ρ' v', (execOp ε o).run P W = .ok nx W' ∧ (nx = .value v' ∨ nx = .skip ∧ v' = undef) ∧ VR σ ρ' v v' ∧ Stp σ W0 ρ h W ρ' h' W'
def OpR (σ : Nat → Int) (ρ : Inj) (T : Tm) (ε : Operand → Value) (x : Operand) : Prop := ∀ u, opd x T = some u → VR σ ρ u (ε x)
/-- an operation and the evaluator's step for it -/
def Good (P : Program) (σ : Nat → Int) (op : Op) (f : Step1) : Prop :=
  ∀ (W0 : World) (T : Tm) (h : H) (v : V) (h' : H) (ρ : Inj) (W : World) (ε : Operand → Value) (o : Oper), o.op = op → f T h = some (v, h') →
    (∀ x, x ∈ op.operands.toList → OpR σ ρ T ε x) → Rel σ W0 ρ h W → Fine P σ W0 ε o v ρ h W h'

/-- the same of one that changes nothing -/
def GoodQ (P : Program) (σ : Nat → Int) (op : Op) (f : Step1) : Prop :=
  ∀ (W0 : World) (T : Tm) (h : H) (v : V) (h' : H) (ρ : Inj) (W : World) (ε : Operand → Value) (o : Oper), o.op = op → f T h = some (v, h') →
    (∀ x, x ∈ op.operands.toList → OpR σ ρ T ε x) → Rel σ W0 ρ h W → h' = h ∧ ∃ x, (execOp ε o).run P W = .ok (.value x) W ∧ VR σ ρ v x
/-- the same of one that makes a block -/
def GoodM (P : Program) (σ : Nat → Int) (op : Op) (f : Step1) : Prop :=
  ∀ (T : Tm) (h : H) (v : V) (h' : H) (ρ : Inj) (W : World) (ε : Operand → Value) (o : Oper), o.op = op → f T h = some (v, h') →
    (∀ x, x ∈ op.operands.toList → OpR σ ρ T ε x) → ρ h.next = none →
    ∃ x obj ob tot, (execOp ε o).run P W = .ok (.value x) (W.alloc obj) ∧ h' = h.new ob ∧ ob.free = true ∧
      ObR σ (ρ.plus h.next ⟨W.heap.size, 0, tot⟩) (W.alloc obj) ⟨W.heap.size, 0, tot⟩ ob ∧ VR σ (ρ.plus h.next ⟨W.heap.size, 0, tot⟩) v x

section
variable {P : Program} {σ : Nat → Int} {W0 : World} {ε : Operand → Value} {o : Oper} {v : V} {ρ : Inj} {h h' : H} {W : World}
theorem ptr_known {r a : Nat} {x : Value} (h : VR σ ρ (.ptr r a) x) : ∃ L, ρ r = some L := by
  simp only [VR] at h; exact ⟨_, h.choose_spec.1⟩
theorem fine_value {x : Value} (R : Rel σ W0 ρ h W) (hr : (execOp ε o).run P W = .ok (.value x) W) (hv : VR σ ρ v x) : Fine P σ W0 ε o v ρ h W h :=
  ⟨_, W, ρ, x, hr, .inl rfl, hv, Stp.refl R⟩
theorem fine_step {x : Value} {W' : World} {ρ' : Inj} (hr : (execOp ε o).run P W = .ok (.value x) W') (hv : VR σ ρ' v x) (S : Stp σ W0 ρ h W ρ' h' W') : Fine P σ W0 ε o v ρ h W h' :=
  ⟨_, W', ρ', x, hr, .inl rfl, hv, S⟩
theorem fine_skip {W' : World} {ρ' : Inj} (hr : (execOp ε o).run P W = .ok .skip W') (S : Stp σ W0 ρ h W ρ' h' W') : Fine P σ W0 ε o undefV ρ h W h' :=
  ⟨_, W', ρ', undef, hr, .inr ⟨rfl, rfl⟩, vr_undef, S⟩
theorem keepH_ok {r : Option V} {v : V} (hk : keepH r h = some (v, h')) : r = some v ∧ h' = h := by
  cases r with
  | none => cases hk
  | some u => simp only [keepH, Option.some.injEq, Prod.mk.injEq] at hk; exact ⟨by rw [hk.1], hk.2.symm⟩
theorem GoodQ.good {op : Op} {f : Step1} (q : GoodQ P σ op f) : Good P σ op f := fun W0 T h v h' ρ W ε o ho hf hε R => by
  obtain ⟨rfl, x, hx, hv⟩ := q W0 T h v h' ρ W ε o ho hf hε R
  exact fine_value R hx hv
theorem GoodM.good {op : Op} {f : Step1} (q : GoodM P σ op f) : Good P σ op f := fun W0 T h v h' ρ W ε o ho hf hε R => by
  obtain ⟨x, obj, ob, tot, hx, rfl, hf, hO, hv⟩ := q T h v h' ρ W ε o ho hf hε (R.dom _ (Nat.le_refl _))
  exact fine_step hx hv (alloc_rel R ob obj _ rfl hf hO)
theorem quiet_fail (op : Op) : GoodQ P σ op sFail := fun _ _ _ _ _ _ _ _ _ _ hf => by cases hf
theorem make_fail (op : Op) : GoodM P σ op sFail := fun _ _ _ _ _ _ _ _ _ hf => by cases hf
theorem good_fail (op : Op) : Good P σ op sFail := fun _ _ _ _ _ _ _ _ _ _ hf => by cases hf
/-- one operand, a value alone -/
theorem good_s0v {op : Op} {f : H → V → Option V} {x : Operand} (hx : x ∈ op.operands.toList)
    (hf : ∀ (W0 : World) (h : H) (u v : V) (ρ : Inj) (W : World) (ε : Operand → Value) (o : Oper), o.op = op → f h u = some v → VR σ ρ u (ε x) → Rel σ W0 ρ h W → ∃ y, (execOp ε o).run P W = .ok (.value y) W ∧ VR σ ρ v y) :
    GoodQ P σ op (s0v f x) := by
  intro W0 T h v h' ρ W ε o ho hs hε R
  simp only [s0v] at hs
  split at hs
  · rename_i u hu
    obtain ⟨h1, rfl⟩ := keepH_ok hs
    obtain ⟨y, hy, hv⟩ := hf W0 h' u v ρ W ε o ho h1 (hε x hx u hu) R
    exact ⟨rfl, y, hy, hv⟩
  · cases hs
theorem good_s2v {op : Op} {f : H → V → V → Option V} {x y : Operand} (hx : x ∈ op.operands.toList) (hy : y ∈ op.operands.toList)
    (hf : ∀ (W0 : World) (h : H) (a b v : V) (ρ : Inj) (W : World) (ε : Operand → Value) (o : Oper), o.op = op → f h a b = some v → VR σ ρ a (ε x) → VR σ ρ b (ε y) → Rel σ W0 ρ h W → ∃ z, (execOp ε o).run P W = .ok (.value z) W ∧ VR σ ρ v z) :
    GoodQ P σ op (s2v f x y) := by
  intro W0 T h v h' ρ W ε o ho hs hε R
  simp only [s2v] at hs
  split at hs
  · rename_i a b ha hb
    obtain ⟨h1, rfl⟩ := keepH_ok hs
    obtain ⟨z, hz, hv⟩ := hf W0 h' a b v ρ W ε o ho h1 (hε x hx a ha) (hε y hy b hb) R
    exact ⟨rfl, z, hz, hv⟩
  · cases hs
theorem good_s0q {op : Op} {f : V → H → Option (V × H)} {x : Operand} (hx : x ∈ op.operands.toList)
    (hf : ∀ (W0 : World) (h h' : H) (u v : V) (ρ : Inj) (W : World) (ε : Operand → Value) (o : Oper), o.op = op → f u h = some (v, h') → VR σ ρ u (ε x) → Rel σ W0 ρ h W → h' = h ∧ ∃ y, (execOp ε o).run P W = .ok (.value y) W ∧ VR σ ρ v y) :
    GoodQ P σ op (s0 f x) := by
  intro W0 T h v h' ρ W ε o ho hs hε R
  simp only [s0] at hs
  split at hs
  · rename_i u hu
    exact hf W0 h h' u v ρ W ε o ho hs (hε x hx u hu) R
  · cases hs
theorem make_s0 {op : Op} {f : V → H → Option (V × H)} {x : Operand} (hx : x ∈ op.operands.toList)
    (hf : ∀ (h h' : H) (u v : V) (ρ : Inj) (W : World) (ε : Operand → Value) (o : Oper), o.op = op → f u h = some (v, h') → VR σ ρ u (ε x) → ρ h.next = none →
      ∃ x obj ob tot, (execOp ε o).run P W = .ok (.value x) (W.alloc obj) ∧ h' = h.new ob ∧ ob.free = true ∧
      ObR σ (ρ.plus h.next ⟨W.heap.size, 0, tot⟩) (W.alloc obj) ⟨W.heap.size, 0, tot⟩ ob ∧ VR σ (ρ.plus h.next ⟨W.heap.size, 0, tot⟩) v x) :
    GoodM P σ op (s0 f x) := by
  intro T h v h' ρ W ε o ho hs hε R
  simp only [s0] at hs
  split at hs
  · rename_i u hu
    exact hf h h' u v ρ W ε o ho hs (hε x hx u hu) R
  · cases hs
theorem make_s2 {op : Op} {f : V → V → H → Option (V × H)} {x y : Operand} (hx : x ∈ op.operands.toList) (hy : y ∈ op.operands.toList)
    (hf : ∀ (h h' : H) (a b v : V) (ρ : Inj) (W : World) (ε : Operand → Value) (o : Oper), o.op = op → f a b h = some (v, h') → VR σ ρ a (ε x) → VR σ ρ b (ε y) → ρ h.next = none →
      ∃ x obj ob tot, (execOp ε o).run P W = .ok (.value x) (W.alloc obj) ∧ h' = h.new ob ∧ ob.free = true ∧
      ObR σ (ρ.plus h.next ⟨W.heap.size, 0, tot⟩) (W.alloc obj) ⟨W.heap.size, 0, tot⟩ ob ∧ VR σ (ρ.plus h.next ⟨W.heap.size, 0, tot⟩) v x) :
    GoodM P σ op (s2 f x y) := by
  intro T h v h' ρ W ε o ho hs hε R
  simp only [s2] at hs
  split at hs
  · rename_i a b ha hb
    exact hf h h' a b v ρ W ε o ho hs (hε x hx a ha) (hε y hy b hb) R
  · cases hs
theorem good_s0 {op : Op} {f : V → H → Option (V × H)} {x : Operand} (hx : x ∈ op.operands.toList)
    (hf : ∀ (W0 : World) (h h' : H) (u v : V) (ρ : Inj) (W : World) (ε : Operand → Value) (o : Oper), o.op = op → f u h = some (v, h') → VR σ ρ u (ε x) → Rel σ W0 ρ h W → Fine P σ W0 ε o v ρ h W h') :
    Good P σ op (s0 f x) := by
  intro W0 T h v h' ρ W ε o ho hs hε R
  simp only [s0] at hs
  split at hs
  · rename_i u hu
    exact hf W0 h h' u v ρ W ε o ho hs (hε x hx u hu) R
  · cases hs
theorem good_s2 {op : Op} {f : V → V → H → Option (V × H)} {x y : Operand} (hx : x ∈ op.operands.toList) (hy : y ∈ op.operands.toList)
    (hf : ∀ (W0 : World) (h h' : H) (a b v : V) (ρ : Inj) (W : World) (ε : Operand → Value) (o : Oper), o.op = op → f a b h = some (v, h') → VR σ ρ a (ε x) → VR σ ρ b (ε y) → Rel σ W0 ρ h W → Fine P σ W0 ε o v ρ h W h') :
    Good P σ op (s2 f x y) := by
  intro W0 T h v h' ρ W ε o ho hs hε R
  simp only [s2] at hs
  split at hs
  · rename_i a b ha hb
    exact hf W0 h h' a b v ρ W ε o ho hs (hε x hx a ha) (hε y hy b hb) R
  · cases hs
end

section
variable {P : Program} {σ : Nat → Int}
theorem good_move (x : Operand) : GoodQ P σ (.move x) (s0v (fun _ v => some v) x) :=
  good_s0v (by simp [Op.operands]) fun _ _ _ _ _ W ε o ho hf hu _ => by cases hf; exact ⟨_, by simp [execOp, ho], hu⟩
theorem good_assign (x : Operand) : GoodQ P σ (.assign x) (s0v (fun _ v => some v) x) :=
  good_s0v (by simp [Op.operands]) fun _ _ _ _ _ W ε o ho hf hu _ => by cases hf; exact ⟨_, by simp [execOp, ho], hu⟩
theorem good_pick (c a b : Operand) : GoodQ P σ (.pick c a b) (sPick c a b) := by
  intro W0 T h v h' ρ W ε o ho hs hε R
  simp only [sPick] at hs
  split at hs
  · rename_i u1 u2 e1 e2 e3
    cases hs
    have hc : ε c = .bool true := by simpa [VR] using hε c (by simp [Op.operands]) _ e1
    exact ⟨rfl, _, by simp [execOp, ho, hc, asBool], hε a (by simp [Op.operands]) _ e2⟩
  · rename_i u1 u2 e1 e2 e3
    cases hs
    have hc : ε c = .bool false := by simpa [VR] using hε c (by simp [Op.operands]) _ e1
    exact ⟨rfl, _, by simp [execOp, ho, hc, asBool], hε b (by simp [Op.operands]) _ e3⟩
  · cases hs
theorem newVar_mk {ρ : Inj} {h h' : H} {u v : V} {x : Value} (t : TypeId) (W : World) (hd : ρ h.next = none) (hn : Tk.newVar u h = some (v, h')) (hx : VR σ ρ u x) :
    ∃ ob tot, (Go.newVar t x).run P W = .ok ⟨W.heap.size, 0, none⟩ (W.alloc (.cells x.cells t)) ∧ h' = h.new ob ∧ ob.free = true ∧
      ObR σ (ρ.plus h.next ⟨W.heap.size, 0, tot⟩) (W.alloc (.cells x.cells t)) ⟨W.heap.size, 0, tot⟩ ob ∧ VR σ (ρ.plus h.next ⟨W.heap.size, 0, tot⟩) v (.pointer (some ⟨W.heap.size, 0, none⟩)) := by
  unfold Tk.newVar at hn
  split at hn
  · rename_i hsc
    cases hc : h.newCells (lenL u.cells) u.cells with
    | none => rw [hc] at hn; cases hn
    | some h1 =>
      rw [hc] at hn
      simp only [withNew, Option.some.injEq, Prod.mk.injEq] at hn
      obtain ⟨rfl, rfl⟩ := hn
      obtain ⟨ob, h1, h2, h3⟩ := newCells_mk hd hc (cells_ok (scalar_noJunk hsc) hx) (rest := []) t W
      simp only [List.append_nil, Array.toArray_toList] at h3
      refine ⟨ob, _, by simp [Go.newVar, newRow, newObj, Sem.run], h1, h2, h3, ?_⟩
      simp only [VR]
      exact ⟨_, by simp [Inj.plus]; rfl, by simp⟩
  · cases hn
theorem good_alloc (t : TypeId) : GoodM P σ (.alloc t) (sAlloc (zeroT P t)) := by
  intro T h v h' ρ W ε o ho hs hε R
  rcases hz : zeroT P t with _ | z
  · rw [hz] at hs; cases hs
  · rw [hz] at hs
    simp only [sAlloc] at hs
    obtain ⟨i, x, hi, hx, hv, hrun⟩ := zeroT_ok (σ := σ) (ρ := ρ) W hz
    obtain ⟨ob, tot, hr, h1, h2, h3, h4⟩ := newVar_mk (P := P) t W R hs hv
    exact ⟨_, _, ob, tot, by simp [execOp, ho, Instr.alloc, hrun, hr], h1, h2, h3, h4⟩
theorem good_box (t : TypeId) (x : Operand) : GoodM P σ (.box t x) (s0 Tk.newVar x) :=
  make_s0 (by simp [Op.operands]) fun h h' u v ρ W ε o ho hf hu R => by
    obtain ⟨ob, tot, hr, h1, h2, h3, h4⟩ := newVar_mk (P := P) t W R hf hu
    exact ⟨_, _, ob, tot, by simp [execOp, ho, Instr.box, hr], h1, h2, h3, h4⟩
theorem eqNats_iff : ∀ {a b : List Nat}, eqNats a b = true ↔ a = b
  | [], [] => by simp [eqNats]
  | [], _ :: _ => by simp [eqNats]
  | _ :: _, [] => by simp [eqNats]
  | x :: a, y :: b => by simp [eqNats, eqNats_iff (a := a) (b := b)]
theorem samePc_eq : ∀ {a b : Pc}, samePc a b = true → a = b
  | .b m, .b n, h => by simp only [samePc] at h; rw [beqN h]
  | .d e k i, .d e' k' i', h => by
    simp only [samePc, Bool.and_eq_true] at h
    rw [eqE_eq h.1.1, beqN h.1.2, beqN h.2]
  | .b _, .d _ _ _, h => by cases h
  | .d _ _ _, .b _, h => by cases h
theorem samePs_eq : ∀ {a b : List Pc}, samePs a b = true → a = b
  | [], [], _ => rfl
  | [], _ :: _, h => by cases h
  | _ :: _, [], h => by cases h
  | x :: a, y :: b, h => by
    simp only [samePs, Bool.and_eq_true] at h
    rw [samePc_eq h.1, samePs_eq h.2]
mutual
theorem sameV_eq : ∀ (a b : V), sameV a b = true → a = b
  | .bool a, b, h => by cases b <;> simp only [sameV] at h <;> first | (cases h; done) | exact congrArg V.bool (eqB_eq h)
  | .int k e, b, h => by
    cases b <;> simp only [sameV] at h <;> first | (cases h; done) | skip
    simp only [Bool.and_eq_true] at h
    rw [eqK_eq h.1, eqE_eq h.2]
  | .str s, b, h => by cases b <;> simp only [sameV] at h <;> first | (cases h; done) | exact congrArg V.str (eqNats_iff.1 h)
  | .ptr r o, b, h => by
    cases b <;> simp only [sameV] at h <;> first | (cases h; done) | skip
    simp only [Bool.and_eq_true] at h
    rw [beqN h.1, beqN h.2]
  | .pnil, b, h => by cases b <;> simp only [sameV] at h <;> first | (cases h; done) | rfl
  | .slice r o a c d x, b, h => by
    cases b <;> simp only [sameV] at h <;> first | (cases h; done) | skip
    simp only [Bool.and_eq_true] at h
    rw [beqN h.1.1.1.1.1, beqN h.1.1.1.1.2, beqN h.1.1.1.2, beqN h.1.1.2, beqN h.1.2, eqB_eq h.2]
  | .eslice x, b, h => by cases b <;> simp only [sameV] at h <;> first | (cases h; done) | exact congrArg V.eslice (eqB_eq h)
  | .snil, b, h => by cases b <;> simp only [sameV] at h <;> first | (cases h; done) | rfl
  | .map r, b, h => by cases b <;> simp only [sameV] at h <;> first | (cases h; done) | exact congrArg V.map (beqN h)
  | .mnil, b, h => by cases b <;> simp only [sameV] at h <;> first | (cases h; done) | rfl
  | .func f x y, b, h => by
    cases b <;> simp only [sameV] at h <;> first | (cases h; done) | skip
    simp only [Bool.and_eq_true] at h
    rw [beqN h.1.1, sameVs_eq _ _ h.1.2, sameVs_eq _ _ h.2]
  | .fnil, b, h => by cases b <;> simp only [sameV] at h <;> first | (cases h; done) | rfl
  | .iface t v, b, h => by
    cases b <;> simp only [sameV] at h <;> first | (cases h; done) | skip
    simp only [Bool.and_eq_true] at h
    rw [beqN h.1, sameV_eq _ _ h.2]
  | .inil, b, h => by cases b <;> simp only [sameV] at h <;> first | (cases h; done) | rfl
  | .agg a, b, h => by cases b <;> simp only [sameV] at h <;> first | (cases h; done) | exact congrArg V.agg (sameVs_eq _ _ h)
  | .tuple a, b, h => by cases b <;> simp only [sameV] at h <;> first | (cases h; done) | exact congrArg V.tuple (sameVs_eq _ _ h)
  | .strd a, b, h => by cases b <;> simp only [sameV] at h <;> first | (cases h; done) | exact congrArg V.strd (samePs_eq h)
  | .vsl a, b, h => by cases b <;> simp only [sameV] at h <;> first | (cases h; done) | exact congrArg V.vsl (eqE_eq h)
  | .ptx r o s e n, b, h => by
    cases b <;> simp only [sameV] at h <;> first | (cases h; done) | skip
    simp only [Bool.and_eq_true] at h
    rw [beqN h.1.1.1.1, beqN h.1.1.1.2, beqN h.1.1.2, eqE_eq h.1.2, beqN h.2]
theorem sameVs_eq : ∀ (a b : List V), sameVs a b = true → a = b
  | [], b, h => by cases b <;> simp only [sameVs] at h <;> first | (cases h; done) | rfl
  | x :: a, b, h => by
    cases b with
    | nil => simp only [sameVs] at h; cases h
    | cons y b =>
      simp only [sameVs, Bool.and_eq_true] at h
      rw [sameV_eq _ _ h.1, sameVs_eq _ _ h.2]
end

theorem readN_get {h : H} {r sz w : Nat} : ∀ (n o : Nat) (ls : List (List V)), readN h r sz w n o = some ls → ∀ i : Nat, i < n → ∃ l, ls[i]? = some l ∧ h.read r (o + i * sz) w = some l
  | 0, o, ls, e, i, hi => by omega
  | n + 1, o, ls, e, i, hi => by
    simp only [readN] at e
    split at e
    · rename_i l hl
      split at e
      · rename_i ls' hls
        cases e
        cases i with
        | zero => exact ⟨l, rfl, by simpa using hl⟩
        | succ i =>
          obtain ⟨m, h1, h2⟩ := readN_get n (o + sz) ls' hls i (by omega)
          refine ⟨m, by simpa using h1, ?_⟩
          rw [← h2]; congr 1
          rw [Nat.add_mul]; omega
      · cases e
    · cases e
theorem sameAll_get {v : V} : ∀ (l : List V), sameAll v l = true → ∀ u ∈ l, v = u
  | [], _, u, hu => by cases hu
  | x :: l, h, u, hu => by
    simp only [sameAll, Bool.and_eq_true] at h
    rcases List.mem_cons.1 hu with rfl | hu
    · exact sameV_eq _ _ h.1
    · exact sameAll_get l h.2 u hu
theorem countAll_get {k : IntKind} : ∀ (l : List V) (j : Nat), countAll k j l = true → ∀ (i : Nat) (u : V), l[i]? = some u → u = V.int k (.lit (.ofNat (j + i)))
  | [], _, _, i, u, hu => by simp at hu
  | x :: l, j, h, i, u, hu => by
    simp only [countAll, Bool.and_eq_true] at h
    cases i with
    | zero => simp at hu; subst hu; exact (sameV_eq _ _ h.1).symm
    | succ i =>
      have := countAll_get l (j + 1) h.2 i u (by simpa using hu)
      rw [this]; congr 3; omega
theorem pickE_ok {σ : Nat → Int} {ρ : Inj} {k : IntKind} {e : E} {x : Value} : ∀ (l : List V) (j : Nat) (b : E), pickE k e j l = some b → ∀ (i : Nat) (u : V), l[i]? = some u → ((j + i : Nat) : Int) = e.den σ → VR σ ρ u x → x = .int k (b.den σ)
  | [], _, _, h, _, _, _, _, _ => by simp [pickE] at h
  | v :: l, j, b, h, i, u, hu, he, hx => by
    unfold pickE at h
    split at h
    · rename_i k' a
      split at h
      · rename_i hk
        have hk := eqK_eq hk
        subst hk
        cases l with
        | nil =>
          simp only [Option.some.injEq] at h
          subst h
          cases i with
          | zero => simp at hu; subst hu; simpa only [VR] using hx
          | succ i => simp at hu
        | cons y l =>
          simp only at h
          split at h
          · rename_i b' hb
            cases h
            cases i with
            | zero =>
              simp at hu; subst hu
              simp only [VR] at hx
              have : e.den σ = (j : Int) := by rw [← he]; simp
              simp [E.den, hx, this]
            | succ i =>
              have := pickE_ok (y :: l) (j + 1) b' hb i u (by simpa using hu) (by rw [← he]; congr 1; omega) hx
              have hne : ¬ e.den σ = (j : Int) := by rw [← he]; omega
              simp [E.den, this, hne]
          · cases h
      · cases h
    · cases h
theorem pickV_ok {σ : Nat → Int} {ρ : Inj} {e : E} {l : List V} {v u : V} {x : Value} {i : Nat} (h : pickV e l = some v) (hu : l[i]? = some u) (he : (i : Int) = e.den σ) (hx : VR σ ρ u x) : VR σ ρ v x := by
  cases l with
  | nil => simp [pickV] at h
  | cons w l =>
    simp only [pickV] at h
    split at h
    · rename_i hs
      cases h
      cases i with
      | zero => simp at hu; subst hu; exact hx
      | succ i =>
        have hm : u ∈ l := List.mem_of_getElem? (by simpa using hu)
        rw [sameAll_get l hs u hm]; exact hx
    · split at h
      · rename_i k a
        split at h
        · rename_i hc
          cases h
          have := countAll_get _ 0 hc i u hu
          subst this
          simp only [VR, E.den] at hx ⊢
          rw [hx, ← he]; simp
        · split at h
          · rename_i b hb
            cases h
            simp only [VR]
            exact pickE_ok _ 0 b hb i u hu (by rw [← he]; simp) hx
          · cases h
      · cases h
theorem headsV_ok : ∀ (ls : List (List V)) (vs : List V) (ts : List (List V)), headsV ls = some (vs, ts) → ∀ (i : Nat) (m : List V), ls[i]? = some m → ∃ (u : V) (t : List V), m = u :: t ∧ vs[i]? = some u ∧ ts[i]? = some t
  | [], _, _, h, i, m, hm => by simp at hm
  | l :: ls, vs, ts, h, i, m, hm => by
    simp only [headsV] at h
    split at h
    · cases h
    · rename_i v t
      split at h
      · rename_i vs' ts' hh
        cases h
        cases i with
        | zero => simp at hm; subst hm; exact ⟨v, t, rfl, rfl, rfl⟩
        | succ i =>
          obtain ⟨u, t', h1, h2, h3⟩ := headsV_ok ls vs' ts' hh i m (by simpa using hm)
          exact ⟨u, t', h1, by simpa using h2, by simpa using h3⟩
      · cases h
theorem pickL_ok {σ : Nat → Int} {ρ : Inj} {e : E} {i : Nat} (he : (i : Int) = e.den σ) : ∀ (w : Nat) (ls : List (List V)) (l m : List V) (xs : List Value), pickL e w ls = some l → ls[i]? = some m → m.length = w → VRs σ ρ m xs → VRs σ ρ l xs
  | 0, ls, l, m, xs, h, hm, hw, hx => by
    simp only [pickL] at h
    cases h
    have : m = [] := List.length_eq_zero_iff.1 hw
    subst this; exact hx
  | w + 1, ls, l, m, xs, h, hm, hw, hx => by
    simp only [pickL] at h
    split at h
    · rename_i vs ts hh
      split at h
      · rename_i v l' h1 h2
        cases h
        obtain ⟨u, t, rfl, e1, e2⟩ := headsV_ok ls vs ts hh i m hm
        simp only [VRs] at hx
        obtain ⟨x, xs', rfl, k1, k2⟩ := hx
        exact VRs.cons (pickV_ok h1 e1 he k1) (pickL_ok he w ts l' t xs' h2 e2 (by simpa using hw) k2)
      · cases h
    · cases h
theorem readX_ok {σ : Nat → Int} {ρ : Inj} {h : H} {r o sz n w : Nat} {e : E} {l : List V} (hr : readX h r o sz e n w = some l) {i : Nat} (he : (i : Int) = e.den σ) (hi : i < n) :
    ∃ m, h.read r (o + i * sz) w = some m ∧ (∀ xs, m.length = w → VRs σ ρ m xs → VRs σ ρ l xs) := by
  unfold readX at hr
  split at hr
  · rename_i ls hls
    obtain ⟨m, h1, h2⟩ := readN_get n o ls hls i hi
    exact ⟨m, h2, fun xs hw hx => pickL_ok he w ls l m xs hr h1 hw hx⟩
  · cases hr
theorem load_ok {t : TypeId} {W0 : World} {ρ : Inj} {h : H} {W : World} {u v : V} {x : Value} (R : Rel σ W0 ρ h W) (hl : loadP P t h u = some v) (hx : VR σ ρ u x) :
    ∃ a y, x = .pointer (some a) ∧ (loadVar t a).run P W = .ok y W ∧ VR σ ρ v y := by
  unfold loadP at hl
  rcases h1 : aggT P t with _ | b
  · simp only [h1] at hl; cases hl
  cases b with
  | true =>
    rcases h2 : szT P t with _ | n
    · simp only [h1, h2] at hl; cases hl
    simp only [h1, h2] at hl
    split at hl
    · rename_i r ofs
      split at hl
      · rename_i l hr
        cases hl
        obtain ⟨L, C, e, xs, hL, hb, hv, hn, hn', hle, hc⟩ := read_ok R hr (ptr_known hx)
        simp only [VR] at hx
        obtain ⟨L', hL', rfl⟩ := hx
        rw [hL] at hL'; cases hL'
        have := run_loadCells_list (P := P) W ⟨L.blk, L.base + ofs, none⟩ xs hc
        rw [hn] at this
        refine ⟨_, .agg xs.toArray, rfl, by simp [loadVar, aggT_ok W h1, szT_ok W h2, this], ?_⟩
        simp only [VR]
        exact ⟨_, rfl, by simpa using hv⟩
      · cases hl
    · rename_i r ofs sz en m
      split at hl
      · rename_i l hr
        cases hl
        simp only [VR] at hx
        obtain ⟨L', i, hL', hi, hlt, rfl⟩ := hx
        obtain ⟨k, hk, hkx⟩ := readX_ok (σ := σ) (ρ := ρ) hr hi hlt
        obtain ⟨L, C, e, xs, hL, hb, hv, hn, hn', hle, hc⟩ := read_ok R hk ⟨_, hL'⟩
        rw [hL] at hL'; cases hL'
        have := run_loadCells_list (P := P) W ⟨L'.blk, L'.base + (ofs + i * sz), none⟩ xs hc
        rw [hn] at this
        refine ⟨_, .agg xs.toArray, rfl, by simp [loadVar, aggT_ok W h1, szT_ok W h2, this], ?_⟩
        simp only [VR]
        exact ⟨_, rfl, by simpa using hkx xs hn' hv⟩
      · cases hl
    · cases hl
  | false =>
    simp only [h1] at hl
    split at hl
    · rename_i r ofs
      split at hl
      · rename_i u1 hr
        cases hl
        obtain ⟨L, C, e, xs, hL, hb, hv, hn, hn', hle, hc⟩ := read_ok R hr (ptr_known hx)
        simp only [VR] at hx
        obtain ⟨L', hL', rfl⟩ := hx
        rw [hL] at hL'; cases hL'
        simp only [VRs] at hv
        obtain ⟨y, l, rfl, hy, rfl⟩ := hv
        have := hc 0 y rfl
        simp only [Addr.add, if_true] at this
        exact ⟨_, y, rfl, by simp [loadVar, aggT_ok W h1, run_load, this], hy⟩
      · cases hl
    · rename_i r ofs sz en m
      split at hl
      · rename_i u1 hr
        cases hl
        simp only [VR] at hx
        obtain ⟨L', i, hL', hi, hlt, rfl⟩ := hx
        obtain ⟨k, hk, hkx⟩ := readX_ok (σ := σ) (ρ := ρ) hr hi hlt
        obtain ⟨L, C, e, xs, hL, hb, hv, hn, hn', hle, hc⟩ := read_ok R hk ⟨_, hL'⟩
        rw [hL] at hL'; cases hL'
        have hv := hkx xs hn' hv
        simp only [VRs] at hv
        obtain ⟨y, l, rfl, hy, rfl⟩ := hv
        have := hc 0 y rfl
        simp only [Addr.add, if_true] at this
        exact ⟨_, y, rfl, by simp [loadVar, aggT_ok W h1, run_load, this], hy⟩
      · cases hl
    · cases hl
theorem good_load (t : TypeId) (a : Operand) : GoodQ P σ (.load t a) (s0v (loadP P t) a) :=
  good_s0v (by simp [Op.operands]) fun W0 h u v ρ W ε o ho hf hu R => by
    obtain ⟨a, y, hx, hr, hv⟩ := load_ok R hf hu
    exact ⟨y, by simp [execOp, ho, hx, Instr.loadAt, Instr.sureAddr, hr], hv⟩
theorem good_store (t : TypeId) (a x : Operand) : Good P σ (.store t a x) (sStore (storeP P t) a x) := by
  intro W0 T h v h' ρ W ε o ho hs hε R
  simp only [sStore] at hs
  split at hs
  · rename_i u1 u2 e1 e2
    have ha := hε a (by simp [Op.operands]) _ e1
    have hx := hε x (by simp [Op.operands]) _ e2
    cases hst : storeP P t h u1 u2 with
    | none => rw [hst] at hs; cases hs
    | some h1 =>
      rw [hst] at hs
      simp only [unitH, Option.some.injEq, Prod.mk.injEq] at hs
      obtain ⟨rfl, rfl⟩ := hs
      unfold storeP at hst
      rcases h2 : szT P t with _ | n
      · simp only [h2] at hst; cases hst
      · simp only [h2] at hst
        split at hst
        · rename_i r ofs
          split at hst
          · rename_i e3
            rw [lenL_eq] at e3
            have e3 := beqN e3
            obtain ⟨L, C, e, W', hL, hb, hle, hrun, S⟩ := write_ok R hst (ptr_known ha) (cells_ok (write_noJunk hst) hx) P
            simp only [VR] at ha
            obtain ⟨L', hL', ha⟩ := ha
            rw [hL] at hL'; cases hL'
            have hsz : (ε x).cells.size = n := by rw [← e3, ← (cells_ok (write_noJunk hst) hx).length]; simp
            exact fine_skip (by simp [execOp, ho, ha, Instr.storeAt, Instr.sureAddr, storeVar, szT_ok W h2, hsz, hrun]) S
          · cases hst
        · cases hst
  · cases hs
theorem good_nilCheck (x : Operand) : GoodQ P σ (.nilCheck x) (s0v (fun _ => checked) x) :=
  good_s0v (by simp [Op.operands]) fun W0 h u v ρ W ε o ho hf hu R => by
    unfold checked at hf
    split at hf <;> cases hf
    · simp only [VR] at hu
      obtain ⟨l, hl, hu⟩ := hu
      exact ⟨_, by simp [execOp, ho, hu]; rfl, by simp only [VR]; exact ⟨l, hl, rfl⟩⟩
    · simp only [VR] at hu
      obtain ⟨l, i, hl, hi, hlt, hu⟩ := hu
      exact ⟨_, by simp [execOp, ho, hu]; rfl, by simp only [VR]; exact ⟨l, i, hl, hi, hlt, rfl⟩⟩
    · simp only [VR] at hu
      obtain ⟨y, hy, hu⟩ := hu
      exact ⟨_, by simp [execOp, ho, hy]; rfl, by simp only [VR]; exact ⟨y, rfl, hu⟩⟩
    · simp only [VR] at hu
      obtain ⟨a', b', hy, h1, h2⟩ := hu
      exact ⟨_, by simp [execOp, ho, hy]; rfl, by simp only [VR]; exact ⟨a', b', rfl, h1, h2⟩⟩
theorem good_iface (t : TypeId) (x : Operand) : GoodQ P σ (.makeInterface t x) (sIface P t x) := by
  unfold sIface
  split
  · exact quiet_fail _
  · rename_i d hd hu
    refine good_s0v (by simp [Op.operands]) fun W0 h u v ρ W ε o ho hf hx R => ?_
    cases hf
    refine ⟨.iface t (ε x), ?_, by simp only [VR]; exact ⟨_, rfl, hx⟩⟩
    have : (Instr.makeInterface t (ε x)).run P W = .ok (.iface t (ε x)) W := by
      simp only [Instr.makeInterface, Sem.run_bind, run_underlying hu, Result.andThen_ok]
      cases d <;> first | rfl | exact absurd rfl (hd _)
    simp [execOp, ho, this]
  · exact quiet_fail _
theorem opds_ok {ρ : Inj} {T : Tm} {ε : Operand → Value} : ∀ {l : List Operand} {vs : List V}, opds l T = some vs → (∀ x, x ∈ l → OpR σ ρ T ε x) → VRs σ ρ vs (l.map ε)
  | [], vs, h, _ => by simp only [opds] at h; cases h; exact VRs.nil
  | x :: l, vs, h, he => by
    simp only [opds] at h
    split at h
    · rename_i v r h1 h2
      cases h
      exact VRs.cons (he x (by simp) _ h1) (opds_ok h2 fun y hy => he y (by simp [hy]))
    · cases h
theorem good_func (fn : Fn) (a b : Array Operand) : GoodQ P σ (.makeFunc fn a b) (sFunc fn a.toList b.toList) := by
  unfold sFunc
  split
  · rename_i f
    intro W0 T h v h' ρ W ε o ho hs hε R
    simp only [] at hs
    split at hs
    · rename_i u1 u2 e1 e2
      cases hs
      have k1 := opds_ok e1 (fun x hx => hε x (by simp only [Op.operands, Array.toList_append]; exact List.mem_append.2 (.inl hx)))
      have k2 := opds_ok e2 (fun x hx => hε x (by simp only [Op.operands, Array.toList_append]; exact List.mem_append.2 (.inr hx)))
      refine ⟨rfl, .func (.func f) (a.map ε) (b.map ε), by simp [execOp, ho, Instr.makeFunc], ?_⟩
      simp only [VR]
      exact ⟨_, _, rfl, by simpa using k1, by simpa using k2⟩
    · cases hs
  · exact quiet_fail _
theorem good_makeMap (t : TypeId) (r : Option Operand) : GoodM P σ (.makeMap t r) (sMakeMap r) := by
  unfold sMakeMap
  split
  · intro T h v h' ρ W ε o ho hs hε R
    cases hs
    refine ⟨.map (some W.heap.size), .map #[] 0, .map [] 0, 0, by simp [execOp, ho, Instr.makeMap, newObj, Sem.run], rfl, rfl, ⟨#[], heap_alloc_new W _, by simp [entR]⟩, ?_⟩
    simp only [VR]
    exact ⟨_, by simp [Inj.plus]; rfl, rfl⟩
  · exact make_fail _
theorem good_extract (t : Operand) (i : Nat) : GoodQ P σ (.extract t i) (s0v (fun _ => nthT i) t) :=
  good_s0v (by simp [Op.operands]) fun W0 h u v ρ W ε o ho hf hu R => by
    unfold nthT at hf
    split at hf
    · rename_i vs
      rw [nthL_eq] at hf
      simp only [VR] at hu
      obtain ⟨xs, hx, hv⟩ := hu
      obtain ⟨y, hy, hvy⟩ := hv.get i hf
      have hy' : xs[i]? = some y := by simpa using hy
      exact ⟨y, by simp [execOp, ho, hx, Instr.extract, hy'], hvy⟩
    · cases hf
theorem natOf_ok {ρ : Inj} {v : V} {n : Nat} {x : Value} (h : natOf v = some n) (hx : VR σ ρ v x) : ∃ k, x = .int k n := by
  unfold natOf at h
  split at h
  · cases h; simp only [VR, E.den] at hx; exact ⟨_, hx⟩
  · cases h
theorem good_field (s : TypeId) (x : Operand) (f : Nat) : GoodQ P σ (.field s x f) (s0v (fun _ => fieldP P s f) x) :=
  good_s0v (by simp [Op.operands]) fun W0 h u v ρ W ε o ho hf hu R => by
    unfold fieldP at hf
    rcases hun : P.underlying s with _ | d
    · simp only [hun] at hf; cases hf
    cases d <;> simp only [hun] at hf <;> try (cases hf; done)
    case struct fields =>
      rcases hfd : fields[f]? with _ | fd
      · simp only [hfd] at hf; cases hf
      · simp only [hfd] at hf
        split at hf
        · rename_i cs
          simp only [VR] at hu
          obtain ⟨xs, hx, hv⟩ := hu
          obtain ⟨y, hy, hvy⟩ := part_ok W hf hv
          exact ⟨y, by simp [execOp, ho, hx, Instr.field, run_underlying hun, hfd, asAgg, hy], hvy⟩
        · cases hf
theorem good_fieldAddr (s : TypeId) (x : Operand) (f : Nat) : GoodQ P σ (.fieldAddr s x f) (s0v (fun _ => fieldAtP P s f) x) :=
  good_s0v (by simp [Op.operands]) fun W0 h u v ρ W ε o ho hf hu R => by
    unfold fieldAtP at hf
    rcases hun : P.underlying s with _ | d
    · simp only [hun] at hf; cases hf
    cases d <;> simp only [hun] at hf <;> try (cases hf; done)
    case struct fields =>
      rcases hfd : fields[f]? with _ | fd
      · simp only [hfd] at hf; cases hf
      · simp only [hfd] at hf
        rcases hsz : szT P fd.type with _ | n
        · simp only [hsz] at hf; cases hf
        cases n with
        | zero => simp only [hsz] at hf; cases hf
        | succ n =>
          simp only [hsz] at hf
          split at hf
          · rename_i r ofs
            cases hf
            simp only [VR] at hu
            obtain ⟨L, hL, hx⟩ := hu
            refine ⟨_, by simp [execOp, ho, hx, Instr.fieldAt, run_underlying hun, hfd, Instr.sureAddr, fieldPlace, szT_ok W hsz, add_off]; rfl, ?_⟩
            simp only [VR]
            exact ⟨L, hL, by simp [Nat.add_assoc]⟩
          · rename_i r ofs sz en m
            cases hf
            simp only [VR] at hu
            obtain ⟨L, i, hL, hi, hlt, hx⟩ := hu
            refine ⟨_, by simp [execOp, ho, hx, Instr.fieldAt, run_underlying hun, hfd, Instr.sureAddr, fieldPlace, szT_ok W hsz, add_off]; rfl, ?_⟩
            simp only [VR]
            exact ⟨L, i, hL, hi, hlt, by simp; omega⟩
          · cases hf
theorem capF_ok {a : E} : ∀ (fs : List (Bool × E × E × Bool)), (∀ q a b t, (q, a, b, t) ∈ fs → (match q with | true => decide (a.den σ = b.den σ) | false => decide (a.den σ < b.den σ)) = t) → ∀ c, capF a fs = some c → a.den σ ≤ (c : Int)
  | [], _, c, h => by simp [capF] at h
  | (q, x, y, t) :: fs, hf, c, h => by
    have ih := capF_ok (a := a) fs (fun q a b t hm => hf q a b t (by simp [hm])) c
    simp only [capF] at h
    split at h
    · split at h
      · rename_i c'
        split at h
        · rename_i e
          cases h
          have e := eqE_eq e
          subst e
          have := hf false (.lit (.ofNat c)) y false (List.mem_cons_self ..)
          have this : decide ((c : Int) < y.den σ) = false := this
          rw [decide_eq_false_iff_not] at this
          omega
        · exact ih h
      · exact ih h
    · exact ih h
theorem boundN_ok {Γ : Cx} (G : GoodCx σ Γ) {a : E} {m : Nat} (h : boundN Γ a = some m) : 0 ≤ a.den σ ∧ a.den σ ≤ (m : Int) := by
  unfold boundN at h
  split at h
  · rename_i lo m' hrg
    cases h
    obtain ⟨r1, r2⟩ := rg_ok G a _ _ hrg
    exact ⟨Int.le_trans (Int.natCast_nonneg lo) r1, r2⟩
  · split at h
    · rename_i c e1 e2
      cases h
      have h1 := capF_ok (σ := σ) Γ.facts G.facts _ e1
      have h2 := ltE_ok G _ _ _ e2
      rw [decide_eq_false_iff_not, show (E.lit 1).den σ = 1 from rfl] at h2
      exact ⟨by omega, h1⟩
    · cases h
theorem elemX_ok {Γ : Cx} (G : GoodCx σ Γ) {ρ : Inj} {r o n len : Nat} {i v : V} {x : Value} (h : elemX Γ r o n len i = some v) (hx : VR σ ρ i x) : ∃ (k : IntKind) (a : E) (j m : Nat), v = .ptx r o n a m ∧ x = .int k (j : Int) ∧ (j : Int) = a.den σ ∧ j < m ∧ j < len := by
  unfold elemX at h
  split at h
  · rename_i k a
    split at h
    · rename_i m hrg
      split at h
      · rename_i hm
        cases h
        obtain ⟨r0, r2⟩ := boundN_ok G hrg
        obtain ⟨j, hj⟩ := Int.eq_ofNat_of_zero_le r0
        rw [hj] at r2
        have r3 : j ≤ m := Int.ofNat_le.1 r2
        have r4 := bleN hm
        simp only [VR] at hx
        exact ⟨k, a, j, m + 1, rfl, by rw [hx, hj], hj.symm, by omega, by omega⟩
      · cases h
    · cases h
  · cases h
theorem elemAt_ok {r o i n len : Nat} {v : V} (h : elemAt r o i n len = some v) : i < len ∧ v = .ptr r (o + i * n) := by
  unfold elemAt at h
  split at h
  · rename_i e; cases h; have := bleN e; exact ⟨by omega, rfl⟩
  · cases h
theorem good_indexAddr {Γ : Cx} (G : GoodCx σ Γ) (t : TypeId) (x i : Operand) : GoodQ P σ (.indexAddr t x i) (s2v (fun _ => indexAtP Γ P t) x i) :=
  good_s2v (by simp [Op.operands]) (by simp [Op.operands]) fun W0 h a b v ρ W ε o ho hf ha hb R => by
    unfold indexAtP at hf
    rcases hun : P.underlying t with _ | d
    · simp only [hun] at hf; cases hf
    cases d <;> simp only [hun] at hf <;> try (cases hf; done)
    case array len e =>
      rcases hsz : szT P e with _ | n
      · simp only [hsz] at hf; cases hf
      · simp only [hsz] at hf
        split at hf
        · rename_i r ofs i' hi
          obtain ⟨hlt, rfl⟩ := elemAt_ok hf
          obtain ⟨k, hk⟩ := natOf_ok hi hb
          simp only [VR] at ha
          obtain ⟨L, hL, hx⟩ := ha
          refine ⟨_, by simp [execOp, ho, hx, hk, Instr.indexAt, asIntOf, run_underlying hun, Instr.sureAddr, hlt, szT_ok W hsz, add_off]; rfl, ?_⟩
          simp only [VR]
          exact ⟨L, hL, by simp [Nat.add_assoc]⟩
        · rename_i r ofs hi
          obtain ⟨k, a', j, m, rfl, hk, hj, hlt, hlt'⟩ := elemX_ok G hf hb
          simp only [VR] at ha
          obtain ⟨L, hL, hx⟩ := ha
          refine ⟨_, by simp [execOp, ho, hx, hk, Instr.indexAt, asIntOf, run_underlying hun, Instr.sureAddr, hlt', szT_ok W hsz, add_off]; rfl, ?_⟩
          simp only [VR]
          exact ⟨L, j, hL, hj, hlt, by simp [Nat.add_assoc]⟩
        · rename_i r ofs sz a' m i' hi
          split at hf
          · rename_i hle
            cases hf
            have hlt := bleN hle
            obtain ⟨k, hk⟩ := natOf_ok hi hb
            simp only [VR] at ha
            obtain ⟨L, j, hL, hj, hjm, hx⟩ := ha
            have h1 : i' < len := by omega
            refine ⟨_, by simp [execOp, ho, hx, hk, Instr.indexAt, asIntOf, run_underlying hun, Instr.sureAddr, h1, szT_ok W hsz, add_off]; rfl, ?_⟩
            simp only [VR]
            exact ⟨L, j, hL, hj, hjm, by simp; omega⟩
          · cases hf
        · cases hf
    case slice e =>
      rcases hsz : szT P e with _ | n
      · simp only [hsz] at hf; cases hf
      · simp only [hsz] at hf
        split at hf
        · rename_i r ofs len cap esz ex i' hi
          obtain ⟨hlt, rfl⟩ := elemAt_ok hf
          obtain ⟨k, hk⟩ := natOf_ok hi hb
          simp only [VR] at ha
          obtain ⟨L, cap', hL, hx, _⟩ := ha
          refine ⟨_, by simp [execOp, ho, hx, hk, Instr.indexAt, asIntOf, run_underlying hun, hlt, szT_ok W hsz, add_off]; rfl, ?_⟩
          simp only [VR]
          exact ⟨L, hL, by simp [Nat.add_assoc]⟩
        · rename_i r ofs len cap esz ex hi
          obtain ⟨k, a', j, m, rfl, hk, hj, hlt, hlt'⟩ := elemX_ok G hf hb
          simp only [VR] at ha
          obtain ⟨L, cap', hL, hx, _⟩ := ha
          refine ⟨_, by simp [execOp, ho, hx, hk, Instr.indexAt, asIntOf, run_underlying hun, hlt', szT_ok W hsz, add_off]; rfl, ?_⟩
          simp only [VR]
          exact ⟨L, j, hL, hj, hlt, by simp [Nat.add_assoc]⟩
        · cases hf
theorem bytesA_get (s : List Nat) (i : Nat) : (bytesA s)[i]? = (s[i]?).map UInt8.ofNat := by
  show (if h : i < (bytesA s).size then some ((bytesA s).get i h) else none) = _
  have hsz : (bytesA s).size = s.length := by simp [bytesA, ByteArray.size]
  split
  · rename_i h
    rw [hsz] at h
    simp [bytesA, ByteArray.get, h]
  · rename_i h
    rw [hsz] at h
    simp [List.getElem?_eq_none (Nat.le_of_not_lt h)]
theorem good_index (t : TypeId) (x i : Operand) : GoodQ P σ (.index t x i) (s2v (fun _ => indexP P t) x i) :=
  good_s2v (by simp [Op.operands]) (by simp [Op.operands]) fun W0 h a b v ρ W ε o ho hf ha hb R => by
    unfold indexP at hf
    rcases hun : P.underlying t with _ | d
    · simp only [hun] at hf; cases hf
    cases d <;> simp only [hun] at hf <;> try (cases hf; done)
    case array len e =>
      rcases hsz : szT P e with _ | n
      · simp only [hsz] at hf; cases hf
      · simp only [hsz] at hf
        split at hf
        · rename_i cs i' hi
          split at hf
          · rename_i hle
            have hlt := bleN hle
            obtain ⟨k, hk⟩ := natOf_ok hi hb
            simp only [VR] at ha
            obtain ⟨xs, hx, hv⟩ := ha
            obtain ⟨y, hy, hvy⟩ := part_ok W hf hv
            have h1 : i' < len := by omega
            exact ⟨y, by simp [execOp, ho, hx, hk, Instr.index, asIntOf, run_underlying hun, h1, szT_ok W hsz, hy], hvy⟩
          · cases hf
        · cases hf
    case string =>
      split at hf
      · rename_i s i' hi
        rw [nthL_eq] at hf
        split at hf
        · rename_i b' hb'
          cases hf
          obtain ⟨k, hk⟩ := natOf_ok hi hb
          simp only [VR] at ha
          have hg := bytesA_get s i'
          rw [hb'] at hg
          have h1 : (0 : Int) ≤ (i' : Int) := by omega
          refine ⟨_, by simp [execOp, ho, ha, hk, Instr.index, asIntOf, run_underlying hun, h1, hg]; rfl, ?_⟩
          simp [VR, E.den]
        · cases hf
      · cases hf
end
end Tk
