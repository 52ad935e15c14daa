/- The evaluator's operations held against the model's, one by one (3): slicing, append, copy, and what else is built in. -/
import Derived.Test.YtphhnhheedbjjaaGreatDoorEvOps2
set_option linter.unusedVariables false
set_option linter.unusedSimpArgs false
namespace Tk
open Go Go.RowKit

section
variable {P : Program} {σ : Nat → Int} {ρ : Inj}
def OptR (σ : Nat → Int) (ρ : Inj) : Option V → Option Value → Prop
  | none, none => True
  | some v, some x => VR σ ρ v x
  | _, _ => False
theorem opdO_ok {T : Tm} {ε : Operand → Value} {x : Option Operand} {v : Option V} (h : opdO x T = some v) (he : ∀ y, y ∈ x.toList → OpR σ ρ T ε y) : OptR σ ρ v (x.map ε) := by
  cases x with
  | none => simp only [opdO] at h; cases h; trivial
  | some y =>
    simp only [opdO] at h
    split at h
    · rename_i u hu; cases h; exact he y (by simp) _ hu
    · cases h
theorem sliceBound_ok (w : World) {v : V} {x : Value} {n y : Nat} (c : BoundsCode) (h : natOf v = some n) (hx : VR σ ρ v x) (hle : n ≤ y) : (Instr.sliceBound x y c).run P w = .ok n w := by
  obtain ⟨k, rfl⟩ := natOf_ok h hx
  simp [Instr.sliceBound, asIntOf, hle]
theorem upTo_ok {n y m : Nat} (h : upTo n y = some m) : m = n ∧ n ≤ y := by
  unfold upTo at h
  split at h
  · rename_i e; cases h; exact ⟨rfl, bleN e⟩
  · cases h
theorem boundV_ok (w : World) {v : Option V} {x : Option Value} {d y n : Nat} (h : boundV v d y = some n) (hx : OptR σ ρ v x) (c : BoundsCode) (y' : Nat) (hy : y ≤ y') :
    n ≤ y ∧ (match (generalizing := false) x with | some z => (Instr.sliceBound z y' c).run P w = .ok n w | none => n = d) := by
  unfold boundV at h
  split at h
  · obtain ⟨rfl, hle⟩ := upTo_ok h
    cases x with
    | none => exact ⟨hle, rfl⟩
    | some z => exact hx.elim
  · rename_i u
    split at h
    · rename_i m hm
      obtain ⟨rfl, hle⟩ := upTo_ok h
      cases x with
      | none => exact hx.elim
      | some z => exact ⟨hle, sliceBound_ok w c hm hx (by omega)⟩
    · cases h
theorem bounds_ok (w : World) {lo hi : Option V} {lo' hi' : Option Value} {d y l hh : Nat} (h : boundsV lo hi d y = some (l, hh)) (hlo : OptR σ ρ lo lo') (hhi : OptR σ ρ hi hi') (b : Bool) (y' : Nat) (hy : y ≤ y') :
    l ≤ hh ∧ hh ≤ y ∧ (Instr.sliceBounds b d y' lo' hi' none).run P w = .ok (l, hh, y') w := by
  unfold boundsV at h
  split at h
  · rename_i k hk
    split at h
    · rename_i l' hl'
      simp only [Option.some.injEq, Prod.mk.injEq] at h
      obtain ⟨rfl, rfl⟩ := h
      obtain ⟨h1, h2⟩ := boundV_ok (P := P) w hk hhi (if b then .sliceAcap else .sliceAlen) y' hy
      obtain ⟨h3, h4⟩ := boundV_ok (P := P) w hl' hlo .sliceB k (Nat.le_refl _)
      refine ⟨h3, h1, ?_⟩
      cases hi' with
      | none =>
        simp only [] at h2
        subst h2
        cases lo' with
        | none => simp only [] at h4; subst h4; simp [Instr.sliceBounds]
        | some z => simp only [] at h4; simp [Instr.sliceBounds, h4]
      | some z2 =>
        simp only [] at h2
        cases lo' with
        | none => simp only [] at h4; subst h4; simp [Instr.sliceBounds, h2]
        | some z => simp only [] at h4; simp [Instr.sliceBounds, h2, h4]
    · cases h
  · cases h
theorem bounds3_ok (w : World) {lo : Option V} {hi mx : V} {lo' : Option Value} {hi' mx' : Value} {d y l hh m : Nat} (hm : boundV (some mx) 0 y = some m) (h : boundsV lo (some hi) 0 m = some (l, hh))
    (hlo : OptR σ ρ lo lo') (hhi : VR σ ρ hi hi') (hmx : VR σ ρ mx mx') (b : Bool) (y' : Nat) (hy : y ≤ y') :
    l ≤ hh ∧ hh ≤ m ∧ m ≤ y ∧ (Instr.sliceBounds b d y' lo' (some hi') (some mx')).run P w = .ok (l, hh, m) w := by
  obtain ⟨m1, m2⟩ := boundV_ok (P := P) (x := some mx') w hm hmx (if b then .slice3Acap else .slice3Alen) y' hy
  unfold boundsV at h
  split at h
  · rename_i k hk
    split at h
    · rename_i l' hl'
      simp only [Option.some.injEq, Prod.mk.injEq] at h
      obtain ⟨rfl, rfl⟩ := h
      obtain ⟨h1, h2⟩ := boundV_ok (P := P) (x := some hi') w hk hhi .slice3B m (Nat.le_refl _)
      obtain ⟨h3, h4⟩ := boundV_ok (P := P) w hl' hlo .slice3C k (Nat.le_refl _)
      refine ⟨h3, h1, m1, ?_⟩
      simp only [] at m2 h2
      cases lo' with
      | none => simp only [] at h4; subst h4; simp [Instr.sliceBounds, m2, h2]
      | some z => simp only [] at h4; simp [Instr.sliceBounds, m2, h2, h4]
    · cases h
  · cases h

theorem ite_some {α : Type} (c : Prop) [Decidable c] (a b : α) : (if c then some a else some b) = some (if c then a else b) := by split <;> rfl
/-- slicing with two indexes, a slice -/
theorem slice2_ok (w : World) {t e : TypeId} {n : Nat} {x v : V} {lo hi : Option V} {x' : Value} {lo' hi' : Option Value} (hun : P.underlying t = some (.slice e)) (hsz : szT P e = some n)
    (h : slice2 n x lo hi = some v) (hx : VR σ ρ x x') (hlo : OptR σ ρ lo lo') (hhi : OptR σ ρ hi hi') : ∃ y, (Instr.sliceAt t x' lo' hi' none).run P w = .ok y w ∧ VR σ ρ v y := by
  unfold slice2 at h
  split at h
  · rename_i r ofs len cap esz ex
    split at h
    · rename_i e1
      have e1 := beqN e1
      subst e1
      split at h
      · rename_i l hh hb
        simp only [VR] at hx
        obtain ⟨L, cap', hL, rfl, c1, c2, c3⟩ := hx
        obtain ⟨b1, b2, b3⟩ := bounds_ok (P := P) w hb hlo hhi true cap' c1
        refine ⟨_, by simp [Instr.sliceAt, run_underlying hun, Instr.slice, b3, szT_ok w hsz]; rfl, ?_⟩
        unfold sliceAtV at h
        split at h
        · cases h
          simp only [VR]
          exact ⟨L, cap', hL, by simp [add_off], c1, c2, c3⟩
        · rename_i k
          split at h
          · rename_i e2
            have e2 := bleN e2
            cases h
            simp only [VR]
            refine ⟨L, cap' - (k + 1), hL, ?_, by omega, fun q => by rw [c2 q], fun q => ?_⟩
            · rw [if_neg (by omega)]
              simp [add_off, Nat.add_assoc]
            · have := c3 q
              rw [← this, Nat.add_assoc, ← Nat.add_mul]
              congr 2
              omega
          · rename_i e2
            have e2 := bleF e2
            cases h
            simp only [VR]
            have : hh - (k + 1) = 0 := by omega
            rw [this]
            refine ⟨_, cap' - (k + 1), by rw [ite_some], fun q => by rw [c2 q]; omega⟩
      · cases h
    · cases h
  · rename_i ex
    split at h
    · rename_i q hb
      obtain ⟨l, hh⟩ := q
      cases h
      simp only [VR] at hx
      obtain ⟨a, cap', rfl, c1⟩ := hx
      obtain ⟨b1, b2, b3⟩ := bounds_ok (P := P) w hb hlo hhi true cap' (Nat.zero_le _)
      have hl0 : l = 0 := by omega
      have hh0 : hh = 0 := by omega
      subst hl0 hh0
      refine ⟨_, by simp [Instr.sliceAt, run_underlying hun, Instr.slice, b3, szT_ok w hsz]; rfl, ?_⟩
      simp only [VR]
      exact ⟨_, cap', by rw [ite_some], c1⟩
    · cases h
  · split at h
    · rename_i q hb
      obtain ⟨l, hh⟩ := q
      cases h
      simp only [VR] at hx
      subst hx
      obtain ⟨b1, b2, b3⟩ := bounds_ok (P := P) w hb hlo hhi true 0 (Nat.le_refl _)
      have hl0 : l = 0 := by omega
      have hh0 : hh = 0 := by omega
      subst hl0 hh0
      exact ⟨.slice none 0 0, by simp [Instr.sliceAt, run_underlying hun, Instr.slice, b3, szT_ok w hsz], by simp [VR]⟩
    · cases h
  · cases h
theorem slice3_ok (w : World) {t e : TypeId} {n : Nat} {x v : V} {lo hi mx : Option V} {x' : Value} {lo' hi' mx' : Option Value} (hun : P.underlying t = some (.slice e)) (hsz : szT P e = some n)
    (h : slice3 n x lo hi mx = some v) (hx : VR σ ρ x x') (hlo : OptR σ ρ lo lo') (hhi : OptR σ ρ hi hi') (hmx : OptR σ ρ mx mx') : ∃ y, (Instr.sliceAt t x' lo' hi' mx').run P w = .ok y w ∧ VR σ ρ v y := by
  unfold slice3 at h
  split at h
  · rename_i mx hi
    cases mx' with
    | none => exact hmx.elim
    | some mx' =>
    cases hi' with
    | none => exact hhi.elim
    | some hi' =>
    split at h
    · rename_i r ofs len cap esz ex
      split at h
      · rename_i m e1 em
        have e1 := beqN e1
        subst e1
        split at h
        · rename_i l hh hb
          simp only [VR] at hx
          obtain ⟨L, cap', hL, rfl, c1, c2, c3⟩ := hx
          obtain ⟨b1, b2, b3, b4⟩ := bounds3_ok (P := P) (d := len) w em hb hlo hhi hmx true cap' c1
          refine ⟨_, by simp [Instr.sliceAt, run_underlying hun, Instr.slice, b4, szT_ok w hsz]; rfl, ?_⟩
          unfold sliceAtV at h
          split at h
          · cases h
            simp only [VR]
            exact ⟨L, m, hL, by simp [add_off], Nat.le_refl _, fun _ => rfl, fun q => by cases q⟩
          · rename_i k
            split at h
            · rename_i e2
              have e2 := bleN e2
              cases h
              simp only [VR]
              refine ⟨L, m - (k + 1), hL, ?_, Nat.le_refl _, fun _ => rfl, fun q => by cases q⟩
              rw [if_neg (by omega)]
              simp [add_off, Nat.add_assoc]
            · rename_i e2
              have e2 := bleF e2
              cases h
              simp only [VR]
              have : hh - (k + 1) = 0 := by omega
              rw [this]
              exact ⟨_, m - (k + 1), by rw [ite_some], fun _ => by omega⟩
        · cases h
      · cases h
    · rename_i ex
      split at h
      · rename_i m q em hb
        obtain ⟨l, hh⟩ := q
        cases h
        simp only [VR] at hx
        obtain ⟨a, cap', rfl, c1⟩ := hx
        have hm0 : m = 0 := by
          obtain ⟨q1, _⟩ := boundV_ok (P := P) (x := some mx') w em hmx .slice3Acap 0 (Nat.le_refl _)
          omega
        subst hm0
        obtain ⟨b1, b2, b3, b4⟩ := bounds3_ok (P := P) (d := 0) w em hb hlo hhi hmx true cap' (Nat.zero_le _)
        have hl0 : l = 0 := by omega
        have hh0 : hh = 0 := by omega
        subst hl0 hh0
        refine ⟨_, by simp [Instr.sliceAt, run_underlying hun, Instr.slice, b4, szT_ok w hsz]; rfl, ?_⟩
        simp only [VR]
        exact ⟨_, _, rfl, fun _ => rfl⟩
      · cases h
    · split at h
      · rename_i m q em hb
        obtain ⟨l, hh⟩ := q
        cases h
        simp only [VR] at hx
        subst hx
        have hm0 : m = 0 := by
          obtain ⟨q1, _⟩ := boundV_ok (P := P) (x := some mx') w em hmx .slice3Acap 0 (Nat.le_refl _)
          omega
        subst hm0
        obtain ⟨b1, b2, b3, b4⟩ := bounds3_ok (P := P) (d := 0) w em hb hlo hhi hmx true 0 (Nat.le_refl _)
        have hl0 : l = 0 := by omega
        have hh0 : hh = 0 := by omega
        subst hl0 hh0
        exact ⟨.slice none 0 0, by simp [Instr.sliceAt, run_underlying hun, Instr.slice, b4, szT_ok w hsz], by simp [VR]⟩
      · cases h
    · cases h
  · cases h
theorem bytesA_size (s : List Nat) : (bytesA s).size = s.length := by simp [bytesA, ByteArray.size]
theorem bytesA_extract (s : List Nat) (l h : Nat) : (bytesA s).extract l h = bytesA ((s.drop l).take (h - l)) := by
  apply ByteArray.ext
  rw [ByteArray.data_extract]
  apply Array.ext'
  simp only [bytesA, Array.toList_extract, List.extract_eq_take_drop, List.map_take, List.map_drop]
theorem pcs_val : ∀ s : List Nat, (pcs s).map (Pc.val σ) = s
  | [] => rfl
  | n :: l => by simp only [pcs, List.map_cons, Pc.val, pcs_val l]
theorem flatP_val : ∀ {ps : List Pc} {s : List Nat}, flatP ps = some s → ps.map (Pc.val σ) = s
  | [], s, h => by simp only [flatP] at h; cases h; rfl
  | .b n :: l, s, h => by
    simp only [flatP] at h
    split at h
    · rename_i r hr
      cases h
      rw [List.map_cons, flatP_val hr]; rfl
    · cases h
  | .d _ _ _ :: l, s, h => by simp only [flatP] at h; cases h
theorem normD_ok (ps : List Pc) : VR σ ρ (normD ps) (.string (bytesA (ps.map (Pc.val σ)))) := by
  unfold normD
  split
  · rename_i s hs; simp only [VR]; rw [flatP_val hs]
  · simp only [VR]
theorem toD_ok {v : V} {ps : List Pc} {x : Value} (h : toD v = some ps) (hx : VR σ ρ v x) : x = .string (bytesA (ps.map (Pc.val σ))) := by
  unfold toD at h
  split at h
  · cases h; simp only [VR] at hx; rw [hx, pcs_val]
  · cases h; simpa only [VR] using hx
  · cases h
theorem sliceS_ok (w : World) {t : TypeId} {x v : V} {lo hi : Option V} {x' : Value} {lo' hi' : Option Value} (hun : P.underlying t = some .string)
    (h : sliceS x lo hi = some v) (hx : VR σ ρ x x') (hlo : OptR σ ρ lo lo') (hhi : OptR σ ρ hi hi') : ∃ y, (Instr.sliceAt t x' lo' hi' none).run P w = .ok y w ∧ VR σ ρ v y := by
  unfold sliceS at h
  split at h
  · rename_i s
    split at h
    · rename_i l hh hb
      cases h
      simp only [VR] at hx
      subst hx
      rw [lenL_eq] at hb
      obtain ⟨b1, b2, b3⟩ := bounds_ok (P := P) w hb hlo hhi false s.length (Nat.le_refl _)
      refine ⟨.string ((bytesA s).extract l hh), by simp [Instr.sliceAt, run_underlying hun, Instr.slice, bytesA_size, b3], ?_⟩
      simp only [VR, takeL_eq, dropL_eq]
      rw [bytesA_extract]
    · cases h
  · rename_i s
    split at h
    · rename_i l hh hb
      cases h
      simp only [VR] at hx
      subst hx
      rw [lenL_eq] at hb
      obtain ⟨b1, b2, b3⟩ := bounds_ok (P := P) w hb hlo hhi false (s.map (Pc.val σ)).length (by simp)
      have e : (bytesA (s.map (Pc.val σ))).size = s.length := by rw [bytesA_size]; simp
      simp only [List.length_map] at b3
      refine ⟨.string ((bytesA (s.map (Pc.val σ))).extract l hh), by simp [Instr.sliceAt, run_underlying hun, Instr.slice, e, b3], ?_⟩
      rw [bytesA_extract, ← List.map_drop, ← List.map_take, takeL_eq, dropL_eq]
      exact normD_ok _
    · cases h
  · cases h
theorem sliceA_ok (w : World) {t e : TypeId} {n sz : Nat} {x v : V} {lo hi : Option V} {x' : Value} {lo' hi' : Option Value} (hun : P.underlying t = some (.array n e)) (hsz : szT P e = some sz)
    (h : sliceA n sz x lo hi = some v) (hx : VR σ ρ x x') (hlo : OptR σ ρ lo lo') (hhi : OptR σ ρ hi hi') : ∃ y, (Instr.sliceAt t x' lo' hi' none).run P w = .ok y w ∧ VR σ ρ v y := by
  unfold sliceA at h
  split at h
  · rename_i r ofs
    split at h
    · rename_i l hh hb
      simp only [VR] at hx
      obtain ⟨L, hL, rfl⟩ := hx
      obtain ⟨b1, b2, b3⟩ := bounds_ok (P := P) w hb hlo hhi false n (Nat.le_refl _)
      refine ⟨_, by simp [Instr.sliceAt, run_underlying hun, Instr.sureAddr, b3, szT_ok w hsz]; rfl, ?_⟩
      split at h
      · cases h
        simp only [VR]
        exact ⟨L, n, hL, by simp [add_off], Nat.le_refl _, fun _ => rfl, fun q => by cases q⟩
      · rename_i k s
        split at h
        · rename_i e2
          have e2 := bleN e2
          cases h
          simp only [VR]
          refine ⟨L, n - (k + 1), hL, ?_, Nat.le_refl _, fun _ => rfl, fun q => by cases q⟩
          rw [if_neg (by omega)]
          simp [add_off, Nat.add_assoc]
        · cases h
      · cases h
    · cases h
  · cases h
theorem good_slice (t : TypeId) (x : Operand) (lo hi mx : Option Operand) : GoodQ P σ (.slice t x lo hi mx) (sSlice P t x lo hi mx) := by
  intro W0 T h v h' ρ W ε o ho hs hε R
  simp only [sSlice] at hs
  split at hs
  · rename_i u l1 h1 m1 e1 e2 e3 e4
    obtain ⟨hb, rfl⟩ := keepH_ok hs
    have hx := hε x (by simp [Op.operands]) _ e1
    have hlo := opdO_ok (σ := σ) (ρ := ρ) (ε := ε) e2 (fun y hy => hε y (by simp [Op.operands] at hy ⊢; simp [hy]))
    have hhi := opdO_ok (σ := σ) (ρ := ρ) (ε := ε) e3 (fun y hy => hε y (by simp [Op.operands] at hy ⊢; simp [hy]))
    have hmx := opdO_ok (σ := σ) (ρ := ρ) (ε := ε) e4 (fun y hy => hε y (by simp [Op.operands] at hy ⊢; simp [hy]))
    have key : ∃ y, (Instr.sliceAt t (ε x) (lo.map ε) (hi.map ε) (mx.map ε)).run P W = .ok y W ∧ VR σ ρ v y := by
      unfold sliceP at hb
      rcases hun : P.underlying t with _ | d
      · simp only [hun] at hb; cases hb
      cases mx with
      | none =>
        cases d <;> simp only [hun, isSome'] at hb <;> try (cases hb; done)
        case string => exact sliceS_ok W hun hb hx hlo hhi
        case slice e =>
          rcases hsz : szT P e with _ | n
          · simp only [hsz] at hb; cases hb
          simp only [hsz] at hb
          exact slice2_ok W hun hsz hb hx hlo hhi
        case array n e =>
          rcases hsz : szT P e with _ | sz
          · simp only [hsz] at hb; cases hb
          simp only [hsz] at hb
          exact sliceA_ok W hun hsz hb hx hlo hhi
      | some m =>
        cases d <;> simp only [hun, isSome'] at hb <;> try (cases hb; done)
        case slice e =>
          rcases hsz : szT P e with _ | n
          · simp only [hsz] at hb; cases hb
          simp only [hsz] at hb
          exact slice3_ok W hun hsz hb hx hlo hhi hmx
    obtain ⟨y, hy, hv⟩ := key
    exact ⟨rfl, y, by simp [execOp, ho, hy], hv⟩
  · cases hs

/- what is built in -/
theorem first_ok {W0 : World} {h : H} {W : World} (R : Rel σ W0 ρ h W) {size n : Nat} {v : V} {x : Value} {l : List V} (hf : firstV h size n v = some l) (hx : VR σ ρ v x) :
    ∃ xs, (Builtin.firstCells size n x).run P W = .ok xs.toArray W ∧ VRs σ ρ l xs := by
  unfold firstV at hf
  split at hf
  · rename_i r ofs len cap esz ex
    simp only [VR] at hx
    obtain ⟨L, cap', hL, rfl, _⟩ := hx
    split at hf
    · cases hf
      exact ⟨[], by simp [Builtin.firstCells, loadCells, loadCellsFrom], VRs.nil⟩
    · rename_i k
      obtain ⟨L', C, e, xs, hL', hb, hv, hn, hn', hle, hc⟩ := read_ok R hf ⟨_, hL⟩
      rw [hL] at hL'; cases hL'
      exact ⟨xs, run_firstCells_some (P := P) W size (k + 1) _ len cap' xs hn hc, hv⟩
  · simp only [VR] at hx
    subst hx
    split at hf <;> cases hf
    exact ⟨[], by simp [Builtin.firstCells], VRs.nil⟩
  · simp only [VR] at hx
    obtain ⟨a, cap', rfl, _⟩ := hx
    split at hf <;> cases hf
    exact ⟨[], by simp [Builtin.firstCells, loadCells, loadCellsFrom], VRs.nil⟩
  · rename_i s
    cases hf
    simp only [VR] at hx
    subst hx
    have e : (Builtin.firstCells size n (.string (bytesA s))).run P W = .ok (((bytesA s).extract 0 n).data.map fun b => .int .u8 b.toNat) W := by
      simp only [Builtin.firstCells, Sem.run_pure]
    rw [bytesA_extract] at e
    simp only [List.drop_zero, Nat.sub_zero] at e
    rw [takeL_eq]
    refine ⟨_, by rw [e, ← Array.toArray_toList (xs := Array.map _ _)], ?_⟩
    generalize s.take n = q
    induction q with
    | nil => simp only [bytesV]; simpa [bytesA] using VRs.nil
    | cons b q ih =>
      have : (Array.map (fun b : UInt8 => Value.int IntKind.u8 ↑b.toNat) (bytesA (b :: q)).data).toList = Value.int .u8 ((UInt8.ofNat b).toNat : Int) :: (Array.map (fun b : UInt8 => Value.int IntKind.u8 ↑b.toNat) (bytesA q).data).toList := by simp [bytesA]
      rw [this]
      simp only [bytesV]
      exact VRs.cons (by simp [VR, E.den]) ih
  · cases hf
theorem lenV_ok {W0 : World} {h : H} {W : World} (R : Rel σ W0 ρ h W) {v : V} {x : Value} {n size k : Nat} {l : List V} (hl : lenV h v = some n) (hf : firstV h size k v = some l) (hx : VR σ ρ v x) : (Builtin.lenOf x).run P W = .ok n W := by
  unfold lenV at hl
  split at hl
  · cases hl; simp only [VR] at hx; subst hx; simp [Builtin.lenOf, bytesA_size, lenL_eq]
  · cases hl; simp only [VR] at hx; obtain ⟨_, _, _, rfl, _⟩ := hx; simp [Builtin.lenOf]
  · cases hl; simp only [VR] at hx; obtain ⟨_, _, rfl, _⟩ := hx; simp [Builtin.lenOf]
  · cases hl; simp only [VR] at hx; subst hx; simp [Builtin.lenOf]
  · cases hf
  · cases hf
  · cases hl
theorem appKind_ok {t : TypeId} {b : Bool} (h : appKind P t = some b) : (b = true ∧ ∃ k, P.underlying t = some (.int k)) ∨ (b = false ∧ ((∃ e, P.underlying t = some (.slice e)) ∨ P.underlying t = some .string)) := by
  unfold appKind at h
  split at h <;> cases h <;> simp_all
/-- what append asks of the two slices' types -/
structure AppArgs (P : Program) (ts : Array TypeId) (e : TypeId) (i : TypeInfo) (z : Value) (ints : Bool) : Prop where
  t0 : ∃ t, ts[0]? = some t ∧ P.underlying t = some (.slice e)
  t1 : ∃ t, ts[1]? = some t ∧ appKind P t = some ints
  hi : P.info? e = some i
  hz : i.zero = some z
theorem append_in (W : World) {ts : Array TypeId} {e : TypeId} {i : TypeInfo} {z : Value} {ints : Bool} (A : AppArgs P ts e i z ints) (ty : TypeId) {base : Option Addr} {sLen sCap n : Nat} {x : Value} {new : List Value}
    (hn : if ints then (asInt x).run P W = .ok (n : Int) W ∧ n ≤ 2 ^ 31 ∧ n * i.bytes ≤ 2 ^ 47 else (Builtin.lenOf x).run P W = .ok n W)
    (hnew : if ints then (if n * i.size = 0 then #[] else Builtin.zeroCells z.cells n) = new.toArray else (Builtin.firstCells i.size n x).run P W = .ok new.toArray W)
    (hle : sLen + n ≤ sCap) {W' : World} (hst : (match (generalizing := false) base with | some a => (storeCells (a.add (sLen * i.size)) new).run P W = .ok () W' | none => W' = W)) :
    (Builtin.append_ ts ty #[.slice base sLen sCap, x]).run P W = .ok (.slice base (sLen + n) sCap) W' := by
  obtain ⟨t, ht, hu⟩ := A.t0
  obtain ⟨t', ht', hk⟩ := A.t1
  rcases appKind_ok hk with ⟨rfl, k, hu'⟩ | ⟨rfl, ⟨e', hu'⟩ | hu'⟩
  rotate_left
  iterate 2
    simp only [Bool.false_eq_true, if_false] at hn hnew
    cases base with
    | none => simp only [] at hst; subst hst; simp [Builtin.append_, ht, ht', run_underlying hu, run_underlying hu', Go.sizeOf, typeInfo, A.hi, hn, hle, hnew]
    | some a => simp only [] at hst; simp [Builtin.append_, ht, ht', run_underlying hu, run_underlying hu', Go.sizeOf, typeInfo, A.hi, hn, hle, hnew, hst]
  · simp only [if_true] at hn hnew
    obtain ⟨h1, h2, h3⟩ := hn
    have wn := wrap64_nat n (by omega)
    have k1 : ¬ ((n : Int) < 0) := by omega
    have k2 : ¬ ((n : Int) * (i.bytes : Int) > 2 ^ 48) := by
      have : (n : Int) * (i.bytes : Int) = ((n * i.bytes : Nat) : Int) := by simp
      rw [this]; omega
    have k3 : ¬ (281474976710656 < (n : Int) * (i.bytes : Int)) := by omega
    by_cases h0 : n * i.size = 0
    · rw [if_pos h0] at hnew
      have hl : new = [] := by
        have := congrArg Array.toList hnew; simpa using this.symm
      subst hl
      cases base with
      | none => simp only [] at hst; subst hst; simp [Builtin.append_, ht, ht', run_underlying hu, run_underlying hu', Go.sizeOf, typeInfo, A.hi, h1, wn, k1, k3, hle, h0]
      | some a => simp only [] at hst; simp [Builtin.append_, ht, ht', run_underlying hu, run_underlying hu', Go.sizeOf, typeInfo, A.hi, h1, wn, k1, k3, hle, h0, hst]
    · rw [if_neg h0] at hnew
      cases base with
      | none => simp only [] at hst; subst hst; simp [Builtin.append_, ht, ht', run_underlying hu, run_underlying hu', Go.sizeOf, typeInfo, A.hi, h1, wn, k1, k3, hle, h0, zeroValue, A.hz, hnew]
      | some a => simp only [] at hst; simp [Builtin.append_, ht, ht', run_underlying hu, run_underlying hu', Go.sizeOf, typeInfo, A.hi, h1, wn, k1, k3, hle, h0, zeroValue, A.hz, hnew, hst]
theorem append_new (W : World) {ts : Array TypeId} {e : TypeId} {i : TypeInfo} {z : Value} {ints : Bool} (A : AppArgs P ts e i z ints) (ty : TypeId) {base : Option Addr} {sLen sCap n : Nat} {x : Value} {new old : List Value}
    (hn : if ints then (asInt x).run P W = .ok (n : Int) W ∧ n ≤ 2 ^ 31 ∧ n * i.bytes ≤ 2 ^ 47 else (Builtin.lenOf x).run P W = .ok n W)
    (hnew : if ints then (if n * i.size = 0 then #[] else Builtin.zeroCells z.cells n) = new.toArray else (Builtin.firstCells i.size n x).run P W.drew = .ok new.toArray W.drew)
    (hod : (Builtin.firstCells i.size sLen (.slice base sLen sCap)).run P W.drew = .ok old.toArray W.drew)
    (hle : sCap < sLen + n) (hb : (sLen + n) * i.bytes ≤ 2 ^ 36) (hs : sLen + n ≤ 2 ^ 36) :
    (Builtin.append_ ts ty #[.slice base sLen sCap, x]).run P W =
      .ok (.slice (some ⟨W.heap.size, 0, none⟩) (sLen + n) (grownCap W (sLen + n) sCap e)) (W.drew.alloc (.cells (old ++ new ++ (Builtin.zeroCells z.cells (grownCap W (sLen + n) sCap e - (sLen + n))).toList).toArray e)) := by
  obtain ⟨t, ht, hu⟩ := A.t0
  obtain ⟨t', ht', hk⟩ := A.t1
  have hnot : ¬ (sLen + n ≤ sCap) := by omega
  have hmx : ¬ (9223372036854775807 < ((sLen : Int) + (n : Int))) := by omega
  have hcap : ¬ (2 ^ 48 < Builtin.nextslicecap (sLen + n) sCap * i.bytes) := by
    have hc : Builtin.nextslicecap (sLen + n) sCap ≤ 2 * (sLen + n) + 1024 := by
      have hg : ∀ (r c : Nat), c ≤ 2 * (sLen + n) + 768 → Builtin.growBy (sLen + n) r c ≤ 2 * (sLen + n) + 768 := by
        intro r
        induction r with
        | zero => intro c h; simpa [Builtin.growBy] using h
        | succ r ih => intro c h; simp only [Builtin.growBy]; split
                       · exact h
                       · exact ih _ (by omega)
      unfold Builtin.nextslicecap
      split
      · omega
      · split
        · omega
        · have := hg 4 sCap (by omega); omega
    have h2 : Builtin.nextslicecap (sLen + n) sCap * i.bytes ≤ (2 * (sLen + n) + 1024) * i.bytes := Nat.mul_le_mul_right _ hc
    have h3 : (2 * (sLen + n) + 1024) * i.bytes = 2 * ((sLen + n) * i.bytes) + 1024 * i.bytes := by rw [Nat.add_mul, Nat.mul_assoc]
    have h4 : i.bytes ≤ (sLen + n) * i.bytes := Nat.le_mul_of_pos_left _ (by omega)
    omega
  have hcap' : ¬ (281474976710656 < Builtin.nextslicecap (sLen + n) sCap * i.bytes) := by omega
  have hroom : ∀ (b : Nat) (w : World), (askRoom b).run P w = .ok () w := by
    intro b w; unfold askRoom; split <;> simp [mark, Sem.run]
  have hcut : ∀ w : World, (choose (.appendCap (sLen + n) sCap e)).run P w = .ok (grownCap w (sLen + n) sCap e) w.drew := by
    intro w; simp [choose, Sem.run, Question.forced, grownCap]
  have hforced : (Question.appendCap (sLen + n) sCap e).forced = false := rfl
  rcases appKind_ok hk with ⟨rfl, k, hu'⟩ | ⟨rfl, hsl⟩
  · simp only [if_true] at hn hnew
    obtain ⟨h1, h2, h3⟩ := hn
    have wn := wrap64_nat n (by omega)
    have k1 : ¬ ((n : Int) < 0) := by omega
    have k2 : ¬ ((n : Int) * (i.bytes : Int) > 2 ^ 48) := by
      have : (n : Int) * (i.bytes : Int) = ((n * i.bytes : Nat) : Int) := by simp
      rw [this]; omega
    have k3 : ¬ (281474976710656 < (n : Int) * (i.bytes : Int)) := by omega
    by_cases h0 : n * i.size = 0
    · rw [if_pos h0] at hnew
      have hl : new = [] := by
        have := congrArg Array.toList hnew; simpa using this.symm
      subst hl
      simp [Builtin.append_, ht, ht', run_underlying hu, run_underlying hu', Go.sizeOf, typeInfo, A.hi, h1, wn, k1, k3, hnot, hmx, hcap', hcut, hroom, hod, h0, zeroValue, A.hz, newRow, newObj, Sem.run, hforced, grownCap]
      try (apply congrArg (fun a => W.drew.alloc (Obj.cells a e)); apply Array.ext'; simp)
    · rw [if_neg h0] at hnew
      simp [Builtin.append_, ht, ht', run_underlying hu, run_underlying hu', Go.sizeOf, typeInfo, A.hi, h1, wn, k1, k3, hnot, hmx, hcap', hcut, hroom, hod, h0, hnew, zeroValue, A.hz, newRow, newObj, Sem.run, hforced, grownCap]
      try (apply congrArg (fun a => W.drew.alloc (Obj.cells a e)); apply Array.ext'; simp)
  · simp only [Bool.false_eq_true, if_false] at hn hnew
    rcases hsl with ⟨e', hu'⟩ | hu' <;> (simp [Builtin.append_, ht, ht', run_underlying hu, run_underlying hu', Go.sizeOf, typeInfo, A.hi, hn, hnot, hmx, hcap', hcut, hroom, hod, hnew, zeroValue, A.hz, newRow, newObj, Sem.run, hforced, grownCap]; try (apply congrArg (fun a => W.drew.alloc (Obj.cells a e)); apply Array.ext'; simp))
end
end Tk
