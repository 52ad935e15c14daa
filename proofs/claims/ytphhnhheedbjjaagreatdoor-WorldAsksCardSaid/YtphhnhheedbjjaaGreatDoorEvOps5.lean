/- The evaluator's operations held against the model's, one by one (5): the other builtins, unary operations, conversions. -/
import Derived.Test.YtphhnhheedbjjaaGreatDoorEvOps4
import Derived.Laws.BytesString
set_option linter.unusedVariables false
set_option linter.unusedSimpArgs false
namespace Tk
open Go Go.RowKit

section
variable {P : Program} {σ : Nat → Int}
theorem first_ty {ts : Array TypeId} {t : TypeId} {l : List TypeId} (h : ts.toList = t :: l) : ts[0]? = some t := by rw [← Array.getElem?_toList, h]; rfl
theorem good_len (ts : Array TypeId) (t : TypeId) (l : List TypeId) (x : Operand) (hts : ts.toList = t :: l) : GoodQ P σ (.call ⟨.builtin .len, #[x], ts⟩) (s0 (lenP P t) x) :=
  good_s0q (by simp [Op.operands, Call.operands]) fun W0 h h' u v ρ W ε o ho hf hu R => by
    have ht := first_ty hts
    have fin : ∀ {n : Nat}, (Builtin.len_ ts o.type #[ε x]).run P W = .ok (goInt n) W → h = h ∧ ∃ y, (execOp ε o).run P W = .ok (.value y) W ∧ VR σ ρ (.int .i64 (.lit (.ofNat n))) y := fun {n} q =>
      ⟨rfl, goInt n, by simp [execOp, ho, resolve, invoke, builtin, q], by simp [VR, E.den, goInt]⟩
    unfold lenP at hf
    rcases hun : P.underlying t with _ | d
    · simp only [hun] at hf; cases hf
    cases d <;> simp only [hun] at hf <;> try (cases hf; done)
    case array n e =>
      simp only [Option.some.injEq, Prod.mk.injEq] at hf
      obtain ⟨rfl, rfl⟩ := hf
      exact fin (by simp [Builtin.len_, ht, run_underlying hun])
    case string =>
      split at hf
      · rename_i s
        simp only [Option.some.injEq, Prod.mk.injEq] at hf
        obtain ⟨rfl, rfl⟩ := hf
        simp only [VR] at hu
        exact fin (by simp [Builtin.len_, ht, run_underlying hun, hu, bytesA_size, lenL_eq])
      · rename_i s
        simp only [Option.some.injEq, Prod.mk.injEq] at hf
        obtain ⟨rfl, rfl⟩ := hf
        simp only [VR] at hu
        exact fin (by simp [Builtin.len_, ht, run_underlying hun, hu, bytesA_size, lenL_eq])
      · cases hf
    case slice e =>
      split at hf
      · simp only [Option.some.injEq, Prod.mk.injEq] at hf
        obtain ⟨rfl, rfl⟩ := hf
        simp only [VR] at hu
        obtain ⟨_, _, _, hu, _⟩ := hu
        exact fin (by simp [Builtin.len_, ht, run_underlying hun, hu])
      · simp only [Option.some.injEq, Prod.mk.injEq] at hf
        obtain ⟨rfl, rfl⟩ := hf
        simp only [VR] at hu
        obtain ⟨_, _, hu, _⟩ := hu
        exact fin (by simp [Builtin.len_, ht, run_underlying hun, hu])
      · simp only [Option.some.injEq, Prod.mk.injEq] at hf
        obtain ⟨rfl, rfl⟩ := hf
        simp only [VR] at hu
        exact fin (by simp [Builtin.len_, ht, run_underlying hun, hu])
      · simp only [Option.some.injEq, Prod.mk.injEq] at hf
        obtain ⟨rfl, rfl⟩ := hf
        simp only [VR] at hu
        obtain ⟨_, n, _, hu, hn⟩ := hu
        exact ⟨rfl, goInt n, by simp [execOp, ho, resolve, invoke, builtin, Builtin.len_, ht, run_underlying hun, hu], by simp [VR, goInt, hn]⟩
      · cases hf
    case map k e =>
      split at hf
      · simp only [Option.some.injEq, Prod.mk.injEq] at hf
        obtain ⟨rfl, rfl⟩ := hf
        simp only [VR] at hu
        exact fin (by simp [Builtin.len_, ht, run_underlying hun, hu])
      · rename_i r
        split at hf
        · rename_i es clock hg
          simp only [Option.some.injEq, Prod.mk.injEq] at hf
          obtain ⟨rfl, rfl⟩ := hf
          simp only [VR] at hu
          obtain ⟨L, hL, hu⟩ := hu
          obtain ⟨hO, _⟩ := R.obs r _ L hg hL
          obtain ⟨es', h1, h2⟩ := hO
          have hn : ∀ {es : Ents} {l : List MapEntry}, entR σ ρ es l → l.length = es.length := by
            intro es
            induction es with
            | nil => intro l h; simp only [entR] at h; subst h; rfl
            | cons e es ih =>
              intro l h
              obtain ⟨k, v, b⟩ := e
              simp only [entR] at h
              obtain ⟨_, _, l', rfl, _, _, h⟩ := h
              simp [ih h]
          have hn := hn h2
          simp only [Array.length_toList] at hn
          exact fin (by simp [Builtin.len_, ht, run_underlying hun, hu, getObj, Sem.run, h1, hn, lenL_eq])
        · cases hf
      · cases hf
theorem good_cap (ts : Array TypeId) (t : TypeId) (l : List TypeId) (x : Operand) (hts : ts.toList = t :: l) : GoodQ P σ (.call ⟨.builtin .cap, #[x], ts⟩) (s0v (fun _ => capP P t) x) :=
  good_s0v (by simp [Op.operands, Call.operands]) fun W0 h u v ρ W ε o ho hf hu R => by
    have ht := first_ty hts
    have fin : ∀ {n : Nat}, (Builtin.cap_ ts o.type #[ε x]).run P W = .ok (goInt n) W → ∃ y, (execOp ε o).run P W = .ok (.value y) W ∧ VR σ ρ (.int .i64 (.lit (.ofNat n))) y := fun {n} q =>
      ⟨_, by simp [execOp, ho, resolve, invoke, builtin, q]; rfl, by simp [VR, E.den, goInt]⟩
    unfold capP at hf
    rcases hun : P.underlying t with _ | d
    · simp only [hun] at hf; cases hf
    cases d <;> simp only [hun] at hf <;> try (cases hf; done)
    case slice e =>
      split at hf
      · simp only [Option.some.injEq] at hf
        subst hf
        simp only [VR] at hu
        obtain ⟨_, c, _, hu, _, h2, _⟩ := hu
        have := h2 trivial
        subst this
        exact fin (by simp [Builtin.cap_, ht, run_underlying hun, hu])
      · simp only [Option.some.injEq] at hf
        subst hf
        simp only [VR] at hu
        exact fin (by simp [Builtin.cap_, ht, run_underlying hun, hu])
      · cases hf
theorem good_copy (ts : Array TypeId) (x y : Operand) : Good P σ (.call ⟨.builtin .copy, #[x, y], ts⟩) (s2 (copyP P ts.toList) x y) :=
  good_s2 (by simp [Op.operands, Call.operands]) (by simp [Op.operands, Call.operands]) fun W0 h h' a b v ρ W ε o ho hf ha hb R => by
    unfold copyP at hf
    rcases hts : ts.toList with _ | ⟨t0, rest⟩
    · simp only [hts] at hf; cases hf
    have ht := first_ty hts
    simp only [hts] at hf
    rcases hel : elemT P t0 with _ | e
    · simp only [hel] at hf; cases hf
    rcases hsz : szT P e with _ | size
    · simp only [hel, hsz] at hf; cases hf
    simp only [hel, hsz] at hf
    have hun := elemT_ok hel
    have fin : ∀ {n : Nat} {W' : World}, (Builtin.copy_ ts o.type #[ε x, ε y]).run P W = .ok (goInt n) W' → Stp σ W0 ρ h W ρ h' W' → v = .int .i64 (.lit (.ofNat n)) → Fine P σ W0 ε o v ρ h W h' := fun {n W'} q S hv =>
      fine_step (x := goInt n) (by simp [execOp, ho, resolve, invoke, builtin, q]) (by rw [hv]; simp [VR, E.den, goInt]) S
    split at hf
    · rename_i n hn
      unfold copyTo at hf
      split at hf
      · rename_i r ofs len cap esz ex
        simp only [VR] at ha
        obtain ⟨L, cap', hL, hx, _⟩ := ha
        split at hf
        · rename_i l hl
          have hmin : Nat.min n len = minN n len := by
            unfold minN
            split
            · rename_i e; exact Nat.min_eq_left (bleN e)
            · rename_i e; exact Nat.min_eq_right (Nat.le_of_lt (bleF e))
          obtain ⟨xs, q1, q2⟩ := first_ok (P := P) R hl hb
          have hlen := lenV_ok (P := P) R hn hl hb
          split at hf
          · simp only [Option.some.injEq, Prod.mk.injEq] at hf
            obtain ⟨hv, rfl⟩ := hf
            simp only [VRs] at q2
            subst q2
            exact fin (n := minN n len) (by simp [Builtin.copy_, ht, run_underlying hun, hx, hlen, hmin, szT_ok W hsz, q1, storeCells]) (Stp.refl R) hv.symm
          · obtain ⟨hw, rfl⟩ := withNew_ok hf
            obtain ⟨L', C, e', W', hL', hb', hle, hst, S⟩ := write_ok R hw ⟨_, hL⟩ q2 P
            rw [hL] at hL'; cases hL'
            exact fin (n := minN n len) (by simp [Builtin.copy_, ht, run_underlying hun, hx, hlen, hmin, szT_ok W hsz, q1, hst]) S rfl
        · cases hf
      · simp only [VR] at ha
        split at hf
        · rename_i l hl
          simp only [Option.some.injEq, Prod.mk.injEq] at hf
          obtain ⟨hv, rfl⟩ := hf
          obtain ⟨xs, q1, q2⟩ := first_ok (P := P) R hl hb
          have hlen := lenV_ok (P := P) R hn hl hb
          exact fin (n := 0) (by simp [Builtin.copy_, ht, run_underlying hun, ha, hlen, szT_ok W hsz, q1]) (Stp.refl R) hv.symm
        · cases hf
      · simp only [VR] at ha
        obtain ⟨ad, cap', ha, _⟩ := ha
        split at hf
        · rename_i l hl
          simp only [Option.some.injEq, Prod.mk.injEq] at hf
          obtain ⟨hv, rfl⟩ := hf
          obtain ⟨xs, q1, q2⟩ := first_ok (P := P) R hl hb
          have hlen := lenV_ok (P := P) R hn hl hb
          have hxs : xs = [] := by
            have hl0 : l = [] := by
              unfold firstV at hl
              split at hl <;> simp_all [takeL_eq, bytesV]
            subst hl0
            simpa only [VRs] using q2
          subst hxs
          exact fin (n := 0) (by simp [Builtin.copy_, ht, run_underlying hun, ha, hlen, szT_ok W hsz, q1, storeCells]) (Stp.refl R) hv.symm
        · cases hf
      · cases hf
    · cases hf
theorem good_clear (ts : Array TypeId) (t : TypeId) (l : List TypeId) (x : Operand) (hts : ts.toList = t :: l) : Good P σ (.call ⟨.builtin .clear, #[x], ts⟩) (s0 (clearP P t) x) :=
  good_s0 (by simp [Op.operands, Call.operands]) fun W0 h h' u v ρ W ε o ho hf hu R => by
    have ht := first_ty hts
    unfold clearP at hf
    rcases hel : elemT P t with _ | e
    · simp only [hel] at hf; cases hf
    rcases hsz : szT P e with _ | size
    · simp only [hel, hsz] at hf; cases hf
    rcases hz : zeroT P e with _ | z
    · simp only [hel, hsz, hz] at hf; cases hf
    simp only [hel, hsz, hz] at hf
    have hun := elemT_ok hel
    have fin : ∀ {W' : World}, (Builtin.clear_ ts o.type #[ε x]).run P W = .ok (.tuple #[]) W' → Stp σ W0 ρ h W ρ h' W' → v = .tuple [] → Fine P σ W0 ε o v ρ h W h' := fun {W'} q S hv =>
      fine_step (x := .tuple #[]) (by simp [execOp, ho, resolve, invoke, builtin, q]) (by rw [hv]; exact vr_undef) S
    split at hf
    · simp only [Option.some.injEq, Prod.mk.injEq] at hf
      obtain ⟨hv, rfl⟩ := hf
      simp only [VR] at hu
      exact fin (by simp [Builtin.clear_, ht, run_underlying hun, hu]) (Stp.refl R) hv.symm
    · simp only [Option.some.injEq, Prod.mk.injEq] at hf
      obtain ⟨hv, rfl⟩ := hf
      simp only [VR] at hu
      exact fin (by simp [Builtin.clear_, ht, run_underlying hun, hu]) (Stp.refl R) hv.symm
    · simp only [Option.some.injEq, Prod.mk.injEq] at hf
      obtain ⟨hv, rfl⟩ := hf
      simp only [VR] at hu
      obtain ⟨_, _, hu, _⟩ := hu
      exact fin (by simp [Builtin.clear_, ht, run_underlying hun, hu]) (Stp.refl R) hv.symm
    · simp only [VR] at hu
      obtain ⟨L, cap', hL, hu, _⟩ := hu
      split at hf
      · simp only [Option.some.injEq, Prod.mk.injEq] at hf
        obtain ⟨hv, rfl⟩ := hf
        exact fin (by simp [Builtin.clear_, ht, run_underlying hun, hu]) (Stp.refl R) hv.symm
      · rename_i k
        split at hf
        · rename_i hc
          simp only [Bool.and_eq_true, lenL_eq] at hc
          have c2 := beqN hc.2
          obtain ⟨hw, rfl⟩ := withNew_ok hf
          obtain ⟨i, zx, hi, hzx, hv, hrun⟩ := zeroT_ok (σ := σ) (ρ := ρ) W hz
          have hzc := zcells_ok hz hv
          have hsz0 : 0 < zx.cells.size ∨ z.cells = [] := by
            have := hzc.length
            by_cases hq : z.cells = []
            · exact .inr hq
            · have := List.length_pos_iff.2 hq
              left; rw [← Array.length_toList]; omega
          have hrep : VRs σ ρ (repl (k + 1) z.cells) (Builtin.zeroCells zx.cells (k + 1)).toList := by
            rcases hsz0 with hp | hq
            · exact repl_ok hzc hp (k + 1)
            · have e1 : ∀ n, repl n ([] : List V) = [] := by intro n; induction n with
                | zero => rfl
                | succ n ih => simp [repl, appL_eq, ih]
              have e2 : zx.cells.size = 0 := by have := hzc.length; rw [hq] at this; simpa using this
              rw [hq, e1]
              have e3 : (Builtin.zeroCells zx.cells (k + 1)).toList = [] := by simp [Builtin.zeroCells, e2, range_none]
              rw [e3]; exact VRs.nil
          obtain ⟨L', C, e', W', hL', hb', hle, hst, S⟩ := write_ok R hw ⟨_, hL⟩ hrep P
          rw [hL] at hL'; cases hL'
          exact fin (by simp [Builtin.clear_, ht, run_underlying hun, hu, hrun, hst]) S rfl
        · cases hf
    · cases hf
theorem good_min1 (mx : Bool) (ts : Array TypeId) (x : Operand) : GoodQ P σ (.call ⟨.builtin (if mx then .max else .min), #[x], ts⟩) (s0v (fun _ v => some v) x) :=
  good_s0v (by simp [Op.operands, Call.operands]) fun W0 h u v ρ W ε o ho hf hu R => by
    cases hf
    cases mx
    · exact ⟨_, by simp [execOp, ho, resolve, invoke, builtin, Builtin.min_], hu⟩
    · exact ⟨_, by simp [execOp, ho, resolve, invoke, builtin, Builtin.max_], hu⟩
theorem good_min2 {Γ : Cx} (G : GoodCx σ Γ) (mx : Bool) (ts : Array TypeId) (x y : Operand) : GoodQ P σ (.call ⟨.builtin (if mx then .max else .min), #[x, y], ts⟩) (s2v (fun _ v w => minV Γ mx v [w]) x y) :=
  good_s2v (by simp [Op.operands, Call.operands]) (by simp [Op.operands, Call.operands]) fun W0 h a b v ρ W ε o ho hf ha hb R => by
    unfold minV at hf
    split at hf
    · rename_i k m k' n
      simp only [VR] at ha hb
      cases mx
      · simp only [] at hf
        split at hf
        · rename_i e
          have := ltE_ok G _ _ _ e
          rw [decide_eq_true_iff] at this
          simp only [minV, Option.some.injEq] at hf
          subst hf
          exact ⟨_, by simp [execOp, ho, resolve, invoke, builtin, Builtin.min_, ha, hb, Builtin.min2, this]; rfl, by simp [VR]⟩
        · rename_i e
          have := ltE_ok G _ _ _ e
          rw [decide_eq_false_iff_not] at this
          simp only [minV, Option.some.injEq] at hf
          subst hf
          exact ⟨_, by simp [execOp, ho, resolve, invoke, builtin, Builtin.min_, ha, hb, Builtin.min2, this]; rfl, by simp [VR]⟩
        · cases hf
      · simp only [] at hf
        split at hf
        · rename_i e
          have := ltE_ok G _ _ _ e
          rw [decide_eq_true_iff] at this
          simp only [minV, Option.some.injEq] at hf
          subst hf
          exact ⟨_, by simp [execOp, ho, resolve, invoke, builtin, Builtin.max_, ha, hb, Builtin.max2, this]; rfl, by simp [VR]⟩
        · rename_i e
          have := ltE_ok G _ _ _ e
          rw [decide_eq_false_iff_not] at this
          simp only [minV, Option.some.injEq] at hf
          subst hf
          exact ⟨_, by simp [execOp, ho, resolve, invoke, builtin, Builtin.max_, ha, hb, Builtin.max2, this]; rfl, by simp [VR]⟩
        · cases hf
    · cases hf
theorem good_unOp {Γ : Cx} (G : GoodCx σ Γ) (op : UnOp) (t : TypeId) (x : Operand) : GoodQ P σ (.unOp op t x) (s0v (fun _ => unP Γ op) x) :=
  good_s0v (by simp [Op.operands]) fun W0 h u v ρ W ε o ho hf hu R => by
    unfold unP at hf
    cases op
    case not =>
      simp only [] at hf
      split at hf
      · rename_i b
        cases hf
        simp only [VR] at hu
        exact ⟨_, by simp [execOp, ho, hu, Op.unary]; rfl, by cases b <;> simp [VR, notB]⟩
      · cases hf
    case neg =>
      simp only [] at hf
      split at hf
      · cases hf
        simp only [VR] at hu
        exact ⟨_, by simp [execOp, ho, hu, Op.unary, Op.intArith]; rfl, by simp [VR, wrapE_den G, subE_den, E.den]⟩
      · cases hf
    case xor =>
      simp only [] at hf
      split at hf
      · cases hf
        simp only [VR] at hu
        exact ⟨_, by simp [execOp, ho, hu, Op.unary, Op.intBits]; rfl, by simp [VR, bopE_den, bopV, E.den]⟩
      · cases hf
    case plus => simp only [] at hf; cases hf
theorem bytes_ok {ρ : Inj} : ∀ {l : List V} {s : List Nat} {xs : List Value}, bytesOf l = some s → VRs σ ρ l xs → xs = s.map fun n => .int .u8 (n : Int)
  | [], s, xs, h, k => by simp only [bytesOf, Option.some.injEq] at h; subst h; simp only [VRs] at k; subst k; rfl
  | v :: vs, s, xs, h, k => by
    simp only [bytesOf] at h
    split at h
    · rename_i b l h1 h2
      cases h
      simp only [VRs] at k
      obtain ⟨x, xs', rfl, k1, k2⟩ := k
      unfold byteLit at h1
      split at h1
      · cases h1
        simp only [VR, E.den] at k1
        simp [k1, bytes_ok h2 k2]
      · cases h1
    · cases h
theorem good_convert {Γ : Cx} (G : GoodCx σ Γ) (hP : Γ.P = P) (s d : TypeId) (x : Operand) : GoodQ P σ (.convert s d x) (s0v (fun h v => convP Γ s d v h) x) :=
  good_s0v (by simp [Op.operands]) fun W0 h u v ρ W ε o ho hf hu R => by
    subst hP
    unfold convP at hf
    rcases hs : Γ.P.underlying s with _ | ds
    · simp only [hs] at hf; cases hf
    rcases hd : Γ.P.underlying d with _ | dd
    · simp only [hs, hd] at hf; cases ds <;> cases hf
    have fin : ∀ {y : Value}, (convert s d (ε x)).run Γ.P W = .ok y W → VR σ ρ v y → ∃ y, (execOp ε o).run Γ.P W = .ok (.value y) W ∧ VR σ ρ v y := fun {y} q hv =>
      ⟨y, by simp [execOp, ho, q], hv⟩
    cases ds <;> cases dd <;> simp only [hs, hd] at hf <;> try (cases hf; done)
    case int.int k k' =>
      split at hf
      · cases hf
        simp only [VR] at hu
        exact fin (y := _) (by simp [convert, run_underlying hs, run_underlying hd, hu, Conv.intToInt]; rfl) (by simp [VR, wrapE_den G])
      · cases hf
    case string.string =>
      split at hf
      · cases hf
        simp only [VR] at hu
        exact fin (y := _) (by simp [convert, run_underlying hs, run_underlying hd, hu]; rfl) (by simp [VR])
      · cases hf
    case int.string k =>
      split at hf
      · rename_i n
        split at hf
        · rename_i e
          have e := bleN e
          cases hf
          simp only [VR, E.den] at hu
          refine fin (y := _) (by simp [convert, run_underlying hs, run_underlying hd, hu, Conv.intToString]; rfl) ?_
          simp only [VR]
          apply congrArg
          have hv : Utf8.valid (n : Int) = true := by simp [Utf8.valid]; omega
          simp only [Utf8.encode, hv, if_true, Int.toNat_natCast]
          rw [if_pos (by omega)]
          simp [bytesA]
        · cases hf
      · cases hf
    case slice.string e =>
      rcases he : Γ.P.underlying e with _ | de
      · simp only [he] at hf; cases hf
      cases de <;> simp only [he] at hf <;> try (cases hf; done)
      rename_i kk
      cases kk <;> simp only [] at hf <;> try (cases hf; done)
      unfold textOf at hf
      split at hf
      · rename_i r ofs len cap esz ex
        split at hf
        · split at hf
          · rename_i l hl
            split at hf
            · rename_i str hb
              cases hf
              simp only [VR] at hu
              obtain ⟨L, cap', hL, hu, _⟩ := hu
              obtain ⟨xs, q1, q2⟩ := first_ok (P := Γ.P) (x := .slice (some ⟨L.blk, L.base + ofs, none⟩) len len) R hl (by simp only [VR]; exact ⟨L, len, hL, rfl, Nat.le_refl _, fun _ => rfl, fun q => by cases q⟩)
              have hxs := bytes_ok hb q2
              have hload : (loadCells ⟨L.blk, L.base + ofs, none⟩ len).run Γ.P W = .ok (((str.map Int.ofNat).map (Value.int .u8)).toArray) W := by
                simp only [Builtin.firstCells, Nat.mul_one] at q1
                rw [q1, hxs]
                simp
              have := run_bytesToString (P := Γ.P) W ⟨L.blk, L.base + ofs, none⟩ len cap' (str.map Int.ofNat) hload
              refine fin (y := _) (by simp [convert, run_underlying hs, run_underlying hd, hu, run_underlying he, this]; rfl) ?_
              simp only [VR]
              apply congrArg
              have fold : ∀ (l : List Nat) (acc : ByteArray), (l.map Int.ofNat).foldl (fun (r : ByteArray) n => r.push (UInt8.ofNat n.toNat)) acc = ⟨acc.data ++ (l.map UInt8.ofNat).toArray⟩ := by
                intro l
                induction l with
                | nil => intro acc; simp
                | cons a l ih => intro acc; simp only [List.map_cons, List.foldl_cons, ih]; apply ByteArray.ext; apply Array.ext'; simp [ByteArray.push]
              rw [fold]
              simp [bytesA, ByteArray.empty, ByteArray.emptyWithCapacity]
              try rfl
            · cases hf
          · cases hf
        · cases hf
      · cases hf
        simp only [VR] at hu
        exact fin (y := .string .empty) (by simp [convert, run_underlying hs, run_underlying hd, hu, run_underlying he, Conv.bytesToString]) (by simp [VR]; rfl)
      · cases hf
        simp only [VR] at hu
        obtain ⟨a, c, hu, _⟩ := hu
        exact fin (y := .string .empty) (by simp [convert, run_underlying hs, run_underlying hd, hu, run_underlying he, Conv.bytesToString, loadCells, loadCellsFrom]) (by simp [VR]; rfl)
      · cases hf
end
end Tk
