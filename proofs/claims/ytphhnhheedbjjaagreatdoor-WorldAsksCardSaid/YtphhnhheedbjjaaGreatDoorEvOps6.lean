/- The evaluator's operations held against the model's, one by one (6): binary operations. -/
import Derived.Test.YtphhnhheedbjjaaGreatDoorEvOps5
import Derived.LaidEqlPtr
import Derived.Laws.Strings
set_option linter.unusedVariables false
set_option linter.unusedSimpArgs false
namespace Tk
open Go Go.RowKit

section
variable {P : Program} {σ : Nat → Int} {ρ : Inj} {W0 : World} {h : H} {W : World}
theorem modBytes_eq (a : List Nat) : modBytes a = a.map (· % 256) := by
  induction a with
  | nil => rfl
  | cons x a ih => simp [modBytes, ih]
theorem ofNat_inj (x y : Nat) : UInt8.ofNat x = UInt8.ofNat y ↔ x % 256 = y % 256 := by
  rw [← UInt8.toNat_inj]; simp
theorem ofNat_lt (x y : Nat) : UInt8.ofNat x < UInt8.ofNat y ↔ x % 256 < y % 256 := by
  rw [UInt8.lt_iff_toNat_lt]; simp
theorem map_inj : ∀ (a b : List Nat), a.map UInt8.ofNat = b.map UInt8.ofNat ↔ a.map (· % 256) = b.map (· % 256)
  | [], [] => by simp
  | [], _ :: _ => by simp
  | _ :: _, [] => by simp
  | x :: a, y :: b => by simp [ofNat_inj, map_inj a b]
theorem bytesA_list (s : List Nat) : (bytesA s).toList = s.map UInt8.ofNat := by rw [ByteArray.toList_eq]; simp [bytesA]
theorem eqText_ok (a b : List Nat) : ((bytesA a).toList == (bytesA b).toList) = eqText a b := by
  rw [bytesA_list, bytesA_list, Bool.eq_iff_iff, beq_iff_eq, map_inj, eqText, eqNats_iff, modBytes_eq, modBytes_eq]
theorem bytesLt_ok : ∀ (a b : List Nat), Op.bytesLess (a.map UInt8.ofNat) (b.map UInt8.ofNat) = bytesLt a b
  | [], [] => rfl
  | _ :: _, [] => rfl
  | [], _ :: _ => rfl
  | x :: a, y :: b => by
    simp only [List.map_cons, Op.bytesLess, bytesLt]
    rw [bytesLt_ok a b]
    have h1 := ofNat_lt x y
    have h2 := ofNat_inj x y
    split
    · rename_i e
      have := bleN e
      have : UInt8.ofNat x < UInt8.ofNat y := h1.2 (by omega)
      simp [this]
    · rename_i e
      have := bleF e
      have hn : ¬ UInt8.ofNat x < UInt8.ofNat y := fun k => by have := h1.1 k; omega
      split
      · rename_i e2
        have e2 := h2.2 (beqN e2)
        simp [hn, e2]
      · rename_i e2
        have e2 : UInt8.ofNat x ≠ UInt8.ofNat y := fun k => by
          have := h2.1 k
          rw [this] at e2
          simp at e2
        simp [hn, e2]
theorem strOp_ok (w : World) (op : BinOp) (t : TypeId) (a b : List Nat) (v : V) (hs : strOp op a b = some v) : ∃ y, (binOp op t (.string (bytesA a)) (.string (bytesA b))).run P w = .ok y w ∧ VR σ ρ v y := by
  have e1 := eqText_ok a b
  have e2 : Op.bytesLess (bytesA a).toList (bytesA b).toList = bytesLt a b := by rw [bytesA_list, bytesA_list, bytesLt_ok]
  unfold strOp at hs
  cases op <;> simp only [] at hs <;> try (cases hs; done)
  case add =>
    split at hs
    · rename_i e
      have e := bleN e
      rw [lenL_eq, lenL_eq] at e
      cases hs
      have hle : ¬ (9223372036854775807 < (((bytesA a).size + (bytesA b).size : Nat) : Int)) := by rw [bytesA_size, bytesA_size]; omega
      have hle' : ¬ (((bytesA a).size + (bytesA b).size : Nat) : Int) > IntKind.i64.max := hle
      refine ⟨.string (bytesA a ++ bytesA b), by simp only [binOp, Op.stringOp]; rw [if_neg hle']; rfl, ?_⟩
      simp only [VR, appL_eq]
      apply congrArg
      apply ByteArray.ext
      rw [ByteArray.data_append]
      simp [bytesA]
    · cases hs
  case eql => cases hs; exact ⟨.bool (eqText a b), by simp only [binOp, Op.stringOp, e1, Sem.run_pure], by simp [VR]⟩
  case neq => cases hs; exact ⟨.bool !(eqText a b), by simp only [binOp, Op.stringOp, e1, Sem.run_pure], by cases eqText a b <;> simp [VR, notB]⟩
  case lss => cases hs; exact ⟨.bool (bytesLt a b), by simp only [binOp, Op.stringOp, e2, Sem.run_pure], by simp [VR]⟩
  case leq => cases hs; exact ⟨.bool (bytesLt a b || eqText a b), by simp only [binOp, Op.stringOp, e1, e2, Sem.run_pure], by cases eqText a b <;> cases bytesLt a b <;> simp [VR, orB]⟩
  case gtr => cases hs; exact ⟨.bool !(bytesLt a b || eqText a b), by simp only [binOp, Op.stringOp, e1, e2, Sem.run_pure], by cases eqText a b <;> cases bytesLt a b <;> simp [VR, orB, notB]⟩
  case geq => cases hs; exact ⟨.bool !(bytesLt a b), by simp only [binOp, Op.stringOp, e2, Sem.run_pure], by cases bytesLt a b <;> simp [VR, notB]⟩

theorem exD_ok {Γ : Cx} (G : GoodCx σ Γ) {e : E} {k : Nat} (h : exD Γ e k = true) : 1 ≤ k ∧ ∃ n : Nat, e.den σ = (n : Int) ∧ n < 10 ^ k ∧ (k = 1 ∨ 10 ^ (k - 1) ≤ n) := by
  unfold exD at h
  split at h
  · cases h
  · rename_i j
    split at h
    · rename_i l u hb
      obtain ⟨b1, b2⟩ := bndE_ok G hb
      simp only [Bool.and_eq_true] at h
      have h1 := bleN h.1
      obtain ⟨n, hn⟩ := Int.eq_ofNat_of_zero_le (Int.le_trans (Int.natCast_nonneg l) b1)
      rw [hn] at b1 b2
      have b1 := Int.ofNat_le.1 b1
      have b2 := Int.ofNat_le.1 b2
      refine ⟨by omega, n, hn, by omega, ?_⟩
      have h2 := h.2
      split at h2
      · exact .inl rfl
      · exact .inr (Nat.le_trans (bleN h2) b1)
    · cases h
theorem grpAt_ok {e : E} {k : Nat} : ∀ (n i : Nat) (l r : List Pc), grpAt e k n i l = some r → l.map (Pc.val σ) = ((List.range' i n).map fun j => Pc.val σ (.d e k j)) ++ r.map (Pc.val σ)
  | 0, i, l, r, h => by simp only [grpAt] at h; cases h; simp
  | n + 1, i, l, r, h => by
    unfold grpAt at h
    split at h
    · rename_i p l
      split at h
      · rename_i hp
        have hp := samePc_eq hp
        subst hp
        rw [List.range'_succ, List.map_cons, List.map_cons, List.cons_append, grpAt_ok n (i + 1) l r h]
      · cases h
    · cases h
theorem digs_snoc (n k : Nat) : ((List.range' 0 (k + 1)).map fun j => 48 + n / 10 ^ (k + 1 - 1 - j) % 10) = ((List.range' 0 k).map fun j => 48 + n / 10 / 10 ^ (k - 1 - j) % 10) ++ [48 + n % 10] := by
  rw [List.range'_concat, List.map_append]
  congr 1
  · refine List.map_congr_left fun j hj => ?_
    have hj : j < k := by have := List.mem_range'_1.1 hj; omega
    rw [Nat.div_div_eq_div_mul, show k + 1 - 1 - j = (k - 1 - j) + 1 by omega, Nat.pow_succ, Nat.mul_comm]
  · simp
theorem digs_inj : ∀ (k n m : Nat), n < 10 ^ k → m < 10 ^ k → ((List.range' 0 k).map fun j => 48 + n / 10 ^ (k - 1 - j) % 10) = ((List.range' 0 k).map fun j => 48 + m / 10 ^ (k - 1 - j) % 10) → n = m
  | 0, n, m, h1, h2, _ => by simp at h1 h2; omega
  | k + 1, n, m, h1, h2, h => by
    rw [digs_snoc, digs_snoc] at h
    obtain ⟨e1, e2⟩ := List.append_inj h (by simp)
    rw [Nat.pow_succ] at h1 h2
    have := digs_inj k (n / 10) (m / 10) (by omega) (by omega) e1
    simp at e2
    omega
theorem dig_lt (e : E) (k i : Nat) : 48 ≤ Pc.val σ (.d e k i) ∧ Pc.val σ (.d e k i) ≤ 57 := by
  simp only [Pc.val]; omega
theorem isDig_iff (x : Nat) : isDig x = true ↔ 48 ≤ x % 256 ∧ x % 256 ≤ 57 := by
  unfold isDig
  rw [Bool.and_eq_true]
  exact ⟨fun h => ⟨bleN h.1, bleN h.2⟩, fun h => ⟨Nat.ble_eq_true_of_le h.1, Nat.ble_eq_true_of_le h.2⟩⟩
/-- the bytes of pieces -/
noncomputable def byt (σ : Nat → Int) (l : List Pc) : List Nat := (l.map (Pc.val σ)).map (· % 256)
theorem byt_cons (p : Pc) (l : List Pc) : byt σ (p :: l) = Pc.val σ p % 256 :: byt σ l := rfl
theorem byt_grp {e : E} {k n i : Nat} {l r : List Pc} (h : grpAt e k n i l = some r) : byt σ l = ((List.range' i n).map fun j => Pc.val σ (.d e k j)) ++ byt σ r := by
  unfold byt
  rw [grpAt_ok n i l r h, List.map_append]
  congr 1
  rw [List.map_map]
  refine List.map_congr_left fun j _ => ?_
  have := dig_lt (σ := σ) e k j
  simp only [Function.comp]
  omega
/-- a group of digits against a longer one -/
theorem grp_ne {e e' : E} {k k' : Nat} {a b ra rb : List Pc} (h1 : grpAt e k k 0 a = some ra) (h2 : grpAt e' k' k' 0 b = some rb) (hk : k < k') (hn : notDig ra = true) : byt σ a ≠ byt σ b := by
  intro h
  rw [byt_grp h1, byt_grp h2] at h
  have h := congrArg (fun l => l[k]?) h
  cases ra with
  | nil => cases hn
  | cons p r =>
    cases p with
    | d _ _ _ => cases hn
    | b x =>
      have hx : isDig x = false := by
        simp only [notDig] at hn
        cases hd : isDig x <;> rw [hd] at hn <;> first | rfl | cases hn
      simp only [byt_cons] at h
      rw [List.getElem?_append_right (by simp), List.getElem?_append_left (by simpa using hk)] at h
      simp [hk, List.getElem?_range'] at h
      have := dig_lt (σ := σ) e' k' k
      have hnd : ¬ (isDig x = true) := by rw [hx]; simp
      rw [isDig_iff] at hnd
      have hv : Pc.val σ (.b x) = x := rfl
      rw [hv] at h
      omega
theorem eqD_ok {Γ : Cx} (G : GoodCx σ Γ) : ∀ (f : Nat) (a b : List Pc) (t : Bool), eqD Γ f a b = some t → decide (byt σ a = byt σ b) = t
  | 0, _, _, _, h => by simp only [eqD] at h; cases h
  | f + 1, a, b, t, h => by
    have ih := eqD_ok G f
    unfold eqD at h
    split at h
    · split at h
      · cases h; simp
      · cases h
    · rename_i p l
      split at h
      · cases h
      · rename_i q m
        split at h
        · rename_i e
          have e := samePc_eq e
          subst e
          have := ih l m t h
          rw [byt_cons, byt_cons]
          simpa using this
        · rename_i hsp
          cases p with
          | b x =>
            cases q with
            | b y =>
              simp only at h
              split at h
              · rename_i e
                have e := beqN e
                have := ih l m t h
                rw [byt_cons, byt_cons]
                simp only [Pc.val, e]
                simpa using this
              · rename_i e
                have e := beqF e
                cases h
                rw [byt_cons, byt_cons]
                simp only [Pc.val]
                simp [e]
            | d e' k' i' =>
              simp only at h
              split at h
              · cases h
              · rename_i hd
                cases h
                rw [byt_cons, byt_cons]
                have := dig_lt (σ := σ) e' k' i'
                have hnd : ¬ (isDig x = true) := by rw [hd]; simp
                rw [isDig_iff] at hnd
                rw [decide_eq_false_iff_not]
                intro hh
                have hh := (List.cons.inj hh).1
                have hx : Pc.val σ (.b x) = x := rfl
                rw [hx] at hh
                omega
          | d e k i =>
            cases q with
            | b y =>
              simp only at h
              split at h
              · cases h
              · rename_i hd
                cases h
                rw [byt_cons, byt_cons]
                have := dig_lt (σ := σ) e k i
                have hnd : ¬ (isDig y = true) := by rw [hd]; simp
                rw [isDig_iff] at hnd
                rw [decide_eq_false_iff_not]
                intro hh
                have hh := (List.cons.inj hh).1
                have hx : Pc.val σ (.b y) = y := rfl
                rw [hx] at hh
                omega
            | d e' k' i' =>
              simp only at h
              split at h
              · rename_i ra rb h1 h2
                split at h
                · rename_i hk
                  have hk := beqN hk
                  subst hk
                  split at h
                  · rename_i hex
                    simp only [Bool.and_eq_true] at hex
                    obtain ⟨_, n, en, ln, _⟩ := exD_ok G hex.1
                    obtain ⟨_, n', en', ln', _⟩ := exD_ok G hex.2
                    have hdig : ∀ (e0 : E) (n0 : Nat), e0.den σ = (n0 : Int) → ((List.range' 0 k).map fun j => Pc.val σ (.d e0 k j)) = ((List.range' 0 k).map fun j => 48 + n0 / 10 ^ (k - 1 - j) % 10) := by
                      intro e0 n0 h0
                      simp only [Pc.val, h0, Int.toNat_natCast]
                    rw [byt_grp h1, byt_grp h2, hdig e n en, hdig e' n' en']
                    split at h
                    · rename_i hie
                      have hie := isE_ok G e e' _ hie
                      rw [decide_eq_true_iff, en, en'] at hie
                      have hie : n = n' := Int.ofNat_inj.1 hie
                      subst hie
                      have := ih ra rb t h
                      rw [← this]
                      simp
                    · rename_i hie
                      have hie := isE_ok G e e' _ hie
                      rw [decide_eq_false_iff_not, en, en'] at hie
                      cases h
                      rw [decide_eq_false_iff_not]
                      intro hh
                      obtain ⟨k1, _⟩ := List.append_inj hh (by simp)
                      exact hie (congrArg _ (digs_inj k n n' ln ln' k1))
                    · cases h
                  · cases h
                · rename_i hk
                  have hk := beqF hk
                  split at h
                  · rename_i hle
                    have hle := bleN hle
                    split at h
                    · rename_i hn
                      cases h
                      rw [decide_eq_false_iff_not]
                      exact grp_ne h1 h2 (by omega) hn
                    · cases h
                  · rename_i hle
                    have hle := bleF hle
                    split at h
                    · rename_i hn
                      cases h
                      rw [decide_eq_false_iff_not]
                      exact fun hh => grp_ne h2 h1 (by omega) hn hh.symm
                    · cases h
              · cases h
theorem eqTextD_ok {Γ : Cx} (G : GoodCx σ Γ) {a b : List Pc} {t : Bool} (h : eqTextD Γ a b = some t) : eqText (a.map (Pc.val σ)) (b.map (Pc.val σ)) = t := by
  have key : eqText (a.map (Pc.val σ)) (b.map (Pc.val σ)) = decide (byt σ a = byt σ b) := by
    rw [Bool.eq_iff_iff, decide_eq_true_iff, eqText, eqNats_iff, modBytes_eq, modBytes_eq]; rfl
  rw [key]
  unfold eqTextD at h
  split at h
  · exact eqD_ok G _ _ _ _ h
  · rename_i hl
    cases h
    rw [lenL_eq, lenL_eq] at hl
    have hl := beqF hl
    rw [decide_eq_false_iff_not]
    intro hh
    have := congrArg List.length hh
    simp [byt] at this
    exact hl this
theorem strD_ok {Γ : Cx} (G : GoodCx σ Γ) (w : World) (op : BinOp) (t : TypeId) (a b : List Pc) (v : V) (hs : strD Γ op a b = some v) : ∃ y, (binOp op t (.string (bytesA (a.map (Pc.val σ)))) (.string (bytesA (b.map (Pc.val σ))))).run P w = .ok y w ∧ VR σ ρ v y := by
  unfold strD at hs
  split at hs
  · split at hs
    · rename_i e
      have e' : Nat.ble (lenL (a.map (Pc.val σ)) + lenL (b.map (Pc.val σ))) (2 ^ 40) = true := by
        rw [lenL_eq, lenL_eq] at e ⊢
        simpa using e
      cases hs
      obtain ⟨y, hy, hv⟩ := strOp_ok (P := P) (σ := σ) (ρ := ρ) w .add t (a.map (Pc.val σ)) (b.map (Pc.val σ)) (.str (appL (a.map (Pc.val σ)) (b.map (Pc.val σ)))) (by simp only [strOp, e'])
      refine ⟨y, hy, ?_⟩
      simp only [VR] at hv ⊢
      rw [hv, appL_eq, appL_eq, List.map_append]
    · cases hs
  · obtain ⟨r, hr, rfl⟩ := vbool_ok hs
    have := eqTextD_ok G hr
    exact strOp_ok (P := P) (σ := σ) (ρ := ρ) w .eql t _ _ (.bool r) (by simp only [strOp, this])
  · obtain ⟨r, hr, rfl⟩ := vnot_ok hs
    have := eqTextD_ok G hr
    exact strOp_ok (P := P) (σ := σ) (ρ := ρ) w .neq t _ _ (.bool !r) (by simp only [strOp, this]; cases r <;> rfl)
  · cases hs

theorem read_len (R : Rel σ W0 ρ h W) {r o n : Nat} {l : List V} (hr : h.read r o (n + 1) = some l) (hk : ∃ L, ρ r = some L) : ∃ sz cs ro, h.tr.get r = some (.cells sz cs ro) ∧ o + (n + 1) ≤ cs.flatten.length := by
  unfold H.read at hr
  split at hr
  · rename_i sz cs ro hg
    split at hr
    · cases hr
    · rename_i s
      obtain ⟨L, hL⟩ := hk
      obtain ⟨hO, _⟩ := R.obs r _ L hg hL
      obtain ⟨C, e, h1, h2, h3, h4, h5⟩ := hO
      rw [dropL_eq] at hr
      obtain ⟨d1, d2⟩ := shape_drop (o / (s + 1)) h3
      obtain ⟨g1, g2, g3⟩ := gather_spec _ _ _ l d1 (Nat.mod_lt _ (by omega)) hr
      refine ⟨_, cs, ro, hg, ?_⟩
      have t1 := g2 (by omega)
      rw [d2, List.length_drop, Nat.mul_comm] at t1
      have t2 := Nat.div_add_mod o (s + 1)
      generalize (s + 1) * (o / (s + 1)) = q at *
      generalize o % (s + 1) = m at *
      omega
  · cases hr
theorem eqPtr_ok (R : Rel σ W0 ρ h W) {r o r' o' : Nat} {b : Bool} {L L' : Loc} (he : eqPtr h r o r' o' = some b) (hL : ρ r = some L) (hL' : ρ r' = some L') :
    (sameAddr ⟨L.blk, L.base + o, none⟩ ⟨L'.blk, L'.base + o', none⟩).run P W = .ok b W := by
  unfold eqPtr at he
  split at he
  · rename_i e
    have e := beqN e
    subst e
    rw [hL] at hL'; cases hL'
    split at he
    · rename_i e2
      have e2 := beqN e2
      subst e2
      cases he
      exact run_sameAddr_same W _
    · rename_i e2
      have e2 : o ≠ o' := fun k => by subst k; simp at e2
      cases he
      have hne : L.base + o ≠ L.base + o' := by omega
      simp [sameAddr, hne, e2]
  · rename_i e
    have e : r ≠ r' := fun k => by subst k; simp at e
    split at he
    · rename_i ha
      cases he
      simp only [Bool.and_eq_true] at ha
      have key : ∀ {r o : Nat}, alive h r o = true → isArg h r = false ∧ ∃ l, h.read r o 1 = some l := by
        intro r o ha
        unfold alive at ha
        split at ha
        · cases ha
        · rename_i q
          split at ha
          · rename_i l hl; exact ⟨q, l, hl⟩
          · cases ha
      obtain ⟨p1, l1, k1⟩ := key ha.1
      obtain ⟨p2, l2, k2⟩ := key ha.2
      obtain ⟨s1, c1, ro1, g1, n1⟩ := read_len R k1 ⟨_, hL⟩
      obtain ⟨s2, c2, ro2, g2, n2⟩ := read_len R k2 ⟨_, hL'⟩
      obtain ⟨M1, C1, e1, _, m1, b1, _⟩ := read_ok R k1 ⟨_, hL⟩
      obtain ⟨M2, C2, e2, _, m2, b2, _⟩ := read_ok R k2 ⟨_, hL'⟩
      rw [hL] at m1; cases m1
      rw [hL'] at m2; cases m2
      obtain ⟨z1, b1, f1⟩ := b1
      obtain ⟨z2, b2, f2⟩ := b2
      rw [f1 p1] at b1
      rw [f2 p2] at b2
      refine run_sameAddr_other W ?_ b1 b2
      intro q
      have q1 : L.blk = L'.blk := congrArg Addr.block q
      have q2 : L.base + o = L'.base + o' := congrArg Addr.off q
      rcases R.apart r r' _ _ L L' g1 g2 e hL hL' with hap | ⟨_, _, hap⟩
      · exact hap q1
      · rcases hap with hap | hap | hap
        · simp only [Ob.rows] at hap; omega
        · unfold isArg at p1; rw [g1] at p1; cases ro1 <;> simp_all [Ob.arg]
        · unfold isArg at p2; rw [g2] at p2; cases ro2 <;> simp_all [Ob.arg]
    · cases he
theorem eqPtrT_ok (R : Rel σ W0 ρ h W) {e : TypeId} {r o r' o' : Nat} {b : Bool} {L L' : Loc} (he : eqPtrT P e h r o r' o' = some b) (hL : ρ r = some L) (hL' : ρ r' = some L') (t : TypeId) (hun : P.underlying t = some (.pointer e)) (d : Nat) :
    (Op.equalIn (d + 1) t (.pointer (some ⟨L.blk, L.base + o, none⟩)) (.pointer (some ⟨L'.blk, L'.base + o', none⟩))).run P W = .ok b W := by
  unfold eqPtrT at he
  split at he
  · rename_i n hsz
    have := eqPtr_ok (P := P) R he hL hL'
    simp [Op.equalIn, run_underlying hun, szT_ok W hsz, this]
  · cases he
set_option maxHeartbeats 1000000 in
theorem eqP_ok {Γ : Cx} (hP : Γ.P = P) (R : Rel σ W0 ρ h W) {t : TypeId} {a b : V} {r : Bool} {x y : Value} (he : eqP Γ t h a b = some r) (ha : VR σ ρ a x) (hb : VR σ ρ b y) (d' : Nat) : (Op.equalIn (d' + 1 + 1) t x y).run P W = .ok r W := by
  subst hP
  unfold eqP at he
  rcases hun : Γ.P.underlying t with _ | d
  · simp only [hun] at he; cases he
  cases d <;> simp only [hun] at he <;> try (cases he; done)
  case bool =>
    split at he
    · rename_i p q
      cases he
      simp only [VR] at ha hb
      subst ha hb
      generalize d' + 1 = m; cases p <;> cases q <;> simp [Op.equalIn, run_underlying hun, eqB]
    · cases he
  case pointer e =>
    split at he
    · cases he; simp only [VR] at ha hb; subst ha hb; generalize d' + 1 = m; simp [Op.equalIn, run_underlying hun]
    · cases he; simp only [VR] at ha hb; subst ha; obtain ⟨_, _, rfl⟩ := hb; generalize d' + 1 = m; simp [Op.equalIn, run_underlying hun]
    · cases he; simp only [VR] at ha hb; subst hb; obtain ⟨_, _, rfl⟩ := ha; generalize d' + 1 = m; simp [Op.equalIn, run_underlying hun]
    · simp only [VR] at ha hb
      obtain ⟨L, hL, rfl⟩ := ha
      obtain ⟨L', hL', rfl⟩ := hb
      exact eqPtrT_ok R he hL hL' t hun (d' + 1)
    · cases he
  case interface ms =>
    split at he
    · cases he; simp only [VR] at ha hb; subst ha hb; generalize d' + 1 = m; simp [Op.equalIn, run_underlying hun]
    · cases he; simp only [VR] at ha hb; subst ha; obtain ⟨_, rfl, _⟩ := hb; generalize d' + 1 = m; simp [Op.equalIn, run_underlying hun]
    · cases he; simp only [VR] at ha hb; subst hb; obtain ⟨_, rfl, _⟩ := ha; generalize d' + 1 = m; simp [Op.equalIn, run_underlying hun]
    · rename_i t1 u1 t2 u2
      simp only [VR] at ha hb
      obtain ⟨a', rfl, ha⟩ := ha
      obtain ⟨b', rfl, hb⟩ := hb
      split at he
      · rename_i e
        have e := beqN e
        subst e
        unfold eqDyn at he
        rcases hi : Γ.P.info? t1 with _ | i
        · simp only [hi] at he; cases he
        rcases hun1 : Γ.P.underlying t1 with _ | d1
        · simp only [hi, hun1] at he; cases he
        cases d1 <;> simp only [hi, hun1] at he <;> try (cases he; done)
        rename_i e
        split at he
        · rename_i hcomp
          split at he
          · simp only [VR] at ha hb
            obtain ⟨L, hL, rfl⟩ := ha
            obtain ⟨L', hL', rfl⟩ := hb
            have := eqPtrT_ok R he hL hL' t1 hun1 d'
            rw [Op.equalIn]
            simp [run_underlying hun, typeInfo, hi, hcomp, this]
          · cases he
        · cases he
      · rename_i e
        have e : t1 ≠ t2 := fun k => by subst k; simp at e
        cases he
        generalize d' + 1 = m; simp [Op.equalIn, run_underlying hun, e]
    · cases he
  case slice e =>
    split at he <;> cases he <;> simp only [VR] at ha hb
    · subst ha hb; generalize d' + 1 = m; simp [Op.equalIn, run_underlying hun]
    · subst ha; obtain ⟨_, _, _, rfl, _⟩ := hb; generalize d' + 1 = m; simp [Op.equalIn, run_underlying hun]
    · subst hb; obtain ⟨_, _, _, rfl, _⟩ := ha; generalize d' + 1 = m; simp [Op.equalIn, run_underlying hun]
    · subst ha; obtain ⟨_, _, rfl, _⟩ := hb; generalize d' + 1 = m; simp [Op.equalIn, run_underlying hun]
    · subst hb; obtain ⟨_, _, rfl, _⟩ := ha; generalize d' + 1 = m; simp [Op.equalIn, run_underlying hun]
  case map k e =>
    split at he <;> cases he <;> simp only [VR] at ha hb
    · subst ha hb; generalize d' + 1 = m; simp [Op.equalIn, run_underlying hun]
    · subst ha; obtain ⟨_, _, rfl⟩ := hb; generalize d' + 1 = m; simp [Op.equalIn, run_underlying hun]
    · subst hb; obtain ⟨_, _, rfl⟩ := ha; generalize d' + 1 = m; simp [Op.equalIn, run_underlying hun]
  case func p q s =>
    split at he <;> cases he <;> simp only [VR] at ha hb
    · subst ha hb; generalize d' + 1 = m; simp [Op.equalIn, run_underlying hun]
    · subst ha; obtain ⟨_, _, rfl, _⟩ := hb; generalize d' + 1 = m; simp [Op.equalIn, run_underlying hun]
    · subst hb; obtain ⟨_, _, rfl, _⟩ := ha; generalize d' + 1 = m; simp [Op.equalIn, run_underlying hun]
theorem equal_ok {Γ : Cx} (hP : Γ.P = P) (R : Rel σ W0 ρ h W) {t : TypeId} {a b : V} {r : Bool} {x y : Value} (he : eqP Γ t h a b = some r) (ha : VR σ ρ a x) (hb : VR σ ρ b y) : (Op.equal t x y).run P W = .ok r W :=
  eqP_ok hP R he ha hb 9998
end
end Tk
