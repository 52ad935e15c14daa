/- codeBack: what code.Read says of a word. -/
import Derived.Test.YtphhnhheedbjjaaDoorEwGhost
import Derived.Test.YtphhnhheedbjjaaDoorEwCbF
set_option linter.unusedVariables false
set_option linter.unusedSimpArgs false
set_option maxRecDepth 10000000
namespace Go.Proofs.YtphhnhheedbjjaaDoor.codeBack
open Tk
open Go Go.RowKit
abbrev Fx := List (Bool × E × E × Bool)
abbrev rgW : Rg := [(0, 4294967295)]
abbrev rgI : Rg := [((-9223372036854775808), 9223372036854775807), ((-9223372036854775808), 9223372036854775807), ((-9223372036854775808), 9223372036854775807), ((-9223372036854775808), 9223372036854775807), ((-9223372036854775808), 9223372036854775807)]
noncomputable def mR : Sym := ⟨[.int .u32 (.var 0)], (sentH 115 18 errTab), [0, 1, 18, 19], rgW, [], .bool true, [], 420⟩
noncomputable def mI : Sym := ⟨[.agg [.int .i64 (.var 0), .int .i64 (.var 1), .int .i64 (.var 2), .int .i64 (.var 3), .int .i64 (.var 4)]], (sentH 115 18 errTab), [0, 1, 18, 19], rgI, [], .bool true, [], 420⟩
noncomputable def agE (e0 e1 e2 e3 e4 : E) : V := .agg [.int .i64 e0, .int .i64 e1, .int .i64 e2, .int .i64 e3, .int .i64 e4]
noncomputable def vL (e0 e1 e2 e3 e4 : E) (t : Bool) : V := .tuple [agE e0 e1 e2 e3 e4, .bool t]
abbrev insV (o a b c i : Int) : Value := .agg #[.int .i64 o, .int .i64 a, .int .i64 b, .int .i64 c, .int .i64 i]
abbrev radix (o a b c i : Int) : Int := o * 16777216 + a * 1048576 + b * 65536 + c * 4096 + i
theorem tup2 {τ : Nat → Int} {ρ : Inj} {a b : V} {x : Value} (h : VR τ ρ (.tuple [a, b]) x) : ∃ p q, x = .tuple #[p, q] ∧ VR τ ρ a p ∧ VR τ ρ b q := by
  simp only [VR, VRs] at h
  obtain ⟨vs, rfl, p, l, hl, hp, q, l2, hl2, hq, rfl⟩ := h
  subst hl2
  obtain ⟨l⟩ := vs
  simp only at hl
  subst hl
  exact ⟨p, q, rfl, hp, hq⟩
theorem ag5 {τ : Nat → Int} {ρ : Inj} {e0 e1 e2 e3 e4 : E} {x : Value} (h : VR τ ρ (agE e0 e1 e2 e3 e4) x) : x = insV (e0.den τ) (e1.den τ) (e2.den τ) (e3.den τ) (e4.den τ) := by
  unfold agE at h
  simp only [VR, VRs] at h
  obtain ⟨vs, rfl, _, _, hl, rfl, _, _, rfl, rfl, _, _, rfl, rfl, _, _, rfl, rfl, _, _, rfl, rfl, rfl⟩ := h
  obtain ⟨l⟩ := vs
  simp only at hl
  subst hl
  rfl
theorem vrs_ag {τ : Nat → Int} {ρ : Inj} {o a b c i : Int} {e0 e1 e2 e3 e4 : E} (h0 : e0.den τ = o) (h1 : e1.den τ = a) (h2 : e2.den τ = b) (h3 : e3.den τ = c) (h4 : e4.den τ = i) : VR τ ρ (agE e0 e1 e2 e3 e4) (insV o a b c i) := by
  subst h0 h1 h2 h3 h4
  unfold agE
  simp [VR, VRs]
/-- what code.Read says of a word -/
def ReadIs (w : Int) (v : Value) : Prop := ∀ (τ : Nat → Int) (W0 : World), τ 0 = w → ∃ u, MemoOk Tryd.prog 3 τ W0 9 ⟨mR.args, mR.pre, u, mR.post⟩ ∧ ∀ ρ x, VR τ ρ u x → x = v
noncomputable def belowF : Fx → Bool
  | [] => true
  | (_, x, y, _) :: l => (belowE 1 x && belowE 1 y) && belowF l
theorem known_below {F : Fx} {τ τ' : Nat → Int} (h : τ' 0 = τ 0) (hk : Known2 τ rgW F) (hb : belowF F = true) : Known2 τ' rgW F := by
  have hc : ∀ i, i < 1 → τ' i = τ i := fun i hi => by
    obtain rfl : i = 0 := by omega
    exact h
  refine ⟨fun i lo hi hr => ?_, ?_⟩
  · have := hk.rng i lo hi hr
    rcases i with _ | i
    · rw [h]; exact this
    · simp at hr
  · have hfs := hk.facts
    clear hk
    induction F with
    | nil => intro q a b t hm; cases hm
    | cons x l ih =>
      obtain ⟨q0, a0, b0, t0⟩ := x
      simp only [belowF, Bool.and_eq_true] at hb
      intro q a b t hm
      cases hm with
      | head =>
        have := hfs _ _ _ _ List.mem_cons_self
        rw [den_congr hc hb.1.1, den_congr hc hb.1.2]; exact this
      | tail _ hm => exact ih hb.2 (fun q a b t hm => hfs q a b t (List.mem_cons_of_mem _ hm)) q a b t hm
theorem read_of {w : Int} (F : Fx) (t : Bool) (e0 e1 e2 e3 e4 : E) (hk : Known2 (fun _ => w) rgW F) (hb : belowF F = true) (he : (((belowE 1 e0 && belowE 1 e1) && (belowE 1 e2 && belowE 1 e3)) && belowE 1 e4) = true)
    (run : ranTo (evCall (cxX Tryd.prog bad rgW F []) 1000 60 9 mR.args mR.pre) (vL e0 e1 e2 e3 e4 t) mR.post = true) :
    ReadIs w (.tuple #[insV (e0.den fun _ => w) (e1.den fun _ => w) (e2.den fun _ => w) (e3.den fun _ => w) (e4.den fun _ => w), .bool t]) := by
  intro τ W0 h
  simp only [Bool.and_eq_true] at he
  have hc : ∀ i, i < 1 → τ i = (fun _ => w) i := fun i hi => by
    obtain rfl : i = 0 := by omega
    exact h
  refine ⟨vL e0 e1 e2 e3 e4 t, memo_ok fit (known_below (τ := fun _ => w) h hk hb) FnsOk.nil (m := ⟨mR.args, mR.pre, vL e0 e1 e2 e3 e4 t, mR.post⟩) run, fun ρ x hx => ?_⟩
  obtain ⟨p, q, rfl, hp, hq⟩ := tup2 hx
  rw [ag5 hp, den_congr hc he.1.1.1, den_congr hc he.1.1.2, den_congr hc he.1.2.1, den_congr hc he.1.2.2, den_congr hc he.2]
  simp only [VR] at hq
  rw [hq]
/-- a word's parts -/
theorem atoms {w : Int} (h : 0 ≤ w ∧ w ≤ 4294967295) : E.den (fun _ => w) (.bop .shr .i64 (.var 0) (.lit 24)) = w / 16777216 ∧ E.den (fun _ => w) (.bop .and .i64 (.bop .shr .i64 (.var 0) (.lit 20)) (.lit 15)) = w / 1048576 % 16 ∧ E.den (fun _ => w) (.bop .and .i64 (.bop .shr .i64 (.var 0) (.lit 16)) (.lit 15)) = w / 65536 % 16 ∧ E.den (fun _ => w) (.bop .and .i64 (.bop .shr .i64 (.var 0) (.lit 12)) (.lit 15)) = w / 4096 % 16 ∧ E.den (fun _ => w) (.bop .and .i64 (.var 0) (.lit 4095)) = w % 4096 := by
  obtain ⟨m, rfl⟩ := Int.eq_ofNat_of_zero_le h.1
  have hm := h.2
  have sh : ∀ s : Nat, s ≤ 64 → bopV .shr .i64 (m : Int) (Int.ofNat s) = ((m / 2 ^ s : Nat) : Int) := by
    intro s hs
    simp only [bopV]
    rw [show (Int.ofNat s).toNat = s from rfl, show min s (IntKind.bits .i64) = s from Nat.min_eq_left hs, Int.fdiv_eq_ediv_of_nonneg _ (Int.pow_nonneg (by omega))]
    simp
  have an : ∀ (y c : Nat), 2 ^ (Nat.log2 c + 1) = c + 1 → c ≤ 4095 → y ≤ 4294967295 → bopV .and .i64 (y : Int) (Int.ofNat c) = ((y % (c + 1) : Nat) : Int) := fun y c h1 h2 h3 =>
    and_ones .i64 y c h1 (by show (c : Int) ≤ 9223372036854775807; omega) (by show (y : Int) ≤ 9223372036854775807; omega)
  have le : ∀ s : Nat, m / 2 ^ s ≤ 4294967295 := fun s => Nat.le_trans (Nat.div_le_self _ _) (by omega)
  refine ⟨?_, ?_, ?_, ?_, ?_⟩
  · show bopV .shr .i64 (m : Int) (Int.ofNat 24) = _
    rw [sh 24 (by decide)]; simp
  · show bopV .and .i64 (bopV .shr .i64 (m : Int) (Int.ofNat 20)) (Int.ofNat 15) = _
    rw [sh 20 (by decide), an _ 15 (by decide) (by decide) (le 20)]; simp
  · show bopV .and .i64 (bopV .shr .i64 (m : Int) (Int.ofNat 16)) (Int.ofNat 15) = _
    rw [sh 16 (by decide), an _ 15 (by decide) (by decide) (le 16)]; simp
  · show bopV .and .i64 (bopV .shr .i64 (m : Int) (Int.ofNat 12)) (Int.ofNat 15) = _
    rw [sh 12 (by decide), an _ 15 (by decide) (by decide) (le 12)]; simp
  · show bopV .and .i64 (m : Int) (Int.ofNat 4095) = _
    rw [an m 4095 (by decide) (by decide) (by omega)]; simp
/-- a word of op 1 -/
abbrev V1 (a b c i : Int) : Prop := (0 ≤ a ∧ a ≤ 7) ∧ (0 ≤ b ∧ b ≤ 0) ∧ (0 ≤ c ∧ c ≤ 0) ∧ (0 ≤ i ∧ i ≤ 4095)
theorem k1 {w a b c i : Int} (hw : 0 ≤ w ∧ w ≤ 4294967295) (h : w = radix 1 a b c i) (hv : V1 a b c i) : Known2 (fun _ => w) rgW ((true, (.bop .shr .i64 (.var 0) (.lit 24)), (.lit 1), true) :: (false, (.bop .and .i64 (.bop .shr .i64 (.var 0) (.lit 20)) (.lit 15)), (.lit 8), true) :: (true, (.bop .and .i64 (.bop .shr .i64 (.var 0) (.lit 16)) (.lit 15)), (.lit 0), true) :: (true, (.bop .and .i64 (.bop .shr .i64 (.var 0) (.lit 12)) (.lit 15)), (.lit 0), true) :: []) := by
  obtain ⟨ha, hb, hc, hi⟩ := hv
  have hat := atoms hw
  simp only [radix] at h
  refine ⟨fun i lo hi hr => by
    rcases i with _ | i
    · simp at hr; obtain ⟨rfl, rfl⟩ := hr; exact hw
    · simp at hr, fun q x y t hm => ?_⟩
  simp only [List.mem_cons, List.not_mem_nil, or_false, Prod.mk.injEq] at hm
  rcases hm with ⟨rfl, rfl, rfl, rfl⟩ | ⟨rfl, rfl, rfl, rfl⟩ | ⟨rfl, rfl, rfl, rfl⟩ | ⟨rfl, rfl, rfl, rfl⟩
  · show decide (_ = _) = true
    rw [hat.1, decide_eq_true_iff]; show _ = (1 : Int); omega
  · show decide (_ < _) = true
    rw [hat.2.1, decide_eq_true_iff]; show _ < (8 : Int); omega
  · show decide (_ = _) = true
    rw [hat.2.2.1, decide_eq_true_iff]; show _ = (0 : Int); omega
  · show decide (_ = _) = true
    rw [hat.2.2.2.1, decide_eq_true_iff]; show _ = (0 : Int); omega
theorem rd1 {w a b c i : Int} (hw : 0 ≤ w ∧ w ≤ 4294967295) (h : w = radix 1 a b c i) (hv : V1 a b c i) : ReadIs w (.tuple #[insV 1 a b c i, .bool true]) := by
  have hr := read_of ((true, (.bop .shr .i64 (.var 0) (.lit 24)), (.lit 1), true) :: (false, (.bop .and .i64 (.bop .shr .i64 (.var 0) (.lit 20)) (.lit 15)), (.lit 8), true) :: (true, (.bop .and .i64 (.bop .shr .i64 (.var 0) (.lit 16)) (.lit 15)), (.lit 0), true) :: (true, (.bop .and .i64 (.bop .shr .i64 (.var 0) (.lit 12)) (.lit 15)), (.lit 0), true) :: []) true (.lit 1) (.bop .and .i64 (.bop .shr .i64 (.var 0) (.lit 20)) (.lit 15)) (.lit 0) (.lit 0) (.bop .and .i64 (.var 0) (.lit 4095)) (k1 hw h hv) (by kernel_rfl) (by kernel_rfl) (by kernel_rfl)
  obtain ⟨ha, hb, hc, hi⟩ := hv
  have hat := atoms hw
  simp only [radix] at h
  have hv0 : E.den (fun _ => w) (.lit 1) = 1 := rfl
  have hv1 := (show E.den (fun _ => w) (.bop .and .i64 (.bop .shr .i64 (.var 0) (.lit 20)) (.lit 15)) = a by rw [hat.2.1]; omega)
  have hv2 := (show E.den (fun _ => w) (.lit 0) = b by show (0 : Int) = _; omega)
  have hv3 := (show E.den (fun _ => w) (.lit 0) = c by show (0 : Int) = _; omega)
  have hv4 := (show E.den (fun _ => w) (.bop .and .i64 (.var 0) (.lit 4095)) = i by rw [hat.2.2.2.2]; omega)
  intro τ W0 hτ
  obtain ⟨u, h1, h2⟩ := hr τ W0 hτ
  refine ⟨u, h1, fun ρ x hx => ?_⟩
  have := h2 ρ x hx
  rw [this]
  simp only [Value.tuple.injEq, Array.mk.injEq, List.cons.injEq, Value.agg.injEq, Value.int.injEq, true_and, and_true]
  exact ⟨hv0, hv1, hv2, hv3, hv4⟩
/-- a word of op 2 -/
abbrev V2 (a b c i : Int) : Prop := (0 ≤ a ∧ a ≤ 7) ∧ (0 ≤ b ∧ b ≤ 0) ∧ (0 ≤ c ∧ c ≤ 0) ∧ (0 ≤ i ∧ i ≤ 4095)
theorem k2 {w a b c i : Int} (hw : 0 ≤ w ∧ w ≤ 4294967295) (h : w = radix 2 a b c i) (hv : V2 a b c i) : Known2 (fun _ => w) rgW ((true, (.bop .shr .i64 (.var 0) (.lit 24)), (.lit 2), true) :: (false, (.bop .and .i64 (.bop .shr .i64 (.var 0) (.lit 20)) (.lit 15)), (.lit 8), true) :: (true, (.bop .and .i64 (.bop .shr .i64 (.var 0) (.lit 16)) (.lit 15)), (.lit 0), true) :: (true, (.bop .and .i64 (.bop .shr .i64 (.var 0) (.lit 12)) (.lit 15)), (.lit 0), true) :: []) := by
  obtain ⟨ha, hb, hc, hi⟩ := hv
  have hat := atoms hw
  simp only [radix] at h
  refine ⟨fun i lo hi hr => by
    rcases i with _ | i
    · simp at hr; obtain ⟨rfl, rfl⟩ := hr; exact hw
    · simp at hr, fun q x y t hm => ?_⟩
  simp only [List.mem_cons, List.not_mem_nil, or_false, Prod.mk.injEq] at hm
  rcases hm with ⟨rfl, rfl, rfl, rfl⟩ | ⟨rfl, rfl, rfl, rfl⟩ | ⟨rfl, rfl, rfl, rfl⟩ | ⟨rfl, rfl, rfl, rfl⟩
  · show decide (_ = _) = true
    rw [hat.1, decide_eq_true_iff]; show _ = (2 : Int); omega
  · show decide (_ < _) = true
    rw [hat.2.1, decide_eq_true_iff]; show _ < (8 : Int); omega
  · show decide (_ = _) = true
    rw [hat.2.2.1, decide_eq_true_iff]; show _ = (0 : Int); omega
  · show decide (_ = _) = true
    rw [hat.2.2.2.1, decide_eq_true_iff]; show _ = (0 : Int); omega
theorem rd2 {w a b c i : Int} (hw : 0 ≤ w ∧ w ≤ 4294967295) (h : w = radix 2 a b c i) (hv : V2 a b c i) : ReadIs w (.tuple #[insV 2 a b c i, .bool true]) := by
  have hr := read_of ((true, (.bop .shr .i64 (.var 0) (.lit 24)), (.lit 2), true) :: (false, (.bop .and .i64 (.bop .shr .i64 (.var 0) (.lit 20)) (.lit 15)), (.lit 8), true) :: (true, (.bop .and .i64 (.bop .shr .i64 (.var 0) (.lit 16)) (.lit 15)), (.lit 0), true) :: (true, (.bop .and .i64 (.bop .shr .i64 (.var 0) (.lit 12)) (.lit 15)), (.lit 0), true) :: []) true (.lit 2) (.bop .and .i64 (.bop .shr .i64 (.var 0) (.lit 20)) (.lit 15)) (.lit 0) (.lit 0) (.bop .and .i64 (.var 0) (.lit 4095)) (k2 hw h hv) (by kernel_rfl) (by kernel_rfl) (by kernel_rfl)
  obtain ⟨ha, hb, hc, hi⟩ := hv
  have hat := atoms hw
  simp only [radix] at h
  have hv0 : E.den (fun _ => w) (.lit 2) = 2 := rfl
  have hv1 := (show E.den (fun _ => w) (.bop .and .i64 (.bop .shr .i64 (.var 0) (.lit 20)) (.lit 15)) = a by rw [hat.2.1]; omega)
  have hv2 := (show E.den (fun _ => w) (.lit 0) = b by show (0 : Int) = _; omega)
  have hv3 := (show E.den (fun _ => w) (.lit 0) = c by show (0 : Int) = _; omega)
  have hv4 := (show E.den (fun _ => w) (.bop .and .i64 (.var 0) (.lit 4095)) = i by rw [hat.2.2.2.2]; omega)
  intro τ W0 hτ
  obtain ⟨u, h1, h2⟩ := hr τ W0 hτ
  refine ⟨u, h1, fun ρ x hx => ?_⟩
  have := h2 ρ x hx
  rw [this]
  simp only [Value.tuple.injEq, Array.mk.injEq, List.cons.injEq, Value.agg.injEq, Value.int.injEq, true_and, and_true]
  exact ⟨hv0, hv1, hv2, hv3, hv4⟩
/-- a word of op 3 -/
abbrev V3 (a b c i : Int) : Prop := (0 ≤ a ∧ a ≤ 7) ∧ (0 ≤ b ∧ b ≤ 7) ∧ (0 ≤ c ∧ c ≤ 7) ∧ (0 ≤ i ∧ i ≤ 11)
theorem k3 {w a b c i : Int} (hw : 0 ≤ w ∧ w ≤ 4294967295) (h : w = radix 3 a b c i) (hv : V3 a b c i) : Known2 (fun _ => w) rgW ((true, (.bop .shr .i64 (.var 0) (.lit 24)), (.lit 3), true) :: (false, (.bop .and .i64 (.bop .shr .i64 (.var 0) (.lit 20)) (.lit 15)), (.lit 8), true) :: (false, (.bop .and .i64 (.bop .shr .i64 (.var 0) (.lit 16)) (.lit 15)), (.lit 8), true) :: (false, (.bop .and .i64 (.bop .shr .i64 (.var 0) (.lit 12)) (.lit 15)), (.lit 8), true) :: (false, (.lit 11), (.bop .and .i64 (.var 0) (.lit 4095)), false) :: []) := by
  obtain ⟨ha, hb, hc, hi⟩ := hv
  have hat := atoms hw
  simp only [radix] at h
  refine ⟨fun i lo hi hr => by
    rcases i with _ | i
    · simp at hr; obtain ⟨rfl, rfl⟩ := hr; exact hw
    · simp at hr, fun q x y t hm => ?_⟩
  simp only [List.mem_cons, List.not_mem_nil, or_false, Prod.mk.injEq] at hm
  rcases hm with ⟨rfl, rfl, rfl, rfl⟩ | ⟨rfl, rfl, rfl, rfl⟩ | ⟨rfl, rfl, rfl, rfl⟩ | ⟨rfl, rfl, rfl, rfl⟩ | ⟨rfl, rfl, rfl, rfl⟩
  · show decide (_ = _) = true
    rw [hat.1, decide_eq_true_iff]; show _ = (3 : Int); omega
  · show decide (_ < _) = true
    rw [hat.2.1, decide_eq_true_iff]; show _ < (8 : Int); omega
  · show decide (_ < _) = true
    rw [hat.2.2.1, decide_eq_true_iff]; show _ < (8 : Int); omega
  · show decide (_ < _) = true
    rw [hat.2.2.2.1, decide_eq_true_iff]; show _ < (8 : Int); omega
  · show decide (_ < _) = false
    rw [hat.2.2.2.2, decide_eq_false_iff_not]; show ¬ ((11 : Int) < _); omega
theorem rd3 {w a b c i : Int} (hw : 0 ≤ w ∧ w ≤ 4294967295) (h : w = radix 3 a b c i) (hv : V3 a b c i) : ReadIs w (.tuple #[insV 3 a b c i, .bool true]) := by
  have hr := read_of ((true, (.bop .shr .i64 (.var 0) (.lit 24)), (.lit 3), true) :: (false, (.bop .and .i64 (.bop .shr .i64 (.var 0) (.lit 20)) (.lit 15)), (.lit 8), true) :: (false, (.bop .and .i64 (.bop .shr .i64 (.var 0) (.lit 16)) (.lit 15)), (.lit 8), true) :: (false, (.bop .and .i64 (.bop .shr .i64 (.var 0) (.lit 12)) (.lit 15)), (.lit 8), true) :: (false, (.lit 11), (.bop .and .i64 (.var 0) (.lit 4095)), false) :: []) true (.lit 3) (.bop .and .i64 (.bop .shr .i64 (.var 0) (.lit 20)) (.lit 15)) (.bop .and .i64 (.bop .shr .i64 (.var 0) (.lit 16)) (.lit 15)) (.bop .and .i64 (.bop .shr .i64 (.var 0) (.lit 12)) (.lit 15)) (.bop .and .i64 (.var 0) (.lit 4095)) (k3 hw h hv) (by kernel_rfl) (by kernel_rfl) (by kernel_rfl)
  obtain ⟨ha, hb, hc, hi⟩ := hv
  have hat := atoms hw
  simp only [radix] at h
  have hv0 : E.den (fun _ => w) (.lit 3) = 3 := rfl
  have hv1 := (show E.den (fun _ => w) (.bop .and .i64 (.bop .shr .i64 (.var 0) (.lit 20)) (.lit 15)) = a by rw [hat.2.1]; omega)
  have hv2 := (show E.den (fun _ => w) (.bop .and .i64 (.bop .shr .i64 (.var 0) (.lit 16)) (.lit 15)) = b by rw [hat.2.2.1]; omega)
  have hv3 := (show E.den (fun _ => w) (.bop .and .i64 (.bop .shr .i64 (.var 0) (.lit 12)) (.lit 15)) = c by rw [hat.2.2.2.1]; omega)
  have hv4 := (show E.den (fun _ => w) (.bop .and .i64 (.var 0) (.lit 4095)) = i by rw [hat.2.2.2.2]; omega)
  intro τ W0 hτ
  obtain ⟨u, h1, h2⟩ := hr τ W0 hτ
  refine ⟨u, h1, fun ρ x hx => ?_⟩
  have := h2 ρ x hx
  rw [this]
  simp only [Value.tuple.injEq, Array.mk.injEq, List.cons.injEq, Value.agg.injEq, Value.int.injEq, true_and, and_true]
  exact ⟨hv0, hv1, hv2, hv3, hv4⟩
/-- a word of op 4 -/
abbrev V4 (a b c i : Int) : Prop := (0 ≤ a ∧ a ≤ 0) ∧ (0 ≤ b ∧ b ≤ 0) ∧ (0 ≤ c ∧ c ≤ 0) ∧ (0 ≤ i ∧ i ≤ 4095)
theorem k4 {w a b c i : Int} (hw : 0 ≤ w ∧ w ≤ 4294967295) (h : w = radix 4 a b c i) (hv : V4 a b c i) : Known2 (fun _ => w) rgW ((true, (.bop .shr .i64 (.var 0) (.lit 24)), (.lit 4), true) :: (true, (.bop .and .i64 (.bop .shr .i64 (.var 0) (.lit 20)) (.lit 15)), (.lit 0), true) :: (true, (.bop .and .i64 (.bop .shr .i64 (.var 0) (.lit 16)) (.lit 15)), (.lit 0), true) :: (true, (.bop .and .i64 (.bop .shr .i64 (.var 0) (.lit 12)) (.lit 15)), (.lit 0), true) :: []) := by
  obtain ⟨ha, hb, hc, hi⟩ := hv
  have hat := atoms hw
  simp only [radix] at h
  refine ⟨fun i lo hi hr => by
    rcases i with _ | i
    · simp at hr; obtain ⟨rfl, rfl⟩ := hr; exact hw
    · simp at hr, fun q x y t hm => ?_⟩
  simp only [List.mem_cons, List.not_mem_nil, or_false, Prod.mk.injEq] at hm
  rcases hm with ⟨rfl, rfl, rfl, rfl⟩ | ⟨rfl, rfl, rfl, rfl⟩ | ⟨rfl, rfl, rfl, rfl⟩ | ⟨rfl, rfl, rfl, rfl⟩
  · show decide (_ = _) = true
    rw [hat.1, decide_eq_true_iff]; show _ = (4 : Int); omega
  · show decide (_ = _) = true
    rw [hat.2.1, decide_eq_true_iff]; show _ = (0 : Int); omega
  · show decide (_ = _) = true
    rw [hat.2.2.1, decide_eq_true_iff]; show _ = (0 : Int); omega
  · show decide (_ = _) = true
    rw [hat.2.2.2.1, decide_eq_true_iff]; show _ = (0 : Int); omega
theorem rd4 {w a b c i : Int} (hw : 0 ≤ w ∧ w ≤ 4294967295) (h : w = radix 4 a b c i) (hv : V4 a b c i) : ReadIs w (.tuple #[insV 4 a b c i, .bool true]) := by
  have hr := read_of ((true, (.bop .shr .i64 (.var 0) (.lit 24)), (.lit 4), true) :: (true, (.bop .and .i64 (.bop .shr .i64 (.var 0) (.lit 20)) (.lit 15)), (.lit 0), true) :: (true, (.bop .and .i64 (.bop .shr .i64 (.var 0) (.lit 16)) (.lit 15)), (.lit 0), true) :: (true, (.bop .and .i64 (.bop .shr .i64 (.var 0) (.lit 12)) (.lit 15)), (.lit 0), true) :: []) true (.lit 4) (.lit 0) (.lit 0) (.lit 0) (.bop .and .i64 (.var 0) (.lit 4095)) (k4 hw h hv) (by kernel_rfl) (by kernel_rfl) (by kernel_rfl)
  obtain ⟨ha, hb, hc, hi⟩ := hv
  have hat := atoms hw
  simp only [radix] at h
  have hv0 : E.den (fun _ => w) (.lit 4) = 4 := rfl
  have hv1 := (show E.den (fun _ => w) (.lit 0) = a by show (0 : Int) = _; omega)
  have hv2 := (show E.den (fun _ => w) (.lit 0) = b by show (0 : Int) = _; omega)
  have hv3 := (show E.den (fun _ => w) (.lit 0) = c by show (0 : Int) = _; omega)
  have hv4 := (show E.den (fun _ => w) (.bop .and .i64 (.var 0) (.lit 4095)) = i by rw [hat.2.2.2.2]; omega)
  intro τ W0 hτ
  obtain ⟨u, h1, h2⟩ := hr τ W0 hτ
  refine ⟨u, h1, fun ρ x hx => ?_⟩
  have := h2 ρ x hx
  rw [this]
  simp only [Value.tuple.injEq, Array.mk.injEq, List.cons.injEq, Value.agg.injEq, Value.int.injEq, true_and, and_true]
  exact ⟨hv0, hv1, hv2, hv3, hv4⟩
/-- a word of op 5 -/
abbrev V5 (a b c i : Int) : Prop := (0 ≤ a ∧ a ≤ 7) ∧ (0 ≤ b ∧ b ≤ 0) ∧ (0 ≤ c ∧ c ≤ 0) ∧ (0 ≤ i ∧ i ≤ 4095)
theorem k5 {w a b c i : Int} (hw : 0 ≤ w ∧ w ≤ 4294967295) (h : w = radix 5 a b c i) (hv : V5 a b c i) : Known2 (fun _ => w) rgW ((true, (.bop .shr .i64 (.var 0) (.lit 24)), (.lit 5), true) :: (false, (.bop .and .i64 (.bop .shr .i64 (.var 0) (.lit 20)) (.lit 15)), (.lit 8), true) :: (true, (.bop .and .i64 (.bop .shr .i64 (.var 0) (.lit 16)) (.lit 15)), (.lit 0), true) :: (true, (.bop .and .i64 (.bop .shr .i64 (.var 0) (.lit 12)) (.lit 15)), (.lit 0), true) :: []) := by
  obtain ⟨ha, hb, hc, hi⟩ := hv
  have hat := atoms hw
  simp only [radix] at h
  refine ⟨fun i lo hi hr => by
    rcases i with _ | i
    · simp at hr; obtain ⟨rfl, rfl⟩ := hr; exact hw
    · simp at hr, fun q x y t hm => ?_⟩
  simp only [List.mem_cons, List.not_mem_nil, or_false, Prod.mk.injEq] at hm
  rcases hm with ⟨rfl, rfl, rfl, rfl⟩ | ⟨rfl, rfl, rfl, rfl⟩ | ⟨rfl, rfl, rfl, rfl⟩ | ⟨rfl, rfl, rfl, rfl⟩
  · show decide (_ = _) = true
    rw [hat.1, decide_eq_true_iff]; show _ = (5 : Int); omega
  · show decide (_ < _) = true
    rw [hat.2.1, decide_eq_true_iff]; show _ < (8 : Int); omega
  · show decide (_ = _) = true
    rw [hat.2.2.1, decide_eq_true_iff]; show _ = (0 : Int); omega
  · show decide (_ = _) = true
    rw [hat.2.2.2.1, decide_eq_true_iff]; show _ = (0 : Int); omega
theorem rd5 {w a b c i : Int} (hw : 0 ≤ w ∧ w ≤ 4294967295) (h : w = radix 5 a b c i) (hv : V5 a b c i) : ReadIs w (.tuple #[insV 5 a b c i, .bool true]) := by
  have hr := read_of ((true, (.bop .shr .i64 (.var 0) (.lit 24)), (.lit 5), true) :: (false, (.bop .and .i64 (.bop .shr .i64 (.var 0) (.lit 20)) (.lit 15)), (.lit 8), true) :: (true, (.bop .and .i64 (.bop .shr .i64 (.var 0) (.lit 16)) (.lit 15)), (.lit 0), true) :: (true, (.bop .and .i64 (.bop .shr .i64 (.var 0) (.lit 12)) (.lit 15)), (.lit 0), true) :: []) true (.lit 5) (.bop .and .i64 (.bop .shr .i64 (.var 0) (.lit 20)) (.lit 15)) (.lit 0) (.lit 0) (.bop .and .i64 (.var 0) (.lit 4095)) (k5 hw h hv) (by kernel_rfl) (by kernel_rfl) (by kernel_rfl)
  obtain ⟨ha, hb, hc, hi⟩ := hv
  have hat := atoms hw
  simp only [radix] at h
  have hv0 : E.den (fun _ => w) (.lit 5) = 5 := rfl
  have hv1 := (show E.den (fun _ => w) (.bop .and .i64 (.bop .shr .i64 (.var 0) (.lit 20)) (.lit 15)) = a by rw [hat.2.1]; omega)
  have hv2 := (show E.den (fun _ => w) (.lit 0) = b by show (0 : Int) = _; omega)
  have hv3 := (show E.den (fun _ => w) (.lit 0) = c by show (0 : Int) = _; omega)
  have hv4 := (show E.den (fun _ => w) (.bop .and .i64 (.var 0) (.lit 4095)) = i by rw [hat.2.2.2.2]; omega)
  intro τ W0 hτ
  obtain ⟨u, h1, h2⟩ := hr τ W0 hτ
  refine ⟨u, h1, fun ρ x hx => ?_⟩
  have := h2 ρ x hx
  rw [this]
  simp only [Value.tuple.injEq, Array.mk.injEq, List.cons.injEq, Value.agg.injEq, Value.int.injEq, true_and, and_true]
  exact ⟨hv0, hv1, hv2, hv3, hv4⟩
/-- a word of op 6 -/
abbrev V6 (a b c i : Int) : Prop := (0 ≤ a ∧ a ≤ 7) ∧ (0 ≤ b ∧ b ≤ 7) ∧ (0 ≤ c ∧ c ≤ 0) ∧ (0 ≤ i ∧ i ≤ 4095)
theorem k6 {w a b c i : Int} (hw : 0 ≤ w ∧ w ≤ 4294967295) (h : w = radix 6 a b c i) (hv : V6 a b c i) : Known2 (fun _ => w) rgW ((true, (.bop .shr .i64 (.var 0) (.lit 24)), (.lit 6), true) :: (false, (.bop .and .i64 (.bop .shr .i64 (.var 0) (.lit 20)) (.lit 15)), (.lit 8), true) :: (false, (.bop .and .i64 (.bop .shr .i64 (.var 0) (.lit 16)) (.lit 15)), (.lit 8), true) :: (true, (.bop .and .i64 (.bop .shr .i64 (.var 0) (.lit 12)) (.lit 15)), (.lit 0), true) :: []) := by
  obtain ⟨ha, hb, hc, hi⟩ := hv
  have hat := atoms hw
  simp only [radix] at h
  refine ⟨fun i lo hi hr => by
    rcases i with _ | i
    · simp at hr; obtain ⟨rfl, rfl⟩ := hr; exact hw
    · simp at hr, fun q x y t hm => ?_⟩
  simp only [List.mem_cons, List.not_mem_nil, or_false, Prod.mk.injEq] at hm
  rcases hm with ⟨rfl, rfl, rfl, rfl⟩ | ⟨rfl, rfl, rfl, rfl⟩ | ⟨rfl, rfl, rfl, rfl⟩ | ⟨rfl, rfl, rfl, rfl⟩
  · show decide (_ = _) = true
    rw [hat.1, decide_eq_true_iff]; show _ = (6 : Int); omega
  · show decide (_ < _) = true
    rw [hat.2.1, decide_eq_true_iff]; show _ < (8 : Int); omega
  · show decide (_ < _) = true
    rw [hat.2.2.1, decide_eq_true_iff]; show _ < (8 : Int); omega
  · show decide (_ = _) = true
    rw [hat.2.2.2.1, decide_eq_true_iff]; show _ = (0 : Int); omega
theorem rd6 {w a b c i : Int} (hw : 0 ≤ w ∧ w ≤ 4294967295) (h : w = radix 6 a b c i) (hv : V6 a b c i) : ReadIs w (.tuple #[insV 6 a b c i, .bool true]) := by
  have hr := read_of ((true, (.bop .shr .i64 (.var 0) (.lit 24)), (.lit 6), true) :: (false, (.bop .and .i64 (.bop .shr .i64 (.var 0) (.lit 20)) (.lit 15)), (.lit 8), true) :: (false, (.bop .and .i64 (.bop .shr .i64 (.var 0) (.lit 16)) (.lit 15)), (.lit 8), true) :: (true, (.bop .and .i64 (.bop .shr .i64 (.var 0) (.lit 12)) (.lit 15)), (.lit 0), true) :: []) true (.lit 6) (.bop .and .i64 (.bop .shr .i64 (.var 0) (.lit 20)) (.lit 15)) (.bop .and .i64 (.bop .shr .i64 (.var 0) (.lit 16)) (.lit 15)) (.lit 0) (.bop .and .i64 (.var 0) (.lit 4095)) (k6 hw h hv) (by kernel_rfl) (by kernel_rfl) (by kernel_rfl)
  obtain ⟨ha, hb, hc, hi⟩ := hv
  have hat := atoms hw
  simp only [radix] at h
  have hv0 : E.den (fun _ => w) (.lit 6) = 6 := rfl
  have hv1 := (show E.den (fun _ => w) (.bop .and .i64 (.bop .shr .i64 (.var 0) (.lit 20)) (.lit 15)) = a by rw [hat.2.1]; omega)
  have hv2 := (show E.den (fun _ => w) (.bop .and .i64 (.bop .shr .i64 (.var 0) (.lit 16)) (.lit 15)) = b by rw [hat.2.2.1]; omega)
  have hv3 := (show E.den (fun _ => w) (.lit 0) = c by show (0 : Int) = _; omega)
  have hv4 := (show E.den (fun _ => w) (.bop .and .i64 (.var 0) (.lit 4095)) = i by rw [hat.2.2.2.2]; omega)
  intro τ W0 hτ
  obtain ⟨u, h1, h2⟩ := hr τ W0 hτ
  refine ⟨u, h1, fun ρ x hx => ?_⟩
  have := h2 ρ x hx
  rw [this]
  simp only [Value.tuple.injEq, Array.mk.injEq, List.cons.injEq, Value.agg.injEq, Value.int.injEq, true_and, and_true]
  exact ⟨hv0, hv1, hv2, hv3, hv4⟩
/-- a word of op 7 -/
abbrev V7 (a b c i : Int) : Prop := (0 ≤ a ∧ a ≤ 7) ∧ (0 ≤ b ∧ b ≤ 7) ∧ (0 ≤ c ∧ c ≤ 0) ∧ (0 ≤ i ∧ i ≤ 4095)
theorem k7 {w a b c i : Int} (hw : 0 ≤ w ∧ w ≤ 4294967295) (h : w = radix 7 a b c i) (hv : V7 a b c i) : Known2 (fun _ => w) rgW ((true, (.bop .shr .i64 (.var 0) (.lit 24)), (.lit 7), true) :: (false, (.bop .and .i64 (.bop .shr .i64 (.var 0) (.lit 20)) (.lit 15)), (.lit 8), true) :: (false, (.bop .and .i64 (.bop .shr .i64 (.var 0) (.lit 16)) (.lit 15)), (.lit 8), true) :: (true, (.bop .and .i64 (.bop .shr .i64 (.var 0) (.lit 12)) (.lit 15)), (.lit 0), true) :: []) := by
  obtain ⟨ha, hb, hc, hi⟩ := hv
  have hat := atoms hw
  simp only [radix] at h
  refine ⟨fun i lo hi hr => by
    rcases i with _ | i
    · simp at hr; obtain ⟨rfl, rfl⟩ := hr; exact hw
    · simp at hr, fun q x y t hm => ?_⟩
  simp only [List.mem_cons, List.not_mem_nil, or_false, Prod.mk.injEq] at hm
  rcases hm with ⟨rfl, rfl, rfl, rfl⟩ | ⟨rfl, rfl, rfl, rfl⟩ | ⟨rfl, rfl, rfl, rfl⟩ | ⟨rfl, rfl, rfl, rfl⟩
  · show decide (_ = _) = true
    rw [hat.1, decide_eq_true_iff]; show _ = (7 : Int); omega
  · show decide (_ < _) = true
    rw [hat.2.1, decide_eq_true_iff]; show _ < (8 : Int); omega
  · show decide (_ < _) = true
    rw [hat.2.2.1, decide_eq_true_iff]; show _ < (8 : Int); omega
  · show decide (_ = _) = true
    rw [hat.2.2.2.1, decide_eq_true_iff]; show _ = (0 : Int); omega
theorem rd7 {w a b c i : Int} (hw : 0 ≤ w ∧ w ≤ 4294967295) (h : w = radix 7 a b c i) (hv : V7 a b c i) : ReadIs w (.tuple #[insV 7 a b c i, .bool true]) := by
  have hr := read_of ((true, (.bop .shr .i64 (.var 0) (.lit 24)), (.lit 7), true) :: (false, (.bop .and .i64 (.bop .shr .i64 (.var 0) (.lit 20)) (.lit 15)), (.lit 8), true) :: (false, (.bop .and .i64 (.bop .shr .i64 (.var 0) (.lit 16)) (.lit 15)), (.lit 8), true) :: (true, (.bop .and .i64 (.bop .shr .i64 (.var 0) (.lit 12)) (.lit 15)), (.lit 0), true) :: []) true (.lit 7) (.bop .and .i64 (.bop .shr .i64 (.var 0) (.lit 20)) (.lit 15)) (.bop .and .i64 (.bop .shr .i64 (.var 0) (.lit 16)) (.lit 15)) (.lit 0) (.bop .and .i64 (.var 0) (.lit 4095)) (k7 hw h hv) (by kernel_rfl) (by kernel_rfl) (by kernel_rfl)
  obtain ⟨ha, hb, hc, hi⟩ := hv
  have hat := atoms hw
  simp only [radix] at h
  have hv0 : E.den (fun _ => w) (.lit 7) = 7 := rfl
  have hv1 := (show E.den (fun _ => w) (.bop .and .i64 (.bop .shr .i64 (.var 0) (.lit 20)) (.lit 15)) = a by rw [hat.2.1]; omega)
  have hv2 := (show E.den (fun _ => w) (.bop .and .i64 (.bop .shr .i64 (.var 0) (.lit 16)) (.lit 15)) = b by rw [hat.2.2.1]; omega)
  have hv3 := (show E.den (fun _ => w) (.lit 0) = c by show (0 : Int) = _; omega)
  have hv4 := (show E.den (fun _ => w) (.bop .and .i64 (.var 0) (.lit 4095)) = i by rw [hat.2.2.2.2]; omega)
  intro τ W0 hτ
  obtain ⟨u, h1, h2⟩ := hr τ W0 hτ
  refine ⟨u, h1, fun ρ x hx => ?_⟩
  have := h2 ρ x hx
  rw [this]
  simp only [Value.tuple.injEq, Array.mk.injEq, List.cons.injEq, Value.agg.injEq, Value.int.injEq, true_and, and_true]
  exact ⟨hv0, hv1, hv2, hv3, hv4⟩
/-- a word of op 8 -/
abbrev V8 (a b c i : Int) : Prop := (0 ≤ a ∧ a ≤ 15) ∧ (0 ≤ b ∧ b ≤ 15) ∧ (0 ≤ c ∧ c ≤ 0) ∧ (0 ≤ i ∧ i ≤ 0)
theorem k8 {w a b c i : Int} (hw : 0 ≤ w ∧ w ≤ 4294967295) (h : w = radix 8 a b c i) (hv : V8 a b c i) : Known2 (fun _ => w) rgW ((true, (.bop .shr .i64 (.var 0) (.lit 24)), (.lit 8), true) :: (false, (.lit 0), (.bop .and .i64 (.var 0) (.lit 4095)), false) :: (true, (.bop .and .i64 (.bop .shr .i64 (.var 0) (.lit 12)) (.lit 15)), (.lit 0), true) :: []) := by
  obtain ⟨ha, hb, hc, hi⟩ := hv
  have hat := atoms hw
  simp only [radix] at h
  refine ⟨fun i lo hi hr => by
    rcases i with _ | i
    · simp at hr; obtain ⟨rfl, rfl⟩ := hr; exact hw
    · simp at hr, fun q x y t hm => ?_⟩
  simp only [List.mem_cons, List.not_mem_nil, or_false, Prod.mk.injEq] at hm
  rcases hm with ⟨rfl, rfl, rfl, rfl⟩ | ⟨rfl, rfl, rfl, rfl⟩ | ⟨rfl, rfl, rfl, rfl⟩
  · show decide (_ = _) = true
    rw [hat.1, decide_eq_true_iff]; show _ = (8 : Int); omega
  · show decide (_ < _) = false
    rw [hat.2.2.2.2, decide_eq_false_iff_not]; show ¬ ((0 : Int) < _); omega
  · show decide (_ = _) = true
    rw [hat.2.2.2.1, decide_eq_true_iff]; show _ = (0 : Int); omega
theorem rd8 {w a b c i : Int} (hw : 0 ≤ w ∧ w ≤ 4294967295) (h : w = radix 8 a b c i) (hv : V8 a b c i) : ReadIs w (.tuple #[insV 8 a b c i, .bool true]) := by
  have hr := read_of ((true, (.bop .shr .i64 (.var 0) (.lit 24)), (.lit 8), true) :: (false, (.lit 0), (.bop .and .i64 (.var 0) (.lit 4095)), false) :: (true, (.bop .and .i64 (.bop .shr .i64 (.var 0) (.lit 12)) (.lit 15)), (.lit 0), true) :: []) true (.lit 8) (.bop .and .i64 (.bop .shr .i64 (.var 0) (.lit 20)) (.lit 15)) (.bop .and .i64 (.bop .shr .i64 (.var 0) (.lit 16)) (.lit 15)) (.lit 0) (.bop .and .i64 (.var 0) (.lit 4095)) (k8 hw h hv) (by kernel_rfl) (by kernel_rfl) (by kernel_rfl)
  obtain ⟨ha, hb, hc, hi⟩ := hv
  have hat := atoms hw
  simp only [radix] at h
  have hv0 : E.den (fun _ => w) (.lit 8) = 8 := rfl
  have hv1 := (show E.den (fun _ => w) (.bop .and .i64 (.bop .shr .i64 (.var 0) (.lit 20)) (.lit 15)) = a by rw [hat.2.1]; omega)
  have hv2 := (show E.den (fun _ => w) (.bop .and .i64 (.bop .shr .i64 (.var 0) (.lit 16)) (.lit 15)) = b by rw [hat.2.2.1]; omega)
  have hv3 := (show E.den (fun _ => w) (.lit 0) = c by show (0 : Int) = _; omega)
  have hv4 := (show E.den (fun _ => w) (.bop .and .i64 (.var 0) (.lit 4095)) = i by rw [hat.2.2.2.2]; omega)
  intro τ W0 hτ
  obtain ⟨u, h1, h2⟩ := hr τ W0 hτ
  refine ⟨u, h1, fun ρ x hx => ?_⟩
  have := h2 ρ x hx
  rw [this]
  simp only [Value.tuple.injEq, Array.mk.injEq, List.cons.injEq, Value.agg.injEq, Value.int.injEq, true_and, and_true]
  exact ⟨hv0, hv1, hv2, hv3, hv4⟩
/-- a word of op 9 -/
abbrev V9 (a b c i : Int) : Prop := (0 ≤ a ∧ a ≤ 15) ∧ (0 ≤ b ∧ b ≤ 7) ∧ (0 ≤ c ∧ c ≤ 0) ∧ (0 ≤ i ∧ i ≤ 0)
theorem k9 {w a b c i : Int} (hw : 0 ≤ w ∧ w ≤ 4294967295) (h : w = radix 9 a b c i) (hv : V9 a b c i) : Known2 (fun _ => w) rgW ((true, (.bop .shr .i64 (.var 0) (.lit 24)), (.lit 9), true) :: (false, (.bop .and .i64 (.bop .shr .i64 (.var 0) (.lit 16)) (.lit 15)), (.lit 8), true) :: (false, (.lit 0), (.bop .and .i64 (.var 0) (.lit 4095)), false) :: (true, (.bop .and .i64 (.bop .shr .i64 (.var 0) (.lit 12)) (.lit 15)), (.lit 0), true) :: []) := by
  obtain ⟨ha, hb, hc, hi⟩ := hv
  have hat := atoms hw
  simp only [radix] at h
  refine ⟨fun i lo hi hr => by
    rcases i with _ | i
    · simp at hr; obtain ⟨rfl, rfl⟩ := hr; exact hw
    · simp at hr, fun q x y t hm => ?_⟩
  simp only [List.mem_cons, List.not_mem_nil, or_false, Prod.mk.injEq] at hm
  rcases hm with ⟨rfl, rfl, rfl, rfl⟩ | ⟨rfl, rfl, rfl, rfl⟩ | ⟨rfl, rfl, rfl, rfl⟩ | ⟨rfl, rfl, rfl, rfl⟩
  · show decide (_ = _) = true
    rw [hat.1, decide_eq_true_iff]; show _ = (9 : Int); omega
  · show decide (_ < _) = true
    rw [hat.2.2.1, decide_eq_true_iff]; show _ < (8 : Int); omega
  · show decide (_ < _) = false
    rw [hat.2.2.2.2, decide_eq_false_iff_not]; show ¬ ((0 : Int) < _); omega
  · show decide (_ = _) = true
    rw [hat.2.2.2.1, decide_eq_true_iff]; show _ = (0 : Int); omega
theorem rd9 {w a b c i : Int} (hw : 0 ≤ w ∧ w ≤ 4294967295) (h : w = radix 9 a b c i) (hv : V9 a b c i) : ReadIs w (.tuple #[insV 9 a b c i, .bool true]) := by
  have hr := read_of ((true, (.bop .shr .i64 (.var 0) (.lit 24)), (.lit 9), true) :: (false, (.bop .and .i64 (.bop .shr .i64 (.var 0) (.lit 16)) (.lit 15)), (.lit 8), true) :: (false, (.lit 0), (.bop .and .i64 (.var 0) (.lit 4095)), false) :: (true, (.bop .and .i64 (.bop .shr .i64 (.var 0) (.lit 12)) (.lit 15)), (.lit 0), true) :: []) true (.lit 9) (.bop .and .i64 (.bop .shr .i64 (.var 0) (.lit 20)) (.lit 15)) (.bop .and .i64 (.bop .shr .i64 (.var 0) (.lit 16)) (.lit 15)) (.lit 0) (.bop .and .i64 (.var 0) (.lit 4095)) (k9 hw h hv) (by kernel_rfl) (by kernel_rfl) (by kernel_rfl)
  obtain ⟨ha, hb, hc, hi⟩ := hv
  have hat := atoms hw
  simp only [radix] at h
  have hv0 : E.den (fun _ => w) (.lit 9) = 9 := rfl
  have hv1 := (show E.den (fun _ => w) (.bop .and .i64 (.bop .shr .i64 (.var 0) (.lit 20)) (.lit 15)) = a by rw [hat.2.1]; omega)
  have hv2 := (show E.den (fun _ => w) (.bop .and .i64 (.bop .shr .i64 (.var 0) (.lit 16)) (.lit 15)) = b by rw [hat.2.2.1]; omega)
  have hv3 := (show E.den (fun _ => w) (.lit 0) = c by show (0 : Int) = _; omega)
  have hv4 := (show E.den (fun _ => w) (.bop .and .i64 (.var 0) (.lit 4095)) = i by rw [hat.2.2.2.2]; omega)
  intro τ W0 hτ
  obtain ⟨u, h1, h2⟩ := hr τ W0 hτ
  refine ⟨u, h1, fun ρ x hx => ?_⟩
  have := h2 ρ x hx
  rw [this]
  simp only [Value.tuple.injEq, Array.mk.injEq, List.cons.injEq, Value.agg.injEq, Value.int.injEq, true_and, and_true]
  exact ⟨hv0, hv1, hv2, hv3, hv4⟩
/-- a word of op 10 -/
abbrev V10 (a b c i : Int) : Prop := (0 ≤ a ∧ a ≤ 7) ∧ (0 ≤ b ∧ b ≤ 15) ∧ (0 ≤ c ∧ c ≤ 0) ∧ (0 ≤ i ∧ i ≤ 0)
theorem k10 {w a b c i : Int} (hw : 0 ≤ w ∧ w ≤ 4294967295) (h : w = radix 10 a b c i) (hv : V10 a b c i) : Known2 (fun _ => w) rgW ((true, (.bop .shr .i64 (.var 0) (.lit 24)), (.lit 10), true) :: (false, (.bop .and .i64 (.bop .shr .i64 (.var 0) (.lit 20)) (.lit 15)), (.lit 8), true) :: (false, (.lit 0), (.bop .and .i64 (.var 0) (.lit 4095)), false) :: (true, (.bop .and .i64 (.bop .shr .i64 (.var 0) (.lit 12)) (.lit 15)), (.lit 0), true) :: []) := by
  obtain ⟨ha, hb, hc, hi⟩ := hv
  have hat := atoms hw
  simp only [radix] at h
  refine ⟨fun i lo hi hr => by
    rcases i with _ | i
    · simp at hr; obtain ⟨rfl, rfl⟩ := hr; exact hw
    · simp at hr, fun q x y t hm => ?_⟩
  simp only [List.mem_cons, List.not_mem_nil, or_false, Prod.mk.injEq] at hm
  rcases hm with ⟨rfl, rfl, rfl, rfl⟩ | ⟨rfl, rfl, rfl, rfl⟩ | ⟨rfl, rfl, rfl, rfl⟩ | ⟨rfl, rfl, rfl, rfl⟩
  · show decide (_ = _) = true
    rw [hat.1, decide_eq_true_iff]; show _ = (10 : Int); omega
  · show decide (_ < _) = true
    rw [hat.2.1, decide_eq_true_iff]; show _ < (8 : Int); omega
  · show decide (_ < _) = false
    rw [hat.2.2.2.2, decide_eq_false_iff_not]; show ¬ ((0 : Int) < _); omega
  · show decide (_ = _) = true
    rw [hat.2.2.2.1, decide_eq_true_iff]; show _ = (0 : Int); omega
theorem rd10 {w a b c i : Int} (hw : 0 ≤ w ∧ w ≤ 4294967295) (h : w = radix 10 a b c i) (hv : V10 a b c i) : ReadIs w (.tuple #[insV 10 a b c i, .bool true]) := by
  have hr := read_of ((true, (.bop .shr .i64 (.var 0) (.lit 24)), (.lit 10), true) :: (false, (.bop .and .i64 (.bop .shr .i64 (.var 0) (.lit 20)) (.lit 15)), (.lit 8), true) :: (false, (.lit 0), (.bop .and .i64 (.var 0) (.lit 4095)), false) :: (true, (.bop .and .i64 (.bop .shr .i64 (.var 0) (.lit 12)) (.lit 15)), (.lit 0), true) :: []) true (.lit 10) (.bop .and .i64 (.bop .shr .i64 (.var 0) (.lit 20)) (.lit 15)) (.bop .and .i64 (.bop .shr .i64 (.var 0) (.lit 16)) (.lit 15)) (.lit 0) (.bop .and .i64 (.var 0) (.lit 4095)) (k10 hw h hv) (by kernel_rfl) (by kernel_rfl) (by kernel_rfl)
  obtain ⟨ha, hb, hc, hi⟩ := hv
  have hat := atoms hw
  simp only [radix] at h
  have hv0 : E.den (fun _ => w) (.lit 10) = 10 := rfl
  have hv1 := (show E.den (fun _ => w) (.bop .and .i64 (.bop .shr .i64 (.var 0) (.lit 20)) (.lit 15)) = a by rw [hat.2.1]; omega)
  have hv2 := (show E.den (fun _ => w) (.bop .and .i64 (.bop .shr .i64 (.var 0) (.lit 16)) (.lit 15)) = b by rw [hat.2.2.1]; omega)
  have hv3 := (show E.den (fun _ => w) (.lit 0) = c by show (0 : Int) = _; omega)
  have hv4 := (show E.den (fun _ => w) (.bop .and .i64 (.var 0) (.lit 4095)) = i by rw [hat.2.2.2.2]; omega)
  intro τ W0 hτ
  obtain ⟨u, h1, h2⟩ := hr τ W0 hτ
  refine ⟨u, h1, fun ρ x hx => ?_⟩
  have := h2 ρ x hx
  rw [this]
  simp only [Value.tuple.injEq, Array.mk.injEq, List.cons.injEq, Value.agg.injEq, Value.int.injEq, true_and, and_true]
  exact ⟨hv0, hv1, hv2, hv3, hv4⟩
/-- a word of op 11 -/
abbrev V11 (a b c i : Int) : Prop := (0 ≤ a ∧ a ≤ 2) ∧ (0 ≤ b ∧ b ≤ 15) ∧ (0 ≤ c ∧ c ≤ 15) ∧ (0 ≤ i ∧ i ≤ 0)
theorem k11 {w a b c i : Int} (hw : 0 ≤ w ∧ w ≤ 4294967295) (h : w = radix 11 a b c i) (hv : V11 a b c i) : Known2 (fun _ => w) rgW ((true, (.bop .shr .i64 (.var 0) (.lit 24)), (.lit 11), true) :: (false, (.lit 2), (.bop .and .i64 (.bop .shr .i64 (.var 0) (.lit 20)) (.lit 15)), false) :: (false, (.lit 0), (.bop .and .i64 (.var 0) (.lit 4095)), false) :: []) := by
  obtain ⟨ha, hb, hc, hi⟩ := hv
  have hat := atoms hw
  simp only [radix] at h
  refine ⟨fun i lo hi hr => by
    rcases i with _ | i
    · simp at hr; obtain ⟨rfl, rfl⟩ := hr; exact hw
    · simp at hr, fun q x y t hm => ?_⟩
  simp only [List.mem_cons, List.not_mem_nil, or_false, Prod.mk.injEq] at hm
  rcases hm with ⟨rfl, rfl, rfl, rfl⟩ | ⟨rfl, rfl, rfl, rfl⟩ | ⟨rfl, rfl, rfl, rfl⟩
  · show decide (_ = _) = true
    rw [hat.1, decide_eq_true_iff]; show _ = (11 : Int); omega
  · show decide (_ < _) = false
    rw [hat.2.1, decide_eq_false_iff_not]; show ¬ ((2 : Int) < _); omega
  · show decide (_ < _) = false
    rw [hat.2.2.2.2, decide_eq_false_iff_not]; show ¬ ((0 : Int) < _); omega
theorem rd11 {w a b c i : Int} (hw : 0 ≤ w ∧ w ≤ 4294967295) (h : w = radix 11 a b c i) (hv : V11 a b c i) : ReadIs w (.tuple #[insV 11 a b c i, .bool true]) := by
  have hr := read_of ((true, (.bop .shr .i64 (.var 0) (.lit 24)), (.lit 11), true) :: (false, (.lit 2), (.bop .and .i64 (.bop .shr .i64 (.var 0) (.lit 20)) (.lit 15)), false) :: (false, (.lit 0), (.bop .and .i64 (.var 0) (.lit 4095)), false) :: []) true (.lit 11) (.bop .and .i64 (.bop .shr .i64 (.var 0) (.lit 20)) (.lit 15)) (.bop .and .i64 (.bop .shr .i64 (.var 0) (.lit 16)) (.lit 15)) (.bop .and .i64 (.bop .shr .i64 (.var 0) (.lit 12)) (.lit 15)) (.bop .and .i64 (.var 0) (.lit 4095)) (k11 hw h hv) (by kernel_rfl) (by kernel_rfl) (by kernel_rfl)
  obtain ⟨ha, hb, hc, hi⟩ := hv
  have hat := atoms hw
  simp only [radix] at h
  have hv0 : E.den (fun _ => w) (.lit 11) = 11 := rfl
  have hv1 := (show E.den (fun _ => w) (.bop .and .i64 (.bop .shr .i64 (.var 0) (.lit 20)) (.lit 15)) = a by rw [hat.2.1]; omega)
  have hv2 := (show E.den (fun _ => w) (.bop .and .i64 (.bop .shr .i64 (.var 0) (.lit 16)) (.lit 15)) = b by rw [hat.2.2.1]; omega)
  have hv3 := (show E.den (fun _ => w) (.bop .and .i64 (.bop .shr .i64 (.var 0) (.lit 12)) (.lit 15)) = c by rw [hat.2.2.2.1]; omega)
  have hv4 := (show E.den (fun _ => w) (.bop .and .i64 (.var 0) (.lit 4095)) = i by rw [hat.2.2.2.2]; omega)
  intro τ W0 hτ
  obtain ⟨u, h1, h2⟩ := hr τ W0 hτ
  refine ⟨u, h1, fun ρ x hx => ?_⟩
  have := h2 ρ x hx
  rw [this]
  simp only [Value.tuple.injEq, Array.mk.injEq, List.cons.injEq, Value.agg.injEq, Value.int.injEq, true_and, and_true]
  exact ⟨hv0, hv1, hv2, hv3, hv4⟩
/-- a word of op 12 -/
abbrev V12 (a b c i : Int) : Prop := (0 ≤ a ∧ a ≤ 0) ∧ (0 ≤ b ∧ b ≤ 0) ∧ (0 ≤ c ∧ c ≤ 0) ∧ (0 ≤ i ∧ i ≤ 0)
theorem k12 {w a b c i : Int} (hw : 0 ≤ w ∧ w ≤ 4294967295) (h : w = radix 12 a b c i) (hv : V12 a b c i) : Known2 (fun _ => w) rgW ((true, (.bop .shr .i64 (.var 0) (.lit 24)), (.lit 12), true) :: (false, (.lit 0), (.bop .and .i64 (.var 0) (.lit 4095)), false) :: (true, (.bop .and .i64 (.bop .shr .i64 (.var 0) (.lit 20)) (.lit 15)), (.lit 0), true) :: (true, (.bop .and .i64 (.bop .shr .i64 (.var 0) (.lit 16)) (.lit 15)), (.lit 0), true) :: (true, (.bop .and .i64 (.bop .shr .i64 (.var 0) (.lit 12)) (.lit 15)), (.lit 0), true) :: []) := by
  obtain ⟨ha, hb, hc, hi⟩ := hv
  have hat := atoms hw
  simp only [radix] at h
  refine ⟨fun i lo hi hr => by
    rcases i with _ | i
    · simp at hr; obtain ⟨rfl, rfl⟩ := hr; exact hw
    · simp at hr, fun q x y t hm => ?_⟩
  simp only [List.mem_cons, List.not_mem_nil, or_false, Prod.mk.injEq] at hm
  rcases hm with ⟨rfl, rfl, rfl, rfl⟩ | ⟨rfl, rfl, rfl, rfl⟩ | ⟨rfl, rfl, rfl, rfl⟩ | ⟨rfl, rfl, rfl, rfl⟩ | ⟨rfl, rfl, rfl, rfl⟩
  · show decide (_ = _) = true
    rw [hat.1, decide_eq_true_iff]; show _ = (12 : Int); omega
  · show decide (_ < _) = false
    rw [hat.2.2.2.2, decide_eq_false_iff_not]; show ¬ ((0 : Int) < _); omega
  · show decide (_ = _) = true
    rw [hat.2.1, decide_eq_true_iff]; show _ = (0 : Int); omega
  · show decide (_ = _) = true
    rw [hat.2.2.1, decide_eq_true_iff]; show _ = (0 : Int); omega
  · show decide (_ = _) = true
    rw [hat.2.2.2.1, decide_eq_true_iff]; show _ = (0 : Int); omega
theorem rd12 {w a b c i : Int} (hw : 0 ≤ w ∧ w ≤ 4294967295) (h : w = radix 12 a b c i) (hv : V12 a b c i) : ReadIs w (.tuple #[insV 12 a b c i, .bool true]) := by
  have hr := read_of ((true, (.bop .shr .i64 (.var 0) (.lit 24)), (.lit 12), true) :: (false, (.lit 0), (.bop .and .i64 (.var 0) (.lit 4095)), false) :: (true, (.bop .and .i64 (.bop .shr .i64 (.var 0) (.lit 20)) (.lit 15)), (.lit 0), true) :: (true, (.bop .and .i64 (.bop .shr .i64 (.var 0) (.lit 16)) (.lit 15)), (.lit 0), true) :: (true, (.bop .and .i64 (.bop .shr .i64 (.var 0) (.lit 12)) (.lit 15)), (.lit 0), true) :: []) true (.lit 12) (.lit 0) (.lit 0) (.lit 0) (.bop .and .i64 (.var 0) (.lit 4095)) (k12 hw h hv) (by kernel_rfl) (by kernel_rfl) (by kernel_rfl)
  obtain ⟨ha, hb, hc, hi⟩ := hv
  have hat := atoms hw
  simp only [radix] at h
  have hv0 : E.den (fun _ => w) (.lit 12) = 12 := rfl
  have hv1 := (show E.den (fun _ => w) (.lit 0) = a by show (0 : Int) = _; omega)
  have hv2 := (show E.den (fun _ => w) (.lit 0) = b by show (0 : Int) = _; omega)
  have hv3 := (show E.den (fun _ => w) (.lit 0) = c by show (0 : Int) = _; omega)
  have hv4 := (show E.den (fun _ => w) (.bop .and .i64 (.var 0) (.lit 4095)) = i by rw [hat.2.2.2.2]; omega)
  intro τ W0 hτ
  obtain ⟨u, h1, h2⟩ := hr τ W0 hτ
  refine ⟨u, h1, fun ρ x hx => ?_⟩
  have := h2 ρ x hx
  rw [this]
  simp only [Value.tuple.injEq, Array.mk.injEq, List.cons.injEq, Value.agg.injEq, Value.int.injEq, true_and, and_true]
  exact ⟨hv0, hv1, hv2, hv3, hv4⟩
/-- a word of op 13 -/
abbrev V13 (a b c i : Int) : Prop := (0 ≤ a ∧ a ≤ 0) ∧ (0 ≤ b ∧ b ≤ 0) ∧ (0 ≤ c ∧ c ≤ 0) ∧ (0 ≤ i ∧ i ≤ 0)
theorem k13 {w a b c i : Int} (hw : 0 ≤ w ∧ w ≤ 4294967295) (h : w = radix 13 a b c i) (hv : V13 a b c i) : Known2 (fun _ => w) rgW ((true, (.bop .shr .i64 (.var 0) (.lit 24)), (.lit 13), true) :: (false, (.lit 0), (.bop .and .i64 (.var 0) (.lit 4095)), false) :: (true, (.bop .and .i64 (.bop .shr .i64 (.var 0) (.lit 20)) (.lit 15)), (.lit 0), true) :: (true, (.bop .and .i64 (.bop .shr .i64 (.var 0) (.lit 16)) (.lit 15)), (.lit 0), true) :: (true, (.bop .and .i64 (.bop .shr .i64 (.var 0) (.lit 12)) (.lit 15)), (.lit 0), true) :: []) := by
  obtain ⟨ha, hb, hc, hi⟩ := hv
  have hat := atoms hw
  simp only [radix] at h
  refine ⟨fun i lo hi hr => by
    rcases i with _ | i
    · simp at hr; obtain ⟨rfl, rfl⟩ := hr; exact hw
    · simp at hr, fun q x y t hm => ?_⟩
  simp only [List.mem_cons, List.not_mem_nil, or_false, Prod.mk.injEq] at hm
  rcases hm with ⟨rfl, rfl, rfl, rfl⟩ | ⟨rfl, rfl, rfl, rfl⟩ | ⟨rfl, rfl, rfl, rfl⟩ | ⟨rfl, rfl, rfl, rfl⟩ | ⟨rfl, rfl, rfl, rfl⟩
  · show decide (_ = _) = true
    rw [hat.1, decide_eq_true_iff]; show _ = (13 : Int); omega
  · show decide (_ < _) = false
    rw [hat.2.2.2.2, decide_eq_false_iff_not]; show ¬ ((0 : Int) < _); omega
  · show decide (_ = _) = true
    rw [hat.2.1, decide_eq_true_iff]; show _ = (0 : Int); omega
  · show decide (_ = _) = true
    rw [hat.2.2.1, decide_eq_true_iff]; show _ = (0 : Int); omega
  · show decide (_ = _) = true
    rw [hat.2.2.2.1, decide_eq_true_iff]; show _ = (0 : Int); omega
theorem rd13 {w a b c i : Int} (hw : 0 ≤ w ∧ w ≤ 4294967295) (h : w = radix 13 a b c i) (hv : V13 a b c i) : ReadIs w (.tuple #[insV 13 a b c i, .bool true]) := by
  have hr := read_of ((true, (.bop .shr .i64 (.var 0) (.lit 24)), (.lit 13), true) :: (false, (.lit 0), (.bop .and .i64 (.var 0) (.lit 4095)), false) :: (true, (.bop .and .i64 (.bop .shr .i64 (.var 0) (.lit 20)) (.lit 15)), (.lit 0), true) :: (true, (.bop .and .i64 (.bop .shr .i64 (.var 0) (.lit 16)) (.lit 15)), (.lit 0), true) :: (true, (.bop .and .i64 (.bop .shr .i64 (.var 0) (.lit 12)) (.lit 15)), (.lit 0), true) :: []) true (.lit 13) (.lit 0) (.lit 0) (.lit 0) (.bop .and .i64 (.var 0) (.lit 4095)) (k13 hw h hv) (by kernel_rfl) (by kernel_rfl) (by kernel_rfl)
  obtain ⟨ha, hb, hc, hi⟩ := hv
  have hat := atoms hw
  simp only [radix] at h
  have hv0 : E.den (fun _ => w) (.lit 13) = 13 := rfl
  have hv1 := (show E.den (fun _ => w) (.lit 0) = a by show (0 : Int) = _; omega)
  have hv2 := (show E.den (fun _ => w) (.lit 0) = b by show (0 : Int) = _; omega)
  have hv3 := (show E.den (fun _ => w) (.lit 0) = c by show (0 : Int) = _; omega)
  have hv4 := (show E.den (fun _ => w) (.bop .and .i64 (.var 0) (.lit 4095)) = i by rw [hat.2.2.2.2]; omega)
  intro τ W0 hτ
  obtain ⟨u, h1, h2⟩ := hr τ W0 hτ
  refine ⟨u, h1, fun ρ x hx => ?_⟩
  have := h2 ρ x hx
  rw [this]
  simp only [Value.tuple.injEq, Array.mk.injEq, List.cons.injEq, Value.agg.injEq, Value.int.injEq, true_and, and_true]
  exact ⟨hv0, hv1, hv2, hv3, hv4⟩
/-- a word that is none -/
abbrev NotW (w : Int) : Prop := ReadIs w (.tuple #[insV 0 0 0 0 0, .bool false])
/-- a word that is one -/
abbrev IsW (w : Int) : Prop := (∃ a b c i, w = radix 1 a b c i ∧ V1 a b c i) ∨ (∃ a b c i, w = radix 2 a b c i ∧ V2 a b c i) ∨ (∃ a b c i, w = radix 3 a b c i ∧ V3 a b c i) ∨ (∃ a b c i, w = radix 4 a b c i ∧ V4 a b c i) ∨ (∃ a b c i, w = radix 5 a b c i ∧ V5 a b c i) ∨ (∃ a b c i, w = radix 6 a b c i ∧ V6 a b c i) ∨ (∃ a b c i, w = radix 7 a b c i ∧ V7 a b c i) ∨ (∃ a b c i, w = radix 8 a b c i ∧ V8 a b c i) ∨ (∃ a b c i, w = radix 9 a b c i ∧ V9 a b c i) ∨ (∃ a b c i, w = radix 10 a b c i ∧ V10 a b c i) ∨ (∃ a b c i, w = radix 11 a b c i ∧ V11 a b c i) ∨ (∃ a b c i, w = radix 12 a b c i ∧ V12 a b c i) ∨ (∃ a b c i, w = radix 13 a b c i ∧ V13 a b c i)
theorem w0 {w : Int} (hw : 0 ≤ w ∧ w ≤ 4294967295) (hk : Known2 (fun _ => w) rgW ((false, (.lit 13), (.bop .shr .i64 (.var 0) (.lit 24)), true) :: [])) : NotW w ∨ IsW w := .inl (read_of ((false, (.lit 13), (.bop .shr .i64 (.var 0) (.lit 24)), true) :: []) false (.lit 0) (.lit 0) (.lit 0) (.lit 0) (.lit 0) hk (by kernel_rfl) (by kernel_rfl) (by kernel_rfl))
theorem w1 {w : Int} (hw : 0 ≤ w ∧ w ≤ 4294967295) (hk : Known2 (fun _ => w) rgW ((true, (.bop .shr .i64 (.var 0) (.lit 24)), (.lit 0), true) :: (false, (.lit 13), (.bop .shr .i64 (.var 0) (.lit 24)), false) :: [])) : NotW w ∨ IsW w := .inl (read_of ((true, (.bop .shr .i64 (.var 0) (.lit 24)), (.lit 0), true) :: (false, (.lit 13), (.bop .shr .i64 (.var 0) (.lit 24)), false) :: []) false (.lit 0) (.lit 0) (.lit 0) (.lit 0) (.lit 0) hk (by kernel_rfl) (by kernel_rfl) (by kernel_rfl))
theorem w2 {w : Int} (hw : 0 ≤ w ∧ w ≤ 4294967295) (hk : Known2 (fun _ => w) rgW ((true, (.bop .and .i64 (.bop .shr .i64 (.var 0) (.lit 12)) (.lit 15)), (.lit 0), true) :: (true, (.bop .and .i64 (.bop .shr .i64 (.var 0) (.lit 16)) (.lit 15)), (.lit 0), true) :: (false, (.bop .and .i64 (.bop .shr .i64 (.var 0) (.lit 20)) (.lit 15)), (.lit 8), true) :: (true, (.bop .shr .i64 (.var 0) (.lit 24)), (.lit 1), true) :: (true, (.bop .shr .i64 (.var 0) (.lit 24)), (.lit 0), false) :: (false, (.lit 13), (.bop .shr .i64 (.var 0) (.lit 24)), false) :: [])) : NotW w ∨ IsW w := by
  have hat := atoms hw
  have f0 : decide (E.den (fun _ => w) (.bop .and .i64 (.bop .shr .i64 (.var 0) (.lit 12)) (.lit 15)) = (0 : Int)) = true := hk.facts _ _ _ _ List.mem_cons_self
  rw [hat.2.2.2.1, decide_eq_true_iff] at f0
  have f1 : decide (E.den (fun _ => w) (.bop .and .i64 (.bop .shr .i64 (.var 0) (.lit 16)) (.lit 15)) = (0 : Int)) = true := hk.facts _ _ _ _ (List.mem_cons_of_mem _ List.mem_cons_self)
  rw [hat.2.2.1, decide_eq_true_iff] at f1
  have f2 : decide (E.den (fun _ => w) (.bop .and .i64 (.bop .shr .i64 (.var 0) (.lit 20)) (.lit 15)) < (8 : Int)) = true := hk.facts _ _ _ _ (List.mem_cons_of_mem _ (List.mem_cons_of_mem _ List.mem_cons_self))
  rw [hat.2.1, decide_eq_true_iff] at f2
  have f3 : decide (E.den (fun _ => w) (.bop .shr .i64 (.var 0) (.lit 24)) = (1 : Int)) = true := hk.facts _ _ _ _ (List.mem_cons_of_mem _ (List.mem_cons_of_mem _ (List.mem_cons_of_mem _ List.mem_cons_self)))
  rw [hat.1, decide_eq_true_iff] at f3
  refine .inr (Or.inl ⟨w / 1048576 % 16, w / 65536 % 16, w / 4096 % 16, w % 4096, ?_, ?_⟩)
  · show w = 1 * 16777216 + _ * 1048576 + _ * 65536 + _ * 4096 + _
    omega
  · exact ⟨by omega, by omega, by omega, by omega⟩
theorem w3 {w : Int} (hw : 0 ≤ w ∧ w ≤ 4294967295) (hk : Known2 (fun _ => w) rgW ((true, (.bop .and .i64 (.bop .shr .i64 (.var 0) (.lit 12)) (.lit 15)), (.lit 0), false) :: (true, (.bop .and .i64 (.bop .shr .i64 (.var 0) (.lit 16)) (.lit 15)), (.lit 0), true) :: (false, (.bop .and .i64 (.bop .shr .i64 (.var 0) (.lit 20)) (.lit 15)), (.lit 8), true) :: (true, (.bop .shr .i64 (.var 0) (.lit 24)), (.lit 1), true) :: (true, (.bop .shr .i64 (.var 0) (.lit 24)), (.lit 0), false) :: (false, (.lit 13), (.bop .shr .i64 (.var 0) (.lit 24)), false) :: [])) : NotW w ∨ IsW w := .inl (read_of ((true, (.bop .and .i64 (.bop .shr .i64 (.var 0) (.lit 12)) (.lit 15)), (.lit 0), false) :: (true, (.bop .and .i64 (.bop .shr .i64 (.var 0) (.lit 16)) (.lit 15)), (.lit 0), true) :: (false, (.bop .and .i64 (.bop .shr .i64 (.var 0) (.lit 20)) (.lit 15)), (.lit 8), true) :: (true, (.bop .shr .i64 (.var 0) (.lit 24)), (.lit 1), true) :: (true, (.bop .shr .i64 (.var 0) (.lit 24)), (.lit 0), false) :: (false, (.lit 13), (.bop .shr .i64 (.var 0) (.lit 24)), false) :: []) false (.lit 0) (.lit 0) (.lit 0) (.lit 0) (.lit 0) hk (by kernel_rfl) (by kernel_rfl) (by kernel_rfl))
theorem w4 {w : Int} (hw : 0 ≤ w ∧ w ≤ 4294967295) (hk : Known2 (fun _ => w) rgW ((true, (.bop .and .i64 (.bop .shr .i64 (.var 0) (.lit 16)) (.lit 15)), (.lit 0), false) :: (false, (.bop .and .i64 (.bop .shr .i64 (.var 0) (.lit 20)) (.lit 15)), (.lit 8), true) :: (true, (.bop .shr .i64 (.var 0) (.lit 24)), (.lit 1), true) :: (true, (.bop .shr .i64 (.var 0) (.lit 24)), (.lit 0), false) :: (false, (.lit 13), (.bop .shr .i64 (.var 0) (.lit 24)), false) :: [])) : NotW w ∨ IsW w := .inl (read_of ((true, (.bop .and .i64 (.bop .shr .i64 (.var 0) (.lit 16)) (.lit 15)), (.lit 0), false) :: (false, (.bop .and .i64 (.bop .shr .i64 (.var 0) (.lit 20)) (.lit 15)), (.lit 8), true) :: (true, (.bop .shr .i64 (.var 0) (.lit 24)), (.lit 1), true) :: (true, (.bop .shr .i64 (.var 0) (.lit 24)), (.lit 0), false) :: (false, (.lit 13), (.bop .shr .i64 (.var 0) (.lit 24)), false) :: []) false (.lit 0) (.lit 0) (.lit 0) (.lit 0) (.lit 0) hk (by kernel_rfl) (by kernel_rfl) (by kernel_rfl))
theorem w5 {w : Int} (hw : 0 ≤ w ∧ w ≤ 4294967295) (hk : Known2 (fun _ => w) rgW ((false, (.bop .and .i64 (.bop .shr .i64 (.var 0) (.lit 20)) (.lit 15)), (.lit 8), false) :: (true, (.bop .shr .i64 (.var 0) (.lit 24)), (.lit 1), true) :: (true, (.bop .shr .i64 (.var 0) (.lit 24)), (.lit 0), false) :: (false, (.lit 13), (.bop .shr .i64 (.var 0) (.lit 24)), false) :: [])) : NotW w ∨ IsW w := .inl (read_of ((false, (.bop .and .i64 (.bop .shr .i64 (.var 0) (.lit 20)) (.lit 15)), (.lit 8), false) :: (true, (.bop .shr .i64 (.var 0) (.lit 24)), (.lit 1), true) :: (true, (.bop .shr .i64 (.var 0) (.lit 24)), (.lit 0), false) :: (false, (.lit 13), (.bop .shr .i64 (.var 0) (.lit 24)), false) :: []) false (.lit 0) (.lit 0) (.lit 0) (.lit 0) (.lit 0) hk (by kernel_rfl) (by kernel_rfl) (by kernel_rfl))
theorem w6 {w : Int} (hw : 0 ≤ w ∧ w ≤ 4294967295) (hk : Known2 (fun _ => w) rgW ((true, (.bop .and .i64 (.bop .shr .i64 (.var 0) (.lit 12)) (.lit 15)), (.lit 0), true) :: (true, (.bop .and .i64 (.bop .shr .i64 (.var 0) (.lit 16)) (.lit 15)), (.lit 0), true) :: (false, (.bop .and .i64 (.bop .shr .i64 (.var 0) (.lit 20)) (.lit 15)), (.lit 8), true) :: (true, (.bop .shr .i64 (.var 0) (.lit 24)), (.lit 2), true) :: (true, (.bop .shr .i64 (.var 0) (.lit 24)), (.lit 1), false) :: (true, (.bop .shr .i64 (.var 0) (.lit 24)), (.lit 0), false) :: (false, (.lit 13), (.bop .shr .i64 (.var 0) (.lit 24)), false) :: [])) : NotW w ∨ IsW w := by
  have hat := atoms hw
  have f0 : decide (E.den (fun _ => w) (.bop .and .i64 (.bop .shr .i64 (.var 0) (.lit 12)) (.lit 15)) = (0 : Int)) = true := hk.facts _ _ _ _ List.mem_cons_self
  rw [hat.2.2.2.1, decide_eq_true_iff] at f0
  have f1 : decide (E.den (fun _ => w) (.bop .and .i64 (.bop .shr .i64 (.var 0) (.lit 16)) (.lit 15)) = (0 : Int)) = true := hk.facts _ _ _ _ (List.mem_cons_of_mem _ List.mem_cons_self)
  rw [hat.2.2.1, decide_eq_true_iff] at f1
  have f2 : decide (E.den (fun _ => w) (.bop .and .i64 (.bop .shr .i64 (.var 0) (.lit 20)) (.lit 15)) < (8 : Int)) = true := hk.facts _ _ _ _ (List.mem_cons_of_mem _ (List.mem_cons_of_mem _ List.mem_cons_self))
  rw [hat.2.1, decide_eq_true_iff] at f2
  have f3 : decide (E.den (fun _ => w) (.bop .shr .i64 (.var 0) (.lit 24)) = (2 : Int)) = true := hk.facts _ _ _ _ (List.mem_cons_of_mem _ (List.mem_cons_of_mem _ (List.mem_cons_of_mem _ List.mem_cons_self)))
  rw [hat.1, decide_eq_true_iff] at f3
  refine .inr (Or.inr (Or.inl ⟨w / 1048576 % 16, w / 65536 % 16, w / 4096 % 16, w % 4096, ?_, ?_⟩))
  · show w = 2 * 16777216 + _ * 1048576 + _ * 65536 + _ * 4096 + _
    omega
  · exact ⟨by omega, by omega, by omega, by omega⟩
theorem w7 {w : Int} (hw : 0 ≤ w ∧ w ≤ 4294967295) (hk : Known2 (fun _ => w) rgW ((true, (.bop .and .i64 (.bop .shr .i64 (.var 0) (.lit 12)) (.lit 15)), (.lit 0), false) :: (true, (.bop .and .i64 (.bop .shr .i64 (.var 0) (.lit 16)) (.lit 15)), (.lit 0), true) :: (false, (.bop .and .i64 (.bop .shr .i64 (.var 0) (.lit 20)) (.lit 15)), (.lit 8), true) :: (true, (.bop .shr .i64 (.var 0) (.lit 24)), (.lit 2), true) :: (true, (.bop .shr .i64 (.var 0) (.lit 24)), (.lit 1), false) :: (true, (.bop .shr .i64 (.var 0) (.lit 24)), (.lit 0), false) :: (false, (.lit 13), (.bop .shr .i64 (.var 0) (.lit 24)), false) :: [])) : NotW w ∨ IsW w := .inl (read_of ((true, (.bop .and .i64 (.bop .shr .i64 (.var 0) (.lit 12)) (.lit 15)), (.lit 0), false) :: (true, (.bop .and .i64 (.bop .shr .i64 (.var 0) (.lit 16)) (.lit 15)), (.lit 0), true) :: (false, (.bop .and .i64 (.bop .shr .i64 (.var 0) (.lit 20)) (.lit 15)), (.lit 8), true) :: (true, (.bop .shr .i64 (.var 0) (.lit 24)), (.lit 2), true) :: (true, (.bop .shr .i64 (.var 0) (.lit 24)), (.lit 1), false) :: (true, (.bop .shr .i64 (.var 0) (.lit 24)), (.lit 0), false) :: (false, (.lit 13), (.bop .shr .i64 (.var 0) (.lit 24)), false) :: []) false (.lit 0) (.lit 0) (.lit 0) (.lit 0) (.lit 0) hk (by kernel_rfl) (by kernel_rfl) (by kernel_rfl))
theorem w8 {w : Int} (hw : 0 ≤ w ∧ w ≤ 4294967295) (hk : Known2 (fun _ => w) rgW ((true, (.bop .and .i64 (.bop .shr .i64 (.var 0) (.lit 16)) (.lit 15)), (.lit 0), false) :: (false, (.bop .and .i64 (.bop .shr .i64 (.var 0) (.lit 20)) (.lit 15)), (.lit 8), true) :: (true, (.bop .shr .i64 (.var 0) (.lit 24)), (.lit 2), true) :: (true, (.bop .shr .i64 (.var 0) (.lit 24)), (.lit 1), false) :: (true, (.bop .shr .i64 (.var 0) (.lit 24)), (.lit 0), false) :: (false, (.lit 13), (.bop .shr .i64 (.var 0) (.lit 24)), false) :: [])) : NotW w ∨ IsW w := .inl (read_of ((true, (.bop .and .i64 (.bop .shr .i64 (.var 0) (.lit 16)) (.lit 15)), (.lit 0), false) :: (false, (.bop .and .i64 (.bop .shr .i64 (.var 0) (.lit 20)) (.lit 15)), (.lit 8), true) :: (true, (.bop .shr .i64 (.var 0) (.lit 24)), (.lit 2), true) :: (true, (.bop .shr .i64 (.var 0) (.lit 24)), (.lit 1), false) :: (true, (.bop .shr .i64 (.var 0) (.lit 24)), (.lit 0), false) :: (false, (.lit 13), (.bop .shr .i64 (.var 0) (.lit 24)), false) :: []) false (.lit 0) (.lit 0) (.lit 0) (.lit 0) (.lit 0) hk (by kernel_rfl) (by kernel_rfl) (by kernel_rfl))
theorem w9 {w : Int} (hw : 0 ≤ w ∧ w ≤ 4294967295) (hk : Known2 (fun _ => w) rgW ((false, (.bop .and .i64 (.bop .shr .i64 (.var 0) (.lit 20)) (.lit 15)), (.lit 8), false) :: (true, (.bop .shr .i64 (.var 0) (.lit 24)), (.lit 2), true) :: (true, (.bop .shr .i64 (.var 0) (.lit 24)), (.lit 1), false) :: (true, (.bop .shr .i64 (.var 0) (.lit 24)), (.lit 0), false) :: (false, (.lit 13), (.bop .shr .i64 (.var 0) (.lit 24)), false) :: [])) : NotW w ∨ IsW w := .inl (read_of ((false, (.bop .and .i64 (.bop .shr .i64 (.var 0) (.lit 20)) (.lit 15)), (.lit 8), false) :: (true, (.bop .shr .i64 (.var 0) (.lit 24)), (.lit 2), true) :: (true, (.bop .shr .i64 (.var 0) (.lit 24)), (.lit 1), false) :: (true, (.bop .shr .i64 (.var 0) (.lit 24)), (.lit 0), false) :: (false, (.lit 13), (.bop .shr .i64 (.var 0) (.lit 24)), false) :: []) false (.lit 0) (.lit 0) (.lit 0) (.lit 0) (.lit 0) hk (by kernel_rfl) (by kernel_rfl) (by kernel_rfl))
theorem w10 {w : Int} (hw : 0 ≤ w ∧ w ≤ 4294967295) (hk : Known2 (fun _ => w) rgW ((false, (.lit 11), (.bop .and .i64 (.var 0) (.lit 4095)), true) :: (false, (.bop .and .i64 (.bop .shr .i64 (.var 0) (.lit 12)) (.lit 15)), (.lit 8), true) :: (false, (.bop .and .i64 (.bop .shr .i64 (.var 0) (.lit 16)) (.lit 15)), (.lit 8), true) :: (false, (.bop .and .i64 (.bop .shr .i64 (.var 0) (.lit 20)) (.lit 15)), (.lit 8), true) :: (true, (.bop .shr .i64 (.var 0) (.lit 24)), (.lit 3), true) :: (true, (.bop .shr .i64 (.var 0) (.lit 24)), (.lit 2), false) :: (true, (.bop .shr .i64 (.var 0) (.lit 24)), (.lit 1), false) :: (true, (.bop .shr .i64 (.var 0) (.lit 24)), (.lit 0), false) :: (false, (.lit 13), (.bop .shr .i64 (.var 0) (.lit 24)), false) :: [])) : NotW w ∨ IsW w := .inl (read_of ((false, (.lit 11), (.bop .and .i64 (.var 0) (.lit 4095)), true) :: (false, (.bop .and .i64 (.bop .shr .i64 (.var 0) (.lit 12)) (.lit 15)), (.lit 8), true) :: (false, (.bop .and .i64 (.bop .shr .i64 (.var 0) (.lit 16)) (.lit 15)), (.lit 8), true) :: (false, (.bop .and .i64 (.bop .shr .i64 (.var 0) (.lit 20)) (.lit 15)), (.lit 8), true) :: (true, (.bop .shr .i64 (.var 0) (.lit 24)), (.lit 3), true) :: (true, (.bop .shr .i64 (.var 0) (.lit 24)), (.lit 2), false) :: (true, (.bop .shr .i64 (.var 0) (.lit 24)), (.lit 1), false) :: (true, (.bop .shr .i64 (.var 0) (.lit 24)), (.lit 0), false) :: (false, (.lit 13), (.bop .shr .i64 (.var 0) (.lit 24)), false) :: []) false (.lit 0) (.lit 0) (.lit 0) (.lit 0) (.lit 0) hk (by kernel_rfl) (by kernel_rfl) (by kernel_rfl))
theorem w11 {w : Int} (hw : 0 ≤ w ∧ w ≤ 4294967295) (hk : Known2 (fun _ => w) rgW ((false, (.lit 11), (.bop .and .i64 (.var 0) (.lit 4095)), false) :: (false, (.bop .and .i64 (.bop .shr .i64 (.var 0) (.lit 12)) (.lit 15)), (.lit 8), true) :: (false, (.bop .and .i64 (.bop .shr .i64 (.var 0) (.lit 16)) (.lit 15)), (.lit 8), true) :: (false, (.bop .and .i64 (.bop .shr .i64 (.var 0) (.lit 20)) (.lit 15)), (.lit 8), true) :: (true, (.bop .shr .i64 (.var 0) (.lit 24)), (.lit 3), true) :: (true, (.bop .shr .i64 (.var 0) (.lit 24)), (.lit 2), false) :: (true, (.bop .shr .i64 (.var 0) (.lit 24)), (.lit 1), false) :: (true, (.bop .shr .i64 (.var 0) (.lit 24)), (.lit 0), false) :: (false, (.lit 13), (.bop .shr .i64 (.var 0) (.lit 24)), false) :: [])) : NotW w ∨ IsW w := by
  have hat := atoms hw
  have f0 : decide ((11 : Int) < E.den (fun _ => w) (.bop .and .i64 (.var 0) (.lit 4095))) = false := hk.facts _ _ _ _ List.mem_cons_self
  rw [hat.2.2.2.2, decide_eq_false_iff_not] at f0
  have f1 : decide (E.den (fun _ => w) (.bop .and .i64 (.bop .shr .i64 (.var 0) (.lit 12)) (.lit 15)) < (8 : Int)) = true := hk.facts _ _ _ _ (List.mem_cons_of_mem _ List.mem_cons_self)
  rw [hat.2.2.2.1, decide_eq_true_iff] at f1
  have f2 : decide (E.den (fun _ => w) (.bop .and .i64 (.bop .shr .i64 (.var 0) (.lit 16)) (.lit 15)) < (8 : Int)) = true := hk.facts _ _ _ _ (List.mem_cons_of_mem _ (List.mem_cons_of_mem _ List.mem_cons_self))
  rw [hat.2.2.1, decide_eq_true_iff] at f2
  have f3 : decide (E.den (fun _ => w) (.bop .and .i64 (.bop .shr .i64 (.var 0) (.lit 20)) (.lit 15)) < (8 : Int)) = true := hk.facts _ _ _ _ (List.mem_cons_of_mem _ (List.mem_cons_of_mem _ (List.mem_cons_of_mem _ List.mem_cons_self)))
  rw [hat.2.1, decide_eq_true_iff] at f3
  have f4 : decide (E.den (fun _ => w) (.bop .shr .i64 (.var 0) (.lit 24)) = (3 : Int)) = true := hk.facts _ _ _ _ (List.mem_cons_of_mem _ (List.mem_cons_of_mem _ (List.mem_cons_of_mem _ (List.mem_cons_of_mem _ List.mem_cons_self))))
  rw [hat.1, decide_eq_true_iff] at f4
  refine .inr (Or.inr (Or.inr (Or.inl ⟨w / 1048576 % 16, w / 65536 % 16, w / 4096 % 16, w % 4096, ?_, ?_⟩)))
  · show w = 3 * 16777216 + _ * 1048576 + _ * 65536 + _ * 4096 + _
    omega
  · exact ⟨by omega, by omega, by omega, by omega⟩
theorem w12 {w : Int} (hw : 0 ≤ w ∧ w ≤ 4294967295) (hk : Known2 (fun _ => w) rgW ((false, (.bop .and .i64 (.bop .shr .i64 (.var 0) (.lit 12)) (.lit 15)), (.lit 8), false) :: (false, (.bop .and .i64 (.bop .shr .i64 (.var 0) (.lit 16)) (.lit 15)), (.lit 8), true) :: (false, (.bop .and .i64 (.bop .shr .i64 (.var 0) (.lit 20)) (.lit 15)), (.lit 8), true) :: (true, (.bop .shr .i64 (.var 0) (.lit 24)), (.lit 3), true) :: (true, (.bop .shr .i64 (.var 0) (.lit 24)), (.lit 2), false) :: (true, (.bop .shr .i64 (.var 0) (.lit 24)), (.lit 1), false) :: (true, (.bop .shr .i64 (.var 0) (.lit 24)), (.lit 0), false) :: (false, (.lit 13), (.bop .shr .i64 (.var 0) (.lit 24)), false) :: [])) : NotW w ∨ IsW w := .inl (read_of ((false, (.bop .and .i64 (.bop .shr .i64 (.var 0) (.lit 12)) (.lit 15)), (.lit 8), false) :: (false, (.bop .and .i64 (.bop .shr .i64 (.var 0) (.lit 16)) (.lit 15)), (.lit 8), true) :: (false, (.bop .and .i64 (.bop .shr .i64 (.var 0) (.lit 20)) (.lit 15)), (.lit 8), true) :: (true, (.bop .shr .i64 (.var 0) (.lit 24)), (.lit 3), true) :: (true, (.bop .shr .i64 (.var 0) (.lit 24)), (.lit 2), false) :: (true, (.bop .shr .i64 (.var 0) (.lit 24)), (.lit 1), false) :: (true, (.bop .shr .i64 (.var 0) (.lit 24)), (.lit 0), false) :: (false, (.lit 13), (.bop .shr .i64 (.var 0) (.lit 24)), false) :: []) false (.lit 0) (.lit 0) (.lit 0) (.lit 0) (.lit 0) hk (by kernel_rfl) (by kernel_rfl) (by kernel_rfl))
theorem w13 {w : Int} (hw : 0 ≤ w ∧ w ≤ 4294967295) (hk : Known2 (fun _ => w) rgW ((false, (.bop .and .i64 (.bop .shr .i64 (.var 0) (.lit 16)) (.lit 15)), (.lit 8), false) :: (false, (.bop .and .i64 (.bop .shr .i64 (.var 0) (.lit 20)) (.lit 15)), (.lit 8), true) :: (true, (.bop .shr .i64 (.var 0) (.lit 24)), (.lit 3), true) :: (true, (.bop .shr .i64 (.var 0) (.lit 24)), (.lit 2), false) :: (true, (.bop .shr .i64 (.var 0) (.lit 24)), (.lit 1), false) :: (true, (.bop .shr .i64 (.var 0) (.lit 24)), (.lit 0), false) :: (false, (.lit 13), (.bop .shr .i64 (.var 0) (.lit 24)), false) :: [])) : NotW w ∨ IsW w := .inl (read_of ((false, (.bop .and .i64 (.bop .shr .i64 (.var 0) (.lit 16)) (.lit 15)), (.lit 8), false) :: (false, (.bop .and .i64 (.bop .shr .i64 (.var 0) (.lit 20)) (.lit 15)), (.lit 8), true) :: (true, (.bop .shr .i64 (.var 0) (.lit 24)), (.lit 3), true) :: (true, (.bop .shr .i64 (.var 0) (.lit 24)), (.lit 2), false) :: (true, (.bop .shr .i64 (.var 0) (.lit 24)), (.lit 1), false) :: (true, (.bop .shr .i64 (.var 0) (.lit 24)), (.lit 0), false) :: (false, (.lit 13), (.bop .shr .i64 (.var 0) (.lit 24)), false) :: []) false (.lit 0) (.lit 0) (.lit 0) (.lit 0) (.lit 0) hk (by kernel_rfl) (by kernel_rfl) (by kernel_rfl))
theorem w14 {w : Int} (hw : 0 ≤ w ∧ w ≤ 4294967295) (hk : Known2 (fun _ => w) rgW ((false, (.bop .and .i64 (.bop .shr .i64 (.var 0) (.lit 20)) (.lit 15)), (.lit 8), false) :: (true, (.bop .shr .i64 (.var 0) (.lit 24)), (.lit 3), true) :: (true, (.bop .shr .i64 (.var 0) (.lit 24)), (.lit 2), false) :: (true, (.bop .shr .i64 (.var 0) (.lit 24)), (.lit 1), false) :: (true, (.bop .shr .i64 (.var 0) (.lit 24)), (.lit 0), false) :: (false, (.lit 13), (.bop .shr .i64 (.var 0) (.lit 24)), false) :: [])) : NotW w ∨ IsW w := .inl (read_of ((false, (.bop .and .i64 (.bop .shr .i64 (.var 0) (.lit 20)) (.lit 15)), (.lit 8), false) :: (true, (.bop .shr .i64 (.var 0) (.lit 24)), (.lit 3), true) :: (true, (.bop .shr .i64 (.var 0) (.lit 24)), (.lit 2), false) :: (true, (.bop .shr .i64 (.var 0) (.lit 24)), (.lit 1), false) :: (true, (.bop .shr .i64 (.var 0) (.lit 24)), (.lit 0), false) :: (false, (.lit 13), (.bop .shr .i64 (.var 0) (.lit 24)), false) :: []) false (.lit 0) (.lit 0) (.lit 0) (.lit 0) (.lit 0) hk (by kernel_rfl) (by kernel_rfl) (by kernel_rfl))
theorem w15 {w : Int} (hw : 0 ≤ w ∧ w ≤ 4294967295) (hk : Known2 (fun _ => w) rgW ((true, (.bop .and .i64 (.bop .shr .i64 (.var 0) (.lit 12)) (.lit 15)), (.lit 0), true) :: (true, (.bop .and .i64 (.bop .shr .i64 (.var 0) (.lit 16)) (.lit 15)), (.lit 0), true) :: (true, (.bop .and .i64 (.bop .shr .i64 (.var 0) (.lit 20)) (.lit 15)), (.lit 0), true) :: (true, (.bop .shr .i64 (.var 0) (.lit 24)), (.lit 4), true) :: (true, (.bop .shr .i64 (.var 0) (.lit 24)), (.lit 3), false) :: (true, (.bop .shr .i64 (.var 0) (.lit 24)), (.lit 2), false) :: (true, (.bop .shr .i64 (.var 0) (.lit 24)), (.lit 1), false) :: (true, (.bop .shr .i64 (.var 0) (.lit 24)), (.lit 0), false) :: (false, (.lit 13), (.bop .shr .i64 (.var 0) (.lit 24)), false) :: [])) : NotW w ∨ IsW w := by
  have hat := atoms hw
  have f0 : decide (E.den (fun _ => w) (.bop .and .i64 (.bop .shr .i64 (.var 0) (.lit 12)) (.lit 15)) = (0 : Int)) = true := hk.facts _ _ _ _ List.mem_cons_self
  rw [hat.2.2.2.1, decide_eq_true_iff] at f0
  have f1 : decide (E.den (fun _ => w) (.bop .and .i64 (.bop .shr .i64 (.var 0) (.lit 16)) (.lit 15)) = (0 : Int)) = true := hk.facts _ _ _ _ (List.mem_cons_of_mem _ List.mem_cons_self)
  rw [hat.2.2.1, decide_eq_true_iff] at f1
  have f2 : decide (E.den (fun _ => w) (.bop .and .i64 (.bop .shr .i64 (.var 0) (.lit 20)) (.lit 15)) = (0 : Int)) = true := hk.facts _ _ _ _ (List.mem_cons_of_mem _ (List.mem_cons_of_mem _ List.mem_cons_self))
  rw [hat.2.1, decide_eq_true_iff] at f2
  have f3 : decide (E.den (fun _ => w) (.bop .shr .i64 (.var 0) (.lit 24)) = (4 : Int)) = true := hk.facts _ _ _ _ (List.mem_cons_of_mem _ (List.mem_cons_of_mem _ (List.mem_cons_of_mem _ List.mem_cons_self)))
  rw [hat.1, decide_eq_true_iff] at f3
  refine .inr (Or.inr (Or.inr (Or.inr (Or.inl ⟨w / 1048576 % 16, w / 65536 % 16, w / 4096 % 16, w % 4096, ?_, ?_⟩))))
  · show w = 4 * 16777216 + _ * 1048576 + _ * 65536 + _ * 4096 + _
    omega
  · exact ⟨by omega, by omega, by omega, by omega⟩
theorem w16 {w : Int} (hw : 0 ≤ w ∧ w ≤ 4294967295) (hk : Known2 (fun _ => w) rgW ((true, (.bop .and .i64 (.bop .shr .i64 (.var 0) (.lit 12)) (.lit 15)), (.lit 0), false) :: (true, (.bop .and .i64 (.bop .shr .i64 (.var 0) (.lit 16)) (.lit 15)), (.lit 0), true) :: (true, (.bop .and .i64 (.bop .shr .i64 (.var 0) (.lit 20)) (.lit 15)), (.lit 0), true) :: (true, (.bop .shr .i64 (.var 0) (.lit 24)), (.lit 4), true) :: (true, (.bop .shr .i64 (.var 0) (.lit 24)), (.lit 3), false) :: (true, (.bop .shr .i64 (.var 0) (.lit 24)), (.lit 2), false) :: (true, (.bop .shr .i64 (.var 0) (.lit 24)), (.lit 1), false) :: (true, (.bop .shr .i64 (.var 0) (.lit 24)), (.lit 0), false) :: (false, (.lit 13), (.bop .shr .i64 (.var 0) (.lit 24)), false) :: [])) : NotW w ∨ IsW w := .inl (read_of ((true, (.bop .and .i64 (.bop .shr .i64 (.var 0) (.lit 12)) (.lit 15)), (.lit 0), false) :: (true, (.bop .and .i64 (.bop .shr .i64 (.var 0) (.lit 16)) (.lit 15)), (.lit 0), true) :: (true, (.bop .and .i64 (.bop .shr .i64 (.var 0) (.lit 20)) (.lit 15)), (.lit 0), true) :: (true, (.bop .shr .i64 (.var 0) (.lit 24)), (.lit 4), true) :: (true, (.bop .shr .i64 (.var 0) (.lit 24)), (.lit 3), false) :: (true, (.bop .shr .i64 (.var 0) (.lit 24)), (.lit 2), false) :: (true, (.bop .shr .i64 (.var 0) (.lit 24)), (.lit 1), false) :: (true, (.bop .shr .i64 (.var 0) (.lit 24)), (.lit 0), false) :: (false, (.lit 13), (.bop .shr .i64 (.var 0) (.lit 24)), false) :: []) false (.lit 0) (.lit 0) (.lit 0) (.lit 0) (.lit 0) hk (by kernel_rfl) (by kernel_rfl) (by kernel_rfl))
theorem w17 {w : Int} (hw : 0 ≤ w ∧ w ≤ 4294967295) (hk : Known2 (fun _ => w) rgW ((true, (.bop .and .i64 (.bop .shr .i64 (.var 0) (.lit 16)) (.lit 15)), (.lit 0), false) :: (true, (.bop .and .i64 (.bop .shr .i64 (.var 0) (.lit 20)) (.lit 15)), (.lit 0), true) :: (true, (.bop .shr .i64 (.var 0) (.lit 24)), (.lit 4), true) :: (true, (.bop .shr .i64 (.var 0) (.lit 24)), (.lit 3), false) :: (true, (.bop .shr .i64 (.var 0) (.lit 24)), (.lit 2), false) :: (true, (.bop .shr .i64 (.var 0) (.lit 24)), (.lit 1), false) :: (true, (.bop .shr .i64 (.var 0) (.lit 24)), (.lit 0), false) :: (false, (.lit 13), (.bop .shr .i64 (.var 0) (.lit 24)), false) :: [])) : NotW w ∨ IsW w := .inl (read_of ((true, (.bop .and .i64 (.bop .shr .i64 (.var 0) (.lit 16)) (.lit 15)), (.lit 0), false) :: (true, (.bop .and .i64 (.bop .shr .i64 (.var 0) (.lit 20)) (.lit 15)), (.lit 0), true) :: (true, (.bop .shr .i64 (.var 0) (.lit 24)), (.lit 4), true) :: (true, (.bop .shr .i64 (.var 0) (.lit 24)), (.lit 3), false) :: (true, (.bop .shr .i64 (.var 0) (.lit 24)), (.lit 2), false) :: (true, (.bop .shr .i64 (.var 0) (.lit 24)), (.lit 1), false) :: (true, (.bop .shr .i64 (.var 0) (.lit 24)), (.lit 0), false) :: (false, (.lit 13), (.bop .shr .i64 (.var 0) (.lit 24)), false) :: []) false (.lit 0) (.lit 0) (.lit 0) (.lit 0) (.lit 0) hk (by kernel_rfl) (by kernel_rfl) (by kernel_rfl))
theorem w18 {w : Int} (hw : 0 ≤ w ∧ w ≤ 4294967295) (hk : Known2 (fun _ => w) rgW ((true, (.bop .and .i64 (.bop .shr .i64 (.var 0) (.lit 20)) (.lit 15)), (.lit 0), false) :: (true, (.bop .shr .i64 (.var 0) (.lit 24)), (.lit 4), true) :: (true, (.bop .shr .i64 (.var 0) (.lit 24)), (.lit 3), false) :: (true, (.bop .shr .i64 (.var 0) (.lit 24)), (.lit 2), false) :: (true, (.bop .shr .i64 (.var 0) (.lit 24)), (.lit 1), false) :: (true, (.bop .shr .i64 (.var 0) (.lit 24)), (.lit 0), false) :: (false, (.lit 13), (.bop .shr .i64 (.var 0) (.lit 24)), false) :: [])) : NotW w ∨ IsW w := .inl (read_of ((true, (.bop .and .i64 (.bop .shr .i64 (.var 0) (.lit 20)) (.lit 15)), (.lit 0), false) :: (true, (.bop .shr .i64 (.var 0) (.lit 24)), (.lit 4), true) :: (true, (.bop .shr .i64 (.var 0) (.lit 24)), (.lit 3), false) :: (true, (.bop .shr .i64 (.var 0) (.lit 24)), (.lit 2), false) :: (true, (.bop .shr .i64 (.var 0) (.lit 24)), (.lit 1), false) :: (true, (.bop .shr .i64 (.var 0) (.lit 24)), (.lit 0), false) :: (false, (.lit 13), (.bop .shr .i64 (.var 0) (.lit 24)), false) :: []) false (.lit 0) (.lit 0) (.lit 0) (.lit 0) (.lit 0) hk (by kernel_rfl) (by kernel_rfl) (by kernel_rfl))
theorem w19 {w : Int} (hw : 0 ≤ w ∧ w ≤ 4294967295) (hk : Known2 (fun _ => w) rgW ((true, (.bop .and .i64 (.bop .shr .i64 (.var 0) (.lit 12)) (.lit 15)), (.lit 0), true) :: (true, (.bop .and .i64 (.bop .shr .i64 (.var 0) (.lit 16)) (.lit 15)), (.lit 0), true) :: (false, (.bop .and .i64 (.bop .shr .i64 (.var 0) (.lit 20)) (.lit 15)), (.lit 8), true) :: (true, (.bop .shr .i64 (.var 0) (.lit 24)), (.lit 5), true) :: (true, (.bop .shr .i64 (.var 0) (.lit 24)), (.lit 4), false) :: (true, (.bop .shr .i64 (.var 0) (.lit 24)), (.lit 3), false) :: (true, (.bop .shr .i64 (.var 0) (.lit 24)), (.lit 2), false) :: (true, (.bop .shr .i64 (.var 0) (.lit 24)), (.lit 1), false) :: (true, (.bop .shr .i64 (.var 0) (.lit 24)), (.lit 0), false) :: (false, (.lit 13), (.bop .shr .i64 (.var 0) (.lit 24)), false) :: [])) : NotW w ∨ IsW w := by
  have hat := atoms hw
  have f0 : decide (E.den (fun _ => w) (.bop .and .i64 (.bop .shr .i64 (.var 0) (.lit 12)) (.lit 15)) = (0 : Int)) = true := hk.facts _ _ _ _ List.mem_cons_self
  rw [hat.2.2.2.1, decide_eq_true_iff] at f0
  have f1 : decide (E.den (fun _ => w) (.bop .and .i64 (.bop .shr .i64 (.var 0) (.lit 16)) (.lit 15)) = (0 : Int)) = true := hk.facts _ _ _ _ (List.mem_cons_of_mem _ List.mem_cons_self)
  rw [hat.2.2.1, decide_eq_true_iff] at f1
  have f2 : decide (E.den (fun _ => w) (.bop .and .i64 (.bop .shr .i64 (.var 0) (.lit 20)) (.lit 15)) < (8 : Int)) = true := hk.facts _ _ _ _ (List.mem_cons_of_mem _ (List.mem_cons_of_mem _ List.mem_cons_self))
  rw [hat.2.1, decide_eq_true_iff] at f2
  have f3 : decide (E.den (fun _ => w) (.bop .shr .i64 (.var 0) (.lit 24)) = (5 : Int)) = true := hk.facts _ _ _ _ (List.mem_cons_of_mem _ (List.mem_cons_of_mem _ (List.mem_cons_of_mem _ List.mem_cons_self)))
  rw [hat.1, decide_eq_true_iff] at f3
  refine .inr (Or.inr (Or.inr (Or.inr (Or.inr (Or.inl ⟨w / 1048576 % 16, w / 65536 % 16, w / 4096 % 16, w % 4096, ?_, ?_⟩)))))
  · show w = 5 * 16777216 + _ * 1048576 + _ * 65536 + _ * 4096 + _
    omega
  · exact ⟨by omega, by omega, by omega, by omega⟩
theorem w20 {w : Int} (hw : 0 ≤ w ∧ w ≤ 4294967295) (hk : Known2 (fun _ => w) rgW ((true, (.bop .and .i64 (.bop .shr .i64 (.var 0) (.lit 12)) (.lit 15)), (.lit 0), false) :: (true, (.bop .and .i64 (.bop .shr .i64 (.var 0) (.lit 16)) (.lit 15)), (.lit 0), true) :: (false, (.bop .and .i64 (.bop .shr .i64 (.var 0) (.lit 20)) (.lit 15)), (.lit 8), true) :: (true, (.bop .shr .i64 (.var 0) (.lit 24)), (.lit 5), true) :: (true, (.bop .shr .i64 (.var 0) (.lit 24)), (.lit 4), false) :: (true, (.bop .shr .i64 (.var 0) (.lit 24)), (.lit 3), false) :: (true, (.bop .shr .i64 (.var 0) (.lit 24)), (.lit 2), false) :: (true, (.bop .shr .i64 (.var 0) (.lit 24)), (.lit 1), false) :: (true, (.bop .shr .i64 (.var 0) (.lit 24)), (.lit 0), false) :: (false, (.lit 13), (.bop .shr .i64 (.var 0) (.lit 24)), false) :: [])) : NotW w ∨ IsW w := .inl (read_of ((true, (.bop .and .i64 (.bop .shr .i64 (.var 0) (.lit 12)) (.lit 15)), (.lit 0), false) :: (true, (.bop .and .i64 (.bop .shr .i64 (.var 0) (.lit 16)) (.lit 15)), (.lit 0), true) :: (false, (.bop .and .i64 (.bop .shr .i64 (.var 0) (.lit 20)) (.lit 15)), (.lit 8), true) :: (true, (.bop .shr .i64 (.var 0) (.lit 24)), (.lit 5), true) :: (true, (.bop .shr .i64 (.var 0) (.lit 24)), (.lit 4), false) :: (true, (.bop .shr .i64 (.var 0) (.lit 24)), (.lit 3), false) :: (true, (.bop .shr .i64 (.var 0) (.lit 24)), (.lit 2), false) :: (true, (.bop .shr .i64 (.var 0) (.lit 24)), (.lit 1), false) :: (true, (.bop .shr .i64 (.var 0) (.lit 24)), (.lit 0), false) :: (false, (.lit 13), (.bop .shr .i64 (.var 0) (.lit 24)), false) :: []) false (.lit 0) (.lit 0) (.lit 0) (.lit 0) (.lit 0) hk (by kernel_rfl) (by kernel_rfl) (by kernel_rfl))
theorem w21 {w : Int} (hw : 0 ≤ w ∧ w ≤ 4294967295) (hk : Known2 (fun _ => w) rgW ((true, (.bop .and .i64 (.bop .shr .i64 (.var 0) (.lit 16)) (.lit 15)), (.lit 0), false) :: (false, (.bop .and .i64 (.bop .shr .i64 (.var 0) (.lit 20)) (.lit 15)), (.lit 8), true) :: (true, (.bop .shr .i64 (.var 0) (.lit 24)), (.lit 5), true) :: (true, (.bop .shr .i64 (.var 0) (.lit 24)), (.lit 4), false) :: (true, (.bop .shr .i64 (.var 0) (.lit 24)), (.lit 3), false) :: (true, (.bop .shr .i64 (.var 0) (.lit 24)), (.lit 2), false) :: (true, (.bop .shr .i64 (.var 0) (.lit 24)), (.lit 1), false) :: (true, (.bop .shr .i64 (.var 0) (.lit 24)), (.lit 0), false) :: (false, (.lit 13), (.bop .shr .i64 (.var 0) (.lit 24)), false) :: [])) : NotW w ∨ IsW w := .inl (read_of ((true, (.bop .and .i64 (.bop .shr .i64 (.var 0) (.lit 16)) (.lit 15)), (.lit 0), false) :: (false, (.bop .and .i64 (.bop .shr .i64 (.var 0) (.lit 20)) (.lit 15)), (.lit 8), true) :: (true, (.bop .shr .i64 (.var 0) (.lit 24)), (.lit 5), true) :: (true, (.bop .shr .i64 (.var 0) (.lit 24)), (.lit 4), false) :: (true, (.bop .shr .i64 (.var 0) (.lit 24)), (.lit 3), false) :: (true, (.bop .shr .i64 (.var 0) (.lit 24)), (.lit 2), false) :: (true, (.bop .shr .i64 (.var 0) (.lit 24)), (.lit 1), false) :: (true, (.bop .shr .i64 (.var 0) (.lit 24)), (.lit 0), false) :: (false, (.lit 13), (.bop .shr .i64 (.var 0) (.lit 24)), false) :: []) false (.lit 0) (.lit 0) (.lit 0) (.lit 0) (.lit 0) hk (by kernel_rfl) (by kernel_rfl) (by kernel_rfl))
theorem w22 {w : Int} (hw : 0 ≤ w ∧ w ≤ 4294967295) (hk : Known2 (fun _ => w) rgW ((false, (.bop .and .i64 (.bop .shr .i64 (.var 0) (.lit 20)) (.lit 15)), (.lit 8), false) :: (true, (.bop .shr .i64 (.var 0) (.lit 24)), (.lit 5), true) :: (true, (.bop .shr .i64 (.var 0) (.lit 24)), (.lit 4), false) :: (true, (.bop .shr .i64 (.var 0) (.lit 24)), (.lit 3), false) :: (true, (.bop .shr .i64 (.var 0) (.lit 24)), (.lit 2), false) :: (true, (.bop .shr .i64 (.var 0) (.lit 24)), (.lit 1), false) :: (true, (.bop .shr .i64 (.var 0) (.lit 24)), (.lit 0), false) :: (false, (.lit 13), (.bop .shr .i64 (.var 0) (.lit 24)), false) :: [])) : NotW w ∨ IsW w := .inl (read_of ((false, (.bop .and .i64 (.bop .shr .i64 (.var 0) (.lit 20)) (.lit 15)), (.lit 8), false) :: (true, (.bop .shr .i64 (.var 0) (.lit 24)), (.lit 5), true) :: (true, (.bop .shr .i64 (.var 0) (.lit 24)), (.lit 4), false) :: (true, (.bop .shr .i64 (.var 0) (.lit 24)), (.lit 3), false) :: (true, (.bop .shr .i64 (.var 0) (.lit 24)), (.lit 2), false) :: (true, (.bop .shr .i64 (.var 0) (.lit 24)), (.lit 1), false) :: (true, (.bop .shr .i64 (.var 0) (.lit 24)), (.lit 0), false) :: (false, (.lit 13), (.bop .shr .i64 (.var 0) (.lit 24)), false) :: []) false (.lit 0) (.lit 0) (.lit 0) (.lit 0) (.lit 0) hk (by kernel_rfl) (by kernel_rfl) (by kernel_rfl))
theorem w23 {w : Int} (hw : 0 ≤ w ∧ w ≤ 4294967295) (hk : Known2 (fun _ => w) rgW ((true, (.bop .and .i64 (.bop .shr .i64 (.var 0) (.lit 12)) (.lit 15)), (.lit 0), true) :: (false, (.bop .and .i64 (.bop .shr .i64 (.var 0) (.lit 16)) (.lit 15)), (.lit 8), true) :: (false, (.bop .and .i64 (.bop .shr .i64 (.var 0) (.lit 20)) (.lit 15)), (.lit 8), true) :: (true, (.bop .shr .i64 (.var 0) (.lit 24)), (.lit 6), true) :: (true, (.bop .shr .i64 (.var 0) (.lit 24)), (.lit 5), false) :: (true, (.bop .shr .i64 (.var 0) (.lit 24)), (.lit 4), false) :: (true, (.bop .shr .i64 (.var 0) (.lit 24)), (.lit 3), false) :: (true, (.bop .shr .i64 (.var 0) (.lit 24)), (.lit 2), false) :: (true, (.bop .shr .i64 (.var 0) (.lit 24)), (.lit 1), false) :: (true, (.bop .shr .i64 (.var 0) (.lit 24)), (.lit 0), false) :: (false, (.lit 13), (.bop .shr .i64 (.var 0) (.lit 24)), false) :: [])) : NotW w ∨ IsW w := by
  have hat := atoms hw
  have f0 : decide (E.den (fun _ => w) (.bop .and .i64 (.bop .shr .i64 (.var 0) (.lit 12)) (.lit 15)) = (0 : Int)) = true := hk.facts _ _ _ _ List.mem_cons_self
  rw [hat.2.2.2.1, decide_eq_true_iff] at f0
  have f1 : decide (E.den (fun _ => w) (.bop .and .i64 (.bop .shr .i64 (.var 0) (.lit 16)) (.lit 15)) < (8 : Int)) = true := hk.facts _ _ _ _ (List.mem_cons_of_mem _ List.mem_cons_self)
  rw [hat.2.2.1, decide_eq_true_iff] at f1
  have f2 : decide (E.den (fun _ => w) (.bop .and .i64 (.bop .shr .i64 (.var 0) (.lit 20)) (.lit 15)) < (8 : Int)) = true := hk.facts _ _ _ _ (List.mem_cons_of_mem _ (List.mem_cons_of_mem _ List.mem_cons_self))
  rw [hat.2.1, decide_eq_true_iff] at f2
  have f3 : decide (E.den (fun _ => w) (.bop .shr .i64 (.var 0) (.lit 24)) = (6 : Int)) = true := hk.facts _ _ _ _ (List.mem_cons_of_mem _ (List.mem_cons_of_mem _ (List.mem_cons_of_mem _ List.mem_cons_self)))
  rw [hat.1, decide_eq_true_iff] at f3
  refine .inr (Or.inr (Or.inr (Or.inr (Or.inr (Or.inr (Or.inl ⟨w / 1048576 % 16, w / 65536 % 16, w / 4096 % 16, w % 4096, ?_, ?_⟩))))))
  · show w = 6 * 16777216 + _ * 1048576 + _ * 65536 + _ * 4096 + _
    omega
  · exact ⟨by omega, by omega, by omega, by omega⟩
theorem w24 {w : Int} (hw : 0 ≤ w ∧ w ≤ 4294967295) (hk : Known2 (fun _ => w) rgW ((true, (.bop .and .i64 (.bop .shr .i64 (.var 0) (.lit 12)) (.lit 15)), (.lit 0), false) :: (false, (.bop .and .i64 (.bop .shr .i64 (.var 0) (.lit 16)) (.lit 15)), (.lit 8), true) :: (false, (.bop .and .i64 (.bop .shr .i64 (.var 0) (.lit 20)) (.lit 15)), (.lit 8), true) :: (true, (.bop .shr .i64 (.var 0) (.lit 24)), (.lit 6), true) :: (true, (.bop .shr .i64 (.var 0) (.lit 24)), (.lit 5), false) :: (true, (.bop .shr .i64 (.var 0) (.lit 24)), (.lit 4), false) :: (true, (.bop .shr .i64 (.var 0) (.lit 24)), (.lit 3), false) :: (true, (.bop .shr .i64 (.var 0) (.lit 24)), (.lit 2), false) :: (true, (.bop .shr .i64 (.var 0) (.lit 24)), (.lit 1), false) :: (true, (.bop .shr .i64 (.var 0) (.lit 24)), (.lit 0), false) :: (false, (.lit 13), (.bop .shr .i64 (.var 0) (.lit 24)), false) :: [])) : NotW w ∨ IsW w := .inl (read_of ((true, (.bop .and .i64 (.bop .shr .i64 (.var 0) (.lit 12)) (.lit 15)), (.lit 0), false) :: (false, (.bop .and .i64 (.bop .shr .i64 (.var 0) (.lit 16)) (.lit 15)), (.lit 8), true) :: (false, (.bop .and .i64 (.bop .shr .i64 (.var 0) (.lit 20)) (.lit 15)), (.lit 8), true) :: (true, (.bop .shr .i64 (.var 0) (.lit 24)), (.lit 6), true) :: (true, (.bop .shr .i64 (.var 0) (.lit 24)), (.lit 5), false) :: (true, (.bop .shr .i64 (.var 0) (.lit 24)), (.lit 4), false) :: (true, (.bop .shr .i64 (.var 0) (.lit 24)), (.lit 3), false) :: (true, (.bop .shr .i64 (.var 0) (.lit 24)), (.lit 2), false) :: (true, (.bop .shr .i64 (.var 0) (.lit 24)), (.lit 1), false) :: (true, (.bop .shr .i64 (.var 0) (.lit 24)), (.lit 0), false) :: (false, (.lit 13), (.bop .shr .i64 (.var 0) (.lit 24)), false) :: []) false (.lit 0) (.lit 0) (.lit 0) (.lit 0) (.lit 0) hk (by kernel_rfl) (by kernel_rfl) (by kernel_rfl))
theorem w25 {w : Int} (hw : 0 ≤ w ∧ w ≤ 4294967295) (hk : Known2 (fun _ => w) rgW ((false, (.bop .and .i64 (.bop .shr .i64 (.var 0) (.lit 16)) (.lit 15)), (.lit 8), false) :: (false, (.bop .and .i64 (.bop .shr .i64 (.var 0) (.lit 20)) (.lit 15)), (.lit 8), true) :: (true, (.bop .shr .i64 (.var 0) (.lit 24)), (.lit 6), true) :: (true, (.bop .shr .i64 (.var 0) (.lit 24)), (.lit 5), false) :: (true, (.bop .shr .i64 (.var 0) (.lit 24)), (.lit 4), false) :: (true, (.bop .shr .i64 (.var 0) (.lit 24)), (.lit 3), false) :: (true, (.bop .shr .i64 (.var 0) (.lit 24)), (.lit 2), false) :: (true, (.bop .shr .i64 (.var 0) (.lit 24)), (.lit 1), false) :: (true, (.bop .shr .i64 (.var 0) (.lit 24)), (.lit 0), false) :: (false, (.lit 13), (.bop .shr .i64 (.var 0) (.lit 24)), false) :: [])) : NotW w ∨ IsW w := .inl (read_of ((false, (.bop .and .i64 (.bop .shr .i64 (.var 0) (.lit 16)) (.lit 15)), (.lit 8), false) :: (false, (.bop .and .i64 (.bop .shr .i64 (.var 0) (.lit 20)) (.lit 15)), (.lit 8), true) :: (true, (.bop .shr .i64 (.var 0) (.lit 24)), (.lit 6), true) :: (true, (.bop .shr .i64 (.var 0) (.lit 24)), (.lit 5), false) :: (true, (.bop .shr .i64 (.var 0) (.lit 24)), (.lit 4), false) :: (true, (.bop .shr .i64 (.var 0) (.lit 24)), (.lit 3), false) :: (true, (.bop .shr .i64 (.var 0) (.lit 24)), (.lit 2), false) :: (true, (.bop .shr .i64 (.var 0) (.lit 24)), (.lit 1), false) :: (true, (.bop .shr .i64 (.var 0) (.lit 24)), (.lit 0), false) :: (false, (.lit 13), (.bop .shr .i64 (.var 0) (.lit 24)), false) :: []) false (.lit 0) (.lit 0) (.lit 0) (.lit 0) (.lit 0) hk (by kernel_rfl) (by kernel_rfl) (by kernel_rfl))
theorem w26 {w : Int} (hw : 0 ≤ w ∧ w ≤ 4294967295) (hk : Known2 (fun _ => w) rgW ((false, (.bop .and .i64 (.bop .shr .i64 (.var 0) (.lit 20)) (.lit 15)), (.lit 8), false) :: (true, (.bop .shr .i64 (.var 0) (.lit 24)), (.lit 6), true) :: (true, (.bop .shr .i64 (.var 0) (.lit 24)), (.lit 5), false) :: (true, (.bop .shr .i64 (.var 0) (.lit 24)), (.lit 4), false) :: (true, (.bop .shr .i64 (.var 0) (.lit 24)), (.lit 3), false) :: (true, (.bop .shr .i64 (.var 0) (.lit 24)), (.lit 2), false) :: (true, (.bop .shr .i64 (.var 0) (.lit 24)), (.lit 1), false) :: (true, (.bop .shr .i64 (.var 0) (.lit 24)), (.lit 0), false) :: (false, (.lit 13), (.bop .shr .i64 (.var 0) (.lit 24)), false) :: [])) : NotW w ∨ IsW w := .inl (read_of ((false, (.bop .and .i64 (.bop .shr .i64 (.var 0) (.lit 20)) (.lit 15)), (.lit 8), false) :: (true, (.bop .shr .i64 (.var 0) (.lit 24)), (.lit 6), true) :: (true, (.bop .shr .i64 (.var 0) (.lit 24)), (.lit 5), false) :: (true, (.bop .shr .i64 (.var 0) (.lit 24)), (.lit 4), false) :: (true, (.bop .shr .i64 (.var 0) (.lit 24)), (.lit 3), false) :: (true, (.bop .shr .i64 (.var 0) (.lit 24)), (.lit 2), false) :: (true, (.bop .shr .i64 (.var 0) (.lit 24)), (.lit 1), false) :: (true, (.bop .shr .i64 (.var 0) (.lit 24)), (.lit 0), false) :: (false, (.lit 13), (.bop .shr .i64 (.var 0) (.lit 24)), false) :: []) false (.lit 0) (.lit 0) (.lit 0) (.lit 0) (.lit 0) hk (by kernel_rfl) (by kernel_rfl) (by kernel_rfl))
theorem w27 {w : Int} (hw : 0 ≤ w ∧ w ≤ 4294967295) (hk : Known2 (fun _ => w) rgW ((true, (.bop .and .i64 (.bop .shr .i64 (.var 0) (.lit 12)) (.lit 15)), (.lit 0), true) :: (false, (.bop .and .i64 (.bop .shr .i64 (.var 0) (.lit 16)) (.lit 15)), (.lit 8), true) :: (false, (.bop .and .i64 (.bop .shr .i64 (.var 0) (.lit 20)) (.lit 15)), (.lit 8), true) :: (true, (.bop .shr .i64 (.var 0) (.lit 24)), (.lit 7), true) :: (true, (.bop .shr .i64 (.var 0) (.lit 24)), (.lit 6), false) :: (true, (.bop .shr .i64 (.var 0) (.lit 24)), (.lit 5), false) :: (true, (.bop .shr .i64 (.var 0) (.lit 24)), (.lit 4), false) :: (true, (.bop .shr .i64 (.var 0) (.lit 24)), (.lit 3), false) :: (true, (.bop .shr .i64 (.var 0) (.lit 24)), (.lit 2), false) :: (true, (.bop .shr .i64 (.var 0) (.lit 24)), (.lit 1), false) :: (true, (.bop .shr .i64 (.var 0) (.lit 24)), (.lit 0), false) :: (false, (.lit 13), (.bop .shr .i64 (.var 0) (.lit 24)), false) :: [])) : NotW w ∨ IsW w := by
  have hat := atoms hw
  have f0 : decide (E.den (fun _ => w) (.bop .and .i64 (.bop .shr .i64 (.var 0) (.lit 12)) (.lit 15)) = (0 : Int)) = true := hk.facts _ _ _ _ List.mem_cons_self
  rw [hat.2.2.2.1, decide_eq_true_iff] at f0
  have f1 : decide (E.den (fun _ => w) (.bop .and .i64 (.bop .shr .i64 (.var 0) (.lit 16)) (.lit 15)) < (8 : Int)) = true := hk.facts _ _ _ _ (List.mem_cons_of_mem _ List.mem_cons_self)
  rw [hat.2.2.1, decide_eq_true_iff] at f1
  have f2 : decide (E.den (fun _ => w) (.bop .and .i64 (.bop .shr .i64 (.var 0) (.lit 20)) (.lit 15)) < (8 : Int)) = true := hk.facts _ _ _ _ (List.mem_cons_of_mem _ (List.mem_cons_of_mem _ List.mem_cons_self))
  rw [hat.2.1, decide_eq_true_iff] at f2
  have f3 : decide (E.den (fun _ => w) (.bop .shr .i64 (.var 0) (.lit 24)) = (7 : Int)) = true := hk.facts _ _ _ _ (List.mem_cons_of_mem _ (List.mem_cons_of_mem _ (List.mem_cons_of_mem _ List.mem_cons_self)))
  rw [hat.1, decide_eq_true_iff] at f3
  refine .inr (Or.inr (Or.inr (Or.inr (Or.inr (Or.inr (Or.inr (Or.inl ⟨w / 1048576 % 16, w / 65536 % 16, w / 4096 % 16, w % 4096, ?_, ?_⟩)))))))
  · show w = 7 * 16777216 + _ * 1048576 + _ * 65536 + _ * 4096 + _
    omega
  · exact ⟨by omega, by omega, by omega, by omega⟩
theorem w28 {w : Int} (hw : 0 ≤ w ∧ w ≤ 4294967295) (hk : Known2 (fun _ => w) rgW ((true, (.bop .and .i64 (.bop .shr .i64 (.var 0) (.lit 12)) (.lit 15)), (.lit 0), false) :: (false, (.bop .and .i64 (.bop .shr .i64 (.var 0) (.lit 16)) (.lit 15)), (.lit 8), true) :: (false, (.bop .and .i64 (.bop .shr .i64 (.var 0) (.lit 20)) (.lit 15)), (.lit 8), true) :: (true, (.bop .shr .i64 (.var 0) (.lit 24)), (.lit 7), true) :: (true, (.bop .shr .i64 (.var 0) (.lit 24)), (.lit 6), false) :: (true, (.bop .shr .i64 (.var 0) (.lit 24)), (.lit 5), false) :: (true, (.bop .shr .i64 (.var 0) (.lit 24)), (.lit 4), false) :: (true, (.bop .shr .i64 (.var 0) (.lit 24)), (.lit 3), false) :: (true, (.bop .shr .i64 (.var 0) (.lit 24)), (.lit 2), false) :: (true, (.bop .shr .i64 (.var 0) (.lit 24)), (.lit 1), false) :: (true, (.bop .shr .i64 (.var 0) (.lit 24)), (.lit 0), false) :: (false, (.lit 13), (.bop .shr .i64 (.var 0) (.lit 24)), false) :: [])) : NotW w ∨ IsW w := .inl (read_of ((true, (.bop .and .i64 (.bop .shr .i64 (.var 0) (.lit 12)) (.lit 15)), (.lit 0), false) :: (false, (.bop .and .i64 (.bop .shr .i64 (.var 0) (.lit 16)) (.lit 15)), (.lit 8), true) :: (false, (.bop .and .i64 (.bop .shr .i64 (.var 0) (.lit 20)) (.lit 15)), (.lit 8), true) :: (true, (.bop .shr .i64 (.var 0) (.lit 24)), (.lit 7), true) :: (true, (.bop .shr .i64 (.var 0) (.lit 24)), (.lit 6), false) :: (true, (.bop .shr .i64 (.var 0) (.lit 24)), (.lit 5), false) :: (true, (.bop .shr .i64 (.var 0) (.lit 24)), (.lit 4), false) :: (true, (.bop .shr .i64 (.var 0) (.lit 24)), (.lit 3), false) :: (true, (.bop .shr .i64 (.var 0) (.lit 24)), (.lit 2), false) :: (true, (.bop .shr .i64 (.var 0) (.lit 24)), (.lit 1), false) :: (true, (.bop .shr .i64 (.var 0) (.lit 24)), (.lit 0), false) :: (false, (.lit 13), (.bop .shr .i64 (.var 0) (.lit 24)), false) :: []) false (.lit 0) (.lit 0) (.lit 0) (.lit 0) (.lit 0) hk (by kernel_rfl) (by kernel_rfl) (by kernel_rfl))
theorem w29 {w : Int} (hw : 0 ≤ w ∧ w ≤ 4294967295) (hk : Known2 (fun _ => w) rgW ((false, (.bop .and .i64 (.bop .shr .i64 (.var 0) (.lit 16)) (.lit 15)), (.lit 8), false) :: (false, (.bop .and .i64 (.bop .shr .i64 (.var 0) (.lit 20)) (.lit 15)), (.lit 8), true) :: (true, (.bop .shr .i64 (.var 0) (.lit 24)), (.lit 7), true) :: (true, (.bop .shr .i64 (.var 0) (.lit 24)), (.lit 6), false) :: (true, (.bop .shr .i64 (.var 0) (.lit 24)), (.lit 5), false) :: (true, (.bop .shr .i64 (.var 0) (.lit 24)), (.lit 4), false) :: (true, (.bop .shr .i64 (.var 0) (.lit 24)), (.lit 3), false) :: (true, (.bop .shr .i64 (.var 0) (.lit 24)), (.lit 2), false) :: (true, (.bop .shr .i64 (.var 0) (.lit 24)), (.lit 1), false) :: (true, (.bop .shr .i64 (.var 0) (.lit 24)), (.lit 0), false) :: (false, (.lit 13), (.bop .shr .i64 (.var 0) (.lit 24)), false) :: [])) : NotW w ∨ IsW w := .inl (read_of ((false, (.bop .and .i64 (.bop .shr .i64 (.var 0) (.lit 16)) (.lit 15)), (.lit 8), false) :: (false, (.bop .and .i64 (.bop .shr .i64 (.var 0) (.lit 20)) (.lit 15)), (.lit 8), true) :: (true, (.bop .shr .i64 (.var 0) (.lit 24)), (.lit 7), true) :: (true, (.bop .shr .i64 (.var 0) (.lit 24)), (.lit 6), false) :: (true, (.bop .shr .i64 (.var 0) (.lit 24)), (.lit 5), false) :: (true, (.bop .shr .i64 (.var 0) (.lit 24)), (.lit 4), false) :: (true, (.bop .shr .i64 (.var 0) (.lit 24)), (.lit 3), false) :: (true, (.bop .shr .i64 (.var 0) (.lit 24)), (.lit 2), false) :: (true, (.bop .shr .i64 (.var 0) (.lit 24)), (.lit 1), false) :: (true, (.bop .shr .i64 (.var 0) (.lit 24)), (.lit 0), false) :: (false, (.lit 13), (.bop .shr .i64 (.var 0) (.lit 24)), false) :: []) false (.lit 0) (.lit 0) (.lit 0) (.lit 0) (.lit 0) hk (by kernel_rfl) (by kernel_rfl) (by kernel_rfl))
theorem w30 {w : Int} (hw : 0 ≤ w ∧ w ≤ 4294967295) (hk : Known2 (fun _ => w) rgW ((false, (.bop .and .i64 (.bop .shr .i64 (.var 0) (.lit 20)) (.lit 15)), (.lit 8), false) :: (true, (.bop .shr .i64 (.var 0) (.lit 24)), (.lit 7), true) :: (true, (.bop .shr .i64 (.var 0) (.lit 24)), (.lit 6), false) :: (true, (.bop .shr .i64 (.var 0) (.lit 24)), (.lit 5), false) :: (true, (.bop .shr .i64 (.var 0) (.lit 24)), (.lit 4), false) :: (true, (.bop .shr .i64 (.var 0) (.lit 24)), (.lit 3), false) :: (true, (.bop .shr .i64 (.var 0) (.lit 24)), (.lit 2), false) :: (true, (.bop .shr .i64 (.var 0) (.lit 24)), (.lit 1), false) :: (true, (.bop .shr .i64 (.var 0) (.lit 24)), (.lit 0), false) :: (false, (.lit 13), (.bop .shr .i64 (.var 0) (.lit 24)), false) :: [])) : NotW w ∨ IsW w := .inl (read_of ((false, (.bop .and .i64 (.bop .shr .i64 (.var 0) (.lit 20)) (.lit 15)), (.lit 8), false) :: (true, (.bop .shr .i64 (.var 0) (.lit 24)), (.lit 7), true) :: (true, (.bop .shr .i64 (.var 0) (.lit 24)), (.lit 6), false) :: (true, (.bop .shr .i64 (.var 0) (.lit 24)), (.lit 5), false) :: (true, (.bop .shr .i64 (.var 0) (.lit 24)), (.lit 4), false) :: (true, (.bop .shr .i64 (.var 0) (.lit 24)), (.lit 3), false) :: (true, (.bop .shr .i64 (.var 0) (.lit 24)), (.lit 2), false) :: (true, (.bop .shr .i64 (.var 0) (.lit 24)), (.lit 1), false) :: (true, (.bop .shr .i64 (.var 0) (.lit 24)), (.lit 0), false) :: (false, (.lit 13), (.bop .shr .i64 (.var 0) (.lit 24)), false) :: []) false (.lit 0) (.lit 0) (.lit 0) (.lit 0) (.lit 0) hk (by kernel_rfl) (by kernel_rfl) (by kernel_rfl))
theorem w31 {w : Int} (hw : 0 ≤ w ∧ w ≤ 4294967295) (hk : Known2 (fun _ => w) rgW ((false, (.lit 0), (.bop .and .i64 (.var 0) (.lit 4095)), true) :: (true, (.bop .shr .i64 (.var 0) (.lit 24)), (.lit 8), true) :: (true, (.bop .shr .i64 (.var 0) (.lit 24)), (.lit 7), false) :: (true, (.bop .shr .i64 (.var 0) (.lit 24)), (.lit 6), false) :: (true, (.bop .shr .i64 (.var 0) (.lit 24)), (.lit 5), false) :: (true, (.bop .shr .i64 (.var 0) (.lit 24)), (.lit 4), false) :: (true, (.bop .shr .i64 (.var 0) (.lit 24)), (.lit 3), false) :: (true, (.bop .shr .i64 (.var 0) (.lit 24)), (.lit 2), false) :: (true, (.bop .shr .i64 (.var 0) (.lit 24)), (.lit 1), false) :: (true, (.bop .shr .i64 (.var 0) (.lit 24)), (.lit 0), false) :: (false, (.lit 13), (.bop .shr .i64 (.var 0) (.lit 24)), false) :: [])) : NotW w ∨ IsW w := .inl (read_of ((false, (.lit 0), (.bop .and .i64 (.var 0) (.lit 4095)), true) :: (true, (.bop .shr .i64 (.var 0) (.lit 24)), (.lit 8), true) :: (true, (.bop .shr .i64 (.var 0) (.lit 24)), (.lit 7), false) :: (true, (.bop .shr .i64 (.var 0) (.lit 24)), (.lit 6), false) :: (true, (.bop .shr .i64 (.var 0) (.lit 24)), (.lit 5), false) :: (true, (.bop .shr .i64 (.var 0) (.lit 24)), (.lit 4), false) :: (true, (.bop .shr .i64 (.var 0) (.lit 24)), (.lit 3), false) :: (true, (.bop .shr .i64 (.var 0) (.lit 24)), (.lit 2), false) :: (true, (.bop .shr .i64 (.var 0) (.lit 24)), (.lit 1), false) :: (true, (.bop .shr .i64 (.var 0) (.lit 24)), (.lit 0), false) :: (false, (.lit 13), (.bop .shr .i64 (.var 0) (.lit 24)), false) :: []) false (.lit 0) (.lit 0) (.lit 0) (.lit 0) (.lit 0) hk (by kernel_rfl) (by kernel_rfl) (by kernel_rfl))
theorem w32 {w : Int} (hw : 0 ≤ w ∧ w ≤ 4294967295) (hk : Known2 (fun _ => w) rgW ((true, (.bop .and .i64 (.bop .shr .i64 (.var 0) (.lit 12)) (.lit 15)), (.lit 0), true) :: (false, (.lit 0), (.bop .and .i64 (.var 0) (.lit 4095)), false) :: (true, (.bop .shr .i64 (.var 0) (.lit 24)), (.lit 8), true) :: (true, (.bop .shr .i64 (.var 0) (.lit 24)), (.lit 7), false) :: (true, (.bop .shr .i64 (.var 0) (.lit 24)), (.lit 6), false) :: (true, (.bop .shr .i64 (.var 0) (.lit 24)), (.lit 5), false) :: (true, (.bop .shr .i64 (.var 0) (.lit 24)), (.lit 4), false) :: (true, (.bop .shr .i64 (.var 0) (.lit 24)), (.lit 3), false) :: (true, (.bop .shr .i64 (.var 0) (.lit 24)), (.lit 2), false) :: (true, (.bop .shr .i64 (.var 0) (.lit 24)), (.lit 1), false) :: (true, (.bop .shr .i64 (.var 0) (.lit 24)), (.lit 0), false) :: (false, (.lit 13), (.bop .shr .i64 (.var 0) (.lit 24)), false) :: [])) : NotW w ∨ IsW w := by
  have hat := atoms hw
  have f0 : decide (E.den (fun _ => w) (.bop .and .i64 (.bop .shr .i64 (.var 0) (.lit 12)) (.lit 15)) = (0 : Int)) = true := hk.facts _ _ _ _ List.mem_cons_self
  rw [hat.2.2.2.1, decide_eq_true_iff] at f0
  have f1 : decide ((0 : Int) < E.den (fun _ => w) (.bop .and .i64 (.var 0) (.lit 4095))) = false := hk.facts _ _ _ _ (List.mem_cons_of_mem _ List.mem_cons_self)
  rw [hat.2.2.2.2, decide_eq_false_iff_not] at f1
  have f2 : decide (E.den (fun _ => w) (.bop .shr .i64 (.var 0) (.lit 24)) = (8 : Int)) = true := hk.facts _ _ _ _ (List.mem_cons_of_mem _ (List.mem_cons_of_mem _ List.mem_cons_self))
  rw [hat.1, decide_eq_true_iff] at f2
  refine .inr (Or.inr (Or.inr (Or.inr (Or.inr (Or.inr (Or.inr (Or.inr (Or.inl ⟨w / 1048576 % 16, w / 65536 % 16, w / 4096 % 16, w % 4096, ?_, ?_⟩))))))))
  · show w = 8 * 16777216 + _ * 1048576 + _ * 65536 + _ * 4096 + _
    omega
  · exact ⟨by omega, by omega, by omega, by omega⟩
theorem w33 {w : Int} (hw : 0 ≤ w ∧ w ≤ 4294967295) (hk : Known2 (fun _ => w) rgW ((true, (.bop .and .i64 (.bop .shr .i64 (.var 0) (.lit 12)) (.lit 15)), (.lit 0), false) :: (false, (.lit 0), (.bop .and .i64 (.var 0) (.lit 4095)), false) :: (true, (.bop .shr .i64 (.var 0) (.lit 24)), (.lit 8), true) :: (true, (.bop .shr .i64 (.var 0) (.lit 24)), (.lit 7), false) :: (true, (.bop .shr .i64 (.var 0) (.lit 24)), (.lit 6), false) :: (true, (.bop .shr .i64 (.var 0) (.lit 24)), (.lit 5), false) :: (true, (.bop .shr .i64 (.var 0) (.lit 24)), (.lit 4), false) :: (true, (.bop .shr .i64 (.var 0) (.lit 24)), (.lit 3), false) :: (true, (.bop .shr .i64 (.var 0) (.lit 24)), (.lit 2), false) :: (true, (.bop .shr .i64 (.var 0) (.lit 24)), (.lit 1), false) :: (true, (.bop .shr .i64 (.var 0) (.lit 24)), (.lit 0), false) :: (false, (.lit 13), (.bop .shr .i64 (.var 0) (.lit 24)), false) :: [])) : NotW w ∨ IsW w := .inl (read_of ((true, (.bop .and .i64 (.bop .shr .i64 (.var 0) (.lit 12)) (.lit 15)), (.lit 0), false) :: (false, (.lit 0), (.bop .and .i64 (.var 0) (.lit 4095)), false) :: (true, (.bop .shr .i64 (.var 0) (.lit 24)), (.lit 8), true) :: (true, (.bop .shr .i64 (.var 0) (.lit 24)), (.lit 7), false) :: (true, (.bop .shr .i64 (.var 0) (.lit 24)), (.lit 6), false) :: (true, (.bop .shr .i64 (.var 0) (.lit 24)), (.lit 5), false) :: (true, (.bop .shr .i64 (.var 0) (.lit 24)), (.lit 4), false) :: (true, (.bop .shr .i64 (.var 0) (.lit 24)), (.lit 3), false) :: (true, (.bop .shr .i64 (.var 0) (.lit 24)), (.lit 2), false) :: (true, (.bop .shr .i64 (.var 0) (.lit 24)), (.lit 1), false) :: (true, (.bop .shr .i64 (.var 0) (.lit 24)), (.lit 0), false) :: (false, (.lit 13), (.bop .shr .i64 (.var 0) (.lit 24)), false) :: []) false (.lit 0) (.lit 0) (.lit 0) (.lit 0) (.lit 0) hk (by kernel_rfl) (by kernel_rfl) (by kernel_rfl))
theorem w34 {w : Int} (hw : 0 ≤ w ∧ w ≤ 4294967295) (hk : Known2 (fun _ => w) rgW ((false, (.lit 0), (.bop .and .i64 (.var 0) (.lit 4095)), true) :: (false, (.bop .and .i64 (.bop .shr .i64 (.var 0) (.lit 16)) (.lit 15)), (.lit 8), true) :: (true, (.bop .shr .i64 (.var 0) (.lit 24)), (.lit 9), true) :: (true, (.bop .shr .i64 (.var 0) (.lit 24)), (.lit 8), false) :: (true, (.bop .shr .i64 (.var 0) (.lit 24)), (.lit 7), false) :: (true, (.bop .shr .i64 (.var 0) (.lit 24)), (.lit 6), false) :: (true, (.bop .shr .i64 (.var 0) (.lit 24)), (.lit 5), false) :: (true, (.bop .shr .i64 (.var 0) (.lit 24)), (.lit 4), false) :: (true, (.bop .shr .i64 (.var 0) (.lit 24)), (.lit 3), false) :: (true, (.bop .shr .i64 (.var 0) (.lit 24)), (.lit 2), false) :: (true, (.bop .shr .i64 (.var 0) (.lit 24)), (.lit 1), false) :: (true, (.bop .shr .i64 (.var 0) (.lit 24)), (.lit 0), false) :: (false, (.lit 13), (.bop .shr .i64 (.var 0) (.lit 24)), false) :: [])) : NotW w ∨ IsW w := .inl (read_of ((false, (.lit 0), (.bop .and .i64 (.var 0) (.lit 4095)), true) :: (false, (.bop .and .i64 (.bop .shr .i64 (.var 0) (.lit 16)) (.lit 15)), (.lit 8), true) :: (true, (.bop .shr .i64 (.var 0) (.lit 24)), (.lit 9), true) :: (true, (.bop .shr .i64 (.var 0) (.lit 24)), (.lit 8), false) :: (true, (.bop .shr .i64 (.var 0) (.lit 24)), (.lit 7), false) :: (true, (.bop .shr .i64 (.var 0) (.lit 24)), (.lit 6), false) :: (true, (.bop .shr .i64 (.var 0) (.lit 24)), (.lit 5), false) :: (true, (.bop .shr .i64 (.var 0) (.lit 24)), (.lit 4), false) :: (true, (.bop .shr .i64 (.var 0) (.lit 24)), (.lit 3), false) :: (true, (.bop .shr .i64 (.var 0) (.lit 24)), (.lit 2), false) :: (true, (.bop .shr .i64 (.var 0) (.lit 24)), (.lit 1), false) :: (true, (.bop .shr .i64 (.var 0) (.lit 24)), (.lit 0), false) :: (false, (.lit 13), (.bop .shr .i64 (.var 0) (.lit 24)), false) :: []) false (.lit 0) (.lit 0) (.lit 0) (.lit 0) (.lit 0) hk (by kernel_rfl) (by kernel_rfl) (by kernel_rfl))
theorem w35 {w : Int} (hw : 0 ≤ w ∧ w ≤ 4294967295) (hk : Known2 (fun _ => w) rgW ((true, (.bop .and .i64 (.bop .shr .i64 (.var 0) (.lit 12)) (.lit 15)), (.lit 0), true) :: (false, (.lit 0), (.bop .and .i64 (.var 0) (.lit 4095)), false) :: (false, (.bop .and .i64 (.bop .shr .i64 (.var 0) (.lit 16)) (.lit 15)), (.lit 8), true) :: (true, (.bop .shr .i64 (.var 0) (.lit 24)), (.lit 9), true) :: (true, (.bop .shr .i64 (.var 0) (.lit 24)), (.lit 8), false) :: (true, (.bop .shr .i64 (.var 0) (.lit 24)), (.lit 7), false) :: (true, (.bop .shr .i64 (.var 0) (.lit 24)), (.lit 6), false) :: (true, (.bop .shr .i64 (.var 0) (.lit 24)), (.lit 5), false) :: (true, (.bop .shr .i64 (.var 0) (.lit 24)), (.lit 4), false) :: (true, (.bop .shr .i64 (.var 0) (.lit 24)), (.lit 3), false) :: (true, (.bop .shr .i64 (.var 0) (.lit 24)), (.lit 2), false) :: (true, (.bop .shr .i64 (.var 0) (.lit 24)), (.lit 1), false) :: (true, (.bop .shr .i64 (.var 0) (.lit 24)), (.lit 0), false) :: (false, (.lit 13), (.bop .shr .i64 (.var 0) (.lit 24)), false) :: [])) : NotW w ∨ IsW w := by
  have hat := atoms hw
  have f0 : decide (E.den (fun _ => w) (.bop .and .i64 (.bop .shr .i64 (.var 0) (.lit 12)) (.lit 15)) = (0 : Int)) = true := hk.facts _ _ _ _ List.mem_cons_self
  rw [hat.2.2.2.1, decide_eq_true_iff] at f0
  have f1 : decide ((0 : Int) < E.den (fun _ => w) (.bop .and .i64 (.var 0) (.lit 4095))) = false := hk.facts _ _ _ _ (List.mem_cons_of_mem _ List.mem_cons_self)
  rw [hat.2.2.2.2, decide_eq_false_iff_not] at f1
  have f2 : decide (E.den (fun _ => w) (.bop .and .i64 (.bop .shr .i64 (.var 0) (.lit 16)) (.lit 15)) < (8 : Int)) = true := hk.facts _ _ _ _ (List.mem_cons_of_mem _ (List.mem_cons_of_mem _ List.mem_cons_self))
  rw [hat.2.2.1, decide_eq_true_iff] at f2
  have f3 : decide (E.den (fun _ => w) (.bop .shr .i64 (.var 0) (.lit 24)) = (9 : Int)) = true := hk.facts _ _ _ _ (List.mem_cons_of_mem _ (List.mem_cons_of_mem _ (List.mem_cons_of_mem _ List.mem_cons_self)))
  rw [hat.1, decide_eq_true_iff] at f3
  refine .inr (Or.inr (Or.inr (Or.inr (Or.inr (Or.inr (Or.inr (Or.inr (Or.inr (Or.inl ⟨w / 1048576 % 16, w / 65536 % 16, w / 4096 % 16, w % 4096, ?_, ?_⟩)))))))))
  · show w = 9 * 16777216 + _ * 1048576 + _ * 65536 + _ * 4096 + _
    omega
  · exact ⟨by omega, by omega, by omega, by omega⟩
theorem w36 {w : Int} (hw : 0 ≤ w ∧ w ≤ 4294967295) (hk : Known2 (fun _ => w) rgW ((true, (.bop .and .i64 (.bop .shr .i64 (.var 0) (.lit 12)) (.lit 15)), (.lit 0), false) :: (false, (.lit 0), (.bop .and .i64 (.var 0) (.lit 4095)), false) :: (false, (.bop .and .i64 (.bop .shr .i64 (.var 0) (.lit 16)) (.lit 15)), (.lit 8), true) :: (true, (.bop .shr .i64 (.var 0) (.lit 24)), (.lit 9), true) :: (true, (.bop .shr .i64 (.var 0) (.lit 24)), (.lit 8), false) :: (true, (.bop .shr .i64 (.var 0) (.lit 24)), (.lit 7), false) :: (true, (.bop .shr .i64 (.var 0) (.lit 24)), (.lit 6), false) :: (true, (.bop .shr .i64 (.var 0) (.lit 24)), (.lit 5), false) :: (true, (.bop .shr .i64 (.var 0) (.lit 24)), (.lit 4), false) :: (true, (.bop .shr .i64 (.var 0) (.lit 24)), (.lit 3), false) :: (true, (.bop .shr .i64 (.var 0) (.lit 24)), (.lit 2), false) :: (true, (.bop .shr .i64 (.var 0) (.lit 24)), (.lit 1), false) :: (true, (.bop .shr .i64 (.var 0) (.lit 24)), (.lit 0), false) :: (false, (.lit 13), (.bop .shr .i64 (.var 0) (.lit 24)), false) :: [])) : NotW w ∨ IsW w := .inl (read_of ((true, (.bop .and .i64 (.bop .shr .i64 (.var 0) (.lit 12)) (.lit 15)), (.lit 0), false) :: (false, (.lit 0), (.bop .and .i64 (.var 0) (.lit 4095)), false) :: (false, (.bop .and .i64 (.bop .shr .i64 (.var 0) (.lit 16)) (.lit 15)), (.lit 8), true) :: (true, (.bop .shr .i64 (.var 0) (.lit 24)), (.lit 9), true) :: (true, (.bop .shr .i64 (.var 0) (.lit 24)), (.lit 8), false) :: (true, (.bop .shr .i64 (.var 0) (.lit 24)), (.lit 7), false) :: (true, (.bop .shr .i64 (.var 0) (.lit 24)), (.lit 6), false) :: (true, (.bop .shr .i64 (.var 0) (.lit 24)), (.lit 5), false) :: (true, (.bop .shr .i64 (.var 0) (.lit 24)), (.lit 4), false) :: (true, (.bop .shr .i64 (.var 0) (.lit 24)), (.lit 3), false) :: (true, (.bop .shr .i64 (.var 0) (.lit 24)), (.lit 2), false) :: (true, (.bop .shr .i64 (.var 0) (.lit 24)), (.lit 1), false) :: (true, (.bop .shr .i64 (.var 0) (.lit 24)), (.lit 0), false) :: (false, (.lit 13), (.bop .shr .i64 (.var 0) (.lit 24)), false) :: []) false (.lit 0) (.lit 0) (.lit 0) (.lit 0) (.lit 0) hk (by kernel_rfl) (by kernel_rfl) (by kernel_rfl))
theorem w37 {w : Int} (hw : 0 ≤ w ∧ w ≤ 4294967295) (hk : Known2 (fun _ => w) rgW ((false, (.bop .and .i64 (.bop .shr .i64 (.var 0) (.lit 16)) (.lit 15)), (.lit 8), false) :: (true, (.bop .shr .i64 (.var 0) (.lit 24)), (.lit 9), true) :: (true, (.bop .shr .i64 (.var 0) (.lit 24)), (.lit 8), false) :: (true, (.bop .shr .i64 (.var 0) (.lit 24)), (.lit 7), false) :: (true, (.bop .shr .i64 (.var 0) (.lit 24)), (.lit 6), false) :: (true, (.bop .shr .i64 (.var 0) (.lit 24)), (.lit 5), false) :: (true, (.bop .shr .i64 (.var 0) (.lit 24)), (.lit 4), false) :: (true, (.bop .shr .i64 (.var 0) (.lit 24)), (.lit 3), false) :: (true, (.bop .shr .i64 (.var 0) (.lit 24)), (.lit 2), false) :: (true, (.bop .shr .i64 (.var 0) (.lit 24)), (.lit 1), false) :: (true, (.bop .shr .i64 (.var 0) (.lit 24)), (.lit 0), false) :: (false, (.lit 13), (.bop .shr .i64 (.var 0) (.lit 24)), false) :: [])) : NotW w ∨ IsW w := .inl (read_of ((false, (.bop .and .i64 (.bop .shr .i64 (.var 0) (.lit 16)) (.lit 15)), (.lit 8), false) :: (true, (.bop .shr .i64 (.var 0) (.lit 24)), (.lit 9), true) :: (true, (.bop .shr .i64 (.var 0) (.lit 24)), (.lit 8), false) :: (true, (.bop .shr .i64 (.var 0) (.lit 24)), (.lit 7), false) :: (true, (.bop .shr .i64 (.var 0) (.lit 24)), (.lit 6), false) :: (true, (.bop .shr .i64 (.var 0) (.lit 24)), (.lit 5), false) :: (true, (.bop .shr .i64 (.var 0) (.lit 24)), (.lit 4), false) :: (true, (.bop .shr .i64 (.var 0) (.lit 24)), (.lit 3), false) :: (true, (.bop .shr .i64 (.var 0) (.lit 24)), (.lit 2), false) :: (true, (.bop .shr .i64 (.var 0) (.lit 24)), (.lit 1), false) :: (true, (.bop .shr .i64 (.var 0) (.lit 24)), (.lit 0), false) :: (false, (.lit 13), (.bop .shr .i64 (.var 0) (.lit 24)), false) :: []) false (.lit 0) (.lit 0) (.lit 0) (.lit 0) (.lit 0) hk (by kernel_rfl) (by kernel_rfl) (by kernel_rfl))
theorem w38 {w : Int} (hw : 0 ≤ w ∧ w ≤ 4294967295) (hk : Known2 (fun _ => w) rgW ((false, (.lit 0), (.bop .and .i64 (.var 0) (.lit 4095)), true) :: (false, (.bop .and .i64 (.bop .shr .i64 (.var 0) (.lit 20)) (.lit 15)), (.lit 8), true) :: (true, (.bop .shr .i64 (.var 0) (.lit 24)), (.lit 10), true) :: (true, (.bop .shr .i64 (.var 0) (.lit 24)), (.lit 9), false) :: (true, (.bop .shr .i64 (.var 0) (.lit 24)), (.lit 8), false) :: (true, (.bop .shr .i64 (.var 0) (.lit 24)), (.lit 7), false) :: (true, (.bop .shr .i64 (.var 0) (.lit 24)), (.lit 6), false) :: (true, (.bop .shr .i64 (.var 0) (.lit 24)), (.lit 5), false) :: (true, (.bop .shr .i64 (.var 0) (.lit 24)), (.lit 4), false) :: (true, (.bop .shr .i64 (.var 0) (.lit 24)), (.lit 3), false) :: (true, (.bop .shr .i64 (.var 0) (.lit 24)), (.lit 2), false) :: (true, (.bop .shr .i64 (.var 0) (.lit 24)), (.lit 1), false) :: (true, (.bop .shr .i64 (.var 0) (.lit 24)), (.lit 0), false) :: (false, (.lit 13), (.bop .shr .i64 (.var 0) (.lit 24)), false) :: [])) : NotW w ∨ IsW w := .inl (read_of ((false, (.lit 0), (.bop .and .i64 (.var 0) (.lit 4095)), true) :: (false, (.bop .and .i64 (.bop .shr .i64 (.var 0) (.lit 20)) (.lit 15)), (.lit 8), true) :: (true, (.bop .shr .i64 (.var 0) (.lit 24)), (.lit 10), true) :: (true, (.bop .shr .i64 (.var 0) (.lit 24)), (.lit 9), false) :: (true, (.bop .shr .i64 (.var 0) (.lit 24)), (.lit 8), false) :: (true, (.bop .shr .i64 (.var 0) (.lit 24)), (.lit 7), false) :: (true, (.bop .shr .i64 (.var 0) (.lit 24)), (.lit 6), false) :: (true, (.bop .shr .i64 (.var 0) (.lit 24)), (.lit 5), false) :: (true, (.bop .shr .i64 (.var 0) (.lit 24)), (.lit 4), false) :: (true, (.bop .shr .i64 (.var 0) (.lit 24)), (.lit 3), false) :: (true, (.bop .shr .i64 (.var 0) (.lit 24)), (.lit 2), false) :: (true, (.bop .shr .i64 (.var 0) (.lit 24)), (.lit 1), false) :: (true, (.bop .shr .i64 (.var 0) (.lit 24)), (.lit 0), false) :: (false, (.lit 13), (.bop .shr .i64 (.var 0) (.lit 24)), false) :: []) false (.lit 0) (.lit 0) (.lit 0) (.lit 0) (.lit 0) hk (by kernel_rfl) (by kernel_rfl) (by kernel_rfl))
theorem w39 {w : Int} (hw : 0 ≤ w ∧ w ≤ 4294967295) (hk : Known2 (fun _ => w) rgW ((true, (.bop .and .i64 (.bop .shr .i64 (.var 0) (.lit 12)) (.lit 15)), (.lit 0), true) :: (false, (.lit 0), (.bop .and .i64 (.var 0) (.lit 4095)), false) :: (false, (.bop .and .i64 (.bop .shr .i64 (.var 0) (.lit 20)) (.lit 15)), (.lit 8), true) :: (true, (.bop .shr .i64 (.var 0) (.lit 24)), (.lit 10), true) :: (true, (.bop .shr .i64 (.var 0) (.lit 24)), (.lit 9), false) :: (true, (.bop .shr .i64 (.var 0) (.lit 24)), (.lit 8), false) :: (true, (.bop .shr .i64 (.var 0) (.lit 24)), (.lit 7), false) :: (true, (.bop .shr .i64 (.var 0) (.lit 24)), (.lit 6), false) :: (true, (.bop .shr .i64 (.var 0) (.lit 24)), (.lit 5), false) :: (true, (.bop .shr .i64 (.var 0) (.lit 24)), (.lit 4), false) :: (true, (.bop .shr .i64 (.var 0) (.lit 24)), (.lit 3), false) :: (true, (.bop .shr .i64 (.var 0) (.lit 24)), (.lit 2), false) :: (true, (.bop .shr .i64 (.var 0) (.lit 24)), (.lit 1), false) :: (true, (.bop .shr .i64 (.var 0) (.lit 24)), (.lit 0), false) :: (false, (.lit 13), (.bop .shr .i64 (.var 0) (.lit 24)), false) :: [])) : NotW w ∨ IsW w := by
  have hat := atoms hw
  have f0 : decide (E.den (fun _ => w) (.bop .and .i64 (.bop .shr .i64 (.var 0) (.lit 12)) (.lit 15)) = (0 : Int)) = true := hk.facts _ _ _ _ List.mem_cons_self
  rw [hat.2.2.2.1, decide_eq_true_iff] at f0
  have f1 : decide ((0 : Int) < E.den (fun _ => w) (.bop .and .i64 (.var 0) (.lit 4095))) = false := hk.facts _ _ _ _ (List.mem_cons_of_mem _ List.mem_cons_self)
  rw [hat.2.2.2.2, decide_eq_false_iff_not] at f1
  have f2 : decide (E.den (fun _ => w) (.bop .and .i64 (.bop .shr .i64 (.var 0) (.lit 20)) (.lit 15)) < (8 : Int)) = true := hk.facts _ _ _ _ (List.mem_cons_of_mem _ (List.mem_cons_of_mem _ List.mem_cons_self))
  rw [hat.2.1, decide_eq_true_iff] at f2
  have f3 : decide (E.den (fun _ => w) (.bop .shr .i64 (.var 0) (.lit 24)) = (10 : Int)) = true := hk.facts _ _ _ _ (List.mem_cons_of_mem _ (List.mem_cons_of_mem _ (List.mem_cons_of_mem _ List.mem_cons_self)))
  rw [hat.1, decide_eq_true_iff] at f3
  refine .inr (Or.inr (Or.inr (Or.inr (Or.inr (Or.inr (Or.inr (Or.inr (Or.inr (Or.inr (Or.inl ⟨w / 1048576 % 16, w / 65536 % 16, w / 4096 % 16, w % 4096, ?_, ?_⟩))))))))))
  · show w = 10 * 16777216 + _ * 1048576 + _ * 65536 + _ * 4096 + _
    omega
  · exact ⟨by omega, by omega, by omega, by omega⟩
theorem w40 {w : Int} (hw : 0 ≤ w ∧ w ≤ 4294967295) (hk : Known2 (fun _ => w) rgW ((true, (.bop .and .i64 (.bop .shr .i64 (.var 0) (.lit 12)) (.lit 15)), (.lit 0), false) :: (false, (.lit 0), (.bop .and .i64 (.var 0) (.lit 4095)), false) :: (false, (.bop .and .i64 (.bop .shr .i64 (.var 0) (.lit 20)) (.lit 15)), (.lit 8), true) :: (true, (.bop .shr .i64 (.var 0) (.lit 24)), (.lit 10), true) :: (true, (.bop .shr .i64 (.var 0) (.lit 24)), (.lit 9), false) :: (true, (.bop .shr .i64 (.var 0) (.lit 24)), (.lit 8), false) :: (true, (.bop .shr .i64 (.var 0) (.lit 24)), (.lit 7), false) :: (true, (.bop .shr .i64 (.var 0) (.lit 24)), (.lit 6), false) :: (true, (.bop .shr .i64 (.var 0) (.lit 24)), (.lit 5), false) :: (true, (.bop .shr .i64 (.var 0) (.lit 24)), (.lit 4), false) :: (true, (.bop .shr .i64 (.var 0) (.lit 24)), (.lit 3), false) :: (true, (.bop .shr .i64 (.var 0) (.lit 24)), (.lit 2), false) :: (true, (.bop .shr .i64 (.var 0) (.lit 24)), (.lit 1), false) :: (true, (.bop .shr .i64 (.var 0) (.lit 24)), (.lit 0), false) :: (false, (.lit 13), (.bop .shr .i64 (.var 0) (.lit 24)), false) :: [])) : NotW w ∨ IsW w := .inl (read_of ((true, (.bop .and .i64 (.bop .shr .i64 (.var 0) (.lit 12)) (.lit 15)), (.lit 0), false) :: (false, (.lit 0), (.bop .and .i64 (.var 0) (.lit 4095)), false) :: (false, (.bop .and .i64 (.bop .shr .i64 (.var 0) (.lit 20)) (.lit 15)), (.lit 8), true) :: (true, (.bop .shr .i64 (.var 0) (.lit 24)), (.lit 10), true) :: (true, (.bop .shr .i64 (.var 0) (.lit 24)), (.lit 9), false) :: (true, (.bop .shr .i64 (.var 0) (.lit 24)), (.lit 8), false) :: (true, (.bop .shr .i64 (.var 0) (.lit 24)), (.lit 7), false) :: (true, (.bop .shr .i64 (.var 0) (.lit 24)), (.lit 6), false) :: (true, (.bop .shr .i64 (.var 0) (.lit 24)), (.lit 5), false) :: (true, (.bop .shr .i64 (.var 0) (.lit 24)), (.lit 4), false) :: (true, (.bop .shr .i64 (.var 0) (.lit 24)), (.lit 3), false) :: (true, (.bop .shr .i64 (.var 0) (.lit 24)), (.lit 2), false) :: (true, (.bop .shr .i64 (.var 0) (.lit 24)), (.lit 1), false) :: (true, (.bop .shr .i64 (.var 0) (.lit 24)), (.lit 0), false) :: (false, (.lit 13), (.bop .shr .i64 (.var 0) (.lit 24)), false) :: []) false (.lit 0) (.lit 0) (.lit 0) (.lit 0) (.lit 0) hk (by kernel_rfl) (by kernel_rfl) (by kernel_rfl))
theorem w41 {w : Int} (hw : 0 ≤ w ∧ w ≤ 4294967295) (hk : Known2 (fun _ => w) rgW ((false, (.bop .and .i64 (.bop .shr .i64 (.var 0) (.lit 20)) (.lit 15)), (.lit 8), false) :: (true, (.bop .shr .i64 (.var 0) (.lit 24)), (.lit 10), true) :: (true, (.bop .shr .i64 (.var 0) (.lit 24)), (.lit 9), false) :: (true, (.bop .shr .i64 (.var 0) (.lit 24)), (.lit 8), false) :: (true, (.bop .shr .i64 (.var 0) (.lit 24)), (.lit 7), false) :: (true, (.bop .shr .i64 (.var 0) (.lit 24)), (.lit 6), false) :: (true, (.bop .shr .i64 (.var 0) (.lit 24)), (.lit 5), false) :: (true, (.bop .shr .i64 (.var 0) (.lit 24)), (.lit 4), false) :: (true, (.bop .shr .i64 (.var 0) (.lit 24)), (.lit 3), false) :: (true, (.bop .shr .i64 (.var 0) (.lit 24)), (.lit 2), false) :: (true, (.bop .shr .i64 (.var 0) (.lit 24)), (.lit 1), false) :: (true, (.bop .shr .i64 (.var 0) (.lit 24)), (.lit 0), false) :: (false, (.lit 13), (.bop .shr .i64 (.var 0) (.lit 24)), false) :: [])) : NotW w ∨ IsW w := .inl (read_of ((false, (.bop .and .i64 (.bop .shr .i64 (.var 0) (.lit 20)) (.lit 15)), (.lit 8), false) :: (true, (.bop .shr .i64 (.var 0) (.lit 24)), (.lit 10), true) :: (true, (.bop .shr .i64 (.var 0) (.lit 24)), (.lit 9), false) :: (true, (.bop .shr .i64 (.var 0) (.lit 24)), (.lit 8), false) :: (true, (.bop .shr .i64 (.var 0) (.lit 24)), (.lit 7), false) :: (true, (.bop .shr .i64 (.var 0) (.lit 24)), (.lit 6), false) :: (true, (.bop .shr .i64 (.var 0) (.lit 24)), (.lit 5), false) :: (true, (.bop .shr .i64 (.var 0) (.lit 24)), (.lit 4), false) :: (true, (.bop .shr .i64 (.var 0) (.lit 24)), (.lit 3), false) :: (true, (.bop .shr .i64 (.var 0) (.lit 24)), (.lit 2), false) :: (true, (.bop .shr .i64 (.var 0) (.lit 24)), (.lit 1), false) :: (true, (.bop .shr .i64 (.var 0) (.lit 24)), (.lit 0), false) :: (false, (.lit 13), (.bop .shr .i64 (.var 0) (.lit 24)), false) :: []) false (.lit 0) (.lit 0) (.lit 0) (.lit 0) (.lit 0) hk (by kernel_rfl) (by kernel_rfl) (by kernel_rfl))
theorem w42 {w : Int} (hw : 0 ≤ w ∧ w ≤ 4294967295) (hk : Known2 (fun _ => w) rgW ((false, (.lit 2), (.bop .and .i64 (.bop .shr .i64 (.var 0) (.lit 20)) (.lit 15)), true) :: (true, (.bop .shr .i64 (.var 0) (.lit 24)), (.lit 11), true) :: (true, (.bop .shr .i64 (.var 0) (.lit 24)), (.lit 10), false) :: (true, (.bop .shr .i64 (.var 0) (.lit 24)), (.lit 9), false) :: (true, (.bop .shr .i64 (.var 0) (.lit 24)), (.lit 8), false) :: (true, (.bop .shr .i64 (.var 0) (.lit 24)), (.lit 7), false) :: (true, (.bop .shr .i64 (.var 0) (.lit 24)), (.lit 6), false) :: (true, (.bop .shr .i64 (.var 0) (.lit 24)), (.lit 5), false) :: (true, (.bop .shr .i64 (.var 0) (.lit 24)), (.lit 4), false) :: (true, (.bop .shr .i64 (.var 0) (.lit 24)), (.lit 3), false) :: (true, (.bop .shr .i64 (.var 0) (.lit 24)), (.lit 2), false) :: (true, (.bop .shr .i64 (.var 0) (.lit 24)), (.lit 1), false) :: (true, (.bop .shr .i64 (.var 0) (.lit 24)), (.lit 0), false) :: (false, (.lit 13), (.bop .shr .i64 (.var 0) (.lit 24)), false) :: [])) : NotW w ∨ IsW w := .inl (read_of ((false, (.lit 2), (.bop .and .i64 (.bop .shr .i64 (.var 0) (.lit 20)) (.lit 15)), true) :: (true, (.bop .shr .i64 (.var 0) (.lit 24)), (.lit 11), true) :: (true, (.bop .shr .i64 (.var 0) (.lit 24)), (.lit 10), false) :: (true, (.bop .shr .i64 (.var 0) (.lit 24)), (.lit 9), false) :: (true, (.bop .shr .i64 (.var 0) (.lit 24)), (.lit 8), false) :: (true, (.bop .shr .i64 (.var 0) (.lit 24)), (.lit 7), false) :: (true, (.bop .shr .i64 (.var 0) (.lit 24)), (.lit 6), false) :: (true, (.bop .shr .i64 (.var 0) (.lit 24)), (.lit 5), false) :: (true, (.bop .shr .i64 (.var 0) (.lit 24)), (.lit 4), false) :: (true, (.bop .shr .i64 (.var 0) (.lit 24)), (.lit 3), false) :: (true, (.bop .shr .i64 (.var 0) (.lit 24)), (.lit 2), false) :: (true, (.bop .shr .i64 (.var 0) (.lit 24)), (.lit 1), false) :: (true, (.bop .shr .i64 (.var 0) (.lit 24)), (.lit 0), false) :: (false, (.lit 13), (.bop .shr .i64 (.var 0) (.lit 24)), false) :: []) false (.lit 0) (.lit 0) (.lit 0) (.lit 0) (.lit 0) hk (by kernel_rfl) (by kernel_rfl) (by kernel_rfl))
theorem w43 {w : Int} (hw : 0 ≤ w ∧ w ≤ 4294967295) (hk : Known2 (fun _ => w) rgW ((false, (.lit 0), (.bop .and .i64 (.var 0) (.lit 4095)), true) :: (false, (.lit 2), (.bop .and .i64 (.bop .shr .i64 (.var 0) (.lit 20)) (.lit 15)), false) :: (true, (.bop .shr .i64 (.var 0) (.lit 24)), (.lit 11), true) :: (true, (.bop .shr .i64 (.var 0) (.lit 24)), (.lit 10), false) :: (true, (.bop .shr .i64 (.var 0) (.lit 24)), (.lit 9), false) :: (true, (.bop .shr .i64 (.var 0) (.lit 24)), (.lit 8), false) :: (true, (.bop .shr .i64 (.var 0) (.lit 24)), (.lit 7), false) :: (true, (.bop .shr .i64 (.var 0) (.lit 24)), (.lit 6), false) :: (true, (.bop .shr .i64 (.var 0) (.lit 24)), (.lit 5), false) :: (true, (.bop .shr .i64 (.var 0) (.lit 24)), (.lit 4), false) :: (true, (.bop .shr .i64 (.var 0) (.lit 24)), (.lit 3), false) :: (true, (.bop .shr .i64 (.var 0) (.lit 24)), (.lit 2), false) :: (true, (.bop .shr .i64 (.var 0) (.lit 24)), (.lit 1), false) :: (true, (.bop .shr .i64 (.var 0) (.lit 24)), (.lit 0), false) :: (false, (.lit 13), (.bop .shr .i64 (.var 0) (.lit 24)), false) :: [])) : NotW w ∨ IsW w := .inl (read_of ((false, (.lit 0), (.bop .and .i64 (.var 0) (.lit 4095)), true) :: (false, (.lit 2), (.bop .and .i64 (.bop .shr .i64 (.var 0) (.lit 20)) (.lit 15)), false) :: (true, (.bop .shr .i64 (.var 0) (.lit 24)), (.lit 11), true) :: (true, (.bop .shr .i64 (.var 0) (.lit 24)), (.lit 10), false) :: (true, (.bop .shr .i64 (.var 0) (.lit 24)), (.lit 9), false) :: (true, (.bop .shr .i64 (.var 0) (.lit 24)), (.lit 8), false) :: (true, (.bop .shr .i64 (.var 0) (.lit 24)), (.lit 7), false) :: (true, (.bop .shr .i64 (.var 0) (.lit 24)), (.lit 6), false) :: (true, (.bop .shr .i64 (.var 0) (.lit 24)), (.lit 5), false) :: (true, (.bop .shr .i64 (.var 0) (.lit 24)), (.lit 4), false) :: (true, (.bop .shr .i64 (.var 0) (.lit 24)), (.lit 3), false) :: (true, (.bop .shr .i64 (.var 0) (.lit 24)), (.lit 2), false) :: (true, (.bop .shr .i64 (.var 0) (.lit 24)), (.lit 1), false) :: (true, (.bop .shr .i64 (.var 0) (.lit 24)), (.lit 0), false) :: (false, (.lit 13), (.bop .shr .i64 (.var 0) (.lit 24)), false) :: []) false (.lit 0) (.lit 0) (.lit 0) (.lit 0) (.lit 0) hk (by kernel_rfl) (by kernel_rfl) (by kernel_rfl))
theorem w44 {w : Int} (hw : 0 ≤ w ∧ w ≤ 4294967295) (hk : Known2 (fun _ => w) rgW ((false, (.lit 0), (.bop .and .i64 (.var 0) (.lit 4095)), false) :: (false, (.lit 2), (.bop .and .i64 (.bop .shr .i64 (.var 0) (.lit 20)) (.lit 15)), false) :: (true, (.bop .shr .i64 (.var 0) (.lit 24)), (.lit 11), true) :: (true, (.bop .shr .i64 (.var 0) (.lit 24)), (.lit 10), false) :: (true, (.bop .shr .i64 (.var 0) (.lit 24)), (.lit 9), false) :: (true, (.bop .shr .i64 (.var 0) (.lit 24)), (.lit 8), false) :: (true, (.bop .shr .i64 (.var 0) (.lit 24)), (.lit 7), false) :: (true, (.bop .shr .i64 (.var 0) (.lit 24)), (.lit 6), false) :: (true, (.bop .shr .i64 (.var 0) (.lit 24)), (.lit 5), false) :: (true, (.bop .shr .i64 (.var 0) (.lit 24)), (.lit 4), false) :: (true, (.bop .shr .i64 (.var 0) (.lit 24)), (.lit 3), false) :: (true, (.bop .shr .i64 (.var 0) (.lit 24)), (.lit 2), false) :: (true, (.bop .shr .i64 (.var 0) (.lit 24)), (.lit 1), false) :: (true, (.bop .shr .i64 (.var 0) (.lit 24)), (.lit 0), false) :: (false, (.lit 13), (.bop .shr .i64 (.var 0) (.lit 24)), false) :: [])) : NotW w ∨ IsW w := by
  have hat := atoms hw
  have f0 : decide ((0 : Int) < E.den (fun _ => w) (.bop .and .i64 (.var 0) (.lit 4095))) = false := hk.facts _ _ _ _ List.mem_cons_self
  rw [hat.2.2.2.2, decide_eq_false_iff_not] at f0
  have f1 : decide ((2 : Int) < E.den (fun _ => w) (.bop .and .i64 (.bop .shr .i64 (.var 0) (.lit 20)) (.lit 15))) = false := hk.facts _ _ _ _ (List.mem_cons_of_mem _ List.mem_cons_self)
  rw [hat.2.1, decide_eq_false_iff_not] at f1
  have f2 : decide (E.den (fun _ => w) (.bop .shr .i64 (.var 0) (.lit 24)) = (11 : Int)) = true := hk.facts _ _ _ _ (List.mem_cons_of_mem _ (List.mem_cons_of_mem _ List.mem_cons_self))
  rw [hat.1, decide_eq_true_iff] at f2
  refine .inr (Or.inr (Or.inr (Or.inr (Or.inr (Or.inr (Or.inr (Or.inr (Or.inr (Or.inr (Or.inr (Or.inl ⟨w / 1048576 % 16, w / 65536 % 16, w / 4096 % 16, w % 4096, ?_, ?_⟩)))))))))))
  · show w = 11 * 16777216 + _ * 1048576 + _ * 65536 + _ * 4096 + _
    omega
  · exact ⟨by omega, by omega, by omega, by omega⟩
theorem w45 {w : Int} (hw : 0 ≤ w ∧ w ≤ 4294967295) (hk : Known2 (fun _ => w) rgW ((false, (.lit 0), (.bop .and .i64 (.var 0) (.lit 4095)), true) :: (true, (.bop .shr .i64 (.var 0) (.lit 24)), (.lit 12), true) :: (true, (.bop .shr .i64 (.var 0) (.lit 24)), (.lit 11), false) :: (true, (.bop .shr .i64 (.var 0) (.lit 24)), (.lit 10), false) :: (true, (.bop .shr .i64 (.var 0) (.lit 24)), (.lit 9), false) :: (true, (.bop .shr .i64 (.var 0) (.lit 24)), (.lit 8), false) :: (true, (.bop .shr .i64 (.var 0) (.lit 24)), (.lit 7), false) :: (true, (.bop .shr .i64 (.var 0) (.lit 24)), (.lit 6), false) :: (true, (.bop .shr .i64 (.var 0) (.lit 24)), (.lit 5), false) :: (true, (.bop .shr .i64 (.var 0) (.lit 24)), (.lit 4), false) :: (true, (.bop .shr .i64 (.var 0) (.lit 24)), (.lit 3), false) :: (true, (.bop .shr .i64 (.var 0) (.lit 24)), (.lit 2), false) :: (true, (.bop .shr .i64 (.var 0) (.lit 24)), (.lit 1), false) :: (true, (.bop .shr .i64 (.var 0) (.lit 24)), (.lit 0), false) :: (false, (.lit 13), (.bop .shr .i64 (.var 0) (.lit 24)), false) :: [])) : NotW w ∨ IsW w := .inl (read_of ((false, (.lit 0), (.bop .and .i64 (.var 0) (.lit 4095)), true) :: (true, (.bop .shr .i64 (.var 0) (.lit 24)), (.lit 12), true) :: (true, (.bop .shr .i64 (.var 0) (.lit 24)), (.lit 11), false) :: (true, (.bop .shr .i64 (.var 0) (.lit 24)), (.lit 10), false) :: (true, (.bop .shr .i64 (.var 0) (.lit 24)), (.lit 9), false) :: (true, (.bop .shr .i64 (.var 0) (.lit 24)), (.lit 8), false) :: (true, (.bop .shr .i64 (.var 0) (.lit 24)), (.lit 7), false) :: (true, (.bop .shr .i64 (.var 0) (.lit 24)), (.lit 6), false) :: (true, (.bop .shr .i64 (.var 0) (.lit 24)), (.lit 5), false) :: (true, (.bop .shr .i64 (.var 0) (.lit 24)), (.lit 4), false) :: (true, (.bop .shr .i64 (.var 0) (.lit 24)), (.lit 3), false) :: (true, (.bop .shr .i64 (.var 0) (.lit 24)), (.lit 2), false) :: (true, (.bop .shr .i64 (.var 0) (.lit 24)), (.lit 1), false) :: (true, (.bop .shr .i64 (.var 0) (.lit 24)), (.lit 0), false) :: (false, (.lit 13), (.bop .shr .i64 (.var 0) (.lit 24)), false) :: []) false (.lit 0) (.lit 0) (.lit 0) (.lit 0) (.lit 0) hk (by kernel_rfl) (by kernel_rfl) (by kernel_rfl))
theorem w46 {w : Int} (hw : 0 ≤ w ∧ w ≤ 4294967295) (hk : Known2 (fun _ => w) rgW ((true, (.bop .and .i64 (.bop .shr .i64 (.var 0) (.lit 12)) (.lit 15)), (.lit 0), true) :: (true, (.bop .and .i64 (.bop .shr .i64 (.var 0) (.lit 16)) (.lit 15)), (.lit 0), true) :: (true, (.bop .and .i64 (.bop .shr .i64 (.var 0) (.lit 20)) (.lit 15)), (.lit 0), true) :: (false, (.lit 0), (.bop .and .i64 (.var 0) (.lit 4095)), false) :: (true, (.bop .shr .i64 (.var 0) (.lit 24)), (.lit 12), true) :: (true, (.bop .shr .i64 (.var 0) (.lit 24)), (.lit 11), false) :: (true, (.bop .shr .i64 (.var 0) (.lit 24)), (.lit 10), false) :: (true, (.bop .shr .i64 (.var 0) (.lit 24)), (.lit 9), false) :: (true, (.bop .shr .i64 (.var 0) (.lit 24)), (.lit 8), false) :: (true, (.bop .shr .i64 (.var 0) (.lit 24)), (.lit 7), false) :: (true, (.bop .shr .i64 (.var 0) (.lit 24)), (.lit 6), false) :: (true, (.bop .shr .i64 (.var 0) (.lit 24)), (.lit 5), false) :: (true, (.bop .shr .i64 (.var 0) (.lit 24)), (.lit 4), false) :: (true, (.bop .shr .i64 (.var 0) (.lit 24)), (.lit 3), false) :: (true, (.bop .shr .i64 (.var 0) (.lit 24)), (.lit 2), false) :: (true, (.bop .shr .i64 (.var 0) (.lit 24)), (.lit 1), false) :: (true, (.bop .shr .i64 (.var 0) (.lit 24)), (.lit 0), false) :: (false, (.lit 13), (.bop .shr .i64 (.var 0) (.lit 24)), false) :: [])) : NotW w ∨ IsW w := by
  have hat := atoms hw
  have f0 : decide (E.den (fun _ => w) (.bop .and .i64 (.bop .shr .i64 (.var 0) (.lit 12)) (.lit 15)) = (0 : Int)) = true := hk.facts _ _ _ _ List.mem_cons_self
  rw [hat.2.2.2.1, decide_eq_true_iff] at f0
  have f1 : decide (E.den (fun _ => w) (.bop .and .i64 (.bop .shr .i64 (.var 0) (.lit 16)) (.lit 15)) = (0 : Int)) = true := hk.facts _ _ _ _ (List.mem_cons_of_mem _ List.mem_cons_self)
  rw [hat.2.2.1, decide_eq_true_iff] at f1
  have f2 : decide (E.den (fun _ => w) (.bop .and .i64 (.bop .shr .i64 (.var 0) (.lit 20)) (.lit 15)) = (0 : Int)) = true := hk.facts _ _ _ _ (List.mem_cons_of_mem _ (List.mem_cons_of_mem _ List.mem_cons_self))
  rw [hat.2.1, decide_eq_true_iff] at f2
  have f3 : decide ((0 : Int) < E.den (fun _ => w) (.bop .and .i64 (.var 0) (.lit 4095))) = false := hk.facts _ _ _ _ (List.mem_cons_of_mem _ (List.mem_cons_of_mem _ (List.mem_cons_of_mem _ List.mem_cons_self)))
  rw [hat.2.2.2.2, decide_eq_false_iff_not] at f3
  have f4 : decide (E.den (fun _ => w) (.bop .shr .i64 (.var 0) (.lit 24)) = (12 : Int)) = true := hk.facts _ _ _ _ (List.mem_cons_of_mem _ (List.mem_cons_of_mem _ (List.mem_cons_of_mem _ (List.mem_cons_of_mem _ List.mem_cons_self))))
  rw [hat.1, decide_eq_true_iff] at f4
  refine .inr (Or.inr (Or.inr (Or.inr (Or.inr (Or.inr (Or.inr (Or.inr (Or.inr (Or.inr (Or.inr (Or.inr (Or.inl ⟨w / 1048576 % 16, w / 65536 % 16, w / 4096 % 16, w % 4096, ?_, ?_⟩))))))))))))
  · show w = 12 * 16777216 + _ * 1048576 + _ * 65536 + _ * 4096 + _
    omega
  · exact ⟨by omega, by omega, by omega, by omega⟩
theorem w47 {w : Int} (hw : 0 ≤ w ∧ w ≤ 4294967295) (hk : Known2 (fun _ => w) rgW ((true, (.bop .and .i64 (.bop .shr .i64 (.var 0) (.lit 12)) (.lit 15)), (.lit 0), false) :: (true, (.bop .and .i64 (.bop .shr .i64 (.var 0) (.lit 16)) (.lit 15)), (.lit 0), true) :: (true, (.bop .and .i64 (.bop .shr .i64 (.var 0) (.lit 20)) (.lit 15)), (.lit 0), true) :: (false, (.lit 0), (.bop .and .i64 (.var 0) (.lit 4095)), false) :: (true, (.bop .shr .i64 (.var 0) (.lit 24)), (.lit 12), true) :: (true, (.bop .shr .i64 (.var 0) (.lit 24)), (.lit 11), false) :: (true, (.bop .shr .i64 (.var 0) (.lit 24)), (.lit 10), false) :: (true, (.bop .shr .i64 (.var 0) (.lit 24)), (.lit 9), false) :: (true, (.bop .shr .i64 (.var 0) (.lit 24)), (.lit 8), false) :: (true, (.bop .shr .i64 (.var 0) (.lit 24)), (.lit 7), false) :: (true, (.bop .shr .i64 (.var 0) (.lit 24)), (.lit 6), false) :: (true, (.bop .shr .i64 (.var 0) (.lit 24)), (.lit 5), false) :: (true, (.bop .shr .i64 (.var 0) (.lit 24)), (.lit 4), false) :: (true, (.bop .shr .i64 (.var 0) (.lit 24)), (.lit 3), false) :: (true, (.bop .shr .i64 (.var 0) (.lit 24)), (.lit 2), false) :: (true, (.bop .shr .i64 (.var 0) (.lit 24)), (.lit 1), false) :: (true, (.bop .shr .i64 (.var 0) (.lit 24)), (.lit 0), false) :: (false, (.lit 13), (.bop .shr .i64 (.var 0) (.lit 24)), false) :: [])) : NotW w ∨ IsW w := .inl (read_of ((true, (.bop .and .i64 (.bop .shr .i64 (.var 0) (.lit 12)) (.lit 15)), (.lit 0), false) :: (true, (.bop .and .i64 (.bop .shr .i64 (.var 0) (.lit 16)) (.lit 15)), (.lit 0), true) :: (true, (.bop .and .i64 (.bop .shr .i64 (.var 0) (.lit 20)) (.lit 15)), (.lit 0), true) :: (false, (.lit 0), (.bop .and .i64 (.var 0) (.lit 4095)), false) :: (true, (.bop .shr .i64 (.var 0) (.lit 24)), (.lit 12), true) :: (true, (.bop .shr .i64 (.var 0) (.lit 24)), (.lit 11), false) :: (true, (.bop .shr .i64 (.var 0) (.lit 24)), (.lit 10), false) :: (true, (.bop .shr .i64 (.var 0) (.lit 24)), (.lit 9), false) :: (true, (.bop .shr .i64 (.var 0) (.lit 24)), (.lit 8), false) :: (true, (.bop .shr .i64 (.var 0) (.lit 24)), (.lit 7), false) :: (true, (.bop .shr .i64 (.var 0) (.lit 24)), (.lit 6), false) :: (true, (.bop .shr .i64 (.var 0) (.lit 24)), (.lit 5), false) :: (true, (.bop .shr .i64 (.var 0) (.lit 24)), (.lit 4), false) :: (true, (.bop .shr .i64 (.var 0) (.lit 24)), (.lit 3), false) :: (true, (.bop .shr .i64 (.var 0) (.lit 24)), (.lit 2), false) :: (true, (.bop .shr .i64 (.var 0) (.lit 24)), (.lit 1), false) :: (true, (.bop .shr .i64 (.var 0) (.lit 24)), (.lit 0), false) :: (false, (.lit 13), (.bop .shr .i64 (.var 0) (.lit 24)), false) :: []) false (.lit 0) (.lit 0) (.lit 0) (.lit 0) (.lit 0) hk (by kernel_rfl) (by kernel_rfl) (by kernel_rfl))
theorem w48 {w : Int} (hw : 0 ≤ w ∧ w ≤ 4294967295) (hk : Known2 (fun _ => w) rgW ((true, (.bop .and .i64 (.bop .shr .i64 (.var 0) (.lit 16)) (.lit 15)), (.lit 0), false) :: (true, (.bop .and .i64 (.bop .shr .i64 (.var 0) (.lit 20)) (.lit 15)), (.lit 0), true) :: (false, (.lit 0), (.bop .and .i64 (.var 0) (.lit 4095)), false) :: (true, (.bop .shr .i64 (.var 0) (.lit 24)), (.lit 12), true) :: (true, (.bop .shr .i64 (.var 0) (.lit 24)), (.lit 11), false) :: (true, (.bop .shr .i64 (.var 0) (.lit 24)), (.lit 10), false) :: (true, (.bop .shr .i64 (.var 0) (.lit 24)), (.lit 9), false) :: (true, (.bop .shr .i64 (.var 0) (.lit 24)), (.lit 8), false) :: (true, (.bop .shr .i64 (.var 0) (.lit 24)), (.lit 7), false) :: (true, (.bop .shr .i64 (.var 0) (.lit 24)), (.lit 6), false) :: (true, (.bop .shr .i64 (.var 0) (.lit 24)), (.lit 5), false) :: (true, (.bop .shr .i64 (.var 0) (.lit 24)), (.lit 4), false) :: (true, (.bop .shr .i64 (.var 0) (.lit 24)), (.lit 3), false) :: (true, (.bop .shr .i64 (.var 0) (.lit 24)), (.lit 2), false) :: (true, (.bop .shr .i64 (.var 0) (.lit 24)), (.lit 1), false) :: (true, (.bop .shr .i64 (.var 0) (.lit 24)), (.lit 0), false) :: (false, (.lit 13), (.bop .shr .i64 (.var 0) (.lit 24)), false) :: [])) : NotW w ∨ IsW w := .inl (read_of ((true, (.bop .and .i64 (.bop .shr .i64 (.var 0) (.lit 16)) (.lit 15)), (.lit 0), false) :: (true, (.bop .and .i64 (.bop .shr .i64 (.var 0) (.lit 20)) (.lit 15)), (.lit 0), true) :: (false, (.lit 0), (.bop .and .i64 (.var 0) (.lit 4095)), false) :: (true, (.bop .shr .i64 (.var 0) (.lit 24)), (.lit 12), true) :: (true, (.bop .shr .i64 (.var 0) (.lit 24)), (.lit 11), false) :: (true, (.bop .shr .i64 (.var 0) (.lit 24)), (.lit 10), false) :: (true, (.bop .shr .i64 (.var 0) (.lit 24)), (.lit 9), false) :: (true, (.bop .shr .i64 (.var 0) (.lit 24)), (.lit 8), false) :: (true, (.bop .shr .i64 (.var 0) (.lit 24)), (.lit 7), false) :: (true, (.bop .shr .i64 (.var 0) (.lit 24)), (.lit 6), false) :: (true, (.bop .shr .i64 (.var 0) (.lit 24)), (.lit 5), false) :: (true, (.bop .shr .i64 (.var 0) (.lit 24)), (.lit 4), false) :: (true, (.bop .shr .i64 (.var 0) (.lit 24)), (.lit 3), false) :: (true, (.bop .shr .i64 (.var 0) (.lit 24)), (.lit 2), false) :: (true, (.bop .shr .i64 (.var 0) (.lit 24)), (.lit 1), false) :: (true, (.bop .shr .i64 (.var 0) (.lit 24)), (.lit 0), false) :: (false, (.lit 13), (.bop .shr .i64 (.var 0) (.lit 24)), false) :: []) false (.lit 0) (.lit 0) (.lit 0) (.lit 0) (.lit 0) hk (by kernel_rfl) (by kernel_rfl) (by kernel_rfl))
theorem w49 {w : Int} (hw : 0 ≤ w ∧ w ≤ 4294967295) (hk : Known2 (fun _ => w) rgW ((true, (.bop .and .i64 (.bop .shr .i64 (.var 0) (.lit 20)) (.lit 15)), (.lit 0), false) :: (false, (.lit 0), (.bop .and .i64 (.var 0) (.lit 4095)), false) :: (true, (.bop .shr .i64 (.var 0) (.lit 24)), (.lit 12), true) :: (true, (.bop .shr .i64 (.var 0) (.lit 24)), (.lit 11), false) :: (true, (.bop .shr .i64 (.var 0) (.lit 24)), (.lit 10), false) :: (true, (.bop .shr .i64 (.var 0) (.lit 24)), (.lit 9), false) :: (true, (.bop .shr .i64 (.var 0) (.lit 24)), (.lit 8), false) :: (true, (.bop .shr .i64 (.var 0) (.lit 24)), (.lit 7), false) :: (true, (.bop .shr .i64 (.var 0) (.lit 24)), (.lit 6), false) :: (true, (.bop .shr .i64 (.var 0) (.lit 24)), (.lit 5), false) :: (true, (.bop .shr .i64 (.var 0) (.lit 24)), (.lit 4), false) :: (true, (.bop .shr .i64 (.var 0) (.lit 24)), (.lit 3), false) :: (true, (.bop .shr .i64 (.var 0) (.lit 24)), (.lit 2), false) :: (true, (.bop .shr .i64 (.var 0) (.lit 24)), (.lit 1), false) :: (true, (.bop .shr .i64 (.var 0) (.lit 24)), (.lit 0), false) :: (false, (.lit 13), (.bop .shr .i64 (.var 0) (.lit 24)), false) :: [])) : NotW w ∨ IsW w := .inl (read_of ((true, (.bop .and .i64 (.bop .shr .i64 (.var 0) (.lit 20)) (.lit 15)), (.lit 0), false) :: (false, (.lit 0), (.bop .and .i64 (.var 0) (.lit 4095)), false) :: (true, (.bop .shr .i64 (.var 0) (.lit 24)), (.lit 12), true) :: (true, (.bop .shr .i64 (.var 0) (.lit 24)), (.lit 11), false) :: (true, (.bop .shr .i64 (.var 0) (.lit 24)), (.lit 10), false) :: (true, (.bop .shr .i64 (.var 0) (.lit 24)), (.lit 9), false) :: (true, (.bop .shr .i64 (.var 0) (.lit 24)), (.lit 8), false) :: (true, (.bop .shr .i64 (.var 0) (.lit 24)), (.lit 7), false) :: (true, (.bop .shr .i64 (.var 0) (.lit 24)), (.lit 6), false) :: (true, (.bop .shr .i64 (.var 0) (.lit 24)), (.lit 5), false) :: (true, (.bop .shr .i64 (.var 0) (.lit 24)), (.lit 4), false) :: (true, (.bop .shr .i64 (.var 0) (.lit 24)), (.lit 3), false) :: (true, (.bop .shr .i64 (.var 0) (.lit 24)), (.lit 2), false) :: (true, (.bop .shr .i64 (.var 0) (.lit 24)), (.lit 1), false) :: (true, (.bop .shr .i64 (.var 0) (.lit 24)), (.lit 0), false) :: (false, (.lit 13), (.bop .shr .i64 (.var 0) (.lit 24)), false) :: []) false (.lit 0) (.lit 0) (.lit 0) (.lit 0) (.lit 0) hk (by kernel_rfl) (by kernel_rfl) (by kernel_rfl))
theorem w50 {w : Int} (hw : 0 ≤ w ∧ w ≤ 4294967295) (hk : Known2 (fun _ => w) rgW ((false, (.lit 0), (.bop .and .i64 (.var 0) (.lit 4095)), true) :: (true, (.bop .shr .i64 (.var 0) (.lit 24)), (.lit 13), true) :: (true, (.bop .shr .i64 (.var 0) (.lit 24)), (.lit 12), false) :: (true, (.bop .shr .i64 (.var 0) (.lit 24)), (.lit 11), false) :: (true, (.bop .shr .i64 (.var 0) (.lit 24)), (.lit 10), false) :: (true, (.bop .shr .i64 (.var 0) (.lit 24)), (.lit 9), false) :: (true, (.bop .shr .i64 (.var 0) (.lit 24)), (.lit 8), false) :: (true, (.bop .shr .i64 (.var 0) (.lit 24)), (.lit 7), false) :: (true, (.bop .shr .i64 (.var 0) (.lit 24)), (.lit 6), false) :: (true, (.bop .shr .i64 (.var 0) (.lit 24)), (.lit 5), false) :: (true, (.bop .shr .i64 (.var 0) (.lit 24)), (.lit 4), false) :: (true, (.bop .shr .i64 (.var 0) (.lit 24)), (.lit 3), false) :: (true, (.bop .shr .i64 (.var 0) (.lit 24)), (.lit 2), false) :: (true, (.bop .shr .i64 (.var 0) (.lit 24)), (.lit 1), false) :: (true, (.bop .shr .i64 (.var 0) (.lit 24)), (.lit 0), false) :: (false, (.lit 13), (.bop .shr .i64 (.var 0) (.lit 24)), false) :: [])) : NotW w ∨ IsW w := .inl (read_of ((false, (.lit 0), (.bop .and .i64 (.var 0) (.lit 4095)), true) :: (true, (.bop .shr .i64 (.var 0) (.lit 24)), (.lit 13), true) :: (true, (.bop .shr .i64 (.var 0) (.lit 24)), (.lit 12), false) :: (true, (.bop .shr .i64 (.var 0) (.lit 24)), (.lit 11), false) :: (true, (.bop .shr .i64 (.var 0) (.lit 24)), (.lit 10), false) :: (true, (.bop .shr .i64 (.var 0) (.lit 24)), (.lit 9), false) :: (true, (.bop .shr .i64 (.var 0) (.lit 24)), (.lit 8), false) :: (true, (.bop .shr .i64 (.var 0) (.lit 24)), (.lit 7), false) :: (true, (.bop .shr .i64 (.var 0) (.lit 24)), (.lit 6), false) :: (true, (.bop .shr .i64 (.var 0) (.lit 24)), (.lit 5), false) :: (true, (.bop .shr .i64 (.var 0) (.lit 24)), (.lit 4), false) :: (true, (.bop .shr .i64 (.var 0) (.lit 24)), (.lit 3), false) :: (true, (.bop .shr .i64 (.var 0) (.lit 24)), (.lit 2), false) :: (true, (.bop .shr .i64 (.var 0) (.lit 24)), (.lit 1), false) :: (true, (.bop .shr .i64 (.var 0) (.lit 24)), (.lit 0), false) :: (false, (.lit 13), (.bop .shr .i64 (.var 0) (.lit 24)), false) :: []) false (.lit 0) (.lit 0) (.lit 0) (.lit 0) (.lit 0) hk (by kernel_rfl) (by kernel_rfl) (by kernel_rfl))
theorem w51 {w : Int} (hw : 0 ≤ w ∧ w ≤ 4294967295) (hk : Known2 (fun _ => w) rgW ((true, (.bop .and .i64 (.bop .shr .i64 (.var 0) (.lit 12)) (.lit 15)), (.lit 0), true) :: (true, (.bop .and .i64 (.bop .shr .i64 (.var 0) (.lit 16)) (.lit 15)), (.lit 0), true) :: (true, (.bop .and .i64 (.bop .shr .i64 (.var 0) (.lit 20)) (.lit 15)), (.lit 0), true) :: (false, (.lit 0), (.bop .and .i64 (.var 0) (.lit 4095)), false) :: (true, (.bop .shr .i64 (.var 0) (.lit 24)), (.lit 13), true) :: (true, (.bop .shr .i64 (.var 0) (.lit 24)), (.lit 12), false) :: (true, (.bop .shr .i64 (.var 0) (.lit 24)), (.lit 11), false) :: (true, (.bop .shr .i64 (.var 0) (.lit 24)), (.lit 10), false) :: (true, (.bop .shr .i64 (.var 0) (.lit 24)), (.lit 9), false) :: (true, (.bop .shr .i64 (.var 0) (.lit 24)), (.lit 8), false) :: (true, (.bop .shr .i64 (.var 0) (.lit 24)), (.lit 7), false) :: (true, (.bop .shr .i64 (.var 0) (.lit 24)), (.lit 6), false) :: (true, (.bop .shr .i64 (.var 0) (.lit 24)), (.lit 5), false) :: (true, (.bop .shr .i64 (.var 0) (.lit 24)), (.lit 4), false) :: (true, (.bop .shr .i64 (.var 0) (.lit 24)), (.lit 3), false) :: (true, (.bop .shr .i64 (.var 0) (.lit 24)), (.lit 2), false) :: (true, (.bop .shr .i64 (.var 0) (.lit 24)), (.lit 1), false) :: (true, (.bop .shr .i64 (.var 0) (.lit 24)), (.lit 0), false) :: (false, (.lit 13), (.bop .shr .i64 (.var 0) (.lit 24)), false) :: [])) : NotW w ∨ IsW w := by
  have hat := atoms hw
  have f0 : decide (E.den (fun _ => w) (.bop .and .i64 (.bop .shr .i64 (.var 0) (.lit 12)) (.lit 15)) = (0 : Int)) = true := hk.facts _ _ _ _ List.mem_cons_self
  rw [hat.2.2.2.1, decide_eq_true_iff] at f0
  have f1 : decide (E.den (fun _ => w) (.bop .and .i64 (.bop .shr .i64 (.var 0) (.lit 16)) (.lit 15)) = (0 : Int)) = true := hk.facts _ _ _ _ (List.mem_cons_of_mem _ List.mem_cons_self)
  rw [hat.2.2.1, decide_eq_true_iff] at f1
  have f2 : decide (E.den (fun _ => w) (.bop .and .i64 (.bop .shr .i64 (.var 0) (.lit 20)) (.lit 15)) = (0 : Int)) = true := hk.facts _ _ _ _ (List.mem_cons_of_mem _ (List.mem_cons_of_mem _ List.mem_cons_self))
  rw [hat.2.1, decide_eq_true_iff] at f2
  have f3 : decide ((0 : Int) < E.den (fun _ => w) (.bop .and .i64 (.var 0) (.lit 4095))) = false := hk.facts _ _ _ _ (List.mem_cons_of_mem _ (List.mem_cons_of_mem _ (List.mem_cons_of_mem _ List.mem_cons_self)))
  rw [hat.2.2.2.2, decide_eq_false_iff_not] at f3
  have f4 : decide (E.den (fun _ => w) (.bop .shr .i64 (.var 0) (.lit 24)) = (13 : Int)) = true := hk.facts _ _ _ _ (List.mem_cons_of_mem _ (List.mem_cons_of_mem _ (List.mem_cons_of_mem _ (List.mem_cons_of_mem _ List.mem_cons_self))))
  rw [hat.1, decide_eq_true_iff] at f4
  refine .inr (Or.inr (Or.inr (Or.inr (Or.inr (Or.inr (Or.inr (Or.inr (Or.inr (Or.inr (Or.inr (Or.inr (Or.inr (⟨w / 1048576 % 16, w / 65536 % 16, w / 4096 % 16, w % 4096, ?_, ?_⟩)))))))))))))
  · show w = 13 * 16777216 + _ * 1048576 + _ * 65536 + _ * 4096 + _
    omega
  · exact ⟨by omega, by omega, by omega, by omega⟩
theorem w52 {w : Int} (hw : 0 ≤ w ∧ w ≤ 4294967295) (hk : Known2 (fun _ => w) rgW ((true, (.bop .and .i64 (.bop .shr .i64 (.var 0) (.lit 12)) (.lit 15)), (.lit 0), false) :: (true, (.bop .and .i64 (.bop .shr .i64 (.var 0) (.lit 16)) (.lit 15)), (.lit 0), true) :: (true, (.bop .and .i64 (.bop .shr .i64 (.var 0) (.lit 20)) (.lit 15)), (.lit 0), true) :: (false, (.lit 0), (.bop .and .i64 (.var 0) (.lit 4095)), false) :: (true, (.bop .shr .i64 (.var 0) (.lit 24)), (.lit 13), true) :: (true, (.bop .shr .i64 (.var 0) (.lit 24)), (.lit 12), false) :: (true, (.bop .shr .i64 (.var 0) (.lit 24)), (.lit 11), false) :: (true, (.bop .shr .i64 (.var 0) (.lit 24)), (.lit 10), false) :: (true, (.bop .shr .i64 (.var 0) (.lit 24)), (.lit 9), false) :: (true, (.bop .shr .i64 (.var 0) (.lit 24)), (.lit 8), false) :: (true, (.bop .shr .i64 (.var 0) (.lit 24)), (.lit 7), false) :: (true, (.bop .shr .i64 (.var 0) (.lit 24)), (.lit 6), false) :: (true, (.bop .shr .i64 (.var 0) (.lit 24)), (.lit 5), false) :: (true, (.bop .shr .i64 (.var 0) (.lit 24)), (.lit 4), false) :: (true, (.bop .shr .i64 (.var 0) (.lit 24)), (.lit 3), false) :: (true, (.bop .shr .i64 (.var 0) (.lit 24)), (.lit 2), false) :: (true, (.bop .shr .i64 (.var 0) (.lit 24)), (.lit 1), false) :: (true, (.bop .shr .i64 (.var 0) (.lit 24)), (.lit 0), false) :: (false, (.lit 13), (.bop .shr .i64 (.var 0) (.lit 24)), false) :: [])) : NotW w ∨ IsW w := .inl (read_of ((true, (.bop .and .i64 (.bop .shr .i64 (.var 0) (.lit 12)) (.lit 15)), (.lit 0), false) :: (true, (.bop .and .i64 (.bop .shr .i64 (.var 0) (.lit 16)) (.lit 15)), (.lit 0), true) :: (true, (.bop .and .i64 (.bop .shr .i64 (.var 0) (.lit 20)) (.lit 15)), (.lit 0), true) :: (false, (.lit 0), (.bop .and .i64 (.var 0) (.lit 4095)), false) :: (true, (.bop .shr .i64 (.var 0) (.lit 24)), (.lit 13), true) :: (true, (.bop .shr .i64 (.var 0) (.lit 24)), (.lit 12), false) :: (true, (.bop .shr .i64 (.var 0) (.lit 24)), (.lit 11), false) :: (true, (.bop .shr .i64 (.var 0) (.lit 24)), (.lit 10), false) :: (true, (.bop .shr .i64 (.var 0) (.lit 24)), (.lit 9), false) :: (true, (.bop .shr .i64 (.var 0) (.lit 24)), (.lit 8), false) :: (true, (.bop .shr .i64 (.var 0) (.lit 24)), (.lit 7), false) :: (true, (.bop .shr .i64 (.var 0) (.lit 24)), (.lit 6), false) :: (true, (.bop .shr .i64 (.var 0) (.lit 24)), (.lit 5), false) :: (true, (.bop .shr .i64 (.var 0) (.lit 24)), (.lit 4), false) :: (true, (.bop .shr .i64 (.var 0) (.lit 24)), (.lit 3), false) :: (true, (.bop .shr .i64 (.var 0) (.lit 24)), (.lit 2), false) :: (true, (.bop .shr .i64 (.var 0) (.lit 24)), (.lit 1), false) :: (true, (.bop .shr .i64 (.var 0) (.lit 24)), (.lit 0), false) :: (false, (.lit 13), (.bop .shr .i64 (.var 0) (.lit 24)), false) :: []) false (.lit 0) (.lit 0) (.lit 0) (.lit 0) (.lit 0) hk (by kernel_rfl) (by kernel_rfl) (by kernel_rfl))
theorem w53 {w : Int} (hw : 0 ≤ w ∧ w ≤ 4294967295) (hk : Known2 (fun _ => w) rgW ((true, (.bop .and .i64 (.bop .shr .i64 (.var 0) (.lit 16)) (.lit 15)), (.lit 0), false) :: (true, (.bop .and .i64 (.bop .shr .i64 (.var 0) (.lit 20)) (.lit 15)), (.lit 0), true) :: (false, (.lit 0), (.bop .and .i64 (.var 0) (.lit 4095)), false) :: (true, (.bop .shr .i64 (.var 0) (.lit 24)), (.lit 13), true) :: (true, (.bop .shr .i64 (.var 0) (.lit 24)), (.lit 12), false) :: (true, (.bop .shr .i64 (.var 0) (.lit 24)), (.lit 11), false) :: (true, (.bop .shr .i64 (.var 0) (.lit 24)), (.lit 10), false) :: (true, (.bop .shr .i64 (.var 0) (.lit 24)), (.lit 9), false) :: (true, (.bop .shr .i64 (.var 0) (.lit 24)), (.lit 8), false) :: (true, (.bop .shr .i64 (.var 0) (.lit 24)), (.lit 7), false) :: (true, (.bop .shr .i64 (.var 0) (.lit 24)), (.lit 6), false) :: (true, (.bop .shr .i64 (.var 0) (.lit 24)), (.lit 5), false) :: (true, (.bop .shr .i64 (.var 0) (.lit 24)), (.lit 4), false) :: (true, (.bop .shr .i64 (.var 0) (.lit 24)), (.lit 3), false) :: (true, (.bop .shr .i64 (.var 0) (.lit 24)), (.lit 2), false) :: (true, (.bop .shr .i64 (.var 0) (.lit 24)), (.lit 1), false) :: (true, (.bop .shr .i64 (.var 0) (.lit 24)), (.lit 0), false) :: (false, (.lit 13), (.bop .shr .i64 (.var 0) (.lit 24)), false) :: [])) : NotW w ∨ IsW w := .inl (read_of ((true, (.bop .and .i64 (.bop .shr .i64 (.var 0) (.lit 16)) (.lit 15)), (.lit 0), false) :: (true, (.bop .and .i64 (.bop .shr .i64 (.var 0) (.lit 20)) (.lit 15)), (.lit 0), true) :: (false, (.lit 0), (.bop .and .i64 (.var 0) (.lit 4095)), false) :: (true, (.bop .shr .i64 (.var 0) (.lit 24)), (.lit 13), true) :: (true, (.bop .shr .i64 (.var 0) (.lit 24)), (.lit 12), false) :: (true, (.bop .shr .i64 (.var 0) (.lit 24)), (.lit 11), false) :: (true, (.bop .shr .i64 (.var 0) (.lit 24)), (.lit 10), false) :: (true, (.bop .shr .i64 (.var 0) (.lit 24)), (.lit 9), false) :: (true, (.bop .shr .i64 (.var 0) (.lit 24)), (.lit 8), false) :: (true, (.bop .shr .i64 (.var 0) (.lit 24)), (.lit 7), false) :: (true, (.bop .shr .i64 (.var 0) (.lit 24)), (.lit 6), false) :: (true, (.bop .shr .i64 (.var 0) (.lit 24)), (.lit 5), false) :: (true, (.bop .shr .i64 (.var 0) (.lit 24)), (.lit 4), false) :: (true, (.bop .shr .i64 (.var 0) (.lit 24)), (.lit 3), false) :: (true, (.bop .shr .i64 (.var 0) (.lit 24)), (.lit 2), false) :: (true, (.bop .shr .i64 (.var 0) (.lit 24)), (.lit 1), false) :: (true, (.bop .shr .i64 (.var 0) (.lit 24)), (.lit 0), false) :: (false, (.lit 13), (.bop .shr .i64 (.var 0) (.lit 24)), false) :: []) false (.lit 0) (.lit 0) (.lit 0) (.lit 0) (.lit 0) hk (by kernel_rfl) (by kernel_rfl) (by kernel_rfl))
theorem w54 {w : Int} (hw : 0 ≤ w ∧ w ≤ 4294967295) (hk : Known2 (fun _ => w) rgW ((true, (.bop .and .i64 (.bop .shr .i64 (.var 0) (.lit 20)) (.lit 15)), (.lit 0), false) :: (false, (.lit 0), (.bop .and .i64 (.var 0) (.lit 4095)), false) :: (true, (.bop .shr .i64 (.var 0) (.lit 24)), (.lit 13), true) :: (true, (.bop .shr .i64 (.var 0) (.lit 24)), (.lit 12), false) :: (true, (.bop .shr .i64 (.var 0) (.lit 24)), (.lit 11), false) :: (true, (.bop .shr .i64 (.var 0) (.lit 24)), (.lit 10), false) :: (true, (.bop .shr .i64 (.var 0) (.lit 24)), (.lit 9), false) :: (true, (.bop .shr .i64 (.var 0) (.lit 24)), (.lit 8), false) :: (true, (.bop .shr .i64 (.var 0) (.lit 24)), (.lit 7), false) :: (true, (.bop .shr .i64 (.var 0) (.lit 24)), (.lit 6), false) :: (true, (.bop .shr .i64 (.var 0) (.lit 24)), (.lit 5), false) :: (true, (.bop .shr .i64 (.var 0) (.lit 24)), (.lit 4), false) :: (true, (.bop .shr .i64 (.var 0) (.lit 24)), (.lit 3), false) :: (true, (.bop .shr .i64 (.var 0) (.lit 24)), (.lit 2), false) :: (true, (.bop .shr .i64 (.var 0) (.lit 24)), (.lit 1), false) :: (true, (.bop .shr .i64 (.var 0) (.lit 24)), (.lit 0), false) :: (false, (.lit 13), (.bop .shr .i64 (.var 0) (.lit 24)), false) :: [])) : NotW w ∨ IsW w := .inl (read_of ((true, (.bop .and .i64 (.bop .shr .i64 (.var 0) (.lit 20)) (.lit 15)), (.lit 0), false) :: (false, (.lit 0), (.bop .and .i64 (.var 0) (.lit 4095)), false) :: (true, (.bop .shr .i64 (.var 0) (.lit 24)), (.lit 13), true) :: (true, (.bop .shr .i64 (.var 0) (.lit 24)), (.lit 12), false) :: (true, (.bop .shr .i64 (.var 0) (.lit 24)), (.lit 11), false) :: (true, (.bop .shr .i64 (.var 0) (.lit 24)), (.lit 10), false) :: (true, (.bop .shr .i64 (.var 0) (.lit 24)), (.lit 9), false) :: (true, (.bop .shr .i64 (.var 0) (.lit 24)), (.lit 8), false) :: (true, (.bop .shr .i64 (.var 0) (.lit 24)), (.lit 7), false) :: (true, (.bop .shr .i64 (.var 0) (.lit 24)), (.lit 6), false) :: (true, (.bop .shr .i64 (.var 0) (.lit 24)), (.lit 5), false) :: (true, (.bop .shr .i64 (.var 0) (.lit 24)), (.lit 4), false) :: (true, (.bop .shr .i64 (.var 0) (.lit 24)), (.lit 3), false) :: (true, (.bop .shr .i64 (.var 0) (.lit 24)), (.lit 2), false) :: (true, (.bop .shr .i64 (.var 0) (.lit 24)), (.lit 1), false) :: (true, (.bop .shr .i64 (.var 0) (.lit 24)), (.lit 0), false) :: (false, (.lit 13), (.bop .shr .i64 (.var 0) (.lit 24)), false) :: []) false (.lit 0) (.lit 0) (.lit 0) (.lit 0) (.lit 0) hk (by kernel_rfl) (by kernel_rfl) (by kernel_rfl))
theorem w_all {w : Int} (hw : 0 ≤ w ∧ w ≤ 4294967295) : NotW w ∨ IsW w := by
  have hk : Known2 (fun _ => w) rgW [] := ⟨fun i lo hi hr => by
    rcases i with _ | i
    · simp at hr; obtain ⟨rfl, rfl⟩ := hr; exact hw
    · simp at hr, fun q a b t hm => by cases hm⟩
  exact hk.by_ false (.lit 13) (.bop .shr .i64 (.var 0) (.lit 24)) (fun hk => w0 hw hk) (fun hk => hk.by_ true (.bop .shr .i64 (.var 0) (.lit 24)) (.lit 0) (fun hk => w1 hw hk) (fun hk => hk.by_ true (.bop .shr .i64 (.var 0) (.lit 24)) (.lit 1) (fun hk => hk.by_ false (.bop .and .i64 (.bop .shr .i64 (.var 0) (.lit 20)) (.lit 15)) (.lit 8) (fun hk => hk.by_ true (.bop .and .i64 (.bop .shr .i64 (.var 0) (.lit 16)) (.lit 15)) (.lit 0) (fun hk => hk.by_ true (.bop .and .i64 (.bop .shr .i64 (.var 0) (.lit 12)) (.lit 15)) (.lit 0) (fun hk => w2 hw hk) (fun hk => w3 hw hk)) (fun hk => w4 hw hk)) (fun hk => w5 hw hk)) (fun hk => hk.by_ true (.bop .shr .i64 (.var 0) (.lit 24)) (.lit 2) (fun hk => hk.by_ false (.bop .and .i64 (.bop .shr .i64 (.var 0) (.lit 20)) (.lit 15)) (.lit 8) (fun hk => hk.by_ true (.bop .and .i64 (.bop .shr .i64 (.var 0) (.lit 16)) (.lit 15)) (.lit 0) (fun hk => hk.by_ true (.bop .and .i64 (.bop .shr .i64 (.var 0) (.lit 12)) (.lit 15)) (.lit 0) (fun hk => w6 hw hk) (fun hk => w7 hw hk)) (fun hk => w8 hw hk)) (fun hk => w9 hw hk)) (fun hk => hk.by_ true (.bop .shr .i64 (.var 0) (.lit 24)) (.lit 3) (fun hk => hk.by_ false (.bop .and .i64 (.bop .shr .i64 (.var 0) (.lit 20)) (.lit 15)) (.lit 8) (fun hk => hk.by_ false (.bop .and .i64 (.bop .shr .i64 (.var 0) (.lit 16)) (.lit 15)) (.lit 8) (fun hk => hk.by_ false (.bop .and .i64 (.bop .shr .i64 (.var 0) (.lit 12)) (.lit 15)) (.lit 8) (fun hk => hk.by_ false (.lit 11) (.bop .and .i64 (.var 0) (.lit 4095)) (fun hk => w10 hw hk) (fun hk => w11 hw hk)) (fun hk => w12 hw hk)) (fun hk => w13 hw hk)) (fun hk => w14 hw hk)) (fun hk => hk.by_ true (.bop .shr .i64 (.var 0) (.lit 24)) (.lit 4) (fun hk => hk.by_ true (.bop .and .i64 (.bop .shr .i64 (.var 0) (.lit 20)) (.lit 15)) (.lit 0) (fun hk => hk.by_ true (.bop .and .i64 (.bop .shr .i64 (.var 0) (.lit 16)) (.lit 15)) (.lit 0) (fun hk => hk.by_ true (.bop .and .i64 (.bop .shr .i64 (.var 0) (.lit 12)) (.lit 15)) (.lit 0) (fun hk => w15 hw hk) (fun hk => w16 hw hk)) (fun hk => w17 hw hk)) (fun hk => w18 hw hk)) (fun hk => hk.by_ true (.bop .shr .i64 (.var 0) (.lit 24)) (.lit 5) (fun hk => hk.by_ false (.bop .and .i64 (.bop .shr .i64 (.var 0) (.lit 20)) (.lit 15)) (.lit 8) (fun hk => hk.by_ true (.bop .and .i64 (.bop .shr .i64 (.var 0) (.lit 16)) (.lit 15)) (.lit 0) (fun hk => hk.by_ true (.bop .and .i64 (.bop .shr .i64 (.var 0) (.lit 12)) (.lit 15)) (.lit 0) (fun hk => w19 hw hk) (fun hk => w20 hw hk)) (fun hk => w21 hw hk)) (fun hk => w22 hw hk)) (fun hk => hk.by_ true (.bop .shr .i64 (.var 0) (.lit 24)) (.lit 6) (fun hk => hk.by_ false (.bop .and .i64 (.bop .shr .i64 (.var 0) (.lit 20)) (.lit 15)) (.lit 8) (fun hk => hk.by_ false (.bop .and .i64 (.bop .shr .i64 (.var 0) (.lit 16)) (.lit 15)) (.lit 8) (fun hk => hk.by_ true (.bop .and .i64 (.bop .shr .i64 (.var 0) (.lit 12)) (.lit 15)) (.lit 0) (fun hk => w23 hw hk) (fun hk => w24 hw hk)) (fun hk => w25 hw hk)) (fun hk => w26 hw hk)) (fun hk => hk.by_ true (.bop .shr .i64 (.var 0) (.lit 24)) (.lit 7) (fun hk => hk.by_ false (.bop .and .i64 (.bop .shr .i64 (.var 0) (.lit 20)) (.lit 15)) (.lit 8) (fun hk => hk.by_ false (.bop .and .i64 (.bop .shr .i64 (.var 0) (.lit 16)) (.lit 15)) (.lit 8) (fun hk => hk.by_ true (.bop .and .i64 (.bop .shr .i64 (.var 0) (.lit 12)) (.lit 15)) (.lit 0) (fun hk => w27 hw hk) (fun hk => w28 hw hk)) (fun hk => w29 hw hk)) (fun hk => w30 hw hk)) (fun hk => hk.by_ true (.bop .shr .i64 (.var 0) (.lit 24)) (.lit 8) (fun hk => hk.by_ false (.lit 0) (.bop .and .i64 (.var 0) (.lit 4095)) (fun hk => w31 hw hk) (fun hk => hk.by_ true (.bop .and .i64 (.bop .shr .i64 (.var 0) (.lit 12)) (.lit 15)) (.lit 0) (fun hk => w32 hw hk) (fun hk => w33 hw hk))) (fun hk => hk.by_ true (.bop .shr .i64 (.var 0) (.lit 24)) (.lit 9) (fun hk => hk.by_ false (.bop .and .i64 (.bop .shr .i64 (.var 0) (.lit 16)) (.lit 15)) (.lit 8) (fun hk => hk.by_ false (.lit 0) (.bop .and .i64 (.var 0) (.lit 4095)) (fun hk => w34 hw hk) (fun hk => hk.by_ true (.bop .and .i64 (.bop .shr .i64 (.var 0) (.lit 12)) (.lit 15)) (.lit 0) (fun hk => w35 hw hk) (fun hk => w36 hw hk))) (fun hk => w37 hw hk)) (fun hk => hk.by_ true (.bop .shr .i64 (.var 0) (.lit 24)) (.lit 10) (fun hk => hk.by_ false (.bop .and .i64 (.bop .shr .i64 (.var 0) (.lit 20)) (.lit 15)) (.lit 8) (fun hk => hk.by_ false (.lit 0) (.bop .and .i64 (.var 0) (.lit 4095)) (fun hk => w38 hw hk) (fun hk => hk.by_ true (.bop .and .i64 (.bop .shr .i64 (.var 0) (.lit 12)) (.lit 15)) (.lit 0) (fun hk => w39 hw hk) (fun hk => w40 hw hk))) (fun hk => w41 hw hk)) (fun hk => hk.by_ true (.bop .shr .i64 (.var 0) (.lit 24)) (.lit 11) (fun hk => hk.by_ false (.lit 2) (.bop .and .i64 (.bop .shr .i64 (.var 0) (.lit 20)) (.lit 15)) (fun hk => w42 hw hk) (fun hk => hk.by_ false (.lit 0) (.bop .and .i64 (.var 0) (.lit 4095)) (fun hk => w43 hw hk) (fun hk => w44 hw hk))) (fun hk => hk.by_ true (.bop .shr .i64 (.var 0) (.lit 24)) (.lit 12) (fun hk => hk.by_ false (.lit 0) (.bop .and .i64 (.var 0) (.lit 4095)) (fun hk => w45 hw hk) (fun hk => hk.by_ true (.bop .and .i64 (.bop .shr .i64 (.var 0) (.lit 20)) (.lit 15)) (.lit 0) (fun hk => hk.by_ true (.bop .and .i64 (.bop .shr .i64 (.var 0) (.lit 16)) (.lit 15)) (.lit 0) (fun hk => hk.by_ true (.bop .and .i64 (.bop .shr .i64 (.var 0) (.lit 12)) (.lit 15)) (.lit 0) (fun hk => w46 hw hk) (fun hk => w47 hw hk)) (fun hk => w48 hw hk)) (fun hk => w49 hw hk))) (fun hk => hk.by_ true (.bop .shr .i64 (.var 0) (.lit 24)) (.lit 13) (fun hk => hk.by_ false (.lit 0) (.bop .and .i64 (.var 0) (.lit 4095)) (fun hk => w50 hw hk) (fun hk => hk.by_ true (.bop .and .i64 (.bop .shr .i64 (.var 0) (.lit 20)) (.lit 15)) (.lit 0) (fun hk => hk.by_ true (.bop .and .i64 (.bop .shr .i64 (.var 0) (.lit 16)) (.lit 15)) (.lit 0) (fun hk => hk.by_ true (.bop .and .i64 (.bop .shr .i64 (.var 0) (.lit 12)) (.lit 15)) (.lit 0) (fun hk => w51 hw hk) (fun hk => w52 hw hk)) (fun hk => w53 hw hk)) (fun hk => w54 hw hk))) (fun hk => (isGone_ok (Γ := cxX Tryd.prog bad rgW ((true, (.bop .shr .i64 (.var 0) (.lit 24)), (.lit 13), false) :: (true, (.bop .shr .i64 (.var 0) (.lit 24)), (.lit 12), false) :: (true, (.bop .shr .i64 (.var 0) (.lit 24)), (.lit 11), false) :: (true, (.bop .shr .i64 (.var 0) (.lit 24)), (.lit 10), false) :: (true, (.bop .shr .i64 (.var 0) (.lit 24)), (.lit 9), false) :: (true, (.bop .shr .i64 (.var 0) (.lit 24)), (.lit 8), false) :: (true, (.bop .shr .i64 (.var 0) (.lit 24)), (.lit 7), false) :: (true, (.bop .shr .i64 (.var 0) (.lit 24)), (.lit 6), false) :: (true, (.bop .shr .i64 (.var 0) (.lit 24)), (.lit 5), false) :: (true, (.bop .shr .i64 (.var 0) (.lit 24)), (.lit 4), false) :: (true, (.bop .shr .i64 (.var 0) (.lit 24)), (.lit 3), false) :: (true, (.bop .shr .i64 (.var 0) (.lit 24)), (.lit 2), false) :: (true, (.bop .shr .i64 (.var 0) (.lit 24)), (.lit 1), false) :: (true, (.bop .shr .i64 (.var 0) (.lit 24)), (.lit 0), false) :: (false, (.lit 13), (.bop .shr .i64 (.var 0) (.lit 24)), false) :: []) []) ⟨hk.rng, hk.facts⟩ (e := (.bop .shr .i64 (.var 0) (.lit 24))) (lo := 0) (n := 14) (by kernel_rfl)).elim)))))))))))))))
end Go.Proofs.YtphhnhheedbjjaaDoor.codeBack
