/- codeBack: what comes of an instruction: what is asked. -/
import Derived.Test.YtphhnhheedbjjaaDoorCbW
set_option linter.unusedVariables false
set_option linter.unusedSimpArgs false
set_option maxRecDepth 10000000
namespace Go.Proofs.YtphhnhheedbjjaaDoor.codeBack
open Tk
open Go Go.RowKit
noncomputable def qD (rng : Rg) : Fns := [(25, itoaDFn (cxX Tryd.prog bad rng [] [])), (28, joinDFn), (63, countDFn), (77, indexDFn), (64, cutOf Tryd.prog 3 bad [(63, countDFn), (77, indexDFn)] 1000 20 64)]
theorem qD_ok {σ : Nat → Int} {W0 : World} {rng : Rg} (hL : L0 W0) (hk : Known2 σ rng []) : FnsOk Tryd.prog 3 σ W0 (qD rng) := FnsOk.cons (ext_itoaD hL hk) (FnsOk.cons (ext_join hL) (FnsOk.cons (ext_count hL) (FnsOk.cons (ext_index hL) (FnsOk.cons (ext_cut64 hL) (FnsOk.nil)))))
abbrev At5 (τ : Nat → Int) (o a b c i : Int) : Prop := τ 0 = o ∧ τ 1 = a ∧ τ 2 = b ∧ τ 3 = c ∧ τ 4 = i
noncomputable def vE (r : Nat) : V := .tuple [.int .u32 (.lit 0), .iface 115 (.ptr r 0)]
def ErrIs (r : Nat) (o a b c i : Int) : Prop := ∀ (τ : Nat → Int) (W0 : World), L0 W0 → At5 τ o a b c i → MemoOk Tryd.prog 3 τ W0 8 ⟨mI.args, mI.pre, vE r, mI.post⟩
def WordIs (o a b c i : Int) (X : Int) : Prop := ∀ (τ : Nat → Int) (W0 : World), L0 W0 → At5 τ o a b c i → ∃ u, MemoOk Tryd.prog 3 τ W0 8 ⟨mI.args, mI.pre, u, mI.post⟩ ∧ ∀ ρ x, VR τ ρ u x → x = .tuple #[.int .u32 X, .nilIface]
def TextIs (o a b c i : Int) (s : ByteArray) : Prop := ∀ (τ : Nat → Int) (W0 : World), L0 W0 → At5 τ o a b c i → ∃ u, MemoOk Tryd.prog 3 τ W0 15 ⟨mI.args, mI.pre, u, mI.post⟩ ∧ ∀ ρ x, VR τ ρ u x → x = .string s
theorem memo_args {τ : Nat → Int} {W0 : World} {f : FuncId} {va vb : List V} {h h' : H} {v : V} (ha : ∀ ρ xs, VRs τ ρ va xs → VRs τ ρ vb xs) (hm : MemoOk Tryd.prog 3 τ W0 f ⟨vb, h, v, h'⟩) : MemoOk Tryd.prog 3 τ W0 f ⟨va, h, v, h'⟩ :=
  fun xs ρ W hv R g => hm xs ρ W (ha _ _ hv) R g
theorem mI_args {τ : Nat → Int} {o a b c i : Int} {e0 e1 e2 e3 e4 : E} (ht : At5 τ o a b c i) (h0 : e0.den τ = o) (h1 : e1.den τ = a) (h2 : e2.den τ = b) (h3 : e3.den τ = c) (h4 : e4.den τ = i) : ∀ ρ xs, VRs τ ρ mI.args xs → VRs τ ρ [agE e0 e1 e2 e3 e4] xs := by
  intro ρ xs h
  have h : VRs τ ρ [agE (.var 0) (.var 1) (.var 2) (.var 3) (.var 4)] xs := h
  simp only [VRs] at h ⊢
  obtain ⟨v', l', rfl, hv, rfl⟩ := h
  have := ag5 hv
  simp only [E.den, ht.1, ht.2.1, ht.2.2.1, ht.2.2.2.1, ht.2.2.2.2] at this
  exact ⟨v', _, rfl, by rw [this]; exact vrs_ag h0 h1 h2 h3 h4, rfl⟩
theorem knI {τ : Nat → Int} {a0 b0 a1 b1 a2 b2 a3 b3 a4 b4 o a b c i : Int} (ht : At5 τ o a b c i) (h0 : a0 ≤ o ∧ o ≤ b0) (h1 : a1 ≤ a ∧ a ≤ b1) (h2 : a2 ≤ b ∧ b ≤ b2) (h3 : a3 ≤ c ∧ c ≤ b3) (h4 : a4 ≤ i ∧ i ≤ b4) :
    Known2 τ [(a0, b0), (a1, b1), (a2, b2), (a3, b3), (a4, b4)] [] := by
  obtain ⟨t0, t1, t2, t3, t4⟩ := ht
  refine ⟨fun i lo hi hr => ?_, fun q a b t hm => by cases hm⟩
  rcases i with _ | _ | _ | _ | _ | i
  · simp at hr; obtain ⟨rfl, rfl⟩ := hr; rw [t0]; exact h0
  · simp at hr; obtain ⟨rfl, rfl⟩ := hr; rw [t1]; exact h1
  · simp at hr; obtain ⟨rfl, rfl⟩ := hr; rw [t2]; exact h2
  · simp at hr; obtain ⟨rfl, rfl⟩ := hr; rw [t3]; exact h3
  · simp at hr; obtain ⟨rfl, rfl⟩ := hr; rw [t4]; exact h4
  · simp at hr
def s5 (o a b c i : Int) : Nat → Int := fun j => if j = 0 then o else if j = 1 then a else if j = 2 then b else if j = 3 then c else i
noncomputable def belowP : List Pc → Bool
  | [] => true
  | .b _ :: l => belowP l
  | .d e _ _ :: l => belowE 5 e && belowP l
theorem val_eq {τ : Nat → Int} {o a b c i : Int} (ht : At5 τ o a b c i) : ∀ {ps : List Pc}, belowP ps = true → ps.map (Pc.val τ) = ps.map (Pc.val (s5 o a b c i))
  | [], _ => rfl
  | .b _ :: l, h => by
    have h : belowP l = true := h
    rw [List.map_cons, List.map_cons, val_eq ht h]; rfl
  | .d e k j :: l, h => by
    simp only [belowP, Bool.and_eq_true] at h
    have hc : ∀ j, j < 5 → τ j = s5 o a b c i j := fun j hj => by
      obtain ⟨t0, t1, t2, t3, t4⟩ := ht
      rcases (by omega : j = 0 ∨ j = 1 ∨ j = 2 ∨ j = 3 ∨ j = 4) with rfl | rfl | rfl | rfl | rfl <;> simp [s5, t0, t1, t2, t3, t4]
    rw [List.map_cons, List.map_cons, val_eq ht h.2]
    simp only [Pc.val, den_congr hc h.1]
abbrev Cls := Rg × List Pc
def InRg (r : Rg) (σ : Nat → Int) : Prop := ∀ (j : Nat) lo hi, r[j]? = some (lo, hi) → lo ≤ σ j ∧ σ j ≤ hi
noncomputable def c16 : Cls := ([(1, 1), (0, 7), (0, 0), (0, 0), (0, 9)], [.b 108, .b 105, .b 32, .b 114, .d (.var 1) 1 0, .b 32, .d (.var 4) 1 0])
noncomputable def c17 : Cls := ([(1, 1), (0, 7), (0, 0), (0, 0), (10, 99)], [.b 108, .b 105, .b 32, .b 114, .d (.var 1) 1 0, .b 32, .d (.var 4) 2 0, .d (.var 4) 2 1])
noncomputable def c18 : Cls := ([(1, 1), (0, 7), (0, 0), (0, 0), (100, 999)], [.b 108, .b 105, .b 32, .b 114, .d (.var 1) 1 0, .b 32, .d (.var 4) 3 0, .d (.var 4) 3 1, .d (.var 4) 3 2])
noncomputable def c19 : Cls := ([(1, 1), (0, 7), (0, 0), (0, 0), (1000, 4095)], [.b 108, .b 105, .b 32, .b 114, .d (.var 1) 1 0, .b 32, .d (.var 4) 4 0, .d (.var 4) 4 1, .d (.var 4) 4 2, .d (.var 4) 4 3])
noncomputable def c36 : Cls := ([(2, 2), (0, 7), (0, 0), (0, 0), (0, 9)], [.b 108, .b 105, .b 104, .b 32, .b 114, .d (.var 1) 1 0, .b 32, .d (.var 4) 1 0])
noncomputable def c37 : Cls := ([(2, 2), (0, 7), (0, 0), (0, 0), (10, 99)], [.b 108, .b 105, .b 104, .b 32, .b 114, .d (.var 1) 1 0, .b 32, .d (.var 4) 2 0, .d (.var 4) 2 1])
noncomputable def c38 : Cls := ([(2, 2), (0, 7), (0, 0), (0, 0), (100, 999)], [.b 108, .b 105, .b 104, .b 32, .b 114, .d (.var 1) 1 0, .b 32, .d (.var 4) 3 0, .d (.var 4) 3 1, .d (.var 4) 3 2])
noncomputable def c39 : Cls := ([(2, 2), (0, 7), (0, 0), (0, 0), (1000, 4095)], [.b 108, .b 105, .b 104, .b 32, .b 114, .d (.var 1) 1 0, .b 32, .d (.var 4) 4 0, .d (.var 4) 4 1, .d (.var 4) 4 2, .d (.var 4) 4 3])
noncomputable def c48 : Cls := ([(3, 3), (0, 7), (0, 7), (0, 7), (0, 0)], [.b 97, .b 108, .b 117, .b 32, .b 97, .b 100, .b 100, .b 32, .b 114, .d (.var 1) 1 0, .b 32, .b 114, .d (.var 2) 1 0, .b 32, .b 114, .d (.var 3) 1 0])
noncomputable def c49 : Cls := ([(3, 3), (0, 7), (0, 7), (0, 7), (1, 1)], [.b 97, .b 108, .b 117, .b 32, .b 115, .b 117, .b 98, .b 32, .b 114, .d (.var 1) 1 0, .b 32, .b 114, .d (.var 2) 1 0, .b 32, .b 114, .d (.var 3) 1 0])
noncomputable def c50 : Cls := ([(3, 3), (0, 7), (0, 7), (0, 7), (2, 2)], [.b 97, .b 108, .b 117, .b 32, .b 109, .b 117, .b 108, .b 32, .b 114, .d (.var 1) 1 0, .b 32, .b 114, .d (.var 2) 1 0, .b 32, .b 114, .d (.var 3) 1 0])
noncomputable def c51 : Cls := ([(3, 3), (0, 7), (0, 7), (0, 7), (3, 3)], [.b 97, .b 108, .b 117, .b 32, .b 100, .b 105, .b 118, .b 32, .b 114, .d (.var 1) 1 0, .b 32, .b 114, .d (.var 2) 1 0, .b 32, .b 114, .d (.var 3) 1 0])
noncomputable def c52 : Cls := ([(3, 3), (0, 7), (0, 7), (0, 7), (4, 4)], [.b 97, .b 108, .b 117, .b 32, .b 109, .b 111, .b 100, .b 32, .b 114, .d (.var 1) 1 0, .b 32, .b 114, .d (.var 2) 1 0, .b 32, .b 114, .d (.var 3) 1 0])
noncomputable def c53 : Cls := ([(3, 3), (0, 7), (0, 7), (0, 7), (5, 5)], [.b 97, .b 108, .b 117, .b 32, .b 97, .b 110, .b 100, .b 32, .b 114, .d (.var 1) 1 0, .b 32, .b 114, .d (.var 2) 1 0, .b 32, .b 114, .d (.var 3) 1 0])
noncomputable def c54 : Cls := ([(3, 3), (0, 7), (0, 7), (0, 7), (6, 6)], [.b 97, .b 108, .b 117, .b 32, .b 111, .b 114, .b 32, .b 114, .d (.var 1) 1 0, .b 32, .b 114, .d (.var 2) 1 0, .b 32, .b 114, .d (.var 3) 1 0])
noncomputable def c55 : Cls := ([(3, 3), (0, 7), (0, 7), (0, 7), (7, 7)], [.b 97, .b 108, .b 117, .b 32, .b 120, .b 111, .b 114, .b 32, .b 114, .d (.var 1) 1 0, .b 32, .b 114, .d (.var 2) 1 0, .b 32, .b 114, .d (.var 3) 1 0])
noncomputable def c56 : Cls := ([(3, 3), (0, 7), (0, 7), (0, 7), (8, 8)], [.b 97, .b 108, .b 117, .b 32, .b 115, .b 104, .b 108, .b 32, .b 114, .d (.var 1) 1 0, .b 32, .b 114, .d (.var 2) 1 0, .b 32, .b 114, .d (.var 3) 1 0])
noncomputable def c57 : Cls := ([(3, 3), (0, 7), (0, 7), (0, 7), (9, 9)], [.b 97, .b 108, .b 117, .b 32, .b 115, .b 104, .b 114, .b 32, .b 114, .d (.var 1) 1 0, .b 32, .b 114, .d (.var 2) 1 0, .b 32, .b 114, .d (.var 3) 1 0])
noncomputable def c58 : Cls := ([(3, 3), (0, 7), (0, 7), (0, 7), (10, 10)], [.b 97, .b 108, .b 117, .b 32, .b 108, .b 116, .b 32, .b 114, .d (.var 1) 1 0, .b 32, .b 114, .d (.var 2) 1 0, .b 32, .b 114, .d (.var 3) 1 0])
noncomputable def c59 : Cls := ([(3, 3), (0, 7), (0, 7), (0, 7), (11, 11)], [.b 97, .b 108, .b 117, .b 32, .b 101, .b 113, .b 32, .b 114, .d (.var 1) 1 0, .b 32, .b 114, .d (.var 2) 1 0, .b 32, .b 114, .d (.var 3) 1 0])
noncomputable def c80 : Cls := ([(4, 4), (0, 0), (0, 0), (0, 0), (0, 9)], [.b 106, .b 109, .b 112, .b 32, .d (.var 4) 1 0])
noncomputable def c81 : Cls := ([(4, 4), (0, 0), (0, 0), (0, 0), (10, 99)], [.b 106, .b 109, .b 112, .b 32, .d (.var 4) 2 0, .d (.var 4) 2 1])
noncomputable def c82 : Cls := ([(4, 4), (0, 0), (0, 0), (0, 0), (100, 999)], [.b 106, .b 109, .b 112, .b 32, .d (.var 4) 3 0, .d (.var 4) 3 1, .d (.var 4) 3 2])
noncomputable def c83 : Cls := ([(4, 4), (0, 0), (0, 0), (0, 0), (1000, 4095)], [.b 106, .b 109, .b 112, .b 32, .d (.var 4) 4 0, .d (.var 4) 4 1, .d (.var 4) 4 2, .d (.var 4) 4 3])
noncomputable def c100 : Cls := ([(5, 5), (0, 7), (0, 0), (0, 0), (0, 9)], [.b 106, .b 122, .b 32, .b 114, .d (.var 1) 1 0, .b 32, .d (.var 4) 1 0])
noncomputable def c101 : Cls := ([(5, 5), (0, 7), (0, 0), (0, 0), (10, 99)], [.b 106, .b 122, .b 32, .b 114, .d (.var 1) 1 0, .b 32, .d (.var 4) 2 0, .d (.var 4) 2 1])
noncomputable def c102 : Cls := ([(5, 5), (0, 7), (0, 0), (0, 0), (100, 999)], [.b 106, .b 122, .b 32, .b 114, .d (.var 1) 1 0, .b 32, .d (.var 4) 3 0, .d (.var 4) 3 1, .d (.var 4) 3 2])
noncomputable def c103 : Cls := ([(5, 5), (0, 7), (0, 0), (0, 0), (1000, 4095)], [.b 106, .b 122, .b 32, .b 114, .d (.var 1) 1 0, .b 32, .d (.var 4) 4 0, .d (.var 4) 4 1, .d (.var 4) 4 2, .d (.var 4) 4 3])
noncomputable def c116 : Cls := ([(6, 6), (0, 7), (0, 7), (0, 0), (0, 9)], [.b 108, .b 111, .b 97, .b 100, .b 32, .b 114, .d (.var 1) 1 0, .b 32, .b 114, .d (.var 2) 1 0, .b 32, .d (.var 4) 1 0])
noncomputable def c117 : Cls := ([(6, 6), (0, 7), (0, 7), (0, 0), (10, 99)], [.b 108, .b 111, .b 97, .b 100, .b 32, .b 114, .d (.var 1) 1 0, .b 32, .b 114, .d (.var 2) 1 0, .b 32, .d (.var 4) 2 0, .d (.var 4) 2 1])
noncomputable def c118 : Cls := ([(6, 6), (0, 7), (0, 7), (0, 0), (100, 999)], [.b 108, .b 111, .b 97, .b 100, .b 32, .b 114, .d (.var 1) 1 0, .b 32, .b 114, .d (.var 2) 1 0, .b 32, .d (.var 4) 3 0, .d (.var 4) 3 1, .d (.var 4) 3 2])
noncomputable def c119 : Cls := ([(6, 6), (0, 7), (0, 7), (0, 0), (1000, 4095)], [.b 108, .b 111, .b 97, .b 100, .b 32, .b 114, .d (.var 1) 1 0, .b 32, .b 114, .d (.var 2) 1 0, .b 32, .d (.var 4) 4 0, .d (.var 4) 4 1, .d (.var 4) 4 2, .d (.var 4) 4 3])
noncomputable def c132 : Cls := ([(7, 7), (0, 7), (0, 7), (0, 0), (0, 9)], [.b 115, .b 97, .b 118, .b 101, .b 32, .b 114, .d (.var 1) 1 0, .b 32, .b 114, .d (.var 2) 1 0, .b 32, .d (.var 4) 1 0])
noncomputable def c133 : Cls := ([(7, 7), (0, 7), (0, 7), (0, 0), (10, 99)], [.b 115, .b 97, .b 118, .b 101, .b 32, .b 114, .d (.var 1) 1 0, .b 32, .b 114, .d (.var 2) 1 0, .b 32, .d (.var 4) 2 0, .d (.var 4) 2 1])
noncomputable def c134 : Cls := ([(7, 7), (0, 7), (0, 7), (0, 0), (100, 999)], [.b 115, .b 97, .b 118, .b 101, .b 32, .b 114, .d (.var 1) 1 0, .b 32, .b 114, .d (.var 2) 1 0, .b 32, .d (.var 4) 3 0, .d (.var 4) 3 1, .d (.var 4) 3 2])
noncomputable def c135 : Cls := ([(7, 7), (0, 7), (0, 7), (0, 0), (1000, 4095)], [.b 115, .b 97, .b 118, .b 101, .b 32, .b 114, .d (.var 1) 1 0, .b 32, .b 114, .d (.var 2) 1 0, .b 32, .d (.var 4) 4 0, .d (.var 4) 4 1, .d (.var 4) 4 2, .d (.var 4) 4 3])
noncomputable def c148 : Cls := ([(8, 8), (0, 9), (0, 9), (0, 0), (0, 0)], [.b 107, .b 109, .b 111, .b 118, .b 101, .b 32, .b 107, .d (.var 1) 1 0, .b 32, .b 107, .d (.var 2) 1 0])
noncomputable def c149 : Cls := ([(8, 8), (0, 9), (10, 15), (0, 0), (0, 0)], [.b 107, .b 109, .b 111, .b 118, .b 101, .b 32, .b 107, .d (.var 1) 1 0, .b 32, .b 107, .d (.var 2) 2 0, .d (.var 2) 2 1])
noncomputable def c150 : Cls := ([(8, 8), (10, 15), (0, 9), (0, 0), (0, 0)], [.b 107, .b 109, .b 111, .b 118, .b 101, .b 32, .b 107, .d (.var 1) 2 0, .d (.var 1) 2 1, .b 32, .b 107, .d (.var 2) 1 0])
noncomputable def c151 : Cls := ([(8, 8), (10, 15), (10, 15), (0, 0), (0, 0)], [.b 107, .b 109, .b 111, .b 118, .b 101, .b 32, .b 107, .d (.var 1) 2 0, .d (.var 1) 2 1, .b 32, .b 107, .d (.var 2) 2 0, .d (.var 2) 2 1])
noncomputable def c164 : Cls := ([(9, 9), (0, 9), (0, 7), (0, 0), (0, 0)], [.b 107, .b 110, .b 117, .b 109, .b 32, .b 107, .d (.var 1) 1 0, .b 32, .b 114, .d (.var 2) 1 0])
noncomputable def c165 : Cls := ([(9, 9), (10, 15), (0, 7), (0, 0), (0, 0)], [.b 107, .b 110, .b 117, .b 109, .b 32, .b 107, .d (.var 1) 2 0, .d (.var 1) 2 1, .b 32, .b 114, .d (.var 2) 1 0])
noncomputable def c178 : Cls := ([(10, 10), (0, 7), (0, 9), (0, 0), (0, 0)], [.b 107, .b 103, .b 101, .b 116, .b 32, .b 114, .d (.var 1) 1 0, .b 32, .b 107, .d (.var 2) 1 0])
noncomputable def c179 : Cls := ([(10, 10), (0, 7), (10, 15), (0, 0), (0, 0)], [.b 107, .b 103, .b 101, .b 116, .b 32, .b 114, .d (.var 1) 1 0, .b 32, .b 107, .d (.var 2) 2 0, .d (.var 2) 2 1])
noncomputable def c196 : Cls := ([(11, 11), (0, 0), (0, 9), (0, 9), (0, 0)], [.b 105, .b 110, .b 118, .b 32, .b 99, .b 97, .b 108, .b 108, .b 32, .b 107, .d (.var 2) 1 0, .b 32, .b 107, .d (.var 3) 1 0])
noncomputable def c197 : Cls := ([(11, 11), (0, 0), (0, 9), (10, 15), (0, 0)], [.b 105, .b 110, .b 118, .b 32, .b 99, .b 97, .b 108, .b 108, .b 32, .b 107, .d (.var 2) 1 0, .b 32, .b 107, .d (.var 3) 2 0, .d (.var 3) 2 1])
noncomputable def c198 : Cls := ([(11, 11), (0, 0), (10, 15), (0, 9), (0, 0)], [.b 105, .b 110, .b 118, .b 32, .b 99, .b 97, .b 108, .b 108, .b 32, .b 107, .d (.var 2) 2 0, .d (.var 2) 2 1, .b 32, .b 107, .d (.var 3) 1 0])
noncomputable def c199 : Cls := ([(11, 11), (0, 0), (10, 15), (10, 15), (0, 0)], [.b 105, .b 110, .b 118, .b 32, .b 99, .b 97, .b 108, .b 108, .b 32, .b 107, .d (.var 2) 2 0, .d (.var 2) 2 1, .b 32, .b 107, .d (.var 3) 2 0, .d (.var 3) 2 1])
noncomputable def c200 : Cls := ([(11, 11), (1, 1), (0, 9), (0, 9), (0, 0)], [.b 105, .b 110, .b 118, .b 32, .b 114, .b 101, .b 116, .b 117, .b 114, .b 110, .b 32, .b 107, .d (.var 2) 1 0, .b 32, .b 107, .d (.var 3) 1 0])
noncomputable def c201 : Cls := ([(11, 11), (1, 1), (0, 9), (10, 15), (0, 0)], [.b 105, .b 110, .b 118, .b 32, .b 114, .b 101, .b 116, .b 117, .b 114, .b 110, .b 32, .b 107, .d (.var 2) 1 0, .b 32, .b 107, .d (.var 3) 2 0, .d (.var 3) 2 1])
noncomputable def c202 : Cls := ([(11, 11), (1, 1), (10, 15), (0, 9), (0, 0)], [.b 105, .b 110, .b 118, .b 32, .b 114, .b 101, .b 116, .b 117, .b 114, .b 110, .b 32, .b 107, .d (.var 2) 2 0, .d (.var 2) 2 1, .b 32, .b 107, .d (.var 3) 1 0])
noncomputable def c203 : Cls := ([(11, 11), (1, 1), (10, 15), (10, 15), (0, 0)], [.b 105, .b 110, .b 118, .b 32, .b 114, .b 101, .b 116, .b 117, .b 114, .b 110, .b 32, .b 107, .d (.var 2) 2 0, .d (.var 2) 2 1, .b 32, .b 107, .d (.var 3) 2 0, .d (.var 3) 2 1])
noncomputable def c204 : Cls := ([(11, 11), (2, 2), (0, 9), (0, 9), (0, 0)], [.b 105, .b 110, .b 118, .b 32, .b 102, .b 111, .b 114, .b 107, .b 32, .b 107, .d (.var 2) 1 0, .b 32, .b 107, .d (.var 3) 1 0])
noncomputable def c205 : Cls := ([(11, 11), (2, 2), (0, 9), (10, 15), (0, 0)], [.b 105, .b 110, .b 118, .b 32, .b 102, .b 111, .b 114, .b 107, .b 32, .b 107, .d (.var 2) 1 0, .b 32, .b 107, .d (.var 3) 2 0, .d (.var 3) 2 1])
noncomputable def c206 : Cls := ([(11, 11), (2, 2), (10, 15), (0, 9), (0, 0)], [.b 105, .b 110, .b 118, .b 32, .b 102, .b 111, .b 114, .b 107, .b 32, .b 107, .d (.var 2) 2 0, .d (.var 2) 2 1, .b 32, .b 107, .d (.var 3) 1 0])
noncomputable def c207 : Cls := ([(11, 11), (2, 2), (10, 15), (10, 15), (0, 0)], [.b 105, .b 110, .b 118, .b 32, .b 102, .b 111, .b 114, .b 107, .b 32, .b 107, .d (.var 2) 2 0, .d (.var 2) 2 1, .b 32, .b 107, .d (.var 3) 2 0, .d (.var 3) 2 1])
noncomputable def c228 : Cls := ([(12, 12), (0, 0), (0, 0), (0, 0), (0, 0)], [.b 121, .b 105, .b 101, .b 108, .b 100])
noncomputable def c249 : Cls := ([(13, 13), (0, 0), (0, 0), (0, 0), (0, 0)], [.b 104, .b 97, .b 108, .b 116])
noncomputable def cls : List Cls := [c16, c17, c18, c19, c36, c37, c38, c39, c48, c49, c50, c51, c52, c53, c54, c55, c56, c57, c58, c59, c80, c81, c82, c83, c100, c101, c102, c103, c116, c117, c118, c119, c132, c133, c134, c135, c148, c149, c150, c151, c164, c165, c178, c179, c196, c197, c198, c199, c200, c201, c202, c203, c204, c205, c206, c207, c228, c249]
/-- a right instruction: what comes of it -/
structure VC (o a b c i : Int) (s : ByteArray) : Prop where
  bd : 1 ≤ o ∧ o ≤ 13 ∧ 0 ≤ a ∧ a ≤ 15 ∧ 0 ≤ b ∧ b ≤ 15 ∧ 0 ≤ c ∧ c ≤ 15 ∧ 0 ≤ i ∧ i ≤ 4095
  word : WordIs o a b c i (radix o a b c i)
  text : TextIs o a b c i s
  read : ReadIs (radix o a b c i) (.tuple #[insV o a b c i, .bool true])
  cls : ∃ k ∈ cls, InRg k.1 (s5 o a b c i) ∧ s = bytesA (k.2.map (Pc.val (s5 o a b c i)))
theorem vc_of {o a b c i : Int} (e0 e1 e2 e3 e4 X : E) (k : Cls) (tx : V) (hkc : k ∈ cls) (bd : 1 ≤ o ∧ o ≤ 13 ∧ 0 ≤ a ∧ a ≤ 15 ∧ 0 ≤ b ∧ b ≤ 15 ∧ 0 ≤ c ∧ c ≤ 15 ∧ 0 ≤ i ∧ i ≤ 4095) (hkn : ∀ τ, At5 τ o a b c i → Known2 τ k.1 [])
    (hd : ∀ τ, At5 τ o a b c i → e0.den τ = o ∧ e1.den τ = a ∧ e2.den τ = b ∧ e3.den τ = c ∧ e4.den τ = i) (hX : ∀ τ, At5 τ o a b c i → X.den τ = radix o a b c i) (hb : belowP k.2 = true)
    (htx : ∀ (τ : Nat → Int) ρ x, VR τ ρ tx x → x = .string (bytesA (k.2.map (Pc.val τ)))) (hread : ReadIs (radix o a b c i) (.tuple #[insV o a b c i, .bool true]))
    (r1 : ranTo (evCall (cxX Tryd.prog bad k.1 [] (qD k.1)) 1000 60 8 [agE e0 e1 e2 e3 e4] mI.pre) (.tuple [.int .u32 X, .inil]) mI.post = true)
    (r2 : ranTo (evCall (cxX Tryd.prog bad k.1 [] (qD k.1)) 1000 60 15 [agE e0 e1 e2 e3 e4] mI.pre) tx mI.post = true) : ∃ s, VC o a b c i s := by
  refine ⟨_, bd, fun τ W0 hL ht => ?_, fun τ W0 hL ht => ?_, hread, k, hkc, fun j lo hi hr => ?_, rfl⟩
  · obtain ⟨h0, h1, h2, h3, h4⟩ := hd τ ht
    refine ⟨.tuple [.int .u32 X, .inil], memo_args (mI_args ht h0 h1 h2 h3 h4) (memo_ok fit (hkn τ ht) (qD_ok hL (hkn τ ht)) (m := ⟨_, _, _, _⟩) r1), fun ρ x hx => ?_⟩
    obtain ⟨p, q, rfl, hp, hq⟩ := tup2 hx
    simp only [VR] at hp hq
    rw [hp, hq, hX τ ht]
  · obtain ⟨h0, h1, h2, h3, h4⟩ := hd τ ht
    refine ⟨tx, memo_args (mI_args ht h0 h1 h2 h3 h4) (memo_ok fit (hkn τ ht) (qD_ok hL (hkn τ ht)) (m := ⟨_, _, _, _⟩) r2), fun ρ x hx => ?_⟩
    rw [htx τ ρ x hx, val_eq ht hb]
  · exact (hkn (s5 o a b c i) ⟨rfl, rfl, rfl, rfl, rfl⟩).rng j lo hi hr
theorem err_of {o a b c i : Int} (r : Nat) (rng : Rg) (e0 e1 e2 e3 e4 : E) (hkn : ∀ τ, At5 τ o a b c i → Known2 τ rng [])
    (hd : ∀ τ, At5 τ o a b c i → e0.den τ = o ∧ e1.den τ = a ∧ e2.den τ = b ∧ e3.den τ = c ∧ e4.den τ = i)
    (r1 : ranTo (evCall (cxX Tryd.prog bad rng [] (qD rng)) 1000 60 8 [agE e0 e1 e2 e3 e4] mI.pre) (vE r) mI.post = true) : ErrIs r o a b c i := by
  intro τ W0 hL ht
  obtain ⟨h0, h1, h2, h3, h4⟩ := hd τ ht
  exact memo_args (mI_args ht h0 h1 h2 h3 h4) (memo_ok fit (hkn τ ht) (qD_ok hL (hkn τ ht)) (m := ⟨_, _, _, _⟩) r1)
theorem str_ok {τ : Nat → Int} {ρ : Inj} {s : List Nat} {x : Value} (h : VR τ ρ (.str s) x) : x = .string (bytesA ((pcs s).map (Pc.val τ))) := by rw [pcs_val]; simpa only [VR] using h
theorem strd_ok {τ : Nat → Int} {ρ : Inj} {ps : List Pc} {x : Value} (h : VR τ ρ (.strd ps) x) : x = .string (bytesA (ps.map (Pc.val τ))) := by simpa only [VR] using h
/-- what comes of any instruction -/
abbrev Ins (o a b c i : Int) : Prop := (∃ s, VC o a b c i s) ∨ ErrIs 19 o a b c i ∨ ErrIs 18 o a b c i
theorem shl_d {x : Int} {k : Nat} (h0 : 0 ≤ x ∧ x ≤ 15) (hk : k ≤ 20) : bopV .shl .i64 x (Int.ofNat k) = x * 2 ^ k := by
  obtain ⟨m, rfl⟩ := Int.eq_ofNat_of_zero_le h0.1
  have h1 : m ≤ 15 := by omega
  have h2 : 2 ^ k ≤ 2 ^ 20 := Nat.pow_le_pow_right (by omega) hk
  have h3 : m * 2 ^ k ≤ 15 * 2 ^ 20 := Nat.mul_le_mul h1 h2
  rw [shl_nat .i64 m k (Nat.le_trans hk (by decide)) (Nat.le_trans h3 (by decide))]
  simp
end Go.Proofs.YtphhnhheedbjjaaDoor.codeBack
