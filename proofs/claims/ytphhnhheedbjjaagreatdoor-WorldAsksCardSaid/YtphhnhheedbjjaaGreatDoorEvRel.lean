/- The evaluator's heap and values held against the model's: relations and their laws. -/
import Derived.Test.YtphhnhheedbjjaaGreatDoorEvK
import Derived.Below
import Derived.Laws.AppendOwn
set_option linter.unusedVariables false
namespace Tk
open Go Go.RowKit

section lists
variable {α : Type}
theorem appL_eq (l m : List α) : appL l m = l ++ m := by
  induction l with
  | nil => rfl
  | cons a l ih => show a :: appL l m = _; rw [ih]; rfl
theorem dropL_eq (l : List α) : ∀ n, dropL l n = l.drop n := by
  induction l with
  | nil => intro n; simp [dropL]
  | cons a l ih => intro n; cases n with
    | zero => rfl
    | succ n => show dropL l n = _; rw [ih]; rfl
theorem takeL_eq (l : List α) : ∀ n, takeL l n = l.take n := by
  induction l with
  | nil => intro n; simp [takeL]
  | cons a l ih => intro n; cases n with
    | zero => rfl
    | succ n => show a :: takeL l n = _; rw [ih]; rfl
theorem lenL_eq (l : List α) : lenL l = l.length := by
  induction l with
  | nil => rfl
  | cons a l ih => show lenL l + 1 = _; rw [ih]; rfl
theorem nthL_eq (l : List α) : ∀ n : Nat, nthL l n = l[n]? := by
  induction l with
  | nil => intro n; simp [nthL]
  | cons a l ih => intro n; cases n with
    | zero => rfl
    | succ n => show nthL l n = _; rw [ih]; rfl
theorem allL_eq (p : α → Bool) (l : List α) : allL p l = l.all p := by
  induction l with
  | nil => rfl
  | cons a l ih =>
    show (match p a with | true => allL p l | false => false) = _
    rw [ih]; cases h : p a <;> simp [h]
end lists

theorem beqN {a b : Nat} (h : Nat.beq a b = true) : a = b := Nat.eq_of_beq_eq_true h
theorem bleN {a b : Nat} (h : Nat.ble a b = true) : a ≤ b := Nat.le_of_ble_eq_true h
theorem bleF {a b : Nat} (h : Nat.ble a b = false) : b < a := by
  rcases Nat.lt_or_ge b a with h' | h'
  · exact h'
  · rw [Nat.ble_eq_true_of_le h'] at h; cases h
theorem beqF {a b : Nat} (h : Nat.beq a b = false) : a ≠ b := by
  rintro rfl; simp at h

/- tries -/
namespace Tr
variable {α : Type}
theorem get_lf (i : Nat) : (Tr.lf : Tr α).get i = none := rfl
theorem get_nd_zero (l : Tr α) (x r) : (Tr.nd l x r).get 0 = x := rfl
theorem get_nd_succ (l : Tr α) (x r) (j : Nat) : (Tr.nd l x r).get (j + 1) = if j % 2 = 0 then l.get (j / 2) else r.get (j / 2) := by
  show (Nat.rec (l.get (j / 2)) (fun _ _ => r.get (j / 2)) (j % 2) : Option α) = _
  cases h : j % 2 with
  | zero => rfl
  | succ k => simp
theorem set_lf (i : Nat) (v : α) : (Tr.lf : Tr α).set i v = single (i + 1) i v := rfl
theorem set_nd_zero (l : Tr α) (x r) (v : α) : (Tr.nd l x r).set 0 v = .nd l (some v) r := rfl
theorem set_nd_succ (l : Tr α) (x r) (j : Nat) (v : α) : (Tr.nd l x r).set (j + 1) v = if j % 2 = 0 then .nd (l.set (j / 2) v) x r else .nd l x (r.set (j / 2) v) := by
  show (Nat.rec (Tr.nd (l.set (j / 2) v) x r) (fun _ _ => Tr.nd l x (r.set (j / 2) v)) (j % 2) : Tr α) = _
  cases h : j % 2 with
  | zero => rfl
  | succ k => simp
theorem del_nd_zero (l : Tr α) (x r) : (Tr.nd l x r).del 0 = .nd l none r := rfl
theorem del_nd_succ (l : Tr α) (x r) (j : Nat) : (Tr.nd l x r).del (j + 1) = if j % 2 = 0 then .nd (l.del (j / 2)) x r else .nd l x (r.del (j / 2)) := by
  show (Nat.rec (Tr.nd (l.del (j / 2)) x r) (fun _ _ => Tr.nd l x (r.del (j / 2))) (j % 2) : Tr α) = _
  cases h : j % 2 with
  | zero => rfl
  | succ k => simp
theorem parity (i j : Nat) (h : i % 2 = j % 2) (h' : i / 2 = j / 2) : i = j := by omega
theorem get_single (v : α) : ∀ (f i : Nat), i < f → ∀ j, (single f i v).get j = if i = j then some v else none
  | 0, i, h, j => by omega
  | f + 1, 0, _, j => by
    show (Tr.nd .lf (some v) .lf).get j = _
    cases j with
    | zero => rfl
    | succ j => rw [get_nd_succ]; simp [get_lf]
  | f + 1, i + 1, h, j => by
    have e : single (f + 1) (i + 1) v = if i % 2 = 0 then .nd (single f (i / 2) v) none .lf else .nd .lf none (single f (i / 2) v) := by
      show (match i % 2 with | 0 => _ | _ + 1 => _) = _
      cases h : i % 2 <;> simp
    rw [e]
    have ih := get_single v f (i / 2) (by omega)
    cases j with
    | zero => split <;> simp [get_nd_zero]
    | succ j =>
      split
      · rename_i hi
        rw [get_nd_succ]
        split
        · rename_i hj; rw [ih]; by_cases he : i = j
          · subst he; simp
          · rw [if_neg (by omega), if_neg (by omega)]
        · rename_i hj; rw [get_lf, if_neg (by omega)]
      · rename_i hi
        rw [get_nd_succ]
        split
        · rename_i hj; rw [get_lf, if_neg (by omega)]
        · rename_i hj; rw [ih]; by_cases he : i = j
          · subst he; simp
          · rw [if_neg (by omega), if_neg (by omega)]
theorem get_set (v : α) : ∀ (t : Tr α) (i j : Nat), (t.set i v).get j = if i = j then some v else t.get j := by
  intro t
  induction t with
  | lf => intro i j; rw [set_lf, get_single v _ _ (by omega)]; rfl
  | nd l x r il ir =>
    intro i j
    cases i with
    | zero =>
      rw [set_nd_zero]
      cases j with
      | zero => simp [get_nd_zero]
      | succ j => rw [get_nd_succ, get_nd_succ]; simp
    | succ i =>
      rw [set_nd_succ]
      cases j with
      | zero => split <;> simp [get_nd_zero]
      | succ j =>
        split
        · rename_i hi
          rw [get_nd_succ, get_nd_succ]
          split
          · rename_i hj; rw [il]; by_cases he : i = j
            · subst he; simp
            · rw [if_neg (by omega), if_neg (by omega)]
          · rename_i hj; rw [if_neg (by omega)]
        · rename_i hi
          rw [get_nd_succ, get_nd_succ]
          split
          · rename_i hj; rw [if_neg (by omega)]
          · rename_i hj; rw [ir]; by_cases he : i = j
            · subst he; simp
            · rw [if_neg (by omega), if_neg (by omega)]
theorem get_del : ∀ (t : Tr α) (i j : Nat), (t.del i).get j = if i = j then none else t.get j := by
  intro t
  induction t with
  | lf => intro i j; show (Tr.lf : Tr α).get j = _; rw [get_lf]; simp
  | nd l x r il ir =>
    intro i j
    cases i with
    | zero =>
      rw [del_nd_zero]
      cases j with
      | zero => simp [get_nd_zero]
      | succ j => rw [get_nd_succ, get_nd_succ]; simp
    | succ i =>
      rw [del_nd_succ]
      cases j with
      | zero => split <;> simp [get_nd_zero]
      | succ j =>
        split
        · rename_i hi
          rw [get_nd_succ, get_nd_succ]
          split
          · rename_i hj; rw [il]; by_cases he : i = j
            · subst he; simp
            · rw [if_neg (by omega), if_neg (by omega)]
          · rename_i hj; rw [if_neg (by omega)]
        · rename_i hi
          rw [get_nd_succ, get_nd_succ]
          split
          · rename_i hj; rw [if_neg (by omega)]
          · rename_i hj; rw [ir]; by_cases he : i = j
            · subst he; simp
            · rw [if_neg (by omega), if_neg (by omega)]
end Tr

/- where a block of the evaluator's lies in the model: its block, where it begins there, how many cells there are from there on -/
structure Loc where
  blk : Nat
  base : Nat
  tot : Nat
abbrev Inj := Nat → Option Loc
def bytesA (s : List Nat) : ByteArray := ⟨(s.map UInt8.ofNat).toArray⟩

/-- what a piece of a text is -/
noncomputable def Pc.val (σ : Nat → Int) : Pc → Nat
  | .b n => n
  | .d e k i => 48 + (e.den σ).toNat / 10 ^ (k - 1 - i) % 10
section
variable (σ : Nat → Int) (ρ : Inj)
mutual
def VR : V → Value → Prop
  | .bool b, x => x = .bool b
  | .int k e, x => x = .int k (e.den σ)
  | .str s, x => x = .string (bytesA s)
  | .ptr r o, x => ∃ l, ρ r = some l ∧ x = .pointer (some ⟨l.blk, l.base + o, none⟩)
  | .pnil, x => x = .pointer none
  | .slice r o len cap esz ex, x => ∃ l cap', ρ r = some l ∧ x = .slice (some ⟨l.blk, l.base + o, none⟩) len cap' ∧ cap ≤ cap' ∧ (ex = true → cap' = cap) ∧ (ex = false → o + cap' * esz = l.tot)
  | .eslice ex, x => ∃ a cap', x = .slice (some a) 0 cap' ∧ (ex = true → cap' = 0)
  | .snil, x => x = .slice none 0 0
  | .map r, x => ∃ l, ρ r = some l ∧ x = .map (some l.blk)
  | .mnil, x => x = .map none
  | .func f a b, x => ∃ a' b', x = .func (.func f) a' b' ∧ VRs a a'.toList ∧ VRs b b'.toList
  | .fnil, x => x = .nilFunc
  | .iface t v, x => ∃ v', x = .iface t v' ∧ VR v v'
  | .inil, x => x = .nilIface
  | .agg cs, x => ∃ cs', x = .agg cs' ∧ VRs cs cs'.toList
  | .tuple vs, x => ∃ vs', x = .tuple vs' ∧ VRs vs vs'.toList
  | .strd ps, x => x = .string (bytesA (ps.map (Pc.val σ)))
  | .ptx r o sz e n, x => ∃ (l : Loc) (i : Nat), ρ r = some l ∧ (i : Int) = e.den σ ∧ i < n ∧ x = .pointer (some ⟨l.blk, l.base + (o + i * sz), none⟩)
  | .vsl e, x => ∃ (a : Option Addr) (n cap' : Nat), x = .slice a n cap' ∧ ((n : Nat) : Int) = e.den σ
  | .junk, _ => True
def VRs : List V → List Value → Prop
  | [], l => l = []
  | v :: vs, l => ∃ v' l', l = v' :: l' ∧ VR v v' ∧ VRs vs l'
end
end

def Ext (ρ ρ' : Inj) : Prop := ∀ r l, ρ r = some l → ρ' r = some l
theorem Ext.refl (ρ : Inj) : Ext ρ ρ := fun _ _ h => h
theorem Ext.trans {a b c : Inj} (h : Ext a b) (k : Ext b c) : Ext a c := fun r l e => k r l (h r l e)

section
variable {σ : Nat → Int} {ρ ρ' : Inj}
mutual
theorem VR.mono (hx : Ext ρ ρ') : ∀ (v : V) (x : Value), VR σ ρ v x → VR σ ρ' v x
  | .bool b, x, h => by simpa only [VR] using h
  | .int k e, x, h => by simpa only [VR] using h
  | .str s, x, h => by simpa only [VR] using h
  | .ptr r o, x, h => by
    simp only [VR] at h ⊢
    obtain ⟨l, h1, h2⟩ := h
    exact ⟨l, hx _ _ h1, h2⟩
  | .pnil, x, h => by simpa only [VR] using h
  | .slice r o len cap esz ex, x, h => by
    simp only [VR] at h ⊢
    obtain ⟨l, c, h1, h2⟩ := h
    exact ⟨l, c, hx _ _ h1, h2⟩
  | .eslice ex, x, h => by simpa only [VR] using h
  | .snil, x, h => by simpa only [VR] using h
  | .map r, x, h => by
    simp only [VR] at h ⊢
    obtain ⟨l, h1, h2⟩ := h
    exact ⟨l, hx _ _ h1, h2⟩
  | .mnil, x, h => by simpa only [VR] using h
  | .func f a b, x, h => by
    simp only [VR] at h ⊢
    obtain ⟨a', b', h1, h2, h3⟩ := h
    exact ⟨a', b', h1, VRs.mono hx _ _ h2, VRs.mono hx _ _ h3⟩
  | .fnil, x, h => by simpa only [VR] using h
  | .iface t v, x, h => by
    simp only [VR] at h ⊢
    obtain ⟨v', h1, h2⟩ := h
    exact ⟨v', h1, VR.mono hx _ _ h2⟩
  | .inil, x, h => by simpa only [VR] using h
  | .agg cs, x, h => by
    simp only [VR] at h ⊢
    obtain ⟨c, h1, h2⟩ := h
    exact ⟨c, h1, VRs.mono hx _ _ h2⟩
  | .tuple cs, x, h => by
    simp only [VR] at h ⊢
    obtain ⟨c, h1, h2⟩ := h
    exact ⟨c, h1, VRs.mono hx _ _ h2⟩
  | .strd ps, x, h => by simpa only [VR] using h
  | .ptx r o sz e n, x, h => by
    simp only [VR] at h ⊢
    obtain ⟨l, i, h1, h2⟩ := h
    exact ⟨l, i, hx _ _ h1, h2⟩
  | .vsl e, x, h => by simpa only [VR] using h
  | .junk, x, h => by simp only [VR]
theorem VRs.mono (hx : Ext ρ ρ') : ∀ (vs : List V) (xs : List Value), VRs σ ρ vs xs → VRs σ ρ' vs xs
  | [], xs, h => by simpa only [VRs] using h
  | v :: vs, xs, h => by
    simp only [VRs] at h ⊢
    obtain ⟨v', l', h1, h2, h3⟩ := h
    exact ⟨v', l', h1, VR.mono hx _ _ h2, VRs.mono hx _ _ h3⟩
end
theorem VRs.nil : VRs σ ρ [] [] := by simp only [VRs]
theorem VRs.cons {v x vs xs} (h : VR σ ρ v x) (hs : VRs σ ρ vs xs) : VRs σ ρ (v :: vs) (x :: xs) := by
  simp only [VRs]; exact ⟨x, xs, rfl, h, hs⟩
theorem VRs.length : ∀ {vs : List V} {xs : List Value}, VRs σ ρ vs xs → xs.length = vs.length
  | [], xs, h => by simp only [VRs] at h; subst h; rfl
  | v :: vs, xs, h => by
    simp only [VRs] at h
    obtain ⟨v', l', rfl, _, h3⟩ := h
    simp [VRs.length h3]
theorem VRs.append : ∀ {vs ws : List V} {xs ys : List Value}, VRs σ ρ vs xs → VRs σ ρ ws ys → VRs σ ρ (vs ++ ws) (xs ++ ys)
  | [], ws, xs, ys, h, k => by simp only [VRs] at h; subst h; simpa using k
  | v :: vs, ws, xs, ys, h, k => by
    simp only [VRs] at h
    obtain ⟨v', l', rfl, h2, h3⟩ := h
    exact VRs.cons h2 (VRs.append h3 k)
theorem VRs.take : ∀ (n : Nat) {vs : List V} {xs : List Value}, VRs σ ρ vs xs → VRs σ ρ (vs.take n) (xs.take n)
  | 0, vs, xs, h => by simpa using VRs.nil
  | n + 1, [], xs, h => by simp only [VRs] at h; subst h; simpa using VRs.nil
  | n + 1, v :: vs, xs, h => by
    simp only [VRs] at h
    obtain ⟨v', l', rfl, h2, h3⟩ := h
    exact VRs.cons h2 (VRs.take n h3)
theorem VRs.drop : ∀ (n : Nat) {vs : List V} {xs : List Value}, VRs σ ρ vs xs → VRs σ ρ (vs.drop n) (xs.drop n)
  | 0, vs, xs, h => by simpa using h
  | n + 1, [], xs, h => by simp only [VRs] at h; subst h; simpa using VRs.nil
  | n + 1, v :: vs, xs, h => by
    simp only [VRs] at h
    obtain ⟨v', l', rfl, h2, h3⟩ := h
    simpa using VRs.drop n h3
theorem VRs.get : ∀ {vs : List V} {xs : List Value} (i : Nat) {v : V}, VRs σ ρ vs xs → vs[i]? = some v → ∃ x, xs[i]? = some x ∧ VR σ ρ v x
  | [], xs, i, v, h, hi => by simp at hi
  | w :: vs, xs, 0, v, h, hi => by
    simp only [VRs] at h
    obtain ⟨v', l', rfl, h2, h3⟩ := h
    simp at hi; subst hi
    exact ⟨v', rfl, h2⟩
  | w :: vs, xs, i + 1, v, h, hi => by
    simp only [VRs] at h
    obtain ⟨v', l', rfl, h2, h3⟩ := h
    exact VRs.get i h3 (by simpa using hi)
end
end Tk
