/- codeBack: the law, where what is asked is told. -/
import Derived.Test.YtphhnhheedbjjaaDoorCbC
set_option linter.unusedVariables false
set_option linter.unusedSimpArgs false
set_option maxRecDepth 10000000
namespace Go.Proofs.YtphhnhheedbjjaaDoor.codeBack
open Tk
open Go Go.RowKit
abbrev rgG : Rg := [((-9223372036854775808), 9223372036854775807), ((-9223372036854775808), 9223372036854775807), ((-9223372036854775808), 9223372036854775807), ((-9223372036854775808), 9223372036854775807), ((-9223372036854775808), 9223372036854775807), ((-9223372036854775808), 9223372036854775807), ((-9223372036854775808), 9223372036854775807), ((-9223372036854775808), 9223372036854775807), ((-9223372036854775808), 9223372036854775807), ((-9223372036854775808), 9223372036854775807), (0, 4294967295), (0, 4294967295), (0, 4294967295), ((-9223372036854775808), 9223372036854775807), ((-9223372036854775808), 9223372036854775807), ((-9223372036854775808), 9223372036854775807), ((-9223372036854775808), 9223372036854775807), ((-9223372036854775808), 9223372036854775807)]
noncomputable def cxG : Cx := cxX Tryd.prog bad rgG [] []
noncomputable def q0 : Fns := [(25, itoaFullFn), (28, joinDFn), (63, countDFn), (77, indexDFn), (64, cutOf Tryd.prog 3 bad [(63, countDFn), (77, indexDFn)] 1000 20 64)]
theorem q0_ok {σ : Nat → Int} {W0 : World} (hL : L0 W0) : FnsOk Tryd.prog 3 σ W0 q0 := FnsOk.cons (ext_itoa hL) (FnsOk.cons (ext_join hL) (FnsOk.cons (ext_count hL) (FnsOk.cons (ext_index hL) (FnsOk.cons (ext_cut64 hL) (FnsOk.nil)))))
noncomputable def mF : Sym := ⟨[], (sentH 115 18 errTab), [0, 1, 18, 19], [], [], .bool true, [], 820⟩
theorem mF_ok {W0 : World} (hL : L0 W0) : SymOk Tryd.prog 3 W0 5 mF := sym_ok fit (fun σ hk => q0_ok hL) (by kernel_rfl : ranTo (evCall (cxX Tryd.prog bad mF.rng mF.facts q0) 1000 60 5 mF.args mF.pre) mF.v mF.post = true) (by kernel_rfl)
noncomputable def ag (s : Nat) : V := agE (.var s) (.var (s + 1)) (.var (s + 2)) (.var (s + 3)) (.var (s + 4))
/-- Word's answer: right ones (the number x), or the error r -/
noncomputable def ansW (r : Option Nat) (x : Nat) : V := match r with
  | none => .tuple [.int .u32 (.var x), .inil]
  | some r => vE r
noncomputable def ansR (t : Bool) : V := match t with
  | true => .tuple [ag 13, .bool true]
  | false => vL (.lit 0) (.lit 0) (.lit 0) (.lit 0) (.lit 0) false
noncomputable def gW (s : Nat) (r : Option Nat) (x : Nat) : Tk.Fn := ghostFn cxG 20 mI [ag s] (ansW r x)
theorem hq5 {Γ : Cx} {b : Bd} {σ : Nat → Int} {s : Nat} (h : renVs Γ b mI.args = [ag s]) : At5 (b.val σ) (σ s) (σ (s + 1)) (σ (s + 2)) (σ (s + 3)) (σ (s + 4)) := by
  have h : [V.agg [.int .i64 (b.num 0), .int .i64 (b.num 1), .int .i64 (b.num 2), .int .i64 (b.num 3), .int .i64 (b.num 4)]] = [V.agg [.int .i64 (.var s), .int .i64 (.var (s + 1)), .int .i64 (.var (s + 2)), .int .i64 (.var (s + 3)), .int .i64 (.var (s + 4))]] := h
  simp only [List.cons.injEq, V.agg.injEq, V.int.injEq, true_and, and_true] at h
  obtain ⟨h0, h1, h2, h3, h4⟩ := h
  exact ⟨by show (b.num 0).den σ = _; rw [h0]; rfl, by show (b.num 1).den σ = _; rw [h1]; rfl, by show (b.num 2).den σ = _; rw [h2]; rfl, by show (b.num 3).den σ = _; rw [h3]; rfl, by show (b.num 4).den σ = _; rw [h4]; rfl⟩
theorem hq1 {Γ : Cx} {b : Bd} {σ : Nat → Int} {s : Nat} (h : renVs Γ b mR.args = [.int .u32 (.var s)]) : b.val σ 0 = σ s := by
  have h : [V.int .u32 (b.num 0)] = [V.int .u32 (.var s)] := h
  simp only [List.cons.injEq, V.int.injEq, true_and, and_true] at h
  show (b.num 0).den σ = _; rw [h]; rfl
theorem hasNope {σ : Nat → Int} {W : World} {f : FuncId} : CallOk Tryd.prog 3 σ W f (fun _ _ => none) := fun vs xs h v h' ρ W e => by cases e
/-- one of the two instructions: what is told of it -/
inductive Told (σ : Nat → Int) (s x y : Nat) : Option Nat → Prop where
  | right {t : ByteArray} (h : VC (σ s) (σ (s + 1)) (σ (s + 2)) (σ (s + 3)) (σ (s + 4)) t) (hx : σ x = radix (σ s) (σ (s + 1)) (σ (s + 2)) (σ (s + 3)) (σ (s + 4))) (hy : strNo t = σ y) : Told σ s x y none
  | err {r : Nat} (hr : r < 20) (h : ErrIs r (σ s) (σ (s + 1)) (σ (s + 2)) (σ (s + 3)) (σ (s + 4))) : Told σ s x y (some r)
theorem gW_right {σ : Nat → Int} {W : World} (hL : L0 W) (hk : Known2 σ rgG []) {s x : Nat} {t : ByteArray} (h : VC (σ s) (σ (s + 1)) (σ (s + 2)) (σ (s + 3)) (σ (s + 4)) t) (hx : σ x = radix (σ s) (σ (s + 1)) (σ (s + 2)) (σ (s + 3)) (σ (s + 4))) :
    CallOk Tryd.prog 3 σ W 8 (gW s none x) := by
  refine ghost_fn_ok (m := mI) (Γ := cxG) (Q := fun τ => At5 τ (σ s) (σ (s + 1)) (σ (s + 2)) (σ (s + 3)) (σ (s + 4))) ⟨hk.rng, hk.facts⟩ (by decide) (by kernel_rfl) (fun b hb => hq5 hb) fun τ hτ _ => ?_
  obtain ⟨u, h1, h2⟩ := h.word τ W hL hτ
  refine ⟨u, h1, fun ρ ρ' v _ hv => ?_⟩
  rw [h2 ρ v hv, ← hx]
  unfold ansW
  simp [VR, VRs, E.den]
theorem gW_told {σ : Nat → Int} {W : World} (hL : L0 W) (hk : Known2 σ rgG []) {s x y : Nat} {p : Option Nat} (h : Told σ s x y p) : CallOk Tryd.prog 3 σ W 8 (gW s p x) := by
  cases h with
  | right h hx hy => exact gW_right hL hk h hx
  | err hr h =>
    refine ghost_fn_ok (m := mI) (Γ := cxG) (Q := fun τ => At5 τ (σ s) (σ (s + 1)) (σ (s + 2)) (σ (s + 3)) (σ (s + 4))) ⟨hk.rng, hk.facts⟩ (by decide) (by kernel_rfl) (fun b hb => hq5 hb) fun τ hτ _ => ⟨_, h τ W hL hτ, fun ρ ρ' v hlow hv => ?_⟩
    obtain ⟨p, q, rfl, hp, hq⟩ := tup2 hv
    unfold ansW
    show VR σ ρ' (.tuple [_, _]) _
    simp only [VR] at hp hq
    obtain ⟨v', rfl, l, hl, rfl⟩ := hq
    simp only [VR, VRs]
    exact ⟨_, rfl, _, _, rfl, hp, _, _, rfl, ⟨_, rfl, l, hlow _ _ hr hl, rfl⟩, rfl⟩
theorem gT_right {σ : Nat → Int} {W : World} (hL : L0 W) (hk : Known2 σ rgG []) {s y : Nat} {t : ByteArray} (h : VC (σ s) (σ (s + 1)) (σ (s + 2)) (σ (s + 3)) (σ (s + 4)) t) (hy : strNo t = σ y) :
    CallOk Tryd.prog 3 σ W 15 (ghostFn cxG 20 mI [ag s] (.strn (.var y))) := by
  refine ghost_fn_ok (m := mI) (Γ := cxG) (Q := fun τ => At5 τ (σ s) (σ (s + 1)) (σ (s + 2)) (σ (s + 3)) (σ (s + 4))) ⟨hk.rng, hk.facts⟩ (by decide) (by kernel_rfl) (fun b hb => hq5 hb) fun τ hτ _ => ?_
  obtain ⟨u, h1, h2⟩ := h.text τ W hL hτ
  refine ⟨u, h1, fun ρ ρ' v _ hv => ?_⟩
  rw [h2 ρ v hv]
  simp only [VR, E.den]
  exact ⟨t, rfl, hy⟩
theorem gR_right {σ : Nat → Int} {W : World} (hk : Known2 σ rgG []) {s x : Nat} {t : ByteArray} (h : VC (σ s) (σ (s + 1)) (σ (s + 2)) (σ (s + 3)) (σ (s + 4)) t) (hx : σ x = radix (σ s) (σ (s + 1)) (σ (s + 2)) (σ (s + 3)) (σ (s + 4))) :
    CallOk Tryd.prog 3 σ W 9 (ghostFn cxG 20 mR [.int .u32 (.var x)] (.tuple [ag s, .bool true])) := by
  refine ghost_fn_ok (m := mR) (Γ := cxG) (Q := fun τ => τ 0 = σ x) ⟨hk.rng, hk.facts⟩ (by decide) (by kernel_rfl) (fun b hb => hq1 hb) fun τ hτ _ => ?_
  obtain ⟨u, h1, h2⟩ := h.read τ W (hτ.trans hx)
  refine ⟨u, h1, fun ρ ρ' v _ hv => ?_⟩
  rw [h2 ρ v hv]
  simp only [VR, VRs]
  exact ⟨_, rfl, _, _, rfl, vrs_ag rfl rfl rfl rfl rfl, _, _, rfl, rfl, rfl⟩
theorem gR_not {σ : Nat → Int} {W : World} (hk : Known2 σ rgG []) (h : NotW (σ 10)) : CallOk Tryd.prog 3 σ W 9 (ghostFn cxG 20 mR [.int .u32 (.var 10)] (ansR false)) := by
  refine ghost_fn_ok (m := mR) (Γ := cxG) (Q := fun τ => τ 0 = σ 10) ⟨hk.rng, hk.facts⟩ (by decide) (by kernel_rfl) (fun b hb => hq1 hb) fun τ hτ _ => ?_
  obtain ⟨u, h1, h2⟩ := h τ W hτ
  refine ⟨u, h1, fun ρ ρ' v _ hv => ?_⟩
  rw [h2 ρ v hv]
  unfold ansR vL
  simp only [VR, VRs]
  exact ⟨_, rfl, _, _, rfl, vrs_ag rfl rfl rfl rfl rfl, _, _, rfl, rfl, rfl⟩
/-- the word: what is told of it -/
inductive ToldW (σ : Nat → Int) : Bool → Prop where
  | no (h : NotW (σ 10)) : ToldW σ false
  | yes {t : ByteArray} (h : VC (σ 13) (σ 14) (σ 15) (σ 16) (σ 17) t) (hx : σ 10 = radix (σ 13) (σ 14) (σ 15) (σ 16) (σ 17)) : ToldW σ true
/-- calls that are not told of are left out -/
noncomputable def onlyIf (b : Bool) (g : Tk.Fn) : Tk.Fn := match b with
  | true => g
  | false => fun _ _ => none
noncomputable def isN : Option Nat → Bool
  | none => true
  | some _ => false
noncomputable def fsL (p q : Option Nat) (t : Bool) : Fns := [(5, symFn cxG 20 [mF]), (8, orFn (gW 0 p 11) (orFn (gW 5 q 12) (onlyIf t (gW 13 none 10)))), (9, orFn (onlyIf (isN p) (ghostFn cxG 20 mR [.int .u32 (.var 11)] (.tuple [ag 0, .bool true]))) (ghostFn cxG 20 mR [.int .u32 (.var 10)] (ansR t))), (15, orFn (onlyIf (isN p) (ghostFn cxG 20 mI [ag 0] (.strn (.var 18)))) (onlyIf (isN q) (ghostFn cxG 20 mI [ag 5] (.strn (.var 19)))))]
theorem fsL_ok {σ : Nat → Int} {W : World} (hL : L0 W) (hk : Known2 σ rgG []) {p q : Option Nat} {t : Bool} (hp : Told σ 0 11 18 p) (hq : Told σ 5 12 19 q) (ht : ToldW σ t) : FnsOk Tryd.prog 3 σ W (fsL p q t) := by
  refine FnsOk.cons (sym_fn_ok (Γ := cxG) (fix := 20) ⟨hk.rng, hk.facts⟩ (by decide) (all_cons (mF_ok hL) all_nil)) (FnsOk.cons (or_fn_ok (gW_told hL hk hp) (or_fn_ok (gW_told hL hk hq) ?_)) (FnsOk.cons (or_fn_ok ?_ ?_) (FnsOk.cons (or_fn_ok ?_ ?_) FnsOk.nil)))
  · cases ht with
    | no h => exact hasNope
    | yes h hx => exact gW_right hL hk h hx
  · cases hp with
    | right h hx hy => exact gR_right hk h hx
    | err hr h => exact hasNope
  · cases ht with
    | no h => exact gR_not hk h
    | yes h hx => exact gR_right hk h hx
  · cases hp with
    | right h hx hy => exact gT_right hL hk h hy
    | err hr h => exact hasNope
  · cases hq with
    | right h hx hy => exact gT_right hL hk h hy
    | err hr h => exact hasNope
noncomputable def runB (F : Fx) (p q : Option Nat) (t : Bool) : Bool := isTrue (evCall (cxX Tryd.prog bad rgG F (fsL p q t)) 1000 60 4 [ag 0, ag 5, .int .u32 (.var 10)] (sentH 115 18 errTab))
abbrev fEq : Fx := [(true, .var 0, .var 5, true), (true, .var 1, .var 6, true), (true, .var 2, .var 7, true), (true, .var 3, .var 8, true), (true, .var 4, .var 9, true), (true, .var 11, .var 12, true), (true, .var 18, .var 19, true)]
abbrev fNe0 : Fx := [(true, .var 0, .var 5, false), (true, .var 11, .var 12, false), (true, .var 18, .var 19, false)]
abbrev fNe1 : Fx := [(true, .var 0, .var 5, true), (true, .var 1, .var 6, false), (true, .var 11, .var 12, false), (true, .var 18, .var 19, false)]
abbrev fNe2 : Fx := [(true, .var 0, .var 5, true), (true, .var 1, .var 6, true), (true, .var 2, .var 7, false), (true, .var 11, .var 12, false), (true, .var 18, .var 19, false)]
abbrev fNe3 : Fx := [(true, .var 0, .var 5, true), (true, .var 1, .var 6, true), (true, .var 2, .var 7, true), (true, .var 3, .var 8, false), (true, .var 11, .var 12, false), (true, .var 18, .var 19, false)]
abbrev fNe4 : Fx := [(true, .var 0, .var 5, true), (true, .var 1, .var 6, true), (true, .var 2, .var 7, true), (true, .var 3, .var 8, true), (true, .var 4, .var 9, false), (true, .var 11, .var 12, false), (true, .var 18, .var 19, false)]
theorem req_true : runB fEq none none true = true := by kernel_rfl
theorem rne0_true : runB fNe0 none none true = true := by kernel_rfl
theorem rne1_true : runB fNe1 none none true = true := by kernel_rfl
theorem rne2_true : runB fNe2 none none true = true := by kernel_rfl
theorem rne3_true : runB fNe3 none none true = true := by kernel_rfl
theorem rne4_true : runB fNe4 none none true = true := by kernel_rfl
theorem r_none_W_true : runB [] none (some 19) true = true := by kernel_rfl
theorem r_none_R_true : runB [] none (some 18) true = true := by kernel_rfl
theorem r_W_none_true : runB [] (some 19) none true = true := by kernel_rfl
theorem r_W_W_true : runB [] (some 19) (some 19) true = true := by kernel_rfl
theorem r_W_R_true : runB [] (some 19) (some 18) true = true := by kernel_rfl
theorem r_R_none_true : runB [] (some 18) none true = true := by kernel_rfl
theorem r_R_W_true : runB [] (some 18) (some 19) true = true := by kernel_rfl
theorem r_R_R_true : runB [] (some 18) (some 18) true = true := by kernel_rfl
theorem req_false : runB fEq none none false = true := by kernel_rfl
theorem rne0_false : runB fNe0 none none false = true := by kernel_rfl
theorem rne1_false : runB fNe1 none none false = true := by kernel_rfl
theorem rne2_false : runB fNe2 none none false = true := by kernel_rfl
theorem rne3_false : runB fNe3 none none false = true := by kernel_rfl
theorem rne4_false : runB fNe4 none none false = true := by kernel_rfl
theorem r_none_W_false : runB [] none (some 19) false = true := by kernel_rfl
theorem r_none_R_false : runB [] none (some 18) false = true := by kernel_rfl
theorem r_W_none_false : runB [] (some 19) none false = true := by kernel_rfl
theorem r_W_W_false : runB [] (some 19) (some 19) false = true := by kernel_rfl
theorem r_W_R_false : runB [] (some 19) (some 18) false = true := by kernel_rfl
theorem r_R_none_false : runB [] (some 18) none false = true := by kernel_rfl
theorem r_R_W_false : runB [] (some 18) (some 19) false = true := by kernel_rfl
theorem r_R_R_false : runB [] (some 18) (some 18) false = true := by kernel_rfl
theorem fin {σ : Nat → Int} {W : World} (hL : L0 W) (hk : Known2 σ rgG []) {p q : Option Nat} {t : Bool} (hp : Told σ 0 11 18 p) (hq : Told σ 5 12 19 q) (ht : ToldW σ t) {F : Fx} (hf : Known2 σ rgG F) (run : runB F p q t = true)
    {xs : Array Value} (hv : ∀ ρ, VRs σ ρ [ag 0, ag 5, .int .u32 (.var 10)] xs.toList) : Calls Tryd.prog 4 xs W fun e w' => e = .returned (.bool true) ∧ Below W.heap.size W w' := by
  obtain ⟨ads, s1, s2, s3⟩ := errs_sents hL
  exact law_case_x (lf := 1000) (d := 60) fit s1 s2 s3 errs_all errs_lt (by kernel_rfl) hf (fsL_ok hL hk hp hq ht) hv ⟨_, Tryd.func4, rfl⟩ run
theorem tr {a b : Int} (h : a = b) : decide (a = b) = true := decide_eq_true h
theorem fl {a b : Int} (h : a ≠ b) : decide (a = b) = false := decide_eq_false h
theorem facts_of {σ : Nat → Int} (hk : Known2 σ rgG []) {F : Fx} (h : ∀ x ∈ F, (match x.1 with | true => decide (x.2.1.den σ = x.2.2.1.den σ) | false => decide (x.2.1.den σ < x.2.2.1.den σ)) = x.2.2.2) : Known2 σ rgG F :=
  ⟨hk.rng, fun q a b t hm => h (q, a, b, t) hm⟩
/-- two bounds that nothing fits both -/
noncomputable def disj : Rg → Rg → Bool
  | (a, b) :: l, (c, d) :: m => (ltI b c || ltI d a) || disj l m
  | _, _ => false
theorem disj_at {σ : Nat → Int} : ∀ {l m : Rg} {n : Nat}, disj l m = true → (∀ (j : Nat) lo hi, l[j]? = some (lo, hi) → lo ≤ σ (n + j) ∧ σ (n + j) ≤ hi) → (∀ (j : Nat) lo hi, m[j]? = some (lo, hi) → lo ≤ σ (n + j) ∧ σ (n + j) ≤ hi) → False
  | [], _, _, h, _, _ => by cases h
  | _ :: _, [], _, h, _, _ => by cases h
  | (a, b) :: l, (c, d) :: m, n, h, h1, h2 => by
    simp only [disj, Bool.or_eq_true, ltI_eq, decide_eq_true_eq] at h
    have q1 := h1 0 a b rfl
    have q2 := h2 0 c d rfl
    rcases h with (h | h) | h
    · omega
    · omega
    · exact disj_at (n := n + 1) h (fun j lo hi hj => by have := h1 (j + 1) lo hi (by simpa using hj); rwa [show n + 1 + j = n + (j + 1) by omega]) (fun j lo hi hj => by have := h2 (j + 1) lo hi (by simpa using hj); rwa [show n + 1 + j = n + (j + 1) by omega])
theorem disj_ok {σ : Nat → Int} {l m : Rg} (h : disj l m = true) (h1 : InRg l σ) (h2 : InRg m σ) : False :=
  disj_at (n := 0) h (fun j lo hi hj => by rw [Nat.zero_add]; exact h1 j lo hi hj) (fun j lo hi hj => by rw [Nat.zero_add]; exact h2 j lo hi hj)
noncomputable def disjOk (k k' : Cls) : Bool := disj k.1 k'.1 || (eqRg k.1 k'.1 && samePs k.2 k'.2)
theorem cls_disj : allL (fun k => allL (fun k' => disjOk k k') cls) cls = true := by kernel_rfl
/-- the same one has the same text -/
theorem same_text {o a b c i o' a' b' c' i' : Int} {s s' : ByteArray} (h : VC o a b c i s) (h' : VC o' a' b' c' i' s') (e0 : o = o') (e1 : a = a') (e2 : b = b') (e3 : c = c') (e4 : i = i') : s = s' := by
  subst e0 e1 e2 e3 e4
  obtain ⟨k, hk, hr, hs⟩ := h.cls
  obtain ⟨k', hk', hr', hs'⟩ := h'.cls
  have pr := allL_mem (allL_mem cls_disj k hk) k' hk'
  unfold disjOk at pr
  rw [Bool.or_eq_true] at pr
  rcases pr with pr | pr
  · exact absurd hr' (fun h2 => disj_ok pr hr h2)
  · simp only [Bool.and_eq_true] at pr
    rw [hs, hs', samePs_eq pr.2]
theorem both {σ : Nat → Int} {W : World} (hL : L0 W) (hk : Known2 σ rgG []) (hp : Told σ 0 11 18 none) (hq : Told σ 5 12 19 none) {t : Bool} (ht : ToldW σ t) {xs : Array Value} (hv : ∀ ρ, VRs σ ρ [ag 0, ag 5, .int .u32 (.var 10)] xs.toList) : Calls Tryd.prog 4 xs W fun e w' => e = .returned (.bool true) ∧ Below W.heap.size W w' := by
  have hp0 := hp
  have hq0 := hq
  cases hp with
  | right h1 hx1 hy1 => cases hq with
    | right h2 hx2 hy2 =>
      have ne : ¬ (σ 0 = σ 5 ∧ σ 1 = σ 6 ∧ σ 2 = σ 7 ∧ σ 3 = σ 8 ∧ σ 4 = σ 9) → σ 11 ≠ σ 12 ∧ σ 18 ≠ σ 19 := fun h =>
        ⟨fun e => h (word_inj h1 h2 (hx1.symm.trans (e.trans hx2))), fun e => h (text_inj h1 h2 (strNo_inj (hy1.trans (e.trans hy2.symm))))⟩
      by_cases e0 : σ 0 = σ 5
      ·
        by_cases e1 : σ 1 = σ 6
        ·
          by_cases e2 : σ 2 = σ 7
          ·
            by_cases e3 : σ 3 = σ 8
            ·
              by_cases e4 : σ 4 = σ 9
              ·
                have ex : σ 11 = σ 12 := by rw [hx1, hx2]; simp only [radix, Nat.reduceAdd, e0, e1, e2, e3, e4]
                have ey : σ 18 = σ 19 := by
                  have ht1 := h1.cls
                  rw [← hy1, ← hy2]
                  congr 1
                  exact same_text h1 h2 e0 e1 e2 e3 e4
                have hf : Known2 σ rgG fEq := facts_of hk (by
                  intro x hx
                  simp only [List.mem_cons, List.not_mem_nil, or_false] at hx
                  rcases hx with rfl | rfl | rfl | rfl | rfl | rfl | rfl
                  · exact tr e0
                  · exact tr e1
                  · exact tr e2
                  · exact tr e3
                  · exact tr e4
                  · exact tr ex
                  · exact tr ey)
                cases t
                · exact fin hL hk hp0 hq0 ht hf req_false hv
                · exact fin hL hk hp0 hq0 ht hf req_true hv
              ·
                have hn := ne (fun h => e4 h.2.2.2.2)
                have hf : Known2 σ rgG fNe4 := facts_of hk (by
                  intro x hx
                  simp only [List.mem_cons, List.not_mem_nil, or_false] at hx
                  rcases hx with rfl | rfl | rfl | rfl | rfl | rfl | rfl
                  · exact tr e0
                  · exact tr e1
                  · exact tr e2
                  · exact tr e3
                  · exact fl e4
                  · exact fl hn.1
                  · exact fl hn.2)
                cases t
                · exact fin hL hk hp0 hq0 ht hf rne4_false hv
                · exact fin hL hk hp0 hq0 ht hf rne4_true hv
            ·
              have hn := ne (fun h => e3 h.2.2.2.1)
              have hf : Known2 σ rgG fNe3 := facts_of hk (by
                intro x hx
                simp only [List.mem_cons, List.not_mem_nil, or_false] at hx
                rcases hx with rfl | rfl | rfl | rfl | rfl | rfl
                · exact tr e0
                · exact tr e1
                · exact tr e2
                · exact fl e3
                · exact fl hn.1
                · exact fl hn.2)
              cases t
              · exact fin hL hk hp0 hq0 ht hf rne3_false hv
              · exact fin hL hk hp0 hq0 ht hf rne3_true hv
          ·
            have hn := ne (fun h => e2 h.2.2.1)
            have hf : Known2 σ rgG fNe2 := facts_of hk (by
              intro x hx
              simp only [List.mem_cons, List.not_mem_nil, or_false] at hx
              rcases hx with rfl | rfl | rfl | rfl | rfl
              · exact tr e0
              · exact tr e1
              · exact fl e2
              · exact fl hn.1
              · exact fl hn.2)
            cases t
            · exact fin hL hk hp0 hq0 ht hf rne2_false hv
            · exact fin hL hk hp0 hq0 ht hf rne2_true hv
        ·
          have hn := ne (fun h => e1 h.2.1)
          have hf : Known2 σ rgG fNe1 := facts_of hk (by
            intro x hx
            simp only [List.mem_cons, List.not_mem_nil, or_false] at hx
            rcases hx with rfl | rfl | rfl | rfl
            · exact tr e0
            · exact fl e1
            · exact fl hn.1
            · exact fl hn.2)
          cases t
          · exact fin hL hk hp0 hq0 ht hf rne1_false hv
          · exact fin hL hk hp0 hq0 ht hf rne1_true hv
      ·
        have hn := ne (fun h => e0 h.1)
        have hf : Known2 σ rgG fNe0 := facts_of hk (by
          intro x hx
          simp only [List.mem_cons, List.not_mem_nil, or_false] at hx
          rcases hx with rfl | rfl | rfl
          · exact fl e0
          · exact fl hn.1
          · exact fl hn.2)
        cases t
        · exact fin hL hk hp0 hq0 ht hf rne0_false hv
        · exact fin hL hk hp0 hq0 ht hf rne0_true hv
theorem law {σ : Nat → Int} {W : World} (hL : L0 W) (hk : Known2 σ rgG []) {p q : Option Nat} (hpo : p = none ∨ p = some 19 ∨ p = some 18) (hqo : q = none ∨ q = some 19 ∨ q = some 18) (hp : Told σ 0 11 18 p) (hq : Told σ 5 12 19 q) {t : Bool} (ht : ToldW σ t) {xs : Array Value} (hv : ∀ ρ, VRs σ ρ [ag 0, ag 5, .int .u32 (.var 10)] xs.toList) : Calls Tryd.prog 4 xs W fun e w' => e = .returned (.bool true) ∧ Below W.heap.size W w' := by
  rcases hpo with rfl | rfl | rfl <;> rcases hqo with rfl | rfl | rfl
  · exact both hL hk hp hq ht hv
  · cases t
    · exact fin hL hk hp hq ht hk r_none_W_false hv
    · exact fin hL hk hp hq ht hk r_none_W_true hv
  · cases t
    · exact fin hL hk hp hq ht hk r_none_R_false hv
    · exact fin hL hk hp hq ht hk r_none_R_true hv
  · cases t
    · exact fin hL hk hp hq ht hk r_W_none_false hv
    · exact fin hL hk hp hq ht hk r_W_none_true hv
  · cases t
    · exact fin hL hk hp hq ht hk r_W_W_false hv
    · exact fin hL hk hp hq ht hk r_W_W_true hv
  · cases t
    · exact fin hL hk hp hq ht hk r_W_R_false hv
    · exact fin hL hk hp hq ht hk r_W_R_true hv
  · cases t
    · exact fin hL hk hp hq ht hk r_R_none_false hv
    · exact fin hL hk hp hq ht hk r_R_none_true hv
  · cases t
    · exact fin hL hk hp hq ht hk r_R_W_false hv
    · exact fin hL hk hp hq ht hk r_R_W_true hv
  · cases t
    · exact fin hL hk hp hq ht hk r_R_R_false hv
    · exact fin hL hk hp hq ht hk r_R_R_true hv
def sb (n0_0 n0_1 n0_2 n0_3 n0_4 n1_0 n1_1 n1_2 n1_3 n1_4 n2 x1 x2 k0 k1 k2 k3 k4 t1 t2 : Int) : Nat → Int := fun i => if i = 0 then n0_0 else if i = 1 then n0_1 else if i = 2 then n0_2 else if i = 3 then n0_3 else if i = 4 then n0_4 else if i = 5 then n1_0 else if i = 6 then n1_1 else if i = 7 then n1_2 else if i = 8 then n1_3 else if i = 9 then n1_4 else if i = 10 then n2 else if i = 11 then x1 else if i = 12 then x2 else if i = 13 then k0 else if i = 14 then k1 else if i = 15 then k2 else if i = 16 then k3 else if i = 17 then k4 else if i = 18 then t1 else if i = 19 then t2 else 0
theorem kb {n0_0 n0_1 n0_2 n0_3 n0_4 n1_0 n1_1 n1_2 n1_3 n1_4 n2 x1 x2 k0 k1 k2 k3 k4 t1 t2 : Int} (h0 : -9223372036854775808 ≤ n0_0 ∧ n0_0 ≤ 9223372036854775807) (h1 : -9223372036854775808 ≤ n0_1 ∧ n0_1 ≤ 9223372036854775807) (h2 : -9223372036854775808 ≤ n0_2 ∧ n0_2 ≤ 9223372036854775807) (h3 : -9223372036854775808 ≤ n0_3 ∧ n0_3 ≤ 9223372036854775807) (h4 : -9223372036854775808 ≤ n0_4 ∧ n0_4 ≤ 9223372036854775807) (h5 : -9223372036854775808 ≤ n1_0 ∧ n1_0 ≤ 9223372036854775807) (h6 : -9223372036854775808 ≤ n1_1 ∧ n1_1 ≤ 9223372036854775807) (h7 : -9223372036854775808 ≤ n1_2 ∧ n1_2 ≤ 9223372036854775807) (h8 : -9223372036854775808 ≤ n1_3 ∧ n1_3 ≤ 9223372036854775807) (h9 : -9223372036854775808 ≤ n1_4 ∧ n1_4 ≤ 9223372036854775807) (h13 : -9223372036854775808 ≤ k0 ∧ k0 ≤ 9223372036854775807) (h14 : -9223372036854775808 ≤ k1 ∧ k1 ≤ 9223372036854775807) (h15 : -9223372036854775808 ≤ k2 ∧ k2 ≤ 9223372036854775807) (h16 : -9223372036854775808 ≤ k3 ∧ k3 ≤ 9223372036854775807) (h17 : -9223372036854775808 ≤ k4 ∧ k4 ≤ 9223372036854775807) (h10 : 0 ≤ n2 ∧ n2 ≤ 4294967295) (h11 : 0 ≤ x1 ∧ x1 ≤ 4294967295) (h12 : 0 ≤ x2 ∧ x2 ≤ 4294967295) : Known2 (sb n0_0 n0_1 n0_2 n0_3 n0_4 n1_0 n1_1 n1_2 n1_3 n1_4 n2 x1 x2 k0 k1 k2 k3 k4 t1 t2) rgG [] := by
  refine ⟨fun i lo hi hr => ?_, fun q a b t hm => by cases hm⟩
  rcases i with _ | _ | _ | _ | _ | _ | _ | _ | _ | _ | _ | _ | _ | _ | _ | _ | _ | _ | i
  · simp at hr; obtain ⟨rfl, rfl⟩ := hr; exact h0
  · simp at hr; obtain ⟨rfl, rfl⟩ := hr; exact h1
  · simp at hr; obtain ⟨rfl, rfl⟩ := hr; exact h2
  · simp at hr; obtain ⟨rfl, rfl⟩ := hr; exact h3
  · simp at hr; obtain ⟨rfl, rfl⟩ := hr; exact h4
  · simp at hr; obtain ⟨rfl, rfl⟩ := hr; exact h5
  · simp at hr; obtain ⟨rfl, rfl⟩ := hr; exact h6
  · simp at hr; obtain ⟨rfl, rfl⟩ := hr; exact h7
  · simp at hr; obtain ⟨rfl, rfl⟩ := hr; exact h8
  · simp at hr; obtain ⟨rfl, rfl⟩ := hr; exact h9
  · simp at hr; obtain ⟨rfl, rfl⟩ := hr; exact h10
  · simp at hr; obtain ⟨rfl, rfl⟩ := hr; exact h11
  · simp at hr; obtain ⟨rfl, rfl⟩ := hr; exact h12
  · simp at hr; obtain ⟨rfl, rfl⟩ := hr; exact h13
  · simp at hr; obtain ⟨rfl, rfl⟩ := hr; exact h14
  · simp at hr; obtain ⟨rfl, rfl⟩ := hr; exact h15
  · simp at hr; obtain ⟨rfl, rfl⟩ := hr; exact h16
  · simp at hr; obtain ⟨rfl, rfl⟩ := hr; exact h17
  · simp at hr
end Go.Proofs.YtphhnhheedbjjaaDoor.codeBack
