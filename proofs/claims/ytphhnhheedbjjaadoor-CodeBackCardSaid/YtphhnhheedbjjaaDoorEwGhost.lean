/- A call of which the answer is told by numbers of its own: what it is stands elsewhere. -/
import Derived.Test.YtphhnhheedbjjaaDoorEwTab
set_option linter.unusedVariables false
set_option linter.unusedSimpArgs false
namespace Tk
open Go Go.RowKit
/-- the answer vG, where the call of m is one of these arguments -/
noncomputable def ghostFn (Γ : Cx) (fix : Nat) (m : Sym) (as : List V) (vG : V) : Fn := fun args h => match eqRow as args with
  | true => match symTry Γ fix m args h with
    | some r => some (vG, r.2)
    | none => none
  | false => none
theorem ghost_fn_ok {P : Program} {G : Nat} {σ : Nat → Int} {Γ : Cx} {W0 : World} {f : FuncId} {fix : Nat} {m : Sym} {as : List V} {vG : V} {Q : (Nat → Int) → Prop} (Gd : GoodCx σ Γ) (hG : G < 2 ^ fix)
    (hl : listed m.names m.pre.tr 0 1 = true) (hq : ∀ b : Bd, renVs Γ b m.args = as → Q (b.val σ))
    (hm : ∀ τ : Nat → Int, Q τ → Known2 τ m.rng [] → ∃ v, MemoOk P G τ W0 f ⟨m.args, m.pre, v, m.post⟩ ∧ ∀ (ρ ρ' : Inj) x, (∀ r l, r < fix → ρ r = some l → ρ' r = some l) → VR τ ρ v x → VR σ ρ' vG x) :
    CallOk P G σ W0 f (ghostFn Γ fix m as vG) := by
  intro vs xs h v h' ρ W e hv R g
  have hlist : ∀ (i : Nat) (o : Ob), m.pre.tr.get i = some o → i ∈ m.names := fun i o hg => by
    have := listed_get hl i o hg
    rw [Nat.zero_add, Nat.one_mul] at this
    exact this
  unfold ghostFn at e
  split at e
  rotate_left
  · cases e
  rename_i ea
  split at e
  rotate_left
  · cases e
  rename_i r er
  simp only [Option.some.injEq, Prod.mk.injEq] at e
  obtain ⟨rfl, rfl⟩ := e
  unfold symTry at er
  split at er
  · cases er
  rename_i e0
  simp only [Bool.and_eq_true] at e0
  split at er
  · cases er
  rename_i b1 hb1
  split at er
  · cases er
  rename_i b hb2
  split at er
  · cases er
  rename_i e3
  split at er
  · cases er
  rename_i e4
  split at er
  · cases er
  rename_i e5
  split at er
  · cases er
  rename_i e6
  cases er
  have hok0 : Bd.Ok { fix, n0 := m.pre.next, n1 := h.next, nm := .lf, us := .lf, vs := .lf } := ⟨fun r k hr => by
    have hr : (Tr.lf : Tr Nat).get r = some k := hr
    rw [Tr.get_lf] at hr; cases hr⟩
  have k1 := matchRow_ok (Γ := Γ) hb1 hok0
  have k2 := matchBlks_ok (Γ := Γ) (L := m.names) (fun r hr => hr) hb2 k1.1
  have hb : b.Ok := k2.1
  have hle := k1.2.1.trans k2.2.1
  have hargs := k1.2.2 b k2.2.1 hb
  have hblk := k2.2.2 b (Bd.Le.refl _) hb
  have ef : b.fix = fix := hle.fix
  have en0 : b.n0 = m.pre.next := hle.n0
  have en1 : b.n1 = h.next := hle.n1
  have f0 : b.fix ≤ b.n0 := by rw [ef, en0]; exact bleN e0.1
  have f1 : b.fix ≤ b.n1 := by rw [ef, en1]; exact bleN e0.2
  have low := fun (i : Nat) (o : Ob) (hg : h.tr.get i = some o) => lowTr_get e6 i o hg
  simp only [Nat.zero_add, Nat.one_mul] at low
  have hlow : ∀ (i : Nat) (o : Ob), h.tr.get i = some o → i < h.next := by
    intro i o hg
    rcases low i o hg with ⟨q, _⟩ | ⟨_, q, _⟩
    · have := bleN e0.2; omega
    · exact q
  have A : Stands Γ b m.names h.tr m.pre.tr h.tr := by
    refine ⟨fun r o hg => ?_, fun r o hg => ?_, fun k o hg => ?_⟩
    · obtain ⟨_, _, q, _⟩ := hblk r (hlist r o hg)
      exact q
    · obtain ⟨o', q1, _, q3⟩ := hblk r (hlist r o hg)
      rw [hg] at q1
      cases q1
      exact q3
    · by_cases hk : ∃ r, b.Own m.names r ∧ k = b.ren r
      · obtain ⟨r, hr, rfl⟩ := hk
        left
        have hsome : ∃ o', m.pre.tr.get r = some o' := by
          have hlt := hlow _ _ hg
          rcases hr with a | ⟨a, _⟩ | a
          · rcases low _ _ hg with ⟨q1, o', q2⟩ | ⟨q1, q2, q3⟩
            · rw [Bd.ren_fix a] at q2; exact ⟨o', q2⟩
            · rw [Bd.ren_fix a] at q1; omega
          · obtain ⟨o', q, _⟩ := hblk r a; exact ⟨o', q⟩
          · rw [Bd.ren_own a (by omega)] at hlt; omega
        obtain ⟨o', ho'⟩ := hsome
        obtain ⟨o2, q1, _, q3⟩ := hblk r (hlist r o' ho')
        rw [ho'] at q1
        cases q1
        rw [hg] at q3
        cases q3
        exact ⟨r, o', hr, rfl, ho', rfl⟩
      · exact .inr ⟨fun r hr e => hk ⟨r, hr, e⟩, hg⟩
  have hfree : ∀ (i : Nat) (o : Ob), h.tr.get i = some o → (∀ r, b.Own m.names r → i ≠ b.ren r) → o.free = true ∨ o.arg = true := by
    intro i o hg hi
    rcases low i o hg with ⟨q, _⟩ | ⟨_, _, q⟩
    · exact absurd (Bd.ren_fix (by omega)).symm (hi i (.inl (by omega)))
    · exact Ob.okHigh_or q
  have A' : Stands Γ b m.names h.tr m.post.tr (upA Γ b m.ups h.tr) := A.ups hb f0 f1 m.ups e5
  have h0 : Q (b.val σ) := hq b (hargs.trans (eqRow_eq ea).symm)
  have hval : Known2 (b.val σ) m.rng [] := by
    refine ⟨fun i lo hi hi' => ?_, fun q a b t hm => by cases hm⟩
    have := rngIn_ok Gd e3 i lo hi hi'
    rw [Nat.zero_add] at this
    exact this
  have hR : Rel (b.val σ) W0 (fun r => ρ (b.ren r)) m.pre W := by
    refine ⟨R.below, fun r hr => ?_, fun r l hl => R.blk _ l hl, fun r o l hg hl => ?_, fun r r' o o' l l' hg hg' hne hl hl' => ?_⟩
    · show ρ (b.ren r) = none
      rw [Bd.ren_own (by omega) (by omega)]
      exact R.dom _ (by omega)
    · obtain ⟨q1, q2⟩ := R.obs _ _ l (A.emb r o hg) hl
      exact ⟨renOb_in Gd o q1, (renOb_place Γ b o).1 q2⟩
    · rcases R.apart _ _ _ _ l l' (A.emb r o hg) (A.emb r' o' hg') (fun e => hne (Bd.ren_inj hb f0 f1 (A.own r o hg) (A.own r' o' hg') e)) hl hl' with q | ⟨q1, q2, q3⟩
      · exact .inl q
      · rw [renOb_free] at q1 q2
        rw [renOb_rows, renOb_rows, renOb_arg, renOb_arg] at q3
        exact .inr ⟨q1, q2, q3⟩
  have hg : Glob G (fun r => ρ (b.ren r)) := fun k hk => by
    have : k < fix := bit_lt hG hk
    show ∃ t, ρ (b.ren k) = _
    rw [Bd.ren_fix (by omega)]
    exact g k hk
  have hv' : VRs (b.val σ) (fun r => ρ (b.ren r)) m.args xs.toList := by
    refine renVs_in Gd _ _ ?_
    rw [hargs]; exact hv
  obtain ⟨vL, hrun, hV⟩ := hm (b.val σ) h0 hval
  obtain ⟨nx, W1, h1, h2⟩ := hrun xs _ W hv' hR hg
  refine ⟨nx, W1, h1, ?_⟩
  rcases h2 with ⟨q1, q2, hc⟩ | ⟨x, ρ', q1, hx, S⟩
  · refine .inl ⟨q1, q2, hc.mono ?_⟩
    rintro e w' ⟨x, ρ', he, hx, S⟩
    obtain ⟨ρ2, S2, hin⟩ := Stp.moved Gd hb f0 f1 en1 R S en0.symm A hlow hfree A'
    exact ⟨x, ρ2, he, hV _ _ _ (fun r l hr h => by have := hin r l h; rwa [Bd.ren_fix (by omega)] at this) hx, S2⟩
  · obtain ⟨ρ2, S2, hin⟩ := Stp.moved Gd hb f0 f1 en1 R S en0.symm A hlow hfree A'
    exact .inr ⟨x, ρ2, q1, hV _ _ _ (fun r l hr h => by have := hin r l h; rwa [Bd.ren_fix (by omega)] at this) hx, S2⟩
/-- a struct of five whole numbers that is handed in -/
theorem open_instr {H : Type} {enc : TypeId × Value → H} {P : Program} {W : World} {r : Reach} {b0 : Nat} {held : Bool} {t : TypeId} {f0 f1 f2 f3 f4 : Field} {v : Value} {d : DataW H} {ps : List MemPlace}
    (hs : P.underlying t = some (.struct #[f0, f1, f2, f3, f4])) (hC : P.cellsOf t = 5) (ho : f0.offset = 0 ∧ f1.offset = 1 ∧ f2.offset = 2 ∧ f3.offset = 3 ∧ f4.offset = 4)
    (ht : f1.type = f0.type ∧ f2.type = f0.type ∧ f3.type = f0.type) (hI : P.underlying f0.type = some (.int .i64)) (hU : P.underlying f4.type = some (.int .i64)) (cI : P.cellsOf f0.type = 1) (cU : P.cellsOf f4.type = 1)
    (hval : Value.okWide P W r b0 t v) (hd : DataW.Trod enc P W 0 (fun _ => true) held t v d ps) :
    ∃ a b c e g : Int, v = .agg #[.int .i64 a, .int .i64 b, .int .i64 c, .int .i64 e, .int .i64 g] ∧ (Lit.int .i64 a).wf = true ∧ (Lit.int .i64 b).wf = true ∧ (Lit.int .i64 c).wf = true ∧ (Lit.int .i64 e).wf = true ∧ (Lit.int .i64 g).wf = true := by
  obtain ⟨cs, rfl, hsz⟩ := Go.WideShapes.okWide_struct hs hval
  obtain ⟨fuel, hf⟩ := hd
  obtain ⟨xs, n, _, _, _, hxl, hfi⟩ := DataW.trod_struct hs hf
  obtain ⟨o0, o1, o2, o3, o4⟩ := ho
  obtain ⟨t1, t2, t3⟩ := ht
  rw [hC] at hsz
  obtain ⟨l⟩ := cs
  match l, hsz with
  | [y0, y1, y2, y3, y4], _ =>
    have key : ∀ (i : Nat) (fd : Field) (k : IntKind) (y : Value), #[f0, f1, f2, f3, f4][i]? = some fd → P.underlying fd.type = some (.int k) → (([y0, y1, y2, y3, y4] : List Value).drop fd.offset).take (P.cellsOf fd.type) = [y] → i < 5 → ∃ z, y = .int k z ∧ (Lit.int k z).wf = true := by
      intro i fd k y h1 h2 h3 h4
      have h5 := hfi i fd h1
      have h6 : i < xs.length := by rw [hxl]; simpa using h4
      rw [List.getElem?_eq_getElem h6] at h5
      have h7 : (Value.agg ⟨[y0, y1, y2, y3, y4]⟩).cells.toList = [y0, y1, y2, y3, y4] := rfl
      rw [h7, h3] at h5
      obtain ⟨z, e1, _, e2⟩ := DataW.trod_int h2 h5
      exact ⟨z, by simpa using e1, e2⟩
    obtain ⟨a, rfl, wa⟩ := key 0 f0 .i64 y0 rfl hI (by rw [o0, cI]; rfl) (by omega)
    obtain ⟨b, rfl, wb⟩ := key 1 f1 .i64 y1 rfl (by rw [t1]; exact hI) (by rw [o1, t1, cI]; rfl) (by omega)
    obtain ⟨c, rfl, wc⟩ := key 2 f2 .i64 y2 rfl (by rw [t2]; exact hI) (by rw [o2, t2, cI]; rfl) (by omega)
    obtain ⟨e, rfl, we⟩ := key 3 f3 .i64 y3 rfl (by rw [t3]; exact hI) (by rw [o3, t3, cI]; rfl) (by omega)
    obtain ⟨g, rfl, wg⟩ := key 4 f4 .i64 y4 rfl hU (by rw [o4, cU]; rfl) (by omega)
    exact ⟨a, b, c, e, g, rfl, wa, wb, wc, we, wg⟩
end Tk
