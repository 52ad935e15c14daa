/- The evaluator's operations held against the model's, one by one (2): aggregates, slices. -/
import Derived.Test.YtphhnhheedbjjaaGreatDoorEvOps
import Derived.Great.FillDense
set_option linter.unusedVariables false
set_option linter.unusedSimpArgs false
namespace Tk
open Go Go.RowKit

section
variable {P : Program} {σ : Nat → Int} {ρ : Inj} (w : World)
theorem places_ok : ∀ {l : List Field} {pl : List (Nat × Nat)}, fieldPlaces P l = some pl →
    (l.mapM (fun f => (do pure (f.offset, ← Go.sizeOf f.type) : Sem (Nat × Nat)))).run P w = .ok pl w
  | [], pl, h => by simp only [fieldPlaces] at h; cases h; simp
  | f :: l, pl, h => by
    simp only [fieldPlaces] at h
    split at h
    · rename_i n r h1 h2
      cases h
      have ih := places_ok h2
      simp only [List.mapM_cons, Sem.run_bind, szT_ok w h1, Result.andThen_ok, Sem.run_pure, ih]
    · cases h
/-- parts and their places -/
def PRs (σ : Nat → Int) (ρ : Inj) : List (Nat × V) → List (Nat × Value) → Prop
  | [], l => l = []
  | (i, v) :: ps, l => ∃ x l', l = (i, x) :: l' ∧ VR σ ρ v x ∧ PRs σ ρ ps l'
theorem partsV_ok {T : Tm} {ε : Operand → Value} : ∀ {l : List (Nat × Operand)} {ps : List (Nat × V)}, partsV l T = some ps → (∀ x, x ∈ l.map (·.2) → OpR σ ρ T ε x) → PRs σ ρ ps (l.map fun (i, x) => (i, ε x))
  | [], ps, h, _ => by simp only [partsV] at h; cases h; simp [PRs]
  | (i, x) :: l, ps, h, he => by
    simp only [partsV] at h
    split at h
    · rename_i v r h1 h2
      cases h
      simp only [PRs, List.map_cons]
      exact ⟨_, _, rfl, he x (by simp) _ h1, partsV_ok h2 fun y hy => he y (by simp at hy ⊢; exact .inr hy)⟩
    · cases h
theorem putAt_eq (l : List V) (off : Nat) (vs : List V) : putAt l off vs = l.take off ++ (vs ++ l.drop (off + vs.length)) := by
  simp only [putAt, appL_eq, takeL_eq, dropL_eq, lenL_eq]
theorem fill_ok (place : Nat → Option (Nat × Nat)) : ∀ {ps : List (Nat × V)} {xs : List (Nat × Value)} {cells cs : List V} {A : Array Value}, fillV place cells ps = some cs → PRs σ ρ ps xs → VRs σ ρ cells A.toList →
    ∃ r, Instr.fill place A xs = some r ∧ VRs σ ρ cs r.toList
  | [], xs, cells, cs, A, h, hp, hc => by
    simp only [fillV] at h
    cases h
    simp only [PRs] at hp
    subst hp
    exact ⟨A, rfl, hc⟩
  | (i, v) :: ps, xs, cells, cs, A, h, hp, hc => by
    simp only [PRs] at hp
    obtain ⟨x, l', rfl, hv, hp⟩ := hp
    simp only [fillV] at h
    rcases hju : isJunk v with _ | _
    case true => simp only [hju] at h; cases h
    simp only [hju] at h
    cases hpl : place i with
    | none => rw [hpl] at h; cases h
    | some q =>
      obtain ⟨off, size⟩ := q
      rw [hpl] at h
      simp only [] at h
      split at h
      · rename_i e
        simp only [Bool.and_eq_true, lenL_eq] at e
        have e1 := beqN e.1
        have e2 := bleN e.2
        have hx := cells_ok hju hv
        have hxl : x.cells.size = size := by rw [← e1, ← hx.length]; simp
        have hAl : A.size = cells.length := by rw [← hc.length]; simp
        obtain ⟨g1, g2⟩ := Great.foldl_set off x.cells.toList 0 A
        have hnew : VRs σ ρ (putAt cells off v.cells) ((x.cells.toList.zipIdx 0).foldl (fun cs (x : Value × Nat) => cs.setIfInBounds (off + x.2) x.1) A).toList := by
          rw [putAt_eq]
          have : ((x.cells.toList.zipIdx 0).foldl (fun cs (x : Value × Nat) => cs.setIfInBounds (off + x.2) x.1) A).toList = A.toList.take off ++ (x.cells.toList ++ A.toList.drop (off + v.cells.length)) := by
            apply List.ext_getElem?
            intro k
            rw [Array.getElem?_toList, g2 k]
            simp only [List.getElem?_append, List.getElem?_take, List.getElem?_drop, List.length_take, List.length_append, List.length_drop, Array.length_toList, Nat.add_zero]
            have hxl' : x.cells.toList.length = size := by simpa using hxl
            by_cases c1 : k < off
            · rw [if_neg (by omega), if_pos (by omega), if_pos (by omega), Array.getElem?_toList]
            · by_cases c2 : k < off + size
              · rw [if_pos (by omega), if_neg (by omega), if_pos (by omega)]
                congr 1; omega
              · rw [if_neg (by omega), if_neg (by omega), if_neg (by omega), Array.getElem?_toList]
                congr 1; omega
          rw [this]
          exact (hc.take off).append (hx.append (hc.drop _))
        obtain ⟨r, hr, hvr⟩ := fill_ok place h hp hnew
        refine ⟨r, ?_, hvr⟩
        unfold Instr.fill
        simp only [hpl]
        rw [if_neg (by simp [hxl, hAl]; omega)]
        rw [← hr]
        congr 1
        rw [← Array.foldl_toList]
        simp
      · cases h
theorem aggO_ok {o : Option (List V)} {v : V} (h : aggO o = some v) : ∃ l, o = some l ∧ v = .agg l := by
  cases o with
  | none => cases h
  | some l => exact ⟨l, rfl, (Option.some.inj h).symm⟩
theorem sParts_q {op : Op} {ps : Array (Nat × Operand)} {f : List (Nat × V) → H → Option (V × H)} (hops : op.operands.toList = ps.toList.map (·.2))
    (hf : ∀ (W0 : World) (h h' : H) (qs : List (Nat × V)) (v : V) (ρ : Inj) (W : World) (ε : Operand → Value) (o : Oper), o.op = op → f qs h = some (v, h') → PRs σ ρ qs (ps.toList.map fun (i, x) => (i, ε x)) → Rel σ W0 ρ h W →
      h' = h ∧ ∃ x, (execOp ε o).run P W = .ok (.value x) W ∧ VR σ ρ v x) :
    GoodQ P σ op (sParts f ps.toList) := by
  intro W0 T h v h' ρ W ε o ho hs hε R
  simp only [sParts] at hs
  split at hs
  · rename_i qs hq
    exact hf W0 h h' qs v ρ W ε o ho hs (partsV_ok hq fun x hx => hε x (by rw [hops]; exact hx)) R
  · cases hs
theorem sParts_m {op : Op} {ps : Array (Nat × Operand)} {f : List (Nat × V) → H → Option (V × H)} (hops : op.operands.toList = ps.toList.map (·.2))
    (hf : ∀ (h h' : H) (qs : List (Nat × V)) (v : V) (ρ : Inj) (W : World) (ε : Operand → Value) (o : Oper), o.op = op → f qs h = some (v, h') → PRs σ ρ qs (ps.toList.map fun (i, x) => (i, ε x)) → ρ h.next = none →
      ∃ x obj ob tot, (execOp ε o).run P W = .ok (.value x) (W.alloc obj) ∧ h' = h.new ob ∧ ob.free = true ∧
      ObR σ (ρ.plus h.next ⟨W.heap.size, 0, tot⟩) (W.alloc obj) ⟨W.heap.size, 0, tot⟩ ob ∧ VR σ (ρ.plus h.next ⟨W.heap.size, 0, tot⟩) v x) :
    GoodM P σ op (sParts f ps.toList) := by
  intro T h v h' ρ W ε o ho hs hε R
  simp only [sParts] at hs
  split at hs
  · rename_i qs hq
    exact hf h h' qs v ρ W ε o ho hs (partsV_ok hq fun x hx => hε x (by rw [hops]; exact hx)) R
  · cases hs
theorem map_parts (ps : Array (Nat × Operand)) (ε : Operand → Value) : (ps.map fun (x : Nat × Operand) => (x.1, ε x.2)).toList = ps.toList.map fun (i, x) => (i, ε x) := by simp
end

section
variable {P : Program} {σ : Nat → Int}
theorem good_build (t : TypeId) (ps : Array (Nat × Operand)) : GoodQ P σ (.build t ps) (sParts (fun ps h => keepH (buildP P t ps) h) ps.toList) :=
  sParts_q (by simp [Op.operands]) fun W0 h h' qs v ρ W ε o ho hf hq R => by
    obtain ⟨hb, rfl⟩ := keepH_ok hf
    unfold buildP at hb
    rcases hz : zeroT P t with _ | z
    · simp only [hz] at hb; cases hb
    rcases hun : P.underlying t with _ | d
    · simp only [hz, hun] at hb; cases hb
    obtain ⟨i, x, hi, hx, hv, hrun⟩ := zeroT_ok (σ := σ) (ρ := ρ) W hz
    have hzc := zcells_ok hz hv
    cases d <;> simp only [hz, hun] at hb <;> try (cases hb; done)
    case array len e =>
      rcases hsz : szT P e with _ | n
      · simp only [hsz] at hb; cases hb
      simp only [hsz] at hb
      obtain ⟨l, hl, rfl⟩ := aggO_ok hb
      obtain ⟨r, hr, hvr⟩ := fill_ok _ hl hq hzc
      refine ⟨rfl, .agg r, ?_, by simp only [VR]; exact ⟨r, rfl, hvr⟩⟩
      simp [execOp, ho, Instr.build, hrun, run_underlying hun, szT_ok W hsz, hr]
    case struct fields =>
      rcases hpl : fieldPlaces P fields.toList with _ | pl
      · simp only [hpl] at hb; cases hb
      simp only [hpl] at hb
      obtain ⟨l, hl, rfl⟩ := aggO_ok hb
      have e : (nthL pl) = (fun i => pl.toArray[i]?) := by funext i; rw [nthL_eq]; simp
      rw [e] at hl
      obtain ⟨r, hr, hvr⟩ := fill_ok _ hl hq hzc
      refine ⟨rfl, .agg r, ?_, by simp only [VR]; exact ⟨r, rfl, hvr⟩⟩
      have hm : (fields.mapM (fun f => (do pure (f.offset, ← Go.sizeOf f.type) : Sem (Nat × Nat)))).run P W = .ok pl.toArray W := by
        rw [Array.mapM_eq_mapM_toList, map_eq_pure_bind, Sem.run_bind, places_ok W hpl]
        simp
      have hb : (Instr.build t (ps.map fun (i, x) => (i, ε x))).run P W = .ok (.agg r) W := by
        simp only [Instr.build, Sem.run_bind, hrun, Result.andThen_ok, run_underlying hun, hm]
        rw [show (ps.map fun (x : Nat × Operand) => (x.1, ε x.2)).toList = ps.toList.map fun (i, x) => (i, ε x) from map_parts ps ε, hr]
        rfl
      simp only [execOp, ho, Sem.run_bind, hb, Result.andThen_ok, Sem.run_pure]
theorem repl_ok {ρ : Inj} {z : List V} {x : Array Value} (h : VRs σ ρ z x.toList) (hpos : 0 < x.size) : ∀ n, VRs σ ρ (repl n z) ((Array.range (n * x.size)).map (x[· % x.size]!)).toList
  | 0 => by simp [repl]; exact VRs.nil
  | n + 1 => by
    have e : repl (n + 1) z = z ++ repl n z := by simp only [repl, appL_eq]
    rw [e]
    have : ((Array.range ((n + 1) * x.size)).map (x[· % x.size]!)).toList = x.toList ++ ((Array.range (n * x.size)).map (x[· % x.size]!)).toList := by
      apply List.ext_getElem?
      intro k
      simp only [Array.toList_map, Array.toList_range, List.getElem?_append, List.getElem?_map, Array.length_toList]
      by_cases c : k < x.size
      · rw [if_pos c, List.getElem?_range (by rw [Nat.add_mul]; omega)]
        simp [Nat.mod_eq_of_lt c, c]
      · rw [if_neg c]
        by_cases c2 : k < (n + 1) * x.size
        · rw [List.getElem?_range c2, List.getElem?_range (by rw [Nat.add_mul] at c2; omega)]
          simp only [Option.map_some]
          congr 2
          rw [Nat.mod_eq_sub_mod (by omega)]
        · rw [List.getElem?_eq_none (by simp; omega), List.getElem?_eq_none (by simp; rw [Nat.add_mul] at c2; omega)]
    rw [this]
    exact h.append (repl_ok h hpos n)
theorem range_none (f : Nat → Value) : Array.map f (Array.range 0) = #[] := by simp [Array.range]
theorem withNew_ok {h : Option H} {u v : V} {h' : H} (e : withNew h u = some (v, h')) : h = some h' ∧ v = u := by
  cases h with
  | none => cases e
  | some k => simp only [withNew, Option.some.injEq, Prod.mk.injEq] at e; exact ⟨by rw [e.2], e.1.symm⟩
/-- a slice of a new block -/
theorem vr_new_slice (ρ : Inj) (r b len cap esz tot : Nat) (ex : Bool) (cap' : Nat) (h1 : cap ≤ cap') (h2 : ex = true → cap' = cap) (h3 : ex = false → cap' * esz = tot) :
    VR σ (ρ.plus r ⟨b, 0, tot⟩) (.slice r 0 len cap esz ex) (.slice (some ⟨b, 0, none⟩) len cap') := by
  simp only [VR]
  exact ⟨_, cap', by simp [Inj.plus]; rfl, by simp, h1, h2, fun h => by simpa using h3 h⟩
theorem good_buildSlice (t : TypeId) (n : Nat) (ps : Array (Nat × Operand)) : GoodM P σ (.buildSlice t n ps) (sParts (buildSliceP P t n) ps.toList) :=
  sParts_m (by simp [Op.operands]) fun h h' qs v ρ W ε o ho hf hq R => by
    unfold buildSliceP at hf
    rcases hel : elemT P t with _ | e
    · simp only [hel] at hf; cases hf
    rcases hsz : szT P e with _ | sz
    · simp only [hel, hsz] at hf; cases hf
    rcases hz : zeroT P e with _ | z
    · simp only [hel, hsz, hz] at hf; cases hf
    simp only [hel, hsz, hz] at hf
    rcases hc : (Nat.beq (lenL z.cells) sz && Nat.ble (n * sz) (2 ^ 24)) with _ | _
    · simp only [hc] at hf; cases hf
    simp only [hc] at hf
    simp only [Bool.and_eq_true, lenL_eq] at hc
    have c1 := beqN hc.1
    have c2 := bleN hc.2
    obtain ⟨i, x, hi, hx, hv, hrun⟩ := zeroT_ok (σ := σ) (ρ := ρ) W hz
    have hzc := zcells_ok hz hv
    have hxs : x.cells.size = sz := by rw [← c1, ← hzc.length]; simp
    split at hf
    · rename_i cs hcs
      split at hf
      · obtain ⟨hn, rfl⟩ := withNew_ok hf
        have hpos : 0 < sz := by
          rcases Nat.eq_zero_or_pos sz with h0 | h0
          · subst h0; cases hn
          · exact h0
        have hrep : VRs σ ρ (repl n z.cells) ((Array.range (n * sz)).map (x.cells[· % x.cells.size]!)).toList := by
          have := repl_ok hzc (by omega) n
          rw [hxs] at this ⊢; exact this
        obtain ⟨r, hr, hvr⟩ := fill_ok _ hcs hq hrep
        obtain ⟨ob, S1, S2, S3⟩ := newCells_mk R hn hvr (rest := []) e W
        simp only [List.append_nil, Array.toArray_toList, List.length_nil, Nat.add_zero] at S3
        refine ⟨.slice (some ⟨W.heap.size, 0, none⟩) n n, _, ob, _, ?_, S1, S2, S3, vr_new_slice ρ _ _ _ _ _ _ true n (Nat.le_refl _) (fun _ => rfl) (fun k => by cases k)⟩
        have hbig : ¬ n * sz > 2 ^ 24 := by omega
        by_cases h0 : n * sz = 0
        · have hn0 : n = 0 := by
            rcases Nat.mul_eq_zero.1 h0 with h | h
            · exact h
            · omega
          subst hn0
          have e0 : ∀ f : Nat → Value, (Array.range (0 * sz)).map f = #[] := fun f => by simp
          rw [e0] at hr
          have hr' : Instr.fill (fun i => some (i * sz, sz)) #[] (List.map (fun x => (x.fst, ε x.snd)) ps.toList) = some r := hr
          simp [execOp, ho, Instr.buildSlice, run_underlying (elemT_ok hel), szT_ok W hsz, newRow, newObj, Sem.run, hr', range_none]
        · simp [execOp, ho, Instr.buildSlice, run_underlying (elemT_ok hel), szT_ok W hsz, newRow, newObj, Sem.run, h0, hbig, hrun, hr]
      · cases hf
    · cases hf
theorem int_nat_ok {ρ : Inj} {v : V} {n : Nat} {x : Value} (h : natOf v = some n) (hx : VR σ ρ v x) : (asInt x).run P = fun w => .ok (n : Int) w := by
  obtain ⟨k, rfl⟩ := natOf_ok h hx
  funext w
  simp [asInt, asIntOf]
theorem wrap64_nat (n : Nat) (h : n ≤ 2 ^ 62) : IntKind.i64.wrap (n : Int) = n := IntWalk.i64_in _ (by omega)
theorem symLen_ok {Γ : Cx} (G : GoodCx σ Γ) {ρ : Inj} {bytes : Nat} {l c : V} {e : E} {x y : Value} (h : symLen Γ bytes l c = some e) (hx : VR σ ρ l x) (hy : VR σ ρ c y) :
    ∃ n : Nat, e.den σ = (n : Int) ∧ x = .int .i64 n ∧ y = .int .i64 n ∧ n ≤ 2 ^ 31 ∧ bytes * n ≤ 2 ^ 47 := by
  unfold symLen at h
  split at h
  · rename_i k a k' b
    split at h
    · rename_i hc
      split at h
      · rename_i m hrg
        split at h
        · rename_i hm
          cases h
          simp only [Bool.and_eq_true] at hc hm
          have e1 := eqK_eq hc.1.1
          have e2 := eqK_eq hc.1.2
          have e3 := eqE_eq hc.2
          subst e1 e2 e3
          obtain ⟨r0, r2⟩ := boundN_ok G hrg
          obtain ⟨n, hn⟩ := Int.eq_ofNat_of_zero_le r0
          rw [hn] at r2
          have r3 : n ≤ m := Int.ofNat_le.1 r2
          simp only [VR] at hx hy
          exact ⟨n, hn, by rw [hx, hn], by rw [hy, hn], Nat.le_trans r3 (bleN hm.1), Nat.le_trans (Nat.mul_le_mul_left _ r3) (bleN hm.2)⟩
        · cases h
      · cases h
    · cases h
  · cases h
theorem good_makeSlice {Γ : Cx} (G : GoodCx σ Γ) (t : TypeId) (l c : Operand) : GoodM P σ (.makeSlice t l c) (s2 (makeSliceP Γ P t) l c) :=
  make_s2 (by simp [Op.operands]) (by simp [Op.operands]) fun h h' a b v ρ W ε o ho hf ha hb R => by
    unfold makeSliceP at hf
    rcases hel : elemT P t with _ | e
    · simp only [hel] at hf; cases hf
    rcases hi : P.info? e with _ | i
    · simp only [hel, hi] at hf; cases hf
    rcases hz : zeroT P e with _ | z
    · simp only [hel, hi, hz] at hf; cases hf
    simp only [hel, hi, hz] at hf
    rcases hc : (Nat.beq (lenL z.cells) i.size && allL V.scalar z.cells) with _ | _
    · simp only [hc] at hf; cases hf
    simp only [hc] at hf
    simp only [Bool.and_eq_true, lenL_eq] at hc
    have c1 := beqN hc.1
    obtain ⟨i', x, hi', hx, hv, hrun⟩ := zeroT_ok (σ := σ) (ρ := ρ) W hz
    rw [hi] at hi'; cases hi'
    have hzc := zcells_ok hz hv
    have hxs : x.cells.size = i.size := by rw [← c1, ← hzc.length]; simp
    split at hf
    · rename_i n m en em
      split at hf
      · rename_i hb1
        simp only [Bool.and_eq_true] at hb1
        have b1 := bleN hb1.1.1
        have b2 := bleN hb1.1.2
        have b3 := bleN hb1.2
        obtain ⟨hn, rfl⟩ := withNew_ok hf
        have hpos : 0 < i.size := by
          rcases Nat.eq_zero_or_pos i.size with h0 | h0
          · rw [h0] at hn; cases hn
          · exact h0
        have hrep : VRs σ ρ (repl m z.cells) ((Array.range (m * i.size)).map (x.cells[· % x.cells.size]!)).toList := by
          have := repl_ok hzc (by omega) m
          rw [hxs] at this ⊢; exact this
        obtain ⟨ob, S1, S2, S3⟩ := newCells_mk R hn hrep (rest := []) e W
        simp only [List.append_nil, Array.toArray_toList, List.length_nil, Nat.add_zero] at S3
        refine ⟨.slice (some ⟨W.heap.size, 0, none⟩) n m, _, ob, _, ?_, S1, S2, S3, vr_new_slice ρ _ _ _ _ _ _ true m (Nat.le_refl _) (fun _ => rfl) (fun k => by cases k)⟩
        have hl := int_nat_ok (P := P) en ha
        have hcc := int_nat_ok (P := P) em hb
        have wn := wrap64_nat n (by omega)
        have wm := wrap64_nat m (by omega)
        have hb4 : ¬ ((i.bytes : Int) * (m : Int) > 2 ^ 48) := by
          have : (i.bytes : Int) * (m : Int) = ((i.bytes * m : Nat) : Int) := by simp
          rw [this]; omega
        have hlt : ¬ ((n : Int) > (m : Int)) := by omega
        by_cases h0 : m * i.size = 0
        · have hm0 : m = 0 := by
            rcases Nat.mul_eq_zero.1 h0 with h | h
            · exact h
            · omega
          subst hm0
          have hn0 : n = 0 := by omega
          subst hn0
          simp [execOp, ho, Instr.makeSlice, run_underlying (elemT_ok hel), hl, hcc, typeInfo, hi, newRow, newObj, Sem.run, IntKind.wrap, IntKind.signed, IntKind.bits, askRoom, Go.sizeOf, roomBytes, range_none]
        · have hmul : ¬ (m * i.bytes > roomBytes) := by rw [Nat.mul_comm]; simp [roomBytes]; omega
          have hb5 : ¬ (281474976710656 < (i.bytes : Int) * (m : Int)) := by omega
          have hm0 : ¬ (m : Int) < 0 := by omega
          have hn0 : ¬ (n : Int) < 0 := by omega
          have hle : ¬ (m < n) := by omega
          simp [execOp, ho, Instr.makeSlice, run_underlying (elemT_ok hel), hl, hcc, typeInfo, hi, newRow, newObj, Sem.run, wn, wm, hb5, hm0, hn0, hle, askRoom, hmul, Go.sizeOf, h0, hrun, hxs]
      · cases hf
    · unfold makeSym at hf
      split at hf
      · cases hf
      · rename_i s hs
        split at hf
        · rename_i en hen
          simp only [Option.some.injEq, Prod.mk.injEq] at hf
          obtain ⟨rfl, rfl⟩ := hf
          obtain ⟨m, hden, el, ec, b2, b3⟩ := symLen_ok G hen ha hb
          have hn : h.newCells (s + 1) [] = some (h.new (.cells (s + 1) [] false)) := rfl
          obtain ⟨ob, S1, S2, S3⟩ := newCells_mk R hn (VRs.nil (σ := σ)) (rest := ((Array.range (m * i.size)).map (x.cells[· % x.cells.size]!)).toList) e W
          simp only [List.nil_append, Array.toArray_toList, List.length_nil, Nat.zero_add] at S3
          refine ⟨.slice (some ⟨W.heap.size, 0, none⟩) m m, _, ob, _, ?_, S1, S2, S3, ?_⟩
          · have hl : (asInt (ε l)).run P = fun w => .ok (m : Int) w := by funext w; simp [asInt, asIntOf, el]
            have hcc : (asInt (ε c)).run P = fun w => .ok (m : Int) w := by funext w; simp [asInt, asIntOf, ec]
            have wm := wrap64_nat m (by omega)
            have hb4 : ¬ ((i.bytes : Int) * (m : Int) > 2 ^ 48) := by
              have : (i.bytes : Int) * (m : Int) = ((i.bytes * m : Nat) : Int) := by simp
              rw [this]; omega
            have hlt : ¬ ((m : Int) > (m : Int)) := by omega
            by_cases h0 : m * i.size = 0
            · have hm0 : m = 0 := by
                rcases Nat.mul_eq_zero.1 h0 with h | h
                · exact h
                · omega
              subst hm0
              simp [execOp, ho, Instr.makeSlice, run_underlying (elemT_ok hel), hl, hcc, typeInfo, hi, newRow, newObj, Sem.run, IntKind.wrap, IntKind.signed, IntKind.bits, askRoom, Go.sizeOf, roomBytes, range_none]
            · have hmul : ¬ (m * i.bytes > roomBytes) := by rw [Nat.mul_comm]; simp [roomBytes]; omega
              have hb5 : ¬ (281474976710656 < (i.bytes : Int) * (m : Int)) := by omega
              have hm0 : ¬ (m : Int) < 0 := by omega
              have hle : ¬ (m < m) := by omega
              simp [execOp, ho, Instr.makeSlice, run_underlying (elemT_ok hel), hl, hcc, typeInfo, hi, newRow, newObj, Sem.run, wm, hb5, hm0, hle, askRoom, hmul, Go.sizeOf, h0, hrun, hxs]
          · simp only [VR]
            exact ⟨_, m, m, rfl, hden.symm⟩
        · cases hf
end
end Tk
