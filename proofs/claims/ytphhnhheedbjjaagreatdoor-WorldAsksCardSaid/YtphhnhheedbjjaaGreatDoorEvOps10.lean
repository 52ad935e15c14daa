/- The evaluator's operations held against the model's, one by one (10): what is gone through, assertions; all of them. -/
import Derived.Test.YtphhnhheedbjjaaGreatDoorEvOps9
set_option linter.unusedVariables false
set_option linter.unusedSimpArgs false
namespace Tk
open Go Go.RowKit

section
variable {P : Program} {σ : Nat → Int} {ρ : Inj}
theorem new_ok {W0 : World} {h : H} {W : World} (R : Rel σ W0 ρ h W) (ob : Ob) (o : Obj) (hf : ob.free = true) (hO : ObR σ (ρ.plus h.next ⟨W.heap.size, 0, 0⟩) (W.alloc o) ⟨W.heap.size, 0, 0⟩ ob) :
    ∃ ρ', Stp σ W0 ρ h W ρ' (h.new ob) (W.alloc o) ∧ VR σ ρ' (.ptr h.next 0) (.pointer (some ⟨W.heap.size, 0, none⟩)) := by
  refine ⟨_, alloc_rel R ob o ⟨W.heap.size, 0, 0⟩ rfl hf hO, ?_⟩
  simp only [VR]
  exact ⟨_, by simp [Inj.plus]; rfl, by simp⟩
theorem good_range (t : TypeId) (x : Operand) : Good P σ (.range t x) (s0 (rangeP P t) x) :=
  good_s0 (by simp [Op.operands]) fun W0 h h' u v ρ W ε o ho hf hu R => by
    unfold rangeP at hf
    rcases hun : P.underlying t with _ | d
    · simp only [hun] at hf; cases hf
    cases d <;> simp only [hun] at hf <;> try (cases hf; done)
    case string =>
      split at hf
      · rename_i s
        cases hf
        simp only [VR] at hu
        obtain ⟨ρ', S, hv⟩ := new_ok R (.strIter s 0) (.stringIter (bytesA s) 0) rfl ⟨heap_alloc_new W _, rfl⟩
        exact fine_step (by simp [execOp, ho, Instr.range, run_underlying hun, hu, newObj, Sem.run]) hv S
      · cases hf
    case map k e =>
      split at hf
      · cases hf
        simp only [VR] at hu
        obtain ⟨ρ', S, hv⟩ := new_ok R (.mapIter none 0 [] 0) (.mapIter none 0 #[] 0) rfl ⟨heap_alloc_new W _, (fun r hr => by cases hr), rfl⟩
        exact fine_step (by simp [execOp, ho, Instr.range, run_underlying hun, hu, newObj, Sem.run]) hv S
      · rename_i r
        split at hf
        · rename_i es clock hg
          cases hf
          simp only [VR] at hu
          obtain ⟨L, hL, hu⟩ := hu
          obtain ⟨L', es', hL', h1, h2⟩ := ents_ok R hg ⟨_, hL⟩
          rw [hL] at hL'; cases hL'
          have hget := getObj_ok (P := P) h1 (by simp)
          have hne : r ≠ h.next := fun e => by rw [e, R.dom _ (Nat.le_refl _)] at hL; cases hL
          have hL2 : (ρ.plus h.next ⟨W.heap.size, 0, 0⟩) r = some L := by simp [Inj.plus, hne, hL]
          obtain ⟨ρ', S, hv⟩ := new_ok R (.mapIter (some r) clock [] clock) (.mapIter (some L.blk) clock #[] clock) rfl ⟨by simp only [Option.bind_some, hL2, Option.map_some]; exact heap_alloc_new W _, (fun r' hr => by cases hr; exact ⟨L, hL2⟩), rfl⟩
          exact fine_step (by simp [execOp, ho, Instr.range, run_underlying hun, hu, newObj, Sem.run, hget]) hv S
        · cases hf
      · cases hf
theorem decode_ascii (s : List Nat) (pos c : Nat) (h : s[pos]? = some c) (hc : c ≤ 127) : Utf8.decode (bytesA s) pos = (c, 1) := by
  have hlt : pos < s.length := by
    rcases Nat.lt_or_ge pos s.length with h1 | h1
    · exact h1
    · rw [List.getElem?_eq_none h1] at h; cases h
  have hg : ((bytesA s).get! (pos + 0)).toNat = c := by
    have : (bytesA s).get! pos = UInt8.ofNat c := by
      have hh : s[pos] = c := by rw [List.getElem?_eq_getElem hlt] at h; exact Option.some.inj h
      simp [bytesA, ByteArray.get!, hlt, hh]
    rw [Nat.add_zero, this]
    simp; omega
  unfold Utf8.decode
  simp only [hg]
  rw [if_pos (by omega)]
theorem memN_eq (n : Nat) : ∀ l : List Nat, memN n l = l.contains n
  | [] => rfl
  | m :: l => by
    simp only [memN, List.contains_cons, memN_eq n l]
    split
    · rename_i e
      have := beqN e
      simp [this]
    · rename_i e
      have : n ≠ m := fun k => by subst k; simp at e
      simp [this]
theorem left_ok {seen : List Nat} : ∀ {es : Ents} {l : List MapEntry}, entR σ ρ es l → entR σ ρ (leftOf seen es) (l.filter fun e => !seen.contains e.born)
  | [], l, h => by simp only [entR] at h; subst h; simp [leftOf, entR]
  | (a, b, c) :: es, l, h => by
    simp only [entR] at h
    obtain ⟨a', b', l', rfl, h1, h2, h3⟩ := h
    simp only [leftOf]
    split
    · rename_i e
      rw [memN_eq] at e
      rw [List.filter_cons_of_neg (by simpa using e)]
      exact left_ok h3
    · rename_i e
      rw [memN_eq] at e
      rw [List.filter_cons_of_pos (by simpa using e)]
      simp only [entR]
      exact ⟨a', b', _, rfl, h1, h2, left_ok h3⟩
theorem ent_all {last : Nat} : ∀ {es : Ents} {l : List MapEntry}, entR σ ρ es l → es.all (fun e => Nat.ble last e.2.2) = l.all fun e => decide (e.born ≥ last)
  | [], l, h => by simp only [entR] at h; subst h; rfl
  | (a, b, c) :: es, l, h => by
    simp only [entR] at h
    obtain ⟨a', b', l', rfl, h1, h2, h3⟩ := h
    simp only [List.all_cons, ent_all h3]
    congr 1
    rw [Bool.eq_iff_iff]
    simp [Nat.ble_eq]
theorem ent_nil {es : Ents} {l : List MapEntry} (h : entR σ ρ es l) : es = [] ↔ l = [] := by
  cases es with
  | nil => simp only [entR] at h; simp [h]
  | cons e es => obtain ⟨a, b, c⟩ := e; simp only [entR] at h; obtain ⟨_, _, _, rfl, _⟩ := h; simp
theorem choose_forced (q : Question) (w : World) (h : q.forced = true) : (choose q).run P w = .ok 0 w := by simp [choose, Sem.run, h]
theorem good_next (it : Operand) (s : Bool) : Good P σ (.next it s) (s0 (nextV s) it) :=
  good_s0 (by simp [Op.operands]) fun W0 h h' u v ρ W ε o ho hf hu R => by
    have fin : ∀ {x : Value} {W' : World}, (Instr.next (ε it) s o.type).run P W = .ok x W' → VR σ ρ v x → Stp σ W0 ρ h W ρ h' W' → Fine P σ W0 ε o v ρ h W h' := fun {x W'} q hv S =>
      fine_step (by simp [execOp, ho, q]) hv S
    unfold nextV at hf
    split at hf
    · rename_i r
      simp only [VR] at hu
      obtain ⟨L, hL, hu⟩ := hu
      -- an iterator's place
      split at hf
      · rename_i str pos hg
        obtain ⟨hO, _⟩ := R.obs r _ L hg hL
        obtain ⟨h1, hbase⟩ := hO
        have hget := getObj_ok (P := P) h1 (by simp)
        rw [hbase] at hu
        split at hf
        · rename_i hn
          cases hf
          rw [nthL_eq] at hn
          have hlt : ¬ pos < (bytesA str).size := by rw [bytesA_size]; have := List.getElem?_eq_none_iff.1 hn; omega
          exact fin (x := .tuple #[.bool false]) (by simp [Instr.next, hu, hget, hlt]) (by simp only [VR]; exact ⟨_, rfl, VRs.cons (by simp [VR]) VRs.nil⟩) (Stp.refl R)
        · rename_i c hn
          split at hf
          · rename_i hc
            have hc := bleN hc
            cases hf
            rw [nthL_eq] at hn
            have hlt : pos < (bytesA str).size := by
              rw [bytesA_size]
              rcases Nat.lt_or_ge pos str.length with h2 | h2
              · exact h2
              · rw [List.getElem?_eq_none h2] at hn; cases hn
            have hdec := decode_ascii str pos c hn hc
            have hset := setObj_ok (P := P) (o' := .stringIter (bytesA str) (pos + 1)) h1 (by simp)
            refine fin (x := .tuple #[.bool true, goInt pos, .int .i32 c]) (W' := W.putObj L.blk (.stringIter (bytesA str) (pos + 1))) ?_ ?_ (putOb_ok R hg hL rfl rfl h1 ⟨putObj_get h1, hbase⟩)
            · simp [Instr.next, hu, hget, hlt, hdec, hset]
            · simp only [VR]
              exact ⟨_, rfl, VRs.cons (by simp [VR]) (VRs.cons (by simp [VR, E.den, goInt]) (VRs.cons (by simp [VR, E.den]) VRs.nil))⟩
          · cases hf
      · rename_i since seen last hg
        obtain ⟨hO, _⟩ := R.obs r _ L hg hL
        obtain ⟨h1, _, hbase⟩ := hO
        simp only [Option.bind_none] at h1
        have hget := getObj_ok (P := P) h1 (by simp)
        rw [hbase] at hu
        cases hf
        exact fin (x := .tuple #[.bool false]) (by simp [Instr.next, hu, hget]) (by simp only [VR]; exact ⟨_, rfl, VRs.cons (by simp [VR]) VRs.nil⟩) (Stp.refl R)
      · rename_i m since seen last hg
        obtain ⟨hO, _⟩ := R.obs r _ L hg hL
        obtain ⟨h1, h2, hbase⟩ := hO
        split at hf
        · rename_i es clock hgm
          obtain ⟨M, es', hM, m1, m2⟩ := ents_ok R hgm (h2 m rfl)
          simp only [Option.bind_some, hM, Option.map_some] at h1
          have hget := getObj_ok (P := P) h1 (by simp)
          have hgetm := getObj_ok (P := P) m1 (by simp)
          rw [hbase] at hu
          unfold nextMap at hf
          split at hf
          · cases hf
          rename_i hcond
          have hq : ((!seen.toArray.isEmpty) && (!es'.isEmpty) && es'.all (fun e => decide (e.born ≥ last))) = false := by
            have e1 : es'.all (fun e => decide (e.born ≥ last)) = es.all (fun e => Nat.ble last e.2.2) := by
              rw [ent_all m2, Array.all_toList]
            rw [e1]
            cases seen with
            | nil => simp
            | cons a seen =>
              simp only [orB] at hcond
              cases es with
              | nil =>
                have := (ent_nil m2).1 rfl
                have : es' = #[] := by apply Array.ext'; simpa using this
                subst this
                simp
              | cons e es =>
                simp only [] at hcond
                rw [allL_eq] at hcond
                have : (e :: es).all (fun e => Nat.ble last e.2.2) = false := by
                  cases hh : (e :: es).all (fun e => Nat.ble last e.2.2) with
                  | true => rw [hh] at hcond; cases hcond
                  | false => rfl
                simp [this]
          have hleft := left_ok (seen := seen) m2
          have harr : (es'.filter fun e => !seen.toArray.contains e.born) = ((es'.toList.filter fun e => !seen.contains e.born)).toArray := by
            apply Array.ext'; simp
          split at hf
          · rename_i hl
            cases hf
            rw [hl] at hleft
            simp only [entR] at hleft
            have hempty : (es'.filter fun e => !seen.toArray.contains e.born) = #[] := by rw [harr, hleft]
            refine fin (x := .tuple #[.bool false]) ?_ (by simp only [VR]; exact ⟨_, rfl, VRs.cons (by simp [VR]) VRs.nil⟩) (Stp.refl R)
            simp only [Instr.next, hu, Sem.run_bind, hget, Result.andThen_ok, hgetm, hq, Bool.false_eq_true, if_false, hempty]
            simp [choose_forced, Question.forced]
          · rename_i e hl
            split at hf
            · rename_i hsince
              have hsince := bleN hsince
              cases hf
              rw [hl] at hleft
              obtain ⟨ka, va, ba⟩ := e
              simp only [entR] at hleft
              obtain ⟨k', v', l', hle, k1, k2, rfl⟩ := hleft
              have hone : (es'.filter fun e => !seen.toArray.contains e.born) = #[⟨k', v', ba⟩] := by rw [harr, hle]
              have hb1 : ba < since := hsince
              have hb2 : ¬ (since ≤ ba) := by omega
              have hset := setObj_ok (P := P) (o' := .mapIter (some M.blk) since (seen.toArray.push ba) clock) h1 (by simp)
              refine fin (x := .tuple #[.bool true, k', v']) (W' := W.putObj L.blk (.mapIter (some M.blk) since (seen.toArray.push ba) clock)) ?_ ?_ (putOb_ok R hg hL rfl rfl h1 ⟨?_, h2, hbase⟩)
              · simp only [Instr.next, hu, Sem.run_bind, hget, Result.andThen_ok, hgetm, hq, Bool.false_eq_true, if_false, hone]
                simp only [List.push_toArray] at hset ⊢
                simp [choose_forced, Question.forced, hb1, hb2, hset]
              · simp only [VR]
                exact ⟨_, rfl, VRs.cons (by simp [VR]) (VRs.cons k1 (VRs.cons k2 VRs.nil))⟩
              · simp only [Option.bind_some, hM, Option.map_some, appL_eq]
                rw [putObj_get h1]
                simp
            · cases hf
          · cases hf
        · cases hf
      · cases hf
    · cases hf
theorem find_born {n : Nat} {e : V × V × Nat} : ∀ {es : Ents} {l : List MapEntry}, entR σ ρ es l → findBorn n es = some e → ∃ k v, l.find? (fun e => e.born == n) = some ⟨k, v, e.2.2⟩ ∧ VR σ ρ e.1 k ∧ VR σ ρ e.2.1 v
  | [], l, _, h => by simp [findBorn] at h
  | (a, b, c) :: es, l, h, hf => by
    simp only [entR] at h
    obtain ⟨a', b', l', rfl, h1, h2, h3⟩ := h
    simp only [findBorn] at hf
    split at hf
    · rename_i e
      have e := beqN e
      cases hf
      exact ⟨a', b', by simp [e], h1, h2⟩
    · rename_i e
      have e : c ≠ n := fun k => by subst k; simp at e
      obtain ⟨k, v, q1, q2⟩ := find_born h3 hf
      exact ⟨k, v, by simp [e, q1], q2⟩
theorem good_entry (it : Operand) : GoodQ P σ (.entry it) (s0v (fun h v => entryV v h) it) :=
  good_s0v (by simp [Op.operands]) fun W0 h u v ρ W ε o ho hf hu R => by
    unfold entryV at hf
    split at hf
    · rename_i r
      simp only [VR] at hu
      obtain ⟨L, hL, hu⟩ := hu
      split at hf
      · rename_i m since seen stepped hg
        obtain ⟨hO, _⟩ := R.obs r _ L hg hL
        obtain ⟨h1, h2, hbase⟩ := hO
        split at hf
        · rename_i stamp es clock hlast hgm
          obtain ⟨M, es', hM, m1, m2⟩ := ents_ok R hgm (h2 m rfl)
          simp only [Option.bind_some, hM, Option.map_some] at h1
          have hget := getObj_ok (P := P) h1 (by simp)
          have hgetm := getObj_ok (P := P) m1 (by simp)
          rw [hbase] at hu
          split at hf
          · rename_i hc
            have hc := beqN hc
            split at hf
            · rename_i e hfb
              cases hf
              obtain ⟨k, v, q1, q2, q3⟩ := find_born m2 hfb
              have hback : seen.toArray.back? = some stamp := by simp [hlast]
              have hfind : es'.find? (fun e => e.born == stamp) = some ⟨k, v, e.2.2⟩ := by rw [← Array.find?_toList]; exact q1
              refine ⟨.tuple #[k, v], ?_, by simp only [VR]; exact ⟨_, rfl, VRs.cons q2 (VRs.cons q3 VRs.nil)⟩⟩
              simp only [execOp, ho, Instr.entry, hu, Sem.run_bind, hget, Result.andThen_ok, hback, hgetm]
              simp [hc, hfind]
            · cases hf
          · cases hf
        · cases hf
      · cases hf
    · cases hf
noncomputable def assertV (z : V) (a : TypeId) (ok : Bool) : V → Option V
  | .inil => match ok with
    | true => some (.tuple [z, .bool false])
    | false => none
  | .iface t v => match Nat.beq t a with
    | true => some (okV ok v true)
    | false => match ok with
      | true => some (.tuple [z, .bool false])
      | false => none
  | _ => none
theorem assertV_ok {z v u : V} {zx x : Value} {xt a : TypeId} {ok : Bool} {W : World} {d : TypeDesc} (hun : P.underlying a = some d) (hd : ∀ ms, d ≠ .interface ms) (hzv : VR σ ρ z zx) (hrun : (zeroValue a).run P W = .ok zx W)
    (hu : VR σ ρ u x) (hf : assertV z a ok u = some v) : ∃ y, (Instr.typeAssert x xt a ok).run P W = .ok y W ∧ VR σ ρ v y := by
  have over : VR σ ρ (.tuple [z, .bool false]) (.tuple #[zx, .bool false]) := by simp only [VR]; exact ⟨_, rfl, VRs.cons hzv (VRs.cons (by simp [VR]) VRs.nil)⟩
  cases u <;> simp only [assertV] at hf <;> try (cases hf; done)
  case inil =>
    simp only [VR] at hu
    subst hu
    cases ok
    · cases hf
    · cases hf
      exact ⟨_, by cases d <;> first | exact absurd rfl (hd _) | (simp [Instr.typeAssert, run_underlying hun, hrun]; done), over⟩
  case iface t v' =>
    simp only [VR] at hu
    obtain ⟨x', rfl, hv'⟩ := hu
    rcases e : Nat.beq t a with _ | _
    · simp only [e] at hf
      have e : t ≠ a := fun k => by subst k; simp at e
      cases ok
      · cases hf
      · cases hf
        exact ⟨_, by cases d <;> first | exact absurd rfl (hd _) | (simp [Instr.typeAssert, run_underlying hun, hrun, e]; done), over⟩
    · simp only [e] at hf
      have e := beqN e
      subst e
      cases hf
      exact ⟨_, by cases d <;> first | exact absurd rfl (hd _) | (simp [Instr.typeAssert, run_underlying hun]; done), okV_ok hv'⟩
theorem assertP_eq (P : Program) (a : TypeId) (ok : Bool) (u v : V) (h : assertP P a ok u = some v) : ∃ d z, P.underlying a = some d ∧ (∀ ms, d ≠ .interface ms) ∧ zeroT P a = some z ∧ assertV z a ok u = some v := by
  unfold assertP at h
  rcases hun : P.underlying a with _ | d
  · simp only [hun] at h; cases h
  rcases hz : zeroT P a with _ | z
  · cases d <;> simp only [hun, hz] at h <;> cases h
  refine ⟨d, z, rfl, ?_, rfl, ?_⟩
  · intro ms e; subst e; simp only [hun, hz] at h; cases h
  · cases d <;> simp only [hun, hz] at h <;> first | (cases h; done) | (rw [← h]; unfold assertV; rfl)
theorem good_assert (x : Operand) (xt a : TypeId) (ok : Bool) : GoodQ P σ (.typeAssert x xt a ok) (s0v (fun _ => assertP P a ok) x) :=
  good_s0v (by simp [Op.operands]) fun W0 h u v ρ W ε o ho hf hu R => by
    obtain ⟨d, z, hun, hd, hz, hf⟩ := assertP_eq P a ok u v hf
    obtain ⟨_, zx, _, _, hzv, hrun⟩ := zeroT_ok (σ := σ) (ρ := ρ) W hz
    obtain ⟨y, hy, hv⟩ := assertV_ok (xt := xt) hun hd hzv hrun hu hf
    exact ⟨y, by simp [execOp, ho, hy], hv⟩
/-- EVERY OPERATION THAT CALLS NOTHING. -/
theorem quiet_builtin {Γ : Cx} (G : GoodCx σ Γ) (hP : Γ.P = P) (c : Call) (b : Builtin) (hc : c.callee = .builtin b) (hb : b = .len ∨ b = .cap ∨ b = .min ∨ b = .max) : GoodQ P σ (.call c) (sBuiltin Γ b c.argTypes.toList c.args.toList) := by
  obtain ⟨callee, args, ts⟩ := c
  simp only at hc
  subst hc
  subst hP
  simp only []
  have fl : GoodQ Γ.P σ (.call ⟨.builtin b, args, ts⟩) sFail := quiet_fail _
  rcases ha : args.toList with _ | ⟨x, _ | ⟨y, _ | ⟨z, rest⟩⟩⟩
  · exact fl
  · have : args = #[x] := by apply Array.ext'; rw [ha]
    subst this
    rcases hts : ts.toList with _ | ⟨t, l⟩
    · rcases hb with rfl | rfl | rfl | rfl <;> first | exact fl | exact good_min1 false ts x | exact good_min1 true ts x
    · rcases hb with rfl | rfl | rfl | rfl <;> first | exact fl | exact good_min1 false ts x | exact good_min1 true ts x | exact good_len ts t l x hts | exact good_cap ts t l x hts
  · have : args = #[x, y] := by apply Array.ext'; rw [ha]
    subst this
    rcases hts : ts.toList with _ | ⟨t, l⟩
    · rcases hb with rfl | rfl | rfl | rfl <;> first | exact fl | exact good_min2 G false ts x y | exact good_min2 G true ts x y
    · rcases hb with rfl | rfl | rfl | rfl <;> first | exact fl | exact good_min2 G false ts x y | exact good_min2 G true ts x y
  · exact fl
theorem good_builtin {Γ : Cx} (G : GoodCx σ Γ) (hP : Γ.P = P) (c : Call) (b : Builtin) (hc : c.callee = .builtin b) : Good P σ (.call c) (sBuiltin Γ b c.argTypes.toList c.args.toList) := by
  by_cases hb : b = .len ∨ b = .cap ∨ b = .min ∨ b = .max
  · exact (quiet_builtin G hP c b hc hb).good
  obtain ⟨callee, args, ts⟩ := c
  simp only at hc
  subst hc
  subst hP
  simp only []
  have fl : Good Γ.P σ (.call ⟨.builtin b, args, ts⟩) sFail := good_fail _
  rcases ha : args.toList with _ | ⟨x, _ | ⟨y, _ | ⟨z, rest⟩⟩⟩
  · exact fl
  · have : args = #[x] := by apply Array.ext'; rw [ha]
    subst this
    rcases hts : ts.toList with _ | ⟨t, l⟩
    · cases b <;> first | exact fl | (exfalso; apply hb; simp; done)
    · cases b <;> first | exact fl | (exfalso; apply hb; simp; done) | exact good_clear ts t l x hts
  · have : args = #[x, y] := by apply Array.ext'; rw [ha]
    subst this
    rcases hts : ts.toList with _ | ⟨t, l⟩
    · cases b <;> first | exact fl | (exfalso; apply hb; simp; done) | (rw [← hts]; first | exact good_append ts x y | exact good_copy ts x y)
    · cases b <;> first | exact fl | (exfalso; apply hb; simp; done) | (rw [← hts]; first | exact good_append ts x y | exact good_copy ts x y) | exact good_delete G rfl ts t l x y hts
  · exact fl
theorem make_step {Γ : Cx} (G : GoodCx σ Γ) (op : Op) (hc : classOf op = .make) : GoodM Γ.P σ op (step1 Γ op) := by
  cases op <;> try (cases hc; done)
  case alloc t => exact good_alloc t
  case box t x => exact good_box t x
  case buildSlice t n ps => exact good_buildSlice t n ps
  case makeMap t r => exact good_makeMap t r
  case makeSlice t l c => exact good_makeSlice G t l c
  case call c => 
    exfalso
    simp only [classOf] at hc
    split at hc
    · split at hc <;> cases hc
    · cases hc
theorem quiet_step {Γ : Cx} (G : GoodCx σ Γ) (op : Op) (hc : classOf op = .quiet) : GoodQ Γ.P σ op (step1 Γ op) := by
  cases op <;> try (cases hc; done)
  case move x => exact good_move x
  case assign x => exact good_assign x
  case pick c a b => exact good_pick c a b
  case build t ps => exact good_build t ps
  case load t a => exact good_load t a
  case nilCheck x => exact good_nilCheck x
  case binOp op t x y c => exact good_binOp G rfl op t x y c
  case unOp op t x => exact good_unOp G op t x
  case convert s d x => exact good_convert G rfl s d x
  case makeInterface t x => exact good_iface t x
  case makeFunc fn a b => exact good_func fn a b
  case slice t x lo hi mx => exact good_slice t x lo hi mx
  case fieldAddr s x f => exact good_fieldAddr s x f
  case field s x f => exact good_field s x f
  case indexAddr t x i => exact good_indexAddr G t x i
  case index t x i => exact good_index t x i
  case lookup t x i ok => exact good_lookup G rfl t x i ok
  case entry it => exact good_entry it
  case typeAssert x xt a ok => exact good_assert x xt a ok
  case extract t i => exact good_extract t i
  case call c =>
    have e : step1 Γ (.call c) = (match c.callee with | .builtin b => sBuiltin Γ b c.argTypes.toList c.args.toList | _ => sFail) := rfl
    rw [e]
    simp only [classOf] at hc
    cases hcc : c.callee
    case builtin b =>
      rw [hcc] at hc
      refine quiet_builtin G rfl c b hcc ?_
      cases b <;> first | (cases hc; done) | simp
    all_goals exact quiet_fail _
  all_goals exact quiet_fail _
theorem good_step1 {Γ : Cx} (G : GoodCx σ Γ) (op : Op) : Good Γ.P σ op (step1 Γ op) := by
  rcases hcl : classOf op with _ | _ | _
  · exact (quiet_step G op hcl).good
  · exact (make_step G op hcl).good
  cases op <;> try (cases hcl; done)
  case store t a x => exact good_store t a x
  case mapUpdate t m k x => exact good_update G rfl t m k x
  case range t x => exact good_range t x
  case next it s => exact good_next it s
  case call c =>
    have e : step1 Γ (.call c) = (match c.callee with | .builtin b => sBuiltin Γ b c.argTypes.toList c.args.toList | _ => sFail) := rfl
    rw [e]
    cases hc : c.callee
    case builtin b => exact good_builtin G rfl c b hc
    all_goals exact good_fail _
end
end Tk
