/- Functions of Go's library, met by what they come to: counting, finding a byte; numbers and texts; joined texts. -/
import Derived.Test.YtphhnhheedbjjaaGreatDoorEvFn
import Derived.Lib.Bytealg
import Derived.Lib.ConvBytes
import Derived.Lib.AtoiErrMem
import Derived.Lib.LaidTab
import Derived.Lib.AppendIntMem
import Derived.Shelf.Strconv.Atoi
import Derived.Shelf.Strconv.Itoa3
import Derived.Shelf.Strings.OnBuilder
set_option linter.unusedVariables false
set_option linter.unusedSimpArgs false
namespace Tk
open Go Go.RowKit

/- texts -/
def u8s (s : List Nat) : List UInt8 := s.map UInt8.ofNat
theorem bytesA_u8 (s : List Nat) : (bytesA s).data.toList = u8s s := rfl
noncomputable def countFn : Fn := fun args h => match args with
  | [.str s, .int .u8 (.lit (.ofNat c))] => some (.int .i64 (.lit (.ofNat (Lib.countByte (u8s s) (UInt8.ofNat c)))), h)
  | _ => none
noncomputable def indexFn : Fn := fun args h => match args with
  | [.str s, .int .u8 (.lit (.ofNat c))] => some (.int .i64 (.lit (Lib.indexByte (u8s s) (UInt8.ofNat c))), h)
  | _ => none
noncomputable def atoiFn : Fn := fun args h => match args with
  | [.str s] => match Nat.ble (lenL s) 18 with
    | true => match Lib.atoi (u8s s) with
      | some n => some (.tuple [.int .i64 (.lit n), .inil], h)
      | none => none
    | false => none
  | _ => none
noncomputable def itoaFn : Fn := fun args h => match args with
  | [.int .i64 (.lit (.ofNat n))] => match Nat.ble (n + 1) 100 with
    | true => some (.str ((Lib.decDigits n).map (·.toNat)), h)
    | false => none
  | _ => none
def strsOf : List V → Option (List (List Nat))
  | [] => some []
  | .str s :: l => match strsOf l with
    | some r => some (s :: r)
    | none => none
  | _ :: _ => none
noncomputable def joinFn : Fn := fun args h => match args with
  | [.snil, .str sep] => some (.str [], h)
  | [.slice r o len cap esz ex, .str sep] => match Nat.beq esz 1 && Nat.ble len cap with
    | true => match h.read r o len with
      | some l => match strsOf l with
        | some ss => match Nat.ble (lenL ss) 140737488355328 && Nat.ble (lenL (Lib.join (ss.map u8s) (u8s sep))) 140737488355328 with
          | true => some (.str ((Lib.join (ss.map u8s) (u8s sep)).map (·.toNat)), h)
          | false => none
        | none => none
      | none => none
    | false => none
  | _ => none
theorem toNat_u8 (l : List UInt8) : bytesA (l.map (·.toNat)) = ⟨l.toArray⟩ := by
  apply ByteArray.ext
  apply Array.ext'
  simp only [bytesA, List.map_map]
  have : (UInt8.ofNat ∘ fun x : UInt8 => x.toNat) = _root_.id := by funext x; simp
  rw [this]; simp
section
variable {P : Program} {G : Nat} {σ : Nat → Int} {W0 : World} {f : FuncId} {fn : Func}
theorem byte_int (c : Nat) : (Int.ofNat c).toNat.toUInt8 = UInt8.ofNat c := rfl
theorem count_ok (hf : P.funcs[f]? = some fn) (hb : fn.body.isNone = true) (hn : (fn.name == "runtime.NumGoroutine") = false)
    (h1 : (Extern.findNext fn).isNone = true) (h2 : Extern.find fn = some Extern.BytealgCount.count) : CallOk P G σ W0 f countFn :=
  extern_ok hf hb hn h1 h2 fun vs xs h v h' ρ W e hv R => by
    unfold countFn at e
    split at e
    · rename_i s c
      cases e
      obtain ⟨x, y, rfl, hx, hy⟩ := vrs2 hv
      simp only [VR, E.den] at hx hy
      subst hx hy
      exact ⟨_, Lib.run_countString _ _ _, by simp only [VR, E.den, byte_int, bytesA_u8]; rfl, rfl⟩
    · cases e
theorem index_ok (hf : P.funcs[f]? = some fn) (hb : fn.body.isNone = true) (hn : (fn.name == "runtime.NumGoroutine") = false)
    (h1 : (Extern.findNext fn).isNone = true) (h2 : Extern.find fn = some Extern.BytealgIndexByte.indexByte) : CallOk P G σ W0 f indexFn :=
  extern_ok hf hb hn h1 h2 fun vs xs h v h' ρ W e hv R => by
    unfold indexFn at e
    split at e
    · rename_i s c
      cases e
      obtain ⟨x, y, rfl, hx, hy⟩ := vrs2 hv
      simp only [VR, E.den] at hx hy
      subst hx hy
      exact ⟨_, Lib.run_indexByteString _ _ _, by simp only [VR, E.den, byte_int, bytesA_u8], rfl⟩
    · cases e
theorem atoi_ok (hf : P.funcs[f]? = some fn) (hb : fn.body.isSome = true) (hn : (fn.name == "runtime.NumGoroutine") = false) {e5 : TypeId}
    (C : ∀ (s : ByteArray) (n : Int), s.size ≤ 18 → Lib.atoi s.data.toList = some n → ∀ w : World, Calls P f #[.string s] w fun e w' => e = .returned (.tuple #[.int .i64 n, .nilIface]) ∧ ∃ t, w' = Lib.bytesWorld w e5 t) : CallOk P G σ W0 f atoiFn :=
  fn_ok hf hb hn fun vs xs h v h' ρ W e hv R => by
    unfold atoiFn at e
    split at e
    · rename_i s
      split at e
      · rename_i hl
        split at e
        · rename_i n hn
          cases e
          obtain ⟨x, rfl, hx⟩ := vrs1 hv
          simp only [VR] at hx
          subst hx
          have hl := bleN hl
          rw [lenL_eq] at hl
          refine (C (bytesA s) n (by rw [bytesA_size]; exact hl) hn W).mono ?_
          rintro e w' ⟨rfl, t, rfl⟩
          refine ⟨_, ρ, rfl, ?_, Stp.of_below R (Lib.bytesWorld_below _ _ _)⟩
          simp only [VR]
          exact ⟨_, rfl, VRs.cons (by simp [VR, E.den]) (VRs.cons (by simp [VR]) VRs.nil)⟩
        · cases e
      · cases e
    · cases e
theorem itoa_ok (hf : P.funcs[f]? = some fn) (hb : fn.body.isSome = true) (hn : (fn.name == "runtime.NumGoroutine") = false)
    (C : ∀ (i : Nat), i < 100 → ∀ w : World, Calls P f #[.int .i64 i] w fun e w' => e = .returned (.string ⟨(Lib.decDigits i).toArray⟩) ∧ w' = w) : CallOk P G σ W0 f itoaFn :=
  fn_ok hf hb hn fun vs xs h v h' ρ W e hv R => by
    unfold itoaFn at e
    split at e
    · rename_i n
      split at e
      · rename_i hl
        cases e
        obtain ⟨x, rfl, hx⟩ := vrs1 hv
        simp only [VR, E.den] at hx
        subst hx
        have hl := bleN hl
        refine (C n (by omega) W).mono ?_
        rintro e w' ⟨rfl, rfl⟩
        exact ⟨_, ρ, rfl, by simp only [VR, toNat_u8], Stp.refl R⟩
      · cases e
    · cases e
theorem strsOf_ok {ρ : Inj} : ∀ {l : List V} {ss : List (List Nat)} {xs : List Value}, strsOf l = some ss → VRs σ ρ l xs → xs = ss.map fun s => Value.string (bytesA s)
  | [], ss, xs, h, hv => by
    simp only [strsOf, Option.some.injEq] at h
    subst h
    simp only [VRs] at hv
    subst hv
    rfl
  | .str s :: l, ss, xs, h, hv => by
    simp only [strsOf] at h
    split at h
    · rename_i r hr
      cases h
      simp only [VRs] at hv
      obtain ⟨x, l', rfl, hx, hl⟩ := hv
      simp only [VR] at hx
      subst hx
      rw [strsOf_ok hr hl]
      rfl
    · cases h
  | .bool _ :: l, ss, xs, h, hv => by simp [strsOf] at h
  | .int _ _ :: l, ss, xs, h, hv => by simp [strsOf] at h
  | .ptr _ _ :: l, ss, xs, h, hv => by simp [strsOf] at h
  | .pnil :: l, ss, xs, h, hv => by simp [strsOf] at h
  | .slice _ _ _ _ _ _ :: l, ss, xs, h, hv => by simp [strsOf] at h
  | .eslice _ :: l, ss, xs, h, hv => by simp [strsOf] at h
  | .snil :: l, ss, xs, h, hv => by simp [strsOf] at h
  | .map _ :: l, ss, xs, h, hv => by simp [strsOf] at h
  | .mnil :: l, ss, xs, h, hv => by simp [strsOf] at h
  | .func _ _ _ :: l, ss, xs, h, hv => by simp [strsOf] at h
  | .fnil :: l, ss, xs, h, hv => by simp [strsOf] at h
  | .iface _ _ :: l, ss, xs, h, hv => by simp [strsOf] at h
  | .inil :: l, ss, xs, h, hv => by simp [strsOf] at h
  | .agg _ :: l, ss, xs, h, hv => by simp [strsOf] at h
  | .tuple _ :: l, ss, xs, h, hv => by simp [strsOf] at h
theorem join_ok (hf : P.funcs[f]? = some fn) (hb : fn.body.isSome = true) (hn : (fn.name == "runtime.NumGoroutine") = false)
    (C0 : ∀ (a : Option Addr) (c : Nat) (sep : ByteArray) (w : World), Calls P f #[.slice a 0 c, .string sep] w fun e w' => e = .returned (.string ⟨#[]⟩) ∧ w' = w)
    (C : ∀ (bk o c : Nat) (xs : List ByteArray) (sep : ByteArray) (w : World), (∀ (j : Nat) x, xs[j]? = some x → w.cell? ⟨bk, o + j, none⟩ = some (.string x)) → bk < w.heap.size → xs.length ≤ 140737488355328 → xs.length ≤ c →
      (Lib.join (xs.map (·.data.toList)) sep.data.toList).length ≤ 140737488355328 →
      Calls P f #[.slice (some ⟨bk, o, none⟩) xs.length c, .string sep] w fun e w' => e = .returned (.string ⟨(Lib.join (xs.map (·.data.toList)) sep.data.toList).toArray⟩) ∧ Below w.heap.size w w') : CallOk P G σ W0 f joinFn :=
  fn_ok hf hb hn fun vs xs h v h' ρ W e hv R => by
    unfold joinFn at e
    split at e
    · rename_i sep
      cases e
      obtain ⟨x, y, rfl, hx, hy⟩ := vrs2 hv
      simp only [VR] at hx hy
      subst hx hy
      refine (C0 none 0 (bytesA sep) W).mono ?_
      rintro e w' ⟨rfl, rfl⟩
      exact ⟨_, ρ, rfl, by simp [VR, bytesA], Stp.refl R⟩
    · rename_i r o len cap esz ex sep
      split at e
      · rename_i e1
        simp only [Bool.and_eq_true] at e1
        have e2 := bleN e1.2
        split at e
        · rename_i l hr
          split at e
          · rename_i ss hss
            split at e
            · rename_i e3
              simp only [Bool.and_eq_true] at e3
              cases e
              obtain ⟨x, y, rfl, hx, hy⟩ := vrs2 hv
              simp only [VR] at hx hy
              obtain ⟨L, cap', hL, rfl, c1, c2, c3⟩ := hx
              subst hy
              obtain ⟨L', C', e', zs, k1, k2, k3, k4, k5, k6, k7⟩ := read_ok R hr ⟨L, hL⟩
              rw [hL] at k1
              cases k1
              have hz := strsOf_ok hss k3
              have hlen : (ss.map bytesA).length = len := by rw [← k4, hz]; simp
              have b1 := bleN e3.1
              have b2 := bleN e3.2
              rw [lenL_eq] at b1 b2
              have hm : (ss.map bytesA).map (·.data.toList) = ss.map u8s := by rw [List.map_map]; rfl
              have key := C L.blk (L.base + o) cap' (ss.map bytesA) (bytesA sep) W ?_ (R.blk r L hL) (by simpa using b1) (by rw [hlen]; omega) (by rw [hm]; exact b2)
              · rw [hlen] at key
                refine key.mono ?_
                rintro e w' ⟨rfl, hB⟩
                refine ⟨_, ρ, rfl, ?_, Stp.of_below R hB⟩
                simp only [VR, toNat_u8, hm]
                rfl
              · intro j x hj
                have := k7 j (.string x) (by
                  rw [hz, List.getElem?_map]
                  rw [List.getElem?_map] at hj
                  cases hs : ss[j]? with
                  | none => rw [hs] at hj; cases hj
                  | some s => rw [hs] at hj; simp only [Option.map_some, Option.some.injEq] at hj ⊢; rw [hj])
                rw [add_off] at this
                exact this
            · cases e
          · cases e
        · cases e
      · cases e
    · cases e
/-- a table that is laid stays -/
theorem tab_stays {W : World} {nm : String} {k : IntKind} {zs : List Int} (h : Lib.TabIs P W0 nm k zs) (B : Below W0.heap.size W0 W) : Lib.TabIs P W nm k zs := by
  unfold Lib.TabIs World.var? at h ⊢
  cases hg : P.globalNamed nm with
  | none => rw [hg] at h; cases h
  | some g =>
    rw [hg] at h
    simp only [Option.bind_some] at h ⊢
    have hlt : g < W0.heap.size := by
      rcases Nat.lt_or_ge g W0.heap.size with hl | hl
      · exact hl
      · rw [Array.getElem?_eq_none hl] at h; cases h
    rw [B.block g hlt]
    exact h
/-- a number of 64 bits -/
def fitI : Int → Bool
  | .ofNat m => Nat.ble m 9223372036854775807
  | .negSucc m => Nat.ble m 9223372036854775807
noncomputable def itoaFullFn : Fn := fun args h => match args with
  | [.int .i64 (.lit n)] => match fitI n with
    | true => some (.str ((Lib.itoa n).map (·.toNat)), h)
    | false => none
  | _ => none
open Go.Sort Go.Lib in
theorem itoa_full_ok (hf : P.funcs[f]? = some fn) (hb : fn.body.isSome = true) (hn : (fn.name == "runtime.NumGoroutine") = false) {nm : String} {k : IntKind} {zs : List Int} (htab : Lib.TabIs P W0 nm k zs)
    (C : ∀ (n : Int), -9223372036854775808 ≤ n → n ≤ 9223372036854775807 → ∀ w : World, Lib.TabIs P w nm k zs → Calls P f #[.int .i64 n] w fun e w' => e = .returned (.string ⟨(Lib.itoa n).toArray⟩) ∧ ∃ k os, w' = grow (w.drewN k) os) : CallOk P G σ W0 f itoaFullFn :=
  fn_ok hf hb hn fun vs xs h v h' ρ W e hv R => by
    unfold itoaFullFn at e
    split at e
    · rename_i n
      split at e
      · rename_i hl
        cases e
        obtain ⟨x, rfl, hx⟩ := vrs1 hv
        simp only [VR, E.den] at hx
        subst hx
        have hlo : (-9223372036854775808 : Int) ≤ n ∧ n ≤ 9223372036854775807 := by
          cases n with
          | ofNat m => have hl := bleN hl; simp only [Int.ofNat_eq_natCast]; omega
          | negSucc m => have hl := bleN hl; simp only [Int.negSucc_eq]; omega
        refine (C n hlo.1 hlo.2 W (tab_stays htab R.below)).mono ?_
        rintro e w' ⟨rfl, k, os, rfl⟩
        exact ⟨_, ρ, rfl, by simp only [VR, toNat_u8], Stp.of_below R (below_grow _ _ (Nat.le_refl _) k os)⟩
      · cases e
    · cases e
/-- a cell that was there at the start stays -/
theorem cell_stays {W : World} {g o : Nat} {x : Value} (h : W0.cell? ⟨g, o, none⟩ = some x) (B : Below W0.heap.size W0 W) : W.cell? ⟨g, o, none⟩ = some x := by
  have hlt : g < W0.heap.size := by
    rcases Nat.lt_or_ge g W0.heap.size with hl | hl
    · exact hl
    · simp [World.cell?, Array.getElem?_eq_none hl] at h
  simp only [World.cell?, B.block g hlt] at h ⊢
  exact h
/-- T: the type *strconv.NumError -/
noncomputable def atoiFullFn (T : Nat) : Fn := fun args h => match args with
  | [.str s] => match Nat.ble (lenL s) 18 with
    | true => match Lib.atoi (u8s s) with
      | some n => some (.tuple [.int .i64 (.lit n), .inil], h)
      | none => match Tr.get h.tr h.next with
        | none => some (.tuple [.int .i64 (.lit (.ofNat 0)), .iface T (.ptr h.next 0)], ⟨h.tr, h.next + 1⟩)
        | some _ => none
    | false => none
  | _ => none
theorem atoi_full_ok (hf : P.funcs[f]? = some fn) (hb : fn.body.isSome = true) (hn : (fn.name == "runtime.NumGoroutine") = false) {e5 T : TypeId} {g : Nat} {mk : ByteArray → Value → Obj}
    (hv0 : ∃ te pe, W0.cell? ⟨g, 0, none⟩ = some (.iface te pe))
    (C : ∀ (s : ByteArray) (n : Int), s.size ≤ 18 → Lib.atoi s.data.toList = some n → ∀ w : World, Calls P f #[.string s] w fun e w' => e = .returned (.tuple #[.int .i64 n, .nilIface]) ∧ ∃ t, w' = Lib.bytesWorld w e5 t)
    (CE : ∀ (s : ByteArray), s.size ≤ 18 → Lib.atoi s.data.toList = none → ∀ (ev : Value) (w : World), w.cell? ⟨g, 0, none⟩ = some ev → (ev = .nilIface ∨ ∃ te pe, ev = .iface te pe) →
      Calls P f #[.string s] w fun e w' => ∃ N, e = .returned (.tuple #[.int .i64 0, .iface T (.pointer (some ⟨N, 0, none⟩))]) ∧ w.heap.size ≤ N ∧ w'.heap[N]? = some (mk s ev) ∧ Below w.heap.size w w') : CallOk P G σ W0 f (atoiFullFn T) :=
  fn_ok hf hb hn fun vs xs h v h' ρ W e hv R => by
    unfold atoiFullFn at e
    split at e
    · rename_i s
      split at e
      · rename_i hl
        have hl := bleN hl
        rw [lenL_eq] at hl
        obtain ⟨x, rfl, hx⟩ := vrs1 hv
        simp only [VR] at hx
        subst hx
        split at e
        · rename_i n hn
          cases e
          refine (C (bytesA s) n (by rw [bytesA_size]; exact hl) hn W).mono ?_
          rintro e w' ⟨rfl, t, rfl⟩
          refine ⟨_, ρ, rfl, ?_, Stp.of_below R (Lib.bytesWorld_below _ _ _)⟩
          simp only [VR]
          exact ⟨_, rfl, VRs.cons (by simp [VR, E.den]) (VRs.cons (by simp [VR]) VRs.nil)⟩
        · rename_i hnone
          split at e
          · rename_i hfree
            cases e
            obtain ⟨te, pe, hc⟩ := hv0
            refine (CE (bytesA s) (by rw [bytesA_size]; exact hl) hnone _ W (cell_stays hc R.below) (.inr ⟨te, pe, rfl⟩)).mono ?_
            rintro e w' ⟨N, rfl, hN, hob, B⟩
            have hno : ∀ (r : Nat) (o : Ob), h.tr.get r = some o → r ≠ h.next := fun r o hg e => by
              subst e; rw [hfree] at hg; cases hg
            refine ⟨_, fun k => if k = h.next then some ⟨N, 0, 0⟩ else ρ k, rfl, ?_, ?_⟩
            · simp only [VR]
              refine ⟨_, rfl, VRs.cons (by simp [VR, E.den]) (VRs.cons ?_ VRs.nil)⟩
              simp only [VR]
              exact ⟨_, rfl, ⟨N, 0, 0⟩, by simp, rfl⟩
            · have hext : Ext ρ (fun k => if k = h.next then some ⟨N, 0, 0⟩ else ρ k) := fun r l hl => by
                have hne : r ≠ h.next := fun e => by
                  subst e; rw [R.dom _ (Nat.le_refl _)] at hl; cases hl
                simp only [if_neg hne, hl]
              have hold : ∀ (r : Nat) (o : Ob) (l : Loc), h.tr.get r = some o → (fun k => if k = h.next then some (⟨N, 0, 0⟩ : Loc) else ρ k) r = some l → ρ r = some l := fun r o l hg hl => by
                simp only [if_neg (hno r o hg)] at hl
                exact hl
              refine ⟨hext, ⟨R.below.trans (B.mono R.below.size), ?_, ?_, ?_, ?_⟩, ?_, fun b hb _ => B.block b hb, B.size, Nat.le_succ _, ?_⟩
              · intro r hr
                have hr : h.next + 1 ≤ r := hr
                show (if r = h.next then some (⟨N, 0, 0⟩ : Loc) else ρ r) = none
                rw [if_neg (by omega)]
                exact R.dom r (by omega)
              · intro r l hl
                have hl : (if r = h.next then some (⟨N, 0, 0⟩ : Loc) else ρ r) = some l := hl
                split at hl
                · cases hl
                  show N < w'.heap.size
                  rcases Nat.lt_or_ge N w'.heap.size with h' | h'
                  · exact h'
                  · rw [Array.getElem?_eq_none h'] at hob; cases hob
                · exact Nat.lt_of_lt_of_le (R.blk r l hl) B.size
              · intro r o l hg hl
                have hl0 := hold r o l hg hl
                obtain ⟨q1, q2⟩ := R.obs r o l hg hl0
                exact ⟨ObR.mono hext (B.block _ (R.blk r l hl0)) q1, q2⟩
              · intro r r' o o' l l' hg hg' hne hl hl'
                exact R.apart r r' o o' l l' hg hg' hne (hold r o l hg hl) (hold r' o' l' hg' hl')
              · rintro b ⟨r, o, l, hg, hl, rfl⟩
                exact .inr ⟨r, o, l, hg, hold r o l hg hl, rfl⟩
              · intro k hk
                show (if k = h.next then some (⟨N, 0, 0⟩ : Loc) else ρ k) = ρ k
                rw [if_neg (by omega)]
          · cases e
      · cases e
    · cases e
/- texts with digits of numbers that are not known -/
noncomputable def countDFn : Fn := fun args h => match args with
  | [.strd ps, .int .u8 (.lit (.ofNat c))] => match isDig c with
    | true => none
    | false => countFn [.str (lit0 ps), .int .u8 (.lit (.ofNat c))] h
  | args => countFn args h
noncomputable def indexDFn : Fn := fun args h => match args with
  | [.strd ps, .int .u8 (.lit (.ofNat c))] => match isDig c with
    | true => none
    | false => indexFn [.str (lit0 ps), .int .u8 (.lit (.ofNat c))] h
  | args => indexFn args h
theorem u8_ne {x c : Nat} (h1 : 48 ≤ x ∧ x ≤ 57) (h2 : isDig c = false) : UInt8.ofNat x ≠ UInt8.ofNat c := by
  intro h
  have := (ofNat_inj x c).1 h
  have hn : ¬ (isDig c = true) := by rw [h2]; simp
  rw [isDig_iff] at hn
  omega
theorem count_lit0 {c : Nat} (hc : isDig c = false) : ∀ ps : List Pc, Lib.countByte (u8s (ps.map (Pc.val σ))) (UInt8.ofNat c) = Lib.countByte (u8s (lit0 ps)) (UInt8.ofNat c)
  | [] => rfl
  | .b n :: l => by
    have ih := count_lit0 hc l
    simp only [Lib.countByte, u8s] at ih ⊢
    simp only [List.map_cons, lit0, Pc.val, List.count_cons, ih]
  | .d e k i :: l => by
    have ih := count_lit0 hc l
    have h1 := u8_ne (dig_lt (σ := σ) e k i) hc
    have h2 := u8_ne (x := 48) (by omega) hc
    simp only [Lib.countByte, u8s] at ih ⊢
    simp only [List.map_cons, lit0, List.count_cons, ih, beq_iff_eq, h1, h2, if_false]
theorem index_lit0 {c : Nat} (hc : isDig c = false) : ∀ ps : List Pc, Lib.indexByte (u8s (ps.map (Pc.val σ))) (UInt8.ofNat c) = Lib.indexByte (u8s (lit0 ps)) (UInt8.ofNat c)
  | [] => rfl
  | .b n :: l => by
    have ih := index_lit0 hc l
    simp only [u8s] at ih ⊢
    simp only [List.map_cons, lit0, Pc.val, Lib.indexByte, ih]
  | .d e k i :: l => by
    have ih := index_lit0 hc l
    have h1 := u8_ne (dig_lt (σ := σ) e k i) hc
    have h2 := u8_ne (x := 48) (by omega) hc
    simp only [u8s] at ih ⊢
    simp only [List.map_cons, lit0, Lib.indexByte, ih, beq_iff_eq, h1, h2, if_false]
theorem countD_ok (hf : P.funcs[f]? = some fn) (hb : fn.body.isNone = true) (hn : (fn.name == "runtime.NumGoroutine") = false)
    (h1 : (Extern.findNext fn).isNone = true) (h2 : Extern.find fn = some Extern.BytealgCount.count) : CallOk P G σ W0 f countDFn :=
  extern_ok hf hb hn h1 h2 fun vs xs h v h' ρ W e hv R => by
    unfold countDFn at e
    split at e
    · rename_i ps c
      split at e
      · cases e
      · rename_i hc
        simp only [countFn, Option.some.injEq, Prod.mk.injEq] at e
        obtain ⟨rfl, rfl⟩ := e
        obtain ⟨x, y, rfl, hx, hy⟩ := vrs2 hv
        simp only [VR, E.den] at hx hy
        subst hx hy
        exact ⟨_, Lib.run_countString _ _ _, by simp only [VR, E.den, byte_int, bytesA_u8, count_lit0 hc]; rfl, rfl⟩
    · unfold countFn at e
      split at e
      · rename_i s c
        cases e
        obtain ⟨x, y, rfl, hx, hy⟩ := vrs2 hv
        simp only [VR, E.den] at hx hy
        subst hx hy
        exact ⟨_, Lib.run_countString _ _ _, by simp only [VR, E.den, byte_int, bytesA_u8]; rfl, rfl⟩
      · cases e
theorem indexD_ok (hf : P.funcs[f]? = some fn) (hb : fn.body.isNone = true) (hn : (fn.name == "runtime.NumGoroutine") = false)
    (h1 : (Extern.findNext fn).isNone = true) (h2 : Extern.find fn = some Extern.BytealgIndexByte.indexByte) : CallOk P G σ W0 f indexDFn :=
  extern_ok hf hb hn h1 h2 fun vs xs h v h' ρ W e hv R => by
    unfold indexDFn at e
    split at e
    · rename_i ps c
      split at e
      · cases e
      · rename_i hc
        simp only [indexFn, Option.some.injEq, Prod.mk.injEq] at e
        obtain ⟨rfl, rfl⟩ := e
        obtain ⟨x, y, rfl, hx, hy⟩ := vrs2 hv
        simp only [VR, E.den] at hx hy
        subst hx hy
        exact ⟨_, Lib.run_indexByteString _ _ _, by simp only [VR, E.den, byte_int, bytesA_u8, index_lit0 hc], rfl⟩
    · unfold indexFn at e
      split at e
      · rename_i s c
        cases e
        obtain ⟨x, y, rfl, hx, hy⟩ := vrs2 hv
        simp only [VR, E.den] at hx hy
        subst hx hy
        exact ⟨_, Lib.run_indexByteString _ _ _, by simp only [VR, E.den, byte_int, bytesA_u8], rfl⟩
      · cases e
theorem digK_ok {Γ : Cx} (Gd : GoodCx σ Γ) {e : E} {n : Nat} (hn : e.den σ = (n : Int)) : ∀ (f p k r : Nat), digK Γ e f p k = some r → p = 10 ^ k → (k = 1 ∨ 10 ^ (k - 1) ≤ n) → 1 ≤ k → 1 ≤ r ∧ n < 10 ^ r ∧ (r = 1 ∨ 10 ^ (r - 1) ≤ n) ∧ r < k + f
  | 0, _, _, _, h, _, _, _ => by simp [digK] at h
  | f + 1, p, k, r, h, hp, hk, h1 => by
    simp only [digK] at h
    split at h
    · rename_i hl
      cases h
      have := ltE_ok Gd _ _ _ hl
      rw [decide_eq_true_iff, hn] at this
      have : (n : Int) < (p : Int) := this
      exact ⟨h1, by rw [← hp]; omega, hk, by omega⟩
    · rename_i hl
      have := ltE_ok Gd _ _ _ hl
      rw [decide_eq_false_iff_not, hn] at this
      have : ¬ (n : Int) < (p : Int) := this
      obtain ⟨a1, a2, a3, a4⟩ := digK_ok Gd hn f (p * 10) (k + 1) r h (by rw [hp, Nat.pow_succ]) (.inr (by rw [Nat.add_sub_cancel, ← hp]; omega)) (by omega)
      exact ⟨a1, a2, a3, by omega⟩
    · cases h
theorem digP_val {e : E} {k n : Nat} (hn : e.den σ = (n : Int)) : ∀ m i, (digP e k m i).map (Pc.val σ) = (List.range' i m).map fun j => 48 + n / 10 ^ (k - 1 - j) % 10
  | 0, i => rfl
  | m + 1, i => by
    simp only [digP, List.map_cons, List.range'_succ, digP_val hn m (i + 1), Pc.val, hn, Int.toNat_natCast]
theorem digits_dec {n k : Nat} (h1 : 1 ≤ k) (h2 : n < 10 ^ k) (h3 : k = 1 ∨ 10 ^ (k - 1) ≤ n) : u8s ((List.range' 0 k).map fun j => 48 + n / 10 ^ (k - 1 - j) % 10) = Lib.decDigits n := by
  have hk : Lib.nDigits n = k := by
    rcases h3 with rfl | h3
    · exact Lib.nDigits_small (by simpa using h2)
    · obtain ⟨j, rfl⟩ : ∃ j, k = j + 1 := ⟨k - 1, by omega⟩
      exact Lib.nDigits_unique j n (by simpa using h3) h2
  rw [Lib.decDigits_eq, hk, u8s, List.map_map, List.range_eq_range']
  exact List.map_congr_left fun j _ => rfl
theorem itoaS_ok {Γ : Cx} (Gd : GoodCx σ Γ) {e : E} {v : V} (h : itoaS Γ e = some v) : ∃ (n k : Nat), e.den σ = (n : Int) ∧ n < 10 ^ 10 ∧ v = .strd (digP e k k 0) ∧ bytesA ((digP e k k 0).map (Pc.val σ)) = ⟨(Lib.itoa (n : Int)).toArray⟩ := by
  unfold itoaS at h
  split at h
  · rename_i h0
    have := ltE_ok Gd _ _ _ h0
    rw [decide_eq_false_iff_not] at this
    have : ¬ e.den σ < 0 := this
    obtain ⟨n, hn⟩ := Int.eq_ofNat_of_zero_le (show 0 ≤ e.den σ by omega)
    split at h
    · rename_i k hk
      cases h
      obtain ⟨a1, a2, a3, a4⟩ := digK_ok Gd hn 9 10 1 k hk rfl (.inl rfl) (by omega)
      refine ⟨n, k, hn, Nat.lt_of_lt_of_le a2 (Nat.pow_le_pow_right (by omega) (by omega)), rfl, ?_⟩
      rw [digP_val hn, Lib.itoa_nonneg, ← digits_dec a1 a2 a3]
      rfl
    · cases h
  · cases h
noncomputable def itoaDFn (Γ : Cx) : Fn := fun args h => match args with
  | [.int .i64 e] => match e with
    | .lit n => itoaFullFn [.int .i64 (.lit n)] h
    | e => match itoaS Γ e with
      | some v => some (v, h)
      | none => none
  | _ => none
open Go.Sort Go.Lib in
theorem itoaD_ok {Γ : Cx} (Gd : GoodCx σ Γ) (hf : P.funcs[f]? = some fn) (hb : fn.body.isSome = true) (hn : (fn.name == "runtime.NumGoroutine") = false) {nm : String} {k : IntKind} {zs : List Int} (htab : Lib.TabIs P W0 nm k zs)
    (C : ∀ (n : Int), -9223372036854775808 ≤ n → n ≤ 9223372036854775807 → ∀ w : World, Lib.TabIs P w nm k zs → Calls P f #[.int .i64 n] w fun e w' => e = .returned (.string ⟨(Lib.itoa n).toArray⟩) ∧ ∃ k os, w' = grow (w.drewN k) os) : CallOk P G σ W0 f (itoaDFn Γ) :=
  fn_ok hf hb hn fun vs xs h v h' ρ W e hv R => by
    unfold itoaDFn at e
    split at e
    · rename_i e0
      split at e
      · rename_i n
        unfold itoaFullFn at e
        simp only at e
        split at e
        · rename_i hl
          cases e
          obtain ⟨x, rfl, hx⟩ := vrs1 hv
          simp only [VR, E.den] at hx
          subst hx
          have hlo : (-9223372036854775808 : Int) ≤ n ∧ n ≤ 9223372036854775807 := by
            cases n with
            | ofNat m => have hl := bleN hl; simp only [Int.ofNat_eq_natCast]; omega
            | negSucc m => have hl := bleN hl; simp only [Int.negSucc_eq]; omega
          refine (C n hlo.1 hlo.2 W (tab_stays htab R.below)).mono ?_
          rintro e w' ⟨rfl, k, os, rfl⟩
          exact ⟨_, ρ, rfl, by simp only [VR, toNat_u8], Stp.of_below R (below_grow _ _ (Nat.le_refl _) k os)⟩
        · cases e
      · split at e
        · rename_i v0 hv0
          cases e
          obtain ⟨n, m, h1, h2, rfl, h3⟩ := itoaS_ok Gd hv0
          obtain ⟨x, rfl, hx⟩ := vrs1 hv
          simp only [VR, h1] at hx
          subst hx
          refine (C n (by omega) (by omega) W (tab_stays htab R.below)).mono ?_
          rintro e w' ⟨rfl, k, os, rfl⟩
          exact ⟨_, ρ, rfl, by simp only [VR]; rw [h3], Stp.of_below R (below_grow _ _ (Nat.le_refl _) k os)⟩
        · cases e
    · cases e
theorem decFrom_append : ∀ (l : List UInt8) (b : UInt8) (acc m d : Nat), Lib.decFrom acc l = some m → Lib.digitVal b = some d → Lib.decFrom acc (l ++ [b]) = some (m * 10 + d)
  | [], b, acc, m, d, h, hd => by simp only [Lib.decFrom] at h; cases h; simp [Lib.decFrom, hd]
  | x :: l, b, acc, m, d, h, hd => by
    simp only [Lib.decFrom] at h
    split at h
    · rename_i e he
      simp only [List.cons_append, Lib.decFrom, he]
      exact decFrom_append l b _ m d h hd
    · cases h
theorem digit_val {d : Nat} (h : d < 10) : Lib.digitVal (UInt8.ofNat (48 + d)) = some d := by
  unfold Lib.digitVal
  have : (UInt8.ofNat (48 + d)).toNat = 48 + d := by simp; omega
  rw [this, if_pos (by omega)]
  simp
theorem dec_dec (n : Nat) : Lib.decFrom 0 (Lib.decDigits n) = some n := by
  induction n using Nat.strongRecOn with
  | _ n ih =>
    rw [Lib.decDigits]
    split
    · rename_i h
      have hd := digit_val h
      simp only [Lib.decFrom, hd]
      simp
    · rename_i h
      rw [decFrom_append _ _ _ _ _ (ih (n / 10) (by omega)) (digit_val (Nat.mod_lt n (by omega)))]
      congr 1; omega
theorem dec_head (n : Nat) : ∃ b r, Lib.decDigits n = b :: r ∧ (b == 45) = false ∧ (b == 43) = false := by
  induction n using Nat.strongRecOn with
  | _ n ih =>
    rw [Lib.decDigits]
    have hd : ∀ d, d < 10 → ((UInt8.ofNat (48 + d)) == 45) = false ∧ ((UInt8.ofNat (48 + d)) == 43) = false := by decide
    split
    · rename_i h
      exact ⟨_, [], rfl, (hd n h).1, (hd n h).2⟩
    · rename_i h
      obtain ⟨b, r, e, e1, e2⟩ := ih (n / 10) (by omega)
      rw [e]
      exact ⟨b, r ++ [_], rfl, e1, e2⟩
theorem atoi_dec (n : Nat) : Lib.atoi (Lib.decDigits n) = some (n : Int) := by
  obtain ⟨b, r, e, e1, e2⟩ := dec_head n
  have h := dec_dec n
  rw [e] at h ⊢
  simp only [Lib.atoi, e1, e2, Bool.false_eq_true, if_false]
  simp [Lib.decNat, h]
theorem atoiS_ok {Γ : Cx} (Gd : GoodCx σ Γ) {ps : List Pc} {e : E} (h : atoiS Γ ps = some e) : ∃ n : Nat, e.den σ = (n : Int) ∧ (bytesA (ps.map (Pc.val σ))).size ≤ 18 ∧ Lib.atoi (bytesA (ps.map (Pc.val σ))).data.toList = some (n : Int) := by
  unfold atoiS at h
  split at h
  · rename_i e0 k i0 l
    split at h
    · rename_i hg
      split at h
      · rename_i hx
        cases h
        simp only [Bool.and_eq_true] at hx
        obtain ⟨h1, n, hn, h2, h3⟩ := exD_ok Gd hx.1
        have hk := bleN hx.2
        have hps := grpAt_ok (σ := σ) k 0 _ _ hg
        have e1 : (Pc.d e k i0 :: l).map (Pc.val σ) = (List.range' 0 k).map fun j => 48 + n / 10 ^ (k - 1 - j) % 10 := by
          rw [hps]; simp only [List.map_nil, List.append_nil, Pc.val, hn, Int.toNat_natCast]
        refine ⟨n, hn, by rw [bytesA_size, e1]; simpa using hk, ?_⟩
        rw [bytesA_u8, e1, digits_dec h1 h2 h3]
        exact atoi_dec n
      · cases h
    · cases h
  · cases h
noncomputable def atoiDFn (Γ : Cx) (g : Fn) : Fn := fun args h => match args with
  | [.strd ps] => match atoiS Γ ps with
    | some e => some (.tuple [.int .i64 e, .inil], h)
    | none => none
  | args => g args h
theorem callOk_or {a b g : Fn} (ha : CallOk P G σ W0 f a) (hb : CallOk P G σ W0 f b) (hg : ∀ args h r, g args h = some r → a args h = some r ∨ b args h = some r) : CallOk P G σ W0 f g := by
  intro vs xs h v h' ρ W e hv R gg
  rcases hg _ _ _ e with e | e
  · exact ha vs xs h v h' ρ W e hv R gg
  · exact hb vs xs h v h' ρ W e hv R gg
theorem atoiD_ok {Γ : Cx} (Gd : GoodCx σ Γ) {g : Fn} (hg : CallOk P G σ W0 f g) (hf : P.funcs[f]? = some fn) (hb : fn.body.isSome = true) (hn : (fn.name == "runtime.NumGoroutine") = false) {e5 : TypeId}
    (C : ∀ (s : ByteArray) (n : Int), s.size ≤ 18 → Lib.atoi s.data.toList = some n → ∀ w : World, Calls P f #[.string s] w fun e w' => e = .returned (.tuple #[.int .i64 n, .nilIface]) ∧ ∃ t, w' = Lib.bytesWorld w e5 t) : CallOk P G σ W0 f (atoiDFn Γ g) := by
  have key : CallOk P G σ W0 f (fun args h => match args with
      | [.strd ps] => match atoiS Γ ps with
        | some e => some (.tuple [.int .i64 e, .inil], h)
        | none => none
      | _ => none) := fn_ok hf hb hn fun vs xs h v h' ρ W e hv R => by
    split at e
    · rename_i ps
      split at e
      · rename_i e0 he
        cases e
        obtain ⟨n, hn, h1, h2⟩ := atoiS_ok Gd he
        obtain ⟨x, rfl, hx⟩ := vrs1 hv
        simp only [VR] at hx
        subst hx
        refine (C _ n h1 h2 W).mono ?_
        rintro e w' ⟨rfl, t, rfl⟩
        refine ⟨_, ρ, rfl, ?_, Stp.of_below R (Lib.bytesWorld_below _ _ _)⟩
        simp only [VR]
        exact ⟨_, rfl, VRs.cons (by simp [VR, hn]) (VRs.cons (by simp [VR]) VRs.nil)⟩
      · cases e
    · cases e
  exact callOk_or key hg fun args h r e => by
    unfold atoiDFn at e
    split at e
    · exact .inl e
    · exact .inr e
end
end Tk
