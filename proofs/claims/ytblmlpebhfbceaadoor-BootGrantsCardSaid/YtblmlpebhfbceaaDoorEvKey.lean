/- Lists of keys that are handed in. -/
import Derived.Test.YtblmlpebhfbceaaDoorEvArg
import Derived.Deep.Slices
set_option linter.unusedVariables false
set_option linter.unusedSimpArgs false
namespace Tk
open Go Go.RowKit

/-- the kinds of a key's numbers, one key behind the other -/
def kk (i : Nat) : IntKind := if i % 5 = 4 then .u32 else .i64
def cellInt (W : World) (a : Addr) : Int := match W.cell? a with
  | some (.int _ n) => n
  | _ => 0
/-- a list of keys that is handed in -/
def IsKeys (W : World) (v : Value) : Prop := v = .slice none 0 0 ∨ ∃ (a : Addr) (len cap : Nat) (zs : List Int), v = .slice (some a) len cap ∧ len ≤ cap ∧ zs.length = cap * 5 ∧
  (∀ i, i < cap * 5 → W.cell? (a.add i) = some (.int (kk i) (zs.getD i 0))) ∧ ∀ i, (Lit.int (kk i) (zs.getD i 0)).wf = true
theorem key_cell {H : Type} {enc : TypeId × Value → H} {P : Program} {W : World} {held : Bool} {e : TypeId} {f0 f1 f2 f3 f4 : Field} {n : Nat} {cs : List Value} {x : DataW H × List MemPlace}
    (hs : P.underlying e = some (.struct #[f0, f1, f2, f3, f4])) (ho : f0.offset = 0 ∧ f1.offset = 1 ∧ f2.offset = 2 ∧ f3.offset = 3 ∧ f4.offset = 4)
    (ht : f1.type = f0.type ∧ f2.type = f0.type ∧ f3.type = f0.type) (hI : P.underlying f0.type = some (.int .i64)) (hU : P.underlying f4.type = some (.int .u32)) (cI : P.cellsOf f0.type = 1) (cU : P.cellsOf f4.type = 1)
    (hl : cs.length = 5) (h : DataW.trod enc P W 0 (fun _ => true) held n e cs = some x) : ∀ i, i < 5 → ∃ z, cs[i]? = some (.int (kk i) z) ∧ (Lit.int (kk i) z).wf = true := by
  obtain ⟨xs, m, _, _, _, hxl, hfi⟩ := DataW.trod_struct hs h
  obtain ⟨o0, o1, o2, o3, o4⟩ := ho
  obtain ⟨t1, t2, t3⟩ := ht
  match cs, hl with
  | [y0, y1, y2, y3, y4], _ =>
    have key : ∀ (i : Nat) (fd : Field) (k : IntKind) (y : Value), #[f0, f1, f2, f3, f4][i]? = some fd → P.underlying fd.type = some (.int k) → (([y0, y1, y2, y3, y4] : List Value).drop fd.offset).take (P.cellsOf fd.type) = [y] → i < 5 → ∃ z, y = .int k z ∧ (Lit.int k z).wf = true := by
      intro i fd k y h1 h2 h3 h4
      have h5 := hfi i fd h1
      have h6 : i < xs.length := by rw [hxl]; simpa using h4
      rw [List.getElem?_eq_getElem h6, h3] at h5
      obtain ⟨z, e1, _, e2⟩ := DataW.trod_int h2 h5
      exact ⟨z, by simpa using e1, e2⟩
    obtain ⟨a, rfl, wa⟩ := key 0 f0 .i64 y0 rfl hI (by rw [o0, cI]; rfl) (by omega)
    obtain ⟨b, rfl, wb⟩ := key 1 f1 .i64 y1 rfl (by rw [t1]; exact hI) (by rw [o1, t1, cI]; rfl) (by omega)
    obtain ⟨c, rfl, wc⟩ := key 2 f2 .i64 y2 rfl (by rw [t2]; exact hI) (by rw [o2, t2, cI]; rfl) (by omega)
    obtain ⟨d, rfl, wd⟩ := key 3 f3 .i64 y3 rfl (by rw [t3]; exact hI) (by rw [o3, t3, cI]; rfl) (by omega)
    obtain ⟨g, rfl, wg⟩ := key 4 f4 .u32 y4 rfl hU (by rw [o4, cU]; rfl) (by omega)
    intro i hi
    have hc : i = 0 ∨ i = 1 ∨ i = 2 ∨ i = 3 ∨ i = 4 := by omega
    rcases hc with rfl | rfl | rfl | rfl | rfl
    · exact ⟨a, rfl, wa⟩
    · exact ⟨b, rfl, wb⟩
    · exact ⟨c, rfl, wc⟩
    · exact ⟨d, rfl, wd⟩
    · exact ⟨g, rfl, wg⟩
theorem isKeys {H : Type} {enc : TypeId × Value → H} {P : Program} {W : World} {r : Reach} {b0 : Nat} {held : Bool} {t e : TypeId} {f0 f1 f2 f3 f4 : Field} {v : Value} {d : DataW H} {ps : List MemPlace}
    (ht : P.underlying t = some (.slice e)) (hs : P.underlying e = some (.struct #[f0, f1, f2, f3, f4])) (hC : P.cellsOf e = 5) (ho : f0.offset = 0 ∧ f1.offset = 1 ∧ f2.offset = 2 ∧ f3.offset = 3 ∧ f4.offset = 4)
    (htt : f1.type = f0.type ∧ f2.type = f0.type ∧ f3.type = f0.type) (hI : P.underlying f0.type = some (.int .i64)) (hU : P.underlying f4.type = some (.int .u32)) (cI : P.cellsOf f0.type = 1) (cU : P.cellsOf f4.type = 1)
    (hval : Value.okWide P W r b0 t v) (hd : DataW.Trod enc P W 0 (fun _ => true) held t v d ps) : IsKeys W v := by
  obtain ⟨fuel, hf⟩ := hd
  obtain ⟨a0, len, cap, rfl⟩ := Go.WideShapes.okWide_slice ht hval
  rcases Go.Deep.open_slice ht hf with ⟨hcs, _⟩ | ⟨a, len', cap', m, n, D, Pl, hcs, _, hl, hm, hmm, _, hx⟩
  · left
    simpa [Value.cells] using hcs
  · right
    simp [Value.cells] at hcs
    obtain ⟨rfl, rfl, rfl⟩ := hcs
    simp only [if_true] at hmm
    subst hmm
    have key : ∀ i, i < m * 5 → ∃ z, W.cell? (a.add i) = some (.int (kk i) z) ∧ (Lit.int (kk i) z).wf = true := by
      intro i hi
      obtain ⟨cs', h1, h2⟩ := hx (i / 5) (by omega)
      rw [hC] at h1
      obtain ⟨_, q2, q3⟩ := World.cells?_some h1
      obtain ⟨z, z1, z2⟩ := key_cell hs ho htt hI hU cI cU q2 h2 (i % 5) (by omega)
      have h3 := q3 (i % 5) (by omega)
      rw [Go.Deep.add_add, show i / 5 * 5 + i % 5 = i by omega, z1] at h3
      have hk : kk (i % 5) = kk i := by unfold kk; rw [Nat.mod_mod]
      rw [hk] at h3 z2
      exact ⟨z, h3, z2⟩
    have hg : ∀ i, i < m * 5 → ((List.range (m * 5)).map fun i => cellInt W (a.add i)).getD i 0 = cellInt W (a.add i) := by
      intro i hi
      simp [List.getD, hi]
    refine ⟨a, len, m, (List.range (m * 5)).map fun i => cellInt W (a.add i), rfl, hl, by simp, fun i hi => ?_, fun i => ?_⟩
    · obtain ⟨z, h1, _⟩ := key i hi
      rw [hg i hi]
      simp only [cellInt, h1]
    · rcases Nat.lt_or_ge i (m * 5) with hi | hi
      · obtain ⟨z, h1, h2⟩ := key i hi
        rw [hg i hi]
        simpa only [cellInt, h1] using h2
      · rw [List.getD_eq_getElem?_getD, List.getElem?_eq_none (by simpa using hi)]
        unfold kk
        split <;> decide
theorem rowK {W : World} {k : Nat → IntKind} {a : Addr} {n m : Nat} {zs : List Int} (hle : n ≤ m) (hpos : 0 < m) (hcell : ∀ i, i < m → W.cell? (a.add i) = some (.int (k i) (zs.getD i 0))) :
    RowIs W a ((List.range n).map fun i => .int (k i) (zs.getD i 0)) m := by
  refine ⟨by simpa using hle, hpos, fun i hi => ⟨_, hcell i hi⟩, fun i x hx => ?_, fun x hx => ?_⟩
  · rcases Nat.lt_or_ge i n with h | h
    · rw [List.getElem?_map, List.getElem?_range h] at hx
      simp only [Option.map_some, Option.some.injEq] at hx
      rw [← hx]
      exact hcell i (by omega)
    · rw [List.getElem?_eq_none (by simpa using h)] at hx
      cases hx
  · obtain ⟨i, _, rfl⟩ := List.mem_map.1 hx
    exact ⟨fun s e => (by cases e), fun t v e => (by cases e)⟩
noncomputable def kRow (k : Nat → IntKind) (b : Nat) : Nat → Nat → List V
  | 0, _ => []
  | n + 1, j => .int (k j) (.var (b + j)) :: kRow k b n (j + 1)
theorem vrs_k {σ : Nat → Int} {ρ : Inj} {k : Nat → IntKind} {zs : List Int} {b : Nat} (h : ∀ i, σ (b + i) = zs.getD i 0) : ∀ (n j : Nat), VRs σ ρ (kRow k b n j) ((List.range' j n).map fun i => .int (k i) (zs.getD i 0))
  | 0, j => by simpa [kRow] using VRs.nil
  | n + 1, j => by
    rw [List.range'_succ, List.map_cons]
    exact VRs.cons (by simp only [VR, E.den]; rw [h j]) (vrs_k h n (j + 1))
end Tk
