/- What the evaluator asks of this seat's program for worldAsks: regions, globals, names; the listed errors; Number's code. -/
import Derived.Test.YtphhnhheedbjjaaGreatDoorEvArg
import Derived.Test.YtphhnhheedbjjaaGreatDoorEvIsC
import Derived.Test.YtphhnhheedbjjaaGreatDoorEvIs
import Derived.Test.YtphhnhheedbjjaaGreatDoorShelf
import Derived.Test.YtphhnhheedbjjaaGreatDoorEvExt
import Derived.Test.YtphhnhheedbjjaaGreatDoorRows
import Derived.Test.YtphhnhheedbjjaaGreatDoorTie
import Derived.Test.YtphhnhheedbjjaaGreatDoorCards
import Derived.WalkKit
import Derived.ProofKit
import Derived.OpenShut
import Derived.MakeChecks
import Derived.Deep.DeepHandedRow
set_option linter.unusedVariables false
set_option linter.unusedSimpArgs false
set_option maxRecDepth 10000000
namespace Go.Proofs.YtphhnhheedbjjaaGreatDoor.worldAsks
open Tk

/-- functions that are not gone into here -/
def bad : Bad := [116, 189, 197, 198, 223, 356]
theorem fit : Fit Tryz.prog 412927 bad := fit_of (by kernel_rfl) (by kernel_rfl)
/-- the listed errors: name, number, text -/
def errs : List (String × Nat × List UInt8) :=
  [("strconv.ErrRange", 11, [118, 97, 108, 117, 101, 32, 111, 117, 116, 32, 111, 102, 32, 114, 97, 110, 103, 101]),
   ("strconv.ErrSyntax", 10, [105, 110, 118, 97, 108, 105, 100, 32, 115, 121, 110, 116, 97, 120]),
   ("turnkey/api.ErrShape", 7, [110, 111, 116, 32, 97, 115, 32, 105, 116, 32, 104, 97, 115, 32, 116, 111, 32, 98, 101]),
   ("turnkey/api.ErrRange", 4, [97, 32, 110, 117, 109, 98, 101, 114, 32, 111, 117, 116, 32, 111, 102, 32, 105, 116, 115, 32, 114, 97, 110, 103, 101]),
   ("turnkey/api.ErrMany", 0, [116, 111, 111, 32, 109, 97, 110, 121]),
   ("turnkey/api.ErrNone", 3, [116, 104, 101, 114, 101, 32, 105, 115, 32, 110, 111, 110, 101]),
   ("turnkey/api.ErrFull", 6, [116, 104, 101, 114, 101, 32, 105, 115, 32, 110, 111, 32, 114, 111, 111, 109]),
   ("turnkey/api.ErrLimit", 14, [97, 116, 32, 105, 116, 115, 32, 108, 105, 109, 105, 116]),
   ("turnkey/api.ErrOwn", 18, [110, 111, 116, 32, 111, 110, 101, 32, 111, 102, 32, 105, 116, 115, 32, 111, 119, 110]),
   ("turnkey/api.ErrState", 5, [110, 111, 116, 32, 105, 110, 32, 116, 104, 105, 115, 32, 115, 116, 97, 116, 101]),
   ("turnkey/api.ErrRight", 17, [105, 116, 32, 108, 97, 99, 107, 115, 32, 116, 104, 101, 32, 114, 105, 103, 104, 116]),
   ("turnkey/api.ErrWord", 1, [110, 111, 32, 115, 117, 99, 104, 32, 119, 111, 114, 100]),
   ("turnkey/api.ErrNumber", 2, [110, 111, 32, 115, 117, 99, 104, 32, 110, 117, 109, 98, 101, 114])]
def laidErrs : List (String × DataW Unit) := errs.map fun x => (x.1, .iface "*errors.errorString" (.ptr (.agg [.lit (.string x.2.2)])))
def errTab : Errs := errs.map (·.2)
theorem star : "*" ++ "errors.errorString" = "*errors.errorString" := by decide
theorem rowEs (u : TypeId) (h : Tryz.prog.typeName? 3 u = some "*errors.errorString") : u = 373 :=
  typeName_ptr_named (nm := "errors.errorString") (by rw [star]; kernel_rfl) (by kernel_rfl) (by decide) u (by rw [star]; exact h)
theorem errs_global : ∀ x ∈ errs, Tryz.prog.globalNamed x.1 = some x.2.1 ∧ (Tryz.prog.globals[x.2.1]?).map (·.type) = some 58 := by
  have h : (errs.all fun x => (Tryz.prog.globalNamed x.1 == some x.2.1) && ((Tryz.prog.globals[x.2.1]?).map (·.type) == some 58)) = true := by kernel_rfl
  intro x hx
  have := List.all_eq_true.1 h x hx
  simpa using this
theorem cellsSt : Tryz.prog.cellsOf 375 = 1 := by kernel_rfl
theorem cellsStr : Tryz.prog.cellsOf 9 = 1 := by kernel_rfl
/-- what is laid when the call begins -/
abbrev L0 (W : World) : Prop := laidMetH Tryz.prog Rows.worldAsksRow.laid W
/-- the names of the listed errors -/
def errNames : List String := errs.map (·.1)
theorem errs_sents {W : World} (h : laidMetH Tryz.prog Rows.worldAsksRow.laid W) : ∃ ads, Sents 373 W errTab ads ∧ ads.length = errTab.length ∧ (placesOf errTab ads).Nodup := by
  rw [MakeChecks.laidMetH_plain _ _ _ (by kernel_rfl)] at h
  have h := laidMet_filter (fun x => errNames.contains x.1) h
  rw [show (Rows.worldAsksRow.laid).filter (fun x => errNames.contains x.1) = laidErrs by kernel_rfl] at h
  obtain ⟨ps, hv, hnd, hrows⟩ := h
  obtain ⟨ads, h1, h2, h3⟩ := sents_of Tryz.underlying58 rowEs Tryz.underlying373 Tryz.underlying375 rfl rfl Tryz.underlying9 cellsSt cellsStr errs ps errs_global hv hrows
  exact ⟨ads, h1, by rw [h2]; simp [errTab], by rw [show errTab = errs.map (·.2) from rfl, ← h3]; exact hnd⟩
theorem errs_all (g : Nat) (hg : hasBit 412927 g = true) : ∃ s, (g, s) ∈ errTab := bits_all (N := 19) (by decide) (by kernel_rfl) g hg
theorem errs_lt : ∀ x ∈ errTab, x.1 < 19 ∧ hasBit 412927 x.1 = true := by
  have h : (errTab.all fun x => Nat.ble (x.1 + 1) 19 && hasBit 412927 x.1) = true := by kernel_rfl
  intro x hx
  have := List.all_eq_true.1 h x hx
  simp only [Bool.and_eq_true] at this
  exact ⟨Nat.le_of_ble_eq_true this.1, this.2⟩
theorem num32 : NumRuns Tryz.prog bad 6 32 := fun nx => ⟨by kernel_rfl, by kernel_rfl⟩
theorem num4000 : NumRuns Tryz.prog bad 6 4000 := fun nx => ⟨by kernel_rfl, by kernel_rfl⟩
theorem ext_is {σ : Nat → Int} {W0 : World} (hL : laidMetH Tryz.prog Rows.worldAsksRow.laid W0) : CallOk Tryz.prog 412927 σ W0 272 (isFn 373) := is_ok Tryz.func272 (by kernel_rfl) (by kernel_rfl) is_same is_nil is_other
theorem syn_laid {W0 : World} (hL : L0 W0) : ∃ te pe, W0.cell? ⟨10, 0, none⟩ = some (.iface te pe) := by
  obtain ⟨ads, h1, h2, h3⟩ := errs_sents hL
  obtain ⟨a, _, ⟨⟨t, hb⟩, _⟩, _⟩ := sents_get h1 (j := 1) (g := 10) (s := [105, 110, 118, 97, 108, 105, 100, 32, 115, 121, 110, 116, 97, 120]) rfl
  exact ⟨_, _, by rw [cell_at hb]; rfl⟩
theorem tab_laid {W0 : World} (hL : laidMetH Tryz.prog Rows.worldAsksRow.laid W0) : Lib.TabIs Tryz.prog W0 "internal/strconv.uint64pow10" .u64 Lib.pow10Tab := by
  rw [MakeChecks.laidMetH_plain _ _ _ (by kernel_rfl)] at hL
  have h := laidMet_filter (fun x => x.1 == "internal/strconv.uint64pow10") hL
  rw [show (Rows.worldAsksRow.laid).filter (fun x => x.1 == "internal/strconv.uint64pow10") = [("internal/strconv.uint64pow10", Lib.tabData .u64 Lib.pow10Tab)] by kernel_rfl] at h
  exact Lib.tabIs_of_head (g := 8) (t := 294) (e := 241) (n := 20) (by kernel_rfl) (by kernel_rfl) (by kernel_rfl) (by kernel_rfl) (by kernel_rfl) (by kernel_rfl) h
theorem ext_atoi {σ : Nat → Int} {W0 : World} (hL : laidMetH Tryz.prog Rows.worldAsksRow.laid W0) : CallOk Tryz.prog 412927 σ W0 108 (atoiFullFn 330) := atoi_full_ok Tryz.func108 (by kernel_rfl) (by kernel_rfl) (syn_laid hL) (fun s n h1 h2 w => Tryz.strconv_Atoi s n h1 h2 w) (fun s h1 h2 ev w h3 h4 => Tryz.strconv_Atoi_err s h1 h2 ev w h3 h4)
theorem ext_itoa {σ : Nat → Int} {W0 : World} (hL : laidMetH Tryz.prog Rows.worldAsksRow.laid W0) : CallOk Tryz.prog 412927 σ W0 19 (itoaFullFn) := itoa_full_ok Tryz.func19 (by kernel_rfl) (by kernel_rfl) (tab_laid hL) (fun n h1 h2 w h => Tryz.strconv_Itoa n h1 h2 w h)
theorem ext_count {σ : Nat → Int} {W0 : World} (hL : laidMetH Tryz.prog Rows.worldAsksRow.laid W0) : CallOk Tryz.prog 412927 σ W0 188 (countDFn) := countD_ok Tryz.func188 (by kernel_rfl) (by kernel_rfl) (by kernel_rfl) (by kernel_rfl)
theorem ext_index {σ : Nat → Int} {W0 : World} (hL : laidMetH Tryz.prog Rows.worldAsksRow.laid W0) : CallOk Tryz.prog 412927 σ W0 261 (indexDFn) := indexD_ok Tryz.func261 (by kernel_rfl) (by kernel_rfl) (by kernel_rfl) (by kernel_rfl)
theorem ext_cut189 {σ : Nat → Int} {W0 : World} (hL : laidMetH Tryz.prog Rows.worldAsksRow.laid W0) : CallOk Tryz.prog 412927 σ W0 189 (cutOf Tryz.prog 412927 bad [(188, countDFn), (261, indexDFn)] 1000 20 189) := cut_x fit (FnsOk.cons (ext_count hL) (FnsOk.cons (ext_index hL) (FnsOk.nil))) (by kernel_rfl)
theorem ext_atoiD {σ : Nat → Int} {W0 : World} (hL : laidMetH Tryz.prog Rows.worldAsksRow.laid W0) {rng : List (Int × Int)} {facts : List (Bool × E × E × Bool)} (hk : Known2 σ rng facts) : CallOk Tryz.prog 412927 σ W0 108 (atoiDFn (cxX Tryz.prog bad rng facts []) (atoiFullFn 330)) := atoiD_ok (Γ := (cxX Tryz.prog bad rng facts [])) ⟨hk.rng, hk.facts⟩ (ext_atoi hL) Tryz.func108 (by kernel_rfl) (by kernel_rfl) (fun s n h1 h2 w => Tryz.strconv_Atoi s n h1 h2 w)
theorem ext_itoaD {σ : Nat → Int} {W0 : World} (hL : laidMetH Tryz.prog Rows.worldAsksRow.laid W0) {rng : List (Int × Int)} {facts : List (Bool × E × E × Bool)} (hk : Known2 σ rng facts) : CallOk Tryz.prog 412927 σ W0 19 (itoaDFn (cxX Tryz.prog bad rng facts [])) := itoaD_ok (Γ := (cxX Tryz.prog bad rng facts [])) ⟨hk.rng, hk.facts⟩ Tryz.func19 (by kernel_rfl) (by kernel_rfl) (tab_laid hL) (fun n h1 h2 w h => Tryz.strconv_Itoa n h1 h2 w h)
end Go.Proofs.YtphhnhheedbjjaaGreatDoor.worldAsks
