/- What the evaluator asks of this seat's program for codeBack: regions, globals, names; the listed errors; Number's code. -/
import Derived.Test.YtphhnhheedbjjaaDoorEwTab
import Derived.Test.YtphhnhheedbjjaaDoorShelf
import Derived.Test.YtphhnhheedbjjaaDoorEwExt
import Derived.Test.YtphhnhheedbjjaaDoorRows
import Derived.Test.YtphhnhheedbjjaaDoorTie
import Derived.Test.YtphhnhheedbjjaaDoorCards
import Derived.WalkKit
import Derived.ProofKit
import Derived.OpenShut
import Derived.MakeChecks
import Derived.Deep.DeepHandedRow
set_option linter.unusedVariables false
set_option linter.unusedSimpArgs false
set_option maxRecDepth 10000000
namespace Go.Proofs.YtphhnhheedbjjaaDoor.codeBack
open Tk

/-- functions that are not gone into here -/
def bad : Bad := [50, 56, 64, 70, 75, 76, 118]
theorem fit : Fit Tryd.prog 3 bad := fit_of (by kernel_rfl) (by kernel_rfl)
/-- the listed errors: name, number, text -/
def errs : List (String × Nat × List UInt8) :=
  [("turnkey/api.ErrRange", 1, [97, 32, 110, 117, 109, 98, 101, 114, 32, 111, 117, 116, 32, 111, 102, 32, 105, 116, 115, 32, 114, 97, 110, 103, 101]),
   ("turnkey/api.ErrWord", 0, [110, 111, 32, 115, 117, 99, 104, 32, 119, 111, 114, 100])]
def laidErrs : List (String × DataW Unit) := errs.map fun x => (x.1, .iface "*errors.errorString" (.ptr (.agg [.lit (.string x.2.2)])))
def errTab : Errs := errs.map (·.2)
theorem star : "*" ++ "errors.errorString" = "*errors.errorString" := by decide
theorem rowEs (u : TypeId) (h : Tryd.prog.typeName? 3 u = some "*errors.errorString") : u = 115 :=
  typeName_ptr_named (nm := "errors.errorString") (by rw [star]; kernel_rfl) (by kernel_rfl) (by decide) u (by rw [star]; exact h)
theorem errs_global : ∀ x ∈ errs, Tryd.prog.globalNamed x.1 = some x.2.1 ∧ (Tryd.prog.globals[x.2.1]?).map (·.type) = some 30 := by
  have h : (errs.all fun x => (Tryd.prog.globalNamed x.1 == some x.2.1) && ((Tryd.prog.globals[x.2.1]?).map (·.type) == some 30)) = true := by kernel_rfl
  intro x hx
  have := List.all_eq_true.1 h x hx
  simpa using this
theorem cellsSt : Tryd.prog.cellsOf 130 = 1 := by kernel_rfl
theorem cellsStr : Tryd.prog.cellsOf 9 = 1 := by kernel_rfl
/-- what is laid when the call begins -/
abbrev L0 (W : World) : Prop := laidMetH Tryd.prog Rows.codeBackRow.laid W
/-- the names of the listed errors -/
def errNames : List String := errs.map (·.1)
theorem errs_sents {W : World} (h : laidMetH Tryd.prog Rows.codeBackRow.laid W) : ∃ ads, Sents 115 W errTab ads ∧ ads.length = errTab.length ∧ (placesOf errTab ads).Nodup := by
  rw [MakeChecks.laidMetH_plain _ _ _ (by kernel_rfl)] at h
  have h := laidMet_filter (fun x => errNames.contains x.1) h
  rw [show (Rows.codeBackRow.laid).filter (fun x => errNames.contains x.1) = laidErrs by kernel_rfl] at h
  obtain ⟨ps, hv, hnd, hrows⟩ := h
  obtain ⟨ads, h1, h2, h3⟩ := sents_of Tryd.underlying30 rowEs Tryd.underlying115 Tryd.underlying130 rfl rfl Tryd.underlying9 cellsSt cellsStr errs ps errs_global hv hrows
  exact ⟨ads, h1, by rw [h2]; simp [errTab], by rw [show errTab = errs.map (·.2) from rfl, ← h3]; exact hnd⟩
theorem errs_all (g : Nat) (hg : hasBit 3 g = true) : ∃ s, (g, s) ∈ errTab := bits_all (N := 18) (by decide) (by kernel_rfl) g hg
theorem errs_lt : ∀ x ∈ errTab, x.1 < 18 ∧ hasBit 3 x.1 = true := by
  have h : (errTab.all fun x => Nat.ble (x.1 + 1) 18 && hasBit 3 x.1) = true := by kernel_rfl
  intro x hx
  have := List.all_eq_true.1 h x hx
  simp only [Bool.and_eq_true] at this
  exact ⟨Nat.le_of_ble_eq_true this.1, this.2⟩
theorem tab_laid {W0 : World} (hL : laidMetH Tryd.prog Rows.codeBackRow.laid W0) : Lib.TabIs Tryd.prog W0 "internal/strconv.uint64pow10" .u64 Lib.pow10Tab := by
  rw [MakeChecks.laidMetH_plain _ _ _ (by kernel_rfl)] at hL
  have h := laidMet_filter (fun x => x.1 == "internal/strconv.uint64pow10") hL
  rw [show (Rows.codeBackRow.laid).filter (fun x => x.1 == "internal/strconv.uint64pow10") = [("internal/strconv.uint64pow10", Lib.tabData .u64 Lib.pow10Tab)] by kernel_rfl] at h
  exact Lib.tabIs_of_head (g := 12) (t := 103) (e := 89) (n := 20) (by kernel_rfl) (by kernel_rfl) (by kernel_rfl) (by kernel_rfl) (by kernel_rfl) (by kernel_rfl) h
theorem ext_itoa {σ : Nat → Int} {W0 : World} (hL : laidMetH Tryd.prog Rows.codeBackRow.laid W0) : CallOk Tryd.prog 3 σ W0 25 (itoaFullFn) := itoa_full_ok Tryd.func25 (by kernel_rfl) (by kernel_rfl) (tab_laid hL) (fun n h1 h2 w h => Tryd.strconv_Itoa n h1 h2 w h)
theorem ext_join {σ : Nat → Int} {W0 : World} (hL : laidMetH Tryd.prog Rows.codeBackRow.laid W0) : CallOk Tryd.prog 3 σ W0 28 (joinDFn) := joinD_ok Tryd.func28 (by kernel_rfl) (by kernel_rfl) (fun a c sep w => Tryd.strings_Join_none a c sep w) (fun bk o c xs sep w h1 h2 h3 h4 h5 => Tryd.strings_Join bk o c xs sep w h1 h2 h3 h4 h5)
theorem ext_count {σ : Nat → Int} {W0 : World} (hL : laidMetH Tryd.prog Rows.codeBackRow.laid W0) : CallOk Tryd.prog 3 σ W0 63 (countDFn) := countD_ok Tryd.func63 (by kernel_rfl) (by kernel_rfl) (by kernel_rfl) (by kernel_rfl)
theorem ext_index {σ : Nat → Int} {W0 : World} (hL : laidMetH Tryd.prog Rows.codeBackRow.laid W0) : CallOk Tryd.prog 3 σ W0 77 (indexDFn) := indexD_ok Tryd.func77 (by kernel_rfl) (by kernel_rfl) (by kernel_rfl) (by kernel_rfl)
theorem ext_cut64 {σ : Nat → Int} {W0 : World} (hL : laidMetH Tryd.prog Rows.codeBackRow.laid W0) : CallOk Tryd.prog 3 σ W0 64 (cutOf Tryd.prog 3 bad [(63, countDFn), (77, indexDFn)] 1000 20 64) := cut_x fit (FnsOk.cons (ext_count hL) (FnsOk.cons (ext_index hL) (FnsOk.nil))) (by kernel_rfl)
theorem ext_itoaD {σ : Nat → Int} {W0 : World} (hL : laidMetH Tryd.prog Rows.codeBackRow.laid W0) {rng : List (Int × Int)} {facts : List (Bool × E × E × Bool)} (hk : Known2 σ rng facts) : CallOk Tryd.prog 3 σ W0 25 (itoaDFn (cxX Tryd.prog bad rng facts [])) := itoaD_ok (Γ := (cxX Tryd.prog bad rng facts [])) ⟨hk.rng, hk.facts⟩ Tryd.func25 (by kernel_rfl) (by kernel_rfl) (tab_laid hL) (fun n h1 h2 w h => Tryd.strconv_Itoa n h1 h2 w h)
end Go.Proofs.YtphhnhheedbjjaaDoor.codeBack
