/- What the evaluator asks of this seat's program for objectDomains: regions, globals, names; the listed errors; Number's code. -/
import Derived.Test.YtblmlpebhfbceaaGreatDoorEvArg
import Derived.Test.YtblmlpebhfbceaaGreatDoorEvIsC
import Derived.Test.YtblmlpebhfbceaaGreatDoorEvIs
import Derived.Test.YtblmlpebhfbceaaGreatDoorRows
import Derived.Test.YtblmlpebhfbceaaGreatDoorTie
import Derived.Test.YtblmlpebhfbceaaGreatDoorCards
import Derived.WalkKit
import Derived.ProofKit
import Derived.OpenShut
import Derived.MakeChecks
import Derived.Deep.DeepHandedRow
set_option linter.unusedVariables false
set_option linter.unusedSimpArgs false
set_option maxRecDepth 10000000
namespace Go.Proofs.YtblmlpebhfbceaaGreatDoor.objectDomains
open Tk

/-- functions that are not gone into here -/
def bad : Bad := []
theorem fit : Fit Tryz.prog 511 bad := fit_of (by kernel_rfl) (by kernel_rfl)
/-- the listed errors: name, number, text -/
def errs : List (String × Nat × List UInt8) :=
  [("turnkey/api.ErrShape", 5, [110, 111, 116, 32, 97, 115, 32, 105, 116, 32, 104, 97, 115, 32, 116, 111, 32, 98, 101]),
   ("turnkey/api.ErrRange", 2, [97, 32, 110, 117, 109, 98, 101, 114, 32, 111, 117, 116, 32, 111, 102, 32, 105, 116, 115, 32, 114, 97, 110, 103, 101]),
   ("turnkey/api.ErrMany", 0, [116, 111, 111, 32, 109, 97, 110, 121]),
   ("turnkey/api.ErrNone", 1, [116, 104, 101, 114, 101, 32, 105, 115, 32, 110, 111, 110, 101]),
   ("turnkey/api.ErrFull", 6, [116, 104, 101, 114, 101, 32, 105, 115, 32, 110, 111, 32, 114, 111, 111, 109]),
   ("turnkey/api.ErrLimit", 4, [97, 116, 32, 105, 116, 115, 32, 108, 105, 109, 105, 116]),
   ("turnkey/api.ErrOwn", 8, [110, 111, 116, 32, 111, 110, 101, 32, 111, 102, 32, 105, 116, 115, 32, 111, 119, 110]),
   ("turnkey/api.ErrState", 3, [110, 111, 116, 32, 105, 110, 32, 116, 104, 105, 115, 32, 115, 116, 97, 116, 101]),
   ("turnkey/api.ErrRight", 7, [105, 116, 32, 108, 97, 99, 107, 115, 32, 116, 104, 101, 32, 114, 105, 103, 104, 116])]
def laidErrs : List (String × DataW Unit) := errs.map fun x => (x.1, .iface "*errors.errorString" (.ptr (.agg [.lit (.string x.2.2)])))
def errTab : Errs := errs.map (·.2)
theorem star : "*" ++ "errors.errorString" = "*errors.errorString" := by decide
theorem rowEs (u : TypeId) (h : Tryz.prog.typeName? 3 u = some "*errors.errorString") : u = 289 :=
  typeName_ptr_named (nm := "errors.errorString") (by rw [star]; kernel_rfl) (by kernel_rfl) (by decide) u (by rw [star]; exact h)
theorem errs_global : ∀ x ∈ errs, Tryz.prog.globalNamed x.1 = some x.2.1 ∧ (Tryz.prog.globals[x.2.1]?).map (·.type) = some 30 := by
  have h : (errs.all fun x => (Tryz.prog.globalNamed x.1 == some x.2.1) && ((Tryz.prog.globals[x.2.1]?).map (·.type) == some 30)) = true := by kernel_rfl
  intro x hx
  have := List.all_eq_true.1 h x hx
  simpa using this
theorem cellsSt : Tryz.prog.cellsOf 323 = 1 := by kernel_rfl
theorem cellsStr : Tryz.prog.cellsOf 9 = 1 := by kernel_rfl
/-- what is laid when the call begins -/
abbrev L0 (W : World) : Prop := laidMetH Tryz.prog Rows.objectDomainsRow.laid W
/-- the names of the listed errors -/
def errNames : List String := errs.map (·.1)
theorem errs_sents {W : World} (h : laidMetH Tryz.prog Rows.objectDomainsRow.laid W) : ∃ ads, Sents 289 W errTab ads ∧ ads.length = errTab.length ∧ (placesOf errTab ads).Nodup := by
  rw [MakeChecks.laidMetH_plain _ _ _ (by kernel_rfl)] at h
  have h := laidMet_filter (fun x => errNames.contains x.1) h
  rw [show (Rows.objectDomainsRow.laid).filter (fun x => errNames.contains x.1) = laidErrs by kernel_rfl] at h
  obtain ⟨ps, hv, hnd, hrows⟩ := h
  obtain ⟨ads, h1, h2, h3⟩ := sents_of Tryz.underlying30 rowEs Tryz.underlying289 Tryz.underlying323 rfl rfl Tryz.underlying9 cellsSt cellsStr errs ps errs_global hv hrows
  exact ⟨ads, h1, by rw [h2]; simp [errTab], by rw [show errTab = errs.map (·.2) from rfl, ← h3]; exact hnd⟩
theorem errs_all (g : Nat) (hg : hasBit 511 g = true) : ∃ s, (g, s) ∈ errTab := bits_all (N := 9) (by decide) (by kernel_rfl) g hg
theorem errs_lt : ∀ x ∈ errTab, x.1 < 9 ∧ hasBit 511 x.1 = true := by
  have h : (errTab.all fun x => Nat.ble (x.1 + 1) 9 && hasBit 511 x.1) = true := by kernel_rfl
  intro x hx
  have := List.all_eq_true.1 h x hx
  simp only [Bool.and_eq_true] at this
  exact ⟨Nat.le_of_ble_eq_true this.1, this.2⟩
theorem ext_is {σ : Nat → Int} {W0 : World} (hL : laidMetH Tryz.prog Rows.objectDomainsRow.laid W0) : CallOk Tryz.prog 511 σ W0 142 (isFn 289) := is_ok Tryz.func142 (by kernel_rfl) (by kernel_rfl) is_same is_nil is_other
end Go.Proofs.YtblmlpebhfbceaaGreatDoor.objectDomains
