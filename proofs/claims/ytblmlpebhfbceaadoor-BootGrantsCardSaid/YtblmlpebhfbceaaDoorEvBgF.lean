/- What the evaluator asks of this seat's program for bootGrants: regions, globals, names; the listed errors; Number's code. -/
import Derived.Test.YtblmlpebhfbceaaDoorEvKey
import Derived.Test.YtblmlpebhfbceaaDoorRows
import Derived.Test.YtblmlpebhfbceaaDoorTie
import Derived.Test.YtblmlpebhfbceaaDoorCards
import Derived.WalkKit
import Derived.ProofKit
import Derived.OpenShut
import Derived.MakeChecks
import Derived.Deep.DeepHandedRow
set_option linter.unusedVariables false
set_option linter.unusedSimpArgs false
set_option maxRecDepth 10000000
namespace Go.Proofs.YtblmlpebhfbceaaDoor.bootGrants
open Tk

/-- functions that are not gone into here -/
def bad : Bad := []
theorem fit : Fit Tryd.prog 63 bad := fit_of (by kernel_rfl) (by kernel_rfl)
/-- the listed errors: name, number, text -/
def errs : List (String × Nat × List UInt8) :=
  [("turnkey/api.ErrShape", 2, [110, 111, 116, 32, 97, 115, 32, 105, 116, 32, 104, 97, 115, 32, 116, 111, 32, 98, 101]),
   ("turnkey/api.ErrRange", 3, [97, 32, 110, 117, 109, 98, 101, 114, 32, 111, 117, 116, 32, 111, 102, 32, 105, 116, 115, 32, 114, 97, 110, 103, 101]),
   ("turnkey/api.ErrMany", 0, [116, 111, 111, 32, 109, 97, 110, 121]),
   ("turnkey/api.ErrNone", 1, [116, 104, 101, 114, 101, 32, 105, 115, 32, 110, 111, 110, 101]),
   ("turnkey/api.ErrFull", 4, [116, 104, 101, 114, 101, 32, 105, 115, 32, 110, 111, 32, 114, 111, 111, 109]),
   ("turnkey/api.ErrLimit", 5, [97, 116, 32, 105, 116, 115, 32, 108, 105, 109, 105, 116])]
def laidErrs : List (String × DataW Unit) := errs.map fun x => (x.1, .iface "*errors.errorString" (.ptr (.agg [.lit (.string x.2.2)])))
def errTab : Errs := errs.map (·.2)
theorem star : "*" ++ "errors.errorString" = "*errors.errorString" := by decide
theorem rowEs (u : TypeId) (h : Tryd.prog.typeName? 3 u = some "*errors.errorString") : u = 174 :=
  typeName_ptr_named (nm := "errors.errorString") (by rw [star]; kernel_rfl) (by kernel_rfl) (by decide) u (by rw [star]; exact h)
theorem errs_global : ∀ x ∈ errs, Tryd.prog.globalNamed x.1 = some x.2.1 ∧ (Tryd.prog.globals[x.2.1]?).map (·.type) = some 32 := by
  have h : (errs.all fun x => (Tryd.prog.globalNamed x.1 == some x.2.1) && ((Tryd.prog.globals[x.2.1]?).map (·.type) == some 32)) = true := by kernel_rfl
  intro x hx
  have := List.all_eq_true.1 h x hx
  simpa using this
theorem cellsSt : Tryd.prog.cellsOf 195 = 1 := by kernel_rfl
theorem cellsStr : Tryd.prog.cellsOf 9 = 1 := by kernel_rfl
/-- what is laid when the call begins -/
abbrev L0 (W : World) : Prop := laidMetH Tryd.prog Rows.bootGrantsRow.laid W
/-- the names of the listed errors -/
def errNames : List String := errs.map (·.1)
theorem errs_sents {W : World} (h : laidMetH Tryd.prog Rows.bootGrantsRow.laid W) : ∃ ads, Sents 174 W errTab ads ∧ ads.length = errTab.length ∧ (placesOf errTab ads).Nodup := by
  rw [MakeChecks.laidMetH_plain _ _ _ (by kernel_rfl)] at h
  have h := laidMet_filter (fun x => errNames.contains x.1) h
  rw [show (Rows.bootGrantsRow.laid).filter (fun x => errNames.contains x.1) = laidErrs by kernel_rfl] at h
  obtain ⟨ps, hv, hnd, hrows⟩ := h
  obtain ⟨ads, h1, h2, h3⟩ := sents_of Tryd.underlying32 rowEs Tryd.underlying174 Tryd.underlying195 rfl rfl Tryd.underlying9 cellsSt cellsStr errs ps errs_global hv hrows
  exact ⟨ads, h1, by rw [h2]; simp [errTab], by rw [show errTab = errs.map (·.2) from rfl, ← h3]; exact hnd⟩
theorem errs_all (g : Nat) (hg : hasBit 63 g = true) : ∃ s, (g, s) ∈ errTab := bits_all (N := 6) (by decide) (by kernel_rfl) g hg
theorem errs_lt : ∀ x ∈ errTab, x.1 < 6 ∧ hasBit 63 x.1 = true := by
  have h : (errTab.all fun x => Nat.ble (x.1 + 1) 6 && hasBit 63 x.1) = true := by kernel_rfl
  intro x hx
  have := List.all_eq_true.1 h x hx
  simp only [Bool.and_eq_true] at this
  exact ⟨Nat.le_of_ble_eq_true this.1, this.2⟩
end Go.Proofs.YtblmlpebhfbceaaDoor.bootGrants
