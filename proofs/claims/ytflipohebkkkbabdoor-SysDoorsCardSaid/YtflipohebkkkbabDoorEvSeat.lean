/- What the evaluator asks of this seat's program: regions, globals, names; the listed errors; Number's code. -/
import Derived.Test.YtflipohebkkkbabDoorEvLaw4
import Derived.Test.YtflipohebkkkbabDoorRows
import Derived.Test.YtflipohebkkkbabDoorTie
import Derived.Test.YtflipohebkkkbabDoorCards
import Derived.WalkKit
import Derived.ProofKit
import Derived.OpenShut
import Derived.MakeChecks
import Derived.Deep.DeepHandedRow
set_option linter.unusedVariables false
set_option linter.unusedSimpArgs false
set_option maxRecDepth 10000000
namespace Go.Proofs.YtflipohebkkkbabDoor
open Tk

theorem mixed : Tryd.prog.follows .mixedOrders = true := by kernel_rfl
theorem bodies : allL (fun fn => bodyOk 7 fn && notB (fn.name == "runtime.NumGoroutine")) Tryd.prog.funcs.toList = true := by kernel_rfl
theorem body_ok (f : FuncId) (fn : Func) (h : Tryd.prog.funcs[f]? = some fn) : bodyOk 7 fn = true ∧ (fn.name == "runtime.NumGoroutine") = false := by
  have hb := bodies
  rw [allL_eq, List.all_eq_true] at hb
  have := hb fn (by rw [← Array.getElem?_toList] at h; exact List.mem_of_getElem? h)
  simp only [Bool.and_eq_true] at this
  refine ⟨this.1, ?_⟩
  have h2 := this.2
  revert h2
  cases (fn.name == "runtime.NumGoroutine")
  · intro _; rfl
  · intro h; cases h
/-- the listed errors: name, number, text -/
def errs : List (String × Nat × List UInt8) :=
  [("turnkey/api.ErrShape", 5, [110, 111, 116, 32, 97, 115, 32, 105, 116, 32, 104, 97, 115, 32, 116, 111, 32, 98, 101]),
   ("turnkey/api.ErrRange", 1, [97, 32, 110, 117, 109, 98, 101, 114, 32, 111, 117, 116, 32, 111, 102, 32, 105, 116, 115, 32, 114, 97, 110, 103, 101]),
   ("turnkey/api.ErrMany", 3, [116, 111, 111, 32, 109, 97, 110, 121]),
   ("turnkey/api.ErrNone", 0, [116, 104, 101, 114, 101, 32, 105, 115, 32, 110, 111, 110, 101]),
   ("turnkey/api.ErrFull", 6, [116, 104, 101, 114, 101, 32, 105, 115, 32, 110, 111, 32, 114, 111, 111, 109]),
   ("turnkey/api.ErrLimit", 4, [97, 116, 32, 105, 116, 115, 32, 108, 105, 109, 105, 116]),
   ("turnkey/api.ErrOwn", 2, [110, 111, 116, 32, 111, 110, 101, 32, 111, 102, 32, 105, 116, 115, 32, 111, 119, 110])]
def laidErrs : List (String × DataW Unit) := errs.map fun x => (x.1, .iface "*errors.errorString" (.ptr (.agg [.lit (.string x.2.2)])))
def errTab : Errs := errs.map (·.2)
theorem star : "*" ++ "errors.errorString" = "*errors.errorString" := by decide
theorem rowEs (u : TypeId) (h : Tryd.prog.typeName? 3 u = some "*errors.errorString") : u = 201 :=
  typeName_ptr_named (nm := "errors.errorString") (by rw [star]; kernel_rfl) (by kernel_rfl) (by decide) u (by rw [star]; exact h)
theorem errs_global : ∀ x ∈ errs, Tryd.prog.globalNamed x.1 = some x.2.1 ∧ (Tryd.prog.globals[x.2.1]?).map (·.type) = some 28 := by
  have h : (errs.all fun x => (Tryd.prog.globalNamed x.1 == some x.2.1) && ((Tryd.prog.globals[x.2.1]?).map (·.type) == some 28)) = true := by kernel_rfl
  intro x hx
  have := List.all_eq_true.1 h x hx
  simpa using this
theorem cellsSt : Tryd.prog.cellsOf 230 = 1 := by kernel_rfl
theorem cellsStr : Tryd.prog.cellsOf 9 = 1 := by kernel_rfl
theorem errs_sents {W : World} (h : laidMetH Tryd.prog laidErrs W) : ∃ ads, Sents 201 W errTab ads ∧ ads.length = errTab.length ∧ (placesOf errTab ads).Nodup := by
  rw [MakeChecks.laidMetH_plain _ _ _ (by kernel_rfl)] at h
  obtain ⟨ps, hv, hnd, hrows⟩ := h
  obtain ⟨ads, h1, h2, h3⟩ := sents_of Tryd.underlying28 rowEs Tryd.underlying201 Tryd.underlying230 rfl rfl Tryd.underlying9 cellsSt cellsStr errs ps errs_global hv hrows
  exact ⟨ads, h1, by rw [h2]; simp [errTab], by rw [show errTab = errs.map (·.2) from rfl, ← h3]; exact hnd⟩
theorem errs_all (g : Nat) (hg : g < 7) : ∃ s, (g, s) ∈ errTab := by
  have h : ((List.range 7).all fun g => errTab.any fun x => x.1 == g) = true := by decide
  have := List.all_eq_true.1 h g (List.mem_range.2 hg)
  obtain ⟨x, hx, he⟩ := List.any_eq_true.1 this
  have he : x.1 = g := by simpa using he
  exact ⟨x.2, by rw [← he]; exact hx⟩
theorem errs_lt : ∀ x ∈ errTab, x.1 < 7 := by decide
theorem num4 : NumRuns Tryd.prog 10 4 := fun nx => ⟨by kernel_rfl, by kernel_rfl⟩
theorem num50 : NumRuns Tryd.prog 10 50 := fun nx => ⟨by kernel_rfl, by kernel_rfl⟩
end Go.Proofs.YtflipohebkkkbabDoor
