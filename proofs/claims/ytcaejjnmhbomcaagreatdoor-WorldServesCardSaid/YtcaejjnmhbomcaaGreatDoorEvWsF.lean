/- What the evaluator asks of this seat's program for worldServes: regions, globals, names; the listed errors; Number's code. -/
import Derived.Test.YtcaejjnmhbomcaaGreatDoorEvCut
import Derived.Test.YtcaejjnmhbomcaaGreatDoorEvIsC
import Derived.Test.YtcaejjnmhbomcaaGreatDoorEvIs
import Derived.Test.YtcaejjnmhbomcaaGreatDoorShelf
import Derived.Test.YtcaejjnmhbomcaaGreatDoorEvExt
import Derived.Test.YtcaejjnmhbomcaaGreatDoorRows
import Derived.Test.YtcaejjnmhbomcaaGreatDoorTie
import Derived.Test.YtcaejjnmhbomcaaGreatDoorCards
import Derived.WalkKit
import Derived.ProofKit
import Derived.OpenShut
import Derived.MakeChecks
import Derived.Deep.DeepHandedRow
set_option linter.unusedVariables false
set_option linter.unusedSimpArgs false
set_option maxRecDepth 10000000
namespace Go.Proofs.YtcaejjnmhbomcaaGreatDoor.worldServes
open Tk

/-- functions that are not gone into here -/
def bad : Bad := [193, 212, 232, 268, 269, 407]
theorem fit : Fit Tryz.prog 399871 bad := fit_of (by kernel_rfl) (by kernel_rfl)
/-- the listed errors: name, number, text -/
def errs : List (String × Nat × List UInt8) :=
  [("strconv.ErrRange", 12, [118, 97, 108, 117, 101, 32, 111, 117, 116, 32, 111, 102, 32, 114, 97, 110, 103, 101]),
   ("strconv.ErrSyntax", 11, [105, 110, 118, 97, 108, 105, 100, 32, 115, 121, 110, 116, 97, 120]),
   ("turnkey/api.ErrShape", 8, [110, 111, 116, 32, 97, 115, 32, 105, 116, 32, 104, 97, 115, 32, 116, 111, 32, 98, 101]),
   ("turnkey/api.ErrRange", 4, [97, 32, 110, 117, 109, 98, 101, 114, 32, 111, 117, 116, 32, 111, 102, 32, 105, 116, 115, 32, 114, 97, 110, 103, 101]),
   ("turnkey/api.ErrMany", 3, [116, 111, 111, 32, 109, 97, 110, 121]),
   ("turnkey/api.ErrNone", 2, [116, 104, 101, 114, 101, 32, 105, 115, 32, 110, 111, 110, 101]),
   ("turnkey/api.ErrFull", 6, [116, 104, 101, 114, 101, 32, 105, 115, 32, 110, 111, 32, 114, 111, 111, 109]),
   ("turnkey/api.ErrLimit", 7, [97, 116, 32, 105, 116, 115, 32, 108, 105, 109, 105, 116]),
   ("turnkey/api.ErrOwn", 18, [110, 111, 116, 32, 111, 110, 101, 32, 111, 102, 32, 105, 116, 115, 32, 111, 119, 110]),
   ("turnkey/api.ErrState", 5, [110, 111, 116, 32, 105, 110, 32, 116, 104, 105, 115, 32, 115, 116, 97, 116, 101]),
   ("turnkey/api.ErrRight", 17, [105, 116, 32, 108, 97, 99, 107, 115, 32, 116, 104, 101, 32, 114, 105, 103, 104, 116]),
   ("turnkey/api.ErrWord", 0, [110, 111, 32, 115, 117, 99, 104, 32, 119, 111, 114, 100]),
   ("turnkey/api.ErrNumber", 1, [110, 111, 32, 115, 117, 99, 104, 32, 110, 117, 109, 98, 101, 114])]
def laidErrs : List (String × DataW Unit) := errs.map fun x => (x.1, .iface "*errors.errorString" (.ptr (.agg [.lit (.string x.2.2)])))
def errTab : Errs := errs.map (·.2)
theorem star : "*" ++ "errors.errorString" = "*errors.errorString" := by decide
theorem rowEs (u : TypeId) (h : Tryz.prog.typeName? 3 u = some "*errors.errorString") : u = 399 :=
  typeName_ptr_named (nm := "errors.errorString") (by rw [star]; kernel_rfl) (by kernel_rfl) (by decide) u (by rw [star]; exact h)
theorem errs_global : ∀ x ∈ errs, Tryz.prog.globalNamed x.1 = some x.2.1 ∧ (Tryz.prog.globals[x.2.1]?).map (·.type) = some 29 := by
  have h : (errs.all fun x => (Tryz.prog.globalNamed x.1 == some x.2.1) && ((Tryz.prog.globals[x.2.1]?).map (·.type) == some 29)) = true := by kernel_rfl
  intro x hx
  have := List.all_eq_true.1 h x hx
  simpa using this
theorem cellsSt : Tryz.prog.cellsOf 401 = 1 := by kernel_rfl
theorem cellsStr : Tryz.prog.cellsOf 9 = 1 := by kernel_rfl
/-- what is laid when the call begins -/
abbrev L0 (W : World) : Prop := laidMetH Tryz.prog Rows.worldServesRow.laid W
/-- the names of the listed errors -/
def errNames : List String := errs.map (·.1)
theorem errs_sents {W : World} (h : laidMetH Tryz.prog Rows.worldServesRow.laid W) : ∃ ads, Sents 399 W errTab ads ∧ ads.length = errTab.length ∧ (placesOf errTab ads).Nodup := by
  rw [MakeChecks.laidMetH_plain _ _ _ (by kernel_rfl)] at h
  have h := laidMet_filter (fun x => errNames.contains x.1) h
  rw [show (Rows.worldServesRow.laid).filter (fun x => errNames.contains x.1) = laidErrs by kernel_rfl] at h
  obtain ⟨ps, hv, hnd, hrows⟩ := h
  obtain ⟨ads, h1, h2, h3⟩ := sents_of Tryz.underlying29 rowEs Tryz.underlying399 Tryz.underlying401 rfl rfl Tryz.underlying9 cellsSt cellsStr errs ps errs_global hv hrows
  exact ⟨ads, h1, by rw [h2]; simp [errTab], by rw [show errTab = errs.map (·.2) from rfl, ← h3]; exact hnd⟩
theorem errs_all (g : Nat) (hg : hasBit 399871 g = true) : ∃ s, (g, s) ∈ errTab := bits_all (N := 19) (by decide) (by kernel_rfl) g hg
theorem errs_lt : ∀ x ∈ errTab, x.1 < 19 ∧ hasBit 399871 x.1 = true := by
  have h : (errTab.all fun x => Nat.ble (x.1 + 1) 19 && hasBit 399871 x.1) = true := by kernel_rfl
  intro x hx
  have := List.all_eq_true.1 h x hx
  simp only [Bool.and_eq_true] at this
  exact ⟨Nat.le_of_ble_eq_true this.1, this.2⟩
theorem num30 : NumRuns Tryz.prog bad 8 30 := fun nx => ⟨by kernel_rfl, by kernel_rfl⟩
theorem ext_is {σ : Nat → Int} {W0 : World} (hL : laidMetH Tryz.prog Rows.worldServesRow.laid W0) : CallOk Tryz.prog 399871 σ W0 320 (isFn 399) := is_ok Tryz.func320 (by kernel_rfl) (by kernel_rfl) is_same is_nil is_other
theorem syn_laid {W0 : World} (hL : L0 W0) : ∃ te pe, W0.cell? ⟨11, 0, none⟩ = some (.iface te pe) := by
  obtain ⟨ads, h1, h2, h3⟩ := errs_sents hL
  obtain ⟨a, _, ⟨⟨t, hb⟩, _⟩, _⟩ := sents_get h1 (j := 1) (g := 11) (s := [105, 110, 118, 97, 108, 105, 100, 32, 115, 121, 110, 116, 97, 120]) rfl
  exact ⟨_, _, by rw [cell_at hb]; rfl⟩
theorem tab_laid {W0 : World} (hL : laidMetH Tryz.prog Rows.worldServesRow.laid W0) : Lib.TabIs Tryz.prog W0 "internal/strconv.uint64pow10" .u64 Lib.pow10Tab := by
  rw [MakeChecks.laidMetH_plain _ _ _ (by kernel_rfl)] at hL
  have h := laidMet_filter (fun x => x.1 == "internal/strconv.uint64pow10") hL
  rw [show (Rows.worldServesRow.laid).filter (fun x => x.1 == "internal/strconv.uint64pow10") = [("internal/strconv.uint64pow10", Lib.tabData .u64 Lib.pow10Tab)] by kernel_rfl] at h
  exact Lib.tabIs_of_head (g := 13) (t := 383) (e := 296) (n := 20) (by kernel_rfl) (by kernel_rfl) (by kernel_rfl) (by kernel_rfl) (by kernel_rfl) (by kernel_rfl) h
theorem ext_atoi {σ : Nat → Int} {W0 : World} (hL : laidMetH Tryz.prog Rows.worldServesRow.laid W0) : CallOk Tryz.prog 399871 σ W0 108 (atoiFullFn 344) := atoi_full_ok Tryz.func108 (by kernel_rfl) (by kernel_rfl) (syn_laid hL) (fun s n h1 h2 w => Tryz.strconv_Atoi s n h1 h2 w) (fun s h1 h2 ev w h3 h4 => Tryz.strconv_Atoi_err s h1 h2 ev w h3 h4)
theorem ext_itoa {σ : Nat → Int} {W0 : World} (hL : laidMetH Tryz.prog Rows.worldServesRow.laid W0) : CallOk Tryz.prog 399871 σ W0 69 (itoaFullFn) := itoa_full_ok Tryz.func69 (by kernel_rfl) (by kernel_rfl) (tab_laid hL) (fun n h1 h2 w h => Tryz.strconv_Itoa n h1 h2 w h)
theorem ext_join {σ : Nat → Int} {W0 : World} (hL : laidMetH Tryz.prog Rows.worldServesRow.laid W0) : CallOk Tryz.prog 399871 σ W0 156 (joinFn) := join_ok Tryz.func156 (by kernel_rfl) (by kernel_rfl) (fun a c sep w => Tryz.strings_Join_none a c sep w) (fun bk o c xs sep w h1 h2 h3 h4 h5 => Tryz.strings_Join bk o c xs sep w h1 h2 h3 h4 h5)
theorem ext_count {σ : Nat → Int} {W0 : World} (hL : laidMetH Tryz.prog Rows.worldServesRow.laid W0) : CallOk Tryz.prog 399871 σ W0 231 (countFn) := count_ok Tryz.func231 (by kernel_rfl) (by kernel_rfl) (by kernel_rfl) (by kernel_rfl)
theorem ext_index {σ : Nat → Int} {W0 : World} (hL : laidMetH Tryz.prog Rows.worldServesRow.laid W0) : CallOk Tryz.prog 399871 σ W0 285 (indexFn) := index_ok Tryz.func285 (by kernel_rfl) (by kernel_rfl) (by kernel_rfl) (by kernel_rfl)
theorem ext_cut232 {σ : Nat → Int} {W0 : World} (hL : laidMetH Tryz.prog Rows.worldServesRow.laid W0) : CallOk Tryz.prog 399871 σ W0 232 (cutOf Tryz.prog 399871 bad [(231, countFn), (285, indexFn)] 1000 20 232) := cut_x fit (FnsOk.cons (ext_count hL) (FnsOk.cons (ext_index hL) (FnsOk.nil))) (by kernel_rfl)
end Go.Proofs.YtcaejjnmhbomcaaGreatDoor.worldServes
