/- objectJudges: calls that are run once, and the runs of the cases (part 1). -/
import Derived.Test.YtblmlpebhfbceaaGreatDoorOjK0
set_option linter.unusedVariables false
set_option maxRecDepth 10000000
namespace Go.Proofs.YtblmlpebhfbceaaGreatDoor.objectJudges
open Tk
open Go.RowKit
theorem s8_ok {W0 : World} (hL : L0 W0) : SymOk Tryz.prog 511 W0 104 s8 := sym_by (s8_at hL) (by kernel_rfl)
noncomputable def s9 : Sym := ⟨[.agg [.int .i64 (.var 0), .int .i64 (.var 1), .int .i64 (.var 2), .int .i64 (.var 3), .int .u32 (.var 4)]], h0, [14, 10, 6, 12, 16, 8, 4, 2, 13, 17, 9, 5, 11, 15, 7, 3, 1, 0], [((-9223372036854775808), 9223372036854775807), ((-9223372036854775808), 9223372036854775807), ((-9223372036854775808), 9223372036854775807), ((-9223372036854775808), 9223372036854775807), (0, 4294967295)],
  [(true, x23, .lit 2, true)],
  .agg [I 3, .int .i64 (.var 1), .int .i64 (.var 2), .int .i64 (.bop .or .i64 (.var 3) (.lit 5)), .int .u32 (.var 4)],
  [], 20⟩
noncomputable def wy26 : Tk.Way := .fork true (.var 0) (.lit 2) (.not 1) (.fork true (.var 0) (.lit 3) (.run) (.fork true (.var 0) (.lit 0) (.not 3) (.fork true (.var 0) (.lit 1) (.not 4) (.fork true (.var 0) (.lit 12) (.not 5) (.fork true (.var 0) (.lit 14) (.not 6) (.not 6))))))
theorem s9_at {W0 : World} (hL : L0 W0) : SymAt Tryz.prog 511 W0 104 s9 [] := symAt_ok fit (fun σ hk => FnsOk.cons (ext_is hL) (FnsOk.nil)) (by kernel_rfl : waysOk Tryz.prog bad [(142, isFn 289)] 1000 60 104 s9 wy26 [] = true)
theorem s9_ok {W0 : World} (hL : L0 W0) : SymOk Tryz.prog 511 W0 104 s9 := sym_by (s9_at hL) (by kernel_rfl)
noncomputable def s10 : Sym := ⟨[.agg [.int .i64 (.var 0), .int .i64 (.var 1), .int .i64 (.var 2), .int .i64 (.var 3), .int .u32 (.var 4)]], h0, [14, 10, 6, 12, 16, 8, 4, 2, 13, 17, 9, 5, 11, 15, 7, 3, 1, 0], [((-9223372036854775808), 9223372036854775807), ((-9223372036854775808), 9223372036854775807), ((-9223372036854775808), 9223372036854775807), ((-9223372036854775808), 9223372036854775807), (0, 4294967295)],
  [(true, x23, .lit 3, true)],
  .agg [I 0, I 0, I 0, I 0, U 0],
  [], 20⟩
noncomputable def wy27 : Tk.Way := .fork true (.var 0) (.lit 2) (.not 1) (.fork true (.var 0) (.lit 3) (.not 2) (.fork true (.var 0) (.lit 0) (.not 3) (.fork true (.var 0) (.lit 1) (.not 4) (.fork true (.var 0) (.lit 12) (.not 5) (.fork true (.var 0) (.lit 14) (.not 6) (.run))))))
theorem s10_at {W0 : World} (hL : L0 W0) : SymAt Tryz.prog 511 W0 104 s10 [] := symAt_ok fit (fun σ hk => FnsOk.cons (ext_is hL) (FnsOk.nil)) (by kernel_rfl : waysOk Tryz.prog bad [(142, isFn 289)] 1000 60 104 s10 wy27 [] = true)
theorem s10_ok {W0 : World} (hL : L0 W0) : SymOk Tryz.prog 511 W0 104 s10 := sym_by (s10_at hL) (by kernel_rfl)
noncomputable def x28 : E := .ite true (.var 0) (.lit 2) (.ite true (.bop .or .i64 (.var 3) (.lit 5)) (.var 3) (.lit 0) (.lit 1)) (.ite true (.var 0) (.lit 3) (.ite true (.bop .or .i64 (.var 3) (.lit 5)) (.var 3) (.lit 0) (.lit 1)) (.ite true (.var 0) (.lit 1) (.lit 0) (.ite true (.var 0) (.lit 12) (.lit 0) (.ite true (.var 0) (.lit 14) (.lit 0) (.ite true (.var 0) (.lit 0) (.lit 0) (.lit 1))))))
noncomputable def s11 : Sym := ⟨[.agg [.int .i64 (.var 0), .int .i64 (.var 1), .int .i64 (.var 2), .int .i64 (.var 3), .int .u32 (.var 4)]], h0, [14, 10, 6, 12, 16, 8, 4, 2, 13, 17, 9, 5, 11, 15, 7, 3, 1, 0], [((-9223372036854775808), 9223372036854775807), ((-9223372036854775808), 9223372036854775807), ((-9223372036854775808), 9223372036854775807), ((-9223372036854775808), 9223372036854775807), (0, 4294967295)],
  [(true, x28, .lit 0, true)],
  bT,
  [], 28⟩
noncomputable def wy29 : Tk.Way := .fork true (.var 0) (.lit 2) (.fork true (.bop .or .i64 (.var 3) (.lit 5)) (.var 3) (.run) (.not 2)) (.fork true (.var 0) (.lit 3) (.fork true (.bop .or .i64 (.var 3) (.lit 5)) (.var 3) (.run) (.not 3)) (.fork true (.var 0) (.lit 1) (.run) (.fork true (.var 0) (.lit 12) (.run) (.fork true (.var 0) (.lit 14) (.run) (.fork true (.var 0) (.lit 0) (.run) (.not 6))))))
theorem s11_at {W0 : World} (hL : L0 W0) : SymAt Tryz.prog 511 W0 18 s11 [] := symAt_ok fit (fun σ hk => FnsOk.cons (ext_is hL) (FnsOk.nil)) (by kernel_rfl : waysOk Tryz.prog bad [(142, isFn 289)] 1000 60 18 s11 wy29 [] = true)
theorem s11_ok {W0 : World} (hL : L0 W0) : SymOk Tryz.prog 511 W0 18 s11 := sym_by (s11_at hL) (by kernel_rfl)
noncomputable def s12 : Sym := ⟨[.agg [.int .i64 (.var 0), .int .i64 (.var 1), .int .i64 (.var 2), .int .i64 (.var 3), .int .u32 (.var 4)]], h0, [14, 10, 6, 12, 16, 8, 4, 2, 13, 17, 9, 5, 11, 15, 7, 3, 1, 0], [((-9223372036854775808), 9223372036854775807), ((-9223372036854775808), 9223372036854775807), ((-9223372036854775808), 9223372036854775807), ((-9223372036854775808), 9223372036854775807), (0, 4294967295)],
  [(true, x28, .lit 1, true)],
  bF,
  [], 28⟩
noncomputable def wy30 : Tk.Way := .fork true (.var 0) (.lit 2) (.fork true (.bop .or .i64 (.var 3) (.lit 5)) (.var 3) (.not 2) (.run)) (.fork true (.var 0) (.lit 3) (.fork true (.bop .or .i64 (.var 3) (.lit 5)) (.var 3) (.not 3) (.run)) (.fork true (.var 0) (.lit 1) (.not 3) (.fork true (.var 0) (.lit 12) (.not 4) (.fork true (.var 0) (.lit 14) (.not 5) (.fork true (.var 0) (.lit 0) (.not 6) (.run))))))
theorem s12_at {W0 : World} (hL : L0 W0) : SymAt Tryz.prog 511 W0 18 s12 [] := symAt_ok fit (fun σ hk => FnsOk.cons (ext_is hL) (FnsOk.nil)) (by kernel_rfl : waysOk Tryz.prog bad [(142, isFn 289)] 1000 60 18 s12 wy30 [] = true)
theorem s12_ok {W0 : World} (hL : L0 W0) : SymOk Tryz.prog 511 W0 18 s12 := sym_by (s12_at hL) (by kernel_rfl)
noncomputable def s13 : Sym := ⟨[.agg [.int .i64 (.var 0), .int .i64 (.var 1), .int .i64 (.var 2), .int .i64 (.var 3), .int .u32 (.var 4)]], h0, [14, 10, 6, 12, 16, 8, 4, 2, 13, 17, 9, 5, 11, 15, 7, 3, 1, 0], [((-9223372036854775808), 9223372036854775807), ((-9223372036854775808), 9223372036854775807), ((-9223372036854775808), 9223372036854775807), ((-9223372036854775808), 9223372036854775807), (0, 4294967295)],
  [(true, x20, .lit 0, true)],
  bT,
  [], 19⟩
theorem s13_at {W0 : World} (hL : L0 W0) : SymAt Tryz.prog 511 W0 19 s13 [] := symAt_ok fit (fun σ hk => FnsOk.cons (ext_is hL) (FnsOk.nil)) (by kernel_rfl : waysOk Tryz.prog bad [(142, isFn 289)] 1000 60 19 s13 wy21 [] = true)
theorem s13_ok {W0 : World} (hL : L0 W0) : SymOk Tryz.prog 511 W0 19 s13 := sym_by (s13_at hL) (by kernel_rfl)
noncomputable def s14 : Sym := ⟨[.agg [.int .i64 (.var 0), .int .i64 (.var 1), .int .i64 (.var 2), .int .i64 (.var 3), .int .u32 (.var 4)]], h0, [14, 10, 6, 12, 16, 8, 4, 2, 13, 17, 9, 5, 11, 15, 7, 3, 1, 0], [((-9223372036854775808), 9223372036854775807), ((-9223372036854775808), 9223372036854775807), ((-9223372036854775808), 9223372036854775807), ((-9223372036854775808), 9223372036854775807), (0, 4294967295)],
  [(true, x20, .lit 1, true)],
  bF,
  [], 19⟩
theorem s14_at {W0 : World} (hL : L0 W0) : SymAt Tryz.prog 511 W0 19 s14 [] := symAt_ok fit (fun σ hk => FnsOk.cons (ext_is hL) (FnsOk.nil)) (by kernel_rfl : waysOk Tryz.prog bad [(142, isFn 289)] 1000 60 19 s14 wy22 [] = true)
theorem s14_ok {W0 : World} (hL : L0 W0) : SymOk Tryz.prog 511 W0 19 s14 := sym_by (s14_at hL) (by kernel_rfl)
noncomputable def x31 : E := .ite true (.var 0) (.var 5) (.ite true (.var 1) (.var 6) (.ite true (.var 2) (.var 7) (.ite true (.var 3) (.var 8) (.ite true (.var 4) (.var 9) (.lit 0) (.lit 1)) (.lit 1)) (.lit 1)) (.lit 1)) (.lit 1)
noncomputable def s15 : Sym := ⟨[.agg [.int .i64 (.var 0), .int .i64 (.var 1), .int .i64 (.var 2), .int .i64 (.var 3), .int .u32 (.var 4)], .agg [.int .i64 (.var 5), .int .i64 (.var 6), .int .i64 (.var 7), .int .i64 (.var 8), .int .u32 (.var 9)]], h0, [14, 10, 6, 12, 16, 8, 4, 2, 13, 17, 9, 5, 11, 15, 7, 3, 1, 0], [((-9223372036854775808), 9223372036854775807), ((-9223372036854775808), 9223372036854775807), ((-9223372036854775808), 9223372036854775807), ((-9223372036854775808), 9223372036854775807), (0, 4294967295), ((-9223372036854775808), 9223372036854775807), ((-9223372036854775808), 9223372036854775807), ((-9223372036854775808), 9223372036854775807), ((-9223372036854775808), 9223372036854775807), (0, 4294967295)],
  [(true, x31, .lit 0, true)],
  bT,
  [], 20⟩
noncomputable def wy32 : Tk.Way := .fork true (.var 0) (.var 5) (.fork true (.var 1) (.var 6) (.fork true (.var 2) (.var 7) (.fork true (.var 3) (.var 8) (.fork true (.var 4) (.var 9) (.run) (.not 5)) (.not 4)) (.not 3)) (.not 2)) (.not 1)
theorem s15_at {W0 : World} (hL : L0 W0) : SymAt Tryz.prog 511 W0 20 s15 [] := symAt_ok fit (fun σ hk => FnsOk.cons (ext_is hL) (FnsOk.nil)) (by kernel_rfl : waysOk Tryz.prog bad [(142, isFn 289)] 1000 60 20 s15 wy32 [] = true)
theorem s15_ok {W0 : World} (hL : L0 W0) : SymOk Tryz.prog 511 W0 20 s15 := sym_by (s15_at hL) (by kernel_rfl)
noncomputable def s16 : Sym := ⟨[.agg [.int .i64 (.var 0), .int .i64 (.var 1), .int .i64 (.var 2), .int .i64 (.var 3), .int .u32 (.var 4)], .agg [.int .i64 (.var 5), .int .i64 (.var 6), .int .i64 (.var 7), .int .i64 (.var 8), .int .u32 (.var 9)]], h0, [14, 10, 6, 12, 16, 8, 4, 2, 13, 17, 9, 5, 11, 15, 7, 3, 1, 0], [((-9223372036854775808), 9223372036854775807), ((-9223372036854775808), 9223372036854775807), ((-9223372036854775808), 9223372036854775807), ((-9223372036854775808), 9223372036854775807), (0, 4294967295), ((-9223372036854775808), 9223372036854775807), ((-9223372036854775808), 9223372036854775807), ((-9223372036854775808), 9223372036854775807), ((-9223372036854775808), 9223372036854775807), (0, 4294967295)],
  [(true, x31, .lit 1, true)],
  bF,
  [], 20⟩
theorem s16_at {W0 : World} (hL : L0 W0) : SymAt Tryz.prog 511 W0 20 s16 [] := symAt_ok fit (fun σ hk => FnsOk.cons (ext_is hL) (FnsOk.nil)) (by kernel_rfl : waysOk Tryz.prog bad [(142, isFn 289)] 1000 60 20 s16 (.fork true (.var 0) (.var 5) (.fork true (.var 1) (.var 6) (.fork true (.var 2) (.var 7) (.fork true (.var 3) (.var 8) (.fork true (.var 4) (.var 9) (.not 5) (.run)) (.run)) (.run)) (.run)) (.run)) [] = true)
theorem s16_ok {W0 : World} (hL : L0 W0) : SymOk Tryz.prog 511 W0 20 s16 := sym_by (s16_at hL) (by kernel_rfl)
noncomputable def x33 : E := .ite true (.var 0) (.lit 2) (.lit 1) (.ite true (.var 0) (.lit 3) (.lit 2) (.ite true (.var 0) (.lit 1) (.lit 0) (.ite true (.var 0) (.lit 12) (.lit 0) (.ite true (.var 0) (.lit 14) (.lit 0) (.ite true (.var 0) (.lit 0) (.lit 0) (.lit 3))))))
noncomputable def s17 : Sym := ⟨[.agg [.int .i64 (.var 0), .int .i64 (.var 1), .int .i64 (.var 2), .int .i64 (.var 3), .int .u32 (.var 4)]], h0, [14, 10, 6, 12, 16, 8, 4, 2, 13, 17, 9, 5, 11, 15, 7, 3, 1, 0], [((-9223372036854775808), 9223372036854775807), ((-9223372036854775808), 9223372036854775807), ((-9223372036854775808), 9223372036854775807), ((-9223372036854775808), 9223372036854775807), (0, 4294967295)],
  [(true, x33, .lit 0, true)],
  .agg [.int .i64 (.var 0), .int .i64 (.var 1), .int .i64 (.var 2), .int .i64 (.var 3), .int .u32 (.var 4)],
  [], 20⟩
noncomputable def wy34 : Tk.Way := .fork true (.var 0) (.lit 2) (.not 1) (.fork true (.var 0) (.lit 3) (.not 2) (.fork true (.var 0) (.lit 1) (.run) (.fork true (.var 0) (.lit 12) (.run) (.fork true (.var 0) (.lit 14) (.run) (.fork true (.var 0) (.lit 0) (.run) (.not 6))))))
theorem s17_at {W0 : World} (hL : L0 W0) : SymAt Tryz.prog 511 W0 21 s17 [] := symAt_ok fit (fun σ hk => FnsOk.cons (ext_is hL) (FnsOk.nil)) (by kernel_rfl : waysOk Tryz.prog bad [(142, isFn 289)] 1000 60 21 s17 wy34 [] = true)
theorem s17_ok {W0 : World} (hL : L0 W0) : SymOk Tryz.prog 511 W0 21 s17 := sym_by (s17_at hL) (by kernel_rfl)
noncomputable def s18 : Sym := ⟨[.agg [.int .i64 (.var 0), .int .i64 (.var 1), .int .i64 (.var 2), .int .i64 (.var 3), .int .u32 (.var 4)]], h0, [14, 10, 6, 12, 16, 8, 4, 2, 13, 17, 9, 5, 11, 15, 7, 3, 1, 0], [((-9223372036854775808), 9223372036854775807), ((-9223372036854775808), 9223372036854775807), ((-9223372036854775808), 9223372036854775807), ((-9223372036854775808), 9223372036854775807), (0, 4294967295)],
  [(true, x33, .lit 1, true)],
  .agg [I 2, .int .i64 (.var 1), .int .i64 (.var 2), .int .i64 (.bop .or .i64 (.var 3) (.lit 5)), .int .u32 (.var 4)],
  [], 20⟩
noncomputable def wy35 : Tk.Way := .fork true (.var 0) (.lit 2) (.run) (.fork true (.var 0) (.lit 3) (.not 2) (.fork true (.var 0) (.lit 1) (.not 3) (.fork true (.var 0) (.lit 12) (.not 4) (.fork true (.var 0) (.lit 14) (.not 5) (.fork true (.var 0) (.lit 0) (.not 6) (.not 6))))))
theorem s18_at {W0 : World} (hL : L0 W0) : SymAt Tryz.prog 511 W0 21 s18 [] := symAt_ok fit (fun σ hk => FnsOk.cons (ext_is hL) (FnsOk.nil)) (by kernel_rfl : waysOk Tryz.prog bad [(142, isFn 289)] 1000 60 21 s18 wy35 [] = true)
theorem s18_ok {W0 : World} (hL : L0 W0) : SymOk Tryz.prog 511 W0 21 s18 := sym_by (s18_at hL) (by kernel_rfl)
noncomputable def s19 : Sym := ⟨[.agg [.int .i64 (.var 0), .int .i64 (.var 1), .int .i64 (.var 2), .int .i64 (.var 3), .int .u32 (.var 4)]], h0, [14, 10, 6, 12, 16, 8, 4, 2, 13, 17, 9, 5, 11, 15, 7, 3, 1, 0], [((-9223372036854775808), 9223372036854775807), ((-9223372036854775808), 9223372036854775807), ((-9223372036854775808), 9223372036854775807), ((-9223372036854775808), 9223372036854775807), (0, 4294967295)],
  [(true, x33, .lit 2, true)],
  .agg [I 3, .int .i64 (.var 1), .int .i64 (.var 2), .int .i64 (.bop .or .i64 (.var 3) (.lit 5)), .int .u32 (.var 4)],
  [], 20⟩
noncomputable def wy36 : Tk.Way := .fork true (.var 0) (.lit 2) (.not 1) (.fork true (.var 0) (.lit 3) (.run) (.fork true (.var 0) (.lit 1) (.not 3) (.fork true (.var 0) (.lit 12) (.not 4) (.fork true (.var 0) (.lit 14) (.not 5) (.fork true (.var 0) (.lit 0) (.not 6) (.not 6))))))
theorem s19_at {W0 : World} (hL : L0 W0) : SymAt Tryz.prog 511 W0 21 s19 [] := symAt_ok fit (fun σ hk => FnsOk.cons (ext_is hL) (FnsOk.nil)) (by kernel_rfl : waysOk Tryz.prog bad [(142, isFn 289)] 1000 60 21 s19 wy36 [] = true)
theorem s19_ok {W0 : World} (hL : L0 W0) : SymOk Tryz.prog 511 W0 21 s19 := sym_by (s19_at hL) (by kernel_rfl)
noncomputable def s20 : Sym := ⟨[.agg [.int .i64 (.var 0), .int .i64 (.var 1), .int .i64 (.var 2), .int .i64 (.var 3), .int .u32 (.var 4)]], h0, [14, 10, 6, 12, 16, 8, 4, 2, 13, 17, 9, 5, 11, 15, 7, 3, 1, 0], [((-9223372036854775808), 9223372036854775807), ((-9223372036854775808), 9223372036854775807), ((-9223372036854775808), 9223372036854775807), ((-9223372036854775808), 9223372036854775807), (0, 4294967295)],
  [(true, x33, .lit 3, true)],
  .agg [I 0, I 0, I 0, I 0, U 0],
  [], 20⟩
noncomputable def wy37 : Tk.Way := .fork true (.var 0) (.lit 2) (.not 1) (.fork true (.var 0) (.lit 3) (.not 2) (.fork true (.var 0) (.lit 1) (.not 3) (.fork true (.var 0) (.lit 12) (.not 4) (.fork true (.var 0) (.lit 14) (.not 5) (.fork true (.var 0) (.lit 0) (.not 6) (.run))))))
theorem s20_at {W0 : World} (hL : L0 W0) : SymAt Tryz.prog 511 W0 21 s20 [] := symAt_ok fit (fun σ hk => FnsOk.cons (ext_is hL) (FnsOk.nil)) (by kernel_rfl : waysOk Tryz.prog bad [(142, isFn 289)] 1000 60 21 s20 wy37 [] = true)
theorem s20_ok {W0 : World} (hL : L0 W0) : SymOk Tryz.prog 511 W0 21 s20 := sym_by (s20_at hL) (by kernel_rfl)
abbrev Fx := List (Bool × E × E × Bool)
abbrev CaseR (h : H) (rng : Rg) (facts : Fx) (tab : NumTabE) (vs : List V) : Prop := ∀ {σ : Nat → Int} {W : World} {ρ : Inj}, L0 W → Known2 σ rng facts → TabOk Tryz.prog bad 99999 σ tab → Rel σ W ρ h W → Glob 511 ρ → ∀ {xs : Array Value}, VRs σ ρ vs xs.toList → Calls Tryz.prog 4 xs W fun e w' => e = .returned (.bool true) ∧ Below W.heap.size W w'
theorem caseR {h : H} {rng : Rg} {facts : Fx} {tab : NumTabE} {vs : List V} {fs : Fns} (hx : ∀ {σ : Nat → Int} {W : World}, L0 W → Known2 σ rng facts → TabOk Tryz.prog bad 99999 σ tab → FnsOk Tryz.prog 511 σ W fs)
    (run : isTrue (evCall (cxX Tryz.prog bad rng facts fs) 1000 60 4 vs h) = true) : CaseR h rng facts tab vs := by
  intro σ W ρ hL hk hT R g xs hv
  exact law_case_r fit (by kernel_rfl) hk (hx hL hk hT) R g hv ⟨_, Tryz.func4, rfl⟩ run
theorem caseW {h : H} {rng : Rg} {facts : Fx} {vs : List V} {fns : Fx → Fns} {w : Tk.Way} (hx : ∀ {σ : Nat → Int} {W : World}, L0 W → ∀ ws, Known2 σ rng ws → FnsOk Tryz.prog 511 σ W (fns ws))
    (run : lawWays Tryz.prog bad fns 1000 60 4 vs rng h w facts = true) : CaseR h rng facts [] vs := by
  intro σ W ρ hL hk hT R g xs hv
  exact law_ways_r fit (by kernel_rfl) (hx hL) R g hv ⟨_, Tryz.func4, rfl⟩ hk run
theorem caseBy {h : H} {rng : Rg} {facts : Fx} {tab : NumTabE} {vs : List V} (q : Bool) (x y : E) (a : CaseR h rng ((q, x, y, true) :: facts) tab vs) (b : CaseR h rng ((q, x, y, false) :: facts) tab vs) : CaseR h rng facts tab vs := by
  intro σ W ρ hL hk hT R g xs hv
  exact hk.by_ q x y (fun k => a hL k hT R g hv) (fun k => b hL k hT R g hv)
noncomputable def fk2 (b : E) (x y : Tk.Way) : Tk.Way := .fork true b (.lit 0) x (.fork true b (.lit 1) y (.gone b 0 2))
abbrev a0 (b : E) (l : Fx) : Fx := (true, b, .lit 0, true) :: l
abbrev n0 (b : E) (l : Fx) : Fx := (true, b, .lit 0, false) :: l
abbrev a1 (b : E) (l : Fx) : Fx := (true, b, .lit 1, true) :: l
abbrev n1 (b : E) (l : Fx) : Fx := (true, b, .lit 1, false) :: l
end Go.Proofs.YtblmlpebhfbceaaGreatDoor.objectJudges
