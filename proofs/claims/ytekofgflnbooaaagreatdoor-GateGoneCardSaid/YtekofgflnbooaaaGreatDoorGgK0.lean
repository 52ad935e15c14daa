/- gateGone: calls that are run once, and the runs of the cases (part 0). -/
import Derived.Test.YtekofgflnbooaaaGreatDoorEvGgF
set_option linter.unusedVariables false
set_option maxRecDepth 10000000
namespace Go.Proofs.YtekofgflnbooaaaGreatDoor.gateGone
open Tk
open Go.RowKit
noncomputable def h0 : H := sentH 284 9 errTab
noncomputable def p0 : Pur := ([.agg [I 0, I 0, I 0, I 0, U 0]], .inil, 1048576)
theorem p0_run : ranPure (evCall (cxX Tryz.prog bad [] [] [(128, isFn 284)]) 1000 60 26 p0.1 ⟨.lf, p0.2.2⟩) p0.2.1 = true := by kernel_rfl
theorem p0_ok {σ : Nat → Int} {W0 : World} (hL : L0 W0) : PureOk Tryz.prog 511 σ W0 26 p0 := pure_ok fit (Known2.nil σ) (FnsOk.cons (ext_is hL) (FnsOk.nil)) p0_run
noncomputable def p1 : Pur := ([.agg [I 1, I 0, I 0, I 0, U 8]], .inil, 1048576)
theorem p1_run : ranPure (evCall (cxX Tryz.prog bad [] [] [(128, isFn 284)]) 1000 60 26 p1.1 ⟨.lf, p1.2.2⟩) p1.2.1 = true := by kernel_rfl
theorem p1_ok {σ : Nat → Int} {W0 : World} (hL : L0 W0) : PureOk Tryz.prog 511 σ W0 26 p1 := pure_ok fit (Known2.nil σ) (FnsOk.cons (ext_is hL) (FnsOk.nil)) p1_run
noncomputable def p2 : Pur := ([], bT, 262144)
theorem p2_run : ranPure (evCall (cxX Tryz.prog bad [] [] [(26, pureFn [p0, p1]), (128, isFn 284)]) 1000 60 4 p2.1 ⟨.lf, p2.2.2⟩) p2.2.1 = true := by kernel_rfl
theorem p2_ok {σ : Nat → Int} {W0 : World} (hL : L0 W0) : PureOk Tryz.prog 511 σ W0 4 p2 := pure_ok fit (Known2.nil σ) (FnsOk.cons (pure_fn_ok (all_cons (p0_ok hL) (all_cons (p1_ok hL) (all_nil)))) (FnsOk.cons (ext_is hL) (FnsOk.nil))) p2_run
noncomputable def h1 : H := hUpd h0 170 [] [(126, .cells 4 (rp 6 ([bF, bF, I 0, IZ (-1)]) ([])) false),
  (62, .cells 1 ([[.slice 61 0 4 4 3 true]]) false),
  (142, .cells 4 (rp 8 ([bF, bF, I 0, IZ (-1)]) ([])) false),
  (46, .cells 1 ([[.snil]]) false),
  (30, .cells 3 (rp 6 ([bF, I 0, bF]) ([])) false),
  (54, .cells 2 (rp 8 ([I 0, I 0]) ([])) false),
  (166, .cells 108 (rp 6 (rp 9 (U 0) (rp 6 (I 0) ((U 0) :: rp 4 (I 0) ((U 0) :: rp 4 (I 0) ((U 0) :: rp 4 (I 0) ((U 0) :: rp 4 (I 0) ((U 0) :: rp 4 (I 0) ((U 0) :: rp 4 (I 0) ((U 0) :: rp 4 (I 0) ((U 0) :: rp 4 (I 0) ((U 0) :: rp 4 (I 0) ((U 0) :: rp 4 (I 0) ((U 0) :: rp 4 (I 0) ((U 0) :: rp 4 (I 0) ((U 0) :: rp 4 (I 0) ((U 0) :: rp 4 (I 0) ((U 0) :: rp 4 (I 0) ((U 0) :: rp 4 (I 0) ((U 0) :: rp 4 (I 0) ((U 0) :: rp 4 (I 0) ([U 0, I 0, .snil]))))))))))))))))))))) ([])) false),
  (22, .cells 2 ([[.ptr 20 0, .slice 21 0 12 12 80 true]]) false),
  (154, .cells 4 (rp 6 ([bF, bF, I 0, IZ (-1)]) ([])) false),
  (90, .cells 4 (rp 12 ([bF, bF, I 0, IZ (-1)]) ([])) false),
  (58, .cells 3 (rp 6 ([I 0, I 0, I 0]) ([])) false),
  (26, .cells 2 ([[.ptr 24 0, .slice 25 0 12 12 32 true]]) false),
  (114, .cells 4 (rp 12 ([bF, bF, I 0, IZ (-1)]) ([])) false),
  (162, .cells 4 (rp 4 ([bF, bF, I 0, IZ (-1)]) ([])) false),
  (66, .cells 9 ([[.ptr 29 0, .ptr 33 0, .ptr 55 0, .ptr 60 0, .ptr 64 0, .ptr 65 0, .snil, .snil, I 0]]) false),
  (34, .cells 1 ([[.snil]]) false),
  (60, .cells 5 ([[.ptr 57 0, .slice 58 0 6 6 3 true, .map 59, .ptr 29 0, .ptr 33 0]]) false),
  (28, .cells 3 ([[I 16, .snil, I 0]]) false),
  (52, .cells 3 (rp 8 ([bF, I 0, bF]) ([])) false),
  (164, .cells 80 (rp 12 (rp 4 (I 0) ((U 0) :: rp 4 (I 0) ((U 0) :: rp 4 (I 0) ((U 0) :: rp 4 (I 0) ((U 0) :: rp 4 (I 0) ((U 0) :: rp 4 (I 0) ((U 0) :: rp 4 (I 0) ((U 0) :: rp 4 (I 0) ((U 0) :: rp 4 (I 0) ((U 0) :: rp 4 (I 0) ((U 0) :: rp 4 (I 0) ((U 0) :: rp 4 (I 0) ((U 0) :: rp 4 (I 0) ((U 0) :: rp 4 (I 0) ((U 0) :: rp 4 (I 0) ((U 0) :: rp 4 (I 0) ([U 0]))))))))))))))))) ([])) false),
  (20, .cells 1 ([[.slice 19 0 12 12 3 true]]) false),
  (56, .cells 3 (rp 6 ([bF, I 0, bF]) ([])) false),
  (168, .cells 3 (rp 6 ([I 0, I 0, I 0]) ([])) false),
  (40, .cells 1 ([[.snil]]) false),
  (24, .cells 1 ([[.slice 23 0 12 12 3 true]]) false),
  (64, .cells 2 ([[.ptr 62 0, .slice 63 0 4 4 31 true]]) false),
  (32, .cells 107 (rp 6 (rp 9 (U 0) (rp 6 (I 0) ((U 0) :: rp 4 (I 0) ((U 0) :: rp 4 (I 0) ((U 0) :: rp 4 (I 0) ((U 0) :: rp 4 (I 0) ((U 0) :: rp 4 (I 0) ((U 0) :: rp 4 (I 0) ((U 0) :: rp 4 (I 0) ((U 0) :: rp 4 (I 0) ((U 0) :: rp 4 (I 0) ((U 0) :: rp 4 (I 0) ((U 0) :: rp 4 (I 0) ((U 0) :: rp 4 (I 0) ((U 0) :: rp 4 (I 0) ((U 0) :: rp 4 (I 0) ((U 0) :: rp 4 (I 0) ((U 0) :: rp 4 (I 0) ((U 0) :: rp 4 (I 0) ((U 0) :: rp 4 (I 0) ([U 0, I 0]))))))))))))))))))))) ([])) false),
  (61, .cells 3 (rp 4 ([bF, I 0, bF]) ([])) false),
  (29, .cells 3 ([[.ptr 27 0, I 16, .ptr 28 0]]) false),
  (53, .cells 1 ([[.slice 52 0 8 8 3 true]]) false),
  (165, .cells 32 (rp 12 (rp 32 (U 0) ([])) ([])) false),
  (37, .cells 1 ([[.snil]]) false),
  (21, .cells 80 (rp 12 (rp 4 (I 0) ((U 0) :: rp 4 (I 0) ((U 0) :: rp 4 (I 0) ((U 0) :: rp 4 (I 0) ((U 0) :: rp 4 (I 0) ((U 0) :: rp 4 (I 0) ((U 0) :: rp 4 (I 0) ((U 0) :: rp 4 (I 0) ((U 0) :: rp 4 (I 0) ((U 0) :: rp 4 (I 0) ((U 0) :: rp 4 (I 0) ((U 0) :: rp 4 (I 0) ((U 0) :: rp 4 (I 0) ((U 0) :: rp 4 (I 0) ((U 0) :: rp 4 (I 0) ((U 0) :: rp 4 (I 0) ([U 0]))))))))))))))))) ([])) false),
  (57, .cells 1 ([[.slice 56 0 6 6 3 true]]) false),
  (169, .cells 31 (rp 4 ((bF) :: rp 4 (I 0) ((U 0) :: rp 4 (I 0) ((U 0) :: rp 4 (I 0) ((U 0) :: rp 4 (I 0) ((U 0) :: rp 4 (I 0) ((U 0) :: rp 4 (I 0) ([U 0]))))))) ([])) false),
  (25, .cells 32 (rp 12 (rp 32 (U 0) ([])) ([])) false),
  (49, .cells 1 ([[.snil]]) false),
  (65, .cells 1 ([[.snil]]) false),
  (33, .cells 3 ([[.ptr 31 0, .slice 32 0 6 6 107 true, .slice 51 0 6 6 1 false]]) false),
  (59, .map [] 0),
  (43, .cells 1 ([[.snil]]) false),
  (27, .cells 2 ([[.ptr 22 0, .ptr 26 0]]) false),
  (51, .cells 1 ([[.ptr 34 0], [.ptr 37 0], [.ptr 40 0], [.ptr 43 0], [.ptr 46 0], [.ptr 49 0]]) false),
  (163, .cells 16 ([[.slice 90 0 12 12 4 false, .slice 114 0 12 12 4 false, .slice 126 0 6 6 4 false, .slice 142 0 8 8 4 false, .slice 154 0 6 6 4 false, .slice 162 0 4 4 4 false, .slice 164 0 12 12 80 true, .slice 165 0 12 12 32 true, .slice 166 0 6 6 108 true, .slice 167 0 8 8 2 true, .slice 168 0 6 6 3 true, .slice 169 0 4 4 31 true, .snil, .snil, .snil, I 0]]) false),
  (19, .cells 3 (rp 12 ([bF, I 0, bF]) ([])) false),
  (55, .cells 2 ([[.ptr 53 0, .slice 54 0 8 8 2 true]]) false),
  (167, .cells 2 (rp 8 ([I 0, I 0]) ([])) false),
  (23, .cells 3 (rp 12 ([bF, I 0, bF]) ([])) false),
  (63, .cells 31 (rp 4 ((bF) :: rp 4 (I 0) ((U 0) :: rp 4 (I 0) ((U 0) :: rp 4 (I 0) ((U 0) :: rp 4 (I 0) ((U 0) :: rp 4 (I 0) ((U 0) :: rp 4 (I 0) ([U 0]))))))) ([])) false),
  (31, .cells 1 ([[.slice 30 0 6 6 3 true]]) false)] []
noncomputable def m3 : Memo := ⟨[], h0, .tuple [.ptr 66 0, .ptr 163 0], h1⟩
theorem m3_run : ranTo (evCall (cxX Tryz.prog bad [] [] [(128, isFn 284)]) 1000 60 6 m3.args m3.h) m3.v m3.h' = true := by kernel_rfl
theorem m3_ok {σ : Nat → Int} {W0 : World} (hL : L0 W0) : MemoOk Tryz.prog 511 σ W0 6 m3 := memo_ok fit (Known2.nil σ) (FnsOk.cons (ext_is hL) (FnsOk.nil)) m3_run
noncomputable def p4 : Pur := ([.agg [I 5, I 4, I 0, I 0, U 3]], .inil, 1048576)
theorem p4_run : ranPure (evCall (cxX Tryz.prog bad [] [] [(128, isFn 284)]) 1000 60 26 p4.1 ⟨.lf, p4.2.2⟩) p4.2.1 = true := by kernel_rfl
theorem p4_ok {σ : Nat → Int} {W0 : World} (hL : L0 W0) : PureOk Tryz.prog 511 σ W0 26 p4 := pure_ok fit (Known2.nil σ) (FnsOk.cons (ext_is hL) (FnsOk.nil)) p4_run
noncomputable def p5 : Pur := ([.agg [I 8, I 1, I 0, I 0, U 0]], .inil, 1048576)
theorem p5_run : ranPure (evCall (cxX Tryz.prog bad [] [] [(128, isFn 284)]) 1000 60 26 p5.1 ⟨.lf, p5.2.2⟩) p5.2.1 = true := by kernel_rfl
theorem p5_ok {σ : Nat → Int} {W0 : World} (hL : L0 W0) : PureOk Tryz.prog 511 σ W0 26 p5 := pure_ok fit (Known2.nil σ) (FnsOk.cons (ext_is hL) (FnsOk.nil)) p5_run
noncomputable def q0 : Fns := [(4, pureFn [p2]), (6, frameFn [m3]), (128, isFn 284)]
theorem q0_ok {σ : Nat → Int} {W0 : World} (hL : L0 W0) : FnsOk Tryz.prog 511 σ W0 q0 := FnsOk.cons (pure_fn_ok (all_cons (p2_ok hL) (all_nil))) (FnsOk.cons (frame_fn_ok (all_cons (m3_ok hL) (all_nil))) (FnsOk.cons (ext_is hL) (FnsOk.nil)))
theorem run0 : isTrue (evCall (cxX Tryz.prog bad [] [] ((5, numExtE [(0, 3, .lit 0)]) :: (26, pureFn [p0, p4, p5]) :: q0)) 1000 60 3 [.int .i64 (.var 0)] (sentH 284 9 errTab)) = true := by kernel_rfl
abbrev CaseS (rng : Rg) (facts : List (Bool × E × E × Bool)) (tab : NumTabE) (vs : List V) : Prop := ∀ {σ : Nat → Int} {W : World} (hL : L0 W) (hk : Known2 σ rng facts) (hT : TabOk Tryz.prog bad 5 σ tab) {xs : Array Value} (hv : ∀ ρ, VRs σ ρ vs xs.toList), Calls Tryz.prog 3 xs W fun e w' => e = .returned (.bool true) ∧ Below W.heap.size W w'
theorem caseS {rng : Rg} {facts : List (Bool × E × E × Bool)} {tab : NumTabE} {vs : List V} {fs : Fns} (hx : ∀ {σ : Nat → Int} {W : World}, L0 W → Known2 σ rng facts → TabOk Tryz.prog bad 5 σ tab → FnsOk Tryz.prog 511 σ W fs)
    (run : isTrue (evCall (cxX Tryz.prog bad rng facts fs) 1000 60 3 vs (sentH 284 9 errTab)) = true) : CaseS rng facts tab vs := by
  intro σ W hL hk hT xs hv
  obtain ⟨ads, h1, h2, h3⟩ := errs_sents hL
  exact law_case_x fit h1 h2 h3 errs_all errs_lt (by kernel_rfl) hk (hx hL hk hT) hv ⟨_, Tryz.func3, rfl⟩ run
theorem case0 : CaseS [] [] [(0, 3, .lit 0)] [.int .i64 (.var 0)] := caseS (fun hL hk hT => FnsOk.cons (hT.ok fit) (FnsOk.cons (pure_fn_ok (all_cons (p0_ok hL) (all_cons (p4_ok hL) (all_cons (p5_ok hL) (all_nil))))) ((q0_ok hL)))) run0
theorem run1 : isTrue (evCall (cxX Tryz.prog bad [] [] ((5, numExtE [(0, 3, .lit 1)]) :: (26, pureFn [p0, p4, p5]) :: q0)) 1000 60 3 [.int .i64 (.var 0)] (sentH 284 9 errTab)) = true := by kernel_rfl
theorem case1 : CaseS [] [] [(0, 3, .lit 1)] [.int .i64 (.var 0)] := caseS (fun hL hk hT => FnsOk.cons (hT.ok fit) (FnsOk.cons (pure_fn_ok (all_cons (p0_ok hL) (all_cons (p4_ok hL) (all_cons (p5_ok hL) (all_nil))))) ((q0_ok hL)))) run1
theorem run2 : isTrue (evCall (cxX Tryz.prog bad [] [] ((5, numExtE [(0, 3, .lit 2)]) :: (26, pureFn [p0, p4, p5]) :: q0)) 1000 60 3 [.int .i64 (.var 0)] (sentH 284 9 errTab)) = true := by kernel_rfl
theorem case2 : CaseS [] [] [(0, 3, .lit 2)] [.int .i64 (.var 0)] := caseS (fun hL hk hT => FnsOk.cons (hT.ok fit) (FnsOk.cons (pure_fn_ok (all_cons (p0_ok hL) (all_cons (p4_ok hL) (all_cons (p5_ok hL) (all_nil))))) ((q0_ok hL)))) run2
end Go.Proofs.YtekofgflnbooaaaGreatDoor.gateGone
