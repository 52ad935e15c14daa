/- asmWrong: calls that are run once, and the runs of the cases (part 0). -/
import Derived.Test.YtnedpimammoekaaDoorEvAwF
set_option linter.unusedVariables false
set_option maxRecDepth 10000000
namespace Go.Proofs.YtnedpimammoekaaDoor.asmWrong
open Tk
open Go.RowKit
noncomputable def h0 : H := sentH 295 20 errTab
noncomputable def q0 : Fns := [(79, atoiFullFn 248), (61, itoaFullFn), (63, joinFn), (144, countFn), (186, indexFn), (145, cutOf Tryd.prog 16383 bad [(144, countFn), (186, indexFn)] 1000 20 145)]
theorem q0_ok {σ : Nat → Int} {W0 : World} (hL : L0 W0) : FnsOk Tryd.prog 16383 σ W0 q0 := FnsOk.cons (ext_atoi hL) (FnsOk.cons (ext_itoa hL) (FnsOk.cons (ext_join hL) (FnsOk.cons (ext_count hL) (FnsOk.cons (ext_index hL) (FnsOk.cons (ext_cut145 hL) (FnsOk.nil))))))
noncomputable def p0 : Pur := ([], bT, 1048576)
theorem p0_run : ranPure (evCall (cxX Tryd.prog bad [] [] q0) 1000 60 6 p0.1 ⟨.lf, p0.2.2⟩) p0.2.1 = true := by kernel_rfl
theorem p0_ok {σ : Nat → Int} {W0 : World} (hL : L0 W0) : PureOk Tryd.prog 16383 σ W0 6 p0 := pure_ok fit (Known2.nil σ) ((q0_ok hL)) p0_run
noncomputable def h1 : H := hUpd h0 37 [] [] []
noncomputable def h2 : H := hUpd h0 256 [] [] []
noncomputable def m1 : Memo := ⟨[.str []], h1, .tuple [.agg [I 0, I 0, I 0, I 0, I 0], .iface 295 (.ptr 32 0)], h2⟩
theorem m1_run : ranTo (evCall (cxX Tryd.prog bad [] [] q0) 1000 60 7 m1.args m1.h) m1.v m1.h' = true := by kernel_rfl
theorem m1_ok {σ : Nat → Int} {W0 : World} (hL : L0 W0) : MemoOk Tryd.prog 16383 σ W0 7 m1 := memo_ok fit (Known2.nil σ) ((q0_ok hL)) m1_run
noncomputable def h3 : H := hUpd h0 257 [] [] []
noncomputable def h4 : H := hUpd h0 512 [] [] []
noncomputable def m2 : Memo := ⟨[.str [108, 105, 32, 114, 49, 32, 120]], h3, .tuple [.agg [I 0, I 0, I 0, I 0, I 0], .iface 295 (.ptr 33 0)], h4⟩
theorem m2_run : ranTo (evCall (cxX Tryd.prog bad [] [] q0) 1000 60 7 m2.args m2.h) m2.v m2.h' = true := by kernel_rfl
theorem m2_ok {σ : Nat → Int} {W0 : World} (hL : L0 W0) : MemoOk Tryd.prog 16383 σ W0 7 m2 := memo_ok fit (Known2.nil σ) ((q0_ok hL)) m2_run
noncomputable def h5 : H := hUpd h0 513 [] [] []
noncomputable def h6 : H := hUpd h0 768 [] [] []
noncomputable def m3 : Memo := ⟨[.str [108, 105, 32, 114, 56, 32, 53]], h5, .tuple [.agg [I 0, I 0, I 0, I 0, I 0], .iface 295 (.ptr 24 0)], h6⟩
theorem m3_run : ranTo (evCall (cxX Tryd.prog bad [] [] q0) 1000 60 7 m3.args m3.h) m3.v m3.h' = true := by kernel_rfl
theorem m3_ok {σ : Nat → Int} {W0 : World} (hL : L0 W0) : MemoOk Tryd.prog 16383 σ W0 7 m3 := memo_ok fit (Known2.nil σ) ((q0_ok hL)) m3_run
noncomputable def h7 : H := hUpd h0 770 [] [(769, .cells 1 ([[.str [121, 105, 101, 108, 100]], [.str [119, 111, 114, 100, 32, 49, 120]]]) false)] []
noncomputable def h8 : H := hUpd h7 1024 [] [(838, .cells 2 ([[I 1, .iface 295 (.ptr 33 0)]]) false)] []
noncomputable def m4 : Memo := ⟨[.slice 769 0 2 2 1 true], h7, .tuple [.snil, .iface 95 (.ptr 838 0)], h8⟩
theorem m4_run : ranTo (evCall (cxX Tryd.prog bad [] [] q0) 1000 60 9 m4.args m4.h) m4.v m4.h' = true := by kernel_rfl
theorem m4_ok {σ : Nat → Int} {W0 : World} (hL : L0 W0) : MemoOk Tryd.prog 16383 σ W0 9 m4 := memo_ok fit (Known2.nil σ) ((q0_ok hL)) m4_run
noncomputable def q1 : Fns := [(6, pureFn [p0]), (9, frameFn [m4]), (79, atoiFullFn 248), (61, itoaFullFn), (63, joinFn), (144, countFn), (186, indexFn), (145, cutOf Tryd.prog 16383 bad [(144, countFn), (186, indexFn)] 1000 20 145)]
theorem q1_ok {σ : Nat → Int} {W0 : World} (hL : L0 W0) : FnsOk Tryd.prog 16383 σ W0 q1 := FnsOk.cons (pure_fn_ok (all_cons (p0_ok hL) (all_nil))) (FnsOk.cons (frame_fn_ok (all_cons (m4_ok hL) (all_nil))) (FnsOk.cons (ext_atoi hL) (FnsOk.cons (ext_itoa hL) (FnsOk.cons (ext_join hL) (FnsOk.cons (ext_count hL) (FnsOk.cons (ext_index hL) (FnsOk.cons (ext_cut145 hL) (FnsOk.nil))))))))
theorem run0 : isTrue (evCall (cxX Tryd.prog bad [] [] ((8, numExtE [(0, 10, .lit 0), (0, 7, .lit 0)]) :: (7, frameFn [m1, m2, m3]) :: q1)) 1000 60 3 [.int .i64 (.var 0)] (sentH 295 20 errTab)) = true := by kernel_rfl
abbrev CaseS (rng : Rg) (facts : List (Bool × E × E × Bool)) (tab : NumTabE) (vs : List V) : Prop := ∀ {σ : Nat → Int} {W : World} (hL : L0 W) (hk : Known2 σ rng facts) (hT : TabOk Tryd.prog bad 8 σ tab) {xs : Array Value} (hv : ∀ ρ, VRs σ ρ vs xs.toList), Calls Tryd.prog 3 xs W fun e w' => e = .returned (.bool true) ∧ Below W.heap.size W w'
theorem caseS {rng : Rg} {facts : List (Bool × E × E × Bool)} {tab : NumTabE} {vs : List V} {fs : Fns} (hx : ∀ {σ : Nat → Int} {W : World}, L0 W → Known2 σ rng facts → TabOk Tryd.prog bad 8 σ tab → FnsOk Tryd.prog 16383 σ W fs)
    (run : isTrue (evCall (cxX Tryd.prog bad rng facts fs) 1000 60 3 vs (sentH 295 20 errTab)) = true) : CaseS rng facts tab vs := by
  intro σ W hL hk hT xs hv
  obtain ⟨ads, h1, h2, h3⟩ := errs_sents hL
  exact law_case_x fit h1 h2 h3 errs_all errs_lt (by kernel_rfl) hk (hx hL hk hT) hv ⟨_, Tryd.func3, rfl⟩ run
theorem case0 : CaseS [] [] [(0, 10, .lit 0), (0, 7, .lit 0)] [.int .i64 (.var 0)] := caseS (fun hL hk hT => FnsOk.cons (hT.ok fit) (FnsOk.cons (frame_fn_ok (all_cons (m1_ok hL) (all_cons (m2_ok hL) (all_cons (m3_ok hL) (all_nil))))) ((q1_ok hL)))) run0
noncomputable def m5 : Memo := ⟨[.str [108, 105, 32, 114, 49, 32, 52, 48, 57, 54]], h5, .tuple [.agg [I 0, I 0, I 0, I 0, I 0], .iface 295 (.ptr 24 0)], h6⟩
theorem m5_run : ranTo (evCall (cxX Tryd.prog bad [] [] q0) 1000 60 7 m5.args m5.h) m5.v m5.h' = true := by kernel_rfl
theorem m5_ok {σ : Nat → Int} {W0 : World} (hL : L0 W0) : MemoOk Tryd.prog 16383 σ W0 7 m5 := memo_ok fit (Known2.nil σ) ((q0_ok hL)) m5_run
theorem run1 : isTrue (evCall (cxX Tryd.prog bad [] [] ((8, numExtE [(0, 10, .lit 0), (0, 7, .lit 1)]) :: (7, frameFn [m1, m2, m5]) :: q1)) 1000 60 3 [.int .i64 (.var 0)] (sentH 295 20 errTab)) = true := by kernel_rfl
theorem case1 : CaseS [] [] [(0, 10, .lit 0), (0, 7, .lit 1)] [.int .i64 (.var 0)] := caseS (fun hL hk hT => FnsOk.cons (hT.ok fit) (FnsOk.cons (frame_fn_ok (all_cons (m1_ok hL) (all_cons (m2_ok hL) (all_cons (m5_ok hL) (all_nil))))) ((q1_ok hL)))) run1
noncomputable def m6 : Memo := ⟨[.str [107, 109, 111, 118, 101, 32, 107, 49, 54, 32, 107, 48]], h5, .tuple [.agg [I 0, I 0, I 0, I 0, I 0], .iface 295 (.ptr 24 0)], h6⟩
theorem m6_run : ranTo (evCall (cxX Tryd.prog bad [] [] q0) 1000 60 7 m6.args m6.h) m6.v m6.h' = true := by kernel_rfl
theorem m6_ok {σ : Nat → Int} {W0 : World} (hL : L0 W0) : MemoOk Tryd.prog 16383 σ W0 7 m6 := memo_ok fit (Known2.nil σ) ((q0_ok hL)) m6_run
theorem run2 : isTrue (evCall (cxX Tryd.prog bad [] [] ((8, numExtE [(0, 10, .lit 0), (0, 7, .lit 2)]) :: (7, frameFn [m1, m2, m6]) :: q1)) 1000 60 3 [.int .i64 (.var 0)] (sentH 295 20 errTab)) = true := by kernel_rfl
theorem case2 : CaseS [] [] [(0, 10, .lit 0), (0, 7, .lit 2)] [.int .i64 (.var 0)] := caseS (fun hL hk hT => FnsOk.cons (hT.ok fit) (FnsOk.cons (frame_fn_ok (all_cons (m1_ok hL) (all_cons (m2_ok hL) (all_cons (m6_ok hL) (all_nil))))) ((q1_ok hL)))) run2
noncomputable def m7 : Memo := ⟨[.str [97, 108, 117, 32, 97, 100, 100, 32, 114, 49, 32, 114, 57, 32, 114, 50]], h5, .tuple [.agg [I 0, I 0, I 0, I 0, I 0], .iface 295 (.ptr 24 0)], h6⟩
theorem m7_run : ranTo (evCall (cxX Tryd.prog bad [] [] q0) 1000 60 7 m7.args m7.h) m7.v m7.h' = true := by kernel_rfl
theorem m7_ok {σ : Nat → Int} {W0 : World} (hL : L0 W0) : MemoOk Tryd.prog 16383 σ W0 7 m7 := memo_ok fit (Known2.nil σ) ((q0_ok hL)) m7_run
theorem run3 : isTrue (evCall (cxX Tryd.prog bad [] [] ((8, numExtE [(0, 10, .lit 0), (0, 7, .lit 3)]) :: (7, frameFn [m1, m2, m7]) :: q1)) 1000 60 3 [.int .i64 (.var 0)] (sentH 295 20 errTab)) = true := by kernel_rfl
theorem case3 : CaseS [] [] [(0, 10, .lit 0), (0, 7, .lit 3)] [.int .i64 (.var 0)] := caseS (fun hL hk hT => FnsOk.cons (hT.ok fit) (FnsOk.cons (frame_fn_ok (all_cons (m1_ok hL) (all_cons (m2_ok hL) (all_cons (m7_ok hL) (all_nil))))) ((q1_ok hL)))) run3
noncomputable def m8 : Memo := ⟨[.str [106, 109, 112, 32, 53, 48, 48, 48]], h5, .tuple [.agg [I 0, I 0, I 0, I 0, I 0], .iface 295 (.ptr 24 0)], h6⟩
theorem m8_run : ranTo (evCall (cxX Tryd.prog bad [] [] q0) 1000 60 7 m8.args m8.h) m8.v m8.h' = true := by kernel_rfl
theorem m8_ok {σ : Nat → Int} {W0 : World} (hL : L0 W0) : MemoOk Tryd.prog 16383 σ W0 7 m8 := memo_ok fit (Known2.nil σ) ((q0_ok hL)) m8_run
theorem run4 : isTrue (evCall (cxX Tryd.prog bad [] [] ((8, numExtE [(0, 10, .lit 0), (0, 7, .lit 4)]) :: (7, frameFn [m1, m2, m8]) :: q1)) 1000 60 3 [.int .i64 (.var 0)] (sentH 295 20 errTab)) = true := by kernel_rfl
theorem case4 : CaseS [] [] [(0, 10, .lit 0), (0, 7, .lit 4)] [.int .i64 (.var 0)] := caseS (fun hL hk hT => FnsOk.cons (hT.ok fit) (FnsOk.cons (frame_fn_ok (all_cons (m1_ok hL) (all_cons (m2_ok hL) (all_cons (m8_ok hL) (all_nil))))) ((q1_ok hL)))) run4
noncomputable def m9 : Memo := ⟨[.str [105, 110, 118, 32, 99, 97, 108, 108, 32, 107, 49, 32, 107, 49, 54]], h5, .tuple [.agg [I 0, I 0, I 0, I 0, I 0], .iface 295 (.ptr 24 0)], h6⟩
theorem m9_run : ranTo (evCall (cxX Tryd.prog bad [] [] q0) 1000 60 7 m9.args m9.h) m9.v m9.h' = true := by kernel_rfl
theorem m9_ok {σ : Nat → Int} {W0 : World} (hL : L0 W0) : MemoOk Tryd.prog 16383 σ W0 7 m9 := memo_ok fit (Known2.nil σ) ((q0_ok hL)) m9_run
theorem run5 : isTrue (evCall (cxX Tryd.prog bad [] [] ((8, numExtE [(0, 10, .lit 0), (0, 7, .lit 5)]) :: (7, frameFn [m1, m2, m9]) :: q1)) 1000 60 3 [.int .i64 (.var 0)] (sentH 295 20 errTab)) = true := by kernel_rfl
theorem case5 : CaseS [] [] [(0, 10, .lit 0), (0, 7, .lit 5)] [.int .i64 (.var 0)] := caseS (fun hL hk hT => FnsOk.cons (hT.ok fit) (FnsOk.cons (frame_fn_ok (all_cons (m1_ok hL) (all_cons (m2_ok hL) (all_cons (m9_ok hL) (all_nil))))) ((q1_ok hL)))) run5
noncomputable def m10 : Memo := ⟨[.str [115, 97, 118, 101, 32, 114, 48, 32, 114, 56, 32, 49]], h5, .tuple [.agg [I 0, I 0, I 0, I 0, I 0], .iface 295 (.ptr 24 0)], h6⟩
theorem m10_run : ranTo (evCall (cxX Tryd.prog bad [] [] q0) 1000 60 7 m10.args m10.h) m10.v m10.h' = true := by kernel_rfl
theorem m10_ok {σ : Nat → Int} {W0 : World} (hL : L0 W0) : MemoOk Tryd.prog 16383 σ W0 7 m10 := memo_ok fit (Known2.nil σ) ((q0_ok hL)) m10_run
theorem run6 : isTrue (evCall (cxX Tryd.prog bad [] [] ((8, numExtE [(0, 10, .lit 0), (0, 7, .lit 6)]) :: (7, frameFn [m1, m2, m10]) :: q1)) 1000 60 3 [.int .i64 (.var 0)] (sentH 295 20 errTab)) = true := by kernel_rfl
theorem case6 : CaseS [] [] [(0, 10, .lit 0), (0, 7, .lit 6)] [.int .i64 (.var 0)] := caseS (fun hL hk hT => FnsOk.cons (hT.ok fit) (FnsOk.cons (frame_fn_ok (all_cons (m1_ok hL) (all_cons (m2_ok hL) (all_cons (m10_ok hL) (all_nil))))) ((q1_ok hL)))) run6
noncomputable def m11 : Memo := ⟨[.str [108, 105, 105, 32, 114, 49, 32, 53]], h1, .tuple [.agg [I 0, I 0, I 0, I 0, I 0], .iface 295 (.ptr 32 0)], h2⟩
theorem m11_run : ranTo (evCall (cxX Tryd.prog bad [] [] q0) 1000 60 7 m11.args m11.h) m11.v m11.h' = true := by kernel_rfl
theorem m11_ok {σ : Nat → Int} {W0 : World} (hL : L0 W0) : MemoOk Tryd.prog 16383 σ W0 7 m11 := memo_ok fit (Known2.nil σ) ((q0_ok hL)) m11_run
noncomputable def m12 : Memo := ⟨[.str [108, 105, 32, 114, 49, 32, 48, 53]], h3, .tuple [.agg [I 0, I 0, I 0, I 0, I 0], .iface 295 (.ptr 33 0)], h4⟩
theorem m12_run : ranTo (evCall (cxX Tryd.prog bad [] [] q0) 1000 60 7 m12.args m12.h) m12.v m12.h' = true := by kernel_rfl
theorem m12_ok {σ : Nat → Int} {W0 : World} (hL : L0 W0) : MemoOk Tryd.prog 16383 σ W0 7 m12 := memo_ok fit (Known2.nil σ) ((q0_ok hL)) m12_run
theorem run7 : isTrue (evCall (cxX Tryd.prog bad [] [] ((8, numExtE [(0, 10, .lit 1), (0, 7, .lit 0)]) :: (7, frameFn [m11, m12, m3]) :: q1)) 1000 60 3 [.int .i64 (.var 0)] (sentH 295 20 errTab)) = true := by kernel_rfl
theorem case7 : CaseS [] [] [(0, 10, .lit 1), (0, 7, .lit 0)] [.int .i64 (.var 0)] := caseS (fun hL hk hT => FnsOk.cons (hT.ok fit) (FnsOk.cons (frame_fn_ok (all_cons (m11_ok hL) (all_cons (m12_ok hL) (all_cons (m3_ok hL) (all_nil))))) ((q1_ok hL)))) run7
theorem run8 : isTrue (evCall (cxX Tryd.prog bad [] [] ((8, numExtE [(0, 10, .lit 1), (0, 7, .lit 1)]) :: (7, frameFn [m11, m12, m5]) :: q1)) 1000 60 3 [.int .i64 (.var 0)] (sentH 295 20 errTab)) = true := by kernel_rfl
theorem case8 : CaseS [] [] [(0, 10, .lit 1), (0, 7, .lit 1)] [.int .i64 (.var 0)] := caseS (fun hL hk hT => FnsOk.cons (hT.ok fit) (FnsOk.cons (frame_fn_ok (all_cons (m11_ok hL) (all_cons (m12_ok hL) (all_cons (m5_ok hL) (all_nil))))) ((q1_ok hL)))) run8
theorem run9 : isTrue (evCall (cxX Tryd.prog bad [] [] ((8, numExtE [(0, 10, .lit 1), (0, 7, .lit 2)]) :: (7, frameFn [m11, m12, m6]) :: q1)) 1000 60 3 [.int .i64 (.var 0)] (sentH 295 20 errTab)) = true := by kernel_rfl
theorem case9 : CaseS [] [] [(0, 10, .lit 1), (0, 7, .lit 2)] [.int .i64 (.var 0)] := caseS (fun hL hk hT => FnsOk.cons (hT.ok fit) (FnsOk.cons (frame_fn_ok (all_cons (m11_ok hL) (all_cons (m12_ok hL) (all_cons (m6_ok hL) (all_nil))))) ((q1_ok hL)))) run9
theorem run10 : isTrue (evCall (cxX Tryd.prog bad [] [] ((8, numExtE [(0, 10, .lit 1), (0, 7, .lit 3)]) :: (7, frameFn [m11, m12, m7]) :: q1)) 1000 60 3 [.int .i64 (.var 0)] (sentH 295 20 errTab)) = true := by kernel_rfl
theorem case10 : CaseS [] [] [(0, 10, .lit 1), (0, 7, .lit 3)] [.int .i64 (.var 0)] := caseS (fun hL hk hT => FnsOk.cons (hT.ok fit) (FnsOk.cons (frame_fn_ok (all_cons (m11_ok hL) (all_cons (m12_ok hL) (all_cons (m7_ok hL) (all_nil))))) ((q1_ok hL)))) run10
theorem run11 : isTrue (evCall (cxX Tryd.prog bad [] [] ((8, numExtE [(0, 10, .lit 1), (0, 7, .lit 4)]) :: (7, frameFn [m11, m12, m8]) :: q1)) 1000 60 3 [.int .i64 (.var 0)] (sentH 295 20 errTab)) = true := by kernel_rfl
theorem case11 : CaseS [] [] [(0, 10, .lit 1), (0, 7, .lit 4)] [.int .i64 (.var 0)] := caseS (fun hL hk hT => FnsOk.cons (hT.ok fit) (FnsOk.cons (frame_fn_ok (all_cons (m11_ok hL) (all_cons (m12_ok hL) (all_cons (m8_ok hL) (all_nil))))) ((q1_ok hL)))) run11
theorem run12 : isTrue (evCall (cxX Tryd.prog bad [] [] ((8, numExtE [(0, 10, .lit 1), (0, 7, .lit 5)]) :: (7, frameFn [m11, m12, m9]) :: q1)) 1000 60 3 [.int .i64 (.var 0)] (sentH 295 20 errTab)) = true := by kernel_rfl
theorem case12 : CaseS [] [] [(0, 10, .lit 1), (0, 7, .lit 5)] [.int .i64 (.var 0)] := caseS (fun hL hk hT => FnsOk.cons (hT.ok fit) (FnsOk.cons (frame_fn_ok (all_cons (m11_ok hL) (all_cons (m12_ok hL) (all_cons (m9_ok hL) (all_nil))))) ((q1_ok hL)))) run12
theorem run13 : isTrue (evCall (cxX Tryd.prog bad [] [] ((8, numExtE [(0, 10, .lit 1), (0, 7, .lit 6)]) :: (7, frameFn [m11, m12, m10]) :: q1)) 1000 60 3 [.int .i64 (.var 0)] (sentH 295 20 errTab)) = true := by kernel_rfl
theorem case13 : CaseS [] [] [(0, 10, .lit 1), (0, 7, .lit 6)] [.int .i64 (.var 0)] := caseS (fun hL hk hT => FnsOk.cons (hT.ok fit) (FnsOk.cons (frame_fn_ok (all_cons (m11_ok hL) (all_cons (m12_ok hL) (all_cons (m10_ok hL) (all_nil))))) ((q1_ok hL)))) run13
noncomputable def m13 : Memo := ⟨[.str [108, 105, 32, 114, 49]], h1, .tuple [.agg [I 0, I 0, I 0, I 0, I 0], .iface 295 (.ptr 32 0)], h2⟩
theorem m13_run : ranTo (evCall (cxX Tryd.prog bad [] [] q0) 1000 60 7 m13.args m13.h) m13.v m13.h' = true := by kernel_rfl
theorem m13_ok {σ : Nat → Int} {W0 : World} (hL : L0 W0) : MemoOk Tryd.prog 16383 σ W0 7 m13 := memo_ok fit (Known2.nil σ) ((q0_ok hL)) m13_run
noncomputable def m14 : Memo := ⟨[.str [108, 105, 32, 114, 49, 32, 43, 53]], h3, .tuple [.agg [I 0, I 0, I 0, I 0, I 0], .iface 295 (.ptr 33 0)], h4⟩
theorem m14_run : ranTo (evCall (cxX Tryd.prog bad [] [] q0) 1000 60 7 m14.args m14.h) m14.v m14.h' = true := by kernel_rfl
theorem m14_ok {σ : Nat → Int} {W0 : World} (hL : L0 W0) : MemoOk Tryd.prog 16383 σ W0 7 m14 := memo_ok fit (Known2.nil σ) ((q0_ok hL)) m14_run
theorem run14 : isTrue (evCall (cxX Tryd.prog bad [] [] ((8, numExtE [(0, 10, .lit 2), (0, 7, .lit 0)]) :: (7, frameFn [m13, m14, m3]) :: q1)) 1000 60 3 [.int .i64 (.var 0)] (sentH 295 20 errTab)) = true := by kernel_rfl
theorem case14 : CaseS [] [] [(0, 10, .lit 2), (0, 7, .lit 0)] [.int .i64 (.var 0)] := caseS (fun hL hk hT => FnsOk.cons (hT.ok fit) (FnsOk.cons (frame_fn_ok (all_cons (m13_ok hL) (all_cons (m14_ok hL) (all_cons (m3_ok hL) (all_nil))))) ((q1_ok hL)))) run14
theorem run15 : isTrue (evCall (cxX Tryd.prog bad [] [] ((8, numExtE [(0, 10, .lit 2), (0, 7, .lit 1)]) :: (7, frameFn [m13, m14, m5]) :: q1)) 1000 60 3 [.int .i64 (.var 0)] (sentH 295 20 errTab)) = true := by kernel_rfl
theorem case15 : CaseS [] [] [(0, 10, .lit 2), (0, 7, .lit 1)] [.int .i64 (.var 0)] := caseS (fun hL hk hT => FnsOk.cons (hT.ok fit) (FnsOk.cons (frame_fn_ok (all_cons (m13_ok hL) (all_cons (m14_ok hL) (all_cons (m5_ok hL) (all_nil))))) ((q1_ok hL)))) run15
theorem run16 : isTrue (evCall (cxX Tryd.prog bad [] [] ((8, numExtE [(0, 10, .lit 2), (0, 7, .lit 2)]) :: (7, frameFn [m13, m14, m6]) :: q1)) 1000 60 3 [.int .i64 (.var 0)] (sentH 295 20 errTab)) = true := by kernel_rfl
theorem case16 : CaseS [] [] [(0, 10, .lit 2), (0, 7, .lit 2)] [.int .i64 (.var 0)] := caseS (fun hL hk hT => FnsOk.cons (hT.ok fit) (FnsOk.cons (frame_fn_ok (all_cons (m13_ok hL) (all_cons (m14_ok hL) (all_cons (m6_ok hL) (all_nil))))) ((q1_ok hL)))) run16
theorem run17 : isTrue (evCall (cxX Tryd.prog bad [] [] ((8, numExtE [(0, 10, .lit 2), (0, 7, .lit 3)]) :: (7, frameFn [m13, m14, m7]) :: q1)) 1000 60 3 [.int .i64 (.var 0)] (sentH 295 20 errTab)) = true := by kernel_rfl
theorem case17 : CaseS [] [] [(0, 10, .lit 2), (0, 7, .lit 3)] [.int .i64 (.var 0)] := caseS (fun hL hk hT => FnsOk.cons (hT.ok fit) (FnsOk.cons (frame_fn_ok (all_cons (m13_ok hL) (all_cons (m14_ok hL) (all_cons (m7_ok hL) (all_nil))))) ((q1_ok hL)))) run17
theorem run18 : isTrue (evCall (cxX Tryd.prog bad [] [] ((8, numExtE [(0, 10, .lit 2), (0, 7, .lit 4)]) :: (7, frameFn [m13, m14, m8]) :: q1)) 1000 60 3 [.int .i64 (.var 0)] (sentH 295 20 errTab)) = true := by kernel_rfl
theorem case18 : CaseS [] [] [(0, 10, .lit 2), (0, 7, .lit 4)] [.int .i64 (.var 0)] := caseS (fun hL hk hT => FnsOk.cons (hT.ok fit) (FnsOk.cons (frame_fn_ok (all_cons (m13_ok hL) (all_cons (m14_ok hL) (all_cons (m8_ok hL) (all_nil))))) ((q1_ok hL)))) run18
theorem run19 : isTrue (evCall (cxX Tryd.prog bad [] [] ((8, numExtE [(0, 10, .lit 2), (0, 7, .lit 5)]) :: (7, frameFn [m13, m14, m9]) :: q1)) 1000 60 3 [.int .i64 (.var 0)] (sentH 295 20 errTab)) = true := by kernel_rfl
theorem case19 : CaseS [] [] [(0, 10, .lit 2), (0, 7, .lit 5)] [.int .i64 (.var 0)] := caseS (fun hL hk hT => FnsOk.cons (hT.ok fit) (FnsOk.cons (frame_fn_ok (all_cons (m13_ok hL) (all_cons (m14_ok hL) (all_cons (m9_ok hL) (all_nil))))) ((q1_ok hL)))) run19
theorem run20 : isTrue (evCall (cxX Tryd.prog bad [] [] ((8, numExtE [(0, 10, .lit 2), (0, 7, .lit 6)]) :: (7, frameFn [m13, m14, m10]) :: q1)) 1000 60 3 [.int .i64 (.var 0)] (sentH 295 20 errTab)) = true := by kernel_rfl
theorem case20 : CaseS [] [] [(0, 10, .lit 2), (0, 7, .lit 6)] [.int .i64 (.var 0)] := caseS (fun hL hk hT => FnsOk.cons (hT.ok fit) (FnsOk.cons (frame_fn_ok (all_cons (m13_ok hL) (all_cons (m14_ok hL) (all_cons (m10_ok hL) (all_nil))))) ((q1_ok hL)))) run20
noncomputable def m15 : Memo := ⟨[.str [108, 105, 32, 114, 49, 32, 53, 32, 54]], h1, .tuple [.agg [I 0, I 0, I 0, I 0, I 0], .iface 295 (.ptr 32 0)], h2⟩
theorem m15_run : ranTo (evCall (cxX Tryd.prog bad [] [] q0) 1000 60 7 m15.args m15.h) m15.v m15.h' = true := by kernel_rfl
theorem m15_ok {σ : Nat → Int} {W0 : World} (hL : L0 W0) : MemoOk Tryd.prog 16383 σ W0 7 m15 := memo_ok fit (Known2.nil σ) ((q0_ok hL)) m15_run
noncomputable def m16 : Memo := ⟨[.str [108, 105, 32, 49, 32, 53]], h3, .tuple [.agg [I 0, I 0, I 0, I 0, I 0], .iface 295 (.ptr 33 0)], h4⟩
theorem m16_run : ranTo (evCall (cxX Tryd.prog bad [] [] q0) 1000 60 7 m16.args m16.h) m16.v m16.h' = true := by kernel_rfl
theorem m16_ok {σ : Nat → Int} {W0 : World} (hL : L0 W0) : MemoOk Tryd.prog 16383 σ W0 7 m16 := memo_ok fit (Known2.nil σ) ((q0_ok hL)) m16_run
theorem run21 : isTrue (evCall (cxX Tryd.prog bad [] [] ((8, numExtE [(0, 10, .lit 3), (0, 7, .lit 0)]) :: (7, frameFn [m15, m16, m3]) :: q1)) 1000 60 3 [.int .i64 (.var 0)] (sentH 295 20 errTab)) = true := by kernel_rfl
theorem case21 : CaseS [] [] [(0, 10, .lit 3), (0, 7, .lit 0)] [.int .i64 (.var 0)] := caseS (fun hL hk hT => FnsOk.cons (hT.ok fit) (FnsOk.cons (frame_fn_ok (all_cons (m15_ok hL) (all_cons (m16_ok hL) (all_cons (m3_ok hL) (all_nil))))) ((q1_ok hL)))) run21
theorem run22 : isTrue (evCall (cxX Tryd.prog bad [] [] ((8, numExtE [(0, 10, .lit 3), (0, 7, .lit 1)]) :: (7, frameFn [m15, m16, m5]) :: q1)) 1000 60 3 [.int .i64 (.var 0)] (sentH 295 20 errTab)) = true := by kernel_rfl
theorem case22 : CaseS [] [] [(0, 10, .lit 3), (0, 7, .lit 1)] [.int .i64 (.var 0)] := caseS (fun hL hk hT => FnsOk.cons (hT.ok fit) (FnsOk.cons (frame_fn_ok (all_cons (m15_ok hL) (all_cons (m16_ok hL) (all_cons (m5_ok hL) (all_nil))))) ((q1_ok hL)))) run22
theorem run23 : isTrue (evCall (cxX Tryd.prog bad [] [] ((8, numExtE [(0, 10, .lit 3), (0, 7, .lit 2)]) :: (7, frameFn [m15, m16, m6]) :: q1)) 1000 60 3 [.int .i64 (.var 0)] (sentH 295 20 errTab)) = true := by kernel_rfl
theorem case23 : CaseS [] [] [(0, 10, .lit 3), (0, 7, .lit 2)] [.int .i64 (.var 0)] := caseS (fun hL hk hT => FnsOk.cons (hT.ok fit) (FnsOk.cons (frame_fn_ok (all_cons (m15_ok hL) (all_cons (m16_ok hL) (all_cons (m6_ok hL) (all_nil))))) ((q1_ok hL)))) run23
theorem run24 : isTrue (evCall (cxX Tryd.prog bad [] [] ((8, numExtE [(0, 10, .lit 3), (0, 7, .lit 3)]) :: (7, frameFn [m15, m16, m7]) :: q1)) 1000 60 3 [.int .i64 (.var 0)] (sentH 295 20 errTab)) = true := by kernel_rfl
theorem case24 : CaseS [] [] [(0, 10, .lit 3), (0, 7, .lit 3)] [.int .i64 (.var 0)] := caseS (fun hL hk hT => FnsOk.cons (hT.ok fit) (FnsOk.cons (frame_fn_ok (all_cons (m15_ok hL) (all_cons (m16_ok hL) (all_cons (m7_ok hL) (all_nil))))) ((q1_ok hL)))) run24
theorem run25 : isTrue (evCall (cxX Tryd.prog bad [] [] ((8, numExtE [(0, 10, .lit 3), (0, 7, .lit 4)]) :: (7, frameFn [m15, m16, m8]) :: q1)) 1000 60 3 [.int .i64 (.var 0)] (sentH 295 20 errTab)) = true := by kernel_rfl
theorem case25 : CaseS [] [] [(0, 10, .lit 3), (0, 7, .lit 4)] [.int .i64 (.var 0)] := caseS (fun hL hk hT => FnsOk.cons (hT.ok fit) (FnsOk.cons (frame_fn_ok (all_cons (m15_ok hL) (all_cons (m16_ok hL) (all_cons (m8_ok hL) (all_nil))))) ((q1_ok hL)))) run25
theorem run26 : isTrue (evCall (cxX Tryd.prog bad [] [] ((8, numExtE [(0, 10, .lit 3), (0, 7, .lit 5)]) :: (7, frameFn [m15, m16, m9]) :: q1)) 1000 60 3 [.int .i64 (.var 0)] (sentH 295 20 errTab)) = true := by kernel_rfl
theorem case26 : CaseS [] [] [(0, 10, .lit 3), (0, 7, .lit 5)] [.int .i64 (.var 0)] := caseS (fun hL hk hT => FnsOk.cons (hT.ok fit) (FnsOk.cons (frame_fn_ok (all_cons (m15_ok hL) (all_cons (m16_ok hL) (all_cons (m9_ok hL) (all_nil))))) ((q1_ok hL)))) run26
theorem run27 : isTrue (evCall (cxX Tryd.prog bad [] [] ((8, numExtE [(0, 10, .lit 3), (0, 7, .lit 6)]) :: (7, frameFn [m15, m16, m10]) :: q1)) 1000 60 3 [.int .i64 (.var 0)] (sentH 295 20 errTab)) = true := by kernel_rfl
theorem case27 : CaseS [] [] [(0, 10, .lit 3), (0, 7, .lit 6)] [.int .i64 (.var 0)] := caseS (fun hL hk hT => FnsOk.cons (hT.ok fit) (FnsOk.cons (frame_fn_ok (all_cons (m15_ok hL) (all_cons (m16_ok hL) (all_cons (m10_ok hL) (all_nil))))) ((q1_ok hL)))) run27
noncomputable def m17 : Memo := ⟨[.str [97, 108, 117, 32, 112, 108, 117, 115, 32, 114, 49, 32, 114, 50, 32, 114, 51]], h1, .tuple [.agg [I 0, I 0, I 0, I 0, I 0], .iface 295 (.ptr 32 0)], h2⟩
theorem m17_run : ranTo (evCall (cxX Tryd.prog bad [] [] q0) 1000 60 7 m17.args m17.h) m17.v m17.h' = true := by kernel_rfl
theorem m17_ok {σ : Nat → Int} {W0 : World} (hL : L0 W0) : MemoOk Tryd.prog 16383 σ W0 7 m17 := memo_ok fit (Known2.nil σ) ((q0_ok hL)) m17_run
noncomputable def m18 : Memo := ⟨[.str [108, 105, 32, 107, 49, 32, 53]], h3, .tuple [.agg [I 0, I 0, I 0, I 0, I 0], .iface 295 (.ptr 33 0)], h4⟩
theorem m18_run : ranTo (evCall (cxX Tryd.prog bad [] [] q0) 1000 60 7 m18.args m18.h) m18.v m18.h' = true := by kernel_rfl
theorem m18_ok {σ : Nat → Int} {W0 : World} (hL : L0 W0) : MemoOk Tryd.prog 16383 σ W0 7 m18 := memo_ok fit (Known2.nil σ) ((q0_ok hL)) m18_run
theorem run28 : isTrue (evCall (cxX Tryd.prog bad [] [] ((8, numExtE [(0, 10, .lit 4), (0, 7, .lit 0)]) :: (7, frameFn [m17, m18, m3]) :: q1)) 1000 60 3 [.int .i64 (.var 0)] (sentH 295 20 errTab)) = true := by kernel_rfl
theorem case28 : CaseS [] [] [(0, 10, .lit 4), (0, 7, .lit 0)] [.int .i64 (.var 0)] := caseS (fun hL hk hT => FnsOk.cons (hT.ok fit) (FnsOk.cons (frame_fn_ok (all_cons (m17_ok hL) (all_cons (m18_ok hL) (all_cons (m3_ok hL) (all_nil))))) ((q1_ok hL)))) run28
theorem run29 : isTrue (evCall (cxX Tryd.prog bad [] [] ((8, numExtE [(0, 10, .lit 4), (0, 7, .lit 1)]) :: (7, frameFn [m17, m18, m5]) :: q1)) 1000 60 3 [.int .i64 (.var 0)] (sentH 295 20 errTab)) = true := by kernel_rfl
theorem case29 : CaseS [] [] [(0, 10, .lit 4), (0, 7, .lit 1)] [.int .i64 (.var 0)] := caseS (fun hL hk hT => FnsOk.cons (hT.ok fit) (FnsOk.cons (frame_fn_ok (all_cons (m17_ok hL) (all_cons (m18_ok hL) (all_cons (m5_ok hL) (all_nil))))) ((q1_ok hL)))) run29
theorem run30 : isTrue (evCall (cxX Tryd.prog bad [] [] ((8, numExtE [(0, 10, .lit 4), (0, 7, .lit 2)]) :: (7, frameFn [m17, m18, m6]) :: q1)) 1000 60 3 [.int .i64 (.var 0)] (sentH 295 20 errTab)) = true := by kernel_rfl
theorem case30 : CaseS [] [] [(0, 10, .lit 4), (0, 7, .lit 2)] [.int .i64 (.var 0)] := caseS (fun hL hk hT => FnsOk.cons (hT.ok fit) (FnsOk.cons (frame_fn_ok (all_cons (m17_ok hL) (all_cons (m18_ok hL) (all_cons (m6_ok hL) (all_nil))))) ((q1_ok hL)))) run30
theorem run31 : isTrue (evCall (cxX Tryd.prog bad [] [] ((8, numExtE [(0, 10, .lit 4), (0, 7, .lit 3)]) :: (7, frameFn [m17, m18, m7]) :: q1)) 1000 60 3 [.int .i64 (.var 0)] (sentH 295 20 errTab)) = true := by kernel_rfl
theorem case31 : CaseS [] [] [(0, 10, .lit 4), (0, 7, .lit 3)] [.int .i64 (.var 0)] := caseS (fun hL hk hT => FnsOk.cons (hT.ok fit) (FnsOk.cons (frame_fn_ok (all_cons (m17_ok hL) (all_cons (m18_ok hL) (all_cons (m7_ok hL) (all_nil))))) ((q1_ok hL)))) run31
theorem run32 : isTrue (evCall (cxX Tryd.prog bad [] [] ((8, numExtE [(0, 10, .lit 4), (0, 7, .lit 4)]) :: (7, frameFn [m17, m18, m8]) :: q1)) 1000 60 3 [.int .i64 (.var 0)] (sentH 295 20 errTab)) = true := by kernel_rfl
theorem case32 : CaseS [] [] [(0, 10, .lit 4), (0, 7, .lit 4)] [.int .i64 (.var 0)] := caseS (fun hL hk hT => FnsOk.cons (hT.ok fit) (FnsOk.cons (frame_fn_ok (all_cons (m17_ok hL) (all_cons (m18_ok hL) (all_cons (m8_ok hL) (all_nil))))) ((q1_ok hL)))) run32
theorem run33 : isTrue (evCall (cxX Tryd.prog bad [] [] ((8, numExtE [(0, 10, .lit 4), (0, 7, .lit 5)]) :: (7, frameFn [m17, m18, m9]) :: q1)) 1000 60 3 [.int .i64 (.var 0)] (sentH 295 20 errTab)) = true := by kernel_rfl
theorem case33 : CaseS [] [] [(0, 10, .lit 4), (0, 7, .lit 5)] [.int .i64 (.var 0)] := caseS (fun hL hk hT => FnsOk.cons (hT.ok fit) (FnsOk.cons (frame_fn_ok (all_cons (m17_ok hL) (all_cons (m18_ok hL) (all_cons (m9_ok hL) (all_nil))))) ((q1_ok hL)))) run33
theorem run34 : isTrue (evCall (cxX Tryd.prog bad [] [] ((8, numExtE [(0, 10, .lit 4), (0, 7, .lit 6)]) :: (7, frameFn [m17, m18, m10]) :: q1)) 1000 60 3 [.int .i64 (.var 0)] (sentH 295 20 errTab)) = true := by kernel_rfl
theorem case34 : CaseS [] [] [(0, 10, .lit 4), (0, 7, .lit 6)] [.int .i64 (.var 0)] := caseS (fun hL hk hT => FnsOk.cons (hT.ok fit) (FnsOk.cons (frame_fn_ok (all_cons (m17_ok hL) (all_cons (m18_ok hL) (all_cons (m10_ok hL) (all_nil))))) ((q1_ok hL)))) run34
noncomputable def m19 : Memo := ⟨[.str [97, 108, 117, 32, 97, 100, 100, 32, 114, 49, 32, 114, 50]], h1, .tuple [.agg [I 0, I 0, I 0, I 0, I 0], .iface 295 (.ptr 32 0)], h2⟩
theorem m19_run : ranTo (evCall (cxX Tryd.prog bad [] [] q0) 1000 60 7 m19.args m19.h) m19.v m19.h' = true := by kernel_rfl
theorem m19_ok {σ : Nat → Int} {W0 : World} (hL : L0 W0) : MemoOk Tryd.prog 16383 σ W0 7 m19 := memo_ok fit (Known2.nil σ) ((q0_ok hL)) m19_run
noncomputable def m20 : Memo := ⟨[.str [107, 109, 111, 118, 101, 32, 107, 49, 32, 114, 50]], h3, .tuple [.agg [I 0, I 0, I 0, I 0, I 0], .iface 295 (.ptr 33 0)], h4⟩
theorem m20_run : ranTo (evCall (cxX Tryd.prog bad [] [] q0) 1000 60 7 m20.args m20.h) m20.v m20.h' = true := by kernel_rfl
theorem m20_ok {σ : Nat → Int} {W0 : World} (hL : L0 W0) : MemoOk Tryd.prog 16383 σ W0 7 m20 := memo_ok fit (Known2.nil σ) ((q0_ok hL)) m20_run
theorem run35 : isTrue (evCall (cxX Tryd.prog bad [] [] ((8, numExtE [(0, 10, .lit 5), (0, 7, .lit 0)]) :: (7, frameFn [m19, m20, m3]) :: q1)) 1000 60 3 [.int .i64 (.var 0)] (sentH 295 20 errTab)) = true := by kernel_rfl
theorem case35 : CaseS [] [] [(0, 10, .lit 5), (0, 7, .lit 0)] [.int .i64 (.var 0)] := caseS (fun hL hk hT => FnsOk.cons (hT.ok fit) (FnsOk.cons (frame_fn_ok (all_cons (m19_ok hL) (all_cons (m20_ok hL) (all_cons (m3_ok hL) (all_nil))))) ((q1_ok hL)))) run35
theorem run36 : isTrue (evCall (cxX Tryd.prog bad [] [] ((8, numExtE [(0, 10, .lit 5), (0, 7, .lit 1)]) :: (7, frameFn [m19, m20, m5]) :: q1)) 1000 60 3 [.int .i64 (.var 0)] (sentH 295 20 errTab)) = true := by kernel_rfl
theorem case36 : CaseS [] [] [(0, 10, .lit 5), (0, 7, .lit 1)] [.int .i64 (.var 0)] := caseS (fun hL hk hT => FnsOk.cons (hT.ok fit) (FnsOk.cons (frame_fn_ok (all_cons (m19_ok hL) (all_cons (m20_ok hL) (all_cons (m5_ok hL) (all_nil))))) ((q1_ok hL)))) run36
theorem run37 : isTrue (evCall (cxX Tryd.prog bad [] [] ((8, numExtE [(0, 10, .lit 5), (0, 7, .lit 2)]) :: (7, frameFn [m19, m20, m6]) :: q1)) 1000 60 3 [.int .i64 (.var 0)] (sentH 295 20 errTab)) = true := by kernel_rfl
theorem case37 : CaseS [] [] [(0, 10, .lit 5), (0, 7, .lit 2)] [.int .i64 (.var 0)] := caseS (fun hL hk hT => FnsOk.cons (hT.ok fit) (FnsOk.cons (frame_fn_ok (all_cons (m19_ok hL) (all_cons (m20_ok hL) (all_cons (m6_ok hL) (all_nil))))) ((q1_ok hL)))) run37
theorem run38 : isTrue (evCall (cxX Tryd.prog bad [] [] ((8, numExtE [(0, 10, .lit 5), (0, 7, .lit 3)]) :: (7, frameFn [m19, m20, m7]) :: q1)) 1000 60 3 [.int .i64 (.var 0)] (sentH 295 20 errTab)) = true := by kernel_rfl
theorem case38 : CaseS [] [] [(0, 10, .lit 5), (0, 7, .lit 3)] [.int .i64 (.var 0)] := caseS (fun hL hk hT => FnsOk.cons (hT.ok fit) (FnsOk.cons (frame_fn_ok (all_cons (m19_ok hL) (all_cons (m20_ok hL) (all_cons (m7_ok hL) (all_nil))))) ((q1_ok hL)))) run38
theorem run39 : isTrue (evCall (cxX Tryd.prog bad [] [] ((8, numExtE [(0, 10, .lit 5), (0, 7, .lit 4)]) :: (7, frameFn [m19, m20, m8]) :: q1)) 1000 60 3 [.int .i64 (.var 0)] (sentH 295 20 errTab)) = true := by kernel_rfl
theorem case39 : CaseS [] [] [(0, 10, .lit 5), (0, 7, .lit 4)] [.int .i64 (.var 0)] := caseS (fun hL hk hT => FnsOk.cons (hT.ok fit) (FnsOk.cons (frame_fn_ok (all_cons (m19_ok hL) (all_cons (m20_ok hL) (all_cons (m8_ok hL) (all_nil))))) ((q1_ok hL)))) run39
theorem run40 : isTrue (evCall (cxX Tryd.prog bad [] [] ((8, numExtE [(0, 10, .lit 5), (0, 7, .lit 5)]) :: (7, frameFn [m19, m20, m9]) :: q1)) 1000 60 3 [.int .i64 (.var 0)] (sentH 295 20 errTab)) = true := by kernel_rfl
theorem case40 : CaseS [] [] [(0, 10, .lit 5), (0, 7, .lit 5)] [.int .i64 (.var 0)] := caseS (fun hL hk hT => FnsOk.cons (hT.ok fit) (FnsOk.cons (frame_fn_ok (all_cons (m19_ok hL) (all_cons (m20_ok hL) (all_cons (m9_ok hL) (all_nil))))) ((q1_ok hL)))) run40
theorem run41 : isTrue (evCall (cxX Tryd.prog bad [] [] ((8, numExtE [(0, 10, .lit 5), (0, 7, .lit 6)]) :: (7, frameFn [m19, m20, m10]) :: q1)) 1000 60 3 [.int .i64 (.var 0)] (sentH 295 20 errTab)) = true := by kernel_rfl
theorem case41 : CaseS [] [] [(0, 10, .lit 5), (0, 7, .lit 6)] [.int .i64 (.var 0)] := caseS (fun hL hk hT => FnsOk.cons (hT.ok fit) (FnsOk.cons (frame_fn_ok (all_cons (m19_ok hL) (all_cons (m20_ok hL) (all_cons (m10_ok hL) (all_nil))))) ((q1_ok hL)))) run41
noncomputable def m21 : Memo := ⟨[.str [105, 110, 118, 32, 99, 97, 108, 108, 115, 32, 107, 49, 32, 107, 50]], h1, .tuple [.agg [I 0, I 0, I 0, I 0, I 0], .iface 295 (.ptr 32 0)], h2⟩
theorem m21_run : ranTo (evCall (cxX Tryd.prog bad [] [] q0) 1000 60 7 m21.args m21.h) m21.v m21.h' = true := by kernel_rfl
theorem m21_ok {σ : Nat → Int} {W0 : World} (hL : L0 W0) : MemoOk Tryd.prog 16383 σ W0 7 m21 := memo_ok fit (Known2.nil σ) ((q0_ok hL)) m21_run
noncomputable def m22 : Memo := ⟨[.str [106, 122, 32, 114, 49, 32, 49, 50, 51, 52, 53, 54, 55, 56, 57, 48]], h3, .tuple [.agg [I 0, I 0, I 0, I 0, I 0], .iface 295 (.ptr 33 0)], h4⟩
theorem m22_run : ranTo (evCall (cxX Tryd.prog bad [] [] q0) 1000 60 7 m22.args m22.h) m22.v m22.h' = true := by kernel_rfl
theorem m22_ok {σ : Nat → Int} {W0 : World} (hL : L0 W0) : MemoOk Tryd.prog 16383 σ W0 7 m22 := memo_ok fit (Known2.nil σ) ((q0_ok hL)) m22_run
theorem run42 : isTrue (evCall (cxX Tryd.prog bad [] [] ((8, numExtE [(0, 10, .lit 6), (0, 7, .lit 0)]) :: (7, frameFn [m21, m22, m3]) :: q1)) 1000 60 3 [.int .i64 (.var 0)] (sentH 295 20 errTab)) = true := by kernel_rfl
theorem case42 : CaseS [] [] [(0, 10, .lit 6), (0, 7, .lit 0)] [.int .i64 (.var 0)] := caseS (fun hL hk hT => FnsOk.cons (hT.ok fit) (FnsOk.cons (frame_fn_ok (all_cons (m21_ok hL) (all_cons (m22_ok hL) (all_cons (m3_ok hL) (all_nil))))) ((q1_ok hL)))) run42
theorem run43 : isTrue (evCall (cxX Tryd.prog bad [] [] ((8, numExtE [(0, 10, .lit 6), (0, 7, .lit 1)]) :: (7, frameFn [m21, m22, m5]) :: q1)) 1000 60 3 [.int .i64 (.var 0)] (sentH 295 20 errTab)) = true := by kernel_rfl
theorem case43 : CaseS [] [] [(0, 10, .lit 6), (0, 7, .lit 1)] [.int .i64 (.var 0)] := caseS (fun hL hk hT => FnsOk.cons (hT.ok fit) (FnsOk.cons (frame_fn_ok (all_cons (m21_ok hL) (all_cons (m22_ok hL) (all_cons (m5_ok hL) (all_nil))))) ((q1_ok hL)))) run43
theorem run44 : isTrue (evCall (cxX Tryd.prog bad [] [] ((8, numExtE [(0, 10, .lit 6), (0, 7, .lit 2)]) :: (7, frameFn [m21, m22, m6]) :: q1)) 1000 60 3 [.int .i64 (.var 0)] (sentH 295 20 errTab)) = true := by kernel_rfl
theorem case44 : CaseS [] [] [(0, 10, .lit 6), (0, 7, .lit 2)] [.int .i64 (.var 0)] := caseS (fun hL hk hT => FnsOk.cons (hT.ok fit) (FnsOk.cons (frame_fn_ok (all_cons (m21_ok hL) (all_cons (m22_ok hL) (all_cons (m6_ok hL) (all_nil))))) ((q1_ok hL)))) run44
theorem run45 : isTrue (evCall (cxX Tryd.prog bad [] [] ((8, numExtE [(0, 10, .lit 6), (0, 7, .lit 3)]) :: (7, frameFn [m21, m22, m7]) :: q1)) 1000 60 3 [.int .i64 (.var 0)] (sentH 295 20 errTab)) = true := by kernel_rfl
theorem case45 : CaseS [] [] [(0, 10, .lit 6), (0, 7, .lit 3)] [.int .i64 (.var 0)] := caseS (fun hL hk hT => FnsOk.cons (hT.ok fit) (FnsOk.cons (frame_fn_ok (all_cons (m21_ok hL) (all_cons (m22_ok hL) (all_cons (m7_ok hL) (all_nil))))) ((q1_ok hL)))) run45
theorem run46 : isTrue (evCall (cxX Tryd.prog bad [] [] ((8, numExtE [(0, 10, .lit 6), (0, 7, .lit 4)]) :: (7, frameFn [m21, m22, m8]) :: q1)) 1000 60 3 [.int .i64 (.var 0)] (sentH 295 20 errTab)) = true := by kernel_rfl
theorem case46 : CaseS [] [] [(0, 10, .lit 6), (0, 7, .lit 4)] [.int .i64 (.var 0)] := caseS (fun hL hk hT => FnsOk.cons (hT.ok fit) (FnsOk.cons (frame_fn_ok (all_cons (m21_ok hL) (all_cons (m22_ok hL) (all_cons (m8_ok hL) (all_nil))))) ((q1_ok hL)))) run46
theorem run47 : isTrue (evCall (cxX Tryd.prog bad [] [] ((8, numExtE [(0, 10, .lit 6), (0, 7, .lit 5)]) :: (7, frameFn [m21, m22, m9]) :: q1)) 1000 60 3 [.int .i64 (.var 0)] (sentH 295 20 errTab)) = true := by kernel_rfl
theorem case47 : CaseS [] [] [(0, 10, .lit 6), (0, 7, .lit 5)] [.int .i64 (.var 0)] := caseS (fun hL hk hT => FnsOk.cons (hT.ok fit) (FnsOk.cons (frame_fn_ok (all_cons (m21_ok hL) (all_cons (m22_ok hL) (all_cons (m9_ok hL) (all_nil))))) ((q1_ok hL)))) run47
theorem run48 : isTrue (evCall (cxX Tryd.prog bad [] [] ((8, numExtE [(0, 10, .lit 6), (0, 7, .lit 6)]) :: (7, frameFn [m21, m22, m10]) :: q1)) 1000 60 3 [.int .i64 (.var 0)] (sentH 295 20 errTab)) = true := by kernel_rfl
theorem case48 : CaseS [] [] [(0, 10, .lit 6), (0, 7, .lit 6)] [.int .i64 (.var 0)] := caseS (fun hL hk hT => FnsOk.cons (hT.ok fit) (FnsOk.cons (frame_fn_ok (all_cons (m21_ok hL) (all_cons (m22_ok hL) (all_cons (m10_ok hL) (all_nil))))) ((q1_ok hL)))) run48
noncomputable def m23 : Memo := ⟨[.str [121, 105, 101, 108, 100, 32, 49]], h1, .tuple [.agg [I 0, I 0, I 0, I 0, I 0], .iface 295 (.ptr 32 0)], h2⟩
theorem m23_run : ranTo (evCall (cxX Tryd.prog bad [] [] q0) 1000 60 7 m23.args m23.h) m23.v m23.h' = true := by kernel_rfl
theorem m23_ok {σ : Nat → Int} {W0 : World} (hL : L0 W0) : MemoOk Tryd.prog 16383 σ W0 7 m23 := memo_ok fit (Known2.nil σ) ((q0_ok hL)) m23_run
noncomputable def m24 : Memo := ⟨[.str [108, 111, 97, 100, 32, 114, 49, 32, 114, 50, 32, 45, 49]], h3, .tuple [.agg [I 0, I 0, I 0, I 0, I 0], .iface 295 (.ptr 33 0)], h4⟩
theorem m24_run : ranTo (evCall (cxX Tryd.prog bad [] [] q0) 1000 60 7 m24.args m24.h) m24.v m24.h' = true := by kernel_rfl
theorem m24_ok {σ : Nat → Int} {W0 : World} (hL : L0 W0) : MemoOk Tryd.prog 16383 σ W0 7 m24 := memo_ok fit (Known2.nil σ) ((q0_ok hL)) m24_run
theorem run49 : isTrue (evCall (cxX Tryd.prog bad [] [] ((8, numExtE [(0, 10, .lit 7), (0, 7, .lit 0)]) :: (7, frameFn [m23, m24, m3]) :: q1)) 1000 60 3 [.int .i64 (.var 0)] (sentH 295 20 errTab)) = true := by kernel_rfl
theorem case49 : CaseS [] [] [(0, 10, .lit 7), (0, 7, .lit 0)] [.int .i64 (.var 0)] := caseS (fun hL hk hT => FnsOk.cons (hT.ok fit) (FnsOk.cons (frame_fn_ok (all_cons (m23_ok hL) (all_cons (m24_ok hL) (all_cons (m3_ok hL) (all_nil))))) ((q1_ok hL)))) run49
theorem run50 : isTrue (evCall (cxX Tryd.prog bad [] [] ((8, numExtE [(0, 10, .lit 7), (0, 7, .lit 1)]) :: (7, frameFn [m23, m24, m5]) :: q1)) 1000 60 3 [.int .i64 (.var 0)] (sentH 295 20 errTab)) = true := by kernel_rfl
theorem case50 : CaseS [] [] [(0, 10, .lit 7), (0, 7, .lit 1)] [.int .i64 (.var 0)] := caseS (fun hL hk hT => FnsOk.cons (hT.ok fit) (FnsOk.cons (frame_fn_ok (all_cons (m23_ok hL) (all_cons (m24_ok hL) (all_cons (m5_ok hL) (all_nil))))) ((q1_ok hL)))) run50
theorem run51 : isTrue (evCall (cxX Tryd.prog bad [] [] ((8, numExtE [(0, 10, .lit 7), (0, 7, .lit 2)]) :: (7, frameFn [m23, m24, m6]) :: q1)) 1000 60 3 [.int .i64 (.var 0)] (sentH 295 20 errTab)) = true := by kernel_rfl
theorem case51 : CaseS [] [] [(0, 10, .lit 7), (0, 7, .lit 2)] [.int .i64 (.var 0)] := caseS (fun hL hk hT => FnsOk.cons (hT.ok fit) (FnsOk.cons (frame_fn_ok (all_cons (m23_ok hL) (all_cons (m24_ok hL) (all_cons (m6_ok hL) (all_nil))))) ((q1_ok hL)))) run51
theorem run52 : isTrue (evCall (cxX Tryd.prog bad [] [] ((8, numExtE [(0, 10, .lit 7), (0, 7, .lit 3)]) :: (7, frameFn [m23, m24, m7]) :: q1)) 1000 60 3 [.int .i64 (.var 0)] (sentH 295 20 errTab)) = true := by kernel_rfl
theorem case52 : CaseS [] [] [(0, 10, .lit 7), (0, 7, .lit 3)] [.int .i64 (.var 0)] := caseS (fun hL hk hT => FnsOk.cons (hT.ok fit) (FnsOk.cons (frame_fn_ok (all_cons (m23_ok hL) (all_cons (m24_ok hL) (all_cons (m7_ok hL) (all_nil))))) ((q1_ok hL)))) run52
theorem run53 : isTrue (evCall (cxX Tryd.prog bad [] [] ((8, numExtE [(0, 10, .lit 7), (0, 7, .lit 4)]) :: (7, frameFn [m23, m24, m8]) :: q1)) 1000 60 3 [.int .i64 (.var 0)] (sentH 295 20 errTab)) = true := by kernel_rfl
theorem case53 : CaseS [] [] [(0, 10, .lit 7), (0, 7, .lit 4)] [.int .i64 (.var 0)] := caseS (fun hL hk hT => FnsOk.cons (hT.ok fit) (FnsOk.cons (frame_fn_ok (all_cons (m23_ok hL) (all_cons (m24_ok hL) (all_cons (m8_ok hL) (all_nil))))) ((q1_ok hL)))) run53
theorem run54 : isTrue (evCall (cxX Tryd.prog bad [] [] ((8, numExtE [(0, 10, .lit 7), (0, 7, .lit 5)]) :: (7, frameFn [m23, m24, m9]) :: q1)) 1000 60 3 [.int .i64 (.var 0)] (sentH 295 20 errTab)) = true := by kernel_rfl
theorem case54 : CaseS [] [] [(0, 10, .lit 7), (0, 7, .lit 5)] [.int .i64 (.var 0)] := caseS (fun hL hk hT => FnsOk.cons (hT.ok fit) (FnsOk.cons (frame_fn_ok (all_cons (m23_ok hL) (all_cons (m24_ok hL) (all_cons (m9_ok hL) (all_nil))))) ((q1_ok hL)))) run54
theorem run55 : isTrue (evCall (cxX Tryd.prog bad [] [] ((8, numExtE [(0, 10, .lit 7), (0, 7, .lit 6)]) :: (7, frameFn [m23, m24, m10]) :: q1)) 1000 60 3 [.int .i64 (.var 0)] (sentH 295 20 errTab)) = true := by kernel_rfl
theorem case55 : CaseS [] [] [(0, 10, .lit 7), (0, 7, .lit 6)] [.int .i64 (.var 0)] := caseS (fun hL hk hT => FnsOk.cons (hT.ok fit) (FnsOk.cons (frame_fn_ok (all_cons (m23_ok hL) (all_cons (m24_ok hL) (all_cons (m10_ok hL) (all_nil))))) ((q1_ok hL)))) run55
noncomputable def m25 : Memo := ⟨[.str [119, 111, 114, 100, 32, 49, 32, 50]], h1, .tuple [.agg [I 0, I 0, I 0, I 0, I 0], .iface 295 (.ptr 32 0)], h2⟩
theorem m25_run : ranTo (evCall (cxX Tryd.prog bad [] [] q0) 1000 60 7 m25.args m25.h) m25.v m25.h' = true := by kernel_rfl
theorem m25_ok {σ : Nat → Int} {W0 : World} (hL : L0 W0) : MemoOk Tryd.prog 16383 σ W0 7 m25 := memo_ok fit (Known2.nil σ) ((q0_ok hL)) m25_run
noncomputable def m26 : Memo := ⟨[.str [108, 105, 32, 114, 32, 53]], h3, .tuple [.agg [I 0, I 0, I 0, I 0, I 0], .iface 295 (.ptr 33 0)], h4⟩
theorem m26_run : ranTo (evCall (cxX Tryd.prog bad [] [] q0) 1000 60 7 m26.args m26.h) m26.v m26.h' = true := by kernel_rfl
theorem m26_ok {σ : Nat → Int} {W0 : World} (hL : L0 W0) : MemoOk Tryd.prog 16383 σ W0 7 m26 := memo_ok fit (Known2.nil σ) ((q0_ok hL)) m26_run
theorem run56 : isTrue (evCall (cxX Tryd.prog bad [] [] ((8, numExtE [(0, 10, .lit 8), (0, 7, .lit 0)]) :: (7, frameFn [m25, m26, m3]) :: q1)) 1000 60 3 [.int .i64 (.var 0)] (sentH 295 20 errTab)) = true := by kernel_rfl
theorem case56 : CaseS [] [] [(0, 10, .lit 8), (0, 7, .lit 0)] [.int .i64 (.var 0)] := caseS (fun hL hk hT => FnsOk.cons (hT.ok fit) (FnsOk.cons (frame_fn_ok (all_cons (m25_ok hL) (all_cons (m26_ok hL) (all_cons (m3_ok hL) (all_nil))))) ((q1_ok hL)))) run56
theorem run57 : isTrue (evCall (cxX Tryd.prog bad [] [] ((8, numExtE [(0, 10, .lit 8), (0, 7, .lit 1)]) :: (7, frameFn [m25, m26, m5]) :: q1)) 1000 60 3 [.int .i64 (.var 0)] (sentH 295 20 errTab)) = true := by kernel_rfl
theorem case57 : CaseS [] [] [(0, 10, .lit 8), (0, 7, .lit 1)] [.int .i64 (.var 0)] := caseS (fun hL hk hT => FnsOk.cons (hT.ok fit) (FnsOk.cons (frame_fn_ok (all_cons (m25_ok hL) (all_cons (m26_ok hL) (all_cons (m5_ok hL) (all_nil))))) ((q1_ok hL)))) run57
theorem run58 : isTrue (evCall (cxX Tryd.prog bad [] [] ((8, numExtE [(0, 10, .lit 8), (0, 7, .lit 2)]) :: (7, frameFn [m25, m26, m6]) :: q1)) 1000 60 3 [.int .i64 (.var 0)] (sentH 295 20 errTab)) = true := by kernel_rfl
theorem case58 : CaseS [] [] [(0, 10, .lit 8), (0, 7, .lit 2)] [.int .i64 (.var 0)] := caseS (fun hL hk hT => FnsOk.cons (hT.ok fit) (FnsOk.cons (frame_fn_ok (all_cons (m25_ok hL) (all_cons (m26_ok hL) (all_cons (m6_ok hL) (all_nil))))) ((q1_ok hL)))) run58
theorem run59 : isTrue (evCall (cxX Tryd.prog bad [] [] ((8, numExtE [(0, 10, .lit 8), (0, 7, .lit 3)]) :: (7, frameFn [m25, m26, m7]) :: q1)) 1000 60 3 [.int .i64 (.var 0)] (sentH 295 20 errTab)) = true := by kernel_rfl
theorem case59 : CaseS [] [] [(0, 10, .lit 8), (0, 7, .lit 3)] [.int .i64 (.var 0)] := caseS (fun hL hk hT => FnsOk.cons (hT.ok fit) (FnsOk.cons (frame_fn_ok (all_cons (m25_ok hL) (all_cons (m26_ok hL) (all_cons (m7_ok hL) (all_nil))))) ((q1_ok hL)))) run59
theorem run60 : isTrue (evCall (cxX Tryd.prog bad [] [] ((8, numExtE [(0, 10, .lit 8), (0, 7, .lit 4)]) :: (7, frameFn [m25, m26, m8]) :: q1)) 1000 60 3 [.int .i64 (.var 0)] (sentH 295 20 errTab)) = true := by kernel_rfl
theorem case60 : CaseS [] [] [(0, 10, .lit 8), (0, 7, .lit 4)] [.int .i64 (.var 0)] := caseS (fun hL hk hT => FnsOk.cons (hT.ok fit) (FnsOk.cons (frame_fn_ok (all_cons (m25_ok hL) (all_cons (m26_ok hL) (all_cons (m8_ok hL) (all_nil))))) ((q1_ok hL)))) run60
theorem run61 : isTrue (evCall (cxX Tryd.prog bad [] [] ((8, numExtE [(0, 10, .lit 8), (0, 7, .lit 5)]) :: (7, frameFn [m25, m26, m9]) :: q1)) 1000 60 3 [.int .i64 (.var 0)] (sentH 295 20 errTab)) = true := by kernel_rfl
theorem case61 : CaseS [] [] [(0, 10, .lit 8), (0, 7, .lit 5)] [.int .i64 (.var 0)] := caseS (fun hL hk hT => FnsOk.cons (hT.ok fit) (FnsOk.cons (frame_fn_ok (all_cons (m25_ok hL) (all_cons (m26_ok hL) (all_cons (m9_ok hL) (all_nil))))) ((q1_ok hL)))) run61
theorem run62 : isTrue (evCall (cxX Tryd.prog bad [] [] ((8, numExtE [(0, 10, .lit 8), (0, 7, .lit 6)]) :: (7, frameFn [m25, m26, m10]) :: q1)) 1000 60 3 [.int .i64 (.var 0)] (sentH 295 20 errTab)) = true := by kernel_rfl
theorem case62 : CaseS [] [] [(0, 10, .lit 8), (0, 7, .lit 6)] [.int .i64 (.var 0)] := caseS (fun hL hk hT => FnsOk.cons (hT.ok fit) (FnsOk.cons (frame_fn_ok (all_cons (m25_ok hL) (all_cons (m26_ok hL) (all_cons (m10_ok hL) (all_nil))))) ((q1_ok hL)))) run62
noncomputable def m27 : Memo := ⟨[.str [97, 32, 98, 58]], h1, .tuple [.agg [I 0, I 0, I 0, I 0, I 0], .iface 295 (.ptr 32 0)], h2⟩
theorem m27_run : ranTo (evCall (cxX Tryd.prog bad [] [] q0) 1000 60 7 m27.args m27.h) m27.v m27.h' = true := by kernel_rfl
theorem m27_ok {σ : Nat → Int} {W0 : World} (hL : L0 W0) : MemoOk Tryd.prog 16383 σ W0 7 m27 := memo_ok fit (Known2.nil σ) ((q0_ok hL)) m27_run
noncomputable def m28 : Memo := ⟨[.str [107, 110, 117, 109, 32, 107, 49, 32, 114, 50, 120]], h3, .tuple [.agg [I 0, I 0, I 0, I 0, I 0], .iface 295 (.ptr 33 0)], h4⟩
theorem m28_run : ranTo (evCall (cxX Tryd.prog bad [] [] q0) 1000 60 7 m28.args m28.h) m28.v m28.h' = true := by kernel_rfl
theorem m28_ok {σ : Nat → Int} {W0 : World} (hL : L0 W0) : MemoOk Tryd.prog 16383 σ W0 7 m28 := memo_ok fit (Known2.nil σ) ((q0_ok hL)) m28_run
theorem run63 : isTrue (evCall (cxX Tryd.prog bad [] [] ((8, numExtE [(0, 10, .lit 9), (0, 7, .lit 0)]) :: (7, frameFn [m27, m28, m3]) :: q1)) 1000 60 3 [.int .i64 (.var 0)] (sentH 295 20 errTab)) = true := by kernel_rfl
theorem case63 : CaseS [] [] [(0, 10, .lit 9), (0, 7, .lit 0)] [.int .i64 (.var 0)] := caseS (fun hL hk hT => FnsOk.cons (hT.ok fit) (FnsOk.cons (frame_fn_ok (all_cons (m27_ok hL) (all_cons (m28_ok hL) (all_cons (m3_ok hL) (all_nil))))) ((q1_ok hL)))) run63
theorem run64 : isTrue (evCall (cxX Tryd.prog bad [] [] ((8, numExtE [(0, 10, .lit 9), (0, 7, .lit 1)]) :: (7, frameFn [m27, m28, m5]) :: q1)) 1000 60 3 [.int .i64 (.var 0)] (sentH 295 20 errTab)) = true := by kernel_rfl
theorem case64 : CaseS [] [] [(0, 10, .lit 9), (0, 7, .lit 1)] [.int .i64 (.var 0)] := caseS (fun hL hk hT => FnsOk.cons (hT.ok fit) (FnsOk.cons (frame_fn_ok (all_cons (m27_ok hL) (all_cons (m28_ok hL) (all_cons (m5_ok hL) (all_nil))))) ((q1_ok hL)))) run64
theorem run65 : isTrue (evCall (cxX Tryd.prog bad [] [] ((8, numExtE [(0, 10, .lit 9), (0, 7, .lit 2)]) :: (7, frameFn [m27, m28, m6]) :: q1)) 1000 60 3 [.int .i64 (.var 0)] (sentH 295 20 errTab)) = true := by kernel_rfl
theorem case65 : CaseS [] [] [(0, 10, .lit 9), (0, 7, .lit 2)] [.int .i64 (.var 0)] := caseS (fun hL hk hT => FnsOk.cons (hT.ok fit) (FnsOk.cons (frame_fn_ok (all_cons (m27_ok hL) (all_cons (m28_ok hL) (all_cons (m6_ok hL) (all_nil))))) ((q1_ok hL)))) run65
theorem run66 : isTrue (evCall (cxX Tryd.prog bad [] [] ((8, numExtE [(0, 10, .lit 9), (0, 7, .lit 3)]) :: (7, frameFn [m27, m28, m7]) :: q1)) 1000 60 3 [.int .i64 (.var 0)] (sentH 295 20 errTab)) = true := by kernel_rfl
theorem case66 : CaseS [] [] [(0, 10, .lit 9), (0, 7, .lit 3)] [.int .i64 (.var 0)] := caseS (fun hL hk hT => FnsOk.cons (hT.ok fit) (FnsOk.cons (frame_fn_ok (all_cons (m27_ok hL) (all_cons (m28_ok hL) (all_cons (m7_ok hL) (all_nil))))) ((q1_ok hL)))) run66
theorem run67 : isTrue (evCall (cxX Tryd.prog bad [] [] ((8, numExtE [(0, 10, .lit 9), (0, 7, .lit 4)]) :: (7, frameFn [m27, m28, m8]) :: q1)) 1000 60 3 [.int .i64 (.var 0)] (sentH 295 20 errTab)) = true := by kernel_rfl
theorem case67 : CaseS [] [] [(0, 10, .lit 9), (0, 7, .lit 4)] [.int .i64 (.var 0)] := caseS (fun hL hk hT => FnsOk.cons (hT.ok fit) (FnsOk.cons (frame_fn_ok (all_cons (m27_ok hL) (all_cons (m28_ok hL) (all_cons (m8_ok hL) (all_nil))))) ((q1_ok hL)))) run67
theorem run68 : isTrue (evCall (cxX Tryd.prog bad [] [] ((8, numExtE [(0, 10, .lit 9), (0, 7, .lit 5)]) :: (7, frameFn [m27, m28, m9]) :: q1)) 1000 60 3 [.int .i64 (.var 0)] (sentH 295 20 errTab)) = true := by kernel_rfl
theorem case68 : CaseS [] [] [(0, 10, .lit 9), (0, 7, .lit 5)] [.int .i64 (.var 0)] := caseS (fun hL hk hT => FnsOk.cons (hT.ok fit) (FnsOk.cons (frame_fn_ok (all_cons (m27_ok hL) (all_cons (m28_ok hL) (all_cons (m9_ok hL) (all_nil))))) ((q1_ok hL)))) run68
theorem run69 : isTrue (evCall (cxX Tryd.prog bad [] [] ((8, numExtE [(0, 10, .lit 9), (0, 7, .lit 6)]) :: (7, frameFn [m27, m28, m10]) :: q1)) 1000 60 3 [.int .i64 (.var 0)] (sentH 295 20 errTab)) = true := by kernel_rfl
theorem case69 : CaseS [] [] [(0, 10, .lit 9), (0, 7, .lit 6)] [.int .i64 (.var 0)] := caseS (fun hL hk hT => FnsOk.cons (hT.ok fit) (FnsOk.cons (frame_fn_ok (all_cons (m27_ok hL) (all_cons (m28_ok hL) (all_cons (m10_ok hL) (all_nil))))) ((q1_ok hL)))) run69
end Go.Proofs.YtnedpimammoekaaDoor.asmWrong
