/- bootRoom: calls that are run once, and the runs of the cases (part 2). -/
import Derived.Test.YtkfhelmjaoepiaaDoorBrK1
set_option linter.unusedVariables false
set_option maxRecDepth 10000000
namespace Go.Proofs.YtkfhelmjaoepiaaDoor.bootRoom
open Tk
open Go.RowKit
theorem run186 : isTrue (evCall (cxX Tryd.prog bad [] [] ((6, numExtE [(0, 10, .lit 8), (1, 60, .lit 10)]) :: (21, frameFn [m47, m48, m51]) :: q61)) 1000 60 3 [.int .i64 (.var 0), .int .i64 (.var 1), .int .i64 (.var 2)] (sentH 240 18 errTab)) = true := by kernel_rfl
theorem case186 {σ : Nat → Int} {W : World} (hL : L0 W) (hk : Known2 σ [] []) (hT : TabOk Tryd.prog bad 6 σ [(0, 10, .lit 8), (1, 60, .lit 10)]) {xs : Array Value} (hv : ∀ ρ, VRs σ ρ [.int .i64 (.var 0), .int .i64 (.var 1), .int .i64 (.var 2)] xs.toList) : Calls Tryd.prog 3 xs W fun e w' => e = .returned (.bool true) ∧ Below W.heap.size W w' := by
  obtain ⟨ads, h1, h2, h3⟩ := errs_sents hL
  exact law_case_x fit h1 h2 h3 errs_all errs_lt (by kernel_rfl) hk (FnsOk.cons (hT.ok fit) (FnsOk.cons (frame_fn_ok (all_cons (m47_ok hL) (all_cons (m48_ok hL) (all_cons (m51_ok hL) (all_nil))))) ((q61_ok hL)))) hv ⟨_, Tryd.func3, rfl⟩ run186
theorem run187 : isTrue (evCall (cxX Tryd.prog bad [] [] ((6, numExtE [(0, 10, .lit 8), (1, 60, .lit 11)]) :: (21, frameFn [m52, m53, m54]) :: q61)) 1000 60 3 [.int .i64 (.var 0), .int .i64 (.var 1), .int .i64 (.var 2)] (sentH 240 18 errTab)) = true := by kernel_rfl
theorem case187 {σ : Nat → Int} {W : World} (hL : L0 W) (hk : Known2 σ [] []) (hT : TabOk Tryd.prog bad 6 σ [(0, 10, .lit 8), (1, 60, .lit 11)]) {xs : Array Value} (hv : ∀ ρ, VRs σ ρ [.int .i64 (.var 0), .int .i64 (.var 1), .int .i64 (.var 2)] xs.toList) : Calls Tryd.prog 3 xs W fun e w' => e = .returned (.bool true) ∧ Below W.heap.size W w' := by
  obtain ⟨ads, h1, h2, h3⟩ := errs_sents hL
  exact law_case_x fit h1 h2 h3 errs_all errs_lt (by kernel_rfl) hk (FnsOk.cons (hT.ok fit) (FnsOk.cons (frame_fn_ok (all_cons (m52_ok hL) (all_cons (m53_ok hL) (all_cons (m54_ok hL) (all_nil))))) ((q61_ok hL)))) hv ⟨_, Tryd.func3, rfl⟩ run187
theorem run188 : isTrue (evCall (cxX Tryd.prog bad [] [] ((6, numExtE [(0, 10, .lit 8), (1, 60, .lit 12)]) :: (21, frameFn l9) :: q61)) 1000 60 3 [.int .i64 (.var 0), .int .i64 (.var 1), .int .i64 (.var 2)] (sentH 240 18 errTab)) = true := by kernel_rfl
theorem case188 {σ : Nat → Int} {W : World} (hL : L0 W) (hk : Known2 σ [] []) (hT : TabOk Tryd.prog bad 6 σ [(0, 10, .lit 8), (1, 60, .lit 12)]) {xs : Array Value} (hv : ∀ ρ, VRs σ ρ [.int .i64 (.var 0), .int .i64 (.var 1), .int .i64 (.var 2)] xs.toList) : Calls Tryd.prog 3 xs W fun e w' => e = .returned (.bool true) ∧ Below W.heap.size W w' := by
  obtain ⟨ads, h1, h2, h3⟩ := errs_sents hL
  exact law_case_x fit h1 h2 h3 errs_all errs_lt (by kernel_rfl) hk (FnsOk.cons (hT.ok fit) (FnsOk.cons (frame_fn_ok (l9_ok hL)) ((q61_ok hL)))) hv ⟨_, Tryd.func3, rfl⟩ run188
theorem run189 : isTrue (evCall (cxX Tryd.prog bad [] [] ((6, numExtE [(0, 10, .lit 8), (1, 60, .lit 13)]) :: (21, frameFn l10) :: q61)) 1000 60 3 [.int .i64 (.var 0), .int .i64 (.var 1), .int .i64 (.var 2)] (sentH 240 18 errTab)) = true := by kernel_rfl
theorem case189 {σ : Nat → Int} {W : World} (hL : L0 W) (hk : Known2 σ [] []) (hT : TabOk Tryd.prog bad 6 σ [(0, 10, .lit 8), (1, 60, .lit 13)]) {xs : Array Value} (hv : ∀ ρ, VRs σ ρ [.int .i64 (.var 0), .int .i64 (.var 1), .int .i64 (.var 2)] xs.toList) : Calls Tryd.prog 3 xs W fun e w' => e = .returned (.bool true) ∧ Below W.heap.size W w' := by
  obtain ⟨ads, h1, h2, h3⟩ := errs_sents hL
  exact law_case_x fit h1 h2 h3 errs_all errs_lt (by kernel_rfl) hk (FnsOk.cons (hT.ok fit) (FnsOk.cons (frame_fn_ok (l10_ok hL)) ((q61_ok hL)))) hv ⟨_, Tryd.func3, rfl⟩ run189
theorem run190 : isTrue (evCall (cxX Tryd.prog bad [] [] ((6, numExtE [(0, 10, .lit 8), (1, 60, .lit 14)]) :: (21, frameFn l11) :: q61)) 1000 60 3 [.int .i64 (.var 0), .int .i64 (.var 1), .int .i64 (.var 2)] (sentH 240 18 errTab)) = true := by kernel_rfl
theorem case190 {σ : Nat → Int} {W : World} (hL : L0 W) (hk : Known2 σ [] []) (hT : TabOk Tryd.prog bad 6 σ [(0, 10, .lit 8), (1, 60, .lit 14)]) {xs : Array Value} (hv : ∀ ρ, VRs σ ρ [.int .i64 (.var 0), .int .i64 (.var 1), .int .i64 (.var 2)] xs.toList) : Calls Tryd.prog 3 xs W fun e w' => e = .returned (.bool true) ∧ Below W.heap.size W w' := by
  obtain ⟨ads, h1, h2, h3⟩ := errs_sents hL
  exact law_case_x fit h1 h2 h3 errs_all errs_lt (by kernel_rfl) hk (FnsOk.cons (hT.ok fit) (FnsOk.cons (frame_fn_ok (l11_ok hL)) ((q61_ok hL)))) hv ⟨_, Tryd.func3, rfl⟩ run190
theorem run191 : isTrue (evCall (cxX Tryd.prog bad [] [] ((6, numExtE [(0, 10, .lit 8), (1, 60, .lit 15)]) :: (21, frameFn l12) :: q61)) 1000 60 3 [.int .i64 (.var 0), .int .i64 (.var 1), .int .i64 (.var 2)] (sentH 240 18 errTab)) = true := by kernel_rfl
theorem case191 {σ : Nat → Int} {W : World} (hL : L0 W) (hk : Known2 σ [] []) (hT : TabOk Tryd.prog bad 6 σ [(0, 10, .lit 8), (1, 60, .lit 15)]) {xs : Array Value} (hv : ∀ ρ, VRs σ ρ [.int .i64 (.var 0), .int .i64 (.var 1), .int .i64 (.var 2)] xs.toList) : Calls Tryd.prog 3 xs W fun e w' => e = .returned (.bool true) ∧ Below W.heap.size W w' := by
  obtain ⟨ads, h1, h2, h3⟩ := errs_sents hL
  exact law_case_x fit h1 h2 h3 errs_all errs_lt (by kernel_rfl) hk (FnsOk.cons (hT.ok fit) (FnsOk.cons (frame_fn_ok (l12_ok hL)) ((q61_ok hL)))) hv ⟨_, Tryd.func3, rfl⟩ run191
theorem run192 : isTrue (evCall (cxX Tryd.prog bad [] [] ((6, numExtE [(0, 10, .lit 8), (1, 60, .lit 16)]) :: (21, frameFn l16) :: q61)) 1000 60 3 [.int .i64 (.var 0), .int .i64 (.var 1), .int .i64 (.var 2)] (sentH 240 18 errTab)) = true := by kernel_rfl
theorem case192 {σ : Nat → Int} {W : World} (hL : L0 W) (hk : Known2 σ [] []) (hT : TabOk Tryd.prog bad 6 σ [(0, 10, .lit 8), (1, 60, .lit 16)]) {xs : Array Value} (hv : ∀ ρ, VRs σ ρ [.int .i64 (.var 0), .int .i64 (.var 1), .int .i64 (.var 2)] xs.toList) : Calls Tryd.prog 3 xs W fun e w' => e = .returned (.bool true) ∧ Below W.heap.size W w' := by
  obtain ⟨ads, h1, h2, h3⟩ := errs_sents hL
  exact law_case_x fit h1 h2 h3 errs_all errs_lt (by kernel_rfl) hk (FnsOk.cons (hT.ok fit) (FnsOk.cons (frame_fn_ok (l16_ok hL)) ((q61_ok hL)))) hv ⟨_, Tryd.func3, rfl⟩ run192
theorem run193 : isTrue (evCall (cxX Tryd.prog bad [] [] ((6, numExtE [(0, 10, .lit 8), (1, 60, .lit 17)]) :: (21, frameFn l17) :: q61)) 1000 60 3 [.int .i64 (.var 0), .int .i64 (.var 1), .int .i64 (.var 2)] (sentH 240 18 errTab)) = true := by kernel_rfl
theorem case193 {σ : Nat → Int} {W : World} (hL : L0 W) (hk : Known2 σ [] []) (hT : TabOk Tryd.prog bad 6 σ [(0, 10, .lit 8), (1, 60, .lit 17)]) {xs : Array Value} (hv : ∀ ρ, VRs σ ρ [.int .i64 (.var 0), .int .i64 (.var 1), .int .i64 (.var 2)] xs.toList) : Calls Tryd.prog 3 xs W fun e w' => e = .returned (.bool true) ∧ Below W.heap.size W w' := by
  obtain ⟨ads, h1, h2, h3⟩ := errs_sents hL
  exact law_case_x fit h1 h2 h3 errs_all errs_lt (by kernel_rfl) hk (FnsOk.cons (hT.ok fit) (FnsOk.cons (frame_fn_ok (l17_ok hL)) ((q61_ok hL)))) hv ⟨_, Tryd.func3, rfl⟩ run193
theorem run194 : isTrue (evCall (cxX Tryd.prog bad [] [] ((6, numExtE [(0, 10, .lit 8), (1, 60, .lit 18)]) :: (21, frameFn l18) :: q61)) 1000 60 3 [.int .i64 (.var 0), .int .i64 (.var 1), .int .i64 (.var 2)] (sentH 240 18 errTab)) = true := by kernel_rfl
theorem case194 {σ : Nat → Int} {W : World} (hL : L0 W) (hk : Known2 σ [] []) (hT : TabOk Tryd.prog bad 6 σ [(0, 10, .lit 8), (1, 60, .lit 18)]) {xs : Array Value} (hv : ∀ ρ, VRs σ ρ [.int .i64 (.var 0), .int .i64 (.var 1), .int .i64 (.var 2)] xs.toList) : Calls Tryd.prog 3 xs W fun e w' => e = .returned (.bool true) ∧ Below W.heap.size W w' := by
  obtain ⟨ads, h1, h2, h3⟩ := errs_sents hL
  exact law_case_x fit h1 h2 h3 errs_all errs_lt (by kernel_rfl) hk (FnsOk.cons (hT.ok fit) (FnsOk.cons (frame_fn_ok (l18_ok hL)) ((q61_ok hL)))) hv ⟨_, Tryd.func3, rfl⟩ run194
theorem run195 : isTrue (evCall (cxX Tryd.prog bad [] [] ((6, numExtE [(0, 10, .lit 8), (1, 60, .lit 19)]) :: (21, frameFn l19) :: q61)) 1000 60 3 [.int .i64 (.var 0), .int .i64 (.var 1), .int .i64 (.var 2)] (sentH 240 18 errTab)) = true := by kernel_rfl
theorem case195 {σ : Nat → Int} {W : World} (hL : L0 W) (hk : Known2 σ [] []) (hT : TabOk Tryd.prog bad 6 σ [(0, 10, .lit 8), (1, 60, .lit 19)]) {xs : Array Value} (hv : ∀ ρ, VRs σ ρ [.int .i64 (.var 0), .int .i64 (.var 1), .int .i64 (.var 2)] xs.toList) : Calls Tryd.prog 3 xs W fun e w' => e = .returned (.bool true) ∧ Below W.heap.size W w' := by
  obtain ⟨ads, h1, h2, h3⟩ := errs_sents hL
  exact law_case_x fit h1 h2 h3 errs_all errs_lt (by kernel_rfl) hk (FnsOk.cons (hT.ok fit) (FnsOk.cons (frame_fn_ok (l19_ok hL)) ((q61_ok hL)))) hv ⟨_, Tryd.func3, rfl⟩ run195
theorem run196 : isTrue (evCall (cxX Tryd.prog bad [] [] ((6, numExtE [(0, 10, .lit 8), (1, 60, .lit 20)]) :: (21, frameFn l23) :: q61)) 1000 60 3 [.int .i64 (.var 0), .int .i64 (.var 1), .int .i64 (.var 2)] (sentH 240 18 errTab)) = true := by kernel_rfl
theorem case196 {σ : Nat → Int} {W : World} (hL : L0 W) (hk : Known2 σ [] []) (hT : TabOk Tryd.prog bad 6 σ [(0, 10, .lit 8), (1, 60, .lit 20)]) {xs : Array Value} (hv : ∀ ρ, VRs σ ρ [.int .i64 (.var 0), .int .i64 (.var 1), .int .i64 (.var 2)] xs.toList) : Calls Tryd.prog 3 xs W fun e w' => e = .returned (.bool true) ∧ Below W.heap.size W w' := by
  obtain ⟨ads, h1, h2, h3⟩ := errs_sents hL
  exact law_case_x fit h1 h2 h3 errs_all errs_lt (by kernel_rfl) hk (FnsOk.cons (hT.ok fit) (FnsOk.cons (frame_fn_ok (l23_ok hL)) ((q61_ok hL)))) hv ⟨_, Tryd.func3, rfl⟩ run196
theorem run197 : isTrue (evCall (cxX Tryd.prog bad [] [] ((6, numExtE [(0, 10, .lit 8), (1, 60, .lit 21)]) :: (21, frameFn l24) :: q61)) 1000 60 3 [.int .i64 (.var 0), .int .i64 (.var 1), .int .i64 (.var 2)] (sentH 240 18 errTab)) = true := by kernel_rfl
theorem case197 {σ : Nat → Int} {W : World} (hL : L0 W) (hk : Known2 σ [] []) (hT : TabOk Tryd.prog bad 6 σ [(0, 10, .lit 8), (1, 60, .lit 21)]) {xs : Array Value} (hv : ∀ ρ, VRs σ ρ [.int .i64 (.var 0), .int .i64 (.var 1), .int .i64 (.var 2)] xs.toList) : Calls Tryd.prog 3 xs W fun e w' => e = .returned (.bool true) ∧ Below W.heap.size W w' := by
  obtain ⟨ads, h1, h2, h3⟩ := errs_sents hL
  exact law_case_x fit h1 h2 h3 errs_all errs_lt (by kernel_rfl) hk (FnsOk.cons (hT.ok fit) (FnsOk.cons (frame_fn_ok (l24_ok hL)) ((q61_ok hL)))) hv ⟨_, Tryd.func3, rfl⟩ run197
theorem run198 : isTrue (evCall (cxX Tryd.prog bad [] [] ((6, numExtE [(0, 10, .lit 8), (1, 60, .lit 22)]) :: (21, frameFn l25) :: q61)) 1000 60 3 [.int .i64 (.var 0), .int .i64 (.var 1), .int .i64 (.var 2)] (sentH 240 18 errTab)) = true := by kernel_rfl
theorem case198 {σ : Nat → Int} {W : World} (hL : L0 W) (hk : Known2 σ [] []) (hT : TabOk Tryd.prog bad 6 σ [(0, 10, .lit 8), (1, 60, .lit 22)]) {xs : Array Value} (hv : ∀ ρ, VRs σ ρ [.int .i64 (.var 0), .int .i64 (.var 1), .int .i64 (.var 2)] xs.toList) : Calls Tryd.prog 3 xs W fun e w' => e = .returned (.bool true) ∧ Below W.heap.size W w' := by
  obtain ⟨ads, h1, h2, h3⟩ := errs_sents hL
  exact law_case_x fit h1 h2 h3 errs_all errs_lt (by kernel_rfl) hk (FnsOk.cons (hT.ok fit) (FnsOk.cons (frame_fn_ok (l25_ok hL)) ((q61_ok hL)))) hv ⟨_, Tryd.func3, rfl⟩ run198
theorem run199 : isTrue (evCall (cxX Tryd.prog bad [] [] ((6, numExtE [(0, 10, .lit 8), (1, 60, .lit 23)]) :: (21, frameFn l26) :: q61)) 1000 60 3 [.int .i64 (.var 0), .int .i64 (.var 1), .int .i64 (.var 2)] (sentH 240 18 errTab)) = true := by kernel_rfl
theorem case199 {σ : Nat → Int} {W : World} (hL : L0 W) (hk : Known2 σ [] []) (hT : TabOk Tryd.prog bad 6 σ [(0, 10, .lit 8), (1, 60, .lit 23)]) {xs : Array Value} (hv : ∀ ρ, VRs σ ρ [.int .i64 (.var 0), .int .i64 (.var 1), .int .i64 (.var 2)] xs.toList) : Calls Tryd.prog 3 xs W fun e w' => e = .returned (.bool true) ∧ Below W.heap.size W w' := by
  obtain ⟨ads, h1, h2, h3⟩ := errs_sents hL
  exact law_case_x fit h1 h2 h3 errs_all errs_lt (by kernel_rfl) hk (FnsOk.cons (hT.ok fit) (FnsOk.cons (frame_fn_ok (l26_ok hL)) ((q61_ok hL)))) hv ⟨_, Tryd.func3, rfl⟩ run199
theorem run200 : isTrue (evCall (cxX Tryd.prog bad [] [] ((6, numExtE [(0, 10, .lit 8), (1, 60, .lit 24)]) :: (21, frameFn l30) :: q61)) 1000 60 3 [.int .i64 (.var 0), .int .i64 (.var 1), .int .i64 (.var 2)] (sentH 240 18 errTab)) = true := by kernel_rfl
theorem case200 {σ : Nat → Int} {W : World} (hL : L0 W) (hk : Known2 σ [] []) (hT : TabOk Tryd.prog bad 6 σ [(0, 10, .lit 8), (1, 60, .lit 24)]) {xs : Array Value} (hv : ∀ ρ, VRs σ ρ [.int .i64 (.var 0), .int .i64 (.var 1), .int .i64 (.var 2)] xs.toList) : Calls Tryd.prog 3 xs W fun e w' => e = .returned (.bool true) ∧ Below W.heap.size W w' := by
  obtain ⟨ads, h1, h2, h3⟩ := errs_sents hL
  exact law_case_x fit h1 h2 h3 errs_all errs_lt (by kernel_rfl) hk (FnsOk.cons (hT.ok fit) (FnsOk.cons (frame_fn_ok (l30_ok hL)) ((q61_ok hL)))) hv ⟨_, Tryd.func3, rfl⟩ run200
theorem run201 : isTrue (evCall (cxX Tryd.prog bad [] [] ((6, numExtE [(0, 10, .lit 8), (1, 60, .lit 25)]) :: (21, frameFn l31) :: q61)) 1000 60 3 [.int .i64 (.var 0), .int .i64 (.var 1), .int .i64 (.var 2)] (sentH 240 18 errTab)) = true := by kernel_rfl
theorem case201 {σ : Nat → Int} {W : World} (hL : L0 W) (hk : Known2 σ [] []) (hT : TabOk Tryd.prog bad 6 σ [(0, 10, .lit 8), (1, 60, .lit 25)]) {xs : Array Value} (hv : ∀ ρ, VRs σ ρ [.int .i64 (.var 0), .int .i64 (.var 1), .int .i64 (.var 2)] xs.toList) : Calls Tryd.prog 3 xs W fun e w' => e = .returned (.bool true) ∧ Below W.heap.size W w' := by
  obtain ⟨ads, h1, h2, h3⟩ := errs_sents hL
  exact law_case_x fit h1 h2 h3 errs_all errs_lt (by kernel_rfl) hk (FnsOk.cons (hT.ok fit) (FnsOk.cons (frame_fn_ok (l31_ok hL)) ((q61_ok hL)))) hv ⟨_, Tryd.func3, rfl⟩ run201
theorem run202 : isTrue (evCall (cxX Tryd.prog bad [] [] ((6, numExtE [(0, 10, .lit 8), (1, 60, .lit 26)]) :: (21, frameFn l32) :: q61)) 1000 60 3 [.int .i64 (.var 0), .int .i64 (.var 1), .int .i64 (.var 2)] (sentH 240 18 errTab)) = true := by kernel_rfl
theorem case202 {σ : Nat → Int} {W : World} (hL : L0 W) (hk : Known2 σ [] []) (hT : TabOk Tryd.prog bad 6 σ [(0, 10, .lit 8), (1, 60, .lit 26)]) {xs : Array Value} (hv : ∀ ρ, VRs σ ρ [.int .i64 (.var 0), .int .i64 (.var 1), .int .i64 (.var 2)] xs.toList) : Calls Tryd.prog 3 xs W fun e w' => e = .returned (.bool true) ∧ Below W.heap.size W w' := by
  obtain ⟨ads, h1, h2, h3⟩ := errs_sents hL
  exact law_case_x fit h1 h2 h3 errs_all errs_lt (by kernel_rfl) hk (FnsOk.cons (hT.ok fit) (FnsOk.cons (frame_fn_ok (l32_ok hL)) ((q61_ok hL)))) hv ⟨_, Tryd.func3, rfl⟩ run202
theorem run203 : isTrue (evCall (cxX Tryd.prog bad [] [] ((6, numExtE [(0, 10, .lit 8), (1, 60, .lit 27)]) :: (21, frameFn l33) :: q61)) 1000 60 3 [.int .i64 (.var 0), .int .i64 (.var 1), .int .i64 (.var 2)] (sentH 240 18 errTab)) = true := by kernel_rfl
theorem case203 {σ : Nat → Int} {W : World} (hL : L0 W) (hk : Known2 σ [] []) (hT : TabOk Tryd.prog bad 6 σ [(0, 10, .lit 8), (1, 60, .lit 27)]) {xs : Array Value} (hv : ∀ ρ, VRs σ ρ [.int .i64 (.var 0), .int .i64 (.var 1), .int .i64 (.var 2)] xs.toList) : Calls Tryd.prog 3 xs W fun e w' => e = .returned (.bool true) ∧ Below W.heap.size W w' := by
  obtain ⟨ads, h1, h2, h3⟩ := errs_sents hL
  exact law_case_x fit h1 h2 h3 errs_all errs_lt (by kernel_rfl) hk (FnsOk.cons (hT.ok fit) (FnsOk.cons (frame_fn_ok (l33_ok hL)) ((q61_ok hL)))) hv ⟨_, Tryd.func3, rfl⟩ run203
theorem run204 : isTrue (evCall (cxX Tryd.prog bad [] [] ((6, numExtE [(0, 10, .lit 8), (1, 60, .lit 28)]) :: (21, frameFn l37) :: q61)) 1000 60 3 [.int .i64 (.var 0), .int .i64 (.var 1), .int .i64 (.var 2)] (sentH 240 18 errTab)) = true := by kernel_rfl
theorem case204 {σ : Nat → Int} {W : World} (hL : L0 W) (hk : Known2 σ [] []) (hT : TabOk Tryd.prog bad 6 σ [(0, 10, .lit 8), (1, 60, .lit 28)]) {xs : Array Value} (hv : ∀ ρ, VRs σ ρ [.int .i64 (.var 0), .int .i64 (.var 1), .int .i64 (.var 2)] xs.toList) : Calls Tryd.prog 3 xs W fun e w' => e = .returned (.bool true) ∧ Below W.heap.size W w' := by
  obtain ⟨ads, h1, h2, h3⟩ := errs_sents hL
  exact law_case_x fit h1 h2 h3 errs_all errs_lt (by kernel_rfl) hk (FnsOk.cons (hT.ok fit) (FnsOk.cons (frame_fn_ok (l37_ok hL)) ((q61_ok hL)))) hv ⟨_, Tryd.func3, rfl⟩ run204
theorem run205 : isTrue (evCall (cxX Tryd.prog bad [] [] ((6, numExtE [(0, 10, .lit 8), (1, 60, .lit 29)]) :: (21, frameFn l38) :: q61)) 1000 60 3 [.int .i64 (.var 0), .int .i64 (.var 1), .int .i64 (.var 2)] (sentH 240 18 errTab)) = true := by kernel_rfl
theorem case205 {σ : Nat → Int} {W : World} (hL : L0 W) (hk : Known2 σ [] []) (hT : TabOk Tryd.prog bad 6 σ [(0, 10, .lit 8), (1, 60, .lit 29)]) {xs : Array Value} (hv : ∀ ρ, VRs σ ρ [.int .i64 (.var 0), .int .i64 (.var 1), .int .i64 (.var 2)] xs.toList) : Calls Tryd.prog 3 xs W fun e w' => e = .returned (.bool true) ∧ Below W.heap.size W w' := by
  obtain ⟨ads, h1, h2, h3⟩ := errs_sents hL
  exact law_case_x fit h1 h2 h3 errs_all errs_lt (by kernel_rfl) hk (FnsOk.cons (hT.ok fit) (FnsOk.cons (frame_fn_ok (l38_ok hL)) ((q61_ok hL)))) hv ⟨_, Tryd.func3, rfl⟩ run205
theorem run206 : isTrue (evCall (cxX Tryd.prog bad [] [] ((6, numExtE [(0, 10, .lit 8), (1, 60, .lit 30)]) :: (21, frameFn l39) :: q61)) 1000 60 3 [.int .i64 (.var 0), .int .i64 (.var 1), .int .i64 (.var 2)] (sentH 240 18 errTab)) = true := by kernel_rfl
theorem case206 {σ : Nat → Int} {W : World} (hL : L0 W) (hk : Known2 σ [] []) (hT : TabOk Tryd.prog bad 6 σ [(0, 10, .lit 8), (1, 60, .lit 30)]) {xs : Array Value} (hv : ∀ ρ, VRs σ ρ [.int .i64 (.var 0), .int .i64 (.var 1), .int .i64 (.var 2)] xs.toList) : Calls Tryd.prog 3 xs W fun e w' => e = .returned (.bool true) ∧ Below W.heap.size W w' := by
  obtain ⟨ads, h1, h2, h3⟩ := errs_sents hL
  exact law_case_x fit h1 h2 h3 errs_all errs_lt (by kernel_rfl) hk (FnsOk.cons (hT.ok fit) (FnsOk.cons (frame_fn_ok (l39_ok hL)) ((q61_ok hL)))) hv ⟨_, Tryd.func3, rfl⟩ run206
theorem run207 : isTrue (evCall (cxX Tryd.prog bad [] [] ((6, numExtE [(0, 10, .lit 8), (1, 60, .lit 31)]) :: (21, frameFn l40) :: q61)) 1000 60 3 [.int .i64 (.var 0), .int .i64 (.var 1), .int .i64 (.var 2)] (sentH 240 18 errTab)) = true := by kernel_rfl
theorem case207 {σ : Nat → Int} {W : World} (hL : L0 W) (hk : Known2 σ [] []) (hT : TabOk Tryd.prog bad 6 σ [(0, 10, .lit 8), (1, 60, .lit 31)]) {xs : Array Value} (hv : ∀ ρ, VRs σ ρ [.int .i64 (.var 0), .int .i64 (.var 1), .int .i64 (.var 2)] xs.toList) : Calls Tryd.prog 3 xs W fun e w' => e = .returned (.bool true) ∧ Below W.heap.size W w' := by
  obtain ⟨ads, h1, h2, h3⟩ := errs_sents hL
  exact law_case_x fit h1 h2 h3 errs_all errs_lt (by kernel_rfl) hk (FnsOk.cons (hT.ok fit) (FnsOk.cons (frame_fn_ok (l40_ok hL)) ((q61_ok hL)))) hv ⟨_, Tryd.func3, rfl⟩ run207
noncomputable def h363 : H := hUpd h338 343 [] [] [(303, 0, [IZ (-1), I 32, I 0])]
noncomputable def h364 : H := hUpd h339 818 [] [] [(303, 0, [IZ (-1), I 32, I 4])]
noncomputable def m260 : Memo := ⟨[.ptr 311 0, .agg [.slice 30 0 1 1 1 true, I 1, .snil, bF]], h363, .tuple [I 0, .inil], h364⟩
theorem m260_run : ranTo (evCall (cxX Tryd.prog bad [] [] ((44, pureFn l0) :: q0)) 1000 60 21 m260.args m260.h) m260.v m260.h' = true := by kernel_rfl
theorem m260_ok {σ : Nat → Int} {W0 : World} (hL : L0 W0) : MemoOk Tryd.prog 4095 σ W0 21 m260 := memo_ok fit (Known2.nil σ) (FnsOk.cons (pure_fn_ok (l0_ok hL)) ((q0_ok hL))) m260_run
noncomputable def h365 : H := hUpd h340 821 [] [] [(303, 0, [IZ (-1), I 32, I 4])]
noncomputable def h366 : H := hUpd h341 1296 [] [] [(303, 0, [IZ (-1), I 32, I 8])]
noncomputable def m261 : Memo := ⟨[.ptr 311 0, .agg [.slice 33 0 1 1 1 true, I 1, .snil, bF]], h365, .tuple [I 1, .inil], h366⟩
theorem m261_run : ranTo (evCall (cxX Tryd.prog bad [] [] ((44, pureFn l3) :: q0)) 1000 60 21 m261.args m261.h) m261.v m261.h' = true := by kernel_rfl
theorem m261_ok {σ : Nat → Int} {W0 : World} (hL : L0 W0) : MemoOk Tryd.prog 4095 σ W0 21 m261 := memo_ok fit (Known2.nil σ) (FnsOk.cons (pure_fn_ok (l3_ok hL)) ((q0_ok hL))) m261_run
noncomputable def h367 : H := hUpd h342 1299 [] [] [(303, 0, [IZ (-1), I 32, I 8])]
noncomputable def h368 : H := hUpd h343 1774 [] [] [(303, 0, [IZ (-1), I 32, I 12])]
noncomputable def m262 : Memo := ⟨[.ptr 311 0, .agg [.slice 36 0 1 1 1 true, I 1, .snil, bF]], h367, .tuple [I 2, .inil], h368⟩
theorem m262_run : ranTo (evCall (cxX Tryd.prog bad [] [] ((44, pureFn l6) :: q0)) 1000 60 21 m262.args m262.h) m262.v m262.h' = true := by kernel_rfl
theorem m262_ok {σ : Nat → Int} {W0 : World} (hL : L0 W0) : MemoOk Tryd.prog 4095 σ W0 21 m262 := memo_ok fit (Known2.nil σ) (FnsOk.cons (pure_fn_ok (l6_ok hL)) ((q0_ok hL))) m262_run
noncomputable def h369 : H := hUpd h344 1777 [] [] [(303, 0, [IZ (-1), I 32, I 12])]
noncomputable def h370 : H := hUpd h345 2252 [] [] [(303, 0, [IZ (-1), I 32, I 16])]
noncomputable def m263 : Memo := ⟨[.ptr 311 0, .agg [.slice 39 0 1 1 1 true, I 1, .snil, bF]], h369, .tuple [I 3, .inil], h370⟩
theorem m263_run : ranTo (evCall (cxX Tryd.prog bad [] [] ((44, pureFn l13) :: q0)) 1000 60 21 m263.args m263.h) m263.v m263.h' = true := by kernel_rfl
theorem m263_ok {σ : Nat → Int} {W0 : World} (hL : L0 W0) : MemoOk Tryd.prog 4095 σ W0 21 m263 := memo_ok fit (Known2.nil σ) (FnsOk.cons (pure_fn_ok (l13_ok hL)) ((q0_ok hL))) m263_run
noncomputable def h371 : H := hUpd h346 2255 [] [] [(303, 0, [IZ (-1), I 32, I 16])]
noncomputable def h372 : H := hUpd h347 2730 [] [] [(303, 0, [IZ (-1), I 32, I 20])]
noncomputable def m264 : Memo := ⟨[.ptr 311 0, .agg [.slice 42 0 1 1 1 true, I 1, .snil, bF]], h371, .tuple [I 4, .inil], h372⟩
theorem m264_run : ranTo (evCall (cxX Tryd.prog bad [] [] ((44, pureFn l20) :: q0)) 1000 60 21 m264.args m264.h) m264.v m264.h' = true := by kernel_rfl
theorem m264_ok {σ : Nat → Int} {W0 : World} (hL : L0 W0) : MemoOk Tryd.prog 4095 σ W0 21 m264 := memo_ok fit (Known2.nil σ) (FnsOk.cons (pure_fn_ok (l20_ok hL)) ((q0_ok hL))) m264_run
noncomputable def h373 : H := hUpd h348 2733 [] [] [(303, 0, [IZ (-1), I 32, I 20])]
noncomputable def h374 : H := hUpd h349 3208 [] [] [(303, 0, [IZ (-1), I 32, I 24])]
noncomputable def m265 : Memo := ⟨[.ptr 311 0, .agg [.slice 45 0 1 1 1 true, I 1, .snil, bF]], h373, .tuple [I 5, .inil], h374⟩
theorem m265_run : ranTo (evCall (cxX Tryd.prog bad [] [] ((44, pureFn l27) :: q0)) 1000 60 21 m265.args m265.h) m265.v m265.h' = true := by kernel_rfl
theorem m265_ok {σ : Nat → Int} {W0 : World} (hL : L0 W0) : MemoOk Tryd.prog 4095 σ W0 21 m265 := memo_ok fit (Known2.nil σ) (FnsOk.cons (pure_fn_ok (l27_ok hL)) ((q0_ok hL))) m265_run
noncomputable def h375 : H := hUpd h350 3211 [] [] [(303, 0, [IZ (-1), I 32, I 24])]
noncomputable def h376 : H := hUpd h351 3686 [] [] [(303, 0, [IZ (-1), I 32, I 28])]
noncomputable def m266 : Memo := ⟨[.ptr 311 0, .agg [.slice 48 0 1 1 1 true, I 1, .snil, bF]], h375, .tuple [I 6, .inil], h376⟩
theorem m266_run : ranTo (evCall (cxX Tryd.prog bad [] [] ((44, pureFn l34) :: q0)) 1000 60 21 m266.args m266.h) m266.v m266.h' = true := by kernel_rfl
theorem m266_ok {σ : Nat → Int} {W0 : World} (hL : L0 W0) : MemoOk Tryd.prog 4095 σ W0 21 m266 := memo_ok fit (Known2.nil σ) (FnsOk.cons (pure_fn_ok (l34_ok hL)) ((q0_ok hL))) m266_run
noncomputable def h377 : H := hUpd h352 3689 [] [] [(303, 0, [IZ (-1), I 32, I 28])]
noncomputable def h378 : H := hUpd h355 4164 [] [] [(303, 0, [IZ (-1), I 32, I 32])]
noncomputable def m267 : Memo := ⟨[.ptr 311 0, .agg [.slice 51 0 1 1 1 true, I 1, .snil, bF]], h377, .tuple [I 7, .inil], h378⟩
theorem m267_run : ranTo (evCall (cxX Tryd.prog bad [] [] ((44, pureFn l41) :: q0)) 1000 60 21 m267.args m267.h) m267.v m267.h' = true := by kernel_rfl
theorem m267_ok {σ : Nat → Int} {W0 : World} (hL : L0 W0) : MemoOk Tryd.prog 4095 σ W0 21 m267 := memo_ok fit (Known2.nil σ) (FnsOk.cons (pure_fn_ok (l41_ok hL)) ((q0_ok hL))) m267_run
noncomputable def h379 : H := hUpd h378 4167 [51] [(54, .cells 1 ([[U 8]]) false)] []
noncomputable def h380 : H := hUpd h379 4198 [] [] []
noncomputable def m268 : Memo := ⟨[.ptr 311 0, .agg [.slice 54 0 1 1 1 true, I 1, .snil, bF]], h379, .tuple [I 0, .iface 240 (.ptr 24 0)], h380⟩
theorem m268_run : ranTo (evCall (cxX Tryd.prog bad [] [] q0) 1000 60 21 m268.args m268.h) m268.v m268.h' = true := by kernel_rfl
theorem m268_ok {σ : Nat → Int} {W0 : World} (hL : L0 W0) : MemoOk Tryd.prog 4095 σ W0 21 m268 := memo_ok fit (Known2.nil σ) ((q0_ok hL)) m268_run
noncomputable def l44 : List (Memo) := m268 :: m267 :: m266 :: m265 :: m264 :: m263 :: m262 :: m261 :: m260 :: []
theorem l44_ok {σ : Nat → Int} {W0 : World} (hL : L0 W0) : ∀ x ∈ l44, MemoOk Tryd.prog 4095 σ W0 21 x := all_cons (m268_ok hL) (all_cons (m267_ok hL) (all_cons (m266_ok hL) (all_cons (m265_ok hL) (all_cons (m264_ok hL) (all_cons (m263_ok hL) (all_cons (m262_ok hL) (all_cons (m261_ok hL) (all_cons (m260_ok hL) (all_nil)))))))))
theorem run208 : isTrue (evCall (cxX Tryd.prog bad [] [] ((6, numExtE [(0, 10, .lit 8), (1, 60, .lit 32)]) :: (21, frameFn l44) :: q61)) 1000 60 3 [.int .i64 (.var 0), .int .i64 (.var 1), .int .i64 (.var 2)] (sentH 240 18 errTab)) = true := by kernel_rfl
theorem case208 {σ : Nat → Int} {W : World} (hL : L0 W) (hk : Known2 σ [] []) (hT : TabOk Tryd.prog bad 6 σ [(0, 10, .lit 8), (1, 60, .lit 32)]) {xs : Array Value} (hv : ∀ ρ, VRs σ ρ [.int .i64 (.var 0), .int .i64 (.var 1), .int .i64 (.var 2)] xs.toList) : Calls Tryd.prog 3 xs W fun e w' => e = .returned (.bool true) ∧ Below W.heap.size W w' := by
  obtain ⟨ads, h1, h2, h3⟩ := errs_sents hL
  exact law_case_x fit h1 h2 h3 errs_all errs_lt (by kernel_rfl) hk (FnsOk.cons (hT.ok fit) (FnsOk.cons (frame_fn_ok (l44_ok hL)) ((q61_ok hL)))) hv ⟨_, Tryd.func3, rfl⟩ run208
noncomputable def h381 : H := hUpd h363 343 [] [] [(303, 0, [IZ (-1), I 33, I 0])]
noncomputable def h382 : H := hUpd h364 818 [] [] [(303, 0, [IZ (-1), I 33, I 4])]
noncomputable def m269 : Memo := ⟨[.ptr 311 0, .agg [.slice 30 0 1 1 1 true, I 1, .snil, bF]], h381, .tuple [I 0, .inil], h382⟩
theorem m269_run : ranTo (evCall (cxX Tryd.prog bad [] [] ((44, pureFn l0) :: q0)) 1000 60 21 m269.args m269.h) m269.v m269.h' = true := by kernel_rfl
theorem m269_ok {σ : Nat → Int} {W0 : World} (hL : L0 W0) : MemoOk Tryd.prog 4095 σ W0 21 m269 := memo_ok fit (Known2.nil σ) (FnsOk.cons (pure_fn_ok (l0_ok hL)) ((q0_ok hL))) m269_run
noncomputable def h383 : H := hUpd h365 821 [] [] [(303, 0, [IZ (-1), I 33, I 4])]
noncomputable def h384 : H := hUpd h366 1296 [] [] [(303, 0, [IZ (-1), I 33, I 8])]
noncomputable def m270 : Memo := ⟨[.ptr 311 0, .agg [.slice 33 0 1 1 1 true, I 1, .snil, bF]], h383, .tuple [I 1, .inil], h384⟩
theorem m270_run : ranTo (evCall (cxX Tryd.prog bad [] [] ((44, pureFn l3) :: q0)) 1000 60 21 m270.args m270.h) m270.v m270.h' = true := by kernel_rfl
theorem m270_ok {σ : Nat → Int} {W0 : World} (hL : L0 W0) : MemoOk Tryd.prog 4095 σ W0 21 m270 := memo_ok fit (Known2.nil σ) (FnsOk.cons (pure_fn_ok (l3_ok hL)) ((q0_ok hL))) m270_run
noncomputable def h385 : H := hUpd h367 1299 [] [] [(303, 0, [IZ (-1), I 33, I 8])]
noncomputable def h386 : H := hUpd h368 1774 [] [] [(303, 0, [IZ (-1), I 33, I 12])]
noncomputable def m271 : Memo := ⟨[.ptr 311 0, .agg [.slice 36 0 1 1 1 true, I 1, .snil, bF]], h385, .tuple [I 2, .inil], h386⟩
theorem m271_run : ranTo (evCall (cxX Tryd.prog bad [] [] ((44, pureFn l6) :: q0)) 1000 60 21 m271.args m271.h) m271.v m271.h' = true := by kernel_rfl
theorem m271_ok {σ : Nat → Int} {W0 : World} (hL : L0 W0) : MemoOk Tryd.prog 4095 σ W0 21 m271 := memo_ok fit (Known2.nil σ) (FnsOk.cons (pure_fn_ok (l6_ok hL)) ((q0_ok hL))) m271_run
noncomputable def h387 : H := hUpd h369 1777 [] [] [(303, 0, [IZ (-1), I 33, I 12])]
noncomputable def h388 : H := hUpd h370 2252 [] [] [(303, 0, [IZ (-1), I 33, I 16])]
noncomputable def m272 : Memo := ⟨[.ptr 311 0, .agg [.slice 39 0 1 1 1 true, I 1, .snil, bF]], h387, .tuple [I 3, .inil], h388⟩
theorem m272_run : ranTo (evCall (cxX Tryd.prog bad [] [] ((44, pureFn l13) :: q0)) 1000 60 21 m272.args m272.h) m272.v m272.h' = true := by kernel_rfl
theorem m272_ok {σ : Nat → Int} {W0 : World} (hL : L0 W0) : MemoOk Tryd.prog 4095 σ W0 21 m272 := memo_ok fit (Known2.nil σ) (FnsOk.cons (pure_fn_ok (l13_ok hL)) ((q0_ok hL))) m272_run
noncomputable def h389 : H := hUpd h371 2255 [] [] [(303, 0, [IZ (-1), I 33, I 16])]
noncomputable def h390 : H := hUpd h372 2730 [] [] [(303, 0, [IZ (-1), I 33, I 20])]
noncomputable def m273 : Memo := ⟨[.ptr 311 0, .agg [.slice 42 0 1 1 1 true, I 1, .snil, bF]], h389, .tuple [I 4, .inil], h390⟩
theorem m273_run : ranTo (evCall (cxX Tryd.prog bad [] [] ((44, pureFn l20) :: q0)) 1000 60 21 m273.args m273.h) m273.v m273.h' = true := by kernel_rfl
theorem m273_ok {σ : Nat → Int} {W0 : World} (hL : L0 W0) : MemoOk Tryd.prog 4095 σ W0 21 m273 := memo_ok fit (Known2.nil σ) (FnsOk.cons (pure_fn_ok (l20_ok hL)) ((q0_ok hL))) m273_run
noncomputable def h391 : H := hUpd h373 2733 [] [] [(303, 0, [IZ (-1), I 33, I 20])]
noncomputable def h392 : H := hUpd h374 3208 [] [] [(303, 0, [IZ (-1), I 33, I 24])]
noncomputable def m274 : Memo := ⟨[.ptr 311 0, .agg [.slice 45 0 1 1 1 true, I 1, .snil, bF]], h391, .tuple [I 5, .inil], h392⟩
theorem m274_run : ranTo (evCall (cxX Tryd.prog bad [] [] ((44, pureFn l27) :: q0)) 1000 60 21 m274.args m274.h) m274.v m274.h' = true := by kernel_rfl
theorem m274_ok {σ : Nat → Int} {W0 : World} (hL : L0 W0) : MemoOk Tryd.prog 4095 σ W0 21 m274 := memo_ok fit (Known2.nil σ) (FnsOk.cons (pure_fn_ok (l27_ok hL)) ((q0_ok hL))) m274_run
noncomputable def h393 : H := hUpd h375 3211 [] [] [(303, 0, [IZ (-1), I 33, I 24])]
noncomputable def h394 : H := hUpd h376 3686 [] [] [(303, 0, [IZ (-1), I 33, I 28])]
noncomputable def m275 : Memo := ⟨[.ptr 311 0, .agg [.slice 48 0 1 1 1 true, I 1, .snil, bF]], h393, .tuple [I 6, .inil], h394⟩
theorem m275_run : ranTo (evCall (cxX Tryd.prog bad [] [] ((44, pureFn l34) :: q0)) 1000 60 21 m275.args m275.h) m275.v m275.h' = true := by kernel_rfl
theorem m275_ok {σ : Nat → Int} {W0 : World} (hL : L0 W0) : MemoOk Tryd.prog 4095 σ W0 21 m275 := memo_ok fit (Known2.nil σ) (FnsOk.cons (pure_fn_ok (l34_ok hL)) ((q0_ok hL))) m275_run
noncomputable def h395 : H := hUpd h377 3689 [] [] [(303, 0, [IZ (-1), I 33, I 28])]
noncomputable def h396 : H := hUpd h378 4164 [] [] [(303, 0, [IZ (-1), I 33, I 32])]
noncomputable def m276 : Memo := ⟨[.ptr 311 0, .agg [.slice 51 0 1 1 1 true, I 1, .snil, bF]], h395, .tuple [I 7, .inil], h396⟩
theorem m276_run : ranTo (evCall (cxX Tryd.prog bad [] [] ((44, pureFn l41) :: q0)) 1000 60 21 m276.args m276.h) m276.v m276.h' = true := by kernel_rfl
theorem m276_ok {σ : Nat → Int} {W0 : World} (hL : L0 W0) : MemoOk Tryd.prog 4095 σ W0 21 m276 := memo_ok fit (Known2.nil σ) (FnsOk.cons (pure_fn_ok (l41_ok hL)) ((q0_ok hL))) m276_run
noncomputable def h397 : H := hUpd h379 4167 [] [] [(303, 0, [IZ (-1), I 33, I 32])]
noncomputable def h398 : H := hUpc h379 4261 [] [(304, .map [(.agg [I 3, I 0], .agg [I 0, I 0], 0), (.agg [I 3, I 1], .agg [I 0, I 0], 1), (.agg [I 2, I 0], .agg [I 0, I 0], 2), (.agg [I 4, I 0], .agg [I 0, I 0], 3), (.agg [I 3, I 2], .agg [I 0, I 0], 4), (.agg [I 3, I 3], .agg [I 0, I 0], 5), (.agg [I 2, I 1], .agg [I 0, I 0], 6), (.agg [I 4, I 1], .agg [I 0, I 0], 7), (.agg [I 3, I 4], .agg [I 0, I 0], 8), (.agg [I 3, I 5], .agg [I 0, I 0], 9), (.agg [I 2, I 2], .agg [I 0, I 0], 10), (.agg [I 4, I 2], .agg [I 0, I 0], 11), (.agg [I 3, I 6], .agg [I 0, I 0], 12), (.agg [I 3, I 7], .agg [I 0, I 0], 13), (.agg [I 2, I 3], .agg [I 0, I 0], 14), (.agg [I 4, I 3], .agg [I 0, I 0], 15), (.agg [I 3, I 8], .agg [I 0, I 0], 16), (.agg [I 3, I 9], .agg [I 0, I 0], 17), (.agg [I 2, I 4], .agg [I 0, I 0], 18), (.agg [I 4, I 4], .agg [I 0, I 0], 19), (.agg [I 3, I 10], .agg [I 0, I 0], 20), (.agg [I 3, I 11], .agg [I 0, I 0], 21), (.agg [I 2, I 5], .agg [I 0, I 0], 22), (.agg [I 4, I 5], .agg [I 0, I 0], 23), (.agg [I 3, I 12], .agg [I 0, I 0], 24), (.agg [I 3, I 13], .agg [I 0, I 0], 25), (.agg [I 2, I 6], .agg [I 0, I 0], 26), (.agg [I 4, I 6], .agg [I 0, I 0], 27), (.agg [I 3, I 14], .agg [I 0, I 0], 28), (.agg [I 3, I 15], .agg [I 0, I 0], 29), (.agg [I 2, I 7], .agg [I 0, I 0], 30), (.agg [I 4, I 7], .agg [I 0, I 0], 31), (.agg [I 3, I 16], .agg [I 0, I 0], 32)] 33)] [(262, 16, [bT, I 0, bF]),
  (303, 0, [IZ (-1), I 33, I 33])] [(264, 16, 0, U 8)]
noncomputable def m277 : Memo := ⟨[.ptr 311 0, .agg [.slice 54 0 1 1 1 true, I 1, .snil, bF]], h397, .tuple [I 0, .iface 240 (.ptr 24 0)], h398⟩
theorem m277_run : ranTo (evCall (cxX Tryd.prog bad [] [] q0) 1000 60 21 m277.args m277.h) m277.v m277.h' = true := by kernel_rfl
theorem m277_ok {σ : Nat → Int} {W0 : World} (hL : L0 W0) : MemoOk Tryd.prog 4095 σ W0 21 m277 := memo_ok fit (Known2.nil σ) ((q0_ok hL)) m277_run
noncomputable def l45 : List (Memo) := m277 :: m276 :: m275 :: m274 :: m273 :: m272 :: m271 :: m270 :: m269 :: []
theorem l45_ok {σ : Nat → Int} {W0 : World} (hL : L0 W0) : ∀ x ∈ l45, MemoOk Tryd.prog 4095 σ W0 21 x := all_cons (m277_ok hL) (all_cons (m276_ok hL) (all_cons (m275_ok hL) (all_cons (m274_ok hL) (all_cons (m273_ok hL) (all_cons (m272_ok hL) (all_cons (m271_ok hL) (all_cons (m270_ok hL) (all_cons (m269_ok hL) (all_nil)))))))))
theorem run209 : isTrue (evCall (cxX Tryd.prog bad [] [] ((6, numExtE [(0, 10, .lit 8), (1, 60, .lit 33)]) :: (21, frameFn l45) :: q61)) 1000 60 3 [.int .i64 (.var 0), .int .i64 (.var 1), .int .i64 (.var 2)] (sentH 240 18 errTab)) = true := by kernel_rfl
theorem case209 {σ : Nat → Int} {W : World} (hL : L0 W) (hk : Known2 σ [] []) (hT : TabOk Tryd.prog bad 6 σ [(0, 10, .lit 8), (1, 60, .lit 33)]) {xs : Array Value} (hv : ∀ ρ, VRs σ ρ [.int .i64 (.var 0), .int .i64 (.var 1), .int .i64 (.var 2)] xs.toList) : Calls Tryd.prog 3 xs W fun e w' => e = .returned (.bool true) ∧ Below W.heap.size W w' := by
  obtain ⟨ads, h1, h2, h3⟩ := errs_sents hL
  exact law_case_x fit h1 h2 h3 errs_all errs_lt (by kernel_rfl) hk (FnsOk.cons (hT.ok fit) (FnsOk.cons (frame_fn_ok (l45_ok hL)) ((q61_ok hL)))) hv ⟨_, Tryd.func3, rfl⟩ run209
noncomputable def h399 : H := hUpd h363 343 [] [] [(303, 0, [IZ (-1), I 34, I 0])]
noncomputable def h400 : H := hUpd h364 818 [] [] [(303, 0, [IZ (-1), I 34, I 4])]
noncomputable def m278 : Memo := ⟨[.ptr 311 0, .agg [.slice 30 0 1 1 1 true, I 1, .snil, bF]], h399, .tuple [I 0, .inil], h400⟩
theorem m278_run : ranTo (evCall (cxX Tryd.prog bad [] [] ((44, pureFn l0) :: q0)) 1000 60 21 m278.args m278.h) m278.v m278.h' = true := by kernel_rfl
theorem m278_ok {σ : Nat → Int} {W0 : World} (hL : L0 W0) : MemoOk Tryd.prog 4095 σ W0 21 m278 := memo_ok fit (Known2.nil σ) (FnsOk.cons (pure_fn_ok (l0_ok hL)) ((q0_ok hL))) m278_run
noncomputable def h401 : H := hUpd h365 821 [] [] [(303, 0, [IZ (-1), I 34, I 4])]
noncomputable def h402 : H := hUpd h366 1296 [] [] [(303, 0, [IZ (-1), I 34, I 8])]
noncomputable def m279 : Memo := ⟨[.ptr 311 0, .agg [.slice 33 0 1 1 1 true, I 1, .snil, bF]], h401, .tuple [I 1, .inil], h402⟩
theorem m279_run : ranTo (evCall (cxX Tryd.prog bad [] [] ((44, pureFn l3) :: q0)) 1000 60 21 m279.args m279.h) m279.v m279.h' = true := by kernel_rfl
theorem m279_ok {σ : Nat → Int} {W0 : World} (hL : L0 W0) : MemoOk Tryd.prog 4095 σ W0 21 m279 := memo_ok fit (Known2.nil σ) (FnsOk.cons (pure_fn_ok (l3_ok hL)) ((q0_ok hL))) m279_run
noncomputable def h403 : H := hUpd h367 1299 [] [] [(303, 0, [IZ (-1), I 34, I 8])]
noncomputable def h404 : H := hUpd h368 1774 [] [] [(303, 0, [IZ (-1), I 34, I 12])]
noncomputable def m280 : Memo := ⟨[.ptr 311 0, .agg [.slice 36 0 1 1 1 true, I 1, .snil, bF]], h403, .tuple [I 2, .inil], h404⟩
theorem m280_run : ranTo (evCall (cxX Tryd.prog bad [] [] ((44, pureFn l6) :: q0)) 1000 60 21 m280.args m280.h) m280.v m280.h' = true := by kernel_rfl
theorem m280_ok {σ : Nat → Int} {W0 : World} (hL : L0 W0) : MemoOk Tryd.prog 4095 σ W0 21 m280 := memo_ok fit (Known2.nil σ) (FnsOk.cons (pure_fn_ok (l6_ok hL)) ((q0_ok hL))) m280_run
noncomputable def h405 : H := hUpd h369 1777 [] [] [(303, 0, [IZ (-1), I 34, I 12])]
noncomputable def h406 : H := hUpd h370 2252 [] [] [(303, 0, [IZ (-1), I 34, I 16])]
noncomputable def m281 : Memo := ⟨[.ptr 311 0, .agg [.slice 39 0 1 1 1 true, I 1, .snil, bF]], h405, .tuple [I 3, .inil], h406⟩
theorem m281_run : ranTo (evCall (cxX Tryd.prog bad [] [] ((44, pureFn l13) :: q0)) 1000 60 21 m281.args m281.h) m281.v m281.h' = true := by kernel_rfl
theorem m281_ok {σ : Nat → Int} {W0 : World} (hL : L0 W0) : MemoOk Tryd.prog 4095 σ W0 21 m281 := memo_ok fit (Known2.nil σ) (FnsOk.cons (pure_fn_ok (l13_ok hL)) ((q0_ok hL))) m281_run
noncomputable def h407 : H := hUpd h371 2255 [] [] [(303, 0, [IZ (-1), I 34, I 16])]
noncomputable def h408 : H := hUpd h372 2730 [] [] [(303, 0, [IZ (-1), I 34, I 20])]
noncomputable def m282 : Memo := ⟨[.ptr 311 0, .agg [.slice 42 0 1 1 1 true, I 1, .snil, bF]], h407, .tuple [I 4, .inil], h408⟩
theorem m282_run : ranTo (evCall (cxX Tryd.prog bad [] [] ((44, pureFn l20) :: q0)) 1000 60 21 m282.args m282.h) m282.v m282.h' = true := by kernel_rfl
theorem m282_ok {σ : Nat → Int} {W0 : World} (hL : L0 W0) : MemoOk Tryd.prog 4095 σ W0 21 m282 := memo_ok fit (Known2.nil σ) (FnsOk.cons (pure_fn_ok (l20_ok hL)) ((q0_ok hL))) m282_run
noncomputable def h409 : H := hUpd h373 2733 [] [] [(303, 0, [IZ (-1), I 34, I 20])]
noncomputable def h410 : H := hUpd h374 3208 [] [] [(303, 0, [IZ (-1), I 34, I 24])]
noncomputable def m283 : Memo := ⟨[.ptr 311 0, .agg [.slice 45 0 1 1 1 true, I 1, .snil, bF]], h409, .tuple [I 5, .inil], h410⟩
theorem m283_run : ranTo (evCall (cxX Tryd.prog bad [] [] ((44, pureFn l27) :: q0)) 1000 60 21 m283.args m283.h) m283.v m283.h' = true := by kernel_rfl
theorem m283_ok {σ : Nat → Int} {W0 : World} (hL : L0 W0) : MemoOk Tryd.prog 4095 σ W0 21 m283 := memo_ok fit (Known2.nil σ) (FnsOk.cons (pure_fn_ok (l27_ok hL)) ((q0_ok hL))) m283_run
noncomputable def h411 : H := hUpd h375 3211 [] [] [(303, 0, [IZ (-1), I 34, I 24])]
noncomputable def h412 : H := hUpd h376 3686 [] [] [(303, 0, [IZ (-1), I 34, I 28])]
noncomputable def m284 : Memo := ⟨[.ptr 311 0, .agg [.slice 48 0 1 1 1 true, I 1, .snil, bF]], h411, .tuple [I 6, .inil], h412⟩
theorem m284_run : ranTo (evCall (cxX Tryd.prog bad [] [] ((44, pureFn l34) :: q0)) 1000 60 21 m284.args m284.h) m284.v m284.h' = true := by kernel_rfl
theorem m284_ok {σ : Nat → Int} {W0 : World} (hL : L0 W0) : MemoOk Tryd.prog 4095 σ W0 21 m284 := memo_ok fit (Known2.nil σ) (FnsOk.cons (pure_fn_ok (l34_ok hL)) ((q0_ok hL))) m284_run
noncomputable def h413 : H := hUpd h377 3689 [] [] [(303, 0, [IZ (-1), I 34, I 28])]
noncomputable def h414 : H := hUpd h378 4164 [] [] [(303, 0, [IZ (-1), I 34, I 32])]
noncomputable def m285 : Memo := ⟨[.ptr 311 0, .agg [.slice 51 0 1 1 1 true, I 1, .snil, bF]], h413, .tuple [I 7, .inil], h414⟩
theorem m285_run : ranTo (evCall (cxX Tryd.prog bad [] [] ((44, pureFn l41) :: q0)) 1000 60 21 m285.args m285.h) m285.v m285.h' = true := by kernel_rfl
theorem m285_ok {σ : Nat → Int} {W0 : World} (hL : L0 W0) : MemoOk Tryd.prog 4095 σ W0 21 m285 := memo_ok fit (Known2.nil σ) (FnsOk.cons (pure_fn_ok (l41_ok hL)) ((q0_ok hL))) m285_run
noncomputable def p286 : Pur := ([.agg [I 3, I 16, I 0, I 0, U 0]], .inil, 1048576)
theorem p286_run : ranPure (evCall (cxX Tryd.prog bad [] [] q0) 1000 60 44 p286.1 ⟨.lf, p286.2.2⟩) p286.2.1 = true := by kernel_rfl
theorem p286_ok {σ : Nat → Int} {W0 : World} (hL : L0 W0) : PureOk Tryd.prog 4095 σ W0 44 p286 := pure_ok fit (Known2.nil σ) ((q0_ok hL)) p286_run
noncomputable def p287 : Pur := ([.agg [I 3, I 17, I 0, I 0, U 0]], .inil, 1048576)
theorem p287_run : ranPure (evCall (cxX Tryd.prog bad [] [] q0) 1000 60 44 p287.1 ⟨.lf, p287.2.2⟩) p287.2.1 = true := by kernel_rfl
theorem p287_ok {σ : Nat → Int} {W0 : World} (hL : L0 W0) : PureOk Tryd.prog 4095 σ W0 44 p287 := pure_ok fit (Known2.nil σ) ((q0_ok hL)) p287_run
noncomputable def h415 : H := hUpd h379 4167 [] [] [(303, 0, [IZ (-1), I 34, I 32])]
noncomputable def h416 : H := hUpd h398 4372 [] [(304, .map [(.agg [I 3, I 0], .agg [I 0, I 0], 0), (.agg [I 3, I 1], .agg [I 0, I 0], 1), (.agg [I 2, I 0], .agg [I 0, I 0], 2), (.agg [I 4, I 0], .agg [I 0, I 0], 3), (.agg [I 3, I 2], .agg [I 0, I 0], 4), (.agg [I 3, I 3], .agg [I 0, I 0], 5), (.agg [I 2, I 1], .agg [I 0, I 0], 6), (.agg [I 4, I 1], .agg [I 0, I 0], 7), (.agg [I 3, I 4], .agg [I 0, I 0], 8), (.agg [I 3, I 5], .agg [I 0, I 0], 9), (.agg [I 2, I 2], .agg [I 0, I 0], 10), (.agg [I 4, I 2], .agg [I 0, I 0], 11), (.agg [I 3, I 6], .agg [I 0, I 0], 12), (.agg [I 3, I 7], .agg [I 0, I 0], 13), (.agg [I 2, I 3], .agg [I 0, I 0], 14), (.agg [I 4, I 3], .agg [I 0, I 0], 15), (.agg [I 3, I 8], .agg [I 0, I 0], 16), (.agg [I 3, I 9], .agg [I 0, I 0], 17), (.agg [I 2, I 4], .agg [I 0, I 0], 18), (.agg [I 4, I 4], .agg [I 0, I 0], 19), (.agg [I 3, I 10], .agg [I 0, I 0], 20), (.agg [I 3, I 11], .agg [I 0, I 0], 21), (.agg [I 2, I 5], .agg [I 0, I 0], 22), (.agg [I 4, I 5], .agg [I 0, I 0], 23), (.agg [I 3, I 12], .agg [I 0, I 0], 24), (.agg [I 3, I 13], .agg [I 0, I 0], 25), (.agg [I 2, I 6], .agg [I 0, I 0], 26), (.agg [I 4, I 6], .agg [I 0, I 0], 27), (.agg [I 3, I 14], .agg [I 0, I 0], 28), (.agg [I 3, I 15], .agg [I 0, I 0], 29), (.agg [I 2, I 7], .agg [I 0, I 0], 30), (.agg [I 4, I 7], .agg [I 0, I 0], 31), (.agg [I 3, I 16], .agg [I 0, I 0], 32), (.agg [I 3, I 17], .agg [I 0, I 0], 33)] 34)] [(262, 17, [bT, I 0, bF]),
  (303, 0, [IZ (-1), I 34, I 34])]
noncomputable def m288 : Memo := ⟨[.ptr 311 0, .agg [.slice 54 0 1 1 1 true, I 1, .snil, bF]], h415, .tuple [I 0, .iface 240 (.ptr 24 0)], h416⟩
theorem m288_run : ranTo (evCall (cxX Tryd.prog bad [] [] ((44, pureFn [p286, p287]) :: q0)) 1000 60 21 m288.args m288.h) m288.v m288.h' = true := by kernel_rfl
theorem m288_ok {σ : Nat → Int} {W0 : World} (hL : L0 W0) : MemoOk Tryd.prog 4095 σ W0 21 m288 := memo_ok fit (Known2.nil σ) (FnsOk.cons (pure_fn_ok (all_cons (p286_ok hL) (all_cons (p287_ok hL) (all_nil)))) ((q0_ok hL))) m288_run
noncomputable def l46 : List (Memo) := m288 :: m285 :: m284 :: m283 :: m282 :: m281 :: m280 :: m279 :: m278 :: []
theorem l46_ok {σ : Nat → Int} {W0 : World} (hL : L0 W0) : ∀ x ∈ l46, MemoOk Tryd.prog 4095 σ W0 21 x := all_cons (m288_ok hL) (all_cons (m285_ok hL) (all_cons (m284_ok hL) (all_cons (m283_ok hL) (all_cons (m282_ok hL) (all_cons (m281_ok hL) (all_cons (m280_ok hL) (all_cons (m279_ok hL) (all_cons (m278_ok hL) (all_nil)))))))))
theorem run210 : isTrue (evCall (cxX Tryd.prog bad [] [] ((6, numExtE [(0, 10, .lit 8), (1, 60, .lit 34)]) :: (21, frameFn l46) :: q61)) 1000 60 3 [.int .i64 (.var 0), .int .i64 (.var 1), .int .i64 (.var 2)] (sentH 240 18 errTab)) = true := by kernel_rfl
theorem case210 {σ : Nat → Int} {W : World} (hL : L0 W) (hk : Known2 σ [] []) (hT : TabOk Tryd.prog bad 6 σ [(0, 10, .lit 8), (1, 60, .lit 34)]) {xs : Array Value} (hv : ∀ ρ, VRs σ ρ [.int .i64 (.var 0), .int .i64 (.var 1), .int .i64 (.var 2)] xs.toList) : Calls Tryd.prog 3 xs W fun e w' => e = .returned (.bool true) ∧ Below W.heap.size W w' := by
  obtain ⟨ads, h1, h2, h3⟩ := errs_sents hL
  exact law_case_x fit h1 h2 h3 errs_all errs_lt (by kernel_rfl) hk (FnsOk.cons (hT.ok fit) (FnsOk.cons (frame_fn_ok (l46_ok hL)) ((q61_ok hL)))) hv ⟨_, Tryd.func3, rfl⟩ run210
noncomputable def h417 : H := hUpd h381 343 [] [] [(303, 0, [IZ (-1), I 35, I 0])]
noncomputable def h418 : H := hUpd h382 818 [] [] [(303, 0, [IZ (-1), I 35, I 4])]
noncomputable def m289 : Memo := ⟨[.ptr 311 0, .agg [.slice 30 0 1 1 1 true, I 1, .snil, bF]], h417, .tuple [I 0, .inil], h418⟩
theorem m289_run : ranTo (evCall (cxX Tryd.prog bad [] [] ((44, pureFn l0) :: q0)) 1000 60 21 m289.args m289.h) m289.v m289.h' = true := by kernel_rfl
theorem m289_ok {σ : Nat → Int} {W0 : World} (hL : L0 W0) : MemoOk Tryd.prog 4095 σ W0 21 m289 := memo_ok fit (Known2.nil σ) (FnsOk.cons (pure_fn_ok (l0_ok hL)) ((q0_ok hL))) m289_run
noncomputable def h419 : H := hUpd h383 821 [] [] [(303, 0, [IZ (-1), I 35, I 4])]
noncomputable def h420 : H := hUpd h384 1296 [] [] [(303, 0, [IZ (-1), I 35, I 8])]
noncomputable def m290 : Memo := ⟨[.ptr 311 0, .agg [.slice 33 0 1 1 1 true, I 1, .snil, bF]], h419, .tuple [I 1, .inil], h420⟩
theorem m290_run : ranTo (evCall (cxX Tryd.prog bad [] [] ((44, pureFn l3) :: q0)) 1000 60 21 m290.args m290.h) m290.v m290.h' = true := by kernel_rfl
theorem m290_ok {σ : Nat → Int} {W0 : World} (hL : L0 W0) : MemoOk Tryd.prog 4095 σ W0 21 m290 := memo_ok fit (Known2.nil σ) (FnsOk.cons (pure_fn_ok (l3_ok hL)) ((q0_ok hL))) m290_run
noncomputable def h421 : H := hUpd h385 1299 [] [] [(303, 0, [IZ (-1), I 35, I 8])]
noncomputable def h422 : H := hUpd h386 1774 [] [] [(303, 0, [IZ (-1), I 35, I 12])]
noncomputable def m291 : Memo := ⟨[.ptr 311 0, .agg [.slice 36 0 1 1 1 true, I 1, .snil, bF]], h421, .tuple [I 2, .inil], h422⟩
theorem m291_run : ranTo (evCall (cxX Tryd.prog bad [] [] ((44, pureFn l6) :: q0)) 1000 60 21 m291.args m291.h) m291.v m291.h' = true := by kernel_rfl
theorem m291_ok {σ : Nat → Int} {W0 : World} (hL : L0 W0) : MemoOk Tryd.prog 4095 σ W0 21 m291 := memo_ok fit (Known2.nil σ) (FnsOk.cons (pure_fn_ok (l6_ok hL)) ((q0_ok hL))) m291_run
noncomputable def h423 : H := hUpd h387 1777 [] [] [(303, 0, [IZ (-1), I 35, I 12])]
noncomputable def h424 : H := hUpd h388 2252 [] [] [(303, 0, [IZ (-1), I 35, I 16])]
noncomputable def m292 : Memo := ⟨[.ptr 311 0, .agg [.slice 39 0 1 1 1 true, I 1, .snil, bF]], h423, .tuple [I 3, .inil], h424⟩
theorem m292_run : ranTo (evCall (cxX Tryd.prog bad [] [] ((44, pureFn l13) :: q0)) 1000 60 21 m292.args m292.h) m292.v m292.h' = true := by kernel_rfl
theorem m292_ok {σ : Nat → Int} {W0 : World} (hL : L0 W0) : MemoOk Tryd.prog 4095 σ W0 21 m292 := memo_ok fit (Known2.nil σ) (FnsOk.cons (pure_fn_ok (l13_ok hL)) ((q0_ok hL))) m292_run
noncomputable def h425 : H := hUpd h389 2255 [] [] [(303, 0, [IZ (-1), I 35, I 16])]
noncomputable def h426 : H := hUpd h390 2730 [] [] [(303, 0, [IZ (-1), I 35, I 20])]
noncomputable def m293 : Memo := ⟨[.ptr 311 0, .agg [.slice 42 0 1 1 1 true, I 1, .snil, bF]], h425, .tuple [I 4, .inil], h426⟩
theorem m293_run : ranTo (evCall (cxX Tryd.prog bad [] [] ((44, pureFn l20) :: q0)) 1000 60 21 m293.args m293.h) m293.v m293.h' = true := by kernel_rfl
theorem m293_ok {σ : Nat → Int} {W0 : World} (hL : L0 W0) : MemoOk Tryd.prog 4095 σ W0 21 m293 := memo_ok fit (Known2.nil σ) (FnsOk.cons (pure_fn_ok (l20_ok hL)) ((q0_ok hL))) m293_run
noncomputable def h427 : H := hUpd h391 2733 [] [] [(303, 0, [IZ (-1), I 35, I 20])]
noncomputable def h428 : H := hUpd h392 3208 [] [] [(303, 0, [IZ (-1), I 35, I 24])]
noncomputable def m294 : Memo := ⟨[.ptr 311 0, .agg [.slice 45 0 1 1 1 true, I 1, .snil, bF]], h427, .tuple [I 5, .inil], h428⟩
theorem m294_run : ranTo (evCall (cxX Tryd.prog bad [] [] ((44, pureFn l27) :: q0)) 1000 60 21 m294.args m294.h) m294.v m294.h' = true := by kernel_rfl
theorem m294_ok {σ : Nat → Int} {W0 : World} (hL : L0 W0) : MemoOk Tryd.prog 4095 σ W0 21 m294 := memo_ok fit (Known2.nil σ) (FnsOk.cons (pure_fn_ok (l27_ok hL)) ((q0_ok hL))) m294_run
noncomputable def h429 : H := hUpd h393 3211 [] [] [(303, 0, [IZ (-1), I 35, I 24])]
noncomputable def h430 : H := hUpd h394 3686 [] [] [(303, 0, [IZ (-1), I 35, I 28])]
noncomputable def m295 : Memo := ⟨[.ptr 311 0, .agg [.slice 48 0 1 1 1 true, I 1, .snil, bF]], h429, .tuple [I 6, .inil], h430⟩
theorem m295_run : ranTo (evCall (cxX Tryd.prog bad [] [] ((44, pureFn l34) :: q0)) 1000 60 21 m295.args m295.h) m295.v m295.h' = true := by kernel_rfl
theorem m295_ok {σ : Nat → Int} {W0 : World} (hL : L0 W0) : MemoOk Tryd.prog 4095 σ W0 21 m295 := memo_ok fit (Known2.nil σ) (FnsOk.cons (pure_fn_ok (l34_ok hL)) ((q0_ok hL))) m295_run
noncomputable def h431 : H := hUpd h395 3689 [] [] [(303, 0, [IZ (-1), I 35, I 28])]
noncomputable def h432 : H := hUpd h396 4164 [] [] [(303, 0, [IZ (-1), I 35, I 32])]
noncomputable def m296 : Memo := ⟨[.ptr 311 0, .agg [.slice 51 0 1 1 1 true, I 1, .snil, bF]], h431, .tuple [I 7, .inil], h432⟩
theorem m296_run : ranTo (evCall (cxX Tryd.prog bad [] [] ((44, pureFn l41) :: q0)) 1000 60 21 m296.args m296.h) m296.v m296.h' = true := by kernel_rfl
theorem m296_ok {σ : Nat → Int} {W0 : World} (hL : L0 W0) : MemoOk Tryd.prog 4095 σ W0 21 m296 := memo_ok fit (Known2.nil σ) (FnsOk.cons (pure_fn_ok (l41_ok hL)) ((q0_ok hL))) m296_run
noncomputable def h433 : H := hUpd h397 4167 [] [] [(303, 0, [IZ (-1), I 35, I 32])]
noncomputable def h434 : H := hUpc h416 4435 [] [(304, .map [(.agg [I 3, I 0], .agg [I 0, I 0], 0), (.agg [I 3, I 1], .agg [I 0, I 0], 1), (.agg [I 2, I 0], .agg [I 0, I 0], 2), (.agg [I 4, I 0], .agg [I 0, I 0], 3), (.agg [I 3, I 2], .agg [I 0, I 0], 4), (.agg [I 3, I 3], .agg [I 0, I 0], 5), (.agg [I 2, I 1], .agg [I 0, I 0], 6), (.agg [I 4, I 1], .agg [I 0, I 0], 7), (.agg [I 3, I 4], .agg [I 0, I 0], 8), (.agg [I 3, I 5], .agg [I 0, I 0], 9), (.agg [I 2, I 2], .agg [I 0, I 0], 10), (.agg [I 4, I 2], .agg [I 0, I 0], 11), (.agg [I 3, I 6], .agg [I 0, I 0], 12), (.agg [I 3, I 7], .agg [I 0, I 0], 13), (.agg [I 2, I 3], .agg [I 0, I 0], 14), (.agg [I 4, I 3], .agg [I 0, I 0], 15), (.agg [I 3, I 8], .agg [I 0, I 0], 16), (.agg [I 3, I 9], .agg [I 0, I 0], 17), (.agg [I 2, I 4], .agg [I 0, I 0], 18), (.agg [I 4, I 4], .agg [I 0, I 0], 19), (.agg [I 3, I 10], .agg [I 0, I 0], 20), (.agg [I 3, I 11], .agg [I 0, I 0], 21), (.agg [I 2, I 5], .agg [I 0, I 0], 22), (.agg [I 4, I 5], .agg [I 0, I 0], 23), (.agg [I 3, I 12], .agg [I 0, I 0], 24), (.agg [I 3, I 13], .agg [I 0, I 0], 25), (.agg [I 2, I 6], .agg [I 0, I 0], 26), (.agg [I 4, I 6], .agg [I 0, I 0], 27), (.agg [I 3, I 14], .agg [I 0, I 0], 28), (.agg [I 3, I 15], .agg [I 0, I 0], 29), (.agg [I 2, I 7], .agg [I 0, I 0], 30), (.agg [I 4, I 7], .agg [I 0, I 0], 31), (.agg [I 3, I 16], .agg [I 0, I 0], 32), (.agg [I 3, I 17], .agg [I 0, I 0], 33), (.agg [I 2, I 8], .agg [I 0, I 0], 34)] 35)] [(258, 8, [bT, I 0, bF]),
  (303, 0, [IZ (-1), I 35, I 35])] [(260, 8, 0, I 3), (260, 8, 1, I 16), (260, 8, 5, I 3), (260, 8, 6, I 17)]
noncomputable def m297 : Memo := ⟨[.ptr 311 0, .agg [.slice 54 0 1 1 1 true, I 1, .snil, bF]], h433, .tuple [I 0, .iface 240 (.ptr 24 0)], h434⟩
theorem m297_run : ranTo (evCall (cxX Tryd.prog bad [] [] ((44, pureFn [p286, p287]) :: q0)) 1000 60 21 m297.args m297.h) m297.v m297.h' = true := by kernel_rfl
theorem m297_ok {σ : Nat → Int} {W0 : World} (hL : L0 W0) : MemoOk Tryd.prog 4095 σ W0 21 m297 := memo_ok fit (Known2.nil σ) (FnsOk.cons (pure_fn_ok (all_cons (p286_ok hL) (all_cons (p287_ok hL) (all_nil)))) ((q0_ok hL))) m297_run
noncomputable def l47 : List (Memo) := m297 :: m296 :: m295 :: m294 :: m293 :: m292 :: m291 :: m290 :: m289 :: []
theorem l47_ok {σ : Nat → Int} {W0 : World} (hL : L0 W0) : ∀ x ∈ l47, MemoOk Tryd.prog 4095 σ W0 21 x := all_cons (m297_ok hL) (all_cons (m296_ok hL) (all_cons (m295_ok hL) (all_cons (m294_ok hL) (all_cons (m293_ok hL) (all_cons (m292_ok hL) (all_cons (m291_ok hL) (all_cons (m290_ok hL) (all_cons (m289_ok hL) (all_nil)))))))))
theorem run211 : isTrue (evCall (cxX Tryd.prog bad [] [] ((6, numExtE [(0, 10, .lit 8), (1, 60, .lit 35)]) :: (21, frameFn l47) :: q61)) 1000 60 3 [.int .i64 (.var 0), .int .i64 (.var 1), .int .i64 (.var 2)] (sentH 240 18 errTab)) = true := by kernel_rfl
theorem case211 {σ : Nat → Int} {W : World} (hL : L0 W) (hk : Known2 σ [] []) (hT : TabOk Tryd.prog bad 6 σ [(0, 10, .lit 8), (1, 60, .lit 35)]) {xs : Array Value} (hv : ∀ ρ, VRs σ ρ [.int .i64 (.var 0), .int .i64 (.var 1), .int .i64 (.var 2)] xs.toList) : Calls Tryd.prog 3 xs W fun e w' => e = .returned (.bool true) ∧ Below W.heap.size W w' := by
  obtain ⟨ads, h1, h2, h3⟩ := errs_sents hL
  exact law_case_x fit h1 h2 h3 errs_all errs_lt (by kernel_rfl) hk (FnsOk.cons (hT.ok fit) (FnsOk.cons (frame_fn_ok (l47_ok hL)) ((q61_ok hL)))) hv ⟨_, Tryd.func3, rfl⟩ run211
noncomputable def m298 : Memo := ⟨[.ptr 311 0, .agg [.slice 30 0 1 1 1 true, I 1, .snil, bF]], h11, .tuple [I 0, .inil], h12⟩
theorem m298_run : ranTo (evCall (cxX Tryd.prog bad [((-9223372036854775808), 9223372036854775807), ((-9223372036854775808), 9223372036854775807), ((-9223372036854775808), 9223372036854775807), (36, 59)] [] ((44, pureFn l0) :: q0)) 1000 60 21 m298.args m298.h) m298.v m298.h' = true := by kernel_rfl
theorem m298_ok {σ : Nat → Int} {W0 : World} (hL : L0 W0) (hk : Known2 σ [((-9223372036854775808), 9223372036854775807), ((-9223372036854775808), 9223372036854775807), ((-9223372036854775808), 9223372036854775807), (36, 59)] []) : MemoOk Tryd.prog 4095 σ W0 21 m298 := memo_ok fit hk (FnsOk.cons (pure_fn_ok (l0_ok hL)) ((q0_ok hL))) m298_run
noncomputable def m299 : Memo := ⟨[.ptr 311 0, .agg [.slice 33 0 1 1 1 true, I 1, .snil, bF]], h36, .tuple [I 1, .inil], h37⟩
theorem m299_run : ranTo (evCall (cxX Tryd.prog bad [((-9223372036854775808), 9223372036854775807), ((-9223372036854775808), 9223372036854775807), ((-9223372036854775808), 9223372036854775807), (36, 59)] [] ((44, pureFn l3) :: q0)) 1000 60 21 m299.args m299.h) m299.v m299.h' = true := by kernel_rfl
theorem m299_ok {σ : Nat → Int} {W0 : World} (hL : L0 W0) (hk : Known2 σ [((-9223372036854775808), 9223372036854775807), ((-9223372036854775808), 9223372036854775807), ((-9223372036854775808), 9223372036854775807), (36, 59)] []) : MemoOk Tryd.prog 4095 σ W0 21 m299 := memo_ok fit hk (FnsOk.cons (pure_fn_ok (l3_ok hL)) ((q0_ok hL))) m299_run
noncomputable def m300 : Memo := ⟨[.ptr 311 0, .agg [.slice 36 0 1 1 1 true, I 1, .snil, bF]], h69, .tuple [I 2, .inil], h70⟩
theorem m300_run : ranTo (evCall (cxX Tryd.prog bad [((-9223372036854775808), 9223372036854775807), ((-9223372036854775808), 9223372036854775807), ((-9223372036854775808), 9223372036854775807), (36, 59)] [] ((44, pureFn l6) :: q0)) 1000 60 21 m300.args m300.h) m300.v m300.h' = true := by kernel_rfl
theorem m300_ok {σ : Nat → Int} {W0 : World} (hL : L0 W0) (hk : Known2 σ [((-9223372036854775808), 9223372036854775807), ((-9223372036854775808), 9223372036854775807), ((-9223372036854775808), 9223372036854775807), (36, 59)] []) : MemoOk Tryd.prog 4095 σ W0 21 m300 := memo_ok fit hk (FnsOk.cons (pure_fn_ok (l6_ok hL)) ((q0_ok hL))) m300_run
noncomputable def m301 : Memo := ⟨[.ptr 311 0, .agg [.slice 39 0 1 1 1 true, I 1, .snil, bF]], h110, .tuple [I 3, .inil], h111⟩
theorem m301_run : ranTo (evCall (cxX Tryd.prog bad [((-9223372036854775808), 9223372036854775807), ((-9223372036854775808), 9223372036854775807), ((-9223372036854775808), 9223372036854775807), (36, 59)] [] ((44, pureFn l13) :: q0)) 1000 60 21 m301.args m301.h) m301.v m301.h' = true := by kernel_rfl
theorem m301_ok {σ : Nat → Int} {W0 : World} (hL : L0 W0) (hk : Known2 σ [((-9223372036854775808), 9223372036854775807), ((-9223372036854775808), 9223372036854775807), ((-9223372036854775808), 9223372036854775807), (36, 59)] []) : MemoOk Tryd.prog 4095 σ W0 21 m301 := memo_ok fit hk (FnsOk.cons (pure_fn_ok (l13_ok hL)) ((q0_ok hL))) m301_run
noncomputable def m302 : Memo := ⟨[.ptr 311 0, .agg [.slice 42 0 1 1 1 true, I 1, .snil, bF]], h159, .tuple [I 4, .inil], h160⟩
theorem m302_run : ranTo (evCall (cxX Tryd.prog bad [((-9223372036854775808), 9223372036854775807), ((-9223372036854775808), 9223372036854775807), ((-9223372036854775808), 9223372036854775807), (36, 59)] [] ((44, pureFn l20) :: q0)) 1000 60 21 m302.args m302.h) m302.v m302.h' = true := by kernel_rfl
theorem m302_ok {σ : Nat → Int} {W0 : World} (hL : L0 W0) (hk : Known2 σ [((-9223372036854775808), 9223372036854775807), ((-9223372036854775808), 9223372036854775807), ((-9223372036854775808), 9223372036854775807), (36, 59)] []) : MemoOk Tryd.prog 4095 σ W0 21 m302 := memo_ok fit hk (FnsOk.cons (pure_fn_ok (l20_ok hL)) ((q0_ok hL))) m302_run
noncomputable def m303 : Memo := ⟨[.ptr 311 0, .agg [.slice 45 0 1 1 1 true, I 1, .snil, bF]], h216, .tuple [I 5, .inil], h217⟩
theorem m303_run : ranTo (evCall (cxX Tryd.prog bad [((-9223372036854775808), 9223372036854775807), ((-9223372036854775808), 9223372036854775807), ((-9223372036854775808), 9223372036854775807), (36, 59)] [] ((44, pureFn l27) :: q0)) 1000 60 21 m303.args m303.h) m303.v m303.h' = true := by kernel_rfl
theorem m303_ok {σ : Nat → Int} {W0 : World} (hL : L0 W0) (hk : Known2 σ [((-9223372036854775808), 9223372036854775807), ((-9223372036854775808), 9223372036854775807), ((-9223372036854775808), 9223372036854775807), (36, 59)] []) : MemoOk Tryd.prog 4095 σ W0 21 m303 := memo_ok fit hk (FnsOk.cons (pure_fn_ok (l27_ok hL)) ((q0_ok hL))) m303_run
noncomputable def m304 : Memo := ⟨[.ptr 311 0, .agg [.slice 48 0 1 1 1 true, I 1, .snil, bF]], h281, .tuple [I 6, .inil], h282⟩
theorem m304_run : ranTo (evCall (cxX Tryd.prog bad [((-9223372036854775808), 9223372036854775807), ((-9223372036854775808), 9223372036854775807), ((-9223372036854775808), 9223372036854775807), (36, 59)] [] ((44, pureFn l34) :: q0)) 1000 60 21 m304.args m304.h) m304.v m304.h' = true := by kernel_rfl
theorem m304_ok {σ : Nat → Int} {W0 : World} (hL : L0 W0) (hk : Known2 σ [((-9223372036854775808), 9223372036854775807), ((-9223372036854775808), 9223372036854775807), ((-9223372036854775808), 9223372036854775807), (36, 59)] []) : MemoOk Tryd.prog 4095 σ W0 21 m304 := memo_ok fit hk (FnsOk.cons (pure_fn_ok (l34_ok hL)) ((q0_ok hL))) m304_run
noncomputable def m305 : Memo := ⟨[.ptr 311 0, .agg [.slice 51 0 1 1 1 true, I 1, .snil, bF]], h354, .tuple [I 7, .inil], h355⟩
theorem m305_run : ranTo (evCall (cxX Tryd.prog bad [((-9223372036854775808), 9223372036854775807), ((-9223372036854775808), 9223372036854775807), ((-9223372036854775808), 9223372036854775807), (36, 59)] [] ((44, pureFn l41) :: q0)) 1000 60 21 m305.args m305.h) m305.v m305.h' = true := by kernel_rfl
theorem m305_ok {σ : Nat → Int} {W0 : World} (hL : L0 W0) (hk : Known2 σ [((-9223372036854775808), 9223372036854775807), ((-9223372036854775808), 9223372036854775807), ((-9223372036854775808), 9223372036854775807), (36, 59)] []) : MemoOk Tryd.prog 4095 σ W0 21 m305 := memo_ok fit hk (FnsOk.cons (pure_fn_ok (l41_ok hL)) ((q0_ok hL))) m305_run
noncomputable def h435 : H := hUpd h397 4167 [] [] [(303, 0, [IZ (-1), .int .i64 (.var 3), I 32])]
noncomputable def h436 : H := hUpd h434 4435 [] [] [(303, 0, [IZ (-1), .int .i64 (.var 3), I 35])]
noncomputable def m306 : Memo := ⟨[.ptr 311 0, .agg [.slice 54 0 1 1 1 true, I 1, .snil, bF]], h435, .tuple [I 0, .iface 240 (.ptr 23 0)], h436⟩
theorem m306_run : ranTo (evCall (cxX Tryd.prog bad [((-9223372036854775808), 9223372036854775807), ((-9223372036854775808), 9223372036854775807), ((-9223372036854775808), 9223372036854775807), (36, 59)] [] ((44, pureFn [p286, p287]) :: q0)) 1000 60 21 m306.args m306.h) m306.v m306.h' = true := by kernel_rfl
theorem m306_ok {σ : Nat → Int} {W0 : World} (hL : L0 W0) (hk : Known2 σ [((-9223372036854775808), 9223372036854775807), ((-9223372036854775808), 9223372036854775807), ((-9223372036854775808), 9223372036854775807), (36, 59)] []) : MemoOk Tryd.prog 4095 σ W0 21 m306 := memo_ok fit hk (FnsOk.cons (pure_fn_ok (all_cons (p286_ok hL) (all_cons (p287_ok hL) (all_nil)))) ((q0_ok hL))) m306_run
theorem run212 : isTrue (evCall (cxX Tryd.prog bad [((-9223372036854775808), 9223372036854775807), ((-9223372036854775808), 9223372036854775807), ((-9223372036854775808), 9223372036854775807), (36, 59)] [] ((6, numExtE [(0, 10, .lit 8), (1, 60, .var 3)]) :: (21, frameFn [m298, m299, m300, m301, m302, m303, m304, m305, m306]) :: q61)) 1000 60 3 [.int .i64 (.var 0), .int .i64 (.var 1), .int .i64 (.var 2)] (sentH 240 18 errTab)) = true := by kernel_rfl
theorem case212 {σ : Nat → Int} {W : World} (hL : L0 W) (hk : Known2 σ [((-9223372036854775808), 9223372036854775807), ((-9223372036854775808), 9223372036854775807), ((-9223372036854775808), 9223372036854775807), (36, 59)] []) (hT : TabOk Tryd.prog bad 6 σ [(0, 10, .lit 8), (1, 60, .var 3)]) {xs : Array Value} (hv : ∀ ρ, VRs σ ρ [.int .i64 (.var 0), .int .i64 (.var 1), .int .i64 (.var 2)] xs.toList) : Calls Tryd.prog 3 xs W fun e w' => e = .returned (.bool true) ∧ Below W.heap.size W w' := by
  obtain ⟨ads, h1, h2, h3⟩ := errs_sents hL
  exact law_case_x fit h1 h2 h3 errs_all errs_lt (by kernel_rfl) hk (FnsOk.cons (hT.ok fit) (FnsOk.cons (frame_fn_ok (all_cons (m298_ok hL hk) (all_cons (m299_ok hL hk) (all_cons (m300_ok hL hk) (all_cons (m301_ok hL hk) (all_cons (m302_ok hL hk) (all_cons (m303_ok hL hk) (all_cons (m304_ok hL hk) (all_cons (m305_ok hL hk) (all_cons (m306_ok hL hk) (all_nil))))))))))) ((q61_ok hL)))) hv ⟨_, Tryd.func3, rfl⟩ run212
noncomputable def h437 : H := hUpd h0 60 [] [] []
noncomputable def m307 : Memo := ⟨[], h437, .agg [I 16, I 24, I 8, I 12, I 8, I 6], h2⟩
theorem m307_run : ranTo (evCall (cxX Tryd.prog bad [] [] q0) 1000 60 8 m307.args m307.h) m307.v m307.h' = true := by kernel_rfl
theorem m307_ok {σ : Nat → Int} {W0 : World} (hL : L0 W0) : MemoOk Tryd.prog 4095 σ W0 8 m307 := memo_ok fit (Known2.nil σ) ((q0_ok hL)) m307_run
noncomputable def q62 : Fns := [(5, pureFn [p0]), (8, frameFn [m307]), (21, frameFn [m2]), (51, itoaFn), (114, countFn), (129, indexFn)]
theorem q62_ok {σ : Nat → Int} {W0 : World} (hL : L0 W0) : FnsOk Tryd.prog 4095 σ W0 q62 := FnsOk.cons (pure_fn_ok (all_cons (p0_ok hL) (all_nil))) (FnsOk.cons (frame_fn_ok (all_cons (m307_ok hL) (all_nil))) (FnsOk.cons (frame_fn_ok (all_cons (m2_ok hL) (all_nil))) (FnsOk.cons (ext_itoa hL) (FnsOk.cons (ext_count hL) (FnsOk.cons (ext_index hL) (FnsOk.nil))))))
theorem run213 : isTrue (evCall (cxX Tryd.prog bad [] [] ((6, numExtE [(0, 10, .lit 9), (1, 60, .lit 0)]) :: q62)) 1000 60 3 [.int .i64 (.var 0), .int .i64 (.var 1), .int .i64 (.var 2)] (sentH 240 18 errTab)) = true := by kernel_rfl
theorem case213 {σ : Nat → Int} {W : World} (hL : L0 W) (hk : Known2 σ [] []) (hT : TabOk Tryd.prog bad 6 σ [(0, 10, .lit 9), (1, 60, .lit 0)]) {xs : Array Value} (hv : ∀ ρ, VRs σ ρ [.int .i64 (.var 0), .int .i64 (.var 1), .int .i64 (.var 2)] xs.toList) : Calls Tryd.prog 3 xs W fun e w' => e = .returned (.bool true) ∧ Below W.heap.size W w' := by
  obtain ⟨ads, h1, h2, h3⟩ := errs_sents hL
  exact law_case_x fit h1 h2 h3 errs_all errs_lt (by kernel_rfl) hk (FnsOk.cons (hT.ok fit) ((q62_ok hL))) hv ⟨_, Tryd.func3, rfl⟩ run213
noncomputable def q63 : Fns := [(5, pureFn [p0]), (8, frameFn [m307]), (21, frameFn [m3]), (51, itoaFn), (114, countFn), (129, indexFn)]
theorem q63_ok {σ : Nat → Int} {W0 : World} (hL : L0 W0) : FnsOk Tryd.prog 4095 σ W0 q63 := FnsOk.cons (pure_fn_ok (all_cons (p0_ok hL) (all_nil))) (FnsOk.cons (frame_fn_ok (all_cons (m307_ok hL) (all_nil))) (FnsOk.cons (frame_fn_ok (all_cons (m3_ok hL) (all_nil))) (FnsOk.cons (ext_itoa hL) (FnsOk.cons (ext_count hL) (FnsOk.cons (ext_index hL) (FnsOk.nil))))))
theorem run214 : isTrue (evCall (cxX Tryd.prog bad [] [] ((6, numExtE [(0, 10, .lit 9), (1, 60, .lit 1)]) :: q63)) 1000 60 3 [.int .i64 (.var 0), .int .i64 (.var 1), .int .i64 (.var 2)] (sentH 240 18 errTab)) = true := by kernel_rfl
theorem case214 {σ : Nat → Int} {W : World} (hL : L0 W) (hk : Known2 σ [] []) (hT : TabOk Tryd.prog bad 6 σ [(0, 10, .lit 9), (1, 60, .lit 1)]) {xs : Array Value} (hv : ∀ ρ, VRs σ ρ [.int .i64 (.var 0), .int .i64 (.var 1), .int .i64 (.var 2)] xs.toList) : Calls Tryd.prog 3 xs W fun e w' => e = .returned (.bool true) ∧ Below W.heap.size W w' := by
  obtain ⟨ads, h1, h2, h3⟩ := errs_sents hL
  exact law_case_x fit h1 h2 h3 errs_all errs_lt (by kernel_rfl) hk (FnsOk.cons (hT.ok fit) ((q63_ok hL))) hv ⟨_, Tryd.func3, rfl⟩ run214
noncomputable def q64 : Fns := [(5, pureFn [p0]), (8, frameFn [m307]), (21, frameFn [m6]), (51, itoaFn), (114, countFn), (129, indexFn)]
theorem q64_ok {σ : Nat → Int} {W0 : World} (hL : L0 W0) : FnsOk Tryd.prog 4095 σ W0 q64 := FnsOk.cons (pure_fn_ok (all_cons (p0_ok hL) (all_nil))) (FnsOk.cons (frame_fn_ok (all_cons (m307_ok hL) (all_nil))) (FnsOk.cons (frame_fn_ok (all_cons (m6_ok hL) (all_nil))) (FnsOk.cons (ext_itoa hL) (FnsOk.cons (ext_count hL) (FnsOk.cons (ext_index hL) (FnsOk.nil))))))
theorem run215 : isTrue (evCall (cxX Tryd.prog bad [] [] ((6, numExtE [(0, 10, .lit 9), (1, 60, .lit 2)]) :: q64)) 1000 60 3 [.int .i64 (.var 0), .int .i64 (.var 1), .int .i64 (.var 2)] (sentH 240 18 errTab)) = true := by kernel_rfl
theorem case215 {σ : Nat → Int} {W : World} (hL : L0 W) (hk : Known2 σ [] []) (hT : TabOk Tryd.prog bad 6 σ [(0, 10, .lit 9), (1, 60, .lit 2)]) {xs : Array Value} (hv : ∀ ρ, VRs σ ρ [.int .i64 (.var 0), .int .i64 (.var 1), .int .i64 (.var 2)] xs.toList) : Calls Tryd.prog 3 xs W fun e w' => e = .returned (.bool true) ∧ Below W.heap.size W w' := by
  obtain ⟨ads, h1, h2, h3⟩ := errs_sents hL
  exact law_case_x fit h1 h2 h3 errs_all errs_lt (by kernel_rfl) hk (FnsOk.cons (hT.ok fit) ((q64_ok hL))) hv ⟨_, Tryd.func3, rfl⟩ run215
noncomputable def q65 : Fns := [(5, pureFn [p0]), (8, frameFn [m307]), (21, frameFn [m7]), (51, itoaFn), (114, countFn), (129, indexFn)]
theorem q65_ok {σ : Nat → Int} {W0 : World} (hL : L0 W0) : FnsOk Tryd.prog 4095 σ W0 q65 := FnsOk.cons (pure_fn_ok (all_cons (p0_ok hL) (all_nil))) (FnsOk.cons (frame_fn_ok (all_cons (m307_ok hL) (all_nil))) (FnsOk.cons (frame_fn_ok (all_cons (m7_ok hL) (all_nil))) (FnsOk.cons (ext_itoa hL) (FnsOk.cons (ext_count hL) (FnsOk.cons (ext_index hL) (FnsOk.nil))))))
theorem run216 : isTrue (evCall (cxX Tryd.prog bad [] [] ((6, numExtE [(0, 10, .lit 9), (1, 60, .lit 3)]) :: q65)) 1000 60 3 [.int .i64 (.var 0), .int .i64 (.var 1), .int .i64 (.var 2)] (sentH 240 18 errTab)) = true := by kernel_rfl
theorem case216 {σ : Nat → Int} {W : World} (hL : L0 W) (hk : Known2 σ [] []) (hT : TabOk Tryd.prog bad 6 σ [(0, 10, .lit 9), (1, 60, .lit 3)]) {xs : Array Value} (hv : ∀ ρ, VRs σ ρ [.int .i64 (.var 0), .int .i64 (.var 1), .int .i64 (.var 2)] xs.toList) : Calls Tryd.prog 3 xs W fun e w' => e = .returned (.bool true) ∧ Below W.heap.size W w' := by
  obtain ⟨ads, h1, h2, h3⟩ := errs_sents hL
  exact law_case_x fit h1 h2 h3 errs_all errs_lt (by kernel_rfl) hk (FnsOk.cons (hT.ok fit) ((q65_ok hL))) hv ⟨_, Tryd.func3, rfl⟩ run216
noncomputable def q66 : Fns := [(5, pureFn [p0]), (8, frameFn [m307]), (51, itoaFn), (114, countFn), (129, indexFn)]
theorem q66_ok {σ : Nat → Int} {W0 : World} (hL : L0 W0) : FnsOk Tryd.prog 4095 σ W0 q66 := FnsOk.cons (pure_fn_ok (all_cons (p0_ok hL) (all_nil))) (FnsOk.cons (frame_fn_ok (all_cons (m307_ok hL) (all_nil))) (FnsOk.cons (ext_itoa hL) (FnsOk.cons (ext_count hL) (FnsOk.cons (ext_index hL) (FnsOk.nil)))))
theorem run217 : isTrue (evCall (cxX Tryd.prog bad [] [] ((6, numExtE [(0, 10, .lit 9), (1, 60, .lit 4)]) :: (21, frameFn [m22, m23]) :: q66)) 1000 60 3 [.int .i64 (.var 0), .int .i64 (.var 1), .int .i64 (.var 2)] (sentH 240 18 errTab)) = true := by kernel_rfl
theorem case217 {σ : Nat → Int} {W : World} (hL : L0 W) (hk : Known2 σ [] []) (hT : TabOk Tryd.prog bad 6 σ [(0, 10, .lit 9), (1, 60, .lit 4)]) {xs : Array Value} (hv : ∀ ρ, VRs σ ρ [.int .i64 (.var 0), .int .i64 (.var 1), .int .i64 (.var 2)] xs.toList) : Calls Tryd.prog 3 xs W fun e w' => e = .returned (.bool true) ∧ Below W.heap.size W w' := by
  obtain ⟨ads, h1, h2, h3⟩ := errs_sents hL
  exact law_case_x fit h1 h2 h3 errs_all errs_lt (by kernel_rfl) hk (FnsOk.cons (hT.ok fit) (FnsOk.cons (frame_fn_ok (all_cons (m22_ok hL) (all_cons (m23_ok hL) (all_nil)))) ((q66_ok hL)))) hv ⟨_, Tryd.func3, rfl⟩ run217
theorem run218 : isTrue (evCall (cxX Tryd.prog bad [] [] ((6, numExtE [(0, 10, .lit 9), (1, 60, .lit 5)]) :: (21, frameFn [m24, m25]) :: q66)) 1000 60 3 [.int .i64 (.var 0), .int .i64 (.var 1), .int .i64 (.var 2)] (sentH 240 18 errTab)) = true := by kernel_rfl
theorem case218 {σ : Nat → Int} {W : World} (hL : L0 W) (hk : Known2 σ [] []) (hT : TabOk Tryd.prog bad 6 σ [(0, 10, .lit 9), (1, 60, .lit 5)]) {xs : Array Value} (hv : ∀ ρ, VRs σ ρ [.int .i64 (.var 0), .int .i64 (.var 1), .int .i64 (.var 2)] xs.toList) : Calls Tryd.prog 3 xs W fun e w' => e = .returned (.bool true) ∧ Below W.heap.size W w' := by
  obtain ⟨ads, h1, h2, h3⟩ := errs_sents hL
  exact law_case_x fit h1 h2 h3 errs_all errs_lt (by kernel_rfl) hk (FnsOk.cons (hT.ok fit) (FnsOk.cons (frame_fn_ok (all_cons (m24_ok hL) (all_cons (m25_ok hL) (all_nil)))) ((q66_ok hL)))) hv ⟨_, Tryd.func3, rfl⟩ run218
theorem run219 : isTrue (evCall (cxX Tryd.prog bad [] [] ((6, numExtE [(0, 10, .lit 9), (1, 60, .lit 6)]) :: (21, frameFn [m26, m29]) :: q66)) 1000 60 3 [.int .i64 (.var 0), .int .i64 (.var 1), .int .i64 (.var 2)] (sentH 240 18 errTab)) = true := by kernel_rfl
theorem case219 {σ : Nat → Int} {W : World} (hL : L0 W) (hk : Known2 σ [] []) (hT : TabOk Tryd.prog bad 6 σ [(0, 10, .lit 9), (1, 60, .lit 6)]) {xs : Array Value} (hv : ∀ ρ, VRs σ ρ [.int .i64 (.var 0), .int .i64 (.var 1), .int .i64 (.var 2)] xs.toList) : Calls Tryd.prog 3 xs W fun e w' => e = .returned (.bool true) ∧ Below W.heap.size W w' := by
  obtain ⟨ads, h1, h2, h3⟩ := errs_sents hL
  exact law_case_x fit h1 h2 h3 errs_all errs_lt (by kernel_rfl) hk (FnsOk.cons (hT.ok fit) (FnsOk.cons (frame_fn_ok (all_cons (m26_ok hL) (all_cons (m29_ok hL) (all_nil)))) ((q66_ok hL)))) hv ⟨_, Tryd.func3, rfl⟩ run219
theorem run220 : isTrue (evCall (cxX Tryd.prog bad [] [] ((6, numExtE [(0, 10, .lit 9), (1, 60, .lit 7)]) :: (21, frameFn [m30, m31]) :: q66)) 1000 60 3 [.int .i64 (.var 0), .int .i64 (.var 1), .int .i64 (.var 2)] (sentH 240 18 errTab)) = true := by kernel_rfl
theorem case220 {σ : Nat → Int} {W : World} (hL : L0 W) (hk : Known2 σ [] []) (hT : TabOk Tryd.prog bad 6 σ [(0, 10, .lit 9), (1, 60, .lit 7)]) {xs : Array Value} (hv : ∀ ρ, VRs σ ρ [.int .i64 (.var 0), .int .i64 (.var 1), .int .i64 (.var 2)] xs.toList) : Calls Tryd.prog 3 xs W fun e w' => e = .returned (.bool true) ∧ Below W.heap.size W w' := by
  obtain ⟨ads, h1, h2, h3⟩ := errs_sents hL
  exact law_case_x fit h1 h2 h3 errs_all errs_lt (by kernel_rfl) hk (FnsOk.cons (hT.ok fit) (FnsOk.cons (frame_fn_ok (all_cons (m30_ok hL) (all_cons (m31_ok hL) (all_nil)))) ((q66_ok hL)))) hv ⟨_, Tryd.func3, rfl⟩ run220
theorem run221 : isTrue (evCall (cxX Tryd.prog bad [] [] ((6, numExtE [(0, 10, .lit 9), (1, 60, .lit 8)]) :: (21, frameFn [m41, m42, m43]) :: q66)) 1000 60 3 [.int .i64 (.var 0), .int .i64 (.var 1), .int .i64 (.var 2)] (sentH 240 18 errTab)) = true := by kernel_rfl
theorem case221 {σ : Nat → Int} {W : World} (hL : L0 W) (hk : Known2 σ [] []) (hT : TabOk Tryd.prog bad 6 σ [(0, 10, .lit 9), (1, 60, .lit 8)]) {xs : Array Value} (hv : ∀ ρ, VRs σ ρ [.int .i64 (.var 0), .int .i64 (.var 1), .int .i64 (.var 2)] xs.toList) : Calls Tryd.prog 3 xs W fun e w' => e = .returned (.bool true) ∧ Below W.heap.size W w' := by
  obtain ⟨ads, h1, h2, h3⟩ := errs_sents hL
  exact law_case_x fit h1 h2 h3 errs_all errs_lt (by kernel_rfl) hk (FnsOk.cons (hT.ok fit) (FnsOk.cons (frame_fn_ok (all_cons (m41_ok hL) (all_cons (m42_ok hL) (all_cons (m43_ok hL) (all_nil))))) ((q66_ok hL)))) hv ⟨_, Tryd.func3, rfl⟩ run221
theorem run222 : isTrue (evCall (cxX Tryd.prog bad [] [] ((6, numExtE [(0, 10, .lit 9), (1, 60, .lit 9)]) :: (21, frameFn [m44, m45, m46]) :: q66)) 1000 60 3 [.int .i64 (.var 0), .int .i64 (.var 1), .int .i64 (.var 2)] (sentH 240 18 errTab)) = true := by kernel_rfl
theorem case222 {σ : Nat → Int} {W : World} (hL : L0 W) (hk : Known2 σ [] []) (hT : TabOk Tryd.prog bad 6 σ [(0, 10, .lit 9), (1, 60, .lit 9)]) {xs : Array Value} (hv : ∀ ρ, VRs σ ρ [.int .i64 (.var 0), .int .i64 (.var 1), .int .i64 (.var 2)] xs.toList) : Calls Tryd.prog 3 xs W fun e w' => e = .returned (.bool true) ∧ Below W.heap.size W w' := by
  obtain ⟨ads, h1, h2, h3⟩ := errs_sents hL
  exact law_case_x fit h1 h2 h3 errs_all errs_lt (by kernel_rfl) hk (FnsOk.cons (hT.ok fit) (FnsOk.cons (frame_fn_ok (all_cons (m44_ok hL) (all_cons (m45_ok hL) (all_cons (m46_ok hL) (all_nil))))) ((q66_ok hL)))) hv ⟨_, Tryd.func3, rfl⟩ run222
theorem run223 : isTrue (evCall (cxX Tryd.prog bad [] [] ((6, numExtE [(0, 10, .lit 9), (1, 60, .lit 10)]) :: (21, frameFn [m47, m48, m51]) :: q66)) 1000 60 3 [.int .i64 (.var 0), .int .i64 (.var 1), .int .i64 (.var 2)] (sentH 240 18 errTab)) = true := by kernel_rfl
theorem case223 {σ : Nat → Int} {W : World} (hL : L0 W) (hk : Known2 σ [] []) (hT : TabOk Tryd.prog bad 6 σ [(0, 10, .lit 9), (1, 60, .lit 10)]) {xs : Array Value} (hv : ∀ ρ, VRs σ ρ [.int .i64 (.var 0), .int .i64 (.var 1), .int .i64 (.var 2)] xs.toList) : Calls Tryd.prog 3 xs W fun e w' => e = .returned (.bool true) ∧ Below W.heap.size W w' := by
  obtain ⟨ads, h1, h2, h3⟩ := errs_sents hL
  exact law_case_x fit h1 h2 h3 errs_all errs_lt (by kernel_rfl) hk (FnsOk.cons (hT.ok fit) (FnsOk.cons (frame_fn_ok (all_cons (m47_ok hL) (all_cons (m48_ok hL) (all_cons (m51_ok hL) (all_nil))))) ((q66_ok hL)))) hv ⟨_, Tryd.func3, rfl⟩ run223
theorem run224 : isTrue (evCall (cxX Tryd.prog bad [] [] ((6, numExtE [(0, 10, .lit 9), (1, 60, .lit 11)]) :: (21, frameFn [m52, m53, m54]) :: q66)) 1000 60 3 [.int .i64 (.var 0), .int .i64 (.var 1), .int .i64 (.var 2)] (sentH 240 18 errTab)) = true := by kernel_rfl
theorem case224 {σ : Nat → Int} {W : World} (hL : L0 W) (hk : Known2 σ [] []) (hT : TabOk Tryd.prog bad 6 σ [(0, 10, .lit 9), (1, 60, .lit 11)]) {xs : Array Value} (hv : ∀ ρ, VRs σ ρ [.int .i64 (.var 0), .int .i64 (.var 1), .int .i64 (.var 2)] xs.toList) : Calls Tryd.prog 3 xs W fun e w' => e = .returned (.bool true) ∧ Below W.heap.size W w' := by
  obtain ⟨ads, h1, h2, h3⟩ := errs_sents hL
  exact law_case_x fit h1 h2 h3 errs_all errs_lt (by kernel_rfl) hk (FnsOk.cons (hT.ok fit) (FnsOk.cons (frame_fn_ok (all_cons (m52_ok hL) (all_cons (m53_ok hL) (all_cons (m54_ok hL) (all_nil))))) ((q66_ok hL)))) hv ⟨_, Tryd.func3, rfl⟩ run224
theorem run225 : isTrue (evCall (cxX Tryd.prog bad [] [] ((6, numExtE [(0, 10, .lit 9), (1, 60, .lit 12)]) :: (21, frameFn l9) :: q66)) 1000 60 3 [.int .i64 (.var 0), .int .i64 (.var 1), .int .i64 (.var 2)] (sentH 240 18 errTab)) = true := by kernel_rfl
theorem case225 {σ : Nat → Int} {W : World} (hL : L0 W) (hk : Known2 σ [] []) (hT : TabOk Tryd.prog bad 6 σ [(0, 10, .lit 9), (1, 60, .lit 12)]) {xs : Array Value} (hv : ∀ ρ, VRs σ ρ [.int .i64 (.var 0), .int .i64 (.var 1), .int .i64 (.var 2)] xs.toList) : Calls Tryd.prog 3 xs W fun e w' => e = .returned (.bool true) ∧ Below W.heap.size W w' := by
  obtain ⟨ads, h1, h2, h3⟩ := errs_sents hL
  exact law_case_x fit h1 h2 h3 errs_all errs_lt (by kernel_rfl) hk (FnsOk.cons (hT.ok fit) (FnsOk.cons (frame_fn_ok (l9_ok hL)) ((q66_ok hL)))) hv ⟨_, Tryd.func3, rfl⟩ run225
theorem run226 : isTrue (evCall (cxX Tryd.prog bad [] [] ((6, numExtE [(0, 10, .lit 9), (1, 60, .lit 13)]) :: (21, frameFn l10) :: q66)) 1000 60 3 [.int .i64 (.var 0), .int .i64 (.var 1), .int .i64 (.var 2)] (sentH 240 18 errTab)) = true := by kernel_rfl
theorem case226 {σ : Nat → Int} {W : World} (hL : L0 W) (hk : Known2 σ [] []) (hT : TabOk Tryd.prog bad 6 σ [(0, 10, .lit 9), (1, 60, .lit 13)]) {xs : Array Value} (hv : ∀ ρ, VRs σ ρ [.int .i64 (.var 0), .int .i64 (.var 1), .int .i64 (.var 2)] xs.toList) : Calls Tryd.prog 3 xs W fun e w' => e = .returned (.bool true) ∧ Below W.heap.size W w' := by
  obtain ⟨ads, h1, h2, h3⟩ := errs_sents hL
  exact law_case_x fit h1 h2 h3 errs_all errs_lt (by kernel_rfl) hk (FnsOk.cons (hT.ok fit) (FnsOk.cons (frame_fn_ok (l10_ok hL)) ((q66_ok hL)))) hv ⟨_, Tryd.func3, rfl⟩ run226
theorem run227 : isTrue (evCall (cxX Tryd.prog bad [] [] ((6, numExtE [(0, 10, .lit 9), (1, 60, .lit 14)]) :: (21, frameFn l11) :: q66)) 1000 60 3 [.int .i64 (.var 0), .int .i64 (.var 1), .int .i64 (.var 2)] (sentH 240 18 errTab)) = true := by kernel_rfl
theorem case227 {σ : Nat → Int} {W : World} (hL : L0 W) (hk : Known2 σ [] []) (hT : TabOk Tryd.prog bad 6 σ [(0, 10, .lit 9), (1, 60, .lit 14)]) {xs : Array Value} (hv : ∀ ρ, VRs σ ρ [.int .i64 (.var 0), .int .i64 (.var 1), .int .i64 (.var 2)] xs.toList) : Calls Tryd.prog 3 xs W fun e w' => e = .returned (.bool true) ∧ Below W.heap.size W w' := by
  obtain ⟨ads, h1, h2, h3⟩ := errs_sents hL
  exact law_case_x fit h1 h2 h3 errs_all errs_lt (by kernel_rfl) hk (FnsOk.cons (hT.ok fit) (FnsOk.cons (frame_fn_ok (l11_ok hL)) ((q66_ok hL)))) hv ⟨_, Tryd.func3, rfl⟩ run227
theorem run228 : isTrue (evCall (cxX Tryd.prog bad [] [] ((6, numExtE [(0, 10, .lit 9), (1, 60, .lit 15)]) :: (21, frameFn l12) :: q66)) 1000 60 3 [.int .i64 (.var 0), .int .i64 (.var 1), .int .i64 (.var 2)] (sentH 240 18 errTab)) = true := by kernel_rfl
theorem case228 {σ : Nat → Int} {W : World} (hL : L0 W) (hk : Known2 σ [] []) (hT : TabOk Tryd.prog bad 6 σ [(0, 10, .lit 9), (1, 60, .lit 15)]) {xs : Array Value} (hv : ∀ ρ, VRs σ ρ [.int .i64 (.var 0), .int .i64 (.var 1), .int .i64 (.var 2)] xs.toList) : Calls Tryd.prog 3 xs W fun e w' => e = .returned (.bool true) ∧ Below W.heap.size W w' := by
  obtain ⟨ads, h1, h2, h3⟩ := errs_sents hL
  exact law_case_x fit h1 h2 h3 errs_all errs_lt (by kernel_rfl) hk (FnsOk.cons (hT.ok fit) (FnsOk.cons (frame_fn_ok (l12_ok hL)) ((q66_ok hL)))) hv ⟨_, Tryd.func3, rfl⟩ run228
theorem run229 : isTrue (evCall (cxX Tryd.prog bad [] [] ((6, numExtE [(0, 10, .lit 9), (1, 60, .lit 16)]) :: (21, frameFn l16) :: q66)) 1000 60 3 [.int .i64 (.var 0), .int .i64 (.var 1), .int .i64 (.var 2)] (sentH 240 18 errTab)) = true := by kernel_rfl
theorem case229 {σ : Nat → Int} {W : World} (hL : L0 W) (hk : Known2 σ [] []) (hT : TabOk Tryd.prog bad 6 σ [(0, 10, .lit 9), (1, 60, .lit 16)]) {xs : Array Value} (hv : ∀ ρ, VRs σ ρ [.int .i64 (.var 0), .int .i64 (.var 1), .int .i64 (.var 2)] xs.toList) : Calls Tryd.prog 3 xs W fun e w' => e = .returned (.bool true) ∧ Below W.heap.size W w' := by
  obtain ⟨ads, h1, h2, h3⟩ := errs_sents hL
  exact law_case_x fit h1 h2 h3 errs_all errs_lt (by kernel_rfl) hk (FnsOk.cons (hT.ok fit) (FnsOk.cons (frame_fn_ok (l16_ok hL)) ((q66_ok hL)))) hv ⟨_, Tryd.func3, rfl⟩ run229
theorem run230 : isTrue (evCall (cxX Tryd.prog bad [] [] ((6, numExtE [(0, 10, .lit 9), (1, 60, .lit 17)]) :: (21, frameFn l17) :: q66)) 1000 60 3 [.int .i64 (.var 0), .int .i64 (.var 1), .int .i64 (.var 2)] (sentH 240 18 errTab)) = true := by kernel_rfl
theorem case230 {σ : Nat → Int} {W : World} (hL : L0 W) (hk : Known2 σ [] []) (hT : TabOk Tryd.prog bad 6 σ [(0, 10, .lit 9), (1, 60, .lit 17)]) {xs : Array Value} (hv : ∀ ρ, VRs σ ρ [.int .i64 (.var 0), .int .i64 (.var 1), .int .i64 (.var 2)] xs.toList) : Calls Tryd.prog 3 xs W fun e w' => e = .returned (.bool true) ∧ Below W.heap.size W w' := by
  obtain ⟨ads, h1, h2, h3⟩ := errs_sents hL
  exact law_case_x fit h1 h2 h3 errs_all errs_lt (by kernel_rfl) hk (FnsOk.cons (hT.ok fit) (FnsOk.cons (frame_fn_ok (l17_ok hL)) ((q66_ok hL)))) hv ⟨_, Tryd.func3, rfl⟩ run230
theorem run231 : isTrue (evCall (cxX Tryd.prog bad [] [] ((6, numExtE [(0, 10, .lit 9), (1, 60, .lit 18)]) :: (21, frameFn l18) :: q66)) 1000 60 3 [.int .i64 (.var 0), .int .i64 (.var 1), .int .i64 (.var 2)] (sentH 240 18 errTab)) = true := by kernel_rfl
theorem case231 {σ : Nat → Int} {W : World} (hL : L0 W) (hk : Known2 σ [] []) (hT : TabOk Tryd.prog bad 6 σ [(0, 10, .lit 9), (1, 60, .lit 18)]) {xs : Array Value} (hv : ∀ ρ, VRs σ ρ [.int .i64 (.var 0), .int .i64 (.var 1), .int .i64 (.var 2)] xs.toList) : Calls Tryd.prog 3 xs W fun e w' => e = .returned (.bool true) ∧ Below W.heap.size W w' := by
  obtain ⟨ads, h1, h2, h3⟩ := errs_sents hL
  exact law_case_x fit h1 h2 h3 errs_all errs_lt (by kernel_rfl) hk (FnsOk.cons (hT.ok fit) (FnsOk.cons (frame_fn_ok (l18_ok hL)) ((q66_ok hL)))) hv ⟨_, Tryd.func3, rfl⟩ run231
theorem run232 : isTrue (evCall (cxX Tryd.prog bad [] [] ((6, numExtE [(0, 10, .lit 9), (1, 60, .lit 19)]) :: (21, frameFn l19) :: q66)) 1000 60 3 [.int .i64 (.var 0), .int .i64 (.var 1), .int .i64 (.var 2)] (sentH 240 18 errTab)) = true := by kernel_rfl
theorem case232 {σ : Nat → Int} {W : World} (hL : L0 W) (hk : Known2 σ [] []) (hT : TabOk Tryd.prog bad 6 σ [(0, 10, .lit 9), (1, 60, .lit 19)]) {xs : Array Value} (hv : ∀ ρ, VRs σ ρ [.int .i64 (.var 0), .int .i64 (.var 1), .int .i64 (.var 2)] xs.toList) : Calls Tryd.prog 3 xs W fun e w' => e = .returned (.bool true) ∧ Below W.heap.size W w' := by
  obtain ⟨ads, h1, h2, h3⟩ := errs_sents hL
  exact law_case_x fit h1 h2 h3 errs_all errs_lt (by kernel_rfl) hk (FnsOk.cons (hT.ok fit) (FnsOk.cons (frame_fn_ok (l19_ok hL)) ((q66_ok hL)))) hv ⟨_, Tryd.func3, rfl⟩ run232
theorem run233 : isTrue (evCall (cxX Tryd.prog bad [] [] ((6, numExtE [(0, 10, .lit 9), (1, 60, .lit 20)]) :: (21, frameFn l23) :: q66)) 1000 60 3 [.int .i64 (.var 0), .int .i64 (.var 1), .int .i64 (.var 2)] (sentH 240 18 errTab)) = true := by kernel_rfl
theorem case233 {σ : Nat → Int} {W : World} (hL : L0 W) (hk : Known2 σ [] []) (hT : TabOk Tryd.prog bad 6 σ [(0, 10, .lit 9), (1, 60, .lit 20)]) {xs : Array Value} (hv : ∀ ρ, VRs σ ρ [.int .i64 (.var 0), .int .i64 (.var 1), .int .i64 (.var 2)] xs.toList) : Calls Tryd.prog 3 xs W fun e w' => e = .returned (.bool true) ∧ Below W.heap.size W w' := by
  obtain ⟨ads, h1, h2, h3⟩ := errs_sents hL
  exact law_case_x fit h1 h2 h3 errs_all errs_lt (by kernel_rfl) hk (FnsOk.cons (hT.ok fit) (FnsOk.cons (frame_fn_ok (l23_ok hL)) ((q66_ok hL)))) hv ⟨_, Tryd.func3, rfl⟩ run233
theorem run234 : isTrue (evCall (cxX Tryd.prog bad [] [] ((6, numExtE [(0, 10, .lit 9), (1, 60, .lit 21)]) :: (21, frameFn l24) :: q66)) 1000 60 3 [.int .i64 (.var 0), .int .i64 (.var 1), .int .i64 (.var 2)] (sentH 240 18 errTab)) = true := by kernel_rfl
theorem case234 {σ : Nat → Int} {W : World} (hL : L0 W) (hk : Known2 σ [] []) (hT : TabOk Tryd.prog bad 6 σ [(0, 10, .lit 9), (1, 60, .lit 21)]) {xs : Array Value} (hv : ∀ ρ, VRs σ ρ [.int .i64 (.var 0), .int .i64 (.var 1), .int .i64 (.var 2)] xs.toList) : Calls Tryd.prog 3 xs W fun e w' => e = .returned (.bool true) ∧ Below W.heap.size W w' := by
  obtain ⟨ads, h1, h2, h3⟩ := errs_sents hL
  exact law_case_x fit h1 h2 h3 errs_all errs_lt (by kernel_rfl) hk (FnsOk.cons (hT.ok fit) (FnsOk.cons (frame_fn_ok (l24_ok hL)) ((q66_ok hL)))) hv ⟨_, Tryd.func3, rfl⟩ run234
theorem run235 : isTrue (evCall (cxX Tryd.prog bad [] [] ((6, numExtE [(0, 10, .lit 9), (1, 60, .lit 22)]) :: (21, frameFn l25) :: q66)) 1000 60 3 [.int .i64 (.var 0), .int .i64 (.var 1), .int .i64 (.var 2)] (sentH 240 18 errTab)) = true := by kernel_rfl
theorem case235 {σ : Nat → Int} {W : World} (hL : L0 W) (hk : Known2 σ [] []) (hT : TabOk Tryd.prog bad 6 σ [(0, 10, .lit 9), (1, 60, .lit 22)]) {xs : Array Value} (hv : ∀ ρ, VRs σ ρ [.int .i64 (.var 0), .int .i64 (.var 1), .int .i64 (.var 2)] xs.toList) : Calls Tryd.prog 3 xs W fun e w' => e = .returned (.bool true) ∧ Below W.heap.size W w' := by
  obtain ⟨ads, h1, h2, h3⟩ := errs_sents hL
  exact law_case_x fit h1 h2 h3 errs_all errs_lt (by kernel_rfl) hk (FnsOk.cons (hT.ok fit) (FnsOk.cons (frame_fn_ok (l25_ok hL)) ((q66_ok hL)))) hv ⟨_, Tryd.func3, rfl⟩ run235
theorem run236 : isTrue (evCall (cxX Tryd.prog bad [] [] ((6, numExtE [(0, 10, .lit 9), (1, 60, .lit 23)]) :: (21, frameFn l26) :: q66)) 1000 60 3 [.int .i64 (.var 0), .int .i64 (.var 1), .int .i64 (.var 2)] (sentH 240 18 errTab)) = true := by kernel_rfl
theorem case236 {σ : Nat → Int} {W : World} (hL : L0 W) (hk : Known2 σ [] []) (hT : TabOk Tryd.prog bad 6 σ [(0, 10, .lit 9), (1, 60, .lit 23)]) {xs : Array Value} (hv : ∀ ρ, VRs σ ρ [.int .i64 (.var 0), .int .i64 (.var 1), .int .i64 (.var 2)] xs.toList) : Calls Tryd.prog 3 xs W fun e w' => e = .returned (.bool true) ∧ Below W.heap.size W w' := by
  obtain ⟨ads, h1, h2, h3⟩ := errs_sents hL
  exact law_case_x fit h1 h2 h3 errs_all errs_lt (by kernel_rfl) hk (FnsOk.cons (hT.ok fit) (FnsOk.cons (frame_fn_ok (l26_ok hL)) ((q66_ok hL)))) hv ⟨_, Tryd.func3, rfl⟩ run236
theorem run237 : isTrue (evCall (cxX Tryd.prog bad [] [] ((6, numExtE [(0, 10, .lit 9), (1, 60, .lit 24)]) :: (21, frameFn l30) :: q66)) 1000 60 3 [.int .i64 (.var 0), .int .i64 (.var 1), .int .i64 (.var 2)] (sentH 240 18 errTab)) = true := by kernel_rfl
theorem case237 {σ : Nat → Int} {W : World} (hL : L0 W) (hk : Known2 σ [] []) (hT : TabOk Tryd.prog bad 6 σ [(0, 10, .lit 9), (1, 60, .lit 24)]) {xs : Array Value} (hv : ∀ ρ, VRs σ ρ [.int .i64 (.var 0), .int .i64 (.var 1), .int .i64 (.var 2)] xs.toList) : Calls Tryd.prog 3 xs W fun e w' => e = .returned (.bool true) ∧ Below W.heap.size W w' := by
  obtain ⟨ads, h1, h2, h3⟩ := errs_sents hL
  exact law_case_x fit h1 h2 h3 errs_all errs_lt (by kernel_rfl) hk (FnsOk.cons (hT.ok fit) (FnsOk.cons (frame_fn_ok (l30_ok hL)) ((q66_ok hL)))) hv ⟨_, Tryd.func3, rfl⟩ run237
theorem run238 : isTrue (evCall (cxX Tryd.prog bad [] [] ((6, numExtE [(0, 10, .lit 9), (1, 60, .lit 25)]) :: (21, frameFn l31) :: q66)) 1000 60 3 [.int .i64 (.var 0), .int .i64 (.var 1), .int .i64 (.var 2)] (sentH 240 18 errTab)) = true := by kernel_rfl
theorem case238 {σ : Nat → Int} {W : World} (hL : L0 W) (hk : Known2 σ [] []) (hT : TabOk Tryd.prog bad 6 σ [(0, 10, .lit 9), (1, 60, .lit 25)]) {xs : Array Value} (hv : ∀ ρ, VRs σ ρ [.int .i64 (.var 0), .int .i64 (.var 1), .int .i64 (.var 2)] xs.toList) : Calls Tryd.prog 3 xs W fun e w' => e = .returned (.bool true) ∧ Below W.heap.size W w' := by
  obtain ⟨ads, h1, h2, h3⟩ := errs_sents hL
  exact law_case_x fit h1 h2 h3 errs_all errs_lt (by kernel_rfl) hk (FnsOk.cons (hT.ok fit) (FnsOk.cons (frame_fn_ok (l31_ok hL)) ((q66_ok hL)))) hv ⟨_, Tryd.func3, rfl⟩ run238
theorem run239 : isTrue (evCall (cxX Tryd.prog bad [] [] ((6, numExtE [(0, 10, .lit 9), (1, 60, .lit 26)]) :: (21, frameFn l32) :: q66)) 1000 60 3 [.int .i64 (.var 0), .int .i64 (.var 1), .int .i64 (.var 2)] (sentH 240 18 errTab)) = true := by kernel_rfl
theorem case239 {σ : Nat → Int} {W : World} (hL : L0 W) (hk : Known2 σ [] []) (hT : TabOk Tryd.prog bad 6 σ [(0, 10, .lit 9), (1, 60, .lit 26)]) {xs : Array Value} (hv : ∀ ρ, VRs σ ρ [.int .i64 (.var 0), .int .i64 (.var 1), .int .i64 (.var 2)] xs.toList) : Calls Tryd.prog 3 xs W fun e w' => e = .returned (.bool true) ∧ Below W.heap.size W w' := by
  obtain ⟨ads, h1, h2, h3⟩ := errs_sents hL
  exact law_case_x fit h1 h2 h3 errs_all errs_lt (by kernel_rfl) hk (FnsOk.cons (hT.ok fit) (FnsOk.cons (frame_fn_ok (l32_ok hL)) ((q66_ok hL)))) hv ⟨_, Tryd.func3, rfl⟩ run239
theorem run240 : isTrue (evCall (cxX Tryd.prog bad [] [] ((6, numExtE [(0, 10, .lit 9), (1, 60, .lit 27)]) :: (21, frameFn l33) :: q66)) 1000 60 3 [.int .i64 (.var 0), .int .i64 (.var 1), .int .i64 (.var 2)] (sentH 240 18 errTab)) = true := by kernel_rfl
theorem case240 {σ : Nat → Int} {W : World} (hL : L0 W) (hk : Known2 σ [] []) (hT : TabOk Tryd.prog bad 6 σ [(0, 10, .lit 9), (1, 60, .lit 27)]) {xs : Array Value} (hv : ∀ ρ, VRs σ ρ [.int .i64 (.var 0), .int .i64 (.var 1), .int .i64 (.var 2)] xs.toList) : Calls Tryd.prog 3 xs W fun e w' => e = .returned (.bool true) ∧ Below W.heap.size W w' := by
  obtain ⟨ads, h1, h2, h3⟩ := errs_sents hL
  exact law_case_x fit h1 h2 h3 errs_all errs_lt (by kernel_rfl) hk (FnsOk.cons (hT.ok fit) (FnsOk.cons (frame_fn_ok (l33_ok hL)) ((q66_ok hL)))) hv ⟨_, Tryd.func3, rfl⟩ run240
theorem run241 : isTrue (evCall (cxX Tryd.prog bad [] [] ((6, numExtE [(0, 10, .lit 9), (1, 60, .lit 28)]) :: (21, frameFn l37) :: q66)) 1000 60 3 [.int .i64 (.var 0), .int .i64 (.var 1), .int .i64 (.var 2)] (sentH 240 18 errTab)) = true := by kernel_rfl
theorem case241 {σ : Nat → Int} {W : World} (hL : L0 W) (hk : Known2 σ [] []) (hT : TabOk Tryd.prog bad 6 σ [(0, 10, .lit 9), (1, 60, .lit 28)]) {xs : Array Value} (hv : ∀ ρ, VRs σ ρ [.int .i64 (.var 0), .int .i64 (.var 1), .int .i64 (.var 2)] xs.toList) : Calls Tryd.prog 3 xs W fun e w' => e = .returned (.bool true) ∧ Below W.heap.size W w' := by
  obtain ⟨ads, h1, h2, h3⟩ := errs_sents hL
  exact law_case_x fit h1 h2 h3 errs_all errs_lt (by kernel_rfl) hk (FnsOk.cons (hT.ok fit) (FnsOk.cons (frame_fn_ok (l37_ok hL)) ((q66_ok hL)))) hv ⟨_, Tryd.func3, rfl⟩ run241
theorem run242 : isTrue (evCall (cxX Tryd.prog bad [] [] ((6, numExtE [(0, 10, .lit 9), (1, 60, .lit 29)]) :: (21, frameFn l38) :: q66)) 1000 60 3 [.int .i64 (.var 0), .int .i64 (.var 1), .int .i64 (.var 2)] (sentH 240 18 errTab)) = true := by kernel_rfl
theorem case242 {σ : Nat → Int} {W : World} (hL : L0 W) (hk : Known2 σ [] []) (hT : TabOk Tryd.prog bad 6 σ [(0, 10, .lit 9), (1, 60, .lit 29)]) {xs : Array Value} (hv : ∀ ρ, VRs σ ρ [.int .i64 (.var 0), .int .i64 (.var 1), .int .i64 (.var 2)] xs.toList) : Calls Tryd.prog 3 xs W fun e w' => e = .returned (.bool true) ∧ Below W.heap.size W w' := by
  obtain ⟨ads, h1, h2, h3⟩ := errs_sents hL
  exact law_case_x fit h1 h2 h3 errs_all errs_lt (by kernel_rfl) hk (FnsOk.cons (hT.ok fit) (FnsOk.cons (frame_fn_ok (l38_ok hL)) ((q66_ok hL)))) hv ⟨_, Tryd.func3, rfl⟩ run242
theorem run243 : isTrue (evCall (cxX Tryd.prog bad [] [] ((6, numExtE [(0, 10, .lit 9), (1, 60, .lit 30)]) :: (21, frameFn l39) :: q66)) 1000 60 3 [.int .i64 (.var 0), .int .i64 (.var 1), .int .i64 (.var 2)] (sentH 240 18 errTab)) = true := by kernel_rfl
theorem case243 {σ : Nat → Int} {W : World} (hL : L0 W) (hk : Known2 σ [] []) (hT : TabOk Tryd.prog bad 6 σ [(0, 10, .lit 9), (1, 60, .lit 30)]) {xs : Array Value} (hv : ∀ ρ, VRs σ ρ [.int .i64 (.var 0), .int .i64 (.var 1), .int .i64 (.var 2)] xs.toList) : Calls Tryd.prog 3 xs W fun e w' => e = .returned (.bool true) ∧ Below W.heap.size W w' := by
  obtain ⟨ads, h1, h2, h3⟩ := errs_sents hL
  exact law_case_x fit h1 h2 h3 errs_all errs_lt (by kernel_rfl) hk (FnsOk.cons (hT.ok fit) (FnsOk.cons (frame_fn_ok (l39_ok hL)) ((q66_ok hL)))) hv ⟨_, Tryd.func3, rfl⟩ run243
theorem run244 : isTrue (evCall (cxX Tryd.prog bad [] [] ((6, numExtE [(0, 10, .lit 9), (1, 60, .lit 31)]) :: (21, frameFn l40) :: q66)) 1000 60 3 [.int .i64 (.var 0), .int .i64 (.var 1), .int .i64 (.var 2)] (sentH 240 18 errTab)) = true := by kernel_rfl
theorem case244 {σ : Nat → Int} {W : World} (hL : L0 W) (hk : Known2 σ [] []) (hT : TabOk Tryd.prog bad 6 σ [(0, 10, .lit 9), (1, 60, .lit 31)]) {xs : Array Value} (hv : ∀ ρ, VRs σ ρ [.int .i64 (.var 0), .int .i64 (.var 1), .int .i64 (.var 2)] xs.toList) : Calls Tryd.prog 3 xs W fun e w' => e = .returned (.bool true) ∧ Below W.heap.size W w' := by
  obtain ⟨ads, h1, h2, h3⟩ := errs_sents hL
  exact law_case_x fit h1 h2 h3 errs_all errs_lt (by kernel_rfl) hk (FnsOk.cons (hT.ok fit) (FnsOk.cons (frame_fn_ok (l40_ok hL)) ((q66_ok hL)))) hv ⟨_, Tryd.func3, rfl⟩ run244
theorem run245 : isTrue (evCall (cxX Tryd.prog bad [] [] ((6, numExtE [(0, 10, .lit 9), (1, 60, .lit 32)]) :: (21, frameFn l44) :: q66)) 1000 60 3 [.int .i64 (.var 0), .int .i64 (.var 1), .int .i64 (.var 2)] (sentH 240 18 errTab)) = true := by kernel_rfl
theorem case245 {σ : Nat → Int} {W : World} (hL : L0 W) (hk : Known2 σ [] []) (hT : TabOk Tryd.prog bad 6 σ [(0, 10, .lit 9), (1, 60, .lit 32)]) {xs : Array Value} (hv : ∀ ρ, VRs σ ρ [.int .i64 (.var 0), .int .i64 (.var 1), .int .i64 (.var 2)] xs.toList) : Calls Tryd.prog 3 xs W fun e w' => e = .returned (.bool true) ∧ Below W.heap.size W w' := by
  obtain ⟨ads, h1, h2, h3⟩ := errs_sents hL
  exact law_case_x fit h1 h2 h3 errs_all errs_lt (by kernel_rfl) hk (FnsOk.cons (hT.ok fit) (FnsOk.cons (frame_fn_ok (l44_ok hL)) ((q66_ok hL)))) hv ⟨_, Tryd.func3, rfl⟩ run245
theorem run246 : isTrue (evCall (cxX Tryd.prog bad [] [] ((6, numExtE [(0, 10, .lit 9), (1, 60, .lit 33)]) :: (21, frameFn l45) :: q66)) 1000 60 3 [.int .i64 (.var 0), .int .i64 (.var 1), .int .i64 (.var 2)] (sentH 240 18 errTab)) = true := by kernel_rfl
theorem case246 {σ : Nat → Int} {W : World} (hL : L0 W) (hk : Known2 σ [] []) (hT : TabOk Tryd.prog bad 6 σ [(0, 10, .lit 9), (1, 60, .lit 33)]) {xs : Array Value} (hv : ∀ ρ, VRs σ ρ [.int .i64 (.var 0), .int .i64 (.var 1), .int .i64 (.var 2)] xs.toList) : Calls Tryd.prog 3 xs W fun e w' => e = .returned (.bool true) ∧ Below W.heap.size W w' := by
  obtain ⟨ads, h1, h2, h3⟩ := errs_sents hL
  exact law_case_x fit h1 h2 h3 errs_all errs_lt (by kernel_rfl) hk (FnsOk.cons (hT.ok fit) (FnsOk.cons (frame_fn_ok (l45_ok hL)) ((q66_ok hL)))) hv ⟨_, Tryd.func3, rfl⟩ run246
theorem run247 : isTrue (evCall (cxX Tryd.prog bad [] [] ((6, numExtE [(0, 10, .lit 9), (1, 60, .lit 34)]) :: (21, frameFn l46) :: q66)) 1000 60 3 [.int .i64 (.var 0), .int .i64 (.var 1), .int .i64 (.var 2)] (sentH 240 18 errTab)) = true := by kernel_rfl
theorem case247 {σ : Nat → Int} {W : World} (hL : L0 W) (hk : Known2 σ [] []) (hT : TabOk Tryd.prog bad 6 σ [(0, 10, .lit 9), (1, 60, .lit 34)]) {xs : Array Value} (hv : ∀ ρ, VRs σ ρ [.int .i64 (.var 0), .int .i64 (.var 1), .int .i64 (.var 2)] xs.toList) : Calls Tryd.prog 3 xs W fun e w' => e = .returned (.bool true) ∧ Below W.heap.size W w' := by
  obtain ⟨ads, h1, h2, h3⟩ := errs_sents hL
  exact law_case_x fit h1 h2 h3 errs_all errs_lt (by kernel_rfl) hk (FnsOk.cons (hT.ok fit) (FnsOk.cons (frame_fn_ok (l46_ok hL)) ((q66_ok hL)))) hv ⟨_, Tryd.func3, rfl⟩ run247
theorem run248 : isTrue (evCall (cxX Tryd.prog bad [] [] ((6, numExtE [(0, 10, .lit 9), (1, 60, .lit 35)]) :: (21, frameFn l47) :: q66)) 1000 60 3 [.int .i64 (.var 0), .int .i64 (.var 1), .int .i64 (.var 2)] (sentH 240 18 errTab)) = true := by kernel_rfl
theorem case248 {σ : Nat → Int} {W : World} (hL : L0 W) (hk : Known2 σ [] []) (hT : TabOk Tryd.prog bad 6 σ [(0, 10, .lit 9), (1, 60, .lit 35)]) {xs : Array Value} (hv : ∀ ρ, VRs σ ρ [.int .i64 (.var 0), .int .i64 (.var 1), .int .i64 (.var 2)] xs.toList) : Calls Tryd.prog 3 xs W fun e w' => e = .returned (.bool true) ∧ Below W.heap.size W w' := by
  obtain ⟨ads, h1, h2, h3⟩ := errs_sents hL
  exact law_case_x fit h1 h2 h3 errs_all errs_lt (by kernel_rfl) hk (FnsOk.cons (hT.ok fit) (FnsOk.cons (frame_fn_ok (l47_ok hL)) ((q66_ok hL)))) hv ⟨_, Tryd.func3, rfl⟩ run248
theorem run249 : isTrue (evCall (cxX Tryd.prog bad [((-9223372036854775808), 9223372036854775807), ((-9223372036854775808), 9223372036854775807), ((-9223372036854775808), 9223372036854775807), (36, 59)] [] ((6, numExtE [(0, 10, .lit 9), (1, 60, .var 3)]) :: (21, frameFn [m298, m299, m300, m301, m302, m303, m304, m305, m306]) :: q66)) 1000 60 3 [.int .i64 (.var 0), .int .i64 (.var 1), .int .i64 (.var 2)] (sentH 240 18 errTab)) = true := by kernel_rfl
theorem case249 {σ : Nat → Int} {W : World} (hL : L0 W) (hk : Known2 σ [((-9223372036854775808), 9223372036854775807), ((-9223372036854775808), 9223372036854775807), ((-9223372036854775808), 9223372036854775807), (36, 59)] []) (hT : TabOk Tryd.prog bad 6 σ [(0, 10, .lit 9), (1, 60, .var 3)]) {xs : Array Value} (hv : ∀ ρ, VRs σ ρ [.int .i64 (.var 0), .int .i64 (.var 1), .int .i64 (.var 2)] xs.toList) : Calls Tryd.prog 3 xs W fun e w' => e = .returned (.bool true) ∧ Below W.heap.size W w' := by
  obtain ⟨ads, h1, h2, h3⟩ := errs_sents hL
  exact law_case_x fit h1 h2 h3 errs_all errs_lt (by kernel_rfl) hk (FnsOk.cons (hT.ok fit) (FnsOk.cons (frame_fn_ok (all_cons (m298_ok hL hk) (all_cons (m299_ok hL hk) (all_cons (m300_ok hL hk) (all_cons (m301_ok hL hk) (all_cons (m302_ok hL hk) (all_cons (m303_ok hL hk) (all_cons (m304_ok hL hk) (all_cons (m305_ok hL hk) (all_cons (m306_ok hL hk) (all_nil))))))))))) ((q66_ok hL)))) hv ⟨_, Tryd.func3, rfl⟩ run249
end Go.Proofs.YtkfhelmjaoepiaaDoor.bootRoom
