/- worldKeeps: calls that are run once, and the runs of the cases (part 1). -/
import Derived.Test.YtkfhelmjaoepiabGreatDoorWkK0
set_option linter.unusedVariables false
set_option maxRecDepth 10000000
namespace Go.Proofs.YtkfhelmjaoepiabGreatDoor.worldKeeps
open Tk
open Go.RowKit
theorem run17 : isTrue (evCall (cxX Tryz.prog bad [] [] ((8, numExtE [(0, 9, .lit 8)]) :: (19, frameFn l13) :: (44, pureFn l10) :: (9, frameFn [m10, m52]) :: q2)) 1000 60 4 [.int .i64 (.var 0), bT] (sentH 453 20 errTab)) = true := by kernel_rfl
theorem case17 : CaseS [] [] [(0, 9, .lit 8)] [.int .i64 (.var 0), bT] := caseS (fun hL hk hT => FnsOk.cons (hT.ok fit) (FnsOk.cons (frame_fn_ok (l13_ok hL)) (FnsOk.cons (pure_fn_ok (l10_ok hL)) (FnsOk.cons (frame_fn_ok (all_cons (m10_ok hL) (all_cons (m52_ok hL) (all_nil)))) ((q2_ok hL)))))) run17
end Go.Proofs.YtkfhelmjaoepiabGreatDoor.worldKeeps
