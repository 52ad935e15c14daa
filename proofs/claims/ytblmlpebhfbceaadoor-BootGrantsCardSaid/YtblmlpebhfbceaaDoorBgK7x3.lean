/- bootGrants: calls that are run once, and the runs of the cases (part 7). -/
import Derived.Test.YtblmlpebhfbceaaDoorBgK4
set_option linter.unusedVariables false
set_option maxRecDepth 10000000
namespace Go.Proofs.YtblmlpebhfbceaaDoor.bootGrants
open Tk
open Go.RowKit
noncomputable abbrev w7x33 : Fx := (n0 x32 ((true, x29, .lit 2, true) :: (n1 x29 (n0 x29 ((true, x26, .lit 2, true) :: (n1 x26 (n0 x26 [(true, .var 0, .lit 0, true)])))))))
noncomputable abbrev w7x36 : Fx := ((true, x26, .lit 2, true) :: (n1 x26 (n0 x26 [(true, .var 0, .lit 1, true)])))
noncomputable abbrev w7x311 : Fx := [(false, .lit 1, .var 0, true), (false, .var 0, .lit 0, false)]
noncomputable abbrev w7x312 : Fx := ((true, x24, (.lit 0), true) :: (a1 x32 w7x33))
noncomputable abbrev w7x30 : Fx := ((true, x32, .lit 2, true) :: (n1 x32 (n0 x32 ((true, x29, .lit 2, true) :: (n1 x29 (n0 x29 w7x36))))))
noncomputable abbrev w7x31 : Fx := (a1 x38 (n0 x38 ((true, x35, .lit 2, true) :: (n1 x35 (n0 x35 ((true, x32, .lit 2, true) :: (n1 x32 w7x33)))))))
noncomputable abbrev w7x34 : Fx := ((true, .var 0, .lit 2, false) :: (n1 (.var 0) (n0 (.var 0) ((false, .var 0, .lit 8, true) :: w7x311))))
noncomputable abbrev w7x35 : Fx := ((true, x31, (.lit 0), true) :: ((true, x28, (.lit 0), true) :: ((true, x24, (.lit 0), true) :: w7x31)))
noncomputable abbrev w7x37 : Fx := ((true, x28, (.lit 0), true) :: ((true, x24, (.lit 0), true) :: (a0 x35 w7x30)))
noncomputable abbrev w7x38 : Fx := (n1 x38 (n0 x38 ((true, x35, .lit 2, true) :: (n1 x35 (n0 x35 w7x30)))))
noncomputable abbrev w7x310 : Fx := ((true, .var 0, .lit 4, false) :: ((true, .var 0, .lit 3, false) :: w7x34))
noncomputable abbrev w7x32 : Fx := ((true, x24, (.lit 0), true) :: ((true, x38, (.lit 2), true) :: w7x38))
noncomputable abbrev w7x39 : Fx := ((true, x31, (.lit 0), true) :: ((true, x28, (.lit 0), true) :: w7x32))
theorem case236b : C23 (n0 x28 (a0 x24 ((true, .var 0, .lit 2, true) :: (n1 (.var 0) (n0 (.var 0) ((false, .var 0, .lit 8, true) :: w7x311)))))) := caseW (w := .run) fw23_ok (by kernel_rfl)
theorem case2312b : C23 (n0 x31 (a0 x28 (a0 x24 ((true, .var 0, .lit 3, true) :: w7x34)))) := caseW (w := .run) fw23_ok (by kernel_rfl)
theorem case2318b : C23 (n0 x34 (a0 x31 (a0 x28 (a0 x24 ((true, .var 0, .lit 4, true) :: ((true, .var 0, .lit 3, false) :: w7x34)))))) := caseW (w := .run) fw23_ok (by kernel_rfl)
theorem case2323a : C23 (a0 x34 (a0 x31 (a0 x28 (a0 x24 ((true, .var 0, .lit 5, true) :: w7x310))))) := caseW (w := .run) fw23_ok (by kernel_rfl)
theorem case2320b : C23 (n0 x24 ((true, .var 0, .lit 5, true) :: w7x310)) := caseW (w := .run) fw23_ok (by kernel_rfl)
theorem case2326b : C23 (n0 x28 (a0 x24 ((true, .var 0, .lit 6, true) :: ((true, .var 0, .lit 5, false) :: w7x310)))) := caseW (w := .run) fw23_ok (by kernel_rfl)
theorem case2332b : C23 (n0 x31 (a0 x28 (a0 x24 ((true, .var 0, .lit 7, true) :: ((true, .var 0, .lit 6, false) :: ((true, .var 0, .lit 5, false) :: w7x310)))))) := caseW (w := .run) fw23_ok (by kernel_rfl)
theorem case2337a : C23 (a0 x34 (a0 x31 (a0 x28 (a0 x24 ((false, .var 0, .lit 8, false) :: w7x311))))) := caseW (w := .run) fw23_ok (by kernel_rfl)
theorem case2334b : C23 (n0 x24 ((false, .var 0, .lit 8, false) :: w7x311)) := caseW (w := .run) fw23_ok (by kernel_rfl)
theorem case243b : C24 (n0 x31 (a0 x28 (a0 x24 [(false, .var 0, .lit 0, true)]))) := caseW (w := .run) fw24_ok (by kernel_rfl)
theorem case252a_1 : C25 ((true, x24, (.lit 0), true) :: (a1 x26 (n0 x26 [(true, .var 0, .lit 0, true)]))) := caseOnly [0, 1, 2] 0 (by kernel_rfl)
theorem case252a_2 : C25 ((true, x24, (.lit 0), false) :: (a1 x26 (n0 x26 [(true, .var 0, .lit 0, true)]))) := caseW (w := .run) fw25_ok (by kernel_rfl)
theorem case252a : C25 (a1 x26 (n0 x26 [(true, .var 0, .lit 0, true)])) := caseBy true x24 (.lit 0) case252a_1 case252a_2
theorem case258a_1_1_1 : C25 ((true, x31, (.lit 0), true) :: ((true, x28, (.lit 0), true) :: w7x312)) := caseOnly [0, 3, 4] 1 (by kernel_rfl)
theorem case258a_1_1_2 : C25 ((true, x31, (.lit 0), false) :: ((true, x28, (.lit 0), true) :: w7x312)) := caseW (w := .run) fw25_ok (by kernel_rfl)
theorem case258a_1_1 : C25 ((true, x28, (.lit 0), true) :: w7x312) := caseBy true x31 (.lit 0) case258a_1_1_1 case258a_1_1_2
theorem case258a_1_2 : C25 ((true, x28, (.lit 0), false) :: w7x312) := caseOnly [0, 4, 5, 6] 1 (by kernel_rfl)
theorem case258a_1 : C25 w7x312 := caseBy true x28 (.lit 0) case258a_1_1 case258a_1_2
theorem case258a_2 : C25 ((true, x24, (.lit 0), false) :: (a1 x32 w7x33)) := caseOnly [0, 6, 7, 8] 1 (by kernel_rfl)
theorem case258a : C25 (a1 x32 w7x33) := caseBy true x24 (.lit 0) case258a_1 case258a_2
theorem case2514a_1_1_1_1_1 : C25 ((true, x37, (.lit 0), true) :: ((true, x34, (.lit 0), true) :: w7x35)) := caseOnly [0, 5, 6] 1 (by kernel_rfl)
theorem case2514a_1_1_1_1_2 : C25 ((true, x37, (.lit 0), false) :: ((true, x34, (.lit 0), true) :: w7x35)) := caseW (w := .run) fw25_ok (by kernel_rfl)
theorem case2514a_1_1_1_1 : C25 ((true, x34, (.lit 0), true) :: w7x35) := caseBy true x37 (.lit 0) case2514a_1_1_1_1_1 case2514a_1_1_1_1_2
theorem case2514a_1_1_1_2 : C25 ((true, x34, (.lit 0), false) :: w7x35) := caseOnly [0, 6, 7, 8] 1 (by kernel_rfl)
theorem case2514a_1_1_1 : C25 w7x35 := caseBy true x34 (.lit 0) case2514a_1_1_1_1 case2514a_1_1_1_2
theorem case2514a_1_1_2 : C25 ((true, x31, (.lit 0), false) :: ((true, x28, (.lit 0), true) :: ((true, x24, (.lit 0), true) :: w7x31))) := caseOnly [0, 8, 9, 10] 1 (by kernel_rfl)
theorem case2514a_1_1 : C25 ((true, x28, (.lit 0), true) :: ((true, x24, (.lit 0), true) :: w7x31)) := caseBy true x31 (.lit 0) case2514a_1_1_1 case2514a_1_1_2
theorem case2514a_1_2 : C25 ((true, x28, (.lit 0), false) :: ((true, x24, (.lit 0), true) :: w7x31)) := caseOnly [0, 10, 11, 12] 1 (by kernel_rfl)
theorem case2514a_1 : C25 ((true, x24, (.lit 0), true) :: w7x31) := caseBy true x28 (.lit 0) case2514a_1_1 case2514a_1_2
theorem case2514a_2 : C25 ((true, x24, (.lit 0), false) :: w7x31) := caseOnly [0, 12, 13, 14] 1 (by kernel_rfl)
theorem case2514a : C25 w7x31 := caseBy true x24 (.lit 0) case2514a_1 case2514a_2
theorem case256b : C25 ((true, x29, .lit 2, false) :: (n1 x29 (n0 x29 ((true, x26, .lit 2, true) :: (n1 x26 (n0 x26 [(true, .var 0, .lit 0, true)])))))) := caseOnly [0, 1, 2] 0 (by kernel_rfl)
theorem case264a_1_1 : C26 ((true, x28, (.lit 0), true) :: ((true, x24, (.lit 0), true) :: (a0 x29 w7x36))) := caseOnly [0, 2] 0 (by kernel_rfl)
theorem case264a_1_2 : C26 ((true, x28, (.lit 0), false) :: ((true, x24, (.lit 0), true) :: (a0 x29 w7x36))) := caseW (w := .run) fw26_ok (by kernel_rfl)
theorem case264a_1 : C26 ((true, x24, (.lit 0), true) :: (a0 x29 w7x36)) := caseBy true x28 (.lit 0) case264a_1_1 case264a_1_2
theorem case264a_2 : C26 ((true, x24, (.lit 0), false) :: (a0 x29 w7x36)) := caseOnly [0, 2, 3, 4] 0 (by kernel_rfl)
theorem case264a : C26 (a0 x29 w7x36) := caseBy true x24 (.lit 0) case264a_1 case264a_2
theorem case2610a_1_1_1_1 : C26 ((true, x34, (.lit 0), true) :: ((true, x31, (.lit 0), true) :: w7x37)) := caseOnly [0, 4] 0 (by kernel_rfl)
theorem case2610a_1_1_1_2 : C26 ((true, x34, (.lit 0), false) :: ((true, x31, (.lit 0), true) :: w7x37)) := caseW (w := .run) fw26_ok (by kernel_rfl)
theorem case2610a_1_1_1 : C26 ((true, x31, (.lit 0), true) :: w7x37) := caseBy true x34 (.lit 0) case2610a_1_1_1_1 case2610a_1_1_1_2
theorem case2610a_1_1_2 : C26 ((true, x31, (.lit 0), false) :: w7x37) := caseOnly [0, 4, 5, 6] 1 (by kernel_rfl)
theorem case2610a_1_1 : C26 w7x37 := caseBy true x31 (.lit 0) case2610a_1_1_1 case2610a_1_1_2
theorem case2610a_1_2 : C26 ((true, x28, (.lit 0), false) :: ((true, x24, (.lit 0), true) :: (a0 x35 w7x30))) := caseOnly [0, 6, 7, 8] 1 (by kernel_rfl)
theorem case2610a_1 : C26 ((true, x24, (.lit 0), true) :: (a0 x35 w7x30)) := caseBy true x28 (.lit 0) case2610a_1_1 case2610a_1_2
theorem case2610a_2 : C26 ((true, x24, (.lit 0), false) :: (a0 x35 w7x30)) := caseOnly [0, 8, 9, 10] 1 (by kernel_rfl)
theorem case2610a : C26 (a0 x35 w7x30) := caseBy true x24 (.lit 0) case2610a_1 case2610a_2
theorem case2614b_1_1_1_1_1_1 : C26 ((true, x37, (.lit 0), true) :: ((true, x34, (.lit 0), true) :: w7x39)) := caseW (w := .run) fw26_ok (by kernel_rfl)
theorem case2614b_1_1_1_1_1_2 : C26 ((true, x37, (.lit 0), false) :: ((true, x34, (.lit 0), true) :: w7x39)) := caseOnly [0, 5, 6, 7] 1 (by kernel_rfl)
theorem case2614b_1_1_1_1_1 : C26 ((true, x34, (.lit 0), true) :: w7x39) := caseBy true x37 (.lit 0) case2614b_1_1_1_1_1_1 case2614b_1_1_1_1_1_2
theorem case2614b_1_1_1_1_2 : C26 ((true, x34, (.lit 0), false) :: w7x39) := caseOnly [0, 7, 8, 9] 1 (by kernel_rfl)
theorem case2614b_1_1_1_1 : C26 w7x39 := caseBy true x34 (.lit 0) case2614b_1_1_1_1_1 case2614b_1_1_1_1_2
theorem case2614b_1_1_1_2 : C26 ((true, x31, (.lit 0), false) :: ((true, x28, (.lit 0), true) :: w7x32)) := caseOnly [0, 9, 10, 11] 1 (by kernel_rfl)
theorem case2614b_1_1_1 : C26 ((true, x28, (.lit 0), true) :: w7x32) := caseBy true x31 (.lit 0) case2614b_1_1_1_1 case2614b_1_1_1_2
theorem case2614b_1_1_2 : C26 ((true, x28, (.lit 0), false) :: w7x32) := caseOnly [0, 11, 12, 13] 1 (by kernel_rfl)
theorem case2614b_1_1 : C26 w7x32 := caseBy true x28 (.lit 0) case2614b_1_1_1 case2614b_1_1_2
theorem case2614b_1_2 : C26 ((true, x24, (.lit 0), false) :: ((true, x38, (.lit 2), true) :: w7x38)) := caseOnly [0, 13, 14, 15] 1 (by kernel_rfl)
theorem case2614b_1 : C26 ((true, x38, (.lit 2), true) :: w7x38) := caseBy true x24 (.lit 0) case2614b_1_1 case2614b_1_2
theorem case2614b_2 : C26 ((true, x38, (.lit 2), false) :: w7x38) := caseOnly [0, 1, 2] 0 (by kernel_rfl)
theorem case2614b : C26 w7x38 := caseBy true x38 (.lit 2) case2614b_1 case2614b_2
theorem case263b : C26 ((true, x26, .lit 2, false) :: (n1 x26 (n0 x26 [(true, .var 0, .lit 1, true)]))) := caseOnly [0, 1, 2] 0 (by kernel_rfl)
end Go.Proofs.YtblmlpebhfbceaaDoor.bootGrants
