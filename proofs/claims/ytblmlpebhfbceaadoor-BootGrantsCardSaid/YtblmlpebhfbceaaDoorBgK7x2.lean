/- bootGrants: calls that are run once, and the runs of the cases (part 7). -/
import Derived.Test.YtblmlpebhfbceaaDoorBgK4
set_option linter.unusedVariables false
set_option maxRecDepth 10000000
namespace Go.Proofs.YtblmlpebhfbceaaDoor.bootGrants
open Tk
open Go.RowKit
noncomputable abbrev w7x22 : Fx := ((true, x29, .lit 2, true) :: (n1 x29 (n0 x29 ((true, x26, .lit 2, true) :: (n1 x26 (n0 x26 [(true, .var 0, .lit 0, true)]))))))
noncomputable abbrev w7x24 : Fx := (n0 x32 ((true, x29, .lit 2, true) :: (n1 x29 (n0 x29 ((true, x26, .lit 2, true) :: (n1 x26 (n0 x26 [(true, .var 0, .lit 1, true)])))))))
noncomputable abbrev w7x27 : Fx := (n1 (.var 0) (n0 (.var 0) ((false, .var 0, .lit 8, true) :: [(false, .lit 1, .var 0, true), (false, .var 0, .lit 0, false)])))
noncomputable abbrev w7x28 : Fx := ((true, x24, (.lit 0), true) :: (a1 x32 w7x24))
noncomputable abbrev w7x29 : Fx := ((true, x24, (.lit 0), true) :: (a0 x32 w7x22))
noncomputable abbrev w7x20 : Fx := (a1 x38 (n0 x38 ((true, x35, .lit 2, true) :: (n1 x35 (n0 x35 ((true, x32, .lit 2, true) :: (n1 x32 w7x24)))))))
noncomputable abbrev w7x21 : Fx := (a0 x38 ((true, x35, .lit 2, true) :: (n1 x35 (n0 x35 ((true, x32, .lit 2, true) :: (n1 x32 (n0 x32 w7x22)))))))
noncomputable abbrev w7x23 : Fx := ((true, .var 0, .lit 3, false) :: ((true, .var 0, .lit 2, false) :: w7x27))
noncomputable abbrev w7x25 : Fx := ((true, x31, (.lit 0), true) :: ((true, x28, (.lit 0), true) :: ((true, x24, (.lit 0), true) :: w7x21)))
noncomputable abbrev w7x26 : Fx := ((true, x31, (.lit 0), true) :: ((true, x28, (.lit 0), true) :: ((true, x24, (.lit 0), true) :: w7x20)))
theorem case237b : C23 (n0 x31 (a0 x28 (a0 x24 ((true, .var 0, .lit 2, true) :: w7x27)))) := caseW (w := .run) fw23_ok (by kernel_rfl)
theorem case2313b : C23 (n0 x34 (a0 x31 (a0 x28 (a0 x24 ((true, .var 0, .lit 3, true) :: ((true, .var 0, .lit 2, false) :: w7x27)))))) := caseW (w := .run) fw23_ok (by kernel_rfl)
theorem case2318a : C23 (a0 x34 (a0 x31 (a0 x28 (a0 x24 ((true, .var 0, .lit 4, true) :: w7x23))))) := caseW (w := .run) fw23_ok (by kernel_rfl)
theorem case2315b : C23 (n0 x24 ((true, .var 0, .lit 4, true) :: w7x23)) := caseW (w := .run) fw23_ok (by kernel_rfl)
theorem case2321b : C23 (n0 x28 (a0 x24 ((true, .var 0, .lit 5, true) :: ((true, .var 0, .lit 4, false) :: w7x23)))) := caseW (w := .run) fw23_ok (by kernel_rfl)
theorem case2327b : C23 (n0 x31 (a0 x28 (a0 x24 ((true, .var 0, .lit 6, true) :: ((true, .var 0, .lit 5, false) :: ((true, .var 0, .lit 4, false) :: w7x23)))))) := caseW (w := .run) fw23_ok (by kernel_rfl)
theorem case2333b : C23 (n0 x34 (a0 x31 (a0 x28 (a0 x24 ((true, .var 0, .lit 7, true) :: ((true, .var 0, .lit 6, false) :: ((true, .var 0, .lit 5, false) :: ((true, .var 0, .lit 4, false) :: w7x23)))))))) := caseW (w := .run) fw23_ok (by kernel_rfl)
theorem case2329b : C23 ((true, .var 0, .lit 7, false) :: ((true, .var 0, .lit 6, false) :: ((true, .var 0, .lit 5, false) :: ((true, .var 0, .lit 4, false) :: w7x23)))) := caseW (w := (.gone (.var 0) 0 8)) fw23_ok (by kernel_rfl)
theorem case2335b : C23 (n0 x28 (a0 x24 ((false, .var 0, .lit 8, false) :: [(false, .lit 1, .var 0, true), (false, .var 0, .lit 0, false)]))) := caseW (w := .run) fw23_ok (by kernel_rfl)
theorem case244b : C24 (n0 x34 (a0 x31 (a0 x28 (a0 x24 [(false, .var 0, .lit 0, true)])))) := caseW (w := .run) fw24_ok (by kernel_rfl)
theorem case251a_1 : C25 ((true, x24, (.lit 0), true) :: (a0 x26 [(true, .var 0, .lit 0, true)])) := caseOnly [0, 1] 0 (by kernel_rfl)
theorem case251a_2 : C25 ((true, x24, (.lit 0), false) :: (a0 x26 [(true, .var 0, .lit 0, true)])) := caseW (w := .run) fw25_ok (by kernel_rfl)
theorem case251a : C25 (a0 x26 [(true, .var 0, .lit 0, true)]) := caseBy true x24 (.lit 0) case251a_1 case251a_2
theorem case257a_1_1_1 : C25 ((true, x31, (.lit 0), true) :: ((true, x28, (.lit 0), true) :: w7x29)) := caseOnly [0, 3] 0 (by kernel_rfl)
theorem case257a_1_1_2 : C25 ((true, x31, (.lit 0), false) :: ((true, x28, (.lit 0), true) :: w7x29)) := caseW (w := .run) fw25_ok (by kernel_rfl)
theorem case257a_1_1 : C25 ((true, x28, (.lit 0), true) :: w7x29) := caseBy true x31 (.lit 0) case257a_1_1_1 case257a_1_1_2
theorem case257a_1_2 : C25 ((true, x28, (.lit 0), false) :: w7x29) := caseOnly [0, 3, 4, 5] 1 (by kernel_rfl)
theorem case257a_1 : C25 w7x29 := caseBy true x28 (.lit 0) case257a_1_1 case257a_1_2
theorem case257a_2 : C25 ((true, x24, (.lit 0), false) :: (a0 x32 w7x22)) := caseOnly [0, 5, 6, 7] 1 (by kernel_rfl)
theorem case257a : C25 (a0 x32 w7x22) := caseBy true x24 (.lit 0) case257a_1 case257a_2
theorem case2513a_1_1_1_1_1 : C25 ((true, x37, (.lit 0), true) :: ((true, x34, (.lit 0), true) :: w7x25)) := caseOnly [0, 5] 0 (by kernel_rfl)
theorem case2513a_1_1_1_1_2 : C25 ((true, x37, (.lit 0), false) :: ((true, x34, (.lit 0), true) :: w7x25)) := caseW (w := .run) fw25_ok (by kernel_rfl)
theorem case2513a_1_1_1_1 : C25 ((true, x34, (.lit 0), true) :: w7x25) := caseBy true x37 (.lit 0) case2513a_1_1_1_1_1 case2513a_1_1_1_1_2
theorem case2513a_1_1_1_2 : C25 ((true, x34, (.lit 0), false) :: w7x25) := caseOnly [0, 5, 6, 7] 1 (by kernel_rfl)
theorem case2513a_1_1_1 : C25 w7x25 := caseBy true x34 (.lit 0) case2513a_1_1_1_1 case2513a_1_1_1_2
theorem case2513a_1_1_2 : C25 ((true, x31, (.lit 0), false) :: ((true, x28, (.lit 0), true) :: ((true, x24, (.lit 0), true) :: w7x21))) := caseOnly [0, 7, 8, 9] 1 (by kernel_rfl)
theorem case2513a_1_1 : C25 ((true, x28, (.lit 0), true) :: ((true, x24, (.lit 0), true) :: w7x21)) := caseBy true x31 (.lit 0) case2513a_1_1_1 case2513a_1_1_2
theorem case2513a_1_2 : C25 ((true, x28, (.lit 0), false) :: ((true, x24, (.lit 0), true) :: w7x21)) := caseOnly [0, 9, 10, 11] 1 (by kernel_rfl)
theorem case2513a_1 : C25 ((true, x24, (.lit 0), true) :: w7x21) := caseBy true x28 (.lit 0) case2513a_1_1 case2513a_1_2
theorem case2513a_2 : C25 ((true, x24, (.lit 0), false) :: w7x21) := caseOnly [0, 11, 12, 13] 1 (by kernel_rfl)
theorem case2513a : C25 w7x21 := caseBy true x24 (.lit 0) case2513a_1 case2513a_2
theorem case259b : C25 ((true, x32, .lit 2, false) :: (n1 x32 (n0 x32 w7x22))) := caseOnly [0, 1, 2] 0 (by kernel_rfl)
theorem case262a_1 : C26 ((true, x24, (.lit 0), true) :: (a1 x26 (n0 x26 [(true, .var 0, .lit 1, true)]))) := caseOnly [0, 1, 2] 0 (by kernel_rfl)
theorem case262a_2 : C26 ((true, x24, (.lit 0), false) :: (a1 x26 (n0 x26 [(true, .var 0, .lit 1, true)]))) := caseW (w := .run) fw26_ok (by kernel_rfl)
theorem case262a : C26 (a1 x26 (n0 x26 [(true, .var 0, .lit 1, true)])) := caseBy true x24 (.lit 0) case262a_1 case262a_2
theorem case268a_1_1_1 : C26 ((true, x31, (.lit 0), true) :: ((true, x28, (.lit 0), true) :: w7x28)) := caseOnly [0, 3, 4] 1 (by kernel_rfl)
theorem case268a_1_1_2 : C26 ((true, x31, (.lit 0), false) :: ((true, x28, (.lit 0), true) :: w7x28)) := caseW (w := .run) fw26_ok (by kernel_rfl)
theorem case268a_1_1 : C26 ((true, x28, (.lit 0), true) :: w7x28) := caseBy true x31 (.lit 0) case268a_1_1_1 case268a_1_1_2
theorem case268a_1_2 : C26 ((true, x28, (.lit 0), false) :: w7x28) := caseOnly [0, 4, 5, 6] 1 (by kernel_rfl)
theorem case268a_1 : C26 w7x28 := caseBy true x28 (.lit 0) case268a_1_1 case268a_1_2
theorem case268a_2 : C26 ((true, x24, (.lit 0), false) :: (a1 x32 w7x24)) := caseOnly [0, 6, 7, 8] 1 (by kernel_rfl)
theorem case268a : C26 (a1 x32 w7x24) := caseBy true x24 (.lit 0) case268a_1 case268a_2
theorem case2614a_1_1_1_1_1 : C26 ((true, x37, (.lit 0), true) :: ((true, x34, (.lit 0), true) :: w7x26)) := caseOnly [0, 5, 6] 1 (by kernel_rfl)
theorem case2614a_1_1_1_1_2 : C26 ((true, x37, (.lit 0), false) :: ((true, x34, (.lit 0), true) :: w7x26)) := caseW (w := .run) fw26_ok (by kernel_rfl)
theorem case2614a_1_1_1_1 : C26 ((true, x34, (.lit 0), true) :: w7x26) := caseBy true x37 (.lit 0) case2614a_1_1_1_1_1 case2614a_1_1_1_1_2
theorem case2614a_1_1_1_2 : C26 ((true, x34, (.lit 0), false) :: w7x26) := caseOnly [0, 6, 7, 8] 1 (by kernel_rfl)
theorem case2614a_1_1_1 : C26 w7x26 := caseBy true x34 (.lit 0) case2614a_1_1_1_1 case2614a_1_1_1_2
theorem case2614a_1_1_2 : C26 ((true, x31, (.lit 0), false) :: ((true, x28, (.lit 0), true) :: ((true, x24, (.lit 0), true) :: w7x20))) := caseOnly [0, 8, 9, 10] 1 (by kernel_rfl)
theorem case2614a_1_1 : C26 ((true, x28, (.lit 0), true) :: ((true, x24, (.lit 0), true) :: w7x20)) := caseBy true x31 (.lit 0) case2614a_1_1_1 case2614a_1_1_2
theorem case2614a_1_2 : C26 ((true, x28, (.lit 0), false) :: ((true, x24, (.lit 0), true) :: w7x20)) := caseOnly [0, 10, 11, 12] 1 (by kernel_rfl)
theorem case2614a_1 : C26 ((true, x24, (.lit 0), true) :: w7x20) := caseBy true x28 (.lit 0) case2614a_1_1 case2614a_1_2
theorem case2614a_2 : C26 ((true, x24, (.lit 0), false) :: w7x20) := caseOnly [0, 12, 13, 14] 1 (by kernel_rfl)
theorem case2614a : C26 w7x20 := caseBy true x24 (.lit 0) case2614a_1 case2614a_2
theorem case266b : C26 ((true, x29, .lit 2, false) :: (n1 x29 (n0 x29 ((true, x26, .lit 2, true) :: (n1 x26 (n0 x26 [(true, .var 0, .lit 1, true)])))))) := caseOnly [0, 1, 2] 0 (by kernel_rfl)
end Go.Proofs.YtblmlpebhfbceaaDoor.bootGrants
