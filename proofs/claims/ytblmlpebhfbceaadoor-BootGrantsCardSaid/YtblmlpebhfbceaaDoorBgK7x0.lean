/- bootGrants: calls that are run once, and the runs of the cases (part 7). -/
import Derived.Test.YtblmlpebhfbceaaDoorBgK4
set_option linter.unusedVariables false
set_option maxRecDepth 10000000
namespace Go.Proofs.YtblmlpebhfbceaaDoor.bootGrants
open Tk
open Go.RowKit
noncomputable abbrev w7x03 : Fx := ((false, .var 0, .lit 8, true) :: [(false, .lit 1, .var 0, true), (false, .var 0, .lit 0, false)])
noncomputable abbrev w7x04 : Fx := (n0 x29 ((true, x26, .lit 2, true) :: (n1 x26 (n0 x26 [(true, .var 0, .lit 1, true)]))))
noncomputable abbrev w7x05 : Fx := ((true, .var 0, .lit 4, false) :: ((true, .var 0, .lit 3, false) :: ((true, .var 0, .lit 2, false) :: (n1 (.var 0) (n0 (.var 0) w7x03)))))
noncomputable abbrev w7x06 : Fx := ((true, x26, .lit 2, true) :: (n1 x26 (n0 x26 [(true, .var 0, .lit 0, true)])))
noncomputable abbrev w7x00 : Fx := ((true, x32, .lit 2, true) :: (n1 x32 (n0 x32 ((true, x29, .lit 2, true) :: (n1 x29 (n0 x29 w7x06))))))
noncomputable abbrev w7x01 : Fx := (n0 x35 ((true, x32, .lit 2, true) :: (n1 x32 (n0 x32 ((true, x29, .lit 2, true) :: (n1 x29 w7x04))))))
noncomputable abbrev w7x07 : Fx := ((true, x28, (.lit 0), true) :: ((true, x24, (.lit 0), true) :: (a1 x35 w7x01)))
noncomputable abbrev w7x08 : Fx := ((true, x28, (.lit 0), true) :: ((true, x24, (.lit 0), true) :: (a0 x35 w7x00)))
noncomputable abbrev w7x09 : Fx := (n1 x38 (n0 x38 ((true, x35, .lit 2, true) :: (n1 x35 (n0 x35 w7x00)))))
noncomputable abbrev w7x02 : Fx := ((true, x24, (.lit 0), true) :: ((true, x38, (.lit 2), true) :: w7x09))
noncomputable abbrev w7x010 : Fx := ((true, x31, (.lit 0), true) :: ((true, x28, (.lit 0), true) :: w7x02))
theorem case238a : C23 (a0 x34 (a0 x31 (a0 x28 (a0 x24 ((true, .var 0, .lit 2, true) :: (n1 (.var 0) (n0 (.var 0) w7x03))))))) := caseW (w := .run) fw23_ok (by kernel_rfl)
theorem case235b : C23 (n0 x24 ((true, .var 0, .lit 2, true) :: (n1 (.var 0) (n0 (.var 0) w7x03)))) := caseW (w := .run) fw23_ok (by kernel_rfl)
theorem case2311b : C23 (n0 x28 (a0 x24 ((true, .var 0, .lit 3, true) :: ((true, .var 0, .lit 2, false) :: (n1 (.var 0) (n0 (.var 0) w7x03)))))) := caseW (w := .run) fw23_ok (by kernel_rfl)
theorem case2317b : C23 (n0 x31 (a0 x28 (a0 x24 ((true, .var 0, .lit 4, true) :: ((true, .var 0, .lit 3, false) :: ((true, .var 0, .lit 2, false) :: (n1 (.var 0) (n0 (.var 0) w7x03)))))))) := caseW (w := .run) fw23_ok (by kernel_rfl)
theorem case2323b : C23 (n0 x34 (a0 x31 (a0 x28 (a0 x24 ((true, .var 0, .lit 5, true) :: w7x05))))) := caseW (w := .run) fw23_ok (by kernel_rfl)
theorem case2328a : C23 (a0 x34 (a0 x31 (a0 x28 (a0 x24 ((true, .var 0, .lit 6, true) :: ((true, .var 0, .lit 5, false) :: w7x05)))))) := caseW (w := .run) fw23_ok (by kernel_rfl)
theorem case2325b : C23 (n0 x24 ((true, .var 0, .lit 6, true) :: ((true, .var 0, .lit 5, false) :: w7x05))) := caseW (w := .run) fw23_ok (by kernel_rfl)
theorem case2331b : C23 (n0 x28 (a0 x24 ((true, .var 0, .lit 7, true) :: ((true, .var 0, .lit 6, false) :: ((true, .var 0, .lit 5, false) :: w7x05))))) := caseW (w := .run) fw23_ok (by kernel_rfl)
theorem case2337b : C23 (n0 x34 (a0 x31 (a0 x28 (a0 x24 ((false, .var 0, .lit 8, false) :: [(false, .lit 1, .var 0, true), (false, .var 0, .lit 0, false)]))))) := caseW (w := .run) fw23_ok (by kernel_rfl)
theorem case245a : C24 (a0 x37 (a0 x34 (a0 x31 (a0 x28 (a0 x24 [(false, .var 0, .lit 0, true)]))))) := caseW (w := .run) fw24_ok (by kernel_rfl)
theorem case242b : C24 (n0 x28 (a0 x24 [(false, .var 0, .lit 0, true)])) := caseW (w := .run) fw24_ok (by kernel_rfl)
theorem case254a_1_1 : C25 ((true, x28, (.lit 0), true) :: ((true, x24, (.lit 0), true) :: (a0 x29 w7x06))) := caseOnly [0, 2] 0 (by kernel_rfl)
theorem case254a_1_2 : C25 ((true, x28, (.lit 0), false) :: ((true, x24, (.lit 0), true) :: (a0 x29 w7x06))) := caseW (w := .run) fw25_ok (by kernel_rfl)
theorem case254a_1 : C25 ((true, x24, (.lit 0), true) :: (a0 x29 w7x06)) := caseBy true x28 (.lit 0) case254a_1_1 case254a_1_2
theorem case254a_2 : C25 ((true, x24, (.lit 0), false) :: (a0 x29 w7x06)) := caseOnly [0, 2, 3, 4] 0 (by kernel_rfl)
theorem case254a : C25 (a0 x29 w7x06) := caseBy true x24 (.lit 0) case254a_1 case254a_2
theorem case2510a_1_1_1_1 : C25 ((true, x34, (.lit 0), true) :: ((true, x31, (.lit 0), true) :: w7x08)) := caseOnly [0, 4] 0 (by kernel_rfl)
theorem case2510a_1_1_1_2 : C25 ((true, x34, (.lit 0), false) :: ((true, x31, (.lit 0), true) :: w7x08)) := caseW (w := .run) fw25_ok (by kernel_rfl)
theorem case2510a_1_1_1 : C25 ((true, x31, (.lit 0), true) :: w7x08) := caseBy true x34 (.lit 0) case2510a_1_1_1_1 case2510a_1_1_1_2
theorem case2510a_1_1_2 : C25 ((true, x31, (.lit 0), false) :: w7x08) := caseOnly [0, 4, 5, 6] 1 (by kernel_rfl)
theorem case2510a_1_1 : C25 w7x08 := caseBy true x31 (.lit 0) case2510a_1_1_1 case2510a_1_1_2
theorem case2510a_1_2 : C25 ((true, x28, (.lit 0), false) :: ((true, x24, (.lit 0), true) :: (a0 x35 w7x00))) := caseOnly [0, 6, 7, 8] 1 (by kernel_rfl)
theorem case2510a_1 : C25 ((true, x24, (.lit 0), true) :: (a0 x35 w7x00)) := caseBy true x28 (.lit 0) case2510a_1_1 case2510a_1_2
theorem case2510a_2 : C25 ((true, x24, (.lit 0), false) :: (a0 x35 w7x00)) := caseOnly [0, 8, 9, 10] 1 (by kernel_rfl)
theorem case2510a : C25 (a0 x35 w7x00) := caseBy true x24 (.lit 0) case2510a_1 case2510a_2
theorem case2514b_1_1_1_1_1_1 : C25 ((true, x37, (.lit 0), true) :: ((true, x34, (.lit 0), true) :: w7x010)) := caseW (w := .run) fw25_ok (by kernel_rfl)
theorem case2514b_1_1_1_1_1_2 : C25 ((true, x37, (.lit 0), false) :: ((true, x34, (.lit 0), true) :: w7x010)) := caseOnly [0, 5, 6, 7] 1 (by kernel_rfl)
theorem case2514b_1_1_1_1_1 : C25 ((true, x34, (.lit 0), true) :: w7x010) := caseBy true x37 (.lit 0) case2514b_1_1_1_1_1_1 case2514b_1_1_1_1_1_2
theorem case2514b_1_1_1_1_2 : C25 ((true, x34, (.lit 0), false) :: w7x010) := caseOnly [0, 7, 8, 9] 1 (by kernel_rfl)
theorem case2514b_1_1_1_1 : C25 w7x010 := caseBy true x34 (.lit 0) case2514b_1_1_1_1_1 case2514b_1_1_1_1_2
theorem case2514b_1_1_1_2 : C25 ((true, x31, (.lit 0), false) :: ((true, x28, (.lit 0), true) :: w7x02)) := caseOnly [0, 9, 10, 11] 1 (by kernel_rfl)
theorem case2514b_1_1_1 : C25 ((true, x28, (.lit 0), true) :: w7x02) := caseBy true x31 (.lit 0) case2514b_1_1_1_1 case2514b_1_1_1_2
theorem case2514b_1_1_2 : C25 ((true, x28, (.lit 0), false) :: w7x02) := caseOnly [0, 11, 12, 13] 1 (by kernel_rfl)
theorem case2514b_1_1 : C25 w7x02 := caseBy true x28 (.lit 0) case2514b_1_1_1 case2514b_1_1_2
theorem case2514b_1_2 : C25 ((true, x24, (.lit 0), false) :: ((true, x38, (.lit 2), true) :: w7x09)) := caseOnly [0, 13, 14, 15] 1 (by kernel_rfl)
theorem case2514b_1 : C25 ((true, x38, (.lit 2), true) :: w7x09) := caseBy true x24 (.lit 0) case2514b_1_1 case2514b_1_2
theorem case2514b_2 : C25 ((true, x38, (.lit 2), false) :: w7x09) := caseOnly [0, 1, 2] 0 (by kernel_rfl)
theorem case2514b : C25 w7x09 := caseBy true x38 (.lit 2) case2514b_1 case2514b_2
theorem case253b : C25 ((true, x26, .lit 2, false) :: (n1 x26 (n0 x26 [(true, .var 0, .lit 0, true)]))) := caseOnly [0, 1, 2] 0 (by kernel_rfl)
theorem case265a_1_1 : C26 ((true, x28, (.lit 0), true) :: ((true, x24, (.lit 0), true) :: (a1 x29 w7x04))) := caseOnly [0, 2, 3] 1 (by kernel_rfl)
theorem case265a_1_2 : C26 ((true, x28, (.lit 0), false) :: ((true, x24, (.lit 0), true) :: (a1 x29 w7x04))) := caseW (w := .run) fw26_ok (by kernel_rfl)
theorem case265a_1 : C26 ((true, x24, (.lit 0), true) :: (a1 x29 w7x04)) := caseBy true x28 (.lit 0) case265a_1_1 case265a_1_2
theorem case265a_2 : C26 ((true, x24, (.lit 0), false) :: (a1 x29 w7x04)) := caseOnly [0, 3, 4, 5] 1 (by kernel_rfl)
theorem case265a : C26 (a1 x29 w7x04) := caseBy true x24 (.lit 0) case265a_1 case265a_2
theorem case2611a_1_1_1_1 : C26 ((true, x34, (.lit 0), true) :: ((true, x31, (.lit 0), true) :: w7x07)) := caseOnly [0, 4, 5] 1 (by kernel_rfl)
theorem case2611a_1_1_1_2 : C26 ((true, x34, (.lit 0), false) :: ((true, x31, (.lit 0), true) :: w7x07)) := caseW (w := .run) fw26_ok (by kernel_rfl)
theorem case2611a_1_1_1 : C26 ((true, x31, (.lit 0), true) :: w7x07) := caseBy true x34 (.lit 0) case2611a_1_1_1_1 case2611a_1_1_1_2
theorem case2611a_1_1_2 : C26 ((true, x31, (.lit 0), false) :: w7x07) := caseOnly [0, 5, 6, 7] 1 (by kernel_rfl)
theorem case2611a_1_1 : C26 w7x07 := caseBy true x31 (.lit 0) case2611a_1_1_1 case2611a_1_1_2
theorem case2611a_1_2 : C26 ((true, x28, (.lit 0), false) :: ((true, x24, (.lit 0), true) :: (a1 x35 w7x01))) := caseOnly [0, 7, 8, 9] 1 (by kernel_rfl)
theorem case2611a_1 : C26 ((true, x24, (.lit 0), true) :: (a1 x35 w7x01)) := caseBy true x28 (.lit 0) case2611a_1_1 case2611a_1_2
theorem case2611a_2 : C26 ((true, x24, (.lit 0), false) :: (a1 x35 w7x01)) := caseOnly [0, 9, 10, 11] 1 (by kernel_rfl)
theorem case2611a : C26 (a1 x35 w7x01) := caseBy true x24 (.lit 0) case2611a_1 case2611a_2
theorem case2612b : C26 ((true, x35, .lit 2, false) :: (n1 x35 w7x01)) := caseOnly [0, 1, 2] 0 (by kernel_rfl)
theorem case272a_1 : C27 ((true, x26, (.lit 0), true) :: (a0 (.var 0) w7x03)) := caseOnly [0, 1, 2, 3, 4] 0 (by kernel_rfl)
theorem case272a_2 : C27 ((true, x26, (.lit 0), false) :: (a0 (.var 0) w7x03)) := caseOnly [0, 1, 2, 3, 4] 0 (by kernel_rfl)
theorem case272a : C27 (a0 (.var 0) w7x03) := caseBy true x26 (.lit 0) case272a_1 case272a_2
end Go.Proofs.YtblmlpebhfbceaaDoor.bootGrants
