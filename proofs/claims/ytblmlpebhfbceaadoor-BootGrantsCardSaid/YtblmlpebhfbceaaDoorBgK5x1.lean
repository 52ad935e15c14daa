/- bootGrants: calls that are run once, and the runs of the cases (part 5). -/
import Derived.Test.YtblmlpebhfbceaaDoorBgK4
set_option linter.unusedVariables false
set_option maxRecDepth 10000000
namespace Go.Proofs.YtblmlpebhfbceaaDoor.bootGrants
open Tk
open Go.RowKit
noncomputable abbrev w5x12 : Fx := (n0 x26 [(true, .var 0, .lit 1, true)])
noncomputable abbrev w5x14 : Fx := [(false, .lit 1, .var 0, true), (false, .var 0, .lit 0, false)]
noncomputable abbrev w5x16 : Fx := (n0 x26 [(true, .var 0, .lit 0, true)])
noncomputable abbrev w5x17 : Fx := (a1 x29 (n0 x29 ((true, x26, .lit 2, true) :: (n1 x26 w5x12))))
noncomputable abbrev w5x10 : Fx := (n0 (.var 0) ((false, .var 0, .lit 8, true) :: w5x14))
noncomputable abbrev w5x11 : Fx := ((true, .var 0, .lit 3, false) :: ((true, .var 0, .lit 2, false) :: (n1 (.var 0) w5x10)))
noncomputable abbrev w5x13 : Fx := ((true, .var 0, .lit 5, false) :: ((true, .var 0, .lit 4, false) :: w5x11))
noncomputable abbrev w5x15 : Fx := (a1 x29 (n0 x29 ((true, x26, .lit 2, true) :: (n1 x26 w5x16))))
noncomputable abbrev w5x18 : Fx := ((true, .var 0, .lit 3, true) :: ((true, .var 0, .lit 2, false) :: (n1 (.var 0) w5x10)))
theorem case1 : C1 [(true, .var 0, .lit 0, true)] := caseW (w := .run) fw1_ok (by kernel_rfl)
theorem case32a : C3 (a0 (.var 0) ((false, .var 0, .lit 8, true) :: w5x14)) := caseW (w := .run) fw3_ok (by kernel_rfl)
theorem case34a : C3 ((true, .var 0, .lit 2, true) :: (n1 (.var 0) w5x10)) := caseW (w := .run) fw3_ok (by kernel_rfl)
theorem case36a : C3 ((true, .var 0, .lit 4, true) :: w5x11) := caseW (w := .run) fw3_ok (by kernel_rfl)
theorem case38a : C3 ((true, .var 0, .lit 6, true) :: w5x13) := caseW (w := .run) fw3_ok (by kernel_rfl)
theorem case31b : C3 ((false, .var 0, .lit 8, false) :: w5x14) := caseW (w := .run) fw3_ok (by kernel_rfl)
theorem case5 : C5 [(true, .var 0, .lit 0, true)] := caseW (w := .run) fw5_ok (by kernel_rfl)
theorem case72a : C7 (a0 (.var 0) ((false, .var 0, .lit 8, true) :: w5x14)) := caseW (w := .run) fw7_ok (by kernel_rfl)
theorem case74a : C7 ((true, .var 0, .lit 2, true) :: (n1 (.var 0) w5x10)) := caseW (w := .run) fw7_ok (by kernel_rfl)
theorem case76a : C7 ((true, .var 0, .lit 4, true) :: w5x11) := caseW (w := .run) fw7_ok (by kernel_rfl)
theorem case78a : C7 ((true, .var 0, .lit 6, true) :: w5x13) := caseW (w := .run) fw7_ok (by kernel_rfl)
theorem case71b : C7 ((false, .var 0, .lit 8, false) :: w5x14) := caseW (w := .run) fw7_ok (by kernel_rfl)
theorem case81b : C8 (n0 x24 [(false, .var 0, .lit 0, true)]) := caseW (w := .run) fw8_ok (by kernel_rfl)
theorem case92a_1 : C9 ((true, x24, (.lit 0), true) :: (a1 x26 w5x16)) := caseOnly [0, 1, 2] 0 (by kernel_rfl)
theorem case92a_2 : C9 ((true, x24, (.lit 0), false) :: (a1 x26 w5x16)) := caseW (w := .run) fw9_ok (by kernel_rfl)
theorem case92a : C9 (a1 x26 w5x16) := caseBy true x24 (.lit 0) case92a_1 case92a_2
theorem case101a_1 : C10 ((true, x24, (.lit 0), true) :: (a0 x26 [(true, .var 0, .lit 1, true)])) := caseOnly [0, 1] 0 (by kernel_rfl)
theorem case101a_2 : C10 ((true, x24, (.lit 0), false) :: (a0 x26 [(true, .var 0, .lit 1, true)])) := caseW (w := .run) fw10_ok (by kernel_rfl)
theorem case101a : C10 (a0 x26 [(true, .var 0, .lit 1, true)]) := caseBy true x24 (.lit 0) case101a_1 case101a_2
theorem case102b_1_1 : C10 ((true, x24, (.lit 0), true) :: ((true, x26, (.lit 2), true) :: (n1 x26 w5x12))) := caseW (w := .run) fw10_ok (by kernel_rfl)
theorem case102b_1_2 : C10 ((true, x24, (.lit 0), false) :: ((true, x26, (.lit 2), true) :: (n1 x26 w5x12))) := caseOnly [0, 1, 2, 3] 0 (by kernel_rfl)
theorem case102b_1 : C10 ((true, x26, (.lit 2), true) :: (n1 x26 w5x12)) := caseBy true x24 (.lit 0) case102b_1_1 case102b_1_2
theorem case102b_2 : C10 ((true, x26, (.lit 2), false) :: (n1 x26 w5x12)) := caseOnly [0, 1, 2] 0 (by kernel_rfl)
theorem case102b : C10 (n1 x26 w5x12) := caseBy true x26 (.lit 2) case102b_1 case102b_2
theorem case113a_1 : C11 ((true, x26, (.lit 0), true) :: (a1 (.var 0) w5x10)) := caseOnly [0, 1, 2, 3, 4, 5] 0 (by kernel_rfl)
theorem case113a_2 : C11 ((true, x26, (.lit 0), false) :: (a1 (.var 0) w5x10)) := caseOnly [0, 1, 2, 3, 4, 5] 0 (by kernel_rfl)
theorem case113a : C11 (a1 (.var 0) w5x10) := caseBy true x26 (.lit 0) case113a_1 case113a_2
theorem case115b : C11 (n0 x24 ((true, .var 0, .lit 2, true) :: (n1 (.var 0) w5x10))) := caseW (w := .run) fw11_ok (by kernel_rfl)
theorem case117b : C11 (n0 x24 w5x18) := caseW (w := .run) fw11_ok (by kernel_rfl)
theorem case119b : C11 (n0 x24 ((true, .var 0, .lit 4, true) :: w5x11)) := caseW (w := .run) fw11_ok (by kernel_rfl)
theorem case1111b : C11 (n0 x24 ((true, .var 0, .lit 5, true) :: ((true, .var 0, .lit 4, false) :: w5x11))) := caseW (w := .run) fw11_ok (by kernel_rfl)
theorem case1113b : C11 (n0 x24 ((true, .var 0, .lit 6, true) :: w5x13)) := caseW (w := .run) fw11_ok (by kernel_rfl)
theorem case1115b : C11 (n0 x24 ((true, .var 0, .lit 7, true) :: ((true, .var 0, .lit 6, false) :: w5x13))) := caseW (w := .run) fw11_ok (by kernel_rfl)
theorem case1116a : C11 (a0 x24 ((false, .var 0, .lit 8, false) :: w5x14)) := caseW (w := .run) fw11_ok (by kernel_rfl)
theorem case122a : C12 (a0 x28 (a0 x24 [(false, .var 0, .lit 0, true)])) := caseW (w := .run) fw12_ok (by kernel_rfl)
theorem case121b : C12 (n0 x24 [(false, .var 0, .lit 0, true)]) := caseW (w := .run) fw12_ok (by kernel_rfl)
theorem case132a_1 : C13 ((true, x24, (.lit 0), true) :: (a1 x26 w5x16)) := caseOnly [0, 1, 2] 0 (by kernel_rfl)
theorem case132a_2 : C13 ((true, x24, (.lit 0), false) :: (a1 x26 w5x16)) := caseW (w := .run) fw13_ok (by kernel_rfl)
theorem case132a : C13 (a1 x26 w5x16) := caseBy true x24 (.lit 0) case132a_1 case132a_2
theorem case135a_1_1 : C13 ((true, x28, (.lit 0), true) :: ((true, x24, (.lit 0), true) :: w5x15)) := caseOnly [0, 2, 3] 1 (by kernel_rfl)
theorem case135a_1_2 : C13 ((true, x28, (.lit 0), false) :: ((true, x24, (.lit 0), true) :: w5x15)) := caseW (w := .run) fw13_ok (by kernel_rfl)
theorem case135a_1 : C13 ((true, x24, (.lit 0), true) :: w5x15) := caseBy true x28 (.lit 0) case135a_1_1 case135a_1_2
theorem case135a_2 : C13 ((true, x24, (.lit 0), false) :: w5x15) := caseOnly [0, 3, 4, 5] 1 (by kernel_rfl)
theorem case135a : C13 w5x15 := caseBy true x24 (.lit 0) case135a_1 case135a_2
theorem case133b : C13 ((true, x26, .lit 2, false) :: (n1 x26 w5x16)) := caseOnly [0, 1, 2] 0 (by kernel_rfl)
theorem case142a_1 : C14 ((true, x24, (.lit 0), true) :: (a1 x26 w5x12)) := caseOnly [0, 1, 2] 0 (by kernel_rfl)
theorem case142a_2 : C14 ((true, x24, (.lit 0), false) :: (a1 x26 w5x12)) := caseW (w := .run) fw14_ok (by kernel_rfl)
theorem case142a : C14 (a1 x26 w5x12) := caseBy true x24 (.lit 0) case142a_1 case142a_2
theorem case145a_1_1 : C14 ((true, x28, (.lit 0), true) :: ((true, x24, (.lit 0), true) :: w5x17)) := caseOnly [0, 2, 3] 1 (by kernel_rfl)
theorem case145a_1_2 : C14 ((true, x28, (.lit 0), false) :: ((true, x24, (.lit 0), true) :: w5x17)) := caseW (w := .run) fw14_ok (by kernel_rfl)
theorem case145a_1 : C14 ((true, x24, (.lit 0), true) :: w5x17) := caseBy true x28 (.lit 0) case145a_1_1 case145a_1_2
theorem case145a_2 : C14 ((true, x24, (.lit 0), false) :: w5x17) := caseOnly [0, 3, 4, 5] 1 (by kernel_rfl)
theorem case145a : C14 w5x17 := caseBy true x24 (.lit 0) case145a_1 case145a_2
theorem case143b : C14 ((true, x26, .lit 2, false) :: (n1 x26 w5x12)) := caseOnly [0, 1, 2] 0 (by kernel_rfl)
theorem case153a_1 : C15 ((true, x26, (.lit 0), true) :: (a1 (.var 0) w5x10)) := caseOnly [0, 1, 2, 3, 4, 5] 0 (by kernel_rfl)
theorem case153a_2 : C15 ((true, x26, (.lit 0), false) :: (a1 (.var 0) w5x10)) := caseOnly [0, 1, 2, 3, 4, 5] 0 (by kernel_rfl)
theorem case153a : C15 (a1 (.var 0) w5x10) := caseBy true x26 (.lit 0) case153a_1 case153a_2
theorem case156b : C15 (n0 x28 (a0 x24 ((true, .var 0, .lit 2, true) :: (n1 (.var 0) w5x10)))) := caseW (w := .run) fw15_ok (by kernel_rfl)
theorem case159a : C15 (a0 x28 (a0 x24 w5x18)) := caseW (w := .run) fw15_ok (by kernel_rfl)
theorem case158b : C15 (n0 x24 w5x18) := caseW (w := .run) fw15_ok (by kernel_rfl)
theorem case1512b : C15 (n0 x28 (a0 x24 ((true, .var 0, .lit 4, true) :: w5x11))) := caseW (w := .run) fw15_ok (by kernel_rfl)
theorem case1515a : C15 (a0 x28 (a0 x24 ((true, .var 0, .lit 5, true) :: ((true, .var 0, .lit 4, false) :: w5x11)))) := caseW (w := .run) fw15_ok (by kernel_rfl)
theorem case1514b : C15 (n0 x24 ((true, .var 0, .lit 5, true) :: ((true, .var 0, .lit 4, false) :: w5x11))) := caseW (w := .run) fw15_ok (by kernel_rfl)
theorem case1518b : C15 (n0 x28 (a0 x24 ((true, .var 0, .lit 6, true) :: w5x13))) := caseW (w := .run) fw15_ok (by kernel_rfl)
theorem case1521a : C15 (a0 x28 (a0 x24 ((true, .var 0, .lit 7, true) :: ((true, .var 0, .lit 6, false) :: w5x13)))) := caseW (w := .run) fw15_ok (by kernel_rfl)
theorem case1520b : C15 (n0 x24 ((true, .var 0, .lit 7, true) :: ((true, .var 0, .lit 6, false) :: w5x13))) := caseW (w := .run) fw15_ok (by kernel_rfl)
theorem case1523a : C15 (a0 x28 (a0 x24 ((false, .var 0, .lit 8, false) :: w5x14))) := caseW (w := .run) fw15_ok (by kernel_rfl)
theorem case1522b : C15 (n0 x24 ((false, .var 0, .lit 8, false) :: w5x14)) := caseW (w := .run) fw15_ok (by kernel_rfl)
end Go.Proofs.YtblmlpebhfbceaaDoor.bootGrants
