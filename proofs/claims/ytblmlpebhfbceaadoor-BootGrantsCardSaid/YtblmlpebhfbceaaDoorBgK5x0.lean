/- bootGrants: calls that are run once, and the runs of the cases (part 5). -/
import Derived.Test.YtblmlpebhfbceaaDoorBgK4
set_option linter.unusedVariables false
set_option maxRecDepth 10000000
namespace Go.Proofs.YtblmlpebhfbceaaDoor.bootGrants
open Tk
open Go.RowKit
noncomputable abbrev w5x01 : Fx := ((false, .var 0, .lit 8, true) :: [(false, .lit 1, .var 0, true), (false, .var 0, .lit 0, false)])
noncomputable abbrev w5x05 : Fx := ((true, .var 0, .lit 3, true) :: ((true, .var 0, .lit 2, false) :: (n1 (.var 0) (n0 (.var 0) w5x01))))
noncomputable abbrev w5x06 : Fx := [(true, .var 0, .lit 0, true)]
noncomputable abbrev w5x010 : Fx := [(true, .var 0, .lit 1, true)]
noncomputable abbrev w5x00 : Fx := ((true, .var 0, .lit 3, false) :: ((true, .var 0, .lit 2, false) :: (n1 (.var 0) (n0 (.var 0) w5x01))))
noncomputable abbrev w5x03 : Fx := ((true, x26, .lit 2, true) :: (n1 x26 (n0 x26 w5x010)))
noncomputable abbrev w5x04 : Fx := ((true, x26, .lit 2, true) :: (n1 x26 (n0 x26 w5x06)))
noncomputable abbrev w5x07 : Fx := ((true, .var 0, .lit 4, false) :: w5x00)
noncomputable abbrev w5x08 : Fx := ((true, x29, (.lit 2), true) :: (n1 x29 (n0 x29 w5x04)))
noncomputable abbrev w5x09 : Fx := ((true, x29, (.lit 2), true) :: (n1 x29 (n0 x29 w5x03)))
noncomputable abbrev w5x02 : Fx := ((true, .var 0, .lit 6, false) :: ((true, .var 0, .lit 5, false) :: w5x07))
theorem case0 : C0 [(false, .var 0, .lit 0, true)] := caseW (w := .run) fw0_ok (by kernel_rfl)
theorem case2 : C2 w5x010 := caseW (w := .run) fw2_ok (by kernel_rfl)
theorem case33a : C3 (a1 (.var 0) (n0 (.var 0) w5x01)) := caseW (w := .run) fw3_ok (by kernel_rfl)
theorem case35a : C3 w5x05 := caseW (w := .run) fw3_ok (by kernel_rfl)
theorem case37a : C3 ((true, .var 0, .lit 5, true) :: w5x07) := caseW (w := .run) fw3_ok (by kernel_rfl)
theorem case38b_1 : C3 ((true, (.var 0), (.lit 7), true) :: w5x02) := caseW (w := .run) fw3_ok (by kernel_rfl)
theorem case38b_2 : C3 ((true, (.var 0), (.lit 7), false) :: w5x02) := caseW (w := (.gone (.var 0) 0 8)) fw3_ok (by kernel_rfl)
theorem case38b : C3 w5x02 := caseBy true (.var 0) (.lit 7) case38b_1 case38b_2
theorem case4 : C4 [(false, .var 0, .lit 0, true)] := caseW (w := .run) fw4_ok (by kernel_rfl)
theorem case6 : C6 w5x010 := caseW (w := .run) fw6_ok (by kernel_rfl)
theorem case73a : C7 (a1 (.var 0) (n0 (.var 0) w5x01)) := caseW (w := .run) fw7_ok (by kernel_rfl)
theorem case75a : C7 w5x05 := caseW (w := .run) fw7_ok (by kernel_rfl)
theorem case77a : C7 ((true, .var 0, .lit 5, true) :: w5x07) := caseW (w := .run) fw7_ok (by kernel_rfl)
theorem case78b_1 : C7 ((true, (.var 0), (.lit 7), true) :: w5x02) := caseW (w := .run) fw7_ok (by kernel_rfl)
theorem case78b_2 : C7 ((true, (.var 0), (.lit 7), false) :: w5x02) := caseW (w := (.gone (.var 0) 0 8)) fw7_ok (by kernel_rfl)
theorem case78b : C7 w5x02 := caseBy true (.var 0) (.lit 7) case78b_1 case78b_2
theorem case81a : C8 (a0 x24 [(false, .var 0, .lit 0, true)]) := caseW (w := .run) fw8_ok (by kernel_rfl)
theorem case91a_1 : C9 ((true, x24, (.lit 0), true) :: (a0 x26 w5x06)) := caseOnly [0, 1] 0 (by kernel_rfl)
theorem case91a_2 : C9 ((true, x24, (.lit 0), false) :: (a0 x26 w5x06)) := caseW (w := .run) fw9_ok (by kernel_rfl)
theorem case91a : C9 (a0 x26 w5x06) := caseBy true x24 (.lit 0) case91a_1 case91a_2
theorem case92b_1_1 : C9 ((true, x24, (.lit 0), true) :: ((true, x26, (.lit 2), true) :: (n1 x26 (n0 x26 w5x06)))) := caseW (w := .run) fw9_ok (by kernel_rfl)
theorem case92b_1_2 : C9 ((true, x24, (.lit 0), false) :: ((true, x26, (.lit 2), true) :: (n1 x26 (n0 x26 w5x06)))) := caseOnly [0, 1, 2, 3] 0 (by kernel_rfl)
theorem case92b_1 : C9 ((true, x26, (.lit 2), true) :: (n1 x26 (n0 x26 w5x06))) := caseBy true x24 (.lit 0) case92b_1_1 case92b_1_2
theorem case92b_2 : C9 ((true, x26, (.lit 2), false) :: (n1 x26 (n0 x26 w5x06))) := caseOnly [0, 1, 2] 0 (by kernel_rfl)
theorem case92b : C9 (n1 x26 (n0 x26 w5x06)) := caseBy true x26 (.lit 2) case92b_1 case92b_2
theorem case102a_1 : C10 ((true, x24, (.lit 0), true) :: (a1 x26 (n0 x26 w5x010))) := caseOnly [0, 1, 2] 0 (by kernel_rfl)
theorem case102a_2 : C10 ((true, x24, (.lit 0), false) :: (a1 x26 (n0 x26 w5x010))) := caseW (w := .run) fw10_ok (by kernel_rfl)
theorem case102a : C10 (a1 x26 (n0 x26 w5x010)) := caseBy true x24 (.lit 0) case102a_1 case102a_2
theorem case112a_1 : C11 ((true, x26, (.lit 0), true) :: (a0 (.var 0) w5x01)) := caseOnly [0, 1, 2, 3, 4] 0 (by kernel_rfl)
theorem case112a_2 : C11 ((true, x26, (.lit 0), false) :: (a0 (.var 0) w5x01)) := caseOnly [0, 1, 2, 3, 4] 0 (by kernel_rfl)
theorem case112a : C11 (a0 (.var 0) w5x01) := caseBy true x26 (.lit 0) case112a_1 case112a_2
theorem case115a : C11 (a0 x24 ((true, .var 0, .lit 2, true) :: (n1 (.var 0) (n0 (.var 0) w5x01)))) := caseW (w := .run) fw11_ok (by kernel_rfl)
theorem case117a : C11 (a0 x24 w5x05) := caseW (w := .run) fw11_ok (by kernel_rfl)
theorem case119a : C11 (a0 x24 ((true, .var 0, .lit 4, true) :: w5x00)) := caseW (w := .run) fw11_ok (by kernel_rfl)
theorem case1111a : C11 (a0 x24 ((true, .var 0, .lit 5, true) :: w5x07)) := caseW (w := .run) fw11_ok (by kernel_rfl)
theorem case1113a : C11 (a0 x24 ((true, .var 0, .lit 6, true) :: ((true, .var 0, .lit 5, false) :: w5x07))) := caseW (w := .run) fw11_ok (by kernel_rfl)
theorem case1115a : C11 (a0 x24 ((true, .var 0, .lit 7, true) :: w5x02)) := caseW (w := .run) fw11_ok (by kernel_rfl)
theorem case1114b : C11 ((true, .var 0, .lit 7, false) :: w5x02) := caseW (w := (.gone (.var 0) 0 8)) fw11_ok (by kernel_rfl)
theorem case1116b : C11 (n0 x24 ((false, .var 0, .lit 8, false) :: [(false, .lit 1, .var 0, true), (false, .var 0, .lit 0, false)])) := caseW (w := .run) fw11_ok (by kernel_rfl)
theorem case122b : C12 (n0 x28 (a0 x24 [(false, .var 0, .lit 0, true)])) := caseW (w := .run) fw12_ok (by kernel_rfl)
theorem case131a_1 : C13 ((true, x24, (.lit 0), true) :: (a0 x26 w5x06)) := caseOnly [0, 1] 0 (by kernel_rfl)
theorem case131a_2 : C13 ((true, x24, (.lit 0), false) :: (a0 x26 w5x06)) := caseW (w := .run) fw13_ok (by kernel_rfl)
theorem case131a : C13 (a0 x26 w5x06) := caseBy true x24 (.lit 0) case131a_1 case131a_2
theorem case134a_1_1 : C13 ((true, x28, (.lit 0), true) :: ((true, x24, (.lit 0), true) :: (a0 x29 w5x04))) := caseOnly [0, 2] 0 (by kernel_rfl)
theorem case134a_1_2 : C13 ((true, x28, (.lit 0), false) :: ((true, x24, (.lit 0), true) :: (a0 x29 w5x04))) := caseW (w := .run) fw13_ok (by kernel_rfl)
theorem case134a_1 : C13 ((true, x24, (.lit 0), true) :: (a0 x29 w5x04)) := caseBy true x28 (.lit 0) case134a_1_1 case134a_1_2
theorem case134a_2 : C13 ((true, x24, (.lit 0), false) :: (a0 x29 w5x04)) := caseOnly [0, 2, 3, 4] 0 (by kernel_rfl)
theorem case134a : C13 (a0 x29 w5x04) := caseBy true x24 (.lit 0) case134a_1 case134a_2
theorem case135b_1_1_1 : C13 ((true, x28, (.lit 0), true) :: ((true, x24, (.lit 0), true) :: w5x08)) := caseW (w := .run) fw13_ok (by kernel_rfl)
theorem case135b_1_1_2 : C13 ((true, x28, (.lit 0), false) :: ((true, x24, (.lit 0), true) :: w5x08)) := caseOnly [0, 2, 3, 4] 1 (by kernel_rfl)
theorem case135b_1_1 : C13 ((true, x24, (.lit 0), true) :: w5x08) := caseBy true x28 (.lit 0) case135b_1_1_1 case135b_1_1_2
theorem case135b_1_2 : C13 ((true, x24, (.lit 0), false) :: w5x08) := caseOnly [0, 4, 5, 6] 1 (by kernel_rfl)
theorem case135b_1 : C13 w5x08 := caseBy true x24 (.lit 0) case135b_1_1 case135b_1_2
theorem case135b_2 : C13 ((true, x29, (.lit 2), false) :: (n1 x29 (n0 x29 w5x04))) := caseOnly [0, 1, 2] 0 (by kernel_rfl)
theorem case135b : C13 (n1 x29 (n0 x29 w5x04)) := caseBy true x29 (.lit 2) case135b_1 case135b_2
theorem case141a_1 : C14 ((true, x24, (.lit 0), true) :: (a0 x26 w5x010)) := caseOnly [0, 1] 0 (by kernel_rfl)
theorem case141a_2 : C14 ((true, x24, (.lit 0), false) :: (a0 x26 w5x010)) := caseW (w := .run) fw14_ok (by kernel_rfl)
theorem case141a : C14 (a0 x26 w5x010) := caseBy true x24 (.lit 0) case141a_1 case141a_2
theorem case144a_1_1 : C14 ((true, x28, (.lit 0), true) :: ((true, x24, (.lit 0), true) :: (a0 x29 w5x03))) := caseOnly [0, 2] 0 (by kernel_rfl)
theorem case144a_1_2 : C14 ((true, x28, (.lit 0), false) :: ((true, x24, (.lit 0), true) :: (a0 x29 w5x03))) := caseW (w := .run) fw14_ok (by kernel_rfl)
theorem case144a_1 : C14 ((true, x24, (.lit 0), true) :: (a0 x29 w5x03)) := caseBy true x28 (.lit 0) case144a_1_1 case144a_1_2
theorem case144a_2 : C14 ((true, x24, (.lit 0), false) :: (a0 x29 w5x03)) := caseOnly [0, 2, 3, 4] 0 (by kernel_rfl)
theorem case144a : C14 (a0 x29 w5x03) := caseBy true x24 (.lit 0) case144a_1 case144a_2
theorem case145b_1_1_1 : C14 ((true, x28, (.lit 0), true) :: ((true, x24, (.lit 0), true) :: w5x09)) := caseW (w := .run) fw14_ok (by kernel_rfl)
theorem case145b_1_1_2 : C14 ((true, x28, (.lit 0), false) :: ((true, x24, (.lit 0), true) :: w5x09)) := caseOnly [0, 2, 3, 4] 1 (by kernel_rfl)
theorem case145b_1_1 : C14 ((true, x24, (.lit 0), true) :: w5x09) := caseBy true x28 (.lit 0) case145b_1_1_1 case145b_1_1_2
theorem case145b_1_2 : C14 ((true, x24, (.lit 0), false) :: w5x09) := caseOnly [0, 4, 5, 6] 1 (by kernel_rfl)
theorem case145b_1 : C14 w5x09 := caseBy true x24 (.lit 0) case145b_1_1 case145b_1_2
theorem case145b_2 : C14 ((true, x29, (.lit 2), false) :: (n1 x29 (n0 x29 w5x03))) := caseOnly [0, 1, 2] 0 (by kernel_rfl)
theorem case145b : C14 (n1 x29 (n0 x29 w5x03)) := caseBy true x29 (.lit 2) case145b_1 case145b_2
theorem case152a_1 : C15 ((true, x26, (.lit 0), true) :: (a0 (.var 0) w5x01)) := caseOnly [0, 1, 2, 3, 4] 0 (by kernel_rfl)
theorem case152a_2 : C15 ((true, x26, (.lit 0), false) :: (a0 (.var 0) w5x01)) := caseOnly [0, 1, 2, 3, 4] 0 (by kernel_rfl)
theorem case152a : C15 (a0 (.var 0) w5x01) := caseBy true x26 (.lit 0) case152a_1 case152a_2
theorem case156a : C15 (a0 x28 (a0 x24 ((true, .var 0, .lit 2, true) :: (n1 (.var 0) (n0 (.var 0) w5x01))))) := caseW (w := .run) fw15_ok (by kernel_rfl)
theorem case155b : C15 (n0 x24 ((true, .var 0, .lit 2, true) :: (n1 (.var 0) (n0 (.var 0) w5x01)))) := caseW (w := .run) fw15_ok (by kernel_rfl)
theorem case159b : C15 (n0 x28 (a0 x24 w5x05)) := caseW (w := .run) fw15_ok (by kernel_rfl)
theorem case1512a : C15 (a0 x28 (a0 x24 ((true, .var 0, .lit 4, true) :: w5x00))) := caseW (w := .run) fw15_ok (by kernel_rfl)
theorem case1511b : C15 (n0 x24 ((true, .var 0, .lit 4, true) :: w5x00)) := caseW (w := .run) fw15_ok (by kernel_rfl)
theorem case1515b : C15 (n0 x28 (a0 x24 ((true, .var 0, .lit 5, true) :: w5x07))) := caseW (w := .run) fw15_ok (by kernel_rfl)
theorem case1518a : C15 (a0 x28 (a0 x24 ((true, .var 0, .lit 6, true) :: ((true, .var 0, .lit 5, false) :: w5x07)))) := caseW (w := .run) fw15_ok (by kernel_rfl)
theorem case1517b : C15 (n0 x24 ((true, .var 0, .lit 6, true) :: ((true, .var 0, .lit 5, false) :: w5x07))) := caseW (w := .run) fw15_ok (by kernel_rfl)
theorem case1521b : C15 (n0 x28 (a0 x24 ((true, .var 0, .lit 7, true) :: w5x02))) := caseW (w := .run) fw15_ok (by kernel_rfl)
theorem case1519b : C15 ((true, .var 0, .lit 7, false) :: w5x02) := caseW (w := (.gone (.var 0) 0 8)) fw15_ok (by kernel_rfl)
theorem case1523b : C15 (n0 x28 (a0 x24 ((false, .var 0, .lit 8, false) :: [(false, .lit 1, .var 0, true), (false, .var 0, .lit 0, false)]))) := caseW (w := .run) fw15_ok (by kernel_rfl)
theorem case163a : C16 (a0 x31 (a0 x28 (a0 x24 [(false, .var 0, .lit 0, true)]))) := caseW (w := .run) fw16_ok (by kernel_rfl)
end Go.Proofs.YtblmlpebhfbceaaDoor.bootGrants
