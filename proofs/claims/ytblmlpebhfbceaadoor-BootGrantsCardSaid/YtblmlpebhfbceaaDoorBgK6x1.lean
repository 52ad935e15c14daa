/- bootGrants: calls that are run once, and the runs of the cases (part 6). -/
import Derived.Test.YtblmlpebhfbceaaDoorBgK4
set_option linter.unusedVariables false
set_option maxRecDepth 10000000
namespace Go.Proofs.YtblmlpebhfbceaaDoor.bootGrants
open Tk
open Go.RowKit
noncomputable abbrev w6x12 : Fx := ((false, .var 0, .lit 8, true) :: [(false, .lit 1, .var 0, true), (false, .var 0, .lit 0, false)])
noncomputable abbrev w6x15 : Fx := ((true, x26, .lit 2, true) :: (n1 x26 (n0 x26 [(true, .var 0, .lit 1, true)])))
noncomputable abbrev w6x114 : Fx := ((true, .var 0, .lit 2, false) :: (n1 (.var 0) (n0 (.var 0) w6x12)))
noncomputable abbrev w6x117 : Fx := [(true, .var 0, .lit 0, true)]
noncomputable abbrev w6x11 : Fx := ((true, x29, .lit 2, true) :: (n1 x29 (n0 x29 w6x15)))
noncomputable abbrev w6x13 : Fx := ((true, x32, .lit 2, true) :: (n1 x32 (n0 x32 w6x11)))
noncomputable abbrev w6x16 : Fx := ((true, x26, .lit 2, true) :: (n1 x26 (n0 x26 w6x117)))
noncomputable abbrev w6x17 : Fx := ((true, .var 0, .lit 4, false) :: ((true, .var 0, .lit 3, false) :: w6x114))
noncomputable abbrev w6x19 : Fx := ((true, x24, (.lit 0), true) :: ((true, x35, (.lit 2), true) :: (n1 x35 (n0 x35 w6x13))))
noncomputable abbrev w6x113 : Fx := ((true, x28, (.lit 0), true) :: ((true, x24, (.lit 0), true) :: (a0 x35 w6x13)))
noncomputable abbrev w6x115 : Fx := ((true, x24, (.lit 0), true) :: (a0 x29 w6x16))
noncomputable abbrev w6x116 : Fx := ((true, x24, (.lit 0), true) :: (a1 x32 (n0 x32 w6x11)))
noncomputable abbrev w6x118 : Fx := ((true, x24, (.lit 0), true) :: (a0 x32 w6x11))
noncomputable abbrev w6x10 : Fx := ((true, x29, .lit 2, true) :: (n1 x29 (n0 x29 w6x16)))
noncomputable abbrev w6x14 : Fx := ((true, x32, .lit 2, true) :: (n1 x32 (n0 x32 w6x10)))
noncomputable abbrev w6x18 : Fx := ((true, x24, (.lit 0), true) :: ((true, x35, (.lit 2), true) :: (n1 x35 (n0 x35 w6x14))))
noncomputable abbrev w6x111 : Fx := ((true, x24, (.lit 0), true) :: ((true, x32, (.lit 2), true) :: (n1 x32 (n0 x32 w6x10))))
noncomputable abbrev w6x112 : Fx := ((true, x28, (.lit 0), true) :: ((true, x24, (.lit 0), true) :: (a0 x35 w6x14)))
noncomputable abbrev w6x119 : Fx := ((true, x24, (.lit 0), true) :: (a0 x32 w6x10))
noncomputable abbrev w6x110 : Fx := ((true, x28, (.lit 0), true) :: w6x119)
theorem case162b : C16 (n0 x28 (a0 x24 [(false, .var 0, .lit 0, true)])) := caseW (w := .run) fw16_ok (by kernel_rfl)
theorem case171a_1 : C17 ((true, x24, (.lit 0), true) :: (a0 x26 w6x117)) := caseOnly [0, 1] 0 (by kernel_rfl)
theorem case171a_2 : C17 ((true, x24, (.lit 0), false) :: (a0 x26 w6x117)) := caseW (w := .run) fw17_ok (by kernel_rfl)
theorem case171a : C17 (a0 x26 w6x117) := caseBy true x24 (.lit 0) case171a_1 case171a_2
theorem case174a_1_1 : C17 ((true, x28, (.lit 0), true) :: w6x115) := caseOnly [0, 2] 0 (by kernel_rfl)
theorem case174a_1_2 : C17 ((true, x28, (.lit 0), false) :: w6x115) := caseW (w := .run) fw17_ok (by kernel_rfl)
theorem case174a_1 : C17 w6x115 := caseBy true x28 (.lit 0) case174a_1_1 case174a_1_2
theorem case174a_2 : C17 ((true, x24, (.lit 0), false) :: (a0 x29 w6x16)) := caseOnly [0, 2, 3, 4] 0 (by kernel_rfl)
theorem case174a : C17 (a0 x29 w6x16) := caseBy true x24 (.lit 0) case174a_1 case174a_2
theorem case177a_1_1_1 : C17 ((true, x31, (.lit 0), true) :: w6x110) := caseOnly [0, 3] 0 (by kernel_rfl)
theorem case177a_1_1_2 : C17 ((true, x31, (.lit 0), false) :: w6x110) := caseW (w := .run) fw17_ok (by kernel_rfl)
theorem case177a_1_1 : C17 w6x110 := caseBy true x31 (.lit 0) case177a_1_1_1 case177a_1_1_2
theorem case177a_1_2 : C17 ((true, x28, (.lit 0), false) :: w6x119) := caseOnly [0, 3, 4, 5] 1 (by kernel_rfl)
theorem case177a_1 : C17 w6x119 := caseBy true x28 (.lit 0) case177a_1_1 case177a_1_2
theorem case177a_2 : C17 ((true, x24, (.lit 0), false) :: (a0 x32 w6x10)) := caseOnly [0, 5, 6, 7] 1 (by kernel_rfl)
theorem case177a : C17 (a0 x32 w6x10) := caseBy true x24 (.lit 0) case177a_1 case177a_2
theorem case178b_1_1_1_1 : C17 ((true, x31, (.lit 0), true) :: ((true, x28, (.lit 0), true) :: w6x111)) := caseW (w := .run) fw17_ok (by kernel_rfl)
theorem case178b_1_1_1_2 : C17 ((true, x31, (.lit 0), false) :: ((true, x28, (.lit 0), true) :: w6x111)) := caseOnly [0, 3, 4, 5] 1 (by kernel_rfl)
theorem case178b_1_1_1 : C17 ((true, x28, (.lit 0), true) :: w6x111) := caseBy true x31 (.lit 0) case178b_1_1_1_1 case178b_1_1_1_2
theorem case178b_1_1_2 : C17 ((true, x28, (.lit 0), false) :: w6x111) := caseOnly [0, 5, 6, 7] 1 (by kernel_rfl)
theorem case178b_1_1 : C17 w6x111 := caseBy true x28 (.lit 0) case178b_1_1_1 case178b_1_1_2
theorem case178b_1_2 : C17 ((true, x24, (.lit 0), false) :: ((true, x32, (.lit 2), true) :: (n1 x32 (n0 x32 w6x10)))) := caseOnly [0, 7, 8, 9] 1 (by kernel_rfl)
theorem case178b_1 : C17 ((true, x32, (.lit 2), true) :: (n1 x32 (n0 x32 w6x10))) := caseBy true x24 (.lit 0) case178b_1_1 case178b_1_2
theorem case178b_2 : C17 ((true, x32, (.lit 2), false) :: (n1 x32 (n0 x32 w6x10))) := caseOnly [0, 1, 2] 0 (by kernel_rfl)
theorem case178b : C17 (n1 x32 (n0 x32 w6x10)) := caseBy true x32 (.lit 2) case178b_1 case178b_2
theorem case173b : C17 ((true, x26, .lit 2, false) :: (n1 x26 (n0 x26 w6x117))) := caseOnly [0, 1, 2] 0 (by kernel_rfl)
theorem case182a_1 : C18 ((true, x24, (.lit 0), true) :: (a1 x26 (n0 x26 [(true, .var 0, .lit 1, true)]))) := caseOnly [0, 1, 2] 0 (by kernel_rfl)
theorem case182a_2 : C18 ((true, x24, (.lit 0), false) :: (a1 x26 (n0 x26 [(true, .var 0, .lit 1, true)]))) := caseW (w := .run) fw18_ok (by kernel_rfl)
theorem case182a : C18 (a1 x26 (n0 x26 [(true, .var 0, .lit 1, true)])) := caseBy true x24 (.lit 0) case182a_1 case182a_2
theorem case185a_1_1 : C18 ((true, x28, (.lit 0), true) :: ((true, x24, (.lit 0), true) :: (a1 x29 (n0 x29 w6x15)))) := caseOnly [0, 2, 3] 1 (by kernel_rfl)
theorem case185a_1_2 : C18 ((true, x28, (.lit 0), false) :: ((true, x24, (.lit 0), true) :: (a1 x29 (n0 x29 w6x15)))) := caseW (w := .run) fw18_ok (by kernel_rfl)
theorem case185a_1 : C18 ((true, x24, (.lit 0), true) :: (a1 x29 (n0 x29 w6x15))) := caseBy true x28 (.lit 0) case185a_1_1 case185a_1_2
theorem case185a_2 : C18 ((true, x24, (.lit 0), false) :: (a1 x29 (n0 x29 w6x15))) := caseOnly [0, 3, 4, 5] 1 (by kernel_rfl)
theorem case185a : C18 (a1 x29 (n0 x29 w6x15)) := caseBy true x24 (.lit 0) case185a_1 case185a_2
theorem case188a_1_1_1 : C18 ((true, x31, (.lit 0), true) :: ((true, x28, (.lit 0), true) :: w6x116)) := caseOnly [0, 3, 4] 1 (by kernel_rfl)
theorem case188a_1_1_2 : C18 ((true, x31, (.lit 0), false) :: ((true, x28, (.lit 0), true) :: w6x116)) := caseW (w := .run) fw18_ok (by kernel_rfl)
theorem case188a_1_1 : C18 ((true, x28, (.lit 0), true) :: w6x116) := caseBy true x31 (.lit 0) case188a_1_1_1 case188a_1_1_2
theorem case188a_1_2 : C18 ((true, x28, (.lit 0), false) :: w6x116) := caseOnly [0, 4, 5, 6] 1 (by kernel_rfl)
theorem case188a_1 : C18 w6x116 := caseBy true x28 (.lit 0) case188a_1_1 case188a_1_2
theorem case188a_2 : C18 ((true, x24, (.lit 0), false) :: (a1 x32 (n0 x32 w6x11))) := caseOnly [0, 6, 7, 8] 1 (by kernel_rfl)
theorem case188a : C18 (a1 x32 (n0 x32 w6x11)) := caseBy true x24 (.lit 0) case188a_1 case188a_2
theorem case186b : C18 ((true, x29, .lit 2, false) :: (n1 x29 (n0 x29 w6x15))) := caseOnly [0, 1, 2] 0 (by kernel_rfl)
theorem case192a_1 : C19 ((true, x26, (.lit 0), true) :: (a0 (.var 0) w6x12)) := caseOnly [0, 1, 2, 3, 4] 0 (by kernel_rfl)
theorem case192a_2 : C19 ((true, x26, (.lit 0), false) :: (a0 (.var 0) w6x12)) := caseOnly [0, 1, 2, 3, 4] 0 (by kernel_rfl)
theorem case192a : C19 (a0 (.var 0) w6x12) := caseBy true x26 (.lit 0) case192a_1 case192a_2
theorem case197a : C19 (a0 x31 (a0 x28 (a0 x24 ((true, .var 0, .lit 2, true) :: (n1 (.var 0) (n0 (.var 0) w6x12)))))) := caseW (w := .run) fw19_ok (by kernel_rfl)
theorem case196b : C19 (n0 x28 (a0 x24 ((true, .var 0, .lit 2, true) :: (n1 (.var 0) (n0 (.var 0) w6x12))))) := caseW (w := .run) fw19_ok (by kernel_rfl)
theorem case1911a : C19 (a0 x31 (a0 x28 (a0 x24 ((true, .var 0, .lit 3, true) :: w6x114)))) := caseW (w := .run) fw19_ok (by kernel_rfl)
theorem case1910b : C19 (n0 x28 (a0 x24 ((true, .var 0, .lit 3, true) :: w6x114))) := caseW (w := .run) fw19_ok (by kernel_rfl)
theorem case1915a : C19 (a0 x31 (a0 x28 (a0 x24 ((true, .var 0, .lit 4, true) :: ((true, .var 0, .lit 3, false) :: w6x114))))) := caseW (w := .run) fw19_ok (by kernel_rfl)
theorem case1914b : C19 (n0 x28 (a0 x24 ((true, .var 0, .lit 4, true) :: ((true, .var 0, .lit 3, false) :: w6x114)))) := caseW (w := .run) fw19_ok (by kernel_rfl)
theorem case1919a : C19 (a0 x31 (a0 x28 (a0 x24 ((true, .var 0, .lit 5, true) :: w6x17)))) := caseW (w := .run) fw19_ok (by kernel_rfl)
theorem case1918b : C19 (n0 x28 (a0 x24 ((true, .var 0, .lit 5, true) :: w6x17))) := caseW (w := .run) fw19_ok (by kernel_rfl)
theorem case1923a : C19 (a0 x31 (a0 x28 (a0 x24 ((true, .var 0, .lit 6, true) :: ((true, .var 0, .lit 5, false) :: w6x17))))) := caseW (w := .run) fw19_ok (by kernel_rfl)
theorem case1922b : C19 (n0 x28 (a0 x24 ((true, .var 0, .lit 6, true) :: ((true, .var 0, .lit 5, false) :: w6x17)))) := caseW (w := .run) fw19_ok (by kernel_rfl)
theorem case1927a : C19 (a0 x31 (a0 x28 (a0 x24 ((true, .var 0, .lit 7, true) :: ((true, .var 0, .lit 6, false) :: ((true, .var 0, .lit 5, false) :: w6x17)))))) := caseW (w := .run) fw19_ok (by kernel_rfl)
theorem case1926b : C19 (n0 x28 (a0 x24 ((true, .var 0, .lit 7, true) :: ((true, .var 0, .lit 6, false) :: ((true, .var 0, .lit 5, false) :: w6x17))))) := caseW (w := .run) fw19_ok (by kernel_rfl)
theorem case1924b : C19 ((true, .var 0, .lit 7, false) :: ((true, .var 0, .lit 6, false) :: ((true, .var 0, .lit 5, false) :: w6x17))) := caseW (w := (.gone (.var 0) 0 8)) fw19_ok (by kernel_rfl)
theorem case1930b : C19 (n0 x31 (a0 x28 (a0 x24 ((false, .var 0, .lit 8, false) :: [(false, .lit 1, .var 0, true), (false, .var 0, .lit 0, false)])))) := caseW (w := .run) fw19_ok (by kernel_rfl)
theorem case1928b : C19 (n0 x24 ((false, .var 0, .lit 8, false) :: [(false, .lit 1, .var 0, true), (false, .var 0, .lit 0, false)])) := caseW (w := .run) fw19_ok (by kernel_rfl)
theorem case204b : C20 (n0 x34 (a0 x31 (a0 x28 (a0 x24 [(false, .var 0, .lit 0, true)])))) := caseW (w := .run) fw20_ok (by kernel_rfl)
theorem case202b : C20 (n0 x28 (a0 x24 [(false, .var 0, .lit 0, true)])) := caseW (w := .run) fw20_ok (by kernel_rfl)
theorem case211a_1 : C21 ((true, x24, (.lit 0), true) :: (a0 x26 w6x117)) := caseOnly [0, 1] 0 (by kernel_rfl)
theorem case211a_2 : C21 ((true, x24, (.lit 0), false) :: (a0 x26 w6x117)) := caseW (w := .run) fw21_ok (by kernel_rfl)
theorem case211a : C21 (a0 x26 w6x117) := caseBy true x24 (.lit 0) case211a_1 case211a_2
theorem case214a_1_1 : C21 ((true, x28, (.lit 0), true) :: w6x115) := caseOnly [0, 2] 0 (by kernel_rfl)
theorem case214a_1_2 : C21 ((true, x28, (.lit 0), false) :: w6x115) := caseW (w := .run) fw21_ok (by kernel_rfl)
theorem case214a_1 : C21 w6x115 := caseBy true x28 (.lit 0) case214a_1_1 case214a_1_2
theorem case214a_2 : C21 ((true, x24, (.lit 0), false) :: (a0 x29 w6x16)) := caseOnly [0, 2, 3, 4] 0 (by kernel_rfl)
theorem case214a : C21 (a0 x29 w6x16) := caseBy true x24 (.lit 0) case214a_1 case214a_2
theorem case217a_1_1_1 : C21 ((true, x31, (.lit 0), true) :: w6x110) := caseOnly [0, 3] 0 (by kernel_rfl)
theorem case217a_1_1_2 : C21 ((true, x31, (.lit 0), false) :: w6x110) := caseW (w := .run) fw21_ok (by kernel_rfl)
theorem case217a_1_1 : C21 w6x110 := caseBy true x31 (.lit 0) case217a_1_1_1 case217a_1_1_2
theorem case217a_1_2 : C21 ((true, x28, (.lit 0), false) :: w6x119) := caseOnly [0, 3, 4, 5] 1 (by kernel_rfl)
theorem case217a_1 : C21 w6x119 := caseBy true x28 (.lit 0) case217a_1_1 case217a_1_2
theorem case217a_2 : C21 ((true, x24, (.lit 0), false) :: (a0 x32 w6x10)) := caseOnly [0, 5, 6, 7] 1 (by kernel_rfl)
theorem case217a : C21 (a0 x32 w6x10) := caseBy true x24 (.lit 0) case217a_1 case217a_2
theorem case2110a_1_1_1_1 : C21 ((true, x34, (.lit 0), true) :: ((true, x31, (.lit 0), true) :: w6x112)) := caseOnly [0, 4] 0 (by kernel_rfl)
theorem case2110a_1_1_1_2 : C21 ((true, x34, (.lit 0), false) :: ((true, x31, (.lit 0), true) :: w6x112)) := caseW (w := .run) fw21_ok (by kernel_rfl)
theorem case2110a_1_1_1 : C21 ((true, x31, (.lit 0), true) :: w6x112) := caseBy true x34 (.lit 0) case2110a_1_1_1_1 case2110a_1_1_1_2
theorem case2110a_1_1_2 : C21 ((true, x31, (.lit 0), false) :: w6x112) := caseOnly [0, 4, 5, 6] 1 (by kernel_rfl)
theorem case2110a_1_1 : C21 w6x112 := caseBy true x31 (.lit 0) case2110a_1_1_1 case2110a_1_1_2
theorem case2110a_1_2 : C21 ((true, x28, (.lit 0), false) :: ((true, x24, (.lit 0), true) :: (a0 x35 w6x14))) := caseOnly [0, 6, 7, 8] 1 (by kernel_rfl)
theorem case2110a_1 : C21 ((true, x24, (.lit 0), true) :: (a0 x35 w6x14)) := caseBy true x28 (.lit 0) case2110a_1_1 case2110a_1_2
theorem case2110a_2 : C21 ((true, x24, (.lit 0), false) :: (a0 x35 w6x14)) := caseOnly [0, 8, 9, 10] 1 (by kernel_rfl)
theorem case2110a : C21 (a0 x35 w6x14) := caseBy true x24 (.lit 0) case2110a_1 case2110a_2
theorem case2111b_1_1_1_1_1 : C21 ((true, x34, (.lit 0), true) :: ((true, x31, (.lit 0), true) :: ((true, x28, (.lit 0), true) :: w6x18))) := caseW (w := .run) fw21_ok (by kernel_rfl)
theorem case2111b_1_1_1_1_2 : C21 ((true, x34, (.lit 0), false) :: ((true, x31, (.lit 0), true) :: ((true, x28, (.lit 0), true) :: w6x18))) := caseOnly [0, 4, 5, 6] 1 (by kernel_rfl)
theorem case2111b_1_1_1_1 : C21 ((true, x31, (.lit 0), true) :: ((true, x28, (.lit 0), true) :: w6x18)) := caseBy true x34 (.lit 0) case2111b_1_1_1_1_1 case2111b_1_1_1_1_2
theorem case2111b_1_1_1_2 : C21 ((true, x31, (.lit 0), false) :: ((true, x28, (.lit 0), true) :: w6x18)) := caseOnly [0, 6, 7, 8] 1 (by kernel_rfl)
theorem case2111b_1_1_1 : C21 ((true, x28, (.lit 0), true) :: w6x18) := caseBy true x31 (.lit 0) case2111b_1_1_1_1 case2111b_1_1_1_2
theorem case2111b_1_1_2 : C21 ((true, x28, (.lit 0), false) :: w6x18) := caseOnly [0, 8, 9, 10] 1 (by kernel_rfl)
theorem case2111b_1_1 : C21 w6x18 := caseBy true x28 (.lit 0) case2111b_1_1_1 case2111b_1_1_2
theorem case2111b_1_2 : C21 ((true, x24, (.lit 0), false) :: ((true, x35, (.lit 2), true) :: (n1 x35 (n0 x35 w6x14)))) := caseOnly [0, 10, 11, 12] 1 (by kernel_rfl)
theorem case2111b_1 : C21 ((true, x35, (.lit 2), true) :: (n1 x35 (n0 x35 w6x14))) := caseBy true x24 (.lit 0) case2111b_1_1 case2111b_1_2
theorem case2111b_2 : C21 ((true, x35, (.lit 2), false) :: (n1 x35 (n0 x35 w6x14))) := caseOnly [0, 1, 2] 0 (by kernel_rfl)
theorem case2111b : C21 (n1 x35 (n0 x35 w6x14)) := caseBy true x35 (.lit 2) case2111b_1 case2111b_2
theorem case216b : C21 ((true, x29, .lit 2, false) :: (n1 x29 (n0 x29 w6x16))) := caseOnly [0, 1, 2] 0 (by kernel_rfl)
theorem case221a_1 : C22 ((true, x24, (.lit 0), true) :: (a0 x26 [(true, .var 0, .lit 1, true)])) := caseOnly [0, 1] 0 (by kernel_rfl)
theorem case221a_2 : C22 ((true, x24, (.lit 0), false) :: (a0 x26 [(true, .var 0, .lit 1, true)])) := caseW (w := .run) fw22_ok (by kernel_rfl)
theorem case221a : C22 (a0 x26 [(true, .var 0, .lit 1, true)]) := caseBy true x24 (.lit 0) case221a_1 case221a_2
theorem case224a_1_1 : C22 ((true, x28, (.lit 0), true) :: ((true, x24, (.lit 0), true) :: (a0 x29 w6x15))) := caseOnly [0, 2] 0 (by kernel_rfl)
theorem case224a_1_2 : C22 ((true, x28, (.lit 0), false) :: ((true, x24, (.lit 0), true) :: (a0 x29 w6x15))) := caseW (w := .run) fw22_ok (by kernel_rfl)
theorem case224a_1 : C22 ((true, x24, (.lit 0), true) :: (a0 x29 w6x15)) := caseBy true x28 (.lit 0) case224a_1_1 case224a_1_2
theorem case224a_2 : C22 ((true, x24, (.lit 0), false) :: (a0 x29 w6x15)) := caseOnly [0, 2, 3, 4] 0 (by kernel_rfl)
theorem case224a : C22 (a0 x29 w6x15) := caseBy true x24 (.lit 0) case224a_1 case224a_2
theorem case227a_1_1_1 : C22 ((true, x31, (.lit 0), true) :: ((true, x28, (.lit 0), true) :: w6x118)) := caseOnly [0, 3] 0 (by kernel_rfl)
theorem case227a_1_1_2 : C22 ((true, x31, (.lit 0), false) :: ((true, x28, (.lit 0), true) :: w6x118)) := caseW (w := .run) fw22_ok (by kernel_rfl)
theorem case227a_1_1 : C22 ((true, x28, (.lit 0), true) :: w6x118) := caseBy true x31 (.lit 0) case227a_1_1_1 case227a_1_1_2
theorem case227a_1_2 : C22 ((true, x28, (.lit 0), false) :: w6x118) := caseOnly [0, 3, 4, 5] 1 (by kernel_rfl)
theorem case227a_1 : C22 w6x118 := caseBy true x28 (.lit 0) case227a_1_1 case227a_1_2
theorem case227a_2 : C22 ((true, x24, (.lit 0), false) :: (a0 x32 w6x11)) := caseOnly [0, 5, 6, 7] 1 (by kernel_rfl)
theorem case227a : C22 (a0 x32 w6x11) := caseBy true x24 (.lit 0) case227a_1 case227a_2
theorem case2210a_1_1_1_1 : C22 ((true, x34, (.lit 0), true) :: ((true, x31, (.lit 0), true) :: w6x113)) := caseOnly [0, 4] 0 (by kernel_rfl)
theorem case2210a_1_1_1_2 : C22 ((true, x34, (.lit 0), false) :: ((true, x31, (.lit 0), true) :: w6x113)) := caseW (w := .run) fw22_ok (by kernel_rfl)
theorem case2210a_1_1_1 : C22 ((true, x31, (.lit 0), true) :: w6x113) := caseBy true x34 (.lit 0) case2210a_1_1_1_1 case2210a_1_1_1_2
theorem case2210a_1_1_2 : C22 ((true, x31, (.lit 0), false) :: w6x113) := caseOnly [0, 4, 5, 6] 1 (by kernel_rfl)
theorem case2210a_1_1 : C22 w6x113 := caseBy true x31 (.lit 0) case2210a_1_1_1 case2210a_1_1_2
theorem case2210a_1_2 : C22 ((true, x28, (.lit 0), false) :: ((true, x24, (.lit 0), true) :: (a0 x35 w6x13))) := caseOnly [0, 6, 7, 8] 1 (by kernel_rfl)
theorem case2210a_1 : C22 ((true, x24, (.lit 0), true) :: (a0 x35 w6x13)) := caseBy true x28 (.lit 0) case2210a_1_1 case2210a_1_2
theorem case2210a_2 : C22 ((true, x24, (.lit 0), false) :: (a0 x35 w6x13)) := caseOnly [0, 8, 9, 10] 1 (by kernel_rfl)
theorem case2210a : C22 (a0 x35 w6x13) := caseBy true x24 (.lit 0) case2210a_1 case2210a_2
theorem case2211b_1_1_1_1_1 : C22 ((true, x34, (.lit 0), true) :: ((true, x31, (.lit 0), true) :: ((true, x28, (.lit 0), true) :: w6x19))) := caseW (w := .run) fw22_ok (by kernel_rfl)
theorem case2211b_1_1_1_1_2 : C22 ((true, x34, (.lit 0), false) :: ((true, x31, (.lit 0), true) :: ((true, x28, (.lit 0), true) :: w6x19))) := caseOnly [0, 4, 5, 6] 1 (by kernel_rfl)
theorem case2211b_1_1_1_1 : C22 ((true, x31, (.lit 0), true) :: ((true, x28, (.lit 0), true) :: w6x19)) := caseBy true x34 (.lit 0) case2211b_1_1_1_1_1 case2211b_1_1_1_1_2
theorem case2211b_1_1_1_2 : C22 ((true, x31, (.lit 0), false) :: ((true, x28, (.lit 0), true) :: w6x19)) := caseOnly [0, 6, 7, 8] 1 (by kernel_rfl)
theorem case2211b_1_1_1 : C22 ((true, x28, (.lit 0), true) :: w6x19) := caseBy true x31 (.lit 0) case2211b_1_1_1_1 case2211b_1_1_1_2
theorem case2211b_1_1_2 : C22 ((true, x28, (.lit 0), false) :: w6x19) := caseOnly [0, 8, 9, 10] 1 (by kernel_rfl)
theorem case2211b_1_1 : C22 w6x19 := caseBy true x28 (.lit 0) case2211b_1_1_1 case2211b_1_1_2
theorem case2211b_1_2 : C22 ((true, x24, (.lit 0), false) :: ((true, x35, (.lit 2), true) :: (n1 x35 (n0 x35 w6x13)))) := caseOnly [0, 10, 11, 12] 1 (by kernel_rfl)
theorem case2211b_1 : C22 ((true, x35, (.lit 2), true) :: (n1 x35 (n0 x35 w6x13))) := caseBy true x24 (.lit 0) case2211b_1_1 case2211b_1_2
theorem case2211b_2 : C22 ((true, x35, (.lit 2), false) :: (n1 x35 (n0 x35 w6x13))) := caseOnly [0, 1, 2] 0 (by kernel_rfl)
theorem case2211b : C22 (n1 x35 (n0 x35 w6x13)) := caseBy true x35 (.lit 2) case2211b_1 case2211b_2
theorem case226b : C22 ((true, x29, .lit 2, false) :: (n1 x29 (n0 x29 w6x15))) := caseOnly [0, 1, 2] 0 (by kernel_rfl)
theorem case232a_1 : C23 ((true, x26, (.lit 0), true) :: (a0 (.var 0) w6x12)) := caseOnly [0, 1, 2, 3, 4] 0 (by kernel_rfl)
theorem case232a_2 : C23 ((true, x26, (.lit 0), false) :: (a0 (.var 0) w6x12)) := caseOnly [0, 1, 2, 3, 4] 0 (by kernel_rfl)
theorem case232a : C23 (a0 (.var 0) w6x12) := caseBy true x26 (.lit 0) case232a_1 case232a_2
end Go.Proofs.YtblmlpebhfbceaaDoor.bootGrants
