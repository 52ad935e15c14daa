/- bootGrants: calls that are run once, and the runs of the cases (part 6). -/
import Derived.Test.YtblmlpebhfbceaaDoorBgK4
set_option linter.unusedVariables false
set_option maxRecDepth 10000000
namespace Go.Proofs.YtblmlpebhfbceaaDoor.bootGrants
open Tk
open Go.RowKit
noncomputable abbrev w6x02 : Fx := (n0 (.var 0) ((false, .var 0, .lit 8, true) :: [(false, .lit 1, .var 0, true), (false, .var 0, .lit 0, false)]))
noncomputable abbrev w6x010 : Fx := (n0 x26 [(true, .var 0, .lit 0, true)])
noncomputable abbrev w6x013 : Fx := [(true, .var 0, .lit 1, true)]
noncomputable abbrev w6x014 : Fx := ((true, .var 0, .lit 2, false) :: (n1 (.var 0) w6x02))
noncomputable abbrev w6x03 : Fx := (n0 x29 ((true, x26, .lit 2, true) :: (n1 x26 w6x010)))
noncomputable abbrev w6x04 : Fx := ((true, x26, .lit 2, true) :: (n1 x26 (n0 x26 w6x013)))
noncomputable abbrev w6x06 : Fx := ((true, .var 0, .lit 4, false) :: ((true, .var 0, .lit 3, false) :: w6x014))
noncomputable abbrev w6x011 : Fx := ((true, x24, (.lit 0), true) :: (a1 x29 w6x03))
noncomputable abbrev w6x00 : Fx := ((true, x29, .lit 2, true) :: (n1 x29 (n0 x29 w6x04)))
noncomputable abbrev w6x01 : Fx := (n0 x32 ((true, x29, .lit 2, true) :: (n1 x29 w6x03)))
noncomputable abbrev w6x05 : Fx := ((true, x24, (.lit 0), true) :: (a1 x35 (n0 x35 ((true, x32, .lit 2, true) :: (n1 x32 (n0 x32 w6x00))))))
noncomputable abbrev w6x07 : Fx := ((true, x24, (.lit 0), true) :: (a1 x35 (n0 x35 ((true, x32, .lit 2, true) :: (n1 x32 w6x01)))))
noncomputable abbrev w6x09 : Fx := ((true, x24, (.lit 0), true) :: ((true, x32, (.lit 2), true) :: (n1 x32 (n0 x32 w6x00))))
noncomputable abbrev w6x012 : Fx := ((true, x24, (.lit 0), true) :: (a1 x32 (n0 x32 w6x00)))
noncomputable abbrev w6x015 : Fx := ((true, x24, (.lit 0), true) :: (a1 x32 w6x01))
noncomputable abbrev w6x016 : Fx := ((true, x24, (.lit 0), true) :: (a0 x32 w6x00))
noncomputable abbrev w6x08 : Fx := ((true, x28, (.lit 0), true) :: w6x015)
theorem case163b : C16 (n0 x31 (a0 x28 (a0 x24 [(false, .var 0, .lit 0, true)]))) := caseW (w := .run) fw16_ok (by kernel_rfl)
theorem case161b : C16 (n0 x24 [(false, .var 0, .lit 0, true)]) := caseW (w := .run) fw16_ok (by kernel_rfl)
theorem case172a_1 : C17 ((true, x24, (.lit 0), true) :: (a1 x26 w6x010)) := caseOnly [0, 1, 2] 0 (by kernel_rfl)
theorem case172a_2 : C17 ((true, x24, (.lit 0), false) :: (a1 x26 w6x010)) := caseW (w := .run) fw17_ok (by kernel_rfl)
theorem case172a : C17 (a1 x26 w6x010) := caseBy true x24 (.lit 0) case172a_1 case172a_2
theorem case175a_1_1 : C17 ((true, x28, (.lit 0), true) :: w6x011) := caseOnly [0, 2, 3] 1 (by kernel_rfl)
theorem case175a_1_2 : C17 ((true, x28, (.lit 0), false) :: w6x011) := caseW (w := .run) fw17_ok (by kernel_rfl)
theorem case175a_1 : C17 w6x011 := caseBy true x28 (.lit 0) case175a_1_1 case175a_1_2
theorem case175a_2 : C17 ((true, x24, (.lit 0), false) :: (a1 x29 w6x03)) := caseOnly [0, 3, 4, 5] 1 (by kernel_rfl)
theorem case175a : C17 (a1 x29 w6x03) := caseBy true x24 (.lit 0) case175a_1 case175a_2
theorem case178a_1_1_1 : C17 ((true, x31, (.lit 0), true) :: w6x08) := caseOnly [0, 3, 4] 1 (by kernel_rfl)
theorem case178a_1_1_2 : C17 ((true, x31, (.lit 0), false) :: w6x08) := caseW (w := .run) fw17_ok (by kernel_rfl)
theorem case178a_1_1 : C17 w6x08 := caseBy true x31 (.lit 0) case178a_1_1_1 case178a_1_1_2
theorem case178a_1_2 : C17 ((true, x28, (.lit 0), false) :: w6x015) := caseOnly [0, 4, 5, 6] 1 (by kernel_rfl)
theorem case178a_1 : C17 w6x015 := caseBy true x28 (.lit 0) case178a_1_1 case178a_1_2
theorem case178a_2 : C17 ((true, x24, (.lit 0), false) :: (a1 x32 w6x01)) := caseOnly [0, 6, 7, 8] 1 (by kernel_rfl)
theorem case178a : C17 (a1 x32 w6x01) := caseBy true x24 (.lit 0) case178a_1 case178a_2
theorem case176b : C17 ((true, x29, .lit 2, false) :: (n1 x29 w6x03)) := caseOnly [0, 1, 2] 0 (by kernel_rfl)
theorem case181a_1 : C18 ((true, x24, (.lit 0), true) :: (a0 x26 w6x013)) := caseOnly [0, 1] 0 (by kernel_rfl)
theorem case181a_2 : C18 ((true, x24, (.lit 0), false) :: (a0 x26 w6x013)) := caseW (w := .run) fw18_ok (by kernel_rfl)
theorem case181a : C18 (a0 x26 w6x013) := caseBy true x24 (.lit 0) case181a_1 case181a_2
theorem case184a_1_1 : C18 ((true, x28, (.lit 0), true) :: ((true, x24, (.lit 0), true) :: (a0 x29 w6x04))) := caseOnly [0, 2] 0 (by kernel_rfl)
theorem case184a_1_2 : C18 ((true, x28, (.lit 0), false) :: ((true, x24, (.lit 0), true) :: (a0 x29 w6x04))) := caseW (w := .run) fw18_ok (by kernel_rfl)
theorem case184a_1 : C18 ((true, x24, (.lit 0), true) :: (a0 x29 w6x04)) := caseBy true x28 (.lit 0) case184a_1_1 case184a_1_2
theorem case184a_2 : C18 ((true, x24, (.lit 0), false) :: (a0 x29 w6x04)) := caseOnly [0, 2, 3, 4] 0 (by kernel_rfl)
theorem case184a : C18 (a0 x29 w6x04) := caseBy true x24 (.lit 0) case184a_1 case184a_2
theorem case187a_1_1_1 : C18 ((true, x31, (.lit 0), true) :: ((true, x28, (.lit 0), true) :: w6x016)) := caseOnly [0, 3] 0 (by kernel_rfl)
theorem case187a_1_1_2 : C18 ((true, x31, (.lit 0), false) :: ((true, x28, (.lit 0), true) :: w6x016)) := caseW (w := .run) fw18_ok (by kernel_rfl)
theorem case187a_1_1 : C18 ((true, x28, (.lit 0), true) :: w6x016) := caseBy true x31 (.lit 0) case187a_1_1_1 case187a_1_1_2
theorem case187a_1_2 : C18 ((true, x28, (.lit 0), false) :: w6x016) := caseOnly [0, 3, 4, 5] 1 (by kernel_rfl)
theorem case187a_1 : C18 w6x016 := caseBy true x28 (.lit 0) case187a_1_1 case187a_1_2
theorem case187a_2 : C18 ((true, x24, (.lit 0), false) :: (a0 x32 w6x00)) := caseOnly [0, 5, 6, 7] 1 (by kernel_rfl)
theorem case187a : C18 (a0 x32 w6x00) := caseBy true x24 (.lit 0) case187a_1 case187a_2
theorem case188b_1_1_1_1 : C18 ((true, x31, (.lit 0), true) :: ((true, x28, (.lit 0), true) :: w6x09)) := caseW (w := .run) fw18_ok (by kernel_rfl)
theorem case188b_1_1_1_2 : C18 ((true, x31, (.lit 0), false) :: ((true, x28, (.lit 0), true) :: w6x09)) := caseOnly [0, 3, 4, 5] 1 (by kernel_rfl)
theorem case188b_1_1_1 : C18 ((true, x28, (.lit 0), true) :: w6x09) := caseBy true x31 (.lit 0) case188b_1_1_1_1 case188b_1_1_1_2
theorem case188b_1_1_2 : C18 ((true, x28, (.lit 0), false) :: w6x09) := caseOnly [0, 5, 6, 7] 1 (by kernel_rfl)
theorem case188b_1_1 : C18 w6x09 := caseBy true x28 (.lit 0) case188b_1_1_1 case188b_1_1_2
theorem case188b_1_2 : C18 ((true, x24, (.lit 0), false) :: ((true, x32, (.lit 2), true) :: (n1 x32 (n0 x32 w6x00)))) := caseOnly [0, 7, 8, 9] 1 (by kernel_rfl)
theorem case188b_1 : C18 ((true, x32, (.lit 2), true) :: (n1 x32 (n0 x32 w6x00))) := caseBy true x24 (.lit 0) case188b_1_1 case188b_1_2
theorem case188b_2 : C18 ((true, x32, (.lit 2), false) :: (n1 x32 (n0 x32 w6x00))) := caseOnly [0, 1, 2] 0 (by kernel_rfl)
theorem case188b : C18 (n1 x32 (n0 x32 w6x00)) := caseBy true x32 (.lit 2) case188b_1 case188b_2
theorem case183b : C18 ((true, x26, .lit 2, false) :: (n1 x26 (n0 x26 w6x013))) := caseOnly [0, 1, 2] 0 (by kernel_rfl)
theorem case193a_1 : C19 ((true, x26, (.lit 0), true) :: (a1 (.var 0) w6x02)) := caseOnly [0, 1, 2, 3, 4, 5] 0 (by kernel_rfl)
theorem case193a_2 : C19 ((true, x26, (.lit 0), false) :: (a1 (.var 0) w6x02)) := caseOnly [0, 1, 2, 3, 4, 5] 0 (by kernel_rfl)
theorem case193a : C19 (a1 (.var 0) w6x02) := caseBy true x26 (.lit 0) case193a_1 case193a_2
theorem case197b : C19 (n0 x31 (a0 x28 (a0 x24 ((true, .var 0, .lit 2, true) :: (n1 (.var 0) w6x02))))) := caseW (w := .run) fw19_ok (by kernel_rfl)
theorem case195b : C19 (n0 x24 ((true, .var 0, .lit 2, true) :: (n1 (.var 0) w6x02))) := caseW (w := .run) fw19_ok (by kernel_rfl)
theorem case1911b : C19 (n0 x31 (a0 x28 (a0 x24 ((true, .var 0, .lit 3, true) :: w6x014)))) := caseW (w := .run) fw19_ok (by kernel_rfl)
theorem case199b : C19 (n0 x24 ((true, .var 0, .lit 3, true) :: w6x014)) := caseW (w := .run) fw19_ok (by kernel_rfl)
theorem case1915b : C19 (n0 x31 (a0 x28 (a0 x24 ((true, .var 0, .lit 4, true) :: ((true, .var 0, .lit 3, false) :: w6x014))))) := caseW (w := .run) fw19_ok (by kernel_rfl)
theorem case1913b : C19 (n0 x24 ((true, .var 0, .lit 4, true) :: ((true, .var 0, .lit 3, false) :: w6x014))) := caseW (w := .run) fw19_ok (by kernel_rfl)
theorem case1919b : C19 (n0 x31 (a0 x28 (a0 x24 ((true, .var 0, .lit 5, true) :: w6x06)))) := caseW (w := .run) fw19_ok (by kernel_rfl)
theorem case1917b : C19 (n0 x24 ((true, .var 0, .lit 5, true) :: w6x06)) := caseW (w := .run) fw19_ok (by kernel_rfl)
theorem case1923b : C19 (n0 x31 (a0 x28 (a0 x24 ((true, .var 0, .lit 6, true) :: ((true, .var 0, .lit 5, false) :: w6x06))))) := caseW (w := .run) fw19_ok (by kernel_rfl)
theorem case1921b : C19 (n0 x24 ((true, .var 0, .lit 6, true) :: ((true, .var 0, .lit 5, false) :: w6x06))) := caseW (w := .run) fw19_ok (by kernel_rfl)
theorem case1927b : C19 (n0 x31 (a0 x28 (a0 x24 ((true, .var 0, .lit 7, true) :: ((true, .var 0, .lit 6, false) :: ((true, .var 0, .lit 5, false) :: w6x06)))))) := caseW (w := .run) fw19_ok (by kernel_rfl)
theorem case1925b : C19 (n0 x24 ((true, .var 0, .lit 7, true) :: ((true, .var 0, .lit 6, false) :: ((true, .var 0, .lit 5, false) :: w6x06)))) := caseW (w := .run) fw19_ok (by kernel_rfl)
theorem case1930a : C19 (a0 x31 (a0 x28 (a0 x24 ((false, .var 0, .lit 8, false) :: [(false, .lit 1, .var 0, true), (false, .var 0, .lit 0, false)])))) := caseW (w := .run) fw19_ok (by kernel_rfl)
theorem case1929b : C19 (n0 x28 (a0 x24 ((false, .var 0, .lit 8, false) :: [(false, .lit 1, .var 0, true), (false, .var 0, .lit 0, false)]))) := caseW (w := .run) fw19_ok (by kernel_rfl)
theorem case204a : C20 (a0 x34 (a0 x31 (a0 x28 (a0 x24 [(false, .var 0, .lit 0, true)])))) := caseW (w := .run) fw20_ok (by kernel_rfl)
theorem case203b : C20 (n0 x31 (a0 x28 (a0 x24 [(false, .var 0, .lit 0, true)]))) := caseW (w := .run) fw20_ok (by kernel_rfl)
theorem case201b : C20 (n0 x24 [(false, .var 0, .lit 0, true)]) := caseW (w := .run) fw20_ok (by kernel_rfl)
theorem case212a_1 : C21 ((true, x24, (.lit 0), true) :: (a1 x26 w6x010)) := caseOnly [0, 1, 2] 0 (by kernel_rfl)
theorem case212a_2 : C21 ((true, x24, (.lit 0), false) :: (a1 x26 w6x010)) := caseW (w := .run) fw21_ok (by kernel_rfl)
theorem case212a : C21 (a1 x26 w6x010) := caseBy true x24 (.lit 0) case212a_1 case212a_2
theorem case215a_1_1 : C21 ((true, x28, (.lit 0), true) :: w6x011) := caseOnly [0, 2, 3] 1 (by kernel_rfl)
theorem case215a_1_2 : C21 ((true, x28, (.lit 0), false) :: w6x011) := caseW (w := .run) fw21_ok (by kernel_rfl)
theorem case215a_1 : C21 w6x011 := caseBy true x28 (.lit 0) case215a_1_1 case215a_1_2
theorem case215a_2 : C21 ((true, x24, (.lit 0), false) :: (a1 x29 w6x03)) := caseOnly [0, 3, 4, 5] 1 (by kernel_rfl)
theorem case215a : C21 (a1 x29 w6x03) := caseBy true x24 (.lit 0) case215a_1 case215a_2
theorem case218a_1_1_1 : C21 ((true, x31, (.lit 0), true) :: w6x08) := caseOnly [0, 3, 4] 1 (by kernel_rfl)
theorem case218a_1_1_2 : C21 ((true, x31, (.lit 0), false) :: w6x08) := caseW (w := .run) fw21_ok (by kernel_rfl)
theorem case218a_1_1 : C21 w6x08 := caseBy true x31 (.lit 0) case218a_1_1_1 case218a_1_1_2
theorem case218a_1_2 : C21 ((true, x28, (.lit 0), false) :: w6x015) := caseOnly [0, 4, 5, 6] 1 (by kernel_rfl)
theorem case218a_1 : C21 w6x015 := caseBy true x28 (.lit 0) case218a_1_1 case218a_1_2
theorem case218a_2 : C21 ((true, x24, (.lit 0), false) :: (a1 x32 w6x01)) := caseOnly [0, 6, 7, 8] 1 (by kernel_rfl)
theorem case218a : C21 (a1 x32 w6x01) := caseBy true x24 (.lit 0) case218a_1 case218a_2
theorem case2111a_1_1_1_1 : C21 ((true, x34, (.lit 0), true) :: ((true, x31, (.lit 0), true) :: ((true, x28, (.lit 0), true) :: w6x07))) := caseOnly [0, 4, 5] 1 (by kernel_rfl)
theorem case2111a_1_1_1_2 : C21 ((true, x34, (.lit 0), false) :: ((true, x31, (.lit 0), true) :: ((true, x28, (.lit 0), true) :: w6x07))) := caseW (w := .run) fw21_ok (by kernel_rfl)
theorem case2111a_1_1_1 : C21 ((true, x31, (.lit 0), true) :: ((true, x28, (.lit 0), true) :: w6x07)) := caseBy true x34 (.lit 0) case2111a_1_1_1_1 case2111a_1_1_1_2
theorem case2111a_1_1_2 : C21 ((true, x31, (.lit 0), false) :: ((true, x28, (.lit 0), true) :: w6x07)) := caseOnly [0, 5, 6, 7] 1 (by kernel_rfl)
theorem case2111a_1_1 : C21 ((true, x28, (.lit 0), true) :: w6x07) := caseBy true x31 (.lit 0) case2111a_1_1_1 case2111a_1_1_2
theorem case2111a_1_2 : C21 ((true, x28, (.lit 0), false) :: w6x07) := caseOnly [0, 7, 8, 9] 1 (by kernel_rfl)
theorem case2111a_1 : C21 w6x07 := caseBy true x28 (.lit 0) case2111a_1_1 case2111a_1_2
theorem case2111a_2 : C21 ((true, x24, (.lit 0), false) :: (a1 x35 (n0 x35 ((true, x32, .lit 2, true) :: (n1 x32 w6x01))))) := caseOnly [0, 9, 10, 11] 1 (by kernel_rfl)
theorem case2111a : C21 (a1 x35 (n0 x35 ((true, x32, .lit 2, true) :: (n1 x32 w6x01)))) := caseBy true x24 (.lit 0) case2111a_1 case2111a_2
theorem case219b : C21 ((true, x32, .lit 2, false) :: (n1 x32 w6x01)) := caseOnly [0, 1, 2] 0 (by kernel_rfl)
theorem case213b : C21 ((true, x26, .lit 2, false) :: (n1 x26 w6x010)) := caseOnly [0, 1, 2] 0 (by kernel_rfl)
theorem case222a_1 : C22 ((true, x24, (.lit 0), true) :: (a1 x26 (n0 x26 w6x013))) := caseOnly [0, 1, 2] 0 (by kernel_rfl)
theorem case222a_2 : C22 ((true, x24, (.lit 0), false) :: (a1 x26 (n0 x26 w6x013))) := caseW (w := .run) fw22_ok (by kernel_rfl)
theorem case222a : C22 (a1 x26 (n0 x26 w6x013)) := caseBy true x24 (.lit 0) case222a_1 case222a_2
theorem case225a_1_1 : C22 ((true, x28, (.lit 0), true) :: ((true, x24, (.lit 0), true) :: (a1 x29 (n0 x29 w6x04)))) := caseOnly [0, 2, 3] 1 (by kernel_rfl)
theorem case225a_1_2 : C22 ((true, x28, (.lit 0), false) :: ((true, x24, (.lit 0), true) :: (a1 x29 (n0 x29 w6x04)))) := caseW (w := .run) fw22_ok (by kernel_rfl)
theorem case225a_1 : C22 ((true, x24, (.lit 0), true) :: (a1 x29 (n0 x29 w6x04))) := caseBy true x28 (.lit 0) case225a_1_1 case225a_1_2
theorem case225a_2 : C22 ((true, x24, (.lit 0), false) :: (a1 x29 (n0 x29 w6x04))) := caseOnly [0, 3, 4, 5] 1 (by kernel_rfl)
theorem case225a : C22 (a1 x29 (n0 x29 w6x04)) := caseBy true x24 (.lit 0) case225a_1 case225a_2
theorem case228a_1_1_1 : C22 ((true, x31, (.lit 0), true) :: ((true, x28, (.lit 0), true) :: w6x012)) := caseOnly [0, 3, 4] 1 (by kernel_rfl)
theorem case228a_1_1_2 : C22 ((true, x31, (.lit 0), false) :: ((true, x28, (.lit 0), true) :: w6x012)) := caseW (w := .run) fw22_ok (by kernel_rfl)
theorem case228a_1_1 : C22 ((true, x28, (.lit 0), true) :: w6x012) := caseBy true x31 (.lit 0) case228a_1_1_1 case228a_1_1_2
theorem case228a_1_2 : C22 ((true, x28, (.lit 0), false) :: w6x012) := caseOnly [0, 4, 5, 6] 1 (by kernel_rfl)
theorem case228a_1 : C22 w6x012 := caseBy true x28 (.lit 0) case228a_1_1 case228a_1_2
theorem case228a_2 : C22 ((true, x24, (.lit 0), false) :: (a1 x32 (n0 x32 w6x00))) := caseOnly [0, 6, 7, 8] 1 (by kernel_rfl)
theorem case228a : C22 (a1 x32 (n0 x32 w6x00)) := caseBy true x24 (.lit 0) case228a_1 case228a_2
theorem case2211a_1_1_1_1 : C22 ((true, x34, (.lit 0), true) :: ((true, x31, (.lit 0), true) :: ((true, x28, (.lit 0), true) :: w6x05))) := caseOnly [0, 4, 5] 1 (by kernel_rfl)
theorem case2211a_1_1_1_2 : C22 ((true, x34, (.lit 0), false) :: ((true, x31, (.lit 0), true) :: ((true, x28, (.lit 0), true) :: w6x05))) := caseW (w := .run) fw22_ok (by kernel_rfl)
theorem case2211a_1_1_1 : C22 ((true, x31, (.lit 0), true) :: ((true, x28, (.lit 0), true) :: w6x05)) := caseBy true x34 (.lit 0) case2211a_1_1_1_1 case2211a_1_1_1_2
theorem case2211a_1_1_2 : C22 ((true, x31, (.lit 0), false) :: ((true, x28, (.lit 0), true) :: w6x05)) := caseOnly [0, 5, 6, 7] 1 (by kernel_rfl)
theorem case2211a_1_1 : C22 ((true, x28, (.lit 0), true) :: w6x05) := caseBy true x31 (.lit 0) case2211a_1_1_1 case2211a_1_1_2
theorem case2211a_1_2 : C22 ((true, x28, (.lit 0), false) :: w6x05) := caseOnly [0, 7, 8, 9] 1 (by kernel_rfl)
theorem case2211a_1 : C22 w6x05 := caseBy true x28 (.lit 0) case2211a_1_1 case2211a_1_2
theorem case2211a_2 : C22 ((true, x24, (.lit 0), false) :: (a1 x35 (n0 x35 ((true, x32, .lit 2, true) :: (n1 x32 (n0 x32 w6x00)))))) := caseOnly [0, 9, 10, 11] 1 (by kernel_rfl)
theorem case2211a : C22 (a1 x35 (n0 x35 ((true, x32, .lit 2, true) :: (n1 x32 (n0 x32 w6x00))))) := caseBy true x24 (.lit 0) case2211a_1 case2211a_2
theorem case229b : C22 ((true, x32, .lit 2, false) :: (n1 x32 (n0 x32 w6x00))) := caseOnly [0, 1, 2] 0 (by kernel_rfl)
theorem case223b : C22 ((true, x26, .lit 2, false) :: (n1 x26 (n0 x26 w6x013))) := caseOnly [0, 1, 2] 0 (by kernel_rfl)
theorem case233a_1 : C23 ((true, x26, (.lit 0), true) :: (a1 (.var 0) w6x02)) := caseOnly [0, 1, 2, 3, 4, 5] 0 (by kernel_rfl)
theorem case233a_2 : C23 ((true, x26, (.lit 0), false) :: (a1 (.var 0) w6x02)) := caseOnly [0, 1, 2, 3, 4, 5] 0 (by kernel_rfl)
theorem case233a : C23 (a1 (.var 0) w6x02) := caseBy true x26 (.lit 0) case233a_1 case233a_2
end Go.Proofs.YtblmlpebhfbceaaDoor.bootGrants
