/- bootGrants: calls that are run once, and the runs of the cases (part 7). -/
import Derived.Test.YtblmlpebhfbceaaDoorBgK4
set_option linter.unusedVariables false
set_option maxRecDepth 10000000
namespace Go.Proofs.YtblmlpebhfbceaaDoor.bootGrants
open Tk
open Go.RowKit
noncomputable abbrev w7x12 : Fx := ((true, x29, .lit 2, true) :: (n1 x29 (n0 x29 ((true, x26, .lit 2, true) :: (n1 x26 (n0 x26 [(true, .var 0, .lit 1, true)]))))))
noncomputable abbrev w7x13 : Fx := ((true, .var 0, .lit 2, false) :: (n1 (.var 0) (n0 (.var 0) ((false, .var 0, .lit 8, true) :: [(false, .lit 1, .var 0, true), (false, .var 0, .lit 0, false)]))))
noncomputable abbrev w7x14 : Fx := (n0 x29 ((true, x26, .lit 2, true) :: (n1 x26 (n0 x26 [(true, .var 0, .lit 0, true)]))))
noncomputable abbrev w7x17 : Fx := ((true, .var 0, .lit 5, false) :: ((true, .var 0, .lit 4, false) :: ((true, .var 0, .lit 3, false) :: w7x13)))
noncomputable abbrev w7x18 : Fx := ((true, x24, (.lit 0), true) :: (a0 x32 w7x12))
noncomputable abbrev w7x10 : Fx := (a0 x38 ((true, x35, .lit 2, true) :: (n1 x35 (n0 x35 ((true, x32, .lit 2, true) :: (n1 x32 (n0 x32 w7x12)))))))
noncomputable abbrev w7x11 : Fx := (n0 x35 ((true, x32, .lit 2, true) :: (n1 x32 (n0 x32 ((true, x29, .lit 2, true) :: (n1 x29 w7x14))))))
noncomputable abbrev w7x15 : Fx := ((true, x31, (.lit 0), true) :: ((true, x28, (.lit 0), true) :: ((true, x24, (.lit 0), true) :: w7x10)))
noncomputable abbrev w7x16 : Fx := ((true, x28, (.lit 0), true) :: ((true, x24, (.lit 0), true) :: (a1 x35 w7x11)))
theorem case238b : C23 (n0 x34 (a0 x31 (a0 x28 (a0 x24 ((true, .var 0, .lit 2, true) :: (n1 (.var 0) (n0 (.var 0) ((false, .var 0, .lit 8, true) :: [(false, .lit 1, .var 0, true), (false, .var 0, .lit 0, false)])))))))) := caseW (w := .run) fw23_ok (by kernel_rfl)
theorem case2313a : C23 (a0 x34 (a0 x31 (a0 x28 (a0 x24 ((true, .var 0, .lit 3, true) :: w7x13))))) := caseW (w := .run) fw23_ok (by kernel_rfl)
theorem case2310b : C23 (n0 x24 ((true, .var 0, .lit 3, true) :: w7x13)) := caseW (w := .run) fw23_ok (by kernel_rfl)
theorem case2316b : C23 (n0 x28 (a0 x24 ((true, .var 0, .lit 4, true) :: ((true, .var 0, .lit 3, false) :: w7x13)))) := caseW (w := .run) fw23_ok (by kernel_rfl)
theorem case2322b : C23 (n0 x31 (a0 x28 (a0 x24 ((true, .var 0, .lit 5, true) :: ((true, .var 0, .lit 4, false) :: ((true, .var 0, .lit 3, false) :: w7x13)))))) := caseW (w := .run) fw23_ok (by kernel_rfl)
theorem case2328b : C23 (n0 x34 (a0 x31 (a0 x28 (a0 x24 ((true, .var 0, .lit 6, true) :: w7x17))))) := caseW (w := .run) fw23_ok (by kernel_rfl)
theorem case2333a : C23 (a0 x34 (a0 x31 (a0 x28 (a0 x24 ((true, .var 0, .lit 7, true) :: ((true, .var 0, .lit 6, false) :: w7x17)))))) := caseW (w := .run) fw23_ok (by kernel_rfl)
theorem case2330b : C23 (n0 x24 ((true, .var 0, .lit 7, true) :: ((true, .var 0, .lit 6, false) :: w7x17))) := caseW (w := .run) fw23_ok (by kernel_rfl)
theorem case2336b : C23 (n0 x31 (a0 x28 (a0 x24 ((false, .var 0, .lit 8, false) :: [(false, .lit 1, .var 0, true), (false, .var 0, .lit 0, false)])))) := caseW (w := .run) fw23_ok (by kernel_rfl)
theorem case245b : C24 (n0 x37 (a0 x34 (a0 x31 (a0 x28 (a0 x24 [(false, .var 0, .lit 0, true)]))))) := caseW (w := .run) fw24_ok (by kernel_rfl)
theorem case241b : C24 (n0 x24 [(false, .var 0, .lit 0, true)]) := caseW (w := .run) fw24_ok (by kernel_rfl)
theorem case255a_1_1 : C25 ((true, x28, (.lit 0), true) :: ((true, x24, (.lit 0), true) :: (a1 x29 w7x14))) := caseOnly [0, 2, 3] 1 (by kernel_rfl)
theorem case255a_1_2 : C25 ((true, x28, (.lit 0), false) :: ((true, x24, (.lit 0), true) :: (a1 x29 w7x14))) := caseW (w := .run) fw25_ok (by kernel_rfl)
theorem case255a_1 : C25 ((true, x24, (.lit 0), true) :: (a1 x29 w7x14)) := caseBy true x28 (.lit 0) case255a_1_1 case255a_1_2
theorem case255a_2 : C25 ((true, x24, (.lit 0), false) :: (a1 x29 w7x14)) := caseOnly [0, 3, 4, 5] 1 (by kernel_rfl)
theorem case255a : C25 (a1 x29 w7x14) := caseBy true x24 (.lit 0) case255a_1 case255a_2
theorem case2511a_1_1_1_1 : C25 ((true, x34, (.lit 0), true) :: ((true, x31, (.lit 0), true) :: w7x16)) := caseOnly [0, 4, 5] 1 (by kernel_rfl)
theorem case2511a_1_1_1_2 : C25 ((true, x34, (.lit 0), false) :: ((true, x31, (.lit 0), true) :: w7x16)) := caseW (w := .run) fw25_ok (by kernel_rfl)
theorem case2511a_1_1_1 : C25 ((true, x31, (.lit 0), true) :: w7x16) := caseBy true x34 (.lit 0) case2511a_1_1_1_1 case2511a_1_1_1_2
theorem case2511a_1_1_2 : C25 ((true, x31, (.lit 0), false) :: w7x16) := caseOnly [0, 5, 6, 7] 1 (by kernel_rfl)
theorem case2511a_1_1 : C25 w7x16 := caseBy true x31 (.lit 0) case2511a_1_1_1 case2511a_1_1_2
theorem case2511a_1_2 : C25 ((true, x28, (.lit 0), false) :: ((true, x24, (.lit 0), true) :: (a1 x35 w7x11))) := caseOnly [0, 7, 8, 9] 1 (by kernel_rfl)
theorem case2511a_1 : C25 ((true, x24, (.lit 0), true) :: (a1 x35 w7x11)) := caseBy true x28 (.lit 0) case2511a_1_1 case2511a_1_2
theorem case2511a_2 : C25 ((true, x24, (.lit 0), false) :: (a1 x35 w7x11)) := caseOnly [0, 9, 10, 11] 1 (by kernel_rfl)
theorem case2511a : C25 (a1 x35 w7x11) := caseBy true x24 (.lit 0) case2511a_1 case2511a_2
theorem case2512b : C25 ((true, x35, .lit 2, false) :: (n1 x35 w7x11)) := caseOnly [0, 1, 2] 0 (by kernel_rfl)
theorem case261a_1 : C26 ((true, x24, (.lit 0), true) :: (a0 x26 [(true, .var 0, .lit 1, true)])) := caseOnly [0, 1] 0 (by kernel_rfl)
theorem case261a_2 : C26 ((true, x24, (.lit 0), false) :: (a0 x26 [(true, .var 0, .lit 1, true)])) := caseW (w := .run) fw26_ok (by kernel_rfl)
theorem case261a : C26 (a0 x26 [(true, .var 0, .lit 1, true)]) := caseBy true x24 (.lit 0) case261a_1 case261a_2
theorem case267a_1_1_1 : C26 ((true, x31, (.lit 0), true) :: ((true, x28, (.lit 0), true) :: w7x18)) := caseOnly [0, 3] 0 (by kernel_rfl)
theorem case267a_1_1_2 : C26 ((true, x31, (.lit 0), false) :: ((true, x28, (.lit 0), true) :: w7x18)) := caseW (w := .run) fw26_ok (by kernel_rfl)
theorem case267a_1_1 : C26 ((true, x28, (.lit 0), true) :: w7x18) := caseBy true x31 (.lit 0) case267a_1_1_1 case267a_1_1_2
theorem case267a_1_2 : C26 ((true, x28, (.lit 0), false) :: w7x18) := caseOnly [0, 3, 4, 5] 1 (by kernel_rfl)
theorem case267a_1 : C26 w7x18 := caseBy true x28 (.lit 0) case267a_1_1 case267a_1_2
theorem case267a_2 : C26 ((true, x24, (.lit 0), false) :: (a0 x32 w7x12)) := caseOnly [0, 5, 6, 7] 1 (by kernel_rfl)
theorem case267a : C26 (a0 x32 w7x12) := caseBy true x24 (.lit 0) case267a_1 case267a_2
theorem case2613a_1_1_1_1_1 : C26 ((true, x37, (.lit 0), true) :: ((true, x34, (.lit 0), true) :: w7x15)) := caseOnly [0, 5] 0 (by kernel_rfl)
theorem case2613a_1_1_1_1_2 : C26 ((true, x37, (.lit 0), false) :: ((true, x34, (.lit 0), true) :: w7x15)) := caseW (w := .run) fw26_ok (by kernel_rfl)
theorem case2613a_1_1_1_1 : C26 ((true, x34, (.lit 0), true) :: w7x15) := caseBy true x37 (.lit 0) case2613a_1_1_1_1_1 case2613a_1_1_1_1_2
theorem case2613a_1_1_1_2 : C26 ((true, x34, (.lit 0), false) :: w7x15) := caseOnly [0, 5, 6, 7] 1 (by kernel_rfl)
theorem case2613a_1_1_1 : C26 w7x15 := caseBy true x34 (.lit 0) case2613a_1_1_1_1 case2613a_1_1_1_2
theorem case2613a_1_1_2 : C26 ((true, x31, (.lit 0), false) :: ((true, x28, (.lit 0), true) :: ((true, x24, (.lit 0), true) :: w7x10))) := caseOnly [0, 7, 8, 9] 1 (by kernel_rfl)
theorem case2613a_1_1 : C26 ((true, x28, (.lit 0), true) :: ((true, x24, (.lit 0), true) :: w7x10)) := caseBy true x31 (.lit 0) case2613a_1_1_1 case2613a_1_1_2
theorem case2613a_1_2 : C26 ((true, x28, (.lit 0), false) :: ((true, x24, (.lit 0), true) :: w7x10)) := caseOnly [0, 9, 10, 11] 1 (by kernel_rfl)
theorem case2613a_1 : C26 ((true, x24, (.lit 0), true) :: w7x10) := caseBy true x28 (.lit 0) case2613a_1_1 case2613a_1_2
theorem case2613a_2 : C26 ((true, x24, (.lit 0), false) :: w7x10) := caseOnly [0, 11, 12, 13] 1 (by kernel_rfl)
theorem case2613a : C26 w7x10 := caseBy true x24 (.lit 0) case2613a_1 case2613a_2
theorem case269b : C26 ((true, x32, .lit 2, false) :: (n1 x32 (n0 x32 w7x12))) := caseOnly [0, 1, 2] 0 (by kernel_rfl)
end Go.Proofs.YtblmlpebhfbceaaDoor.bootGrants
