/-
  DERIVED. GIVEN WITH THE SEED: THE PROGRAM's TIES (one call each: nine closed facts by the kernel) AND EACH ROW's TIE, after the 31st guide's Derived/Test/Toyas{Tie, Card}.lean. No idea stands in it: it is a product of the set-up. Laid BY PROGRAM, IN A SANDBOX (cutbox-door.mjs). By AI agents, Wed Nov 11 2026. No macro, syntax, notation, axiom, sorry.
-/
import Derived.Test.YtblmlpebhfbceaaDoorRows
import Derived.LaidByTextLater
import Derived.SevenTiedAt
import Derived.LaidSub
import Derived.LaidOnce
namespace Go.Proofs.YtblmlpebhfbceaaDoor
open Go
set_option maxRecDepth 100000
theorem seatTie1 : Tryd.prog.laidByTextLater [("turnkey/api.ErrShape", Rows.laid_turnkey_api_ErrShape), ("turnkey/api.ErrRange", Rows.laid_turnkey_api_ErrRange), ("turnkey/api.ErrMany", Rows.laid_turnkey_api_ErrMany), ("turnkey/api.ErrNone", Rows.laid_turnkey_api_ErrNone), ("turnkey/api.ErrFull", Rows.laid_turnkey_api_ErrFull), ("turnkey/api.ErrLimit", Rows.laid_turnkey_api_ErrLimit)] [.sentinel, .sentinel, .sentinel, .sentinel, .sentinel, .sentinel] true :=
  Program.laidByTextLater_by_one 123 8 2 (by kernel_rfl) (by kernel_rfl) (by kernel_rfl) (by kernel_rfl) (by kernel_rfl) (by kernel_rfl) (fun _ _ => by kernel_rfl)
theorem noOwnUnsafe : Tryd.pinned.checked.prog.headLifts.contains "ownunsafe" = false := by kernel_rfl
theorem tie : Tryd.prog.laidByTextLater [("turnkey/api.ErrShape", Rows.laid_turnkey_api_ErrShape), ("turnkey/api.ErrRange", Rows.laid_turnkey_api_ErrRange), ("turnkey/api.ErrMany", Rows.laid_turnkey_api_ErrMany), ("turnkey/api.ErrNone", Rows.laid_turnkey_api_ErrNone), ("turnkey/api.ErrFull", Rows.laid_turnkey_api_ErrFull), ("turnkey/api.ErrLimit", Rows.laid_turnkey_api_ErrLimit)] [.sentinel, .sentinel, .sentinel, .sentinel, .sentinel, .sentinel] true :=
  Program.laidByTextLater.sub seatTie1 ["turnkey/api.ErrShape", "turnkey/api.ErrRange", "turnkey/api.ErrMany", "turnkey/api.ErrNone", "turnkey/api.ErrFull", "turnkey/api.ErrLimit"] (by kernel_rfl) (by kernel_rfl)
theorem bootGrants_row_tie : Rows.bootGrantsRow.laidByTextAt .later Tryd.pinned [.sentinel, .sentinel, .sentinel, .sentinel, .sentinel, .sentinel] true :=
  OpenClaim.laidByTextAt_later rfl rfl tie noOwnUnsafe
theorem bootGrantsUpto_row_tie : Rows.bootGrantsUptoRow.laidByTextAt .later Tryd.pinned [.sentinel, .sentinel, .sentinel, .sentinel, .sentinel, .sentinel] true :=
  OpenClaim.laidByTextAt_later rfl rfl tie noOwnUnsafe
end Go.Proofs.YtblmlpebhfbceaaDoor
