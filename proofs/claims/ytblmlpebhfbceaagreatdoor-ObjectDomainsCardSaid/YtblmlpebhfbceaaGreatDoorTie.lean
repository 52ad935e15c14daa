/-
  DERIVED. GIVEN WITH THE SEED: THE PROGRAM's TIES (one call each: nine closed facts by the kernel) AND EACH ROW's TIE, after the 31st guide's Derived/Test/Toyas{Tie, Card}.lean. No idea stands in it: it is a product of the set-up. Laid BY PROGRAM, IN A SANDBOX (cutbox-door.mjs). By AI agents, Wed Nov 11 2026. No macro, syntax, notation, axiom, sorry.
-/
import Derived.Test.YtblmlpebhfbceaaGreatDoorRows
import Derived.LaidByTextLater
import Derived.SevenTiedAt
import Derived.LaidSub
import Derived.LaidOnce
namespace Go.Proofs.YtblmlpebhfbceaaGreatDoor
open Go
set_option maxRecDepth 100000
theorem seatTie1 : Tryz.prog.laidByTextLater [("turnkey/api.ErrShape", Rows.laid_turnkey_api_ErrShape), ("turnkey/api.ErrRange", Rows.laid_turnkey_api_ErrRange), ("turnkey/api.ErrMany", Rows.laid_turnkey_api_ErrMany), ("turnkey/api.ErrNone", Rows.laid_turnkey_api_ErrNone), ("turnkey/api.ErrFull", Rows.laid_turnkey_api_ErrFull), ("turnkey/api.ErrLimit", Rows.laid_turnkey_api_ErrLimit), ("turnkey/api.ErrOwn", Rows.laid_turnkey_api_ErrOwn), ("turnkey/api.ErrState", Rows.laid_turnkey_api_ErrState), ("turnkey/api.ErrRight", Rows.laid_turnkey_api_ErrRight)] [.sentinel, .sentinel, .sentinel, .sentinel, .sentinel, .sentinel, .sentinel, .sentinel, .sentinel] true :=
  Program.laidByTextLater_by_one 180 8 2 (by kernel_rfl) (by kernel_rfl) (by kernel_rfl) (by kernel_rfl) (by kernel_rfl) (by kernel_rfl) (fun _ _ => by kernel_rfl)
theorem noOwnUnsafe : Tryz.pinned.checked.prog.headLifts.contains "ownunsafe" = false := by kernel_rfl
theorem tie : Tryz.prog.laidByTextLater [("turnkey/api.ErrShape", Rows.laid_turnkey_api_ErrShape), ("turnkey/api.ErrRange", Rows.laid_turnkey_api_ErrRange), ("turnkey/api.ErrMany", Rows.laid_turnkey_api_ErrMany), ("turnkey/api.ErrNone", Rows.laid_turnkey_api_ErrNone), ("turnkey/api.ErrFull", Rows.laid_turnkey_api_ErrFull), ("turnkey/api.ErrLimit", Rows.laid_turnkey_api_ErrLimit), ("turnkey/api.ErrOwn", Rows.laid_turnkey_api_ErrOwn), ("turnkey/api.ErrState", Rows.laid_turnkey_api_ErrState), ("turnkey/api.ErrRight", Rows.laid_turnkey_api_ErrRight)] [.sentinel, .sentinel, .sentinel, .sentinel, .sentinel, .sentinel, .sentinel, .sentinel, .sentinel] true :=
  Program.laidByTextLater.sub seatTie1 ["turnkey/api.ErrShape", "turnkey/api.ErrRange", "turnkey/api.ErrMany", "turnkey/api.ErrNone", "turnkey/api.ErrFull", "turnkey/api.ErrLimit", "turnkey/api.ErrOwn", "turnkey/api.ErrState", "turnkey/api.ErrRight"] (by kernel_rfl) (by kernel_rfl)
theorem objectBanks_row_tie : Rows.objectBanksRow.laidByTextAt .later Tryz.pinned [.sentinel, .sentinel, .sentinel, .sentinel, .sentinel, .sentinel, .sentinel, .sentinel, .sentinel] true :=
  OpenClaim.laidByTextAt_later rfl rfl tie noOwnUnsafe
theorem objectJudges_row_tie : Rows.objectJudgesRow.laidByTextAt .later Tryz.pinned [.sentinel, .sentinel, .sentinel, .sentinel, .sentinel, .sentinel, .sentinel, .sentinel, .sentinel] true :=
  OpenClaim.laidByTextAt_later rfl rfl tie noOwnUnsafe
theorem objectDomains_row_tie : Rows.objectDomainsRow.laidByTextAt .later Tryz.pinned [.sentinel, .sentinel, .sentinel, .sentinel, .sentinel, .sentinel, .sentinel, .sentinel, .sentinel] true :=
  OpenClaim.laidByTextAt_later rfl rfl tie noOwnUnsafe
theorem gateCalls_row_tie : Rows.gateCallsRow.laidByTextAt .later Tryz.pinned [.sentinel, .sentinel, .sentinel, .sentinel, .sentinel, .sentinel, .sentinel, .sentinel, .sentinel] true :=
  OpenClaim.laidByTextAt_later rfl rfl tie noOwnUnsafe
theorem objectBanksUpto_row_tie : Rows.objectBanksUptoRow.laidByTextAt .later Tryz.pinned [.sentinel, .sentinel, .sentinel, .sentinel, .sentinel, .sentinel, .sentinel, .sentinel, .sentinel] true :=
  OpenClaim.laidByTextAt_later rfl rfl tie noOwnUnsafe
theorem objectJudgesUpto_row_tie : Rows.objectJudgesUptoRow.laidByTextAt .later Tryz.pinned [.sentinel, .sentinel, .sentinel, .sentinel, .sentinel, .sentinel, .sentinel, .sentinel, .sentinel] true :=
  OpenClaim.laidByTextAt_later rfl rfl tie noOwnUnsafe
theorem objectDomainsUpto_row_tie : Rows.objectDomainsUptoRow.laidByTextAt .later Tryz.pinned [.sentinel, .sentinel, .sentinel, .sentinel, .sentinel, .sentinel, .sentinel, .sentinel, .sentinel] true :=
  OpenClaim.laidByTextAt_later rfl rfl tie noOwnUnsafe
theorem gateCallsUpto_row_tie : Rows.gateCallsUptoRow.laidByTextAt .later Tryz.pinned [.sentinel, .sentinel, .sentinel, .sentinel, .sentinel, .sentinel, .sentinel, .sentinel, .sentinel] true :=
  OpenClaim.laidByTextAt_later rfl rfl tie noOwnUnsafe
end Go.Proofs.YtblmlpebhfbceaaGreatDoor
