/-
  DERIVED. GIVEN WITH THE SEED: THE PROGRAM's TIES (one call each: nine closed facts by the kernel) AND EACH ROW's TIE, after the 31st guide's Derived/Test/Toyas{Tie, Card}.lean. No idea stands in it: it is a product of the set-up. Laid BY PROGRAM, IN A SANDBOX (cutbox-door.mjs). By AI agents, Wed Nov 11 2026. No macro, syntax, notation, axiom, sorry.
-/
import Derived.Test.YtnhngjhodcikiaaDoorRows
import Derived.LaidByTextLater
import Derived.SevenTiedAt
import Derived.LaidSub
import Derived.LaidOnce
namespace Go.Proofs.YtnhngjhodcikiaaDoor
open Go
set_option maxRecDepth 100000
theorem seatTie1 : Tryd.prog.laidByTextLater [("turnstile/api.ErrArg", Rows.laid_turnstile_api_ErrArg), ("turnstile/api.ErrShort", Rows.laid_turnstile_api_ErrShort), ("turnstile/api.ErrForm", Rows.laid_turnstile_api_ErrForm), ("turnstile/api.ErrLong", Rows.laid_turnstile_api_ErrLong), ("turnstile/api.ErrSum", Rows.laid_turnstile_api_ErrSum), ("turnstile/api.ErrIo", Rows.laid_turnstile_api_ErrIo), ("turnstile/api.ErrDown", Rows.laid_turnstile_api_ErrDown), ("turnstile/api.ErrGone", Rows.laid_turnstile_api_ErrGone), ("turnstile/api.ErrThere", Rows.laid_turnstile_api_ErrThere), ("turnstile/api.ErrImage", Rows.laid_turnstile_api_ErrImage), ("turnstile/api.ErrGap", Rows.laid_turnstile_api_ErrGap), ("turnstile/api.ErrLog", Rows.laid_turnstile_api_ErrLog), ("turnstile/api.ErrSick", Rows.laid_turnstile_api_ErrSick), ("turnstile/api.ErrConfig", Rows.laid_turnstile_api_ErrConfig), ("turnstile/api.ErrNil", Rows.laid_turnstile_api_ErrNil)] [.sentinel, .sentinel, .sentinel, .sentinel, .sentinel, .sentinel, .sentinel, .sentinel, .sentinel, .sentinel, .sentinel, .sentinel, .sentinel, .sentinel, .sentinel] true :=
  Program.laidByTextLater_by_one 294 8 2 (by kernel_rfl) (by kernel_rfl) (by kernel_rfl) (by kernel_rfl) (by kernel_rfl) (by kernel_rfl) (fun _ _ => by kernel_rfl)
theorem noOwnUnsafe : Tryd.pinned.checked.prog.headLifts.contains "ownunsafe" = false := by kernel_rfl
theorem tie : Tryd.prog.laidByTextLater [("turnstile/api.ErrArg", Rows.laid_turnstile_api_ErrArg), ("turnstile/api.ErrGap", Rows.laid_turnstile_api_ErrGap), ("turnstile/api.ErrLog", Rows.laid_turnstile_api_ErrLog)] [.sentinel, .sentinel, .sentinel] true :=
  Program.laidByTextLater.sub seatTie1 ["turnstile/api.ErrArg", "turnstile/api.ErrGap", "turnstile/api.ErrLog"] (by kernel_rfl) (by kernel_rfl)
theorem stateLooks_row_tie : Rows.stateLooksRow.laidByTextAt .later Tryd.pinned [.sentinel, .sentinel, .sentinel] true :=
  OpenClaim.laidByTextAt_later rfl rfl tie noOwnUnsafe
theorem stateRises_row_tie : Rows.stateRisesRow.laidByTextAt .later Tryd.pinned [.sentinel, .sentinel, .sentinel] true :=
  OpenClaim.laidByTextAt_later rfl rfl tie noOwnUnsafe
theorem stateFinds_row_tie : Rows.stateFindsRow.laidByTextAt .later Tryd.pinned [.sentinel, .sentinel, .sentinel] true :=
  OpenClaim.laidByTextAt_later rfl rfl tie noOwnUnsafe
theorem tie2 : Tryd.prog.laidByTextLater [("turnstile/api.ErrArg", Rows.laid_turnstile_api_ErrArg), ("turnstile/api.ErrShort", Rows.laid_turnstile_api_ErrShort), ("turnstile/api.ErrForm", Rows.laid_turnstile_api_ErrForm), ("turnstile/api.ErrLong", Rows.laid_turnstile_api_ErrLong), ("turnstile/api.ErrSum", Rows.laid_turnstile_api_ErrSum), ("turnstile/api.ErrIo", Rows.laid_turnstile_api_ErrIo), ("turnstile/api.ErrDown", Rows.laid_turnstile_api_ErrDown), ("turnstile/api.ErrGone", Rows.laid_turnstile_api_ErrGone), ("turnstile/api.ErrThere", Rows.laid_turnstile_api_ErrThere), ("turnstile/api.ErrImage", Rows.laid_turnstile_api_ErrImage), ("turnstile/api.ErrGap", Rows.laid_turnstile_api_ErrGap), ("turnstile/api.ErrLog", Rows.laid_turnstile_api_ErrLog), ("turnstile/api.ErrSick", Rows.laid_turnstile_api_ErrSick), ("turnstile/api.ErrConfig", Rows.laid_turnstile_api_ErrConfig), ("turnstile/api.ErrNil", Rows.laid_turnstile_api_ErrNil)] [.sentinel, .sentinel, .sentinel, .sentinel, .sentinel, .sentinel, .sentinel, .sentinel, .sentinel, .sentinel, .sentinel, .sentinel, .sentinel, .sentinel, .sentinel] true :=
  Program.laidByTextLater.sub seatTie1 ["turnstile/api.ErrArg", "turnstile/api.ErrShort", "turnstile/api.ErrForm", "turnstile/api.ErrLong", "turnstile/api.ErrSum", "turnstile/api.ErrIo", "turnstile/api.ErrDown", "turnstile/api.ErrGone", "turnstile/api.ErrThere", "turnstile/api.ErrImage", "turnstile/api.ErrGap", "turnstile/api.ErrLog", "turnstile/api.ErrSick", "turnstile/api.ErrConfig", "turnstile/api.ErrNil"] (by kernel_rfl) (by kernel_rfl)
theorem stateApplies_row_tie : Rows.stateAppliesRow.laidByTextAt .later Tryd.pinned [.sentinel, .sentinel, .sentinel, .sentinel, .sentinel, .sentinel, .sentinel, .sentinel, .sentinel, .sentinel, .sentinel, .sentinel, .sentinel, .sentinel, .sentinel] true :=
  OpenClaim.laidByTextAt_later rfl rfl tie2 noOwnUnsafe
theorem stateReplays_row_tie : Rows.stateReplaysRow.laidByTextAt .later Tryd.pinned [.sentinel, .sentinel, .sentinel, .sentinel, .sentinel, .sentinel, .sentinel, .sentinel, .sentinel, .sentinel, .sentinel, .sentinel, .sentinel, .sentinel, .sentinel] true :=
  OpenClaim.laidByTextAt_later rfl rfl tie2 noOwnUnsafe
theorem stateLooksUpto_row_tie : Rows.stateLooksUptoRow.laidByTextAt .later Tryd.pinned [.sentinel, .sentinel, .sentinel] true :=
  OpenClaim.laidByTextAt_later rfl rfl tie noOwnUnsafe
theorem stateAppliesUpto_row_tie : Rows.stateAppliesUptoRow.laidByTextAt .later Tryd.pinned [.sentinel, .sentinel, .sentinel, .sentinel, .sentinel, .sentinel, .sentinel, .sentinel, .sentinel, .sentinel, .sentinel, .sentinel, .sentinel, .sentinel, .sentinel] true :=
  OpenClaim.laidByTextAt_later rfl rfl tie2 noOwnUnsafe
theorem stateReplaysUpto_row_tie : Rows.stateReplaysUptoRow.laidByTextAt .later Tryd.pinned [.sentinel, .sentinel, .sentinel, .sentinel, .sentinel, .sentinel, .sentinel, .sentinel, .sentinel, .sentinel, .sentinel, .sentinel, .sentinel, .sentinel, .sentinel] true :=
  OpenClaim.laidByTextAt_later rfl rfl tie2 noOwnUnsafe
theorem stateRisesUpto_row_tie : Rows.stateRisesUptoRow.laidByTextAt .later Tryd.pinned [.sentinel, .sentinel, .sentinel] true :=
  OpenClaim.laidByTextAt_later rfl rfl tie noOwnUnsafe
theorem stateFindsUpto_row_tie : Rows.stateFindsUptoRow.laidByTextAt .later Tryd.pinned [.sentinel, .sentinel, .sentinel] true :=
  OpenClaim.laidByTextAt_later rfl rfl tie noOwnUnsafe
end Go.Proofs.YtnhngjhodcikiaaDoor
