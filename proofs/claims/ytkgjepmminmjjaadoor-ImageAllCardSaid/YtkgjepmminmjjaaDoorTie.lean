/-
  DERIVED. GIVEN WITH THE SEED: THE PROGRAM's TIES (one call each: nine closed facts by the kernel) AND EACH ROW's TIE, after the 31st guide's Derived/Test/Toyas{Tie, Card}.lean. No idea stands in it: it is a product of the set-up. Laid BY PROGRAM, IN A SANDBOX (cutbox-door.mjs). By AI agents, Wed Nov 11 2026. No macro, syntax, notation, axiom, sorry.
-/
import Derived.Test.YtkgjepmminmjjaaDoorRows
import Derived.LaidByTextLater
import Derived.SevenTiedAt
import Derived.LaidSub
import Derived.LaidOnce
namespace Go.Proofs.YtkgjepmminmjjaaDoor
open Go
set_option maxRecDepth 100000
theorem seatTie1 : Tryd.prog.laidByTextLater [("turnstile/crc.halves", Rows.laid_turnstile_crc_halves), ("turnstile/api.ErrArg", Rows.laid_turnstile_api_ErrArg), ("turnstile/api.ErrShort", Rows.laid_turnstile_api_ErrShort), ("turnstile/api.ErrForm", Rows.laid_turnstile_api_ErrForm), ("turnstile/api.ErrLong", Rows.laid_turnstile_api_ErrLong), ("turnstile/api.ErrSum", Rows.laid_turnstile_api_ErrSum), ("turnstile/api.ErrIo", Rows.laid_turnstile_api_ErrIo), ("turnstile/api.ErrDown", Rows.laid_turnstile_api_ErrDown), ("turnstile/api.ErrGone", Rows.laid_turnstile_api_ErrGone), ("turnstile/api.ErrThere", Rows.laid_turnstile_api_ErrThere), ("turnstile/api.ErrImage", Rows.laid_turnstile_api_ErrImage), ("turnstile/api.ErrGap", Rows.laid_turnstile_api_ErrGap), ("turnstile/api.ErrLog", Rows.laid_turnstile_api_ErrLog), ("turnstile/api.ErrSick", Rows.laid_turnstile_api_ErrSick), ("turnstile/api.ErrConfig", Rows.laid_turnstile_api_ErrConfig), ("turnstile/api.ErrNil", Rows.laid_turnstile_api_ErrNil)] [.data, .sentinel, .sentinel, .sentinel, .sentinel, .sentinel, .sentinel, .sentinel, .sentinel, .sentinel, .sentinel, .sentinel, .sentinel, .sentinel, .sentinel, .sentinel] true :=
  Program.laidByTextLater_by_one 299 8 17 (by kernel_rfl) (by kernel_rfl) (by kernel_rfl) (by kernel_rfl) (by kernel_rfl) (by kernel_rfl) (fun _ _ => by kernel_rfl)
theorem noOwnUnsafe : Tryd.pinned.checked.prog.headLifts.contains "ownunsafe" = false := by kernel_rfl
theorem tie : Tryd.prog.laidByTextLater [("turnstile/api.ErrArg", Rows.laid_turnstile_api_ErrArg), ("turnstile/api.ErrShort", Rows.laid_turnstile_api_ErrShort), ("turnstile/api.ErrForm", Rows.laid_turnstile_api_ErrForm), ("turnstile/api.ErrLong", Rows.laid_turnstile_api_ErrLong), ("turnstile/api.ErrSum", Rows.laid_turnstile_api_ErrSum), ("turnstile/api.ErrIo", Rows.laid_turnstile_api_ErrIo), ("turnstile/api.ErrDown", Rows.laid_turnstile_api_ErrDown), ("turnstile/api.ErrGone", Rows.laid_turnstile_api_ErrGone), ("turnstile/api.ErrThere", Rows.laid_turnstile_api_ErrThere), ("turnstile/api.ErrImage", Rows.laid_turnstile_api_ErrImage), ("turnstile/api.ErrGap", Rows.laid_turnstile_api_ErrGap), ("turnstile/api.ErrLog", Rows.laid_turnstile_api_ErrLog), ("turnstile/api.ErrSick", Rows.laid_turnstile_api_ErrSick), ("turnstile/api.ErrConfig", Rows.laid_turnstile_api_ErrConfig), ("turnstile/api.ErrNil", Rows.laid_turnstile_api_ErrNil)] [.sentinel, .sentinel, .sentinel, .sentinel, .sentinel, .sentinel, .sentinel, .sentinel, .sentinel, .sentinel, .sentinel, .sentinel, .sentinel, .sentinel, .sentinel] true :=
  Program.laidByTextLater.sub seatTie1 ["turnstile/api.ErrArg", "turnstile/api.ErrShort", "turnstile/api.ErrForm", "turnstile/api.ErrLong", "turnstile/api.ErrSum", "turnstile/api.ErrIo", "turnstile/api.ErrDown", "turnstile/api.ErrGone", "turnstile/api.ErrThere", "turnstile/api.ErrImage", "turnstile/api.ErrGap", "turnstile/api.ErrLog", "turnstile/api.ErrSick", "turnstile/api.ErrConfig", "turnstile/api.ErrNil"] (by kernel_rfl) (by kernel_rfl)
theorem recordAll_row_tie : Rows.recordAllRow.laidByTextAt .later Tryd.pinned [.sentinel, .sentinel, .sentinel, .sentinel, .sentinel, .sentinel, .sentinel, .sentinel, .sentinel, .sentinel, .sentinel, .sentinel, .sentinel, .sentinel, .sentinel] true :=
  OpenClaim.laidByTextAt_later rfl rfl tie noOwnUnsafe
theorem tie2 : Tryd.prog.laidByTextLater [("turnstile/api.ErrArg", Rows.laid_turnstile_api_ErrArg), ("turnstile/api.ErrShort", Rows.laid_turnstile_api_ErrShort), ("turnstile/api.ErrForm", Rows.laid_turnstile_api_ErrForm), ("turnstile/api.ErrLong", Rows.laid_turnstile_api_ErrLong), ("turnstile/api.ErrNil", Rows.laid_turnstile_api_ErrNil)] [.sentinel, .sentinel, .sentinel, .sentinel, .sentinel] true :=
  Program.laidByTextLater.sub seatTie1 ["turnstile/api.ErrArg", "turnstile/api.ErrShort", "turnstile/api.ErrForm", "turnstile/api.ErrLong", "turnstile/api.ErrNil"] (by kernel_rfl) (by kernel_rfl)
theorem recordBack_row_tie : Rows.recordBackRow.laidByTextAt .later Tryd.pinned [.sentinel, .sentinel, .sentinel, .sentinel, .sentinel] true :=
  OpenClaim.laidByTextAt_later rfl rfl tie2 noOwnUnsafe
theorem recordForth_row_tie : Rows.recordForthRow.laidByTextAt .later Tryd.pinned [.sentinel, .sentinel, .sentinel, .sentinel, .sentinel] true :=
  OpenClaim.laidByTextAt_later rfl rfl tie2 noOwnUnsafe
theorem recordCuts_row_tie : Rows.recordCutsRow.laidByTextAt .later Tryd.pinned [.sentinel, .sentinel, .sentinel, .sentinel, .sentinel] true :=
  OpenClaim.laidByTextAt_later rfl rfl tie2 noOwnUnsafe
theorem recordValid_row_tie : Rows.recordValidRow.laidByTextAt .later Tryd.pinned [.sentinel, .sentinel, .sentinel, .sentinel, .sentinel] true :=
  OpenClaim.laidByTextAt_later rfl rfl tie2 noOwnUnsafe
theorem tie3 : Tryd.prog.laidByTextLater [("turnstile/crc.halves", Rows.laid_turnstile_crc_halves), ("turnstile/api.ErrArg", Rows.laid_turnstile_api_ErrArg), ("turnstile/api.ErrShort", Rows.laid_turnstile_api_ErrShort), ("turnstile/api.ErrForm", Rows.laid_turnstile_api_ErrForm), ("turnstile/api.ErrLong", Rows.laid_turnstile_api_ErrLong), ("turnstile/api.ErrSum", Rows.laid_turnstile_api_ErrSum), ("turnstile/api.ErrIo", Rows.laid_turnstile_api_ErrIo), ("turnstile/api.ErrDown", Rows.laid_turnstile_api_ErrDown), ("turnstile/api.ErrGone", Rows.laid_turnstile_api_ErrGone), ("turnstile/api.ErrThere", Rows.laid_turnstile_api_ErrThere), ("turnstile/api.ErrImage", Rows.laid_turnstile_api_ErrImage), ("turnstile/api.ErrGap", Rows.laid_turnstile_api_ErrGap), ("turnstile/api.ErrLog", Rows.laid_turnstile_api_ErrLog), ("turnstile/api.ErrSick", Rows.laid_turnstile_api_ErrSick), ("turnstile/api.ErrConfig", Rows.laid_turnstile_api_ErrConfig), ("turnstile/api.ErrNil", Rows.laid_turnstile_api_ErrNil)] [.data, .sentinel, .sentinel, .sentinel, .sentinel, .sentinel, .sentinel, .sentinel, .sentinel, .sentinel, .sentinel, .sentinel, .sentinel, .sentinel, .sentinel, .sentinel] true :=
  Program.laidByTextLater.sub seatTie1 ["turnstile/crc.halves", "turnstile/api.ErrArg", "turnstile/api.ErrShort", "turnstile/api.ErrForm", "turnstile/api.ErrLong", "turnstile/api.ErrSum", "turnstile/api.ErrIo", "turnstile/api.ErrDown", "turnstile/api.ErrGone", "turnstile/api.ErrThere", "turnstile/api.ErrImage", "turnstile/api.ErrGap", "turnstile/api.ErrLog", "turnstile/api.ErrSick", "turnstile/api.ErrConfig", "turnstile/api.ErrNil"] (by kernel_rfl) (by kernel_rfl)
theorem imageAll_row_tie : Rows.imageAllRow.laidByTextAt .later Tryd.pinned [.data, .sentinel, .sentinel, .sentinel, .sentinel, .sentinel, .sentinel, .sentinel, .sentinel, .sentinel, .sentinel, .sentinel, .sentinel, .sentinel, .sentinel, .sentinel] true :=
  OpenClaim.laidByTextAt_later rfl rfl tie3 noOwnUnsafe
theorem tie4 : Tryd.prog.laidByTextLater [("turnstile/crc.halves", Rows.laid_turnstile_crc_halves), ("turnstile/api.ErrArg", Rows.laid_turnstile_api_ErrArg), ("turnstile/api.ErrShort", Rows.laid_turnstile_api_ErrShort), ("turnstile/api.ErrForm", Rows.laid_turnstile_api_ErrForm), ("turnstile/api.ErrLong", Rows.laid_turnstile_api_ErrLong), ("turnstile/api.ErrSum", Rows.laid_turnstile_api_ErrSum), ("turnstile/api.ErrNil", Rows.laid_turnstile_api_ErrNil)] [.data, .sentinel, .sentinel, .sentinel, .sentinel, .sentinel, .sentinel] true :=
  Program.laidByTextLater.sub seatTie1 ["turnstile/crc.halves", "turnstile/api.ErrArg", "turnstile/api.ErrShort", "turnstile/api.ErrForm", "turnstile/api.ErrLong", "turnstile/api.ErrSum", "turnstile/api.ErrNil"] (by kernel_rfl) (by kernel_rfl)
theorem imageBack_row_tie : Rows.imageBackRow.laidByTextAt .later Tryd.pinned [.data, .sentinel, .sentinel, .sentinel, .sentinel, .sentinel, .sentinel] true :=
  OpenClaim.laidByTextAt_later rfl rfl tie4 noOwnUnsafe
theorem imageForth_row_tie : Rows.imageForthRow.laidByTextAt .later Tryd.pinned [.data, .sentinel, .sentinel, .sentinel, .sentinel, .sentinel, .sentinel] true :=
  OpenClaim.laidByTextAt_later rfl rfl tie4 noOwnUnsafe
theorem imageTurned_row_tie : Rows.imageTurnedRow.laidByTextAt .later Tryd.pinned [.data, .sentinel, .sentinel, .sentinel, .sentinel, .sentinel, .sentinel] true :=
  OpenClaim.laidByTextAt_later rfl rfl tie4 noOwnUnsafe
theorem imageUnlike_row_tie : Rows.imageUnlikeRow.laidByTextAt .later Tryd.pinned [.data, .sentinel, .sentinel, .sentinel, .sentinel, .sentinel, .sentinel] true :=
  OpenClaim.laidByTextAt_later rfl rfl tie4 noOwnUnsafe
theorem recordAllUpto_row_tie : Rows.recordAllUptoRow.laidByTextAt .later Tryd.pinned [.sentinel, .sentinel, .sentinel, .sentinel, .sentinel, .sentinel, .sentinel, .sentinel, .sentinel, .sentinel, .sentinel, .sentinel, .sentinel, .sentinel, .sentinel] true :=
  OpenClaim.laidByTextAt_later rfl rfl tie noOwnUnsafe
theorem recordBackUpto_row_tie : Rows.recordBackUptoRow.laidByTextAt .later Tryd.pinned [.sentinel, .sentinel, .sentinel, .sentinel, .sentinel] true :=
  OpenClaim.laidByTextAt_later rfl rfl tie2 noOwnUnsafe
theorem recordForthUpto_row_tie : Rows.recordForthUptoRow.laidByTextAt .later Tryd.pinned [.sentinel, .sentinel, .sentinel, .sentinel, .sentinel] true :=
  OpenClaim.laidByTextAt_later rfl rfl tie2 noOwnUnsafe
theorem recordCutsUpto_row_tie : Rows.recordCutsUptoRow.laidByTextAt .later Tryd.pinned [.sentinel, .sentinel, .sentinel, .sentinel, .sentinel] true :=
  OpenClaim.laidByTextAt_later rfl rfl tie2 noOwnUnsafe
theorem recordValidUpto_row_tie : Rows.recordValidUptoRow.laidByTextAt .later Tryd.pinned [.sentinel, .sentinel, .sentinel, .sentinel, .sentinel] true :=
  OpenClaim.laidByTextAt_later rfl rfl tie2 noOwnUnsafe
theorem imageAllUpto_row_tie : Rows.imageAllUptoRow.laidByTextAt .later Tryd.pinned [.data, .sentinel, .sentinel, .sentinel, .sentinel, .sentinel, .sentinel, .sentinel, .sentinel, .sentinel, .sentinel, .sentinel, .sentinel, .sentinel, .sentinel, .sentinel] true :=
  OpenClaim.laidByTextAt_later rfl rfl tie3 noOwnUnsafe
theorem imageBackUpto_row_tie : Rows.imageBackUptoRow.laidByTextAt .later Tryd.pinned [.data, .sentinel, .sentinel, .sentinel, .sentinel, .sentinel, .sentinel] true :=
  OpenClaim.laidByTextAt_later rfl rfl tie4 noOwnUnsafe
theorem imageForthUpto_row_tie : Rows.imageForthUptoRow.laidByTextAt .later Tryd.pinned [.data, .sentinel, .sentinel, .sentinel, .sentinel, .sentinel, .sentinel] true :=
  OpenClaim.laidByTextAt_later rfl rfl tie4 noOwnUnsafe
theorem imageTurnedUpto_row_tie : Rows.imageTurnedUptoRow.laidByTextAt .later Tryd.pinned [.data, .sentinel, .sentinel, .sentinel, .sentinel, .sentinel, .sentinel] true :=
  OpenClaim.laidByTextAt_later rfl rfl tie4 noOwnUnsafe
theorem imageUnlikeUpto_row_tie : Rows.imageUnlikeUptoRow.laidByTextAt .later Tryd.pinned [.data, .sentinel, .sentinel, .sentinel, .sentinel, .sentinel, .sentinel] true :=
  OpenClaim.laidByTextAt_later rfl rfl tie4 noOwnUnsafe
end Go.Proofs.YtkgjepmminmjjaaDoor
