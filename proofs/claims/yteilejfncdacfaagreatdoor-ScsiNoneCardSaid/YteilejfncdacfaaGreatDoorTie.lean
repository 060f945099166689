/-
  DERIVED. GIVEN WITH THE SEED: THE PROGRAM's TIES (one call each: nine closed facts by the kernel) AND EACH ROW's TIE, after the 31st guide's Derived/Test/Toyas{Tie, Card}.lean. No idea stands in it: it is a product of the set-up. Laid BY PROGRAM, IN A SANDBOX (cutbox-door.mjs). By AI agents, Wed Nov 11 2026. No macro, syntax, notation, axiom, sorry.
-/
import Derived.Test.YteilejfncdacfaaGreatDoorRows
import Derived.LaidByTextLater
import Derived.SevenTiedAt
import Derived.LaidSub
import Derived.LaidOnce
namespace Go.Proofs.YteilejfncdacfaaGreatDoor
open Go
set_option maxRecDepth 100000
theorem seatTie1 : Tryz.prog.laidByTextLater [("headgate/access.lets", Rows.laid_headgate_access_lets), ("headgate/cdb.forms", Rows.laid_headgate_cdb_forms), ("headgate/cdb.numbers", Rows.laid_headgate_cdb_numbers), ("headgate/crc.steps", Rows.laid_headgate_crc_steps), ("headgate/sense.rows", Rows.laid_headgate_sense_rows)] [.data, .data, .data, .data, .data] true :=
  Program.laidByTextLater_by_one 76 8 113 (by kernel_rfl) (by kernel_rfl) (by kernel_rfl) (by kernel_rfl) (by kernel_rfl) (by kernel_rfl) (fun _ _ => by kernel_rfl)
theorem noOwnUnsafe : Tryz.pinned.checked.prog.headLifts.contains "ownunsafe" = false := by kernel_rfl
theorem tie : Tryz.prog.laidByTextLater [("headgate/access.lets", Rows.laid_headgate_access_lets), ("headgate/cdb.forms", Rows.laid_headgate_cdb_forms), ("headgate/cdb.numbers", Rows.laid_headgate_cdb_numbers), ("headgate/crc.steps", Rows.laid_headgate_crc_steps), ("headgate/sense.rows", Rows.laid_headgate_sense_rows)] [.data, .data, .data, .data, .data] true :=
  Program.laidByTextLater.sub seatTie1 ["headgate/access.lets", "headgate/cdb.forms", "headgate/cdb.numbers", "headgate/crc.steps", "headgate/sense.rows"] (by kernel_rfl) (by kernel_rfl)
theorem scsiTold_row_tie : Rows.scsiToldRow.laidByTextAt .later Tryz.pinned [.data, .data, .data, .data, .data] true :=
  OpenClaim.laidByTextAt_later rfl rfl tie noOwnUnsafe
theorem scsiNeeds_row_tie : Rows.scsiNeedsRow.laidByTextAt .later Tryz.pinned [.data, .data, .data, .data, .data] true :=
  OpenClaim.laidByTextAt_later rfl rfl tie noOwnUnsafe
theorem scsiNone_row_tie : Rows.scsiNoneRow.laidByTextAt .later Tryz.pinned [.data, .data, .data, .data, .data] true :=
  OpenClaim.laidByTextAt_later rfl rfl tie noOwnUnsafe
theorem scsiCut_row_tie : Rows.scsiCutRow.laidByTextAt .later Tryz.pinned [.data, .data, .data, .data, .data] true :=
  OpenClaim.laidByTextAt_later rfl rfl tie noOwnUnsafe
theorem scsiSays_row_tie : Rows.scsiSaysRow.laidByTextAt .later Tryz.pinned [.data, .data, .data, .data, .data] true :=
  OpenClaim.laidByTextAt_later rfl rfl tie noOwnUnsafe
theorem scsiDoes_row_tie : Rows.scsiDoesRow.laidByTextAt .later Tryz.pinned [.data, .data, .data, .data, .data] true :=
  OpenClaim.laidByTextAt_later rfl rfl tie noOwnUnsafe
theorem scsiToldUpto_row_tie : Rows.scsiToldUptoRow.laidByTextAt .later Tryz.pinned [.data, .data, .data, .data, .data] true :=
  OpenClaim.laidByTextAt_later rfl rfl tie noOwnUnsafe
theorem scsiNeedsUpto_row_tie : Rows.scsiNeedsUptoRow.laidByTextAt .later Tryz.pinned [.data, .data, .data, .data, .data] true :=
  OpenClaim.laidByTextAt_later rfl rfl tie noOwnUnsafe
theorem scsiNoneUpto_row_tie : Rows.scsiNoneUptoRow.laidByTextAt .later Tryz.pinned [.data, .data, .data, .data, .data] true :=
  OpenClaim.laidByTextAt_later rfl rfl tie noOwnUnsafe
theorem scsiCutUpto_row_tie : Rows.scsiCutUptoRow.laidByTextAt .later Tryz.pinned [.data, .data, .data, .data, .data] true :=
  OpenClaim.laidByTextAt_later rfl rfl tie noOwnUnsafe
theorem scsiSaysUpto_row_tie : Rows.scsiSaysUptoRow.laidByTextAt .later Tryz.pinned [.data, .data, .data, .data, .data] true :=
  OpenClaim.laidByTextAt_later rfl rfl tie noOwnUnsafe
theorem scsiDoesUpto_row_tie : Rows.scsiDoesUptoRow.laidByTextAt .later Tryz.pinned [.data, .data, .data, .data, .data] true :=
  OpenClaim.laidByTextAt_later rfl rfl tie noOwnUnsafe
end Go.Proofs.YteilejfncdacfaaGreatDoor
