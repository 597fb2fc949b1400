/-
  DERIVED. GIVEN WITH THE SEED: THE PROGRAM's TIES (one call each: nine closed facts by the kernel) AND EACH ROW's TIE, after the 31st guide's Derived/Test/Toyas{Tie, Card}.lean. No idea stands in it: it is a product of the set-up. Laid BY PROGRAM, IN A SANDBOX (cutbox-door.mjs). By AI agents, Wed Nov 11 2026. No macro, syntax, notation, axiom, sorry.
-/
import Derived.Test.YtnikgcedifdaeaaGreatDoorRows
import Derived.LaidByTextLater
import Derived.SevenTiedAt
import Derived.LaidSub
import Derived.LaidOnce
namespace Go.Proofs.YtnikgcedifdaeaaGreatDoor
open Go
set_option maxRecDepth 100000
theorem seatTie1 : Tryz.prog.laidByTextLater [("almanacker/keviah.types", Rows.laid_almanacker_keviah_types), ("almanacker/month.plain", Rows.laid_almanacker_month_plain), ("almanacker/torah.names", Rows.laid_almanacker_torah_names)] [.widerDeep, .data, .data] true :=
  Program.laidByTextLater_by_one 38 8 55 (by kernel_rfl) (by kernel_rfl) (by kernel_rfl) (by kernel_rfl) (by kernel_rfl) (by kernel_rfl) (fun _ _ => by kernel_rfl)
theorem noOwnUnsafe : Tryz.pinned.checked.prog.headLifts.contains "ownunsafe" = false := by kernel_rfl
theorem tie : Tryz.prog.laidByTextLater [("almanacker/keviah.types", Rows.laid_almanacker_keviah_types), ("almanacker/month.plain", Rows.laid_almanacker_month_plain), ("almanacker/torah.names", Rows.laid_almanacker_torah_names)] [.widerDeep, .data, .data] true :=
  Program.laidByTextLater.sub seatTie1 ["almanacker/keviah.types", "almanacker/month.plain", "almanacker/torah.names"] (by kernel_rfl) (by kernel_rfl)
theorem torahTells_row_tie : Rows.torahTellsRow.laidByTextAt .later Tryz.pinned [.widerDeep, .data, .data] true :=
  OpenClaim.laidByTextAt_later rfl rfl tie noOwnUnsafe
theorem torahOnce_row_tie : Rows.torahOnceRow.laidByTextAt .later Tryz.pinned [.widerDeep, .data, .data] true :=
  OpenClaim.laidByTextAt_later rfl rfl tie noOwnUnsafe
theorem tie2 : Tryz.prog.laidByTextLater [("almanacker/keviah.types", Rows.laid_almanacker_keviah_types), ("almanacker/month.plain", Rows.laid_almanacker_month_plain)] [.widerDeep, .data] true :=
  Program.laidByTextLater.sub seatTie1 ["almanacker/keviah.types", "almanacker/month.plain"] (by kernel_rfl) (by kernel_rfl)
theorem dayBoth_row_tie : Rows.dayBothRow.laidByTextAt .later Tryz.pinned [.widerDeep, .data] true :=
  OpenClaim.laidByTextAt_later rfl rfl tie2 noOwnUnsafe
theorem dayPlaces_row_tie : Rows.dayPlacesRow.laidByTextAt .later Tryz.pinned [.widerDeep, .data] true :=
  OpenClaim.laidByTextAt_later rfl rfl tie2 noOwnUnsafe
theorem dayTells_row_tie : Rows.dayTellsRow.laidByTextAt .later Tryz.pinned [.widerDeep, .data] true :=
  OpenClaim.laidByTextAt_later rfl rfl tie2 noOwnUnsafe
theorem torahTellsUpto_row_tie : Rows.torahTellsUptoRow.laidByTextAt .later Tryz.pinned [.widerDeep, .data, .data] true :=
  OpenClaim.laidByTextAt_later rfl rfl tie noOwnUnsafe
theorem torahOnceUpto_row_tie : Rows.torahOnceUptoRow.laidByTextAt .later Tryz.pinned [.widerDeep, .data, .data] true :=
  OpenClaim.laidByTextAt_later rfl rfl tie noOwnUnsafe
theorem dayBothUpto_row_tie : Rows.dayBothUptoRow.laidByTextAt .later Tryz.pinned [.widerDeep, .data] true :=
  OpenClaim.laidByTextAt_later rfl rfl tie2 noOwnUnsafe
theorem dayPlacesUpto_row_tie : Rows.dayPlacesUptoRow.laidByTextAt .later Tryz.pinned [.widerDeep, .data] true :=
  OpenClaim.laidByTextAt_later rfl rfl tie2 noOwnUnsafe
theorem dayTellsUpto_row_tie : Rows.dayTellsUptoRow.laidByTextAt .later Tryz.pinned [.widerDeep, .data] true :=
  OpenClaim.laidByTextAt_later rfl rfl tie2 noOwnUnsafe
end Go.Proofs.YtnikgcedifdaeaaGreatDoor
