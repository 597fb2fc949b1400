/-
  DERIVED. GIVEN WITH THE SEED: THE PROGRAM's TIES (one call each: nine closed facts by the kernel) AND EACH ROW's TIE, after the 31st guide's Derived/Test/Toyas{Tie, Card}.lean. No idea stands in it: it is a product of the set-up. Laid BY PROGRAM, IN A SANDBOX (cutbox-door.mjs). By AI agents, Wed Nov 11 2026. No macro, syntax, notation, axiom, sorry.
-/
import Derived.Test.YtnknfolnbhljfaaDoorRows
import Derived.LaidByTextLater
import Derived.SevenTiedAt
import Derived.LaidSub
import Derived.LaidOnce
namespace Go.Proofs.YtnknfolnbhljfaaDoor
open Go
set_option maxRecDepth 100000
theorem seatTie1 : Tryd.prog.laidByTextLater [("almanacker/keviah.types", Rows.laid_almanacker_keviah_types), ("almanacker/month.plain", Rows.laid_almanacker_month_plain)] [.widerDeep, .data] true :=
  Program.laidByTextLater_by_one 33 8 43 (by kernel_rfl) (by kernel_rfl) (by kernel_rfl) (by kernel_rfl) (by kernel_rfl) (by kernel_rfl) (fun _ _ => by kernel_rfl)
theorem noOwnUnsafe : Tryd.pinned.checked.prog.headLifts.contains "ownunsafe" = false := by kernel_rfl
theorem tie : Tryd.prog.laidByTextLater [("almanacker/keviah.types", Rows.laid_almanacker_keviah_types), ("almanacker/month.plain", Rows.laid_almanacker_month_plain)] [.widerDeep, .data] true :=
  Program.laidByTextLater.sub seatTie1 ["almanacker/keviah.types", "almanacker/month.plain"] (by kernel_rfl) (by kernel_rfl)
theorem sabbathParts_row_tie : Rows.sabbathPartsRow.laidByTextAt .later Tryd.pinned [.widerDeep, .data] true :=
  OpenClaim.laidByTextAt_later rfl rfl tie noOwnUnsafe
theorem sabbathPartsUpto_row_tie : Rows.sabbathPartsUptoRow.laidByTextAt .later Tryd.pinned [.widerDeep, .data] true :=
  OpenClaim.laidByTextAt_later rfl rfl tie noOwnUnsafe
end Go.Proofs.YtnknfolnbhljfaaDoor
