/- Texts of the proof, joined by a program (of one law): contracts of functions, plain laws. -/
import Derived.Test.YtnknfolnbhljfaaGreatDoorJU1
set_option linter.unusedVariables false
set_option linter.unusedSimpArgs false
set_option linter.unusedSectionVars false
section
/- Checks by the kernel, piece by piece (printed by a program of mine). -/
namespace Go.Proofs.YtnknfolnbhljfaaGreatDoor.Sab
open Go Go.Proofs.YtnknfolnbhljfaaGreatDoor.Ab
set_option maxRecDepth 100000
set_option maxHeartbeats 0
theorem places_chk_7 : okPlaces (1, 0, true) = true := by kernel_rfl
theorem places_chk_8 : okPlaces (1, 2, true) = true := by kernel_rfl
theorem places_chk_9 : okPlaces (2, 1, true) = true := by kernel_rfl
theorem places_chk_10 : okPlaces (4, 0, true) = true := by kernel_rfl
theorem places_chk_11 : okPlaces (4, 2, true) = true := by kernel_rfl
theorem places_chk_12 : okPlaces (6, 0, true) = true := by kernel_rfl
theorem places_chk_13 : okPlaces (6, 2, true) = true := by kernel_rfl
end Go.Proofs.YtnknfolnbhljfaaGreatDoor.Sab
end
