/- Texts of the proof, joined by a program (of one law): contracts of functions, plain laws. -/
import Derived.Test.YtnknfolnbhljfaaGreatDoorJU1
set_option linter.unusedVariables false
set_option linter.unusedSimpArgs false
set_option linter.unusedSectionVars false
section
/- Checks by the kernel, piece by piece (printed by a program of mine). -/
namespace Go.Proofs.YtnknfolnbhljfaaGreatDoor.Sab
open Go Go.Proofs.YtnknfolnbhljfaaGreatDoor.Ab
set_option maxRecDepth 100000
set_option maxHeartbeats 0
theorem places_chk_0 : okPlaces (1, 0, false) = true := by kernel_rfl
theorem places_chk_1 : okPlaces (1, 2, false) = true := by kernel_rfl
theorem places_chk_2 : okPlaces (2, 1, false) = true := by kernel_rfl
theorem places_chk_3 : okPlaces (4, 1, false) = true := by kernel_rfl
theorem places_chk_4 : okPlaces (4, 2, false) = true := by kernel_rfl
theorem places_chk_5 : okPlaces (6, 0, false) = true := by kernel_rfl
theorem places_chk_6 : okPlaces (6, 2, false) = true := by kernel_rfl
end Go.Proofs.YtnknfolnbhljfaaGreatDoor.Sab
end
