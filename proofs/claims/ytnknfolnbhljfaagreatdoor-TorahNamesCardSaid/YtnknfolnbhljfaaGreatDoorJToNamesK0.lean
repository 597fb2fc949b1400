/- Texts of the proof, joined by a program (of one law): contracts of functions, plain laws. -/
import Derived.Test.YtnknfolnbhljfaaGreatDoorJToNamesA
set_option linter.unusedVariables false
set_option linter.unusedSimpArgs false
set_option linter.unusedSectionVars false
section
/- Checks by the kernel, piece by piece (printed by a program of mine). -/
namespace Go.Proofs.YtnknfolnbhljfaaGreatDoor.Sab
open Go Go.Proofs.YtnknfolnbhljfaaGreatDoor.Ab
set_option maxRecDepth 100000
set_option maxHeartbeats 0
theorem names_chk_0 : okNames 0 = true := by kernel_rfl
theorem names_chk_1 : okNames 1 = true := by kernel_rfl
theorem names_chk_2 : okNames 2 = true := by kernel_rfl
theorem names_chk_3 : okNames 3 = true := by kernel_rfl
theorem names_chk_4 : okNames 4 = true := by kernel_rfl
theorem names_chk_5 : okNames 5 = true := by kernel_rfl
theorem names_chk_6 : okNames 6 = true := by kernel_rfl
theorem names_chk_7 : okNames 7 = true := by kernel_rfl
theorem names_chk_8 : okNames 8 = true := by kernel_rfl
theorem names_chk_9 : okNames 9 = true := by kernel_rfl
theorem names_chk_10 : okNames 10 = true := by kernel_rfl
theorem names_chk_11 : okNames 11 = true := by kernel_rfl
theorem names_chk_12 : okNames 12 = true := by kernel_rfl
theorem names_chk_13 : okNames 13 = true := by kernel_rfl
end Go.Proofs.YtnknfolnbhljfaaGreatDoor.Sab
end
