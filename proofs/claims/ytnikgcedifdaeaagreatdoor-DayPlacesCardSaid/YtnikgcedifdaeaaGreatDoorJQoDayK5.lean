/- Texts of the proof, joined by a program (of one law): contracts of functions, plain laws. -/
import Derived.Test.YtnikgcedifdaeaaGreatDoorJQoDayA
set_option linter.unusedVariables false
set_option linter.unusedSimpArgs false
set_option linter.unusedSectionVars false
section
/- Checks by the kernel, piece by piece (printed by a program of mine). -/
namespace Go.Proofs.YtnikgcedifdaeaaGreatDoor.Sab
open Go Go.Proofs.YtnikgcedifdaeaaGreatDoor.Ab
set_option maxRecDepth 100000
set_option maxHeartbeats 0
theorem dayk_1_6_0 : okDayK 1 (6, 2, false) 0 = true := by kernel_rfl
theorem dayk_1_6_1 : okDayK 1 (6, 2, false) 1 = true := by kernel_rfl
theorem dayk_1_6_2 : okDayK 1 (6, 2, false) 2 = true := by kernel_rfl
theorem dayk_1_6_3 : okDayK 1 (6, 2, false) 3 = true := by kernel_rfl
theorem dayk_1_6_4 : okDayK 1 (6, 2, false) 4 = true := by kernel_rfl
theorem dayk_1_6_5 : okDayK 1 (6, 2, false) 5 = true := by kernel_rfl
theorem dayk_1_7_0 : okDayK 1 (1, 0, true) 0 = true := by kernel_rfl
theorem dayk_1_7_1 : okDayK 1 (1, 0, true) 1 = true := by kernel_rfl
theorem dayk_1_7_2 : okDayK 1 (1, 0, true) 2 = true := by kernel_rfl
theorem dayk_1_7_3 : okDayK 1 (1, 0, true) 3 = true := by kernel_rfl
theorem dayk_1_7_4 : okDayK 1 (1, 0, true) 4 = true := by kernel_rfl
theorem dayk_1_7_5 : okDayK 1 (1, 0, true) 5 = true := by kernel_rfl
theorem dayk_1_8_0 : okDayK 1 (1, 2, true) 0 = true := by kernel_rfl
theorem dayk_1_8_1 : okDayK 1 (1, 2, true) 1 = true := by kernel_rfl
theorem dayk_1_8_2 : okDayK 1 (1, 2, true) 2 = true := by kernel_rfl
theorem dayk_1_8_3 : okDayK 1 (1, 2, true) 3 = true := by kernel_rfl
theorem dayk_1_8_4 : okDayK 1 (1, 2, true) 4 = true := by kernel_rfl
theorem dayk_1_8_5 : okDayK 1 (1, 2, true) 5 = true := by kernel_rfl
theorem dayk_1_9_0 : okDayK 1 (2, 1, true) 0 = true := by kernel_rfl
theorem dayk_1_9_1 : okDayK 1 (2, 1, true) 1 = true := by kernel_rfl
theorem dayk_1_9_2 : okDayK 1 (2, 1, true) 2 = true := by kernel_rfl
theorem dayk_1_9_3 : okDayK 1 (2, 1, true) 3 = true := by kernel_rfl
theorem dayk_1_9_4 : okDayK 1 (2, 1, true) 4 = true := by kernel_rfl
theorem dayk_1_9_5 : okDayK 1 (2, 1, true) 5 = true := by kernel_rfl
end Go.Proofs.YtnikgcedifdaeaaGreatDoor.Sab
end
