/- Texts of the proof, joined by a program (of one law): contracts of functions, plain laws. -/
import Derived.Test.YtnikgcedifdaeaaGreatDoorJQoDayA
set_option linter.unusedVariables false
set_option linter.unusedSimpArgs false
set_option linter.unusedSectionVars false
section
/- Checks by the kernel, piece by piece (printed by a program of mine). -/
namespace Go.Proofs.YtnikgcedifdaeaaGreatDoor.Sab
open Go Go.Proofs.YtnikgcedifdaeaaGreatDoor.Ab
set_option maxRecDepth 100000
set_option maxHeartbeats 0
theorem dayk_0_12_0 : okDayK 0 (6, 0, true) 0 = true := by kernel_rfl
theorem dayk_0_12_1 : okDayK 0 (6, 0, true) 1 = true := by kernel_rfl
theorem dayk_0_12_2 : okDayK 0 (6, 0, true) 2 = true := by kernel_rfl
theorem dayk_0_12_3 : okDayK 0 (6, 0, true) 3 = true := by kernel_rfl
theorem dayk_0_12_4 : okDayK 0 (6, 0, true) 4 = true := by kernel_rfl
theorem dayk_0_12_5 : okDayK 0 (6, 0, true) 5 = true := by kernel_rfl
theorem dayk_0_13_0 : okDayK 0 (6, 2, true) 0 = true := by kernel_rfl
theorem dayk_0_13_1 : okDayK 0 (6, 2, true) 1 = true := by kernel_rfl
theorem dayk_0_13_2 : okDayK 0 (6, 2, true) 2 = true := by kernel_rfl
theorem dayk_0_13_3 : okDayK 0 (6, 2, true) 3 = true := by kernel_rfl
theorem dayk_0_13_4 : okDayK 0 (6, 2, true) 4 = true := by kernel_rfl
theorem dayk_0_13_5 : okDayK 0 (6, 2, true) 5 = true := by kernel_rfl
theorem dayk_1_0_0 : okDayK 1 (1, 0, false) 0 = true := by kernel_rfl
theorem dayk_1_0_1 : okDayK 1 (1, 0, false) 1 = true := by kernel_rfl
theorem dayk_1_0_2 : okDayK 1 (1, 0, false) 2 = true := by kernel_rfl
theorem dayk_1_0_3 : okDayK 1 (1, 0, false) 3 = true := by kernel_rfl
theorem dayk_1_0_4 : okDayK 1 (1, 0, false) 4 = true := by kernel_rfl
theorem dayk_1_0_5 : okDayK 1 (1, 0, false) 5 = true := by kernel_rfl
theorem dayk_1_1_0 : okDayK 1 (1, 2, false) 0 = true := by kernel_rfl
theorem dayk_1_1_1 : okDayK 1 (1, 2, false) 1 = true := by kernel_rfl
theorem dayk_1_1_2 : okDayK 1 (1, 2, false) 2 = true := by kernel_rfl
theorem dayk_1_1_3 : okDayK 1 (1, 2, false) 3 = true := by kernel_rfl
theorem dayk_1_1_4 : okDayK 1 (1, 2, false) 4 = true := by kernel_rfl
theorem dayk_1_1_5 : okDayK 1 (1, 2, false) 5 = true := by kernel_rfl
end Go.Proofs.YtnikgcedifdaeaaGreatDoor.Sab
end
