/- Texts of the proof, joined by a program (of one law): contracts of functions, plain laws. -/
import Derived.Test.YtnikgcedifdaeaaGreatDoorJQoDayA
set_option linter.unusedVariables false
set_option linter.unusedSimpArgs false
set_option linter.unusedSectionVars false
section
/- Checks by the kernel, piece by piece (printed by a program of mine). -/
namespace Go.Proofs.YtnikgcedifdaeaaGreatDoor.Sab
open Go Go.Proofs.YtnikgcedifdaeaaGreatDoor.Ab
set_option maxRecDepth 100000
set_option maxHeartbeats 0
theorem dayk_1_2_0 : okDayK 1 (2, 1, false) 0 = true := by kernel_rfl
theorem dayk_1_2_1 : okDayK 1 (2, 1, false) 1 = true := by kernel_rfl
theorem dayk_1_2_2 : okDayK 1 (2, 1, false) 2 = true := by kernel_rfl
theorem dayk_1_2_3 : okDayK 1 (2, 1, false) 3 = true := by kernel_rfl
theorem dayk_1_2_4 : okDayK 1 (2, 1, false) 4 = true := by kernel_rfl
theorem dayk_1_2_5 : okDayK 1 (2, 1, false) 5 = true := by kernel_rfl
theorem dayk_1_3_0 : okDayK 1 (4, 1, false) 0 = true := by kernel_rfl
theorem dayk_1_3_1 : okDayK 1 (4, 1, false) 1 = true := by kernel_rfl
theorem dayk_1_3_2 : okDayK 1 (4, 1, false) 2 = true := by kernel_rfl
theorem dayk_1_3_3 : okDayK 1 (4, 1, false) 3 = true := by kernel_rfl
theorem dayk_1_3_4 : okDayK 1 (4, 1, false) 4 = true := by kernel_rfl
theorem dayk_1_3_5 : okDayK 1 (4, 1, false) 5 = true := by kernel_rfl
theorem dayk_1_4_0 : okDayK 1 (4, 2, false) 0 = true := by kernel_rfl
theorem dayk_1_4_1 : okDayK 1 (4, 2, false) 1 = true := by kernel_rfl
theorem dayk_1_4_2 : okDayK 1 (4, 2, false) 2 = true := by kernel_rfl
theorem dayk_1_4_3 : okDayK 1 (4, 2, false) 3 = true := by kernel_rfl
theorem dayk_1_4_4 : okDayK 1 (4, 2, false) 4 = true := by kernel_rfl
theorem dayk_1_4_5 : okDayK 1 (4, 2, false) 5 = true := by kernel_rfl
theorem dayk_1_5_0 : okDayK 1 (6, 0, false) 0 = true := by kernel_rfl
theorem dayk_1_5_1 : okDayK 1 (6, 0, false) 1 = true := by kernel_rfl
theorem dayk_1_5_2 : okDayK 1 (6, 0, false) 2 = true := by kernel_rfl
theorem dayk_1_5_3 : okDayK 1 (6, 0, false) 3 = true := by kernel_rfl
theorem dayk_1_5_4 : okDayK 1 (6, 0, false) 4 = true := by kernel_rfl
theorem dayk_1_5_5 : okDayK 1 (6, 0, false) 5 = true := by kernel_rfl
end Go.Proofs.YtnikgcedifdaeaaGreatDoor.Sab
end
