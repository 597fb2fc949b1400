/- Texts of the proof, joined by a program (of one law): contracts of functions, plain laws. -/
import Derived.Test.YtnikgcedifdaeaaGreatDoorJQoDayA
set_option linter.unusedVariables false
set_option linter.unusedSimpArgs false
set_option linter.unusedSectionVars false
section
/- Checks by the kernel, piece by piece (printed by a program of mine). -/
namespace Go.Proofs.YtnikgcedifdaeaaGreatDoor.Sab
open Go Go.Proofs.YtnikgcedifdaeaaGreatDoor.Ab
set_option maxRecDepth 100000
set_option maxHeartbeats 0
theorem dayk_0_0_0 : okDayK 0 (1, 0, false) 0 = true := by kernel_rfl
theorem dayk_0_0_1 : okDayK 0 (1, 0, false) 1 = true := by kernel_rfl
theorem dayk_0_0_2 : okDayK 0 (1, 0, false) 2 = true := by kernel_rfl
theorem dayk_0_0_3 : okDayK 0 (1, 0, false) 3 = true := by kernel_rfl
theorem dayk_0_0_4 : okDayK 0 (1, 0, false) 4 = true := by kernel_rfl
theorem dayk_0_0_5 : okDayK 0 (1, 0, false) 5 = true := by kernel_rfl
theorem dayk_0_1_0 : okDayK 0 (1, 2, false) 0 = true := by kernel_rfl
theorem dayk_0_1_1 : okDayK 0 (1, 2, false) 1 = true := by kernel_rfl
theorem dayk_0_1_2 : okDayK 0 (1, 2, false) 2 = true := by kernel_rfl
theorem dayk_0_1_3 : okDayK 0 (1, 2, false) 3 = true := by kernel_rfl
theorem dayk_0_1_4 : okDayK 0 (1, 2, false) 4 = true := by kernel_rfl
theorem dayk_0_1_5 : okDayK 0 (1, 2, false) 5 = true := by kernel_rfl
theorem dayk_0_2_0 : okDayK 0 (2, 1, false) 0 = true := by kernel_rfl
theorem dayk_0_2_1 : okDayK 0 (2, 1, false) 1 = true := by kernel_rfl
theorem dayk_0_2_2 : okDayK 0 (2, 1, false) 2 = true := by kernel_rfl
theorem dayk_0_2_3 : okDayK 0 (2, 1, false) 3 = true := by kernel_rfl
theorem dayk_0_2_4 : okDayK 0 (2, 1, false) 4 = true := by kernel_rfl
theorem dayk_0_2_5 : okDayK 0 (2, 1, false) 5 = true := by kernel_rfl
theorem dayk_0_3_0 : okDayK 0 (4, 1, false) 0 = true := by kernel_rfl
theorem dayk_0_3_1 : okDayK 0 (4, 1, false) 1 = true := by kernel_rfl
theorem dayk_0_3_2 : okDayK 0 (4, 1, false) 2 = true := by kernel_rfl
theorem dayk_0_3_3 : okDayK 0 (4, 1, false) 3 = true := by kernel_rfl
theorem dayk_0_3_4 : okDayK 0 (4, 1, false) 4 = true := by kernel_rfl
theorem dayk_0_3_5 : okDayK 0 (4, 1, false) 5 = true := by kernel_rfl
end Go.Proofs.YtnikgcedifdaeaaGreatDoor.Sab
end
