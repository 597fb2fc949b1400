/- Texts of the proof, joined by a program (of one law): contracts of functions, plain laws. -/
import Derived.Test.YtnikgcedifdaeaaGreatDoorJQoDayA
set_option linter.unusedVariables false
set_option linter.unusedSimpArgs false
set_option linter.unusedSectionVars false
section
/- Checks by the kernel, piece by piece (printed by a program of mine). -/
namespace Go.Proofs.YtnikgcedifdaeaaGreatDoor.Sab
open Go Go.Proofs.YtnikgcedifdaeaaGreatDoor.Ab
set_option maxRecDepth 100000
set_option maxHeartbeats 0
theorem dayk_1_10_0 : okDayK 1 (4, 0, true) 0 = true := by kernel_rfl
theorem dayk_1_10_1 : okDayK 1 (4, 0, true) 1 = true := by kernel_rfl
theorem dayk_1_10_2 : okDayK 1 (4, 0, true) 2 = true := by kernel_rfl
theorem dayk_1_10_3 : okDayK 1 (4, 0, true) 3 = true := by kernel_rfl
theorem dayk_1_10_4 : okDayK 1 (4, 0, true) 4 = true := by kernel_rfl
theorem dayk_1_10_5 : okDayK 1 (4, 0, true) 5 = true := by kernel_rfl
theorem dayk_1_11_0 : okDayK 1 (4, 2, true) 0 = true := by kernel_rfl
theorem dayk_1_11_1 : okDayK 1 (4, 2, true) 1 = true := by kernel_rfl
theorem dayk_1_11_2 : okDayK 1 (4, 2, true) 2 = true := by kernel_rfl
theorem dayk_1_11_3 : okDayK 1 (4, 2, true) 3 = true := by kernel_rfl
theorem dayk_1_11_4 : okDayK 1 (4, 2, true) 4 = true := by kernel_rfl
theorem dayk_1_11_5 : okDayK 1 (4, 2, true) 5 = true := by kernel_rfl
theorem dayk_1_12_0 : okDayK 1 (6, 0, true) 0 = true := by kernel_rfl
theorem dayk_1_12_1 : okDayK 1 (6, 0, true) 1 = true := by kernel_rfl
theorem dayk_1_12_2 : okDayK 1 (6, 0, true) 2 = true := by kernel_rfl
theorem dayk_1_12_3 : okDayK 1 (6, 0, true) 3 = true := by kernel_rfl
theorem dayk_1_12_4 : okDayK 1 (6, 0, true) 4 = true := by kernel_rfl
theorem dayk_1_12_5 : okDayK 1 (6, 0, true) 5 = true := by kernel_rfl
theorem dayk_1_13_0 : okDayK 1 (6, 2, true) 0 = true := by kernel_rfl
theorem dayk_1_13_1 : okDayK 1 (6, 2, true) 1 = true := by kernel_rfl
theorem dayk_1_13_2 : okDayK 1 (6, 2, true) 2 = true := by kernel_rfl
theorem dayk_1_13_3 : okDayK 1 (6, 2, true) 3 = true := by kernel_rfl
theorem dayk_1_13_4 : okDayK 1 (6, 2, true) 4 = true := by kernel_rfl
theorem dayk_1_13_5 : okDayK 1 (6, 2, true) 5 = true := by kernel_rfl
end Go.Proofs.YtnikgcedifdaeaaGreatDoor.Sab
end
