/- Texts of the proof, joined by a program (of one law): contracts of functions, plain laws. -/
import Derived.Test.YtnikgcedifdaeaaGreatDoorJQoDayA
set_option linter.unusedVariables false
set_option linter.unusedSimpArgs false
set_option linter.unusedSectionVars false
section
/- Checks by the kernel, piece by piece (printed by a program of mine). -/
namespace Go.Proofs.YtnikgcedifdaeaaGreatDoor.Sab
open Go Go.Proofs.YtnikgcedifdaeaaGreatDoor.Ab
set_option maxRecDepth 100000
set_option maxHeartbeats 0
theorem dayk_0_8_0 : okDayK 0 (1, 2, true) 0 = true := by kernel_rfl
theorem dayk_0_8_1 : okDayK 0 (1, 2, true) 1 = true := by kernel_rfl
theorem dayk_0_8_2 : okDayK 0 (1, 2, true) 2 = true := by kernel_rfl
theorem dayk_0_8_3 : okDayK 0 (1, 2, true) 3 = true := by kernel_rfl
theorem dayk_0_8_4 : okDayK 0 (1, 2, true) 4 = true := by kernel_rfl
theorem dayk_0_8_5 : okDayK 0 (1, 2, true) 5 = true := by kernel_rfl
theorem dayk_0_9_0 : okDayK 0 (2, 1, true) 0 = true := by kernel_rfl
theorem dayk_0_9_1 : okDayK 0 (2, 1, true) 1 = true := by kernel_rfl
theorem dayk_0_9_2 : okDayK 0 (2, 1, true) 2 = true := by kernel_rfl
theorem dayk_0_9_3 : okDayK 0 (2, 1, true) 3 = true := by kernel_rfl
theorem dayk_0_9_4 : okDayK 0 (2, 1, true) 4 = true := by kernel_rfl
theorem dayk_0_9_5 : okDayK 0 (2, 1, true) 5 = true := by kernel_rfl
theorem dayk_0_10_0 : okDayK 0 (4, 0, true) 0 = true := by kernel_rfl
theorem dayk_0_10_1 : okDayK 0 (4, 0, true) 1 = true := by kernel_rfl
theorem dayk_0_10_2 : okDayK 0 (4, 0, true) 2 = true := by kernel_rfl
theorem dayk_0_10_3 : okDayK 0 (4, 0, true) 3 = true := by kernel_rfl
theorem dayk_0_10_4 : okDayK 0 (4, 0, true) 4 = true := by kernel_rfl
theorem dayk_0_10_5 : okDayK 0 (4, 0, true) 5 = true := by kernel_rfl
theorem dayk_0_11_0 : okDayK 0 (4, 2, true) 0 = true := by kernel_rfl
theorem dayk_0_11_1 : okDayK 0 (4, 2, true) 1 = true := by kernel_rfl
theorem dayk_0_11_2 : okDayK 0 (4, 2, true) 2 = true := by kernel_rfl
theorem dayk_0_11_3 : okDayK 0 (4, 2, true) 3 = true := by kernel_rfl
theorem dayk_0_11_4 : okDayK 0 (4, 2, true) 4 = true := by kernel_rfl
theorem dayk_0_11_5 : okDayK 0 (4, 2, true) 5 = true := by kernel_rfl
end Go.Proofs.YtnikgcedifdaeaaGreatDoor.Sab
end
