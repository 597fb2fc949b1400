/- Texts of the proof, joined by a program (of one law): contracts of functions, plain laws. -/
import Derived.Test.YtnikgcedifdaeaaGreatDoorJQoDayA
set_option linter.unusedVariables false
set_option linter.unusedSimpArgs false
set_option linter.unusedSectionVars false
section
/- Checks by the kernel, piece by piece (printed by a program of mine). -/
namespace Go.Proofs.YtnikgcedifdaeaaGreatDoor.Sab
open Go Go.Proofs.YtnikgcedifdaeaaGreatDoor.Ab
set_option maxRecDepth 100000
set_option maxHeartbeats 0
theorem dayk_0_4_0 : okDayK 0 (4, 2, false) 0 = true := by kernel_rfl
theorem dayk_0_4_1 : okDayK 0 (4, 2, false) 1 = true := by kernel_rfl
theorem dayk_0_4_2 : okDayK 0 (4, 2, false) 2 = true := by kernel_rfl
theorem dayk_0_4_3 : okDayK 0 (4, 2, false) 3 = true := by kernel_rfl
theorem dayk_0_4_4 : okDayK 0 (4, 2, false) 4 = true := by kernel_rfl
theorem dayk_0_4_5 : okDayK 0 (4, 2, false) 5 = true := by kernel_rfl
theorem dayk_0_5_0 : okDayK 0 (6, 0, false) 0 = true := by kernel_rfl
theorem dayk_0_5_1 : okDayK 0 (6, 0, false) 1 = true := by kernel_rfl
theorem dayk_0_5_2 : okDayK 0 (6, 0, false) 2 = true := by kernel_rfl
theorem dayk_0_5_3 : okDayK 0 (6, 0, false) 3 = true := by kernel_rfl
theorem dayk_0_5_4 : okDayK 0 (6, 0, false) 4 = true := by kernel_rfl
theorem dayk_0_5_5 : okDayK 0 (6, 0, false) 5 = true := by kernel_rfl
theorem dayk_0_6_0 : okDayK 0 (6, 2, false) 0 = true := by kernel_rfl
theorem dayk_0_6_1 : okDayK 0 (6, 2, false) 1 = true := by kernel_rfl
theorem dayk_0_6_2 : okDayK 0 (6, 2, false) 2 = true := by kernel_rfl
theorem dayk_0_6_3 : okDayK 0 (6, 2, false) 3 = true := by kernel_rfl
theorem dayk_0_6_4 : okDayK 0 (6, 2, false) 4 = true := by kernel_rfl
theorem dayk_0_6_5 : okDayK 0 (6, 2, false) 5 = true := by kernel_rfl
theorem dayk_0_7_0 : okDayK 0 (1, 0, true) 0 = true := by kernel_rfl
theorem dayk_0_7_1 : okDayK 0 (1, 0, true) 1 = true := by kernel_rfl
theorem dayk_0_7_2 : okDayK 0 (1, 0, true) 2 = true := by kernel_rfl
theorem dayk_0_7_3 : okDayK 0 (1, 0, true) 3 = true := by kernel_rfl
theorem dayk_0_7_4 : okDayK 0 (1, 0, true) 4 = true := by kernel_rfl
theorem dayk_0_7_5 : okDayK 0 (1, 0, true) 5 = true := by kernel_rfl
end Go.Proofs.YtnikgcedifdaeaaGreatDoor.Sab
end
