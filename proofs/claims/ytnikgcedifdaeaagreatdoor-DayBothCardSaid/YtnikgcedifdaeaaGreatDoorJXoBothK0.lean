/- Texts of the proof, joined by a program (checks of one law): contracts of functions, plain laws. -/
import Derived.Test.YtnikgcedifdaeaaGreatDoorJXoBothX
set_option linter.unusedVariables false
set_option linter.unusedSimpArgs false
set_option linter.unusedSectionVars false
section
/- Checks by the kernel, piece by piece (printed by a program of mine). -/
namespace Go.Proofs.YtnikgcedifdaeaaGreatDoor.Sab
open Go Go.Proofs.YtnikgcedifdaeaaGreatDoor.Ab
set_option maxRecDepth 100000
set_option maxHeartbeats 0
theorem bothk_0_0_0 : okBPK 0 (1, 0, false) 0 = true := by kernel_rfl
theorem bothk_0_0_1 : okBPK 0 (1, 0, false) 1 = true := by kernel_rfl
theorem bothk_0_0_2 : okBPK 0 (1, 0, false) 2 = true := by kernel_rfl
theorem bothk_0_0_3 : okBPK 0 (1, 0, false) 3 = true := by kernel_rfl
theorem bothk_0_0_4 : okBPK 0 (1, 0, false) 4 = true := by kernel_rfl
theorem bothk_0_0_5 : okBPK 0 (1, 0, false) 5 = true := by kernel_rfl
theorem bothk_0_0_6 : okBPK 0 (1, 0, false) 6 = true := by kernel_rfl
theorem bothg_0_0 : okBG (1, 0, false) 0 = true := by kernel_rfl
theorem bothk_0_1_0 : okBPK 0 (1, 2, false) 0 = true := by kernel_rfl
theorem bothk_0_1_1 : okBPK 0 (1, 2, false) 1 = true := by kernel_rfl
theorem bothk_0_1_2 : okBPK 0 (1, 2, false) 2 = true := by kernel_rfl
theorem bothk_0_1_3 : okBPK 0 (1, 2, false) 3 = true := by kernel_rfl
theorem bothk_0_1_4 : okBPK 0 (1, 2, false) 4 = true := by kernel_rfl
theorem bothk_0_1_5 : okBPK 0 (1, 2, false) 5 = true := by kernel_rfl
theorem bothk_0_1_6 : okBPK 0 (1, 2, false) 6 = true := by kernel_rfl
theorem bothg_0_1 : okBG (1, 2, false) 0 = true := by kernel_rfl
theorem bothk_0_2_0 : okBPK 0 (2, 1, false) 0 = true := by kernel_rfl
theorem bothk_0_2_1 : okBPK 0 (2, 1, false) 1 = true := by kernel_rfl
theorem bothk_0_2_2 : okBPK 0 (2, 1, false) 2 = true := by kernel_rfl
theorem bothk_0_2_3 : okBPK 0 (2, 1, false) 3 = true := by kernel_rfl
theorem bothk_0_2_4 : okBPK 0 (2, 1, false) 4 = true := by kernel_rfl
theorem bothk_0_2_5 : okBPK 0 (2, 1, false) 5 = true := by kernel_rfl
theorem bothk_0_2_6 : okBPK 0 (2, 1, false) 6 = true := by kernel_rfl
theorem bothg_0_2 : okBG (2, 1, false) 0 = true := by kernel_rfl
theorem bothk_0_3_0 : okBPK 0 (4, 1, false) 0 = true := by kernel_rfl
theorem bothk_0_3_1 : okBPK 0 (4, 1, false) 1 = true := by kernel_rfl
theorem bothk_0_3_2 : okBPK 0 (4, 1, false) 2 = true := by kernel_rfl
theorem bothk_0_3_3 : okBPK 0 (4, 1, false) 3 = true := by kernel_rfl
theorem bothk_0_3_4 : okBPK 0 (4, 1, false) 4 = true := by kernel_rfl
theorem bothk_0_3_5 : okBPK 0 (4, 1, false) 5 = true := by kernel_rfl
theorem bothk_0_3_6 : okBPK 0 (4, 1, false) 6 = true := by kernel_rfl
theorem bothg_0_3 : okBG (4, 1, false) 0 = true := by kernel_rfl
theorem bothk_0_4_0 : okBPK 0 (4, 2, false) 0 = true := by kernel_rfl
theorem bothk_0_4_1 : okBPK 0 (4, 2, false) 1 = true := by kernel_rfl
theorem bothk_0_4_2 : okBPK 0 (4, 2, false) 2 = true := by kernel_rfl
theorem bothk_0_4_3 : okBPK 0 (4, 2, false) 3 = true := by kernel_rfl
theorem bothk_0_4_4 : okBPK 0 (4, 2, false) 4 = true := by kernel_rfl
theorem bothk_0_4_5 : okBPK 0 (4, 2, false) 5 = true := by kernel_rfl
theorem bothk_0_4_6 : okBPK 0 (4, 2, false) 6 = true := by kernel_rfl
theorem bothg_0_4 : okBG (4, 2, false) 0 = true := by kernel_rfl
end Go.Proofs.YtnikgcedifdaeaaGreatDoor.Sab
end

section
/- Checks by the kernel, piece by piece (printed by a program of mine). -/
namespace Go.Proofs.YtnikgcedifdaeaaGreatDoor.Sab
open Go Go.Proofs.YtnikgcedifdaeaaGreatDoor.Ab
set_option maxRecDepth 100000
set_option maxHeartbeats 0
theorem bothk_0_5_0 : okBPK 0 (6, 0, false) 0 = true := by kernel_rfl
theorem bothk_0_5_1 : okBPK 0 (6, 0, false) 1 = true := by kernel_rfl
theorem bothk_0_5_2 : okBPK 0 (6, 0, false) 2 = true := by kernel_rfl
theorem bothk_0_5_3 : okBPK 0 (6, 0, false) 3 = true := by kernel_rfl
theorem bothk_0_5_4 : okBPK 0 (6, 0, false) 4 = true := by kernel_rfl
theorem bothk_0_5_5 : okBPK 0 (6, 0, false) 5 = true := by kernel_rfl
theorem bothk_0_5_6 : okBPK 0 (6, 0, false) 6 = true := by kernel_rfl
theorem bothg_0_5 : okBG (6, 0, false) 0 = true := by kernel_rfl
theorem bothk_0_6_0 : okBPK 0 (6, 2, false) 0 = true := by kernel_rfl
theorem bothk_0_6_1 : okBPK 0 (6, 2, false) 1 = true := by kernel_rfl
theorem bothk_0_6_2 : okBPK 0 (6, 2, false) 2 = true := by kernel_rfl
theorem bothk_0_6_3 : okBPK 0 (6, 2, false) 3 = true := by kernel_rfl
theorem bothk_0_6_4 : okBPK 0 (6, 2, false) 4 = true := by kernel_rfl
theorem bothk_0_6_5 : okBPK 0 (6, 2, false) 5 = true := by kernel_rfl
theorem bothk_0_6_6 : okBPK 0 (6, 2, false) 6 = true := by kernel_rfl
theorem bothg_0_6 : okBG (6, 2, false) 0 = true := by kernel_rfl
theorem bothk_0_7_0 : okBPK 0 (1, 0, true) 0 = true := by kernel_rfl
theorem bothk_0_7_1 : okBPK 0 (1, 0, true) 1 = true := by kernel_rfl
theorem bothk_0_7_2 : okBPK 0 (1, 0, true) 2 = true := by kernel_rfl
theorem bothk_0_7_3 : okBPK 0 (1, 0, true) 3 = true := by kernel_rfl
theorem bothk_0_7_4 : okBPK 0 (1, 0, true) 4 = true := by kernel_rfl
theorem bothk_0_7_5 : okBPK 0 (1, 0, true) 5 = true := by kernel_rfl
theorem bothk_0_7_6 : okBPK 0 (1, 0, true) 6 = true := by kernel_rfl
theorem bothg_0_7 : okBG (1, 0, true) 0 = true := by kernel_rfl
theorem bothk_0_8_0 : okBPK 0 (1, 2, true) 0 = true := by kernel_rfl
theorem bothk_0_8_1 : okBPK 0 (1, 2, true) 1 = true := by kernel_rfl
theorem bothk_0_8_2 : okBPK 0 (1, 2, true) 2 = true := by kernel_rfl
theorem bothk_0_8_3 : okBPK 0 (1, 2, true) 3 = true := by kernel_rfl
theorem bothk_0_8_4 : okBPK 0 (1, 2, true) 4 = true := by kernel_rfl
theorem bothk_0_8_5 : okBPK 0 (1, 2, true) 5 = true := by kernel_rfl
theorem bothk_0_8_6 : okBPK 0 (1, 2, true) 6 = true := by kernel_rfl
theorem bothg_0_8 : okBG (1, 2, true) 0 = true := by kernel_rfl
theorem bothk_0_9_0 : okBPK 0 (2, 1, true) 0 = true := by kernel_rfl
theorem bothk_0_9_1 : okBPK 0 (2, 1, true) 1 = true := by kernel_rfl
theorem bothk_0_9_2 : okBPK 0 (2, 1, true) 2 = true := by kernel_rfl
theorem bothk_0_9_3 : okBPK 0 (2, 1, true) 3 = true := by kernel_rfl
theorem bothk_0_9_4 : okBPK 0 (2, 1, true) 4 = true := by kernel_rfl
theorem bothk_0_9_5 : okBPK 0 (2, 1, true) 5 = true := by kernel_rfl
theorem bothk_0_9_6 : okBPK 0 (2, 1, true) 6 = true := by kernel_rfl
theorem bothg_0_9 : okBG (2, 1, true) 0 = true := by kernel_rfl
end Go.Proofs.YtnikgcedifdaeaaGreatDoor.Sab
end
