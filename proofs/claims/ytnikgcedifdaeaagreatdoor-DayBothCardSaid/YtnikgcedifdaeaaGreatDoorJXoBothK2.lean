/- Texts of the proof, joined by a program (checks of one law): contracts of functions, plain laws. -/
import Derived.Test.YtnikgcedifdaeaaGreatDoorJXoBothX
set_option linter.unusedVariables false
set_option linter.unusedSimpArgs false
set_option linter.unusedSectionVars false
section
/- Checks by the kernel, piece by piece (printed by a program of mine). -/
namespace Go.Proofs.YtnikgcedifdaeaaGreatDoor.Sab
open Go Go.Proofs.YtnikgcedifdaeaaGreatDoor.Ab
set_option maxRecDepth 100000
set_option maxHeartbeats 0
theorem bothk_0_10_0 : okBPK 0 (4, 0, true) 0 = true := by kernel_rfl
theorem bothk_0_10_1 : okBPK 0 (4, 0, true) 1 = true := by kernel_rfl
theorem bothk_0_10_2 : okBPK 0 (4, 0, true) 2 = true := by kernel_rfl
theorem bothk_0_10_3 : okBPK 0 (4, 0, true) 3 = true := by kernel_rfl
theorem bothk_0_10_4 : okBPK 0 (4, 0, true) 4 = true := by kernel_rfl
theorem bothk_0_10_5 : okBPK 0 (4, 0, true) 5 = true := by kernel_rfl
theorem bothk_0_10_6 : okBPK 0 (4, 0, true) 6 = true := by kernel_rfl
theorem bothg_0_10 : okBG (4, 0, true) 0 = true := by kernel_rfl
theorem bothk_0_11_0 : okBPK 0 (4, 2, true) 0 = true := by kernel_rfl
theorem bothk_0_11_1 : okBPK 0 (4, 2, true) 1 = true := by kernel_rfl
theorem bothk_0_11_2 : okBPK 0 (4, 2, true) 2 = true := by kernel_rfl
theorem bothk_0_11_3 : okBPK 0 (4, 2, true) 3 = true := by kernel_rfl
theorem bothk_0_11_4 : okBPK 0 (4, 2, true) 4 = true := by kernel_rfl
theorem bothk_0_11_5 : okBPK 0 (4, 2, true) 5 = true := by kernel_rfl
theorem bothk_0_11_6 : okBPK 0 (4, 2, true) 6 = true := by kernel_rfl
theorem bothg_0_11 : okBG (4, 2, true) 0 = true := by kernel_rfl
theorem bothk_0_12_0 : okBPK 0 (6, 0, true) 0 = true := by kernel_rfl
theorem bothk_0_12_1 : okBPK 0 (6, 0, true) 1 = true := by kernel_rfl
theorem bothk_0_12_2 : okBPK 0 (6, 0, true) 2 = true := by kernel_rfl
theorem bothk_0_12_3 : okBPK 0 (6, 0, true) 3 = true := by kernel_rfl
theorem bothk_0_12_4 : okBPK 0 (6, 0, true) 4 = true := by kernel_rfl
theorem bothk_0_12_5 : okBPK 0 (6, 0, true) 5 = true := by kernel_rfl
theorem bothk_0_12_6 : okBPK 0 (6, 0, true) 6 = true := by kernel_rfl
theorem bothg_0_12 : okBG (6, 0, true) 0 = true := by kernel_rfl
theorem bothk_0_13_0 : okBPK 0 (6, 2, true) 0 = true := by kernel_rfl
theorem bothk_0_13_1 : okBPK 0 (6, 2, true) 1 = true := by kernel_rfl
theorem bothk_0_13_2 : okBPK 0 (6, 2, true) 2 = true := by kernel_rfl
theorem bothk_0_13_3 : okBPK 0 (6, 2, true) 3 = true := by kernel_rfl
theorem bothk_0_13_4 : okBPK 0 (6, 2, true) 4 = true := by kernel_rfl
theorem bothk_0_13_5 : okBPK 0 (6, 2, true) 5 = true := by kernel_rfl
theorem bothk_0_13_6 : okBPK 0 (6, 2, true) 6 = true := by kernel_rfl
theorem bothg_0_13 : okBG (6, 2, true) 0 = true := by kernel_rfl
theorem bothk_1_0_0 : okBPK 1 (1, 0, false) 0 = true := by kernel_rfl
theorem bothk_1_0_1 : okBPK 1 (1, 0, false) 1 = true := by kernel_rfl
theorem bothk_1_0_2 : okBPK 1 (1, 0, false) 2 = true := by kernel_rfl
theorem bothk_1_0_3 : okBPK 1 (1, 0, false) 3 = true := by kernel_rfl
theorem bothk_1_0_4 : okBPK 1 (1, 0, false) 4 = true := by kernel_rfl
theorem bothk_1_0_5 : okBPK 1 (1, 0, false) 5 = true := by kernel_rfl
theorem bothk_1_0_6 : okBPK 1 (1, 0, false) 6 = true := by kernel_rfl
theorem bothg_1_0 : okBG (1, 0, false) 1 = true := by kernel_rfl
end Go.Proofs.YtnikgcedifdaeaaGreatDoor.Sab
end

section
/- Checks by the kernel, piece by piece (printed by a program of mine). -/
namespace Go.Proofs.YtnikgcedifdaeaaGreatDoor.Sab
open Go Go.Proofs.YtnikgcedifdaeaaGreatDoor.Ab
set_option maxRecDepth 100000
set_option maxHeartbeats 0
theorem bothk_1_1_0 : okBPK 1 (1, 2, false) 0 = true := by kernel_rfl
theorem bothk_1_1_1 : okBPK 1 (1, 2, false) 1 = true := by kernel_rfl
theorem bothk_1_1_2 : okBPK 1 (1, 2, false) 2 = true := by kernel_rfl
theorem bothk_1_1_3 : okBPK 1 (1, 2, false) 3 = true := by kernel_rfl
theorem bothk_1_1_4 : okBPK 1 (1, 2, false) 4 = true := by kernel_rfl
theorem bothk_1_1_5 : okBPK 1 (1, 2, false) 5 = true := by kernel_rfl
theorem bothk_1_1_6 : okBPK 1 (1, 2, false) 6 = true := by kernel_rfl
theorem bothg_1_1 : okBG (1, 2, false) 1 = true := by kernel_rfl
theorem bothk_1_2_0 : okBPK 1 (2, 1, false) 0 = true := by kernel_rfl
theorem bothk_1_2_1 : okBPK 1 (2, 1, false) 1 = true := by kernel_rfl
theorem bothk_1_2_2 : okBPK 1 (2, 1, false) 2 = true := by kernel_rfl
theorem bothk_1_2_3 : okBPK 1 (2, 1, false) 3 = true := by kernel_rfl
theorem bothk_1_2_4 : okBPK 1 (2, 1, false) 4 = true := by kernel_rfl
theorem bothk_1_2_5 : okBPK 1 (2, 1, false) 5 = true := by kernel_rfl
theorem bothk_1_2_6 : okBPK 1 (2, 1, false) 6 = true := by kernel_rfl
theorem bothg_1_2 : okBG (2, 1, false) 1 = true := by kernel_rfl
theorem bothk_1_3_0 : okBPK 1 (4, 1, false) 0 = true := by kernel_rfl
theorem bothk_1_3_1 : okBPK 1 (4, 1, false) 1 = true := by kernel_rfl
theorem bothk_1_3_2 : okBPK 1 (4, 1, false) 2 = true := by kernel_rfl
theorem bothk_1_3_3 : okBPK 1 (4, 1, false) 3 = true := by kernel_rfl
theorem bothk_1_3_4 : okBPK 1 (4, 1, false) 4 = true := by kernel_rfl
theorem bothk_1_3_5 : okBPK 1 (4, 1, false) 5 = true := by kernel_rfl
theorem bothk_1_3_6 : okBPK 1 (4, 1, false) 6 = true := by kernel_rfl
theorem bothg_1_3 : okBG (4, 1, false) 1 = true := by kernel_rfl
theorem bothk_1_4_0 : okBPK 1 (4, 2, false) 0 = true := by kernel_rfl
theorem bothk_1_4_1 : okBPK 1 (4, 2, false) 1 = true := by kernel_rfl
theorem bothk_1_4_2 : okBPK 1 (4, 2, false) 2 = true := by kernel_rfl
theorem bothk_1_4_3 : okBPK 1 (4, 2, false) 3 = true := by kernel_rfl
theorem bothk_1_4_4 : okBPK 1 (4, 2, false) 4 = true := by kernel_rfl
theorem bothk_1_4_5 : okBPK 1 (4, 2, false) 5 = true := by kernel_rfl
theorem bothk_1_4_6 : okBPK 1 (4, 2, false) 6 = true := by kernel_rfl
theorem bothg_1_4 : okBG (4, 2, false) 1 = true := by kernel_rfl
theorem bothk_1_5_0 : okBPK 1 (6, 0, false) 0 = true := by kernel_rfl
theorem bothk_1_5_1 : okBPK 1 (6, 0, false) 1 = true := by kernel_rfl
theorem bothk_1_5_2 : okBPK 1 (6, 0, false) 2 = true := by kernel_rfl
theorem bothk_1_5_3 : okBPK 1 (6, 0, false) 3 = true := by kernel_rfl
theorem bothk_1_5_4 : okBPK 1 (6, 0, false) 4 = true := by kernel_rfl
theorem bothk_1_5_5 : okBPK 1 (6, 0, false) 5 = true := by kernel_rfl
theorem bothk_1_5_6 : okBPK 1 (6, 0, false) 6 = true := by kernel_rfl
theorem bothg_1_5 : okBG (6, 0, false) 1 = true := by kernel_rfl
end Go.Proofs.YtnikgcedifdaeaaGreatDoor.Sab
end
