/- Texts of the proof, joined by a program (checks of one law): contracts of functions, plain laws. -/
import Derived.Test.YtnikgcedifdaeaaGreatDoorJXoBothX
set_option linter.unusedVariables false
set_option linter.unusedSimpArgs false
set_option linter.unusedSectionVars false
section
/- Checks by the kernel, piece by piece (printed by a program of mine). -/
namespace Go.Proofs.YtnikgcedifdaeaaGreatDoor.Sab
open Go Go.Proofs.YtnikgcedifdaeaaGreatDoor.Ab
set_option maxRecDepth 100000
set_option maxHeartbeats 0
theorem bothk_1_6_0 : okBPK 1 (6, 2, false) 0 = true := by kernel_rfl
theorem bothk_1_6_1 : okBPK 1 (6, 2, false) 1 = true := by kernel_rfl
theorem bothk_1_6_2 : okBPK 1 (6, 2, false) 2 = true := by kernel_rfl
theorem bothk_1_6_3 : okBPK 1 (6, 2, false) 3 = true := by kernel_rfl
theorem bothk_1_6_4 : okBPK 1 (6, 2, false) 4 = true := by kernel_rfl
theorem bothk_1_6_5 : okBPK 1 (6, 2, false) 5 = true := by kernel_rfl
theorem bothk_1_6_6 : okBPK 1 (6, 2, false) 6 = true := by kernel_rfl
theorem bothg_1_6 : okBG (6, 2, false) 1 = true := by kernel_rfl
theorem bothk_1_7_0 : okBPK 1 (1, 0, true) 0 = true := by kernel_rfl
theorem bothk_1_7_1 : okBPK 1 (1, 0, true) 1 = true := by kernel_rfl
theorem bothk_1_7_2 : okBPK 1 (1, 0, true) 2 = true := by kernel_rfl
theorem bothk_1_7_3 : okBPK 1 (1, 0, true) 3 = true := by kernel_rfl
theorem bothk_1_7_4 : okBPK 1 (1, 0, true) 4 = true := by kernel_rfl
theorem bothk_1_7_5 : okBPK 1 (1, 0, true) 5 = true := by kernel_rfl
theorem bothk_1_7_6 : okBPK 1 (1, 0, true) 6 = true := by kernel_rfl
theorem bothg_1_7 : okBG (1, 0, true) 1 = true := by kernel_rfl
theorem bothk_1_8_0 : okBPK 1 (1, 2, true) 0 = true := by kernel_rfl
theorem bothk_1_8_1 : okBPK 1 (1, 2, true) 1 = true := by kernel_rfl
theorem bothk_1_8_2 : okBPK 1 (1, 2, true) 2 = true := by kernel_rfl
theorem bothk_1_8_3 : okBPK 1 (1, 2, true) 3 = true := by kernel_rfl
theorem bothk_1_8_4 : okBPK 1 (1, 2, true) 4 = true := by kernel_rfl
theorem bothk_1_8_5 : okBPK 1 (1, 2, true) 5 = true := by kernel_rfl
theorem bothk_1_8_6 : okBPK 1 (1, 2, true) 6 = true := by kernel_rfl
theorem bothg_1_8 : okBG (1, 2, true) 1 = true := by kernel_rfl
theorem bothk_1_9_0 : okBPK 1 (2, 1, true) 0 = true := by kernel_rfl
theorem bothk_1_9_1 : okBPK 1 (2, 1, true) 1 = true := by kernel_rfl
theorem bothk_1_9_2 : okBPK 1 (2, 1, true) 2 = true := by kernel_rfl
theorem bothk_1_9_3 : okBPK 1 (2, 1, true) 3 = true := by kernel_rfl
theorem bothk_1_9_4 : okBPK 1 (2, 1, true) 4 = true := by kernel_rfl
theorem bothk_1_9_5 : okBPK 1 (2, 1, true) 5 = true := by kernel_rfl
theorem bothk_1_9_6 : okBPK 1 (2, 1, true) 6 = true := by kernel_rfl
theorem bothg_1_9 : okBG (2, 1, true) 1 = true := by kernel_rfl
theorem bothk_1_10_0 : okBPK 1 (4, 0, true) 0 = true := by kernel_rfl
theorem bothk_1_10_1 : okBPK 1 (4, 0, true) 1 = true := by kernel_rfl
theorem bothk_1_10_2 : okBPK 1 (4, 0, true) 2 = true := by kernel_rfl
theorem bothk_1_10_3 : okBPK 1 (4, 0, true) 3 = true := by kernel_rfl
theorem bothk_1_10_4 : okBPK 1 (4, 0, true) 4 = true := by kernel_rfl
theorem bothk_1_10_5 : okBPK 1 (4, 0, true) 5 = true := by kernel_rfl
theorem bothk_1_10_6 : okBPK 1 (4, 0, true) 6 = true := by kernel_rfl
theorem bothg_1_10 : okBG (4, 0, true) 1 = true := by kernel_rfl
end Go.Proofs.YtnikgcedifdaeaaGreatDoor.Sab
end

section
/- Checks by the kernel, piece by piece (printed by a program of mine). -/
namespace Go.Proofs.YtnikgcedifdaeaaGreatDoor.Sab
open Go Go.Proofs.YtnikgcedifdaeaaGreatDoor.Ab
set_option maxRecDepth 100000
set_option maxHeartbeats 0
theorem bothk_1_11_0 : okBPK 1 (4, 2, true) 0 = true := by kernel_rfl
theorem bothk_1_11_1 : okBPK 1 (4, 2, true) 1 = true := by kernel_rfl
theorem bothk_1_11_2 : okBPK 1 (4, 2, true) 2 = true := by kernel_rfl
theorem bothk_1_11_3 : okBPK 1 (4, 2, true) 3 = true := by kernel_rfl
theorem bothk_1_11_4 : okBPK 1 (4, 2, true) 4 = true := by kernel_rfl
theorem bothk_1_11_5 : okBPK 1 (4, 2, true) 5 = true := by kernel_rfl
theorem bothk_1_11_6 : okBPK 1 (4, 2, true) 6 = true := by kernel_rfl
theorem bothg_1_11 : okBG (4, 2, true) 1 = true := by kernel_rfl
theorem bothk_1_12_0 : okBPK 1 (6, 0, true) 0 = true := by kernel_rfl
theorem bothk_1_12_1 : okBPK 1 (6, 0, true) 1 = true := by kernel_rfl
theorem bothk_1_12_2 : okBPK 1 (6, 0, true) 2 = true := by kernel_rfl
theorem bothk_1_12_3 : okBPK 1 (6, 0, true) 3 = true := by kernel_rfl
theorem bothk_1_12_4 : okBPK 1 (6, 0, true) 4 = true := by kernel_rfl
theorem bothk_1_12_5 : okBPK 1 (6, 0, true) 5 = true := by kernel_rfl
theorem bothk_1_12_6 : okBPK 1 (6, 0, true) 6 = true := by kernel_rfl
theorem bothg_1_12 : okBG (6, 0, true) 1 = true := by kernel_rfl
theorem bothk_1_13_0 : okBPK 1 (6, 2, true) 0 = true := by kernel_rfl
theorem bothk_1_13_1 : okBPK 1 (6, 2, true) 1 = true := by kernel_rfl
theorem bothk_1_13_2 : okBPK 1 (6, 2, true) 2 = true := by kernel_rfl
theorem bothk_1_13_3 : okBPK 1 (6, 2, true) 3 = true := by kernel_rfl
theorem bothk_1_13_4 : okBPK 1 (6, 2, true) 4 = true := by kernel_rfl
theorem bothk_1_13_5 : okBPK 1 (6, 2, true) 5 = true := by kernel_rfl
theorem bothk_1_13_6 : okBPK 1 (6, 2, true) 6 = true := by kernel_rfl
theorem bothg_1_13 : okBG (6, 2, true) 1 = true := by kernel_rfl
end Go.Proofs.YtnikgcedifdaeaaGreatDoor.Sab
end
