/- Texts of the proof, joined by a program (checks of one law): contracts of functions, plain laws. -/
import Derived.Test.YtnikgcedifdaeaaGreatDoorJXoBothX
set_option linter.unusedVariables false
set_option linter.unusedSimpArgs false
set_option linter.unusedSectionVars false
section
/- Checks by the kernel, piece by piece (printed by a program of mine). -/
namespace Go.Proofs.YtnikgcedifdaeaaGreatDoor.Sab
open Go Go.Proofs.YtnikgcedifdaeaaGreatDoor.Ab
set_option maxRecDepth 100000
set_option maxHeartbeats 0
theorem dayxk_0_0_0 : okDPK 0 (1, 0, false) 0 = true := by kernel_rfl
theorem dayxk_0_0_1 : okDPK 0 (1, 0, false) 1 = true := by kernel_rfl
theorem dayxk_0_0_2 : okDPK 0 (1, 0, false) 2 = true := by kernel_rfl
theorem dayxk_0_0_3 : okDPK 0 (1, 0, false) 3 = true := by kernel_rfl
theorem dayxg_0_0 : okDG (1, 0, false) 0 = true := by kernel_rfl
theorem dayxk_0_1_0 : okDPK 0 (1, 2, false) 0 = true := by kernel_rfl
theorem dayxk_0_1_1 : okDPK 0 (1, 2, false) 1 = true := by kernel_rfl
theorem dayxk_0_1_2 : okDPK 0 (1, 2, false) 2 = true := by kernel_rfl
theorem dayxk_0_1_3 : okDPK 0 (1, 2, false) 3 = true := by kernel_rfl
theorem dayxg_0_1 : okDG (1, 2, false) 0 = true := by kernel_rfl
theorem dayxk_0_2_0 : okDPK 0 (2, 1, false) 0 = true := by kernel_rfl
theorem dayxk_0_2_1 : okDPK 0 (2, 1, false) 1 = true := by kernel_rfl
theorem dayxk_0_2_2 : okDPK 0 (2, 1, false) 2 = true := by kernel_rfl
theorem dayxk_0_2_3 : okDPK 0 (2, 1, false) 3 = true := by kernel_rfl
theorem dayxg_0_2 : okDG (2, 1, false) 0 = true := by kernel_rfl
theorem dayxk_0_3_0 : okDPK 0 (4, 1, false) 0 = true := by kernel_rfl
theorem dayxk_0_3_1 : okDPK 0 (4, 1, false) 1 = true := by kernel_rfl
theorem dayxk_0_3_2 : okDPK 0 (4, 1, false) 2 = true := by kernel_rfl
theorem dayxk_0_3_3 : okDPK 0 (4, 1, false) 3 = true := by kernel_rfl
theorem dayxg_0_3 : okDG (4, 1, false) 0 = true := by kernel_rfl
theorem dayxk_0_4_0 : okDPK 0 (4, 2, false) 0 = true := by kernel_rfl
theorem dayxk_0_4_1 : okDPK 0 (4, 2, false) 1 = true := by kernel_rfl
theorem dayxk_0_4_2 : okDPK 0 (4, 2, false) 2 = true := by kernel_rfl
theorem dayxk_0_4_3 : okDPK 0 (4, 2, false) 3 = true := by kernel_rfl
theorem dayxg_0_4 : okDG (4, 2, false) 0 = true := by kernel_rfl
theorem dayxk_0_5_0 : okDPK 0 (6, 0, false) 0 = true := by kernel_rfl
theorem dayxk_0_5_1 : okDPK 0 (6, 0, false) 1 = true := by kernel_rfl
theorem dayxk_0_5_2 : okDPK 0 (6, 0, false) 2 = true := by kernel_rfl
theorem dayxk_0_5_3 : okDPK 0 (6, 0, false) 3 = true := by kernel_rfl
theorem dayxg_0_5 : okDG (6, 0, false) 0 = true := by kernel_rfl
theorem dayxk_0_6_0 : okDPK 0 (6, 2, false) 0 = true := by kernel_rfl
theorem dayxk_0_6_1 : okDPK 0 (6, 2, false) 1 = true := by kernel_rfl
theorem dayxk_0_6_2 : okDPK 0 (6, 2, false) 2 = true := by kernel_rfl
theorem dayxk_0_6_3 : okDPK 0 (6, 2, false) 3 = true := by kernel_rfl
theorem dayxg_0_6 : okDG (6, 2, false) 0 = true := by kernel_rfl
end Go.Proofs.YtnikgcedifdaeaaGreatDoor.Sab
end

section
/- Checks by the kernel, piece by piece (printed by a program of mine). -/
namespace Go.Proofs.YtnikgcedifdaeaaGreatDoor.Sab
open Go Go.Proofs.YtnikgcedifdaeaaGreatDoor.Ab
set_option maxRecDepth 100000
set_option maxHeartbeats 0
theorem dayxk_0_7_0 : okDPK 0 (1, 0, true) 0 = true := by kernel_rfl
theorem dayxk_0_7_1 : okDPK 0 (1, 0, true) 1 = true := by kernel_rfl
theorem dayxk_0_7_2 : okDPK 0 (1, 0, true) 2 = true := by kernel_rfl
theorem dayxk_0_7_3 : okDPK 0 (1, 0, true) 3 = true := by kernel_rfl
theorem dayxg_0_7 : okDG (1, 0, true) 0 = true := by kernel_rfl
theorem dayxk_0_8_0 : okDPK 0 (1, 2, true) 0 = true := by kernel_rfl
theorem dayxk_0_8_1 : okDPK 0 (1, 2, true) 1 = true := by kernel_rfl
theorem dayxk_0_8_2 : okDPK 0 (1, 2, true) 2 = true := by kernel_rfl
theorem dayxk_0_8_3 : okDPK 0 (1, 2, true) 3 = true := by kernel_rfl
theorem dayxg_0_8 : okDG (1, 2, true) 0 = true := by kernel_rfl
theorem dayxk_0_9_0 : okDPK 0 (2, 1, true) 0 = true := by kernel_rfl
theorem dayxk_0_9_1 : okDPK 0 (2, 1, true) 1 = true := by kernel_rfl
theorem dayxk_0_9_2 : okDPK 0 (2, 1, true) 2 = true := by kernel_rfl
theorem dayxk_0_9_3 : okDPK 0 (2, 1, true) 3 = true := by kernel_rfl
theorem dayxg_0_9 : okDG (2, 1, true) 0 = true := by kernel_rfl
theorem dayxk_0_10_0 : okDPK 0 (4, 0, true) 0 = true := by kernel_rfl
theorem dayxk_0_10_1 : okDPK 0 (4, 0, true) 1 = true := by kernel_rfl
theorem dayxk_0_10_2 : okDPK 0 (4, 0, true) 2 = true := by kernel_rfl
theorem dayxk_0_10_3 : okDPK 0 (4, 0, true) 3 = true := by kernel_rfl
theorem dayxg_0_10 : okDG (4, 0, true) 0 = true := by kernel_rfl
theorem dayxk_0_11_0 : okDPK 0 (4, 2, true) 0 = true := by kernel_rfl
theorem dayxk_0_11_1 : okDPK 0 (4, 2, true) 1 = true := by kernel_rfl
theorem dayxk_0_11_2 : okDPK 0 (4, 2, true) 2 = true := by kernel_rfl
theorem dayxk_0_11_3 : okDPK 0 (4, 2, true) 3 = true := by kernel_rfl
theorem dayxg_0_11 : okDG (4, 2, true) 0 = true := by kernel_rfl
theorem dayxk_0_12_0 : okDPK 0 (6, 0, true) 0 = true := by kernel_rfl
theorem dayxk_0_12_1 : okDPK 0 (6, 0, true) 1 = true := by kernel_rfl
theorem dayxk_0_12_2 : okDPK 0 (6, 0, true) 2 = true := by kernel_rfl
theorem dayxk_0_12_3 : okDPK 0 (6, 0, true) 3 = true := by kernel_rfl
theorem dayxg_0_12 : okDG (6, 0, true) 0 = true := by kernel_rfl
theorem dayxk_0_13_0 : okDPK 0 (6, 2, true) 0 = true := by kernel_rfl
theorem dayxk_0_13_1 : okDPK 0 (6, 2, true) 1 = true := by kernel_rfl
theorem dayxk_0_13_2 : okDPK 0 (6, 2, true) 2 = true := by kernel_rfl
theorem dayxk_0_13_3 : okDPK 0 (6, 2, true) 3 = true := by kernel_rfl
theorem dayxg_0_13 : okDG (6, 2, true) 0 = true := by kernel_rfl
end Go.Proofs.YtnikgcedifdaeaaGreatDoor.Sab
end
