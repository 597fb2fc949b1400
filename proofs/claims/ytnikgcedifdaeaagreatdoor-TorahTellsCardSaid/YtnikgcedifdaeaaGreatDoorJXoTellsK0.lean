/- Texts of the proof, joined by a program (checks of one law): contracts of functions, plain laws. -/
import Derived.Test.YtnikgcedifdaeaaGreatDoorJXoTellsA
set_option linter.unusedVariables false
set_option linter.unusedSimpArgs false
set_option linter.unusedSectionVars false
section
/- Checks by the kernel, piece by piece (printed by a program of mine). -/
namespace Go.Proofs.YtnikgcedifdaeaaGreatDoor.Sab
open Go Go.Proofs.YtnikgcedifdaeaaGreatDoor.Ab
set_option maxRecDepth 100000
set_option maxHeartbeats 0
theorem tl_chk_0_0 : okTl 0 (1, 0, false) = true := by kernel_rfl
theorem tl_chk_1_0 : okTl 1 (1, 0, false) = true := by kernel_rfl
theorem tl_chk_0_1 : okTl 0 (1, 2, false) = true := by kernel_rfl
theorem tl_chk_1_1 : okTl 1 (1, 2, false) = true := by kernel_rfl
theorem tl_chk_0_2 : okTl 0 (2, 1, false) = true := by kernel_rfl
theorem tl_chk_1_2 : okTl 1 (2, 1, false) = true := by kernel_rfl
theorem tl_chk_0_3 : okTl 0 (4, 1, false) = true := by kernel_rfl
theorem tl_chk_1_3 : okTl 1 (4, 1, false) = true := by kernel_rfl
theorem tl_chk_0_4 : okTl 0 (4, 2, false) = true := by kernel_rfl
theorem tl_chk_1_4 : okTl 1 (4, 2, false) = true := by kernel_rfl
theorem tl_chk_0_5 : okTl 0 (6, 0, false) = true := by kernel_rfl
theorem tl_chk_1_5 : okTl 1 (6, 0, false) = true := by kernel_rfl
theorem tl_chk_0_6 : okTl 0 (6, 2, false) = true := by kernel_rfl
theorem tl_chk_1_6 : okTl 1 (6, 2, false) = true := by kernel_rfl
theorem tl_chk_0_7 : okTl 0 (1, 0, true) = true := by kernel_rfl
theorem tl_chk_1_7 : okTl 1 (1, 0, true) = true := by kernel_rfl
theorem tl_chk_0_8 : okTl 0 (1, 2, true) = true := by kernel_rfl
theorem tl_chk_1_8 : okTl 1 (1, 2, true) = true := by kernel_rfl
theorem tl_chk_0_9 : okTl 0 (2, 1, true) = true := by kernel_rfl
theorem tl_chk_1_9 : okTl 1 (2, 1, true) = true := by kernel_rfl
theorem tl_chk_0_10 : okTl 0 (4, 0, true) = true := by kernel_rfl
theorem tl_chk_1_10 : okTl 1 (4, 0, true) = true := by kernel_rfl
theorem tl_chk_0_11 : okTl 0 (4, 2, true) = true := by kernel_rfl
theorem tl_chk_1_11 : okTl 1 (4, 2, true) = true := by kernel_rfl
theorem tl_chk_0_12 : okTl 0 (6, 0, true) = true := by kernel_rfl
theorem tl_chk_1_12 : okTl 1 (6, 0, true) = true := by kernel_rfl
theorem tl_chk_0_13 : okTl 0 (6, 2, true) = true := by kernel_rfl
theorem tl_chk_1_13 : okTl 1 (6, 2, true) = true := by kernel_rfl
end Go.Proofs.YtnikgcedifdaeaaGreatDoor.Sab
end
