/- Texts of the proof, joined by a program (checks of one law): contracts of functions, plain laws. -/
import Derived.Test.YtnikgcedifdaeaaGreatDoorJXoRTorA
set_option linter.unusedVariables false
set_option linter.unusedSimpArgs false
set_option linter.unusedSectionVars false
section
/- Checks by the kernel, piece by piece (printed by a program of mine). -/
namespace Go.Proofs.YtnikgcedifdaeaaGreatDoor.Sab
open Go Go.Proofs.YtnikgcedifdaeaaGreatDoor.Ab
set_option maxRecDepth 100000
set_option maxHeartbeats 0
theorem rtor_chk_0_8 : okRTor 0 (1, 2, true) = true := by kernel_rfl
theorem rofp_chk_0_8 : okROfP 0 (1, 2, true) = true := by kernel_rfl
theorem rtor_chk_1_8 : okRTor 1 (1, 2, true) = true := by kernel_rfl
theorem rofp_chk_1_8 : okROfP 1 (1, 2, true) = true := by kernel_rfl
theorem rtor_chk_0_9 : okRTor 0 (2, 1, true) = true := by kernel_rfl
theorem rofp_chk_0_9 : okROfP 0 (2, 1, true) = true := by kernel_rfl
theorem rtor_chk_1_9 : okRTor 1 (2, 1, true) = true := by kernel_rfl
theorem rofp_chk_1_9 : okROfP 1 (2, 1, true) = true := by kernel_rfl
theorem rtor_chk_0_10 : okRTor 0 (4, 0, true) = true := by kernel_rfl
theorem rofp_chk_0_10 : okROfP 0 (4, 0, true) = true := by kernel_rfl
theorem rtor_chk_1_10 : okRTor 1 (4, 0, true) = true := by kernel_rfl
theorem rofp_chk_1_10 : okROfP 1 (4, 0, true) = true := by kernel_rfl
end Go.Proofs.YtnikgcedifdaeaaGreatDoor.Sab
end

section
/- Checks by the kernel, piece by piece (printed by a program of mine). -/
namespace Go.Proofs.YtnikgcedifdaeaaGreatDoor.Sab
open Go Go.Proofs.YtnikgcedifdaeaaGreatDoor.Ab
set_option maxRecDepth 100000
set_option maxHeartbeats 0
theorem rtor_chk_0_11 : okRTor 0 (4, 2, true) = true := by kernel_rfl
theorem rofp_chk_0_11 : okROfP 0 (4, 2, true) = true := by kernel_rfl
theorem rtor_chk_1_11 : okRTor 1 (4, 2, true) = true := by kernel_rfl
theorem rofp_chk_1_11 : okROfP 1 (4, 2, true) = true := by kernel_rfl
theorem rtor_chk_0_12 : okRTor 0 (6, 0, true) = true := by kernel_rfl
theorem rofp_chk_0_12 : okROfP 0 (6, 0, true) = true := by kernel_rfl
theorem rtor_chk_1_12 : okRTor 1 (6, 0, true) = true := by kernel_rfl
theorem rofp_chk_1_12 : okROfP 1 (6, 0, true) = true := by kernel_rfl
theorem rtor_chk_0_13 : okRTor 0 (6, 2, true) = true := by kernel_rfl
theorem rofp_chk_0_13 : okROfP 0 (6, 2, true) = true := by kernel_rfl
theorem rtor_chk_1_13 : okRTor 1 (6, 2, true) = true := by kernel_rfl
theorem rofp_chk_1_13 : okROfP 1 (6, 2, true) = true := by kernel_rfl
end Go.Proofs.YtnikgcedifdaeaaGreatDoor.Sab
end
