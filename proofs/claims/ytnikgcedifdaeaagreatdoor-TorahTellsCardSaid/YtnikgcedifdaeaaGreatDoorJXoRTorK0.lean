/- Texts of the proof, joined by a program (checks of one law): contracts of functions, plain laws. -/
import Derived.Test.YtnikgcedifdaeaaGreatDoorJXoRTorA
set_option linter.unusedVariables false
set_option linter.unusedSimpArgs false
set_option linter.unusedSectionVars false
section
/- Checks by the kernel, piece by piece (printed by a program of mine). -/
namespace Go.Proofs.YtnikgcedifdaeaaGreatDoor.Sab
open Go Go.Proofs.YtnikgcedifdaeaaGreatDoor.Ab
set_option maxRecDepth 100000
set_option maxHeartbeats 0
theorem rtor_chk_0_0 : okRTor 0 (1, 0, false) = true := by kernel_rfl
theorem rofp_chk_0_0 : okROfP 0 (1, 0, false) = true := by kernel_rfl
theorem rtor_chk_1_0 : okRTor 1 (1, 0, false) = true := by kernel_rfl
theorem rofp_chk_1_0 : okROfP 1 (1, 0, false) = true := by kernel_rfl
theorem rtor_chk_0_1 : okRTor 0 (1, 2, false) = true := by kernel_rfl
theorem rofp_chk_0_1 : okROfP 0 (1, 2, false) = true := by kernel_rfl
theorem rtor_chk_1_1 : okRTor 1 (1, 2, false) = true := by kernel_rfl
theorem rofp_chk_1_1 : okROfP 1 (1, 2, false) = true := by kernel_rfl
theorem rtor_chk_0_2 : okRTor 0 (2, 1, false) = true := by kernel_rfl
theorem rofp_chk_0_2 : okROfP 0 (2, 1, false) = true := by kernel_rfl
theorem rtor_chk_1_2 : okRTor 1 (2, 1, false) = true := by kernel_rfl
theorem rofp_chk_1_2 : okROfP 1 (2, 1, false) = true := by kernel_rfl
theorem rtor_chk_0_3 : okRTor 0 (4, 1, false) = true := by kernel_rfl
theorem rofp_chk_0_3 : okROfP 0 (4, 1, false) = true := by kernel_rfl
theorem rtor_chk_1_3 : okRTor 1 (4, 1, false) = true := by kernel_rfl
theorem rofp_chk_1_3 : okROfP 1 (4, 1, false) = true := by kernel_rfl
end Go.Proofs.YtnikgcedifdaeaaGreatDoor.Sab
end

section
/- Checks by the kernel, piece by piece (printed by a program of mine). -/
namespace Go.Proofs.YtnikgcedifdaeaaGreatDoor.Sab
open Go Go.Proofs.YtnikgcedifdaeaaGreatDoor.Ab
set_option maxRecDepth 100000
set_option maxHeartbeats 0
theorem rtor_chk_0_4 : okRTor 0 (4, 2, false) = true := by kernel_rfl
theorem rofp_chk_0_4 : okROfP 0 (4, 2, false) = true := by kernel_rfl
theorem rtor_chk_1_4 : okRTor 1 (4, 2, false) = true := by kernel_rfl
theorem rofp_chk_1_4 : okROfP 1 (4, 2, false) = true := by kernel_rfl
theorem rtor_chk_0_5 : okRTor 0 (6, 0, false) = true := by kernel_rfl
theorem rofp_chk_0_5 : okROfP 0 (6, 0, false) = true := by kernel_rfl
theorem rtor_chk_1_5 : okRTor 1 (6, 0, false) = true := by kernel_rfl
theorem rofp_chk_1_5 : okROfP 1 (6, 0, false) = true := by kernel_rfl
theorem rtor_chk_0_6 : okRTor 0 (6, 2, false) = true := by kernel_rfl
theorem rofp_chk_0_6 : okROfP 0 (6, 2, false) = true := by kernel_rfl
theorem rtor_chk_1_6 : okRTor 1 (6, 2, false) = true := by kernel_rfl
theorem rofp_chk_1_6 : okROfP 1 (6, 2, false) = true := by kernel_rfl
theorem rtor_chk_0_7 : okRTor 0 (1, 0, true) = true := by kernel_rfl
theorem rofp_chk_0_7 : okROfP 0 (1, 0, true) = true := by kernel_rfl
theorem rtor_chk_1_7 : okRTor 1 (1, 0, true) = true := by kernel_rfl
theorem rofp_chk_1_7 : okROfP 1 (1, 0, true) = true := by kernel_rfl
end Go.Proofs.YtnikgcedifdaeaaGreatDoor.Sab
end
