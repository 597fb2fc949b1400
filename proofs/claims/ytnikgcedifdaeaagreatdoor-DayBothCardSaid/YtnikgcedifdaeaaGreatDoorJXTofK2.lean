/- Texts of the proof, joined by a program (checks): contracts of functions, plain laws. -/
import Derived.Test.YtnikgcedifdaeaaGreatDoorJX10
set_option linter.unusedVariables false
set_option linter.unusedSimpArgs false
set_option linter.unusedSectionVars false
section
/- Checks by the kernel, piece by piece (printed by a program of mine). -/
namespace Go.Proofs.YtnikgcedifdaeaaGreatDoor.Sab
open Go Go.Proofs.YtnikgcedifdaeaaGreatDoor.Ab
set_option maxRecDepth 100000
set_option maxHeartbeats 0
theorem tofp_chk_0_8 : okTofP 0 (1, 2, true) = true := by kernel_rfl
theorem tofp_chk_1_8 : okTofP 1 (1, 2, true) = true := by kernel_rfl
theorem tofg_chk_8 : okTofG (1, 2, true) = true := by kernel_rfl
theorem tofp_chk_0_9 : okTofP 0 (2, 1, true) = true := by kernel_rfl
theorem tofp_chk_1_9 : okTofP 1 (2, 1, true) = true := by kernel_rfl
theorem tofg_chk_9 : okTofG (2, 1, true) = true := by kernel_rfl
theorem tofp_chk_0_10 : okTofP 0 (4, 0, true) = true := by kernel_rfl
theorem tofp_chk_1_10 : okTofP 1 (4, 0, true) = true := by kernel_rfl
theorem tofg_chk_10 : okTofG (4, 0, true) = true := by kernel_rfl
end Go.Proofs.YtnikgcedifdaeaaGreatDoor.Sab
end

section
/- Checks by the kernel, piece by piece (printed by a program of mine). -/
namespace Go.Proofs.YtnikgcedifdaeaaGreatDoor.Sab
open Go Go.Proofs.YtnikgcedifdaeaaGreatDoor.Ab
set_option maxRecDepth 100000
set_option maxHeartbeats 0
theorem tofp_chk_0_11 : okTofP 0 (4, 2, true) = true := by kernel_rfl
theorem tofp_chk_1_11 : okTofP 1 (4, 2, true) = true := by kernel_rfl
theorem tofg_chk_11 : okTofG (4, 2, true) = true := by kernel_rfl
theorem tofp_chk_0_12 : okTofP 0 (6, 0, true) = true := by kernel_rfl
theorem tofp_chk_1_12 : okTofP 1 (6, 0, true) = true := by kernel_rfl
theorem tofg_chk_12 : okTofG (6, 0, true) = true := by kernel_rfl
theorem tofp_chk_0_13 : okTofP 0 (6, 2, true) = true := by kernel_rfl
theorem tofp_chk_1_13 : okTofP 1 (6, 2, true) = true := by kernel_rfl
theorem tofg_chk_13 : okTofG (6, 2, true) = true := by kernel_rfl
end Go.Proofs.YtnikgcedifdaeaaGreatDoor.Sab
end
