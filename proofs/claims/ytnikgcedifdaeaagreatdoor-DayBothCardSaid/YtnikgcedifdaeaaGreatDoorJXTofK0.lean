/- Texts of the proof, joined by a program (checks): contracts of functions, plain laws. -/
import Derived.Test.YtnikgcedifdaeaaGreatDoorJX10
set_option linter.unusedVariables false
set_option linter.unusedSimpArgs false
set_option linter.unusedSectionVars false
section
/- Checks by the kernel, piece by piece (printed by a program of mine). -/
namespace Go.Proofs.YtnikgcedifdaeaaGreatDoor.Sab
open Go Go.Proofs.YtnikgcedifdaeaaGreatDoor.Ab
set_option maxRecDepth 100000
set_option maxHeartbeats 0
theorem tofp_chk_0_0 : okTofP 0 (1, 0, false) = true := by kernel_rfl
theorem tofp_chk_1_0 : okTofP 1 (1, 0, false) = true := by kernel_rfl
theorem tofg_chk_0 : okTofG (1, 0, false) = true := by kernel_rfl
theorem tofp_chk_0_1 : okTofP 0 (1, 2, false) = true := by kernel_rfl
theorem tofp_chk_1_1 : okTofP 1 (1, 2, false) = true := by kernel_rfl
theorem tofg_chk_1 : okTofG (1, 2, false) = true := by kernel_rfl
theorem tofp_chk_0_2 : okTofP 0 (2, 1, false) = true := by kernel_rfl
theorem tofp_chk_1_2 : okTofP 1 (2, 1, false) = true := by kernel_rfl
theorem tofg_chk_2 : okTofG (2, 1, false) = true := by kernel_rfl
theorem tofp_chk_0_3 : okTofP 0 (4, 1, false) = true := by kernel_rfl
theorem tofp_chk_1_3 : okTofP 1 (4, 1, false) = true := by kernel_rfl
theorem tofg_chk_3 : okTofG (4, 1, false) = true := by kernel_rfl
end Go.Proofs.YtnikgcedifdaeaaGreatDoor.Sab
end

section
/- Checks by the kernel, piece by piece (printed by a program of mine). -/
namespace Go.Proofs.YtnikgcedifdaeaaGreatDoor.Sab
open Go Go.Proofs.YtnikgcedifdaeaaGreatDoor.Ab
set_option maxRecDepth 100000
set_option maxHeartbeats 0
theorem tofp_chk_0_4 : okTofP 0 (4, 2, false) = true := by kernel_rfl
theorem tofp_chk_1_4 : okTofP 1 (4, 2, false) = true := by kernel_rfl
theorem tofg_chk_4 : okTofG (4, 2, false) = true := by kernel_rfl
theorem tofp_chk_0_5 : okTofP 0 (6, 0, false) = true := by kernel_rfl
theorem tofp_chk_1_5 : okTofP 1 (6, 0, false) = true := by kernel_rfl
theorem tofg_chk_5 : okTofG (6, 0, false) = true := by kernel_rfl
theorem tofp_chk_0_6 : okTofP 0 (6, 2, false) = true := by kernel_rfl
theorem tofp_chk_1_6 : okTofP 1 (6, 2, false) = true := by kernel_rfl
theorem tofg_chk_6 : okTofG (6, 2, false) = true := by kernel_rfl
theorem tofp_chk_0_7 : okTofP 0 (1, 0, true) = true := by kernel_rfl
theorem tofp_chk_1_7 : okTofP 1 (1, 0, true) = true := by kernel_rfl
theorem tofg_chk_7 : okTofG (1, 0, true) = true := by kernel_rfl
end Go.Proofs.YtnikgcedifdaeaaGreatDoor.Sab
end
