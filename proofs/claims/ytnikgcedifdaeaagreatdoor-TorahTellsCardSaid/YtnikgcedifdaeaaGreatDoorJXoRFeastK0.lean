/- Texts of the proof, joined by a program (checks of one law): contracts of functions, plain laws. -/
import Derived.Test.YtnikgcedifdaeaaGreatDoorJXoRefA
set_option linter.unusedVariables false
set_option linter.unusedSimpArgs false
set_option linter.unusedSectionVars false
section
/- Checks by the kernel, piece by piece (printed by a program of mine). -/
namespace Go.Proofs.YtnikgcedifdaeaaGreatDoor.Sab
open Go Go.Proofs.YtnikgcedifdaeaaGreatDoor.Ab
set_option maxRecDepth 100000
set_option maxHeartbeats 0
theorem rfeast_chk_0_0 : okRFeast (1, 0, false) 0 = true := by kernel_rfl
theorem rfeast_chk_0_1 : okRFeast (1, 0, false) 1 = true := by kernel_rfl
theorem rfeast_chk_1_0 : okRFeast (1, 2, false) 0 = true := by kernel_rfl
theorem rfeast_chk_1_1 : okRFeast (1, 2, false) 1 = true := by kernel_rfl
theorem rfeast_chk_2_0 : okRFeast (2, 1, false) 0 = true := by kernel_rfl
theorem rfeast_chk_2_1 : okRFeast (2, 1, false) 1 = true := by kernel_rfl
theorem rfeast_chk_3_0 : okRFeast (4, 1, false) 0 = true := by kernel_rfl
theorem rfeast_chk_3_1 : okRFeast (4, 1, false) 1 = true := by kernel_rfl
end Go.Proofs.YtnikgcedifdaeaaGreatDoor.Sab
end

section
/- Checks by the kernel, piece by piece (printed by a program of mine). -/
namespace Go.Proofs.YtnikgcedifdaeaaGreatDoor.Sab
open Go Go.Proofs.YtnikgcedifdaeaaGreatDoor.Ab
set_option maxRecDepth 100000
set_option maxHeartbeats 0
theorem rfeast_chk_4_0 : okRFeast (4, 2, false) 0 = true := by kernel_rfl
theorem rfeast_chk_4_1 : okRFeast (4, 2, false) 1 = true := by kernel_rfl
theorem rfeast_chk_5_0 : okRFeast (6, 0, false) 0 = true := by kernel_rfl
theorem rfeast_chk_5_1 : okRFeast (6, 0, false) 1 = true := by kernel_rfl
theorem rfeast_chk_6_0 : okRFeast (6, 2, false) 0 = true := by kernel_rfl
theorem rfeast_chk_6_1 : okRFeast (6, 2, false) 1 = true := by kernel_rfl
theorem rfeast_chk_7_0 : okRFeast (1, 0, true) 0 = true := by kernel_rfl
theorem rfeast_chk_7_1 : okRFeast (1, 0, true) 1 = true := by kernel_rfl
end Go.Proofs.YtnikgcedifdaeaaGreatDoor.Sab
end
