/- Texts of the proof, joined by a program (of one law): contracts of functions, plain laws. -/
import Derived.Test.YtnikgcedifdaeaaGreatDoorJRoRefA
set_option linter.unusedVariables false
set_option linter.unusedSimpArgs false
set_option linter.unusedSectionVars false
section
/- Checks by the kernel, piece by piece (printed by a program of mine). -/
namespace Go.Proofs.YtnikgcedifdaeaaGreatDoor.Sab
open Go Go.Proofs.YtnikgcedifdaeaaGreatDoor.Ab
set_option maxRecDepth 100000
set_option maxHeartbeats 0
theorem rfeast_chk_0_0 : okRFeast (1, 0, false) 0 = true := by kernel_rfl
theorem rfeast_chk_0_1 : okRFeast (1, 0, false) 1 = true := by kernel_rfl
theorem rfeast_chk_1_0 : okRFeast (1, 2, false) 0 = true := by kernel_rfl
theorem rfeast_chk_1_1 : okRFeast (1, 2, false) 1 = true := by kernel_rfl
theorem rfeast_chk_2_0 : okRFeast (2, 1, false) 0 = true := by kernel_rfl
theorem rfeast_chk_2_1 : okRFeast (2, 1, false) 1 = true := by kernel_rfl
theorem rfeast_chk_3_0 : okRFeast (4, 1, false) 0 = true := by kernel_rfl
theorem rfeast_chk_3_1 : okRFeast (4, 1, false) 1 = true := by kernel_rfl
end Go.Proofs.YtnikgcedifdaeaaGreatDoor.Sab
end
