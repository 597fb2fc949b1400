/- Texts of the proof, joined by a program (checks of one law): contracts of functions, plain laws. -/
import Derived.Test.YtnikgcedifdaeaaGreatDoorJXoRefA
set_option linter.unusedVariables false
set_option linter.unusedSimpArgs false
set_option linter.unusedSectionVars false
section
/- Checks by the kernel, piece by piece (printed by a program of mine). -/
namespace Go.Proofs.YtnikgcedifdaeaaGreatDoor.Sab
open Go Go.Proofs.YtnikgcedifdaeaaGreatDoor.Ab
set_option maxRecDepth 100000
set_option maxHeartbeats 0
theorem rfeast_chk_8_0 : okRFeast (1, 2, true) 0 = true := by kernel_rfl
theorem rfeast_chk_8_1 : okRFeast (1, 2, true) 1 = true := by kernel_rfl
theorem rfeast_chk_9_0 : okRFeast (2, 1, true) 0 = true := by kernel_rfl
theorem rfeast_chk_9_1 : okRFeast (2, 1, true) 1 = true := by kernel_rfl
theorem rfeast_chk_10_0 : okRFeast (4, 0, true) 0 = true := by kernel_rfl
theorem rfeast_chk_10_1 : okRFeast (4, 0, true) 1 = true := by kernel_rfl
theorem rfeast_chk_11_0 : okRFeast (4, 2, true) 0 = true := by kernel_rfl
theorem rfeast_chk_11_1 : okRFeast (4, 2, true) 1 = true := by kernel_rfl
end Go.Proofs.YtnikgcedifdaeaaGreatDoor.Sab
end

section
/- Checks by the kernel, piece by piece (printed by a program of mine). -/
namespace Go.Proofs.YtnikgcedifdaeaaGreatDoor.Sab
open Go Go.Proofs.YtnikgcedifdaeaaGreatDoor.Ab
set_option maxRecDepth 100000
set_option maxHeartbeats 0
theorem rfeast_chk_12_0 : okRFeast (6, 0, true) 0 = true := by kernel_rfl
theorem rfeast_chk_12_1 : okRFeast (6, 0, true) 1 = true := by kernel_rfl
theorem rfeast_chk_13_0 : okRFeast (6, 2, true) 0 = true := by kernel_rfl
theorem rfeast_chk_13_1 : okRFeast (6, 2, true) 1 = true := by kernel_rfl
end Go.Proofs.YtnikgcedifdaeaaGreatDoor.Sab
end
