/- Texts of the proof, joined by a program (checks): contracts of functions, plain laws. -/
import Derived.Test.YtnikgcedifdaeaaGreatDoorJX9
set_option linter.unusedVariables false
set_option linter.unusedSimpArgs false
set_option linter.unusedSectionVars false
section
/- Checks by the kernel, piece by piece (printed by a program of mine). -/
namespace Go.Proofs.YtnikgcedifdaeaaGreatDoor.Sab
open Go Go.Proofs.YtnikgcedifdaeaaGreatDoor.Ab
set_option maxRecDepth 100000
set_option maxHeartbeats 0
theorem torah_chk_8 : okTorah (1, 2, true) = true := by kernel_rfl
theorem torah_chk_9 : okTorah (2, 1, true) = true := by kernel_rfl
theorem torah_chk_10 : okTorah (4, 0, true) = true := by kernel_rfl
theorem torah_chk_11 : okTorah (4, 2, true) = true := by kernel_rfl
end Go.Proofs.YtnikgcedifdaeaaGreatDoor.Sab
end

section
/- Checks by the kernel, piece by piece (printed by a program of mine). -/
namespace Go.Proofs.YtnikgcedifdaeaaGreatDoor.Sab
open Go Go.Proofs.YtnikgcedifdaeaaGreatDoor.Ab
set_option maxRecDepth 100000
set_option maxHeartbeats 0
theorem torah_chk_12 : okTorah (6, 0, true) = true := by kernel_rfl
theorem torah_chk_13 : okTorah (6, 2, true) = true := by kernel_rfl
end Go.Proofs.YtnikgcedifdaeaaGreatDoor.Sab
end
