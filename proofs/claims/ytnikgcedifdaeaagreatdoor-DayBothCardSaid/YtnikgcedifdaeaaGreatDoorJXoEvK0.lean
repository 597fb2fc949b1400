/- Texts of the proof, joined by a program (checks of one law): contracts of functions, plain laws. -/
import Derived.Test.YtnikgcedifdaeaaGreatDoorJXoEvA
set_option linter.unusedVariables false
set_option linter.unusedSimpArgs false
set_option linter.unusedSectionVars false
section
/- Checks by the kernel, piece by piece (printed by a program of mine). -/
namespace Go.Proofs.YtnikgcedifdaeaaGreatDoor.Sab
open Go Go.Proofs.YtnikgcedifdaeaaGreatDoor.Ab
set_option maxRecDepth 100000
set_option maxHeartbeats 0
theorem evs_chk_0 : okEvs (1, 0, false) = true := by kernel_rfl
theorem evs_chk_1 : okEvs (1, 2, false) = true := by kernel_rfl
theorem evs_chk_2 : okEvs (2, 1, false) = true := by kernel_rfl
theorem evs_chk_3 : okEvs (4, 1, false) = true := by kernel_rfl
end Go.Proofs.YtnikgcedifdaeaaGreatDoor.Sab
end

section
/- Checks by the kernel, piece by piece (printed by a program of mine). -/
namespace Go.Proofs.YtnikgcedifdaeaaGreatDoor.Sab
open Go Go.Proofs.YtnikgcedifdaeaaGreatDoor.Ab
set_option maxRecDepth 100000
set_option maxHeartbeats 0
theorem evs_chk_4 : okEvs (4, 2, false) = true := by kernel_rfl
theorem evs_chk_5 : okEvs (6, 0, false) = true := by kernel_rfl
theorem evs_chk_6 : okEvs (6, 2, false) = true := by kernel_rfl
theorem evs_chk_7 : okEvs (1, 0, true) = true := by kernel_rfl
end Go.Proofs.YtnikgcedifdaeaaGreatDoor.Sab
end
