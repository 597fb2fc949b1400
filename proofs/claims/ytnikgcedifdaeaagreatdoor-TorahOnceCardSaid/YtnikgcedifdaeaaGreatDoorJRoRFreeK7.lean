/- Texts of the proof, joined by a program (of one law): contracts of functions, plain laws. -/
import Derived.Test.YtnikgcedifdaeaaGreatDoorJRoRefA
set_option linter.unusedVariables false
set_option linter.unusedSimpArgs false
set_option linter.unusedSectionVars false
section
/- Checks by the kernel, piece by piece (printed by a program of mine). -/
namespace Go.Proofs.YtnikgcedifdaeaaGreatDoor.Sab
open Go Go.Proofs.YtnikgcedifdaeaaGreatDoor.Ab
set_option maxRecDepth 100000
set_option maxHeartbeats 0
theorem rfree_chk_35_0 : allB (fun p => okRFree p 0) ((pairsL.drop 35).take 1) = true := by kernel_rfl
theorem rfree_chk_35_1 : allB (fun p => okRFree p 1) ((pairsL.drop 35).take 1) = true := by kernel_rfl
theorem rfree_chk_36_0 : allB (fun p => okRFree p 0) ((pairsL.drop 36).take 1) = true := by kernel_rfl
theorem rfree_chk_36_1 : allB (fun p => okRFree p 1) ((pairsL.drop 36).take 1) = true := by kernel_rfl
end Go.Proofs.YtnikgcedifdaeaaGreatDoor.Sab
end
