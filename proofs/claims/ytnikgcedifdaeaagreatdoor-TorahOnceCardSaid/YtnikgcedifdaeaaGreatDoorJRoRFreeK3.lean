/- Texts of the proof, joined by a program (of one law): contracts of functions, plain laws. -/
import Derived.Test.YtnikgcedifdaeaaGreatDoorJRoRefA
set_option linter.unusedVariables false
set_option linter.unusedSimpArgs false
set_option linter.unusedSectionVars false
section
/- Checks by the kernel, piece by piece (printed by a program of mine). -/
namespace Go.Proofs.YtnikgcedifdaeaaGreatDoor.Sab
open Go Go.Proofs.YtnikgcedifdaeaaGreatDoor.Ab
set_option maxRecDepth 100000
set_option maxHeartbeats 0
theorem rfree_chk_15_0 : allB (fun p => okRFree p 0) ((pairsL.drop 15).take 1) = true := by kernel_rfl
theorem rfree_chk_15_1 : allB (fun p => okRFree p 1) ((pairsL.drop 15).take 1) = true := by kernel_rfl
theorem rfree_chk_16_0 : allB (fun p => okRFree p 0) ((pairsL.drop 16).take 1) = true := by kernel_rfl
theorem rfree_chk_16_1 : allB (fun p => okRFree p 1) ((pairsL.drop 16).take 1) = true := by kernel_rfl
theorem rfree_chk_17_0 : allB (fun p => okRFree p 0) ((pairsL.drop 17).take 1) = true := by kernel_rfl
theorem rfree_chk_17_1 : allB (fun p => okRFree p 1) ((pairsL.drop 17).take 1) = true := by kernel_rfl
theorem rfree_chk_18_0 : allB (fun p => okRFree p 0) ((pairsL.drop 18).take 1) = true := by kernel_rfl
theorem rfree_chk_18_1 : allB (fun p => okRFree p 1) ((pairsL.drop 18).take 1) = true := by kernel_rfl
theorem rfree_chk_19_0 : allB (fun p => okRFree p 0) ((pairsL.drop 19).take 1) = true := by kernel_rfl
theorem rfree_chk_19_1 : allB (fun p => okRFree p 1) ((pairsL.drop 19).take 1) = true := by kernel_rfl
end Go.Proofs.YtnikgcedifdaeaaGreatDoor.Sab
end
