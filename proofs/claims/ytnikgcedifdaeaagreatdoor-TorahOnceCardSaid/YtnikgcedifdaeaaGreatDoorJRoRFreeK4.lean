/- Texts of the proof, joined by a program (of one law): contracts of functions, plain laws. -/
import Derived.Test.YtnikgcedifdaeaaGreatDoorJRoRefA
set_option linter.unusedVariables false
set_option linter.unusedSimpArgs false
set_option linter.unusedSectionVars false
section
/- Checks by the kernel, piece by piece (printed by a program of mine). -/
namespace Go.Proofs.YtnikgcedifdaeaaGreatDoor.Sab
open Go Go.Proofs.YtnikgcedifdaeaaGreatDoor.Ab
set_option maxRecDepth 100000
set_option maxHeartbeats 0
theorem rfree_chk_20_0 : allB (fun p => okRFree p 0) ((pairsL.drop 20).take 1) = true := by kernel_rfl
theorem rfree_chk_20_1 : allB (fun p => okRFree p 1) ((pairsL.drop 20).take 1) = true := by kernel_rfl
theorem rfree_chk_21_0 : allB (fun p => okRFree p 0) ((pairsL.drop 21).take 1) = true := by kernel_rfl
theorem rfree_chk_21_1 : allB (fun p => okRFree p 1) ((pairsL.drop 21).take 1) = true := by kernel_rfl
theorem rfree_chk_22_0 : allB (fun p => okRFree p 0) ((pairsL.drop 22).take 1) = true := by kernel_rfl
theorem rfree_chk_22_1 : allB (fun p => okRFree p 1) ((pairsL.drop 22).take 1) = true := by kernel_rfl
theorem rfree_chk_23_0 : allB (fun p => okRFree p 0) ((pairsL.drop 23).take 1) = true := by kernel_rfl
theorem rfree_chk_23_1 : allB (fun p => okRFree p 1) ((pairsL.drop 23).take 1) = true := by kernel_rfl
theorem rfree_chk_24_0 : allB (fun p => okRFree p 0) ((pairsL.drop 24).take 1) = true := by kernel_rfl
theorem rfree_chk_24_1 : allB (fun p => okRFree p 1) ((pairsL.drop 24).take 1) = true := by kernel_rfl
end Go.Proofs.YtnikgcedifdaeaaGreatDoor.Sab
end
