/- Texts of the proof, joined by a program (of one law): contracts of functions, plain laws. -/
import Derived.Test.YtnikgcedifdaeaaGreatDoorJRoRefA
set_option linter.unusedVariables false
set_option linter.unusedSimpArgs false
set_option linter.unusedSectionVars false
section
/- Checks by the kernel, piece by piece (printed by a program of mine). -/
namespace Go.Proofs.YtnikgcedifdaeaaGreatDoor.Sab
open Go Go.Proofs.YtnikgcedifdaeaaGreatDoor.Ab
set_option maxRecDepth 100000
set_option maxHeartbeats 0
theorem rfree_chk_10_0 : allB (fun p => okRFree p 0) ((pairsL.drop 10).take 1) = true := by kernel_rfl
theorem rfree_chk_10_1 : allB (fun p => okRFree p 1) ((pairsL.drop 10).take 1) = true := by kernel_rfl
theorem rfree_chk_11_0 : allB (fun p => okRFree p 0) ((pairsL.drop 11).take 1) = true := by kernel_rfl
theorem rfree_chk_11_1 : allB (fun p => okRFree p 1) ((pairsL.drop 11).take 1) = true := by kernel_rfl
theorem rfree_chk_12_0 : allB (fun p => okRFree p 0) ((pairsL.drop 12).take 1) = true := by kernel_rfl
theorem rfree_chk_12_1 : allB (fun p => okRFree p 1) ((pairsL.drop 12).take 1) = true := by kernel_rfl
theorem rfree_chk_13_0 : allB (fun p => okRFree p 0) ((pairsL.drop 13).take 1) = true := by kernel_rfl
theorem rfree_chk_13_1 : allB (fun p => okRFree p 1) ((pairsL.drop 13).take 1) = true := by kernel_rfl
theorem rfree_chk_14_0 : allB (fun p => okRFree p 0) ((pairsL.drop 14).take 1) = true := by kernel_rfl
theorem rfree_chk_14_1 : allB (fun p => okRFree p 1) ((pairsL.drop 14).take 1) = true := by kernel_rfl
end Go.Proofs.YtnikgcedifdaeaaGreatDoor.Sab
end
