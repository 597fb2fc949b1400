/- Texts of the proof, joined by a program (checks of one law): contracts of functions, plain laws. -/
import Derived.Test.YtnikgcedifdaeaaGreatDoorJXoRefA
set_option linter.unusedVariables false
set_option linter.unusedSimpArgs false
set_option linter.unusedSectionVars false
section
/- Checks by the kernel, piece by piece (printed by a program of mine). -/
namespace Go.Proofs.YtnikgcedifdaeaaGreatDoor.Sab
open Go Go.Proofs.YtnikgcedifdaeaaGreatDoor.Ab
set_option maxRecDepth 100000
set_option maxHeartbeats 0
theorem rfree_chk_10_0 : allB (fun p => okRFree p 0) ((pairsL.drop 10).take 1) = true := by kernel_rfl
theorem rfree_chk_10_1 : allB (fun p => okRFree p 1) ((pairsL.drop 10).take 1) = true := by kernel_rfl
theorem rfree_chk_11_0 : allB (fun p => okRFree p 0) ((pairsL.drop 11).take 1) = true := by kernel_rfl
theorem rfree_chk_11_1 : allB (fun p => okRFree p 1) ((pairsL.drop 11).take 1) = true := by kernel_rfl
theorem rfree_chk_12_0 : allB (fun p => okRFree p 0) ((pairsL.drop 12).take 1) = true := by kernel_rfl
theorem rfree_chk_12_1 : allB (fun p => okRFree p 1) ((pairsL.drop 12).take 1) = true := by kernel_rfl
theorem rfree_chk_13_0 : allB (fun p => okRFree p 0) ((pairsL.drop 13).take 1) = true := by kernel_rfl
theorem rfree_chk_13_1 : allB (fun p => okRFree p 1) ((pairsL.drop 13).take 1) = true := by kernel_rfl
theorem rfree_chk_14_0 : allB (fun p => okRFree p 0) ((pairsL.drop 14).take 1) = true := by kernel_rfl
theorem rfree_chk_14_1 : allB (fun p => okRFree p 1) ((pairsL.drop 14).take 1) = true := by kernel_rfl
end Go.Proofs.YtnikgcedifdaeaaGreatDoor.Sab
end

section
/- Checks by the kernel, piece by piece (printed by a program of mine). -/
namespace Go.Proofs.YtnikgcedifdaeaaGreatDoor.Sab
open Go Go.Proofs.YtnikgcedifdaeaaGreatDoor.Ab
set_option maxRecDepth 100000
set_option maxHeartbeats 0
theorem rfree_chk_15_0 : allB (fun p => okRFree p 0) ((pairsL.drop 15).take 1) = true := by kernel_rfl
theorem rfree_chk_15_1 : allB (fun p => okRFree p 1) ((pairsL.drop 15).take 1) = true := by kernel_rfl
theorem rfree_chk_16_0 : allB (fun p => okRFree p 0) ((pairsL.drop 16).take 1) = true := by kernel_rfl
theorem rfree_chk_16_1 : allB (fun p => okRFree p 1) ((pairsL.drop 16).take 1) = true := by kernel_rfl
theorem rfree_chk_17_0 : allB (fun p => okRFree p 0) ((pairsL.drop 17).take 1) = true := by kernel_rfl
theorem rfree_chk_17_1 : allB (fun p => okRFree p 1) ((pairsL.drop 17).take 1) = true := by kernel_rfl
theorem rfree_chk_18_0 : allB (fun p => okRFree p 0) ((pairsL.drop 18).take 1) = true := by kernel_rfl
theorem rfree_chk_18_1 : allB (fun p => okRFree p 1) ((pairsL.drop 18).take 1) = true := by kernel_rfl
theorem rfree_chk_19_0 : allB (fun p => okRFree p 0) ((pairsL.drop 19).take 1) = true := by kernel_rfl
theorem rfree_chk_19_1 : allB (fun p => okRFree p 1) ((pairsL.drop 19).take 1) = true := by kernel_rfl
end Go.Proofs.YtnikgcedifdaeaaGreatDoor.Sab
end
