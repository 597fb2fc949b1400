/- Texts of the proof, joined by a program (checks of one law): contracts of functions, plain laws. -/
import Derived.Test.YtnikgcedifdaeaaGreatDoorJXoRefA
set_option linter.unusedVariables false
set_option linter.unusedSimpArgs false
set_option linter.unusedSectionVars false
section
/- Checks by the kernel, piece by piece (printed by a program of mine). -/
namespace Go.Proofs.YtnikgcedifdaeaaGreatDoor.Sab
open Go Go.Proofs.YtnikgcedifdaeaaGreatDoor.Ab
set_option maxRecDepth 100000
set_option maxHeartbeats 0
theorem rfree_chk_0_0 : allB (fun p => okRFree p 0) ((pairsL.drop 0).take 1) = true := by kernel_rfl
theorem rfree_chk_0_1 : allB (fun p => okRFree p 1) ((pairsL.drop 0).take 1) = true := by kernel_rfl
theorem rfree_chk_1_0 : allB (fun p => okRFree p 0) ((pairsL.drop 1).take 1) = true := by kernel_rfl
theorem rfree_chk_1_1 : allB (fun p => okRFree p 1) ((pairsL.drop 1).take 1) = true := by kernel_rfl
theorem rfree_chk_2_0 : allB (fun p => okRFree p 0) ((pairsL.drop 2).take 1) = true := by kernel_rfl
theorem rfree_chk_2_1 : allB (fun p => okRFree p 1) ((pairsL.drop 2).take 1) = true := by kernel_rfl
theorem rfree_chk_3_0 : allB (fun p => okRFree p 0) ((pairsL.drop 3).take 1) = true := by kernel_rfl
theorem rfree_chk_3_1 : allB (fun p => okRFree p 1) ((pairsL.drop 3).take 1) = true := by kernel_rfl
theorem rfree_chk_4_0 : allB (fun p => okRFree p 0) ((pairsL.drop 4).take 1) = true := by kernel_rfl
theorem rfree_chk_4_1 : allB (fun p => okRFree p 1) ((pairsL.drop 4).take 1) = true := by kernel_rfl
end Go.Proofs.YtnikgcedifdaeaaGreatDoor.Sab
end

section
/- Checks by the kernel, piece by piece (printed by a program of mine). -/
namespace Go.Proofs.YtnikgcedifdaeaaGreatDoor.Sab
open Go Go.Proofs.YtnikgcedifdaeaaGreatDoor.Ab
set_option maxRecDepth 100000
set_option maxHeartbeats 0
theorem rfree_chk_5_0 : allB (fun p => okRFree p 0) ((pairsL.drop 5).take 1) = true := by kernel_rfl
theorem rfree_chk_5_1 : allB (fun p => okRFree p 1) ((pairsL.drop 5).take 1) = true := by kernel_rfl
theorem rfree_chk_6_0 : allB (fun p => okRFree p 0) ((pairsL.drop 6).take 1) = true := by kernel_rfl
theorem rfree_chk_6_1 : allB (fun p => okRFree p 1) ((pairsL.drop 6).take 1) = true := by kernel_rfl
theorem rfree_chk_7_0 : allB (fun p => okRFree p 0) ((pairsL.drop 7).take 1) = true := by kernel_rfl
theorem rfree_chk_7_1 : allB (fun p => okRFree p 1) ((pairsL.drop 7).take 1) = true := by kernel_rfl
theorem rfree_chk_8_0 : allB (fun p => okRFree p 0) ((pairsL.drop 8).take 1) = true := by kernel_rfl
theorem rfree_chk_8_1 : allB (fun p => okRFree p 1) ((pairsL.drop 8).take 1) = true := by kernel_rfl
theorem rfree_chk_9_0 : allB (fun p => okRFree p 0) ((pairsL.drop 9).take 1) = true := by kernel_rfl
theorem rfree_chk_9_1 : allB (fun p => okRFree p 1) ((pairsL.drop 9).take 1) = true := by kernel_rfl
end Go.Proofs.YtnikgcedifdaeaaGreatDoor.Sab
end
