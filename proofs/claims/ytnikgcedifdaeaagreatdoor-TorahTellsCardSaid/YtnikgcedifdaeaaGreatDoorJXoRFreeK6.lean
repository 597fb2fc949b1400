/- Texts of the proof, joined by a program (checks of one law): contracts of functions, plain laws. -/
import Derived.Test.YtnikgcedifdaeaaGreatDoorJXoRefA
set_option linter.unusedVariables false
set_option linter.unusedSimpArgs false
set_option linter.unusedSectionVars false
section
/- Checks by the kernel, piece by piece (printed by a program of mine). -/
namespace Go.Proofs.YtnikgcedifdaeaaGreatDoor.Sab
open Go Go.Proofs.YtnikgcedifdaeaaGreatDoor.Ab
set_option maxRecDepth 100000
set_option maxHeartbeats 0
theorem rfree_chk_30_0 : allB (fun p => okRFree p 0) ((pairsL.drop 30).take 1) = true := by kernel_rfl
theorem rfree_chk_30_1 : allB (fun p => okRFree p 1) ((pairsL.drop 30).take 1) = true := by kernel_rfl
theorem rfree_chk_31_0 : allB (fun p => okRFree p 0) ((pairsL.drop 31).take 1) = true := by kernel_rfl
theorem rfree_chk_31_1 : allB (fun p => okRFree p 1) ((pairsL.drop 31).take 1) = true := by kernel_rfl
theorem rfree_chk_32_0 : allB (fun p => okRFree p 0) ((pairsL.drop 32).take 1) = true := by kernel_rfl
theorem rfree_chk_32_1 : allB (fun p => okRFree p 1) ((pairsL.drop 32).take 1) = true := by kernel_rfl
theorem rfree_chk_33_0 : allB (fun p => okRFree p 0) ((pairsL.drop 33).take 1) = true := by kernel_rfl
theorem rfree_chk_33_1 : allB (fun p => okRFree p 1) ((pairsL.drop 33).take 1) = true := by kernel_rfl
theorem rfree_chk_34_0 : allB (fun p => okRFree p 0) ((pairsL.drop 34).take 1) = true := by kernel_rfl
theorem rfree_chk_34_1 : allB (fun p => okRFree p 1) ((pairsL.drop 34).take 1) = true := by kernel_rfl
end Go.Proofs.YtnikgcedifdaeaaGreatDoor.Sab
end

section
/- Checks by the kernel, piece by piece (printed by a program of mine). -/
namespace Go.Proofs.YtnikgcedifdaeaaGreatDoor.Sab
open Go Go.Proofs.YtnikgcedifdaeaaGreatDoor.Ab
set_option maxRecDepth 100000
set_option maxHeartbeats 0
theorem rfree_chk_35_0 : allB (fun p => okRFree p 0) ((pairsL.drop 35).take 1) = true := by kernel_rfl
theorem rfree_chk_35_1 : allB (fun p => okRFree p 1) ((pairsL.drop 35).take 1) = true := by kernel_rfl
theorem rfree_chk_36_0 : allB (fun p => okRFree p 0) ((pairsL.drop 36).take 1) = true := by kernel_rfl
theorem rfree_chk_36_1 : allB (fun p => okRFree p 1) ((pairsL.drop 36).take 1) = true := by kernel_rfl
end Go.Proofs.YtnikgcedifdaeaaGreatDoor.Sab
end
