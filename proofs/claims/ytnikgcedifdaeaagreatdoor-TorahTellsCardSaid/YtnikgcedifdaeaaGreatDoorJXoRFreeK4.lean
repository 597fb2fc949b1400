/- Texts of the proof, joined by a program (checks of one law): contracts of functions, plain laws. -/
import Derived.Test.YtnikgcedifdaeaaGreatDoorJXoRefA
set_option linter.unusedVariables false
set_option linter.unusedSimpArgs false
set_option linter.unusedSectionVars false
section
/- Checks by the kernel, piece by piece (printed by a program of mine). -/
namespace Go.Proofs.YtnikgcedifdaeaaGreatDoor.Sab
open Go Go.Proofs.YtnikgcedifdaeaaGreatDoor.Ab
set_option maxRecDepth 100000
set_option maxHeartbeats 0
theorem rfree_chk_20_0 : allB (fun p => okRFree p 0) ((pairsL.drop 20).take 1) = true := by kernel_rfl
theorem rfree_chk_20_1 : allB (fun p => okRFree p 1) ((pairsL.drop 20).take 1) = true := by kernel_rfl
theorem rfree_chk_21_0 : allB (fun p => okRFree p 0) ((pairsL.drop 21).take 1) = true := by kernel_rfl
theorem rfree_chk_21_1 : allB (fun p => okRFree p 1) ((pairsL.drop 21).take 1) = true := by kernel_rfl
theorem rfree_chk_22_0 : allB (fun p => okRFree p 0) ((pairsL.drop 22).take 1) = true := by kernel_rfl
theorem rfree_chk_22_1 : allB (fun p => okRFree p 1) ((pairsL.drop 22).take 1) = true := by kernel_rfl
theorem rfree_chk_23_0 : allB (fun p => okRFree p 0) ((pairsL.drop 23).take 1) = true := by kernel_rfl
theorem rfree_chk_23_1 : allB (fun p => okRFree p 1) ((pairsL.drop 23).take 1) = true := by kernel_rfl
theorem rfree_chk_24_0 : allB (fun p => okRFree p 0) ((pairsL.drop 24).take 1) = true := by kernel_rfl
theorem rfree_chk_24_1 : allB (fun p => okRFree p 1) ((pairsL.drop 24).take 1) = true := by kernel_rfl
end Go.Proofs.YtnikgcedifdaeaaGreatDoor.Sab
end

section
/- Checks by the kernel, piece by piece (printed by a program of mine). -/
namespace Go.Proofs.YtnikgcedifdaeaaGreatDoor.Sab
open Go Go.Proofs.YtnikgcedifdaeaaGreatDoor.Ab
set_option maxRecDepth 100000
set_option maxHeartbeats 0
theorem rfree_chk_25_0 : allB (fun p => okRFree p 0) ((pairsL.drop 25).take 1) = true := by kernel_rfl
theorem rfree_chk_25_1 : allB (fun p => okRFree p 1) ((pairsL.drop 25).take 1) = true := by kernel_rfl
theorem rfree_chk_26_0 : allB (fun p => okRFree p 0) ((pairsL.drop 26).take 1) = true := by kernel_rfl
theorem rfree_chk_26_1 : allB (fun p => okRFree p 1) ((pairsL.drop 26).take 1) = true := by kernel_rfl
theorem rfree_chk_27_0 : allB (fun p => okRFree p 0) ((pairsL.drop 27).take 1) = true := by kernel_rfl
theorem rfree_chk_27_1 : allB (fun p => okRFree p 1) ((pairsL.drop 27).take 1) = true := by kernel_rfl
theorem rfree_chk_28_0 : allB (fun p => okRFree p 0) ((pairsL.drop 28).take 1) = true := by kernel_rfl
theorem rfree_chk_28_1 : allB (fun p => okRFree p 1) ((pairsL.drop 28).take 1) = true := by kernel_rfl
theorem rfree_chk_29_0 : allB (fun p => okRFree p 0) ((pairsL.drop 29).take 1) = true := by kernel_rfl
theorem rfree_chk_29_1 : allB (fun p => okRFree p 1) ((pairsL.drop 29).take 1) = true := by kernel_rfl
end Go.Proofs.YtnikgcedifdaeaaGreatDoor.Sab
end
