/- Texts of the proof, joined by a program (checks): contracts of functions, plain laws. -/
import Derived.Test.YtnikgcedifdaeaaGreatDoorJX8
set_option linter.unusedVariables false
set_option linter.unusedSimpArgs false
set_option linter.unusedSectionVars false
section
/- Checks by the kernel, piece by piece (printed by a program of mine). -/
namespace Go.Proofs.YtnikgcedifdaeaaGreatDoor.Sab
open Go Go.Proofs.YtnikgcedifdaeaaGreatDoor.Ab
set_option maxRecDepth 100000
set_option maxHeartbeats 0
theorem free_chk_0 : allB okFree ((pairsL.drop 0).take 1) = true := by kernel_rfl
theorem free_chk_1 : allB okFree ((pairsL.drop 1).take 1) = true := by kernel_rfl
theorem free_chk_2 : allB okFree ((pairsL.drop 2).take 1) = true := by kernel_rfl
theorem free_chk_3 : allB okFree ((pairsL.drop 3).take 1) = true := by kernel_rfl
theorem free_chk_4 : allB okFree ((pairsL.drop 4).take 1) = true := by kernel_rfl
theorem free_chk_5 : allB okFree ((pairsL.drop 5).take 1) = true := by kernel_rfl
theorem free_chk_6 : allB okFree ((pairsL.drop 6).take 1) = true := by kernel_rfl
theorem free_chk_7 : allB okFree ((pairsL.drop 7).take 1) = true := by kernel_rfl
theorem free_chk_8 : allB okFree ((pairsL.drop 8).take 1) = true := by kernel_rfl
theorem free_chk_9 : allB okFree ((pairsL.drop 9).take 1) = true := by kernel_rfl
end Go.Proofs.YtnikgcedifdaeaaGreatDoor.Sab
end

section
/- Checks by the kernel, piece by piece (printed by a program of mine). -/
namespace Go.Proofs.YtnikgcedifdaeaaGreatDoor.Sab
open Go Go.Proofs.YtnikgcedifdaeaaGreatDoor.Ab
set_option maxRecDepth 100000
set_option maxHeartbeats 0
theorem free_chk_10 : allB okFree ((pairsL.drop 10).take 1) = true := by kernel_rfl
theorem free_chk_11 : allB okFree ((pairsL.drop 11).take 1) = true := by kernel_rfl
theorem free_chk_12 : allB okFree ((pairsL.drop 12).take 1) = true := by kernel_rfl
theorem free_chk_13 : allB okFree ((pairsL.drop 13).take 1) = true := by kernel_rfl
theorem free_chk_14 : allB okFree ((pairsL.drop 14).take 1) = true := by kernel_rfl
theorem free_chk_15 : allB okFree ((pairsL.drop 15).take 1) = true := by kernel_rfl
theorem free_chk_16 : allB okFree ((pairsL.drop 16).take 1) = true := by kernel_rfl
theorem free_chk_17 : allB okFree ((pairsL.drop 17).take 1) = true := by kernel_rfl
theorem free_chk_18 : allB okFree ((pairsL.drop 18).take 1) = true := by kernel_rfl
theorem free_chk_19 : allB okFree ((pairsL.drop 19).take 1) = true := by kernel_rfl
end Go.Proofs.YtnikgcedifdaeaaGreatDoor.Sab
end
