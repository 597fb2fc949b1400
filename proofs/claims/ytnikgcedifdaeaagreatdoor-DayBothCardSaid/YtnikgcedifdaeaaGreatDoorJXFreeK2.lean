/- Texts of the proof, joined by a program (checks): contracts of functions, plain laws. -/
import Derived.Test.YtnikgcedifdaeaaGreatDoorJX8
set_option linter.unusedVariables false
set_option linter.unusedSimpArgs false
set_option linter.unusedSectionVars false
section
/- Checks by the kernel, piece by piece (printed by a program of mine). -/
namespace Go.Proofs.YtnikgcedifdaeaaGreatDoor.Sab
open Go Go.Proofs.YtnikgcedifdaeaaGreatDoor.Ab
set_option maxRecDepth 100000
set_option maxHeartbeats 0
theorem free_chk_20 : allB okFree ((pairsL.drop 20).take 1) = true := by kernel_rfl
theorem free_chk_21 : allB okFree ((pairsL.drop 21).take 1) = true := by kernel_rfl
theorem free_chk_22 : allB okFree ((pairsL.drop 22).take 1) = true := by kernel_rfl
theorem free_chk_23 : allB okFree ((pairsL.drop 23).take 1) = true := by kernel_rfl
theorem free_chk_24 : allB okFree ((pairsL.drop 24).take 1) = true := by kernel_rfl
theorem free_chk_25 : allB okFree ((pairsL.drop 25).take 1) = true := by kernel_rfl
theorem free_chk_26 : allB okFree ((pairsL.drop 26).take 1) = true := by kernel_rfl
theorem free_chk_27 : allB okFree ((pairsL.drop 27).take 1) = true := by kernel_rfl
theorem free_chk_28 : allB okFree ((pairsL.drop 28).take 1) = true := by kernel_rfl
theorem free_chk_29 : allB okFree ((pairsL.drop 29).take 1) = true := by kernel_rfl
end Go.Proofs.YtnikgcedifdaeaaGreatDoor.Sab
end

section
/- Checks by the kernel, piece by piece (printed by a program of mine). -/
namespace Go.Proofs.YtnikgcedifdaeaaGreatDoor.Sab
open Go Go.Proofs.YtnikgcedifdaeaaGreatDoor.Ab
set_option maxRecDepth 100000
set_option maxHeartbeats 0
theorem free_chk_30 : allB okFree ((pairsL.drop 30).take 1) = true := by kernel_rfl
theorem free_chk_31 : allB okFree ((pairsL.drop 31).take 1) = true := by kernel_rfl
theorem free_chk_32 : allB okFree ((pairsL.drop 32).take 1) = true := by kernel_rfl
theorem free_chk_33 : allB okFree ((pairsL.drop 33).take 1) = true := by kernel_rfl
theorem free_chk_34 : allB okFree ((pairsL.drop 34).take 1) = true := by kernel_rfl
theorem free_chk_35 : allB okFree ((pairsL.drop 35).take 1) = true := by kernel_rfl
theorem free_chk_36 : allB okFree ((pairsL.drop 36).take 1) = true := by kernel_rfl
end Go.Proofs.YtnikgcedifdaeaaGreatDoor.Sab
end
