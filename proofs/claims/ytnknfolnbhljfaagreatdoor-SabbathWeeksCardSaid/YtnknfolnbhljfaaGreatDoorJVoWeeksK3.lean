/- Texts of the proof, joined by a program (of one law): contracts of functions, plain laws. -/
import Derived.Test.YtnknfolnbhljfaaGreatDoorJV1
set_option linter.unusedVariables false
set_option linter.unusedSimpArgs false
set_option linter.unusedSectionVars false
section
/- Checks by the kernel, piece by piece (printed by a program of mine). -/
namespace Go.Proofs.YtnknfolnbhljfaaGreatDoor.Sab
open Go Go.Proofs.YtnknfolnbhljfaaGreatDoor.Ab
set_option maxRecDepth 100000
set_option maxHeartbeats 0
theorem weeks_chk_21 : allB okWeek2 ((pairsL.drop 21).take 1) = true := by kernel_rfl
theorem weeks_chk_22 : allB okWeek2 ((pairsL.drop 22).take 1) = true := by kernel_rfl
theorem weeks_chk_23 : allB okWeek2 ((pairsL.drop 23).take 1) = true := by kernel_rfl
theorem weeks_chk_24 : allB okWeek2 ((pairsL.drop 24).take 1) = true := by kernel_rfl
theorem weeks_chk_25 : allB okWeek2 ((pairsL.drop 25).take 1) = true := by kernel_rfl
theorem weeks_chk_26 : allB okWeek2 ((pairsL.drop 26).take 1) = true := by kernel_rfl
theorem weeks_chk_27 : allB okWeek2 ((pairsL.drop 27).take 1) = true := by kernel_rfl
end Go.Proofs.YtnknfolnbhljfaaGreatDoor.Sab
end
