/- Texts of the proof, joined by a program (of one law): contracts of functions, plain laws. -/
import Derived.Test.YtnknfolnbhljfaaGreatDoorJV1
set_option linter.unusedVariables false
set_option linter.unusedSimpArgs false
set_option linter.unusedSectionVars false
section
/- Checks by the kernel, piece by piece (printed by a program of mine). -/
namespace Go.Proofs.YtnknfolnbhljfaaGreatDoor.Sab
open Go Go.Proofs.YtnknfolnbhljfaaGreatDoor.Ab
set_option maxRecDepth 100000
set_option maxHeartbeats 0
theorem weeks_chk_7 : allB okWeek2 ((pairsL.drop 7).take 1) = true := by kernel_rfl
theorem weeks_chk_8 : allB okWeek2 ((pairsL.drop 8).take 1) = true := by kernel_rfl
theorem weeks_chk_9 : allB okWeek2 ((pairsL.drop 9).take 1) = true := by kernel_rfl
theorem weeks_chk_10 : allB okWeek2 ((pairsL.drop 10).take 1) = true := by kernel_rfl
theorem weeks_chk_11 : allB okWeek2 ((pairsL.drop 11).take 1) = true := by kernel_rfl
theorem weeks_chk_12 : allB okWeek2 ((pairsL.drop 12).take 1) = true := by kernel_rfl
theorem weeks_chk_13 : allB okWeek2 ((pairsL.drop 13).take 1) = true := by kernel_rfl
end Go.Proofs.YtnknfolnbhljfaaGreatDoor.Sab
end
