/- Texts of the proof, joined by a program (of one law): contracts of functions, plain laws. -/
import Derived.Test.YtnknfolnbhljfaaGreatDoorJV1
set_option linter.unusedVariables false
set_option linter.unusedSimpArgs false
set_option linter.unusedSectionVars false
section
/- Checks by the kernel, piece by piece (printed by a program of mine). -/
namespace Go.Proofs.YtnknfolnbhljfaaGreatDoor.Sab
open Go Go.Proofs.YtnknfolnbhljfaaGreatDoor.Ab
set_option maxRecDepth 100000
set_option maxHeartbeats 0
theorem weeks_chk_0 : allB okWeek2 ((pairsL.drop 0).take 1) = true := by kernel_rfl
theorem weeks_chk_1 : allB okWeek2 ((pairsL.drop 1).take 1) = true := by kernel_rfl
theorem weeks_chk_2 : allB okWeek2 ((pairsL.drop 2).take 1) = true := by kernel_rfl
theorem weeks_chk_3 : allB okWeek2 ((pairsL.drop 3).take 1) = true := by kernel_rfl
theorem weeks_chk_4 : allB okWeek2 ((pairsL.drop 4).take 1) = true := by kernel_rfl
theorem weeks_chk_5 : allB okWeek2 ((pairsL.drop 5).take 1) = true := by kernel_rfl
theorem weeks_chk_6 : allB okWeek2 ((pairsL.drop 6).take 1) = true := by kernel_rfl
end Go.Proofs.YtnknfolnbhljfaaGreatDoor.Sab
end
