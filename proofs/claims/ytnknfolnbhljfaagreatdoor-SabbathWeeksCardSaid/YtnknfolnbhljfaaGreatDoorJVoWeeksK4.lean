/- Texts of the proof, joined by a program (of one law): contracts of functions, plain laws. -/
import Derived.Test.YtnknfolnbhljfaaGreatDoorJV1
set_option linter.unusedVariables false
set_option linter.unusedSimpArgs false
set_option linter.unusedSectionVars false
section
/- Checks by the kernel, piece by piece (printed by a program of mine). -/
namespace Go.Proofs.YtnknfolnbhljfaaGreatDoor.Sab
open Go Go.Proofs.YtnknfolnbhljfaaGreatDoor.Ab
set_option maxRecDepth 100000
set_option maxHeartbeats 0
theorem weeks_chk_28 : allB okWeek2 ((pairsL.drop 28).take 1) = true := by kernel_rfl
theorem weeks_chk_29 : allB okWeek2 ((pairsL.drop 29).take 1) = true := by kernel_rfl
theorem weeks_chk_30 : allB okWeek2 ((pairsL.drop 30).take 1) = true := by kernel_rfl
theorem weeks_chk_31 : allB okWeek2 ((pairsL.drop 31).take 1) = true := by kernel_rfl
theorem weeks_chk_32 : allB okWeek2 ((pairsL.drop 32).take 1) = true := by kernel_rfl
theorem weeks_chk_33 : allB okWeek2 ((pairsL.drop 33).take 1) = true := by kernel_rfl
theorem weeks_chk_34 : allB okWeek2 ((pairsL.drop 34).take 1) = true := by kernel_rfl
end Go.Proofs.YtnknfolnbhljfaaGreatDoor.Sab
end
