/- Texts of the proof, joined by a program (of one law): contracts of functions, plain laws. -/
import Derived.Test.YtnknfolnbhljfaaGreatDoorJToNamesA
set_option linter.unusedVariables false
set_option linter.unusedSimpArgs false
set_option linter.unusedSectionVars false
section
/- Checks by the kernel, piece by piece (printed by a program of mine). -/
namespace Go.Proofs.YtnknfolnbhljfaaGreatDoor.Sab
open Go Go.Proofs.YtnknfolnbhljfaaGreatDoor.Ab
set_option maxRecDepth 100000
set_option maxHeartbeats 0
theorem names_chk_14 : okNames 14 = true := by kernel_rfl
theorem names_chk_15 : okNames 15 = true := by kernel_rfl
theorem names_chk_16 : okNames 16 = true := by kernel_rfl
theorem names_chk_17 : okNames 17 = true := by kernel_rfl
theorem names_chk_18 : okNames 18 = true := by kernel_rfl
theorem names_chk_19 : okNames 19 = true := by kernel_rfl
theorem names_chk_20 : okNames 20 = true := by kernel_rfl
theorem names_chk_21 : okNames 21 = true := by kernel_rfl
theorem names_chk_22 : okNames 22 = true := by kernel_rfl
theorem names_chk_23 : okNames 23 = true := by kernel_rfl
theorem names_chk_24 : okNames 24 = true := by kernel_rfl
theorem names_chk_25 : okNames 25 = true := by kernel_rfl
theorem names_chk_26 : okNames 26 = true := by kernel_rfl
theorem names_chk_27 : okNames 27 = true := by kernel_rfl
end Go.Proofs.YtnknfolnbhljfaaGreatDoor.Sab
end
