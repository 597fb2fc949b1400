/- Texts of the proof, joined by a program (of one law): contracts of functions, plain laws. -/
import Derived.Test.YtnknfolnbhljfaaGreatDoorJToNamesA
set_option linter.unusedVariables false
set_option linter.unusedSimpArgs false
set_option linter.unusedSectionVars false
section
/- Checks by the kernel, piece by piece (printed by a program of mine). -/
namespace Go.Proofs.YtnknfolnbhljfaaGreatDoor.Sab
open Go Go.Proofs.YtnknfolnbhljfaaGreatDoor.Ab
set_option maxRecDepth 100000
set_option maxHeartbeats 0
theorem names_chk_28 : okNames 28 = true := by kernel_rfl
theorem names_chk_29 : okNames 29 = true := by kernel_rfl
theorem names_chk_30 : okNames 30 = true := by kernel_rfl
theorem names_chk_31 : okNames 31 = true := by kernel_rfl
theorem names_chk_32 : okNames 32 = true := by kernel_rfl
theorem names_chk_33 : okNames 33 = true := by kernel_rfl
theorem names_chk_34 : okNames 34 = true := by kernel_rfl
theorem names_chk_35 : okNames 35 = true := by kernel_rfl
theorem names_chk_36 : okNames 36 = true := by kernel_rfl
theorem names_chk_37 : okNames 37 = true := by kernel_rfl
theorem names_chk_38 : okNames 38 = true := by kernel_rfl
theorem names_chk_39 : okNames 39 = true := by kernel_rfl
theorem names_chk_40 : okNames 40 = true := by kernel_rfl
end Go.Proofs.YtnknfolnbhljfaaGreatDoor.Sab
end
