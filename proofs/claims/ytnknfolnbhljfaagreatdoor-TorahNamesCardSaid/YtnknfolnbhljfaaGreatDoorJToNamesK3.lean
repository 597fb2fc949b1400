/- Texts of the proof, joined by a program (of one law): contracts of functions, plain laws. -/
import Derived.Test.YtnknfolnbhljfaaGreatDoorJToNamesA
set_option linter.unusedVariables false
set_option linter.unusedSimpArgs false
set_option linter.unusedSectionVars false
section
/- Checks by the kernel, piece by piece (printed by a program of mine). -/
namespace Go.Proofs.YtnknfolnbhljfaaGreatDoor.Sab
open Go Go.Proofs.YtnknfolnbhljfaaGreatDoor.Ab
set_option maxRecDepth 100000
set_option maxHeartbeats 0
theorem names_chk_41 : okNames 41 = true := by kernel_rfl
theorem names_chk_42 : okNames 42 = true := by kernel_rfl
theorem names_chk_43 : okNames 43 = true := by kernel_rfl
theorem names_chk_44 : okNames 44 = true := by kernel_rfl
theorem names_chk_45 : okNames 45 = true := by kernel_rfl
theorem names_chk_46 : okNames 46 = true := by kernel_rfl
theorem names_chk_47 : okNames 47 = true := by kernel_rfl
theorem names_chk_48 : okNames 48 = true := by kernel_rfl
theorem names_chk_49 : okNames 49 = true := by kernel_rfl
theorem names_chk_50 : okNames 50 = true := by kernel_rfl
theorem names_chk_51 : okNames 51 = true := by kernel_rfl
theorem names_chk_52 : okNames 52 = true := by kernel_rfl
theorem names_chk_53 : okNames 53 = true := by kernel_rfl
end Go.Proofs.YtnknfolnbhljfaaGreatDoor.Sab
end
