/- Texts of the proof, joined by a program (checks of one law): contracts of functions, plain laws. -/
import Derived.Test.YtnikgcedifdaeaaGreatDoorJX9
set_option linter.unusedVariables false
set_option linter.unusedSimpArgs false
set_option linter.unusedSectionVars false
section
/- Checks by the kernel, piece by piece (printed by a program of mine). -/
set_option linter.unusedVariables false
namespace Go.Proofs.YtnikgcedifdaeaaGreatDoor.Sab
open Go Go.Proofs.YtnikgcedifdaeaaGreatDoor.Ab
set_option maxRecDepth 100000
set_option maxHeartbeats 0
theorem rgk_0_0 : allB (okRG false) [12, 13, 14, 15] = true := by kernel_rfl
theorem rgk_0_1 : allB (okRG false) [16, 17, 18, 19] = true := by kernel_rfl
theorem rgk_0_2 : allB (okRG false) [20, 21, 22, 23] = true := by kernel_rfl
theorem rgk_0_3 : allB (okRG false) [24, 25, 26, 27] = true := by kernel_rfl
theorem rgk_0_4 : allB (okRG false) [28, 29, 30, 31] = true := by kernel_rfl
theorem rgk_0_5 : allB (okRG false) [32, 33, 34, 35] = true := by kernel_rfl
theorem rgk_0_6 : allB (okRG false) [36, 37] = true := by kernel_rfl
theorem rgk_1_0 : allB (okRG true) [12, 13, 14, 15] = true := by kernel_rfl
theorem rgk_1_1 : allB (okRG true) [16, 17, 18, 19] = true := by kernel_rfl
theorem rgk_1_2 : allB (okRG true) [20, 21, 22, 23] = true := by kernel_rfl
theorem rgk_1_3 : allB (okRG true) [24, 25, 26, 27] = true := by kernel_rfl
theorem rgk_1_4 : allB (okRG true) [28, 29, 30, 31] = true := by kernel_rfl
theorem rgk_1_5 : allB (okRG true) [32, 33, 34, 35] = true := by kernel_rfl
theorem rgk_1_6 : allB (okRG true) [36, 37] = true := by kernel_rfl
theorem rgk (lp : Bool) (k : Int) (h0 : 12 ≤ k) (h1 : k ≤ 37) : okRG lp k = true := by
  have h : k ∈ ([12, 13, 14, 15] : List Int) ∨ k ∈ ([16, 17, 18, 19] : List Int) ∨ k ∈ ([20, 21, 22, 23] : List Int) ∨ k ∈ ([24, 25, 26, 27] : List Int) ∨ k ∈ ([28, 29, 30, 31] : List Int) ∨ k ∈ ([32, 33, 34, 35] : List Int) ∨ k ∈ ([36, 37] : List Int) := by simp only [List.mem_cons, List.not_mem_nil, or_false]; omega
  cases lp
  · rcases h with h | h | h | h | h | h | h
    · exact allB_get rgk_0_0 k h
    · exact allB_get rgk_0_1 k h
    · exact allB_get rgk_0_2 k h
    · exact allB_get rgk_0_3 k h
    · exact allB_get rgk_0_4 k h
    · exact allB_get rgk_0_5 k h
    · exact allB_get rgk_0_6 k h
  · rcases h with h | h | h | h | h | h | h
    · exact allB_get rgk_1_0 k h
    · exact allB_get rgk_1_1 k h
    · exact allB_get rgk_1_2 k h
    · exact allB_get rgk_1_3 k h
    · exact allB_get rgk_1_4 k h
    · exact allB_get rgk_1_5 k h
    · exact allB_get rgk_1_6 k h
end Go.Proofs.YtnikgcedifdaeaaGreatDoor.Sab
end
