/- Texts of the proof, joined by a program (of one law): contracts of functions, plain laws. -/
import Derived.Test.YtnknfolnbhljfaaGreatDoorJT6
set_option linter.unusedVariables false
set_option linter.unusedSimpArgs false
set_option linter.unusedSectionVars false
section
/- The portions' names: what is to be checked. -/
set_option linter.unusedVariables false
namespace Go.Proofs.YtnknfolnbhljfaaGreatDoor.Sab
open Go Go.Proofs.YtnknfolnbhljfaaGreatDoor.Ab
set_option maxRecDepth 100000
noncomputable section
abbrev fNames : Nat := 8
abbrev fAwk : Nat := 19
def upTo : Nat → List Int
  | 0 => []
  | n + 1 => upTo n ++ [Int.ofNat n]
def vNames (m n : Int) : Env := ⟨[(0, (255 - m) / 54), (0, (255 - n) / 54)], [], []⟩
def okNames (m : Int) : Bool := allB (fun n => isR (bL true) (baseN.go (vNames m n) (memo [(fAwk, [], bL true)]) 60 fNames [.int .u8 ⟨m, [(0, 54)]⟩, .int .u8 ⟨n, [(1, 54)]⟩])) (upTo 54)
end
end Go.Proofs.YtnknfolnbhljfaaGreatDoor.Sab
end
