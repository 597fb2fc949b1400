/- Texts of the proof, joined by a program (of one law): contracts of functions, plain laws. -/
import Derived.Test.YtnikgcedifdaeaaGreatDoorJR10
import Derived.Test.YtnikgcedifdaeaaGreatDoorJRoRefA
set_option linter.unusedVariables false
set_option linter.unusedSimpArgs false
set_option linter.unusedSectionVars false
section
/- Each portion is read once: what is to be checked. -/
set_option linter.unusedVariables false
set_option linter.unusedSimpArgs false
namespace Go.Proofs.YtnikgcedifdaeaaGreatDoor.Sab
open Go Go.Proofs.YtnikgcedifdaeaaGreatDoor.Ab
set_option maxRecDepth 100000
noncomputable section
abbrev fOnce : Nat := 4
def lOnce (t : Ty) (pl : Int) : LMemo := lT t pl ++ [(rFree, [yE 0, iL pl], rowI t (freeOff t pl)), (rAllF, [yE 0, iL pl], rowI t (allOff t pl))]
def okOnce (t : Ty) : Bool := allB (fun pl => isR (bL true) (baseN.goL vLaw24 (memo mAwk) (memoL (lOnce t pl)) 400 fOnce [argY, argP pl])) places
end
end Go.Proofs.YtnikgcedifdaeaaGreatDoor.Sab
end
