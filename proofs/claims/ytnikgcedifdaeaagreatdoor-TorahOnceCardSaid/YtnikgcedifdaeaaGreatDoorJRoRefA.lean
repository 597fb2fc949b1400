/- Texts of the proof, joined by a program (of one law): contracts of functions, plain laws. -/
import Derived.Test.YtnikgcedifdaeaaGreatDoorJRoCalS
import Derived.Test.YtnikgcedifdaeaaGreatDoorJR8
set_option linter.unusedVariables false
set_option linter.unusedSimpArgs false
set_option linter.unusedSectionVars false
section
/- The reference's rows: a cycle's Sabbaths, a year's feasts, the free ones: what is to be checked. -/
set_option linter.unusedVariables false
set_option linter.unusedSimpArgs false
namespace Go.Proofs.YtnikgcedifdaeaaGreatDoor.Sab
open Go Go.Proofs.YtnikgcedifdaeaaGreatDoor.Ab
set_option maxRecDepth 100000
set_option maxHeartbeats 0
noncomputable section
abbrev rAllF : Nat := 19
abbrev rFeast : Nat := 45
abbrev rFree : Nat := 18
def mREnds (t : Ty) : Memo := [(rDay, [yE 0, iL 1, iL 22], dE (t.1 + 21)), (rDay, [yE 0, iL 1, iL 23], dE (t.1 + 22)), (rDay, [yE 1, iL 1, iL 22], dE (t.1 + (tyLen t + 21))), (rDay, [yE 1, iL 1, iL 23], dE (t.1 + (tyLen t + 22)))]
def mRWk (t : Ty) (pl : Int) : Memo := seven.map fun j => (rWeek, [dE (t.1 + (23 - pl + j))], iL ((t.1 + (23 - pl + j)) % 7))
def okRAll (t : Ty) : Bool := allB (fun pl => isLR (rowI t (allOff t pl)) base.A0.next (base.goL vCyc (memo (mREnds t ++ mRWk t pl)) noL 400 rAllF [yE 0, iL pl])) places
def mRFeast (t : Ty) : Memo := (rIs, [yE 0], bL t.2.2) :: mRDs t
def okRFeast (t : Ty) (pl : Int) : Bool := isLR (rowEv t.1 (feasts t pl)) base.A0.next (base.goL vTy (memo (mRFeast t)) noL 400 rFeast [yE 0, iL pl])
def mlRFree (p : Ty × Ty) (pl : Int) : LMemo := [(rAllF, [yE 0, iL pl], rowI p.1 (allOff p.1 pl)), (rFeast, [yE 0, iL pl], rowEv p.1.1 (feasts p.1 pl)), (rFeast, [yE 1, iL pl], rowEv (p.1.1 + tyLen p.1) (feasts p.2 pl))]
def okRFree (p : Ty × Ty) (pl : Int) : Bool := isLR (rowI p.1 (freeOff p.1 pl)) base.A0.next (base.goL vCyc noO (memoL (mlRFree p pl)) 400 rFree [yE 0, iL pl])
end
end Go.Proofs.YtnikgcedifdaeaaGreatDoor.Sab
end
