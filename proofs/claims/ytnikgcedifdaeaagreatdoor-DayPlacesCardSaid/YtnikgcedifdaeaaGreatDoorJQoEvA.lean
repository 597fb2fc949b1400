/- Texts of the proof, joined by a program (of one law): contracts of functions, plain laws. -/
import Derived.Test.YtnikgcedifdaeaaGreatDoorJQoSortO
set_option linter.unusedVariables false
set_option linter.unusedSimpArgs false
set_option linter.unusedSectionVars false
section
/- All events of a year, in plain words; what is to be checked. -/
set_option linter.unusedVariables false
set_option linter.unusedSimpArgs false
namespace Go.Proofs.YtnikgcedifdaeaaGreatDoor.Sab
open Go Go.Proofs.YtnikgcedifdaeaaGreatDoor.Ab
set_option maxRecDepth 100000
noncomputable section
abbrev fFast : Nat := 65
abbrev fChod : Nat := 66
abbrev fSpec : Nat := 67
abbrev fEvents : Nat := 24
def isI (a b : Int) : Bool := zero (a - b)
/-- By how many days. -/
def movedBy (k w : Int) : Int :=
  bif (isI k 2 || isI k 26 || isI k 27) && isI w 6 then 1 else bif isI k 19 && isI w 0 then 1 else bif isI k 21 && isI w 1 then 1 else
  bif (isI k 19 || isI k 21) && isI w 5 then -1 else bif (isI k 13 || isI k 16 || isI k 21) && isI w 6 then -2 else 0
def fastRows : List (Int × Nat × Int) := [(2, 1, 3), (10, 4, 10), (13, 6, 13), (16, 7, 14), (19, 7, 27), (21, 8, 5), (24, 8, 28), (26, 10, 17), (27, 11, 9)]
def fasts (t : Ty) : List Ev := evSort ((fastRows.map fun r =>
  let o := offD t r.2.1 false r.2.2
  let e := o + movedBy r.1 ((t.1 + o) % 7)
  bif isI r.1 21 then [(e, r.1), (e - 1, 20)] else [(e, r.1)]).flatten)
def chodAt : Bool → Int → List Int → List Ev
  | _, _, [] => []
  | b, a, x :: r => (bif b then [(a, 29)] else []) ++ (bif isI x 30 then [(a + 29, 29)] else []) ++ chodAt true (a + x) r
def chods (t : Ty) : List Ev := chodAt false 0 (lens t)
/-- Kind, month, day, from there on or up to it, further. -/
def specRows : List (Int × Nat × Int × Bool × Int) := [(35, 1, 3, true, 0), (30, 6, 1, false, 0), (31, 6, 13, false, 0), (32, 7, 1, false, -7), (33, 7, 1, false, 0), (34, 7, 14, false, 0), (36, 11, 9, false, 0), (37, 11, 9, false, 7)]
def specs (t : Ty) : List Ev := evSort (specRows.map fun r =>
  let o := offD t r.2.1 false r.2.2.1
  (o + (bif r.2.2.2.1 then (6 - (t.1 + o)) % 7 else -((t.1 + o - 6) % 7)) + r.2.2.2.2, r.1))
def evs (t : Ty) (pl : Int) : List Ev := evSort (feasts t pl ++ (fasts t ++ (chods t ++ specs t)))
def okFast (t : Ty) : Bool := isLR (rowEv t.1 (fasts t)) base.A0.next (base.goL vTy (orElse (memo (mOf t)) (orElse (oWeek vTy) (oSort vTy))) noL 400 fFast [yE 0])
def okChod (t : Ty) : Bool := isLR (rowEv t.1 (chods t)) base.A0.next (base.goL vTy (memo (mOf t)) noL 400 fChod [yE 0])
def okSpec (t : Ty) : Bool := isLR (rowEv t.1 (specs t)) base.A0.next (base.goL vTy (orElse (memo (mOf t)) (orElse (oWeek vTy) (oSort vTy))) noL 400 fSpec [yE 0])
def mlEv (t : Ty) (pl : Int) : LMemo := [(fFeast, [yE 0, iL pl], rowEv t.1 (feasts t pl)), (fFast, [yE 0], rowEv t.1 (fasts t)), (fChod, [yE 0], rowEv t.1 (chods t)), (fSpec, [yE 0], rowEv t.1 (specs t))]
def okEvs (t : Ty) : Bool := allB (fun pl => isLR (rowEv t.1 (evs t pl)) base.A0.next (base.goL vTy (oSort vTy) (memoL (mlEv t pl)) 2000 fEvents [yE 0, iL pl])) places
end
end Go.Proofs.YtnikgcedifdaeaaGreatDoor.Sab
end
