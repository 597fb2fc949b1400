/- Texts of the proof, joined by a program (of one law): contracts of functions, plain laws. -/
import Derived.Test.YtnikgcedifdaeaaGreatDoorJQoEv
import Derived.Test.YtnikgcedifdaeaaGreatDoorJQ9
import Derived.Test.YtnikgcedifdaeaaGreatDoorJQ11
import Derived.Test.YtnikgcedifdaeaaGreatDoorJQ10
set_option linter.unusedVariables false
set_option linter.unusedSimpArgs false
set_option linter.unusedSectionVars false
section
/- What there is to say of a day: the counted days, what is to be checked. -/
set_option linter.unusedVariables false
set_option linter.unusedSimpArgs false
namespace Go.Proofs.YtnikgcedifdaeaaGreatDoor.Sab
open Go Go.Proofs.YtnikgcedifdaeaaGreatDoor.Ab
set_option maxRecDepth 100000
noncomputable section
abbrev fOmer : Nat := 54
abbrev fTOf' : Nat := 10
abbrev fDayOf : Nat := 20
def headIs (a : Int) : List Int → Bool
  | [] => false
  | b :: _ => zero (a - b)
def dedup : List Int → List Int
  | [] => []
  | a :: r => bif headIs a r then dedup r else a :: dedup r
/-- The days of a year on which there is something. -/
def dayPts (t : Ty) (pl : Int) : List Int := dedup ((evs t pl).map fun e => e.1)
/-- Classes of a year's days: from, to. -/
def classes (t : Ty) (pl : Int) : List (Int × Int) := (dayPts t pl).map (fun o => (o, o)) ++ gapsOf (dayPts t pl) 0 (tyLen t - 1)
def inMon (m : Mon) (g : Int × Int) : Bool := ile m.a g.1 && ile g.2 (m.a + m.len - 1)
def monFor (g : Int × Int) : List Mon → Option Mon
  | [] => none
  | m :: r => bif inMon m g then some m else monFor g r
def omerOff (t : Ty) : Int := offD t 7 false 15
def omerIn (t : Ty) (g : Int × Int) : Bool := ile (omerOff t + 1) g.1 && ile g.2 (omerOff t + 49)
def omerOut (t : Ty) (g : Int × Int) : Bool := ile g.2 (omerOff t) || ile (omerOff t + 50) g.1
/-- The unknowns: the year, its week, the day of the year; the civil date; the weekday; the reading; how it ended. -/
def vDay (g : Int × Int) (re : Int × Int) : Ab.Env := ⟨[(1, 9999), (-400000, 400000), g, (-5000, 8000), (1, 12), (1, 31), (0, 6), (0, 60), (0, 60), (-2000000, 3000000), re], [], []⟩
/-- The day, as a sum. -/
def nP (t : Ty) (g : Int × Int) : AV := bif zero (g.2 - g.1) then dE (t.1 + g.1) else nO t
def wP (t : Ty) (g : Int × Int) : AV := bif zero (g.2 - g.1) then iL ((t.1 + g.1) % 7) else iE 0 [(6, 1)]
def oP (c : Int) (g : Int × Int) : AV := bif zero (g.2 - g.1) then iL (c + g.1) else iE c [(2, 1)]
def hebP (m : Mon) (g : Int × Int) : List AV := [yE 0, iL m.num, bL m.ad, oP (1 - m.a) g]
def civP : List AV := [iE 0 [(3, 1)], iE 0 [(4, 1)], iE 0 [(5, 1)]]
def omP (t : Ty) (g : Int × Int) : AV := bif omerIn t g then oP (-omerOff t) g else iL 0
def redP (b : Bool) : List AV := bif b then [iE 0 [(7, 1)], iE 0 [(8, 1)], iE 0 [(9, 1)]] else [iL 0, iL 0, iL 0]
def mDayOf (t : Ty) (pl : Int) (m : Mon) (g : Int × Int) (b : Bool) : Memo := [(fFromDay, [nP t g], .tuple [.agg (hebP m g), iL 0]), (fWeekday, [nP t g], wP t g), (fGFrom, [nP t g], .tuple [.agg civP, iL 0]), (fOmer, [nP t g], .tuple [omP t g, iL 0]),
  (fTOf', [nP t g, iL pl], .tuple [.agg (redP b), bif b then iL 0 else iE 0 [(10, 1)]])]
def rowsE (t : Ty) (pl : Int) : LMemo := [(fEvents, [yE 0, iL pl], rowEv t.1 (evs t pl))]
def aboutP (t : Ty) (m : Mon) (g : Int × Int) (b : Bool) : AV := .tuple [.agg ([nP t g] ++ (hebP m g ++ (civP ++ ([wP t g, omP t g] ++ ([.one] ++ redP b))))), iL 0]
/-- May a Sabbath be among them? -/
def satIn (t : Ty) (g : Int × Int) : Bool := ile (g.1 + (6 - (t.1 + g.1)) % 7) g.2
def okDayC (t : Ty) (pl : Int) (g : Int × Int) : Bool := (omerIn t g || omerOut t g) && (match monFor g (mons t) with
  | none => false
  | some m => allB (fun b => bif b && !satIn t g then true else isX (aboutP t m g b) (base.goL (vDay g (1, 9)) (memo (mDayOf t pl m g b)) (memoL (rowsE t pl)) 400 fDayOf [nP t g, iL pl])) bools)
/-- Twenty classes of them. -/
def okDayK (pl : Int) (t : Ty) (i : Nat) : Bool := allB (okDayC t pl) (((classes t pl).drop (20 * i)).take 20)
def okDays (pl : Int) (t : Ty) : Bool := allB (okDayC t pl) (classes t pl)
end
end Go.Proofs.YtnikgcedifdaeaaGreatDoor.Sab
end
