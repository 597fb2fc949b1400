/- Texts of the proof, joined by a program (part 8): contracts of functions, plain laws. -/
import Derived.Test.YtnikgcedifdaeaaGreatDoorJXFeastK0
import Derived.Test.YtnikgcedifdaeaaGreatDoorJXFeastK2
set_option linter.unusedVariables false
set_option linter.unusedSimpArgs false
set_option linter.unusedSectionVars false
section
/- A year's feasts as a row; the free Sabbaths, in plain words; what is to be checked. -/
set_option linter.unusedVariables false
set_option linter.unusedSimpArgs false
namespace Go.Proofs.YtnikgcedifdaeaaGreatDoor.Sab
open Go Go.Proofs.YtnikgcedifdaeaaGreatDoor.Ab
set_option maxRecDepth 100000
noncomputable section
abbrev fFree : Nat := 32
theorem feast_chk : allB okFeast tyList = true :=
  allB_cons feast_chk_0 (allB_cons feast_chk_1 (allB_cons feast_chk_2 (allB_cons feast_chk_3 (allB_cons feast_chk_4 (allB_cons feast_chk_5 (allB_cons feast_chk_6 (allB_cons feast_chk_7 (allB_cons feast_chk_8 (allB_cons feast_chk_9 (allB_cons feast_chk_10 (allB_cons feast_chk_11 (allB_cons feast_chk_12 (allB_cons feast_chk_13 allB_nil)))))))))))))
theorem pl_evs (c : Int) (l : List Ev) : allB pl0 ((l.map fun e => [iL e.2, dE (c + e.1)]).flatten) = true := by
  induction l with
  | nil => rfl
  | cons a r ih => exact ih
def evVals (f : Int) (l : List Ev) : List Value := (l.map fun e => [iv e.2, iv (f + e.1)]).flatten
theorem evs_conc (ρ : Nat → Int) (c f : Int) (l : List Ev) (h : ∀ o, Lin.den ρ ⟨c + o, [(1, 7)]⟩ = f + o) : ((l.map fun e => [iL e.2, dE (c + e.1)]).flatten).map (conc0 ρ) = evVals f l := by
  induction l with
  | nil => rfl
  | cons a r ih =>
    simp only [evVals, List.map_cons, List.flatten_cons, List.cons_append, List.nil_append, conc0, den_l, h]
    congr 2
theorem feast_lvc {y : Int} {t : Ty} (h : YT y t) (pl : Int) (hp : pl ∈ places) : LVC base fFeast [iv y, iv pl] (evVals (Cal.first y) (feasts t pl)) 60 2 (feasts t pl).length (some 0) true := by
  have hw := h.wd
  have c := allB_get (show allB (fun pl => isLR (rowEv t.1 (feasts t pl)) base.A0.next (base.goL vTy (memo (mDays t 0 t.1)) noL 400 fFeast [yE 0, iL pl])) places = true from of_ty feast_chk h) pl hp
  have hx : allB pl0 (rowEv t.1 (feasts t pl)).cs = true := pl_evs _ _
  have := (Base.lansB base_fit (vTy_ok h) (OkO.memo (mDays_ok (yo := 0) (c := t.1) (by simpa using h) (by simp; omega) [])) OkL.none c hx rfl).vc rfl hx
  have e := evs_conc (ry y []) t.1 (Cal.first y) (feasts t pl) (fun o => den_f h o [])
  simp only [rowEv] at this
  rw [e] at this
  simpa [conc1, conc0, den_y, den_l] using this
def restK (k : Int) : Bool := zero (k - 1) || (zero (k - 3) || (zero (k - 4) || (zero (k - 5) || (zero (k - 6) || (zero (k - 7) || (zero (k - 8) || (zero (k - 17) || (zero (k - 18) || zero (k - 25)))))))))
def elemI (o : Int) : List Int → Bool
  | [] => false
  | a :: r => bif zero (o - a) then true else elemI o r
def restDays (t : Ty) (pl : Int) : List Int := ((feasts t pl).filter fun e => restK e.2).map (·.1)
/-- The next year's, up to SimchatTorah. -/
def early (pl : Int) : List Int := [0, 1, 9, 14, 15, 16, 17, 18, 19, 20, 21] ++ (bif zero pl then [22] else [])
def freeOff (t : Ty) (pl : Int) : List Int :=
  let r := restDays t pl
  (allOff t pl).filter fun o => !(elemI o r || elemI (o - tyLen t) (early pl))
def mlFree (p : Ty × Ty) (pl : Int) : LMemo := [(fAll, [yE 0, iL pl], rowI p.1 (allOff p.1 pl)), (fFeast, [yE 0, iL pl], rowEv p.1.1 (feasts p.1 pl)), (fFeast, [yE 1, iL pl], rowEv (p.1.1 + tyLen p.1) (feasts p.2 pl))]
def okFree (p : Ty × Ty) : Bool := allB (fun pl => isLR (rowI p.1 (freeOff p.1 pl)) base.A0.next (base.goL vCyc noO (memoL (mlFree p pl)) 400 fFree [yE 0, iL pl])) places
end
end Go.Proofs.YtnikgcedifdaeaaGreatDoor.Sab
end
