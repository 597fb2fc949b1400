/- Texts of the proof, joined by a program (part 9): contracts of functions, plain laws. -/
import Derived.Test.YtnikgcedifdaeaaGreatDoorJRFreeK0
import Derived.Test.YtnikgcedifdaeaaGreatDoorJRFreeK1
import Derived.Test.YtnikgcedifdaeaaGreatDoorJRFreeK2
import Derived.Test.YtnikgcedifdaeaaGreatDoorJRFreeK3
import Derived.Test.YtnikgcedifdaeaaGreatDoorJR7
set_option linter.unusedVariables false
set_option linter.unusedSimpArgs false
set_option linter.unusedSectionVars false
section
/- The free Sabbaths as a row; the readings, in plain words; what is to be checked. -/
set_option linter.unusedVariables false
set_option linter.unusedSimpArgs false
namespace Go.Proofs.YtnikgcedifdaeaaGreatDoor.Sab
open Go Go.Proofs.YtnikgcedifdaeaaGreatDoor.Ab
set_option maxRecDepth 100000
noncomputable section
theorem allB_drop {α : Type} {p : α → Bool} {l : List α} (n : Nat) (h : allB p ((l.drop n).take 1) = true) (k : allB p (l.drop (n + 1)) = true) : allB p (l.drop n) = true :=
  allB_parts 1 h (by rw [List.drop_drop]; exact k)
theorem free_chk : allB okFree pairsL = true := by
  have e : pairsL.drop 37 = [] := by decide +kernel
  have h : allB okFree (pairsL.drop 37) = true := by rw [e]; rfl
  have := allB_drop 0 free_chk_0 (allB_drop 1 free_chk_1 (allB_drop 2 free_chk_2 (allB_drop 3 free_chk_3 (allB_drop 4 free_chk_4 (allB_drop 5 free_chk_5 (allB_drop 6 free_chk_6 (allB_drop 7 free_chk_7 (allB_drop 8 free_chk_8 (allB_drop 9 free_chk_9 (allB_drop 10 free_chk_10 (allB_drop 11 free_chk_11 (allB_drop 12 free_chk_12 (allB_drop 13 free_chk_13 (allB_drop 14 free_chk_14 (allB_drop 15 free_chk_15 (allB_drop 16 free_chk_16 (allB_drop 17 free_chk_17 (allB_drop 18 free_chk_18 (allB_drop 19 free_chk_19 (allB_drop 20 free_chk_20 (allB_drop 21 free_chk_21 (allB_drop 22 free_chk_22 (allB_drop 23 free_chk_23 (allB_drop 24 free_chk_24 (allB_drop 25 free_chk_25 (allB_drop 26 free_chk_26 (allB_drop 27 free_chk_27 (allB_drop 28 free_chk_28 (allB_drop 29 free_chk_29 (allB_drop 30 free_chk_30 (allB_drop 31 free_chk_31 (allB_drop 32 free_chk_32 (allB_drop 33 free_chk_33 (allB_drop 34 free_chk_34 (allB_drop 35 free_chk_35 (allB_drop 36 free_chk_36 (h)))))))))))))))))))))))))))))))))))))
  simpa using this
theorem free_lvc {y : Int} {p : Ty × Ty} (h : YP y p) (h9 : y ≤ 9998) (pl : Int) (hp : pl ∈ places) : LVC base fFree [iv y, iv pl] ((freeOff p.1 pl).map fun o => iv (Cal.first y + o)) 3 1 (freeOff p.1 pl).length (some 0) true := by
  have c := allB_get (show allB (fun pl => isLR (rowI p.1 (freeOff p.1 pl)) base.A0.next (base.goL vCyc noO (memoL (mlFree p pl)) 400 fFree [yE 0, iL pl])) places = true from of_pair free_chk h) pl hp
  have hx : allB pl0 (rowI p.1 (freeOff p.1 pl)).cs = true := pl_row _ _
  have hE : LMemo.Ok base.P base.G (ry y []) (mlFree p pl) := by
    refine .cons ((all_lvc h.a h9 pl hp).ans rfl (pl_row _ _) ?_ ?_) (.cons ((feast_lvc h.a pl hp).ans rfl (pl_evs _ _) ?_ ?_) (.cons ((feast_lvc h.b pl hp).ans rfl (pl_evs _ _) ?_ ?_) .nil))
    · simp [conc1, conc0, den_y, den_l]
    · simp [rowI, conc0, den_f h.a, Function.comp_def]
    · simp [conc1, conc0, den_y, den_l]
    · exact (evs_conc _ _ _ _ fun o => den_f h.a o []).symm
    · simp [conc1, conc0, den_y, den_l]
    · refine (evs_conc _ _ _ _ fun o => ?_).symm
      have := den_f h.a (tyLen p.1 + o) []
      rw [← Int.add_assoc] at this
      rw [this, h.a.len]
      omega
  have := (Base.lansB base_fit (vCyc_ok h.a.low h9) OkO.none (OkL.memo hE) c hx rfl).vc rfl hx
  simpa [rowI, conc1, conc0, den_y, den_f h.a, den_l, Function.comp_def] using this
abbrev fTorah : Nat := 8
def countP (t : Ty) (k : Int) : List Int → Int
  | [] => 0
  | o :: r => (bif zero (partK t o - k) then 1 else 0) + countP t k r
/-- The first portions of those that are read together. -/
def joined (few : Int) : List Int → List Int
  | [] => []
  | n :: r => bif ile 1 few then n :: joined (few - 1) r else []
def planOf (t : Ty) (l : List Int) : List Int :=
  let p1 := countP t 1 l
  let p2 := countP t 2 l
  let a := bif t.2.2 then [] else joined (25 - p1) [22] ++ joined (9 - p2) [27, 29, 32]
  let done := bif t.2.2 then p1 + p2 else 34
  a ++ joined (44 - done - countP t 3 l) [42, 39] ++ (bif zero (countP t 5 l - 1) then [51] else [])
/-- First, many, day. -/
def readings (plan free : List Int) : Int → List Int → List (Int × Int × Int)
  | _, [] => []
  | next, o :: r => bif elemI o free then (bif elemI next plan then (next, 2, o) :: readings plan free (next + 2) r else (next, 1, o) :: readings plan free (next + 1) r) else (0, 0, o) :: readings plan free next r
def torahOff (t : Ty) (pl : Int) : List (Int × Int × Int) := readings (planOf t (freeOff t pl)) (freeOff t pl) 1 (allOff t pl)
def rowR (t : Ty) (l : List (Int × Int × Int)) : LR := ⟨(l.map fun e => [iL e.1, iL e.2.1, dE (t.1 + e.2.2)]).flatten, 29, 3, l.length, some 0, false⟩
def mlTorah (t : Ty) (pl : Int) : LMemo := [(fAll, [yE 0, iL pl], rowI t (allOff t pl)), (fFree, [yE 0, iL pl], rowI t (freeOff t pl))]
def mParts (t : Ty) (l : List Int) : Memo := l.map fun o => (fPart, [yE 0, dE (t.1 + o)], .tuple [iL (partK t o), iL 0])
def mTorah (t : Ty) (pl : Int) : Memo := (fLeap, [yE 0], .tuple [bL t.2.2, iL 0]) :: mParts t (freeOff t pl)
def okTorah (t : Ty) : Bool := allB (fun pl => isLR (rowR t (torahOff t pl)) base.A0.next (base.goL vCyc (memo (mTorah t pl)) (memoL (mlTorah t pl)) 400 fTorah [yE 0, iL pl])) places
end
end Go.Proofs.YtnikgcedifdaeaaGreatDoor.Sab
end
