/- Texts of the proof, joined by a program (of one law): contracts of functions, plain laws. -/
import Derived.Test.YtnikgcedifdaeaaGreatDoorJX7
import Derived.Test.YtnikgcedifdaeaaGreatDoorJX8
set_option linter.unusedVariables false
set_option linter.unusedSimpArgs false
set_option linter.unusedSectionVars false
section
/- The reference's days of a year's feasts; a cycle's Sabbaths by the reference. -/
set_option linter.unusedVariables false
set_option linter.unusedSimpArgs false
namespace Go.Proofs.YtnikgcedifdaeaaGreatDoor.Sab
open Go Go.Proofs.YtnikgcedifdaeaaGreatDoor.Ab
set_option maxRecDepth 100000
set_option maxHeartbeats 0
noncomputable section
def rNums2 : List Nat := [1, 3, 5, 6, 7, 8, 9, 11]
theorem rplace2_chk : allB (fun lp => allB (fun n => isR (.tuple [iL (mNo lp n), bL true]) (base.go vNil noO 200 rPlaceF [bL lp, codeA n])) rNums2) bools = true := by kernel_rfl
theorem rahead2_chk : allB (fun t => allB (fun n => isR (iL (offD t n false 1)) (base.goL vNil (memo (mNum t)) (memoL (mLen t)) 200 rAhead [tyA t, iL (mNo t.2.2 n)])) rNums2) tyList = true := by kernel_rfl
theorem rdays2_chk : allB (fun t => allB (fun n => isR (iL (dayN t n)) (base.goL vNil (memo (mNum t)) (memoL (mLen t)) 200 rDaysF [tyA t, iL (mNo t.2.2 n)])) rNums2) tyList = true := by kernel_rfl
def mCode2 (t : Ty) : Memo := (rNums2.map fun n => (rPlaceF, [bL t.2.2, codeA n], .tuple [iL (mNo t.2.2 n), bL true])) ++ (rNums2.map fun n => (rAhead, [tyA t, iL (mNo t.2.2 n)], iL (offD t n false 1))) ++ (rNums2.map fun n => (rDaysF, [tyA t, iL (mNo t.2.2 n)], iL (dayN t n)))
theorem mCode2_ok {y : Int} {t : Ty} (h : YT y t) (l : List Int) : Memo.Ok base.P base.G (ry y l) (mCode2 t) := by
  have hL : LMemo.Ok base.P base.G (rho []) (mLen t) := by
    have hx : allB pl0 (lenRow t).cs = true := pl_ints _
    have c := of_ty rlen_chk h
    exact .cons (Base.lansB base_fit vNil_ok OkO.none OkL.none c hx rfl) .nil
  have hN : Memo.Ok base.P base.G (rho []) (mNum t) := .cons (Base.ansB base_fit vNil_ok OkO.none (of_ty rnum_chk h) rfl rfl) .nil
  have hb : t.2.2 ∈ bools := by cases t.2.2 <;> decide
  refine .append (.append ?_ ?_) ?_
  all_goals
    intro e he
    obtain ⟨n, hn, rfl⟩ := List.mem_map.1 he
  · have := (Base.ansB base_fit vNil_ok OkO.none (allB_get (allB_get rplace2_chk _ hb) n hn) rfl rfl).vc rfl rfl
    refine this.ans rfl rfl ?_ ?_
    · simp [codeA, conc1, conc0, den_l]
    · simp [conc, conc1, conc0, den_l]
  · have := (Base.ansL base_fit vNil_ok (OkO.memo hN) (OkL.memo hL) (allB_get (of_ty rahead2_chk h) n hn) rfl rfl).vc rfl rfl
    refine this.ans rfl rfl ?_ ?_
    · simp [tyA, conc1, conc0, den_l]
    · simp [conc, conc1, conc0, den_l]
  · have := (Base.ansL base_fit vNil_ok (OkO.memo hN) (OkL.memo hL) (allB_get (of_ty rdays2_chk h) n hn) rfl rfl).vc rfl rfl
    refine this.ans rfl rfl ?_ ?_
    · simp [tyA, conc1, conc0, den_l]
    · simp [conc, conc1, conc0, den_l]
def mRDay2 (t : Ty) : Memo := mROf t ++ mCode2 t
def okRDay (l : List (Nat × Int)) : Bool := allB (fun t => allB (fun x => isR (dE (t.1 + offD t x.1 false x.2)) (base.go vTy (memo (mRDay2 t)) 200 rDay [yE 0, iL (Int.ofNat x.1), iL x.2])) l) tyList
def rDsA : List (Nat × Int) := [(1, 1), (1, 2), (1, 10), (1, 15), (1, 16), (1, 17), (1, 18), (1, 19), (1, 20)]
def rDsB : List (Nat × Int) := [(1, 21), (1, 22), (1, 23), (3, 25), (5, 15), (5, 30), (6, 14), (6, 15)]
def rDsC : List (Nat × Int) := [(7, 15), (7, 16), (7, 17), (7, 18), (7, 19), (7, 20), (7, 21), (7, 22)]
def rDsD : List (Nat × Int) := [(8, 14), (8, 18), (9, 6), (9, 7), (11, 15)]
def rDs : List (Nat × Int) := rDsA ++ rDsB ++ rDsC ++ rDsD
theorem rdaysA_chk : okRDay rDsA = true := by kernel_rfl
theorem rdaysB_chk : okRDay rDsB = true := by kernel_rfl
theorem rdaysC_chk : okRDay rDsC = true := by kernel_rfl
theorem rdaysD_chk : okRDay rDsD = true := by kernel_rfl
theorem rday2_vc {y : Int} {t : Ty} (h : YT y t) (x : Nat × Int) (hx : x ∈ rDs) : VC base rDay [iv y, iv x.1, iv x.2] (iv (Cal.first y + offD t x.1 false x.2)) := by
  have c : isR (dE (t.1 + offD t x.1 false x.2)) (base.go vTy (memo (mRDay2 t)) 200 rDay [yE 0, iL (Int.ofNat x.1), iL x.2]) = true := by
    rcases List.mem_append.1 hx with hx | hx
    · rcases List.mem_append.1 hx with hx | hx
      · rcases List.mem_append.1 hx with hx | hx
        · exact allB_get (of_ty rdaysA_chk h) x hx
        · exact allB_get (of_ty rdaysB_chk h) x hx
      · exact allB_get (of_ty rdaysC_chk h) x hx
    · exact allB_get (of_ty rdaysD_chk h) x hx
  have := (Base.ansB base_fit (vTy_ok h) (OkO.memo (Memo.Ok.append (mROf_ok h []) (mCode2_ok h []))) c rfl rfl).vc rfl rfl
  simpa [conc, conc1, conc0, den_y, den_f h, den_l] using this
def mRDs (t : Ty) : Memo := rDs.map fun x => (rDay, [yE 0, iL (Int.ofNat x.1), iL x.2], dE (t.1 + offD t x.1 false x.2))
theorem mRDs_ok {y : Int} {t : Ty} (h : YT y t) (l : List Int) : Memo.Ok base.P base.G (ry y l) (mRDs t) := by
  intro e he
  obtain ⟨x, hx, rfl⟩ := List.mem_map.1 he
  refine (rday2_vc h x hx).ans rfl rfl ?_ ?_
  · simp [conc1, conc0, den_y, den_l]
  · simp [conc, conc1, conc0, den_f h]
end
end Go.Proofs.YtnikgcedifdaeaaGreatDoor.Sab
end

section
/- The reference's rows: a cycle's Sabbaths, a year's feasts, the free ones: what is to be checked. -/
set_option linter.unusedVariables false
set_option linter.unusedSimpArgs false
namespace Go.Proofs.YtnikgcedifdaeaaGreatDoor.Sab
open Go Go.Proofs.YtnikgcedifdaeaaGreatDoor.Ab
set_option maxRecDepth 100000
set_option maxHeartbeats 0
noncomputable section
abbrev rAllF : Nat := 19
abbrev rFeast : Nat := 45
abbrev rFree : Nat := 18
def mREnds (t : Ty) : Memo := [(rDay, [yE 0, iL 1, iL 22], dE (t.1 + 21)), (rDay, [yE 0, iL 1, iL 23], dE (t.1 + 22)), (rDay, [yE 1, iL 1, iL 22], dE (t.1 + (tyLen t + 21))), (rDay, [yE 1, iL 1, iL 23], dE (t.1 + (tyLen t + 22)))]
def mRWk (t : Ty) (pl : Int) : Memo := seven.map fun j => (rWeek, [dE (t.1 + (23 - pl + j))], iL ((t.1 + (23 - pl + j)) % 7))
def okRAll (t : Ty) : Bool := allB (fun pl => isLR (rowI t (allOff t pl)) base.A0.next (base.goL vCyc (memo (mREnds t ++ mRWk t pl)) noL 400 rAllF [yE 0, iL pl])) places
def mRFeast (t : Ty) : Memo := (rIs, [yE 0], bL t.2.2) :: mRDs t
def okRFeast (t : Ty) (pl : Int) : Bool := isLR (rowEv t.1 (feasts t pl)) base.A0.next (base.goL vTy (memo (mRFeast t)) noL 400 rFeast [yE 0, iL pl])
def mlRFree (p : Ty × Ty) (pl : Int) : LMemo := [(rAllF, [yE 0, iL pl], rowI p.1 (allOff p.1 pl)), (rFeast, [yE 0, iL pl], rowEv p.1.1 (feasts p.1 pl)), (rFeast, [yE 1, iL pl], rowEv (p.1.1 + tyLen p.1) (feasts p.2 pl))]
def okRFree (p : Ty × Ty) (pl : Int) : Bool := isLR (rowI p.1 (freeOff p.1 pl)) base.A0.next (base.goL vCyc noO (memoL (mlRFree p pl)) 400 rFree [yE 0, iL pl])
end
end Go.Proofs.YtnikgcedifdaeaaGreatDoor.Sab
end
