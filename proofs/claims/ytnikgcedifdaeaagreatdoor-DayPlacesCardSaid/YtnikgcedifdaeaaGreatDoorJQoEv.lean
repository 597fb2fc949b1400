/- Texts of the proof, joined by a program (of one law): contracts of functions, plain laws. -/
import Derived.Test.YtnikgcedifdaeaaGreatDoorJQoEvK0
import Derived.Test.YtnikgcedifdaeaaGreatDoorJQoEvK1
import Derived.Test.YtnikgcedifdaeaaGreatDoorJQoEvK2
import Derived.Test.YtnikgcedifdaeaaGreatDoorJQoEvK3
import Derived.Test.YtnikgcedifdaeaaGreatDoorJQ8
set_option linter.unusedVariables false
set_option linter.unusedSimpArgs false
set_option linter.unusedSectionVars false
section
/- All events of a year, as a row. -/
set_option linter.unusedVariables false
set_option linter.unusedSimpArgs false
namespace Go.Proofs.YtnikgcedifdaeaaGreatDoor.Sab
open Go Go.Proofs.YtnikgcedifdaeaaGreatDoor.Ab
set_option maxRecDepth 100000
noncomputable section
theorem evs_chk : allB okEvs tyList = true :=
  allB_cons evs_chk_0 (allB_cons evs_chk_1 (allB_cons evs_chk_2 (allB_cons evs_chk_3 (allB_cons evs_chk_4 (allB_cons evs_chk_5 (allB_cons evs_chk_6 (allB_cons evs_chk_7 (allB_cons evs_chk_8 (allB_cons evs_chk_9 (allB_cons evs_chk_10 (allB_cons evs_chk_11 (allB_cons evs_chk_12 (allB_cons evs_chk_13 allB_nil)))))))))))))
set_option maxHeartbeats 0
theorem fast_chk : allB okFast tyList = true := by kernel_rfl
theorem chod_chk : allB okChod tyList = true := by kernel_rfl
theorem spec_chk : allB okSpec tyList = true := by kernel_rfl
theorem ev1_lvc {f : Nat} {l : Ty → List Ev} (c : allB (fun t => isLR (rowEv t.1 (l t)) base.A0.next (base.goL vTy (orElse (memo (mOf t)) (orElse (oWeek vTy) (oSort vTy))) noL 400 f [yE 0])) tyList = true) {y : Int} {t : Ty} (h : YT y t) : LVC base f [iv y] (evVals (Cal.first y) (l t)) 60 2 (l t).length (some 0) true := by
  have hx : allB pl0 (rowEv t.1 (l t)).cs = true := pl_evs _ _
  have := (Base.lansB base_fit (vTy_ok h) (OkO.orElse (OkO.memo (mOf_ok h [])) (OkO.orElse (oWeek_ok (vTy_ok h)) (oSort_ok (vTy_ok h)))) OkL.none (allB_get c t h.mem) hx rfl).vc rfl hx
  have e := evs_conc (ry y []) t.1 (Cal.first y) (l t) (fun o => den_f h o [])
  simp only [rowEv] at this
  rw [e] at this
  simpa [conc1, conc0, den_y, den_l] using this
theorem fast_lvc {y : Int} {t : Ty} (h : YT y t) : LVC base fFast [iv y] (evVals (Cal.first y) (fasts t)) 60 2 (fasts t).length (some 0) true := ev1_lvc fast_chk h
theorem spec_lvc {y : Int} {t : Ty} (h : YT y t) : LVC base fSpec [iv y] (evVals (Cal.first y) (specs t)) 60 2 (specs t).length (some 0) true := ev1_lvc spec_chk h
theorem chod_lvc {y : Int} {t : Ty} (h : YT y t) : LVC base fChod [iv y] (evVals (Cal.first y) (chods t)) 60 2 (chods t).length (some 0) true := by
  have hx : allB pl0 (rowEv t.1 (chods t)).cs = true := pl_evs _ _
  have := (Base.lansB base_fit (vTy_ok h) (OkO.memo (mOf_ok h [])) OkL.none (of_ty chod_chk h) hx rfl).vc rfl hx
  have e := evs_conc (ry y []) t.1 (Cal.first y) (chods t) (fun o => den_f h o [])
  simp only [rowEv] at this
  rw [e] at this
  simpa [conc1, conc0, den_y, den_l] using this
theorem mlEv_ok {y : Int} {t : Ty} (h : YT y t) (l : List Int) (pl : Int) (hp : pl ∈ places) : LMemo.Ok base.P base.G (ry y l) (mlEv t pl) := by
  refine .cons ((feast_lvc h pl hp).ans rfl (pl_evs _ _) ?_ ?_) (.cons ((fast_lvc h).ans rfl (pl_evs _ _) ?_ ?_) (.cons ((chod_lvc h).ans rfl (pl_evs _ _) ?_ ?_) (.cons ((spec_lvc h).ans rfl (pl_evs _ _) ?_ ?_) .nil)))
  · simp [conc1, conc0, den_y, den_l]
  · exact (evs_conc _ _ _ _ fun o => den_f h o l).symm
  · simp [conc1, conc0, den_y]
  · exact (evs_conc _ _ _ _ fun o => den_f h o l).symm
  · simp [conc1, conc0, den_y]
  · exact (evs_conc _ _ _ _ fun o => den_f h o l).symm
  · simp [conc1, conc0, den_y]
  · exact (evs_conc _ _ _ _ fun o => den_f h o l).symm
/-- All events of a year. -/
theorem events_lvc {y : Int} {t : Ty} (h : YT y t) (pl : Int) (hp : pl ∈ places) : LVC base fEvents [iv y, iv pl] (evVals (Cal.first y) (evs t pl)) 60 2 (evs t pl).length (some 0) true := by
  have c := allB_get (show allB (fun pl => isLR (rowEv t.1 (evs t pl)) base.A0.next (base.goL vTy (oSort vTy) (memoL (mlEv t pl)) 2000 fEvents [yE 0, iL pl])) places = true from of_ty evs_chk h) pl hp
  have hx : allB pl0 (rowEv t.1 (evs t pl)).cs = true := pl_evs _ _
  have := (Base.lansB base_fit (vTy_ok h) (oSort_ok (vTy_ok h)) (OkL.memo (mlEv_ok h [] pl hp)) c hx rfl).vc rfl hx
  have e := evs_conc (ry y []) t.1 (Cal.first y) (evs t pl) (fun o => den_f h o [])
  simp only [rowEv] at this
  rw [e] at this
  simpa [conc1, conc0, den_y, den_l] using this
end
end Go.Proofs.YtnikgcedifdaeaaGreatDoor.Sab
end
