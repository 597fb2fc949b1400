/- Texts of the proof, joined by a program (of one law): contracts of functions, plain laws. -/
import Derived.Test.YtnikgcedifdaeaaGreatDoorJRoRefA
import Derived.Test.YtnikgcedifdaeaaGreatDoorJR9
import Derived.Test.YtnikgcedifdaeaaGreatDoorJRoRFeastK0
import Derived.Test.YtnikgcedifdaeaaGreatDoorJRoRFeastK1
import Derived.Test.YtnikgcedifdaeaaGreatDoorJRoRFeastK2
import Derived.Test.YtnikgcedifdaeaaGreatDoorJRoRFeastK3
import Derived.Test.YtnikgcedifdaeaaGreatDoorJRoRFreeK0
import Derived.Test.YtnikgcedifdaeaaGreatDoorJRoRFreeK1
import Derived.Test.YtnikgcedifdaeaaGreatDoorJRoRFreeK2
import Derived.Test.YtnikgcedifdaeaaGreatDoorJRoRFreeK3
import Derived.Test.YtnikgcedifdaeaaGreatDoorJRoRFreeK4
import Derived.Test.YtnikgcedifdaeaaGreatDoorJRoRFreeK5
import Derived.Test.YtnikgcedifdaeaaGreatDoorJRoRFreeK6
import Derived.Test.YtnikgcedifdaeaaGreatDoorJRoRFreeK7
set_option linter.unusedVariables false
set_option linter.unusedSimpArgs false
set_option linter.unusedSectionVars false
section
/- The reference's rows: a cycle's Sabbaths, a year's feasts. -/
set_option linter.unusedVariables false
set_option linter.unusedSimpArgs false
namespace Go.Proofs.YtnikgcedifdaeaaGreatDoor.Sab
open Go Go.Proofs.YtnikgcedifdaeaaGreatDoor.Ab
set_option maxRecDepth 100000
set_option maxHeartbeats 0
noncomputable section
theorem two_places {q : Int → Bool} (h0 : q 0 = true) (h1 : q 1 = true) : allB q places = true := allB_cons h0 (allB_cons h1 allB_nil)
theorem two_drop {q : Ty × Ty → Int → Bool} {l : List (Ty × Ty)} (h0 : allB (fun p => q p 0) l = true) (h1 : allB (fun p => q p 1) l = true) : allB (fun p => allB (q p) places) l = true := by
  induction l with
  | nil => rfl
  | cons a r ih =>
    unfold allB at h0 h1
    cases e0 : q a 0 with
    | false => rw [e0] at h0; cases h0
    | true =>
      cases e1 : q a 1 with
      | false => rw [e1] at h1; cases h1
      | true =>
        rw [e0] at h0
        rw [e1] at h1
        exact allB_cons (two_places e0 e1) (ih h0 h1)
theorem rfeast_chk : allB (fun t => allB (okRFeast t) places) tyList = true :=
  allB_cons (two_places rfeast_chk_0_0 rfeast_chk_0_1) (allB_cons (two_places rfeast_chk_1_0 rfeast_chk_1_1) (allB_cons (two_places rfeast_chk_2_0 rfeast_chk_2_1) (allB_cons (two_places rfeast_chk_3_0 rfeast_chk_3_1) (allB_cons (two_places rfeast_chk_4_0 rfeast_chk_4_1) (allB_cons (two_places rfeast_chk_5_0 rfeast_chk_5_1) (allB_cons (two_places rfeast_chk_6_0 rfeast_chk_6_1) (allB_cons (two_places rfeast_chk_7_0 rfeast_chk_7_1) (allB_cons (two_places rfeast_chk_8_0 rfeast_chk_8_1) (allB_cons (two_places rfeast_chk_9_0 rfeast_chk_9_1) (allB_cons (two_places rfeast_chk_10_0 rfeast_chk_10_1) (allB_cons (two_places rfeast_chk_11_0 rfeast_chk_11_1) (allB_cons (two_places rfeast_chk_12_0 rfeast_chk_12_1) (allB_cons (two_places rfeast_chk_13_0 rfeast_chk_13_1) (allB_nil))))))))))))))
theorem rfree_chk : allB (fun p => allB (fun pl => okRFree p pl) places) pairsL = true := by
  have e : pairsL.drop 37 = [] := by decide +kernel
  have h : allB (fun p => allB (fun pl => okRFree p pl) places) (pairsL.drop 37) = true := by rw [e]; rfl
  have := allB_drop 0 (two_drop rfree_chk_0_0 rfree_chk_0_1) (allB_drop 1 (two_drop rfree_chk_1_0 rfree_chk_1_1) (allB_drop 2 (two_drop rfree_chk_2_0 rfree_chk_2_1) (allB_drop 3 (two_drop rfree_chk_3_0 rfree_chk_3_1) (allB_drop 4 (two_drop rfree_chk_4_0 rfree_chk_4_1) (allB_drop 5 (two_drop rfree_chk_5_0 rfree_chk_5_1) (allB_drop 6 (two_drop rfree_chk_6_0 rfree_chk_6_1) (allB_drop 7 (two_drop rfree_chk_7_0 rfree_chk_7_1) (allB_drop 8 (two_drop rfree_chk_8_0 rfree_chk_8_1) (allB_drop 9 (two_drop rfree_chk_9_0 rfree_chk_9_1) (allB_drop 10 (two_drop rfree_chk_10_0 rfree_chk_10_1) (allB_drop 11 (two_drop rfree_chk_11_0 rfree_chk_11_1) (allB_drop 12 (two_drop rfree_chk_12_0 rfree_chk_12_1) (allB_drop 13 (two_drop rfree_chk_13_0 rfree_chk_13_1) (allB_drop 14 (two_drop rfree_chk_14_0 rfree_chk_14_1) (allB_drop 15 (two_drop rfree_chk_15_0 rfree_chk_15_1) (allB_drop 16 (two_drop rfree_chk_16_0 rfree_chk_16_1) (allB_drop 17 (two_drop rfree_chk_17_0 rfree_chk_17_1) (allB_drop 18 (two_drop rfree_chk_18_0 rfree_chk_18_1) (allB_drop 19 (two_drop rfree_chk_19_0 rfree_chk_19_1) (allB_drop 20 (two_drop rfree_chk_20_0 rfree_chk_20_1) (allB_drop 21 (two_drop rfree_chk_21_0 rfree_chk_21_1) (allB_drop 22 (two_drop rfree_chk_22_0 rfree_chk_22_1) (allB_drop 23 (two_drop rfree_chk_23_0 rfree_chk_23_1) (allB_drop 24 (two_drop rfree_chk_24_0 rfree_chk_24_1) (allB_drop 25 (two_drop rfree_chk_25_0 rfree_chk_25_1) (allB_drop 26 (two_drop rfree_chk_26_0 rfree_chk_26_1) (allB_drop 27 (two_drop rfree_chk_27_0 rfree_chk_27_1) (allB_drop 28 (two_drop rfree_chk_28_0 rfree_chk_28_1) (allB_drop 29 (two_drop rfree_chk_29_0 rfree_chk_29_1) (allB_drop 30 (two_drop rfree_chk_30_0 rfree_chk_30_1) (allB_drop 31 (two_drop rfree_chk_31_0 rfree_chk_31_1) (allB_drop 32 (two_drop rfree_chk_32_0 rfree_chk_32_1) (allB_drop 33 (two_drop rfree_chk_33_0 rfree_chk_33_1) (allB_drop 34 (two_drop rfree_chk_34_0 rfree_chk_34_1) (allB_drop 35 (two_drop rfree_chk_35_0 rfree_chk_35_1) (allB_drop 36 (two_drop rfree_chk_36_0 rfree_chk_36_1) (h)))))))))))))))))))))))))))))))))))))
  simpa using this
theorem rall_chk : allB okRAll tyList = true := by kernel_rfl
theorem rnew_off : allB (fun t => zero (offD t 1 false 22 - 21) && zero (offD t 1 false 23 - 22)) tyList = true := by decide +kernel
theorem mREnds_ok {y : Int} {t : Ty} (h : YT y t) (h9 : y ≤ 9998) (l : List Int) : Memo.Ok base.P base.G (ry y l) (mREnds t) := by
  obtain ⟨u, hu⟩ := yt_of (y + 1) (by have := h.low; omega) (by omega)
  have hl := h.len
  have o := of_ty rnew_off h
  have o2 := of_ty rnew_off hu
  simp only [Bool.and_eq_true, zero_iff] at o o2
  refine .cons ((rday2_vc h (1, 22) (by decide)).ans rfl rfl ?_ ?_) (.cons ((rday2_vc h (1, 23) (by decide)).ans rfl rfl ?_ ?_) (.cons ((rday2_vc hu (1, 22) (by decide)).ans rfl rfl ?_ ?_) (.cons ((rday2_vc hu (1, 23) (by decide)).ans rfl rfl ?_ ?_) .nil)))
  all_goals simp [conc, conc1, conc0, den_y, den_f h, den_l]
  all_goals omega
theorem mRWk_ok {y : Int} {t : Ty} (h : YT y t) (h9 : y ≤ 9998) (l : List Int) (pl : Int) (hp : pl ∈ places) : Memo.Ok base.P base.G (ry y l) (mRWk t pl) := by
  intro e he
  obtain ⟨j, hj, rfl⟩ := List.mem_map.1 he
  obtain ⟨f0, f1⟩ := first_bd y h.low (by omega)
  have hw := h.wd
  have hj2 : 0 ≤ j ∧ j ≤ 6 := by
    simp only [seven, List.mem_cons, List.not_mem_nil, or_false] at hj
    omega
  have hpl : 0 ≤ pl ∧ pl ≤ 1 := by
    simp only [places, List.mem_cons, List.not_mem_nil, or_false] at hp
    omega
  have v := rweek_vc (Cal.first y + (23 - pl + j)) (by omega) (by omega)
  have e6 : (Cal.first y + (23 - pl + j)) % 7 = (t.1 + (23 - pl + j)) % 7 := by omega
  rw [e6] at v
  refine v.ans rfl rfl ?_ ?_
  · simp [conc1, conc0, den_f h]
  · simp [conc, conc1, conc0, den_l]
theorem rall_lvc {y : Int} {t : Ty} (h : YT y t) (h9 : y ≤ 9998) (pl : Int) (hp : pl ∈ places) : LVC base rAllF [iv y, iv pl] ((allOff t pl).map fun o => iv (Cal.first y + o)) 3 1 (allOff t pl).length (some 0) true := by
  have c := allB_get (show allB (fun pl => isLR (rowI t (allOff t pl)) base.A0.next (base.goL vCyc (memo (mREnds t ++ mRWk t pl)) noL 400 rAllF [yE 0, iL pl])) places = true from of_ty rall_chk h) pl hp
  have hx : allB pl0 (rowI t (allOff t pl)).cs = true := pl_row _ _
  have := (Base.lansB base_fit (vCyc_ok h.low h9) (OkO.memo (.append (mREnds_ok h h9 []) (mRWk_ok h h9 [] pl hp))) OkL.none c hx rfl).vc rfl hx
  simpa [rowI, conc1, conc0, den_y, den_f h, den_l, Function.comp_def] using this
theorem rfeast_lvc {y : Int} {t : Ty} (h : YT y t) (pl : Int) (hp : pl ∈ places) : LVC base rFeast [iv y, iv pl] (evVals (Cal.first y) (feasts t pl)) 60 2 (feasts t pl).length (some 0) true := by
  have c := allB_get (show allB (fun pl => isLR (rowEv t.1 (feasts t pl)) base.A0.next (base.goL vTy (memo (mRFeast t)) noL 400 rFeast [yE 0, iL pl])) places = true from of_ty rfeast_chk h) pl hp
  have hx : allB pl0 (rowEv t.1 (feasts t pl)).cs = true := pl_evs _ _
  have hM : Memo.Ok base.P base.G (ry y []) (mRFeast t) := by
    refine .cons ((ris_vc y (by have := h.low; omega) (by have := h.high; omega)).ans rfl rfl ?_ ?_) (mRDs_ok h [])
    · simp [conc1, conc0, den_y]
    · simp [conc, conc1, conc0, h.leap]
  have := (Base.lansB base_fit (vTy_ok h) (OkO.memo hM) OkL.none c hx rfl).vc rfl hx
  have e := evs_conc (ry y []) t.1 (Cal.first y) (feasts t pl) (fun o => den_f h o [])
  simp only [rowEv] at this
  rw [e] at this
  simpa [conc1, conc0, den_y, den_l] using this
theorem rfree_lvc {y : Int} {p : Ty × Ty} (h : YP y p) (h9 : y ≤ 9998) (pl : Int) (hp : pl ∈ places) : LVC base rFree [iv y, iv pl] ((freeOff p.1 pl).map fun o => iv (Cal.first y + o)) 3 1 (freeOff p.1 pl).length (some 0) true := by
  have c := allB_get (show allB (fun pl => okRFree p pl) places = true from of_pair rfree_chk h) pl hp
  have hx : allB pl0 (rowI p.1 (freeOff p.1 pl)).cs = true := pl_row _ _
  have hE : LMemo.Ok base.P base.G (ry y []) (mlRFree p pl) := by
    refine .cons ((rall_lvc h.a h9 pl hp).ans rfl (pl_row _ _) ?_ ?_) (.cons ((rfeast_lvc h.a pl hp).ans rfl (pl_evs _ _) ?_ ?_) (.cons ((rfeast_lvc h.b pl hp).ans rfl (pl_evs _ _) ?_ ?_) .nil))
    · simp [conc1, conc0, den_y, den_l]
    · simp [rowI, conc0, den_f h.a, Function.comp_def]
    · simp [conc1, conc0, den_y, den_l]
    · exact (evs_conc _ _ _ _ fun o => den_f h.a o []).symm
    · simp [conc1, conc0, den_y, den_l]
    · refine (evs_conc _ _ _ _ fun o => ?_).symm
      have := den_f h.a (tyLen p.1 + o) []
      rw [← Int.add_assoc] at this
      rw [this, h.a.len]
      omega
  have := (Base.lansB base_fit (vCyc_ok h.a.low h9) OkO.none (OkL.memo hE) c hx rfl).vc rfl hx
  simpa [rowI, conc1, conc0, den_y, den_f h.a, den_l, Function.comp_def] using this
end
end Go.Proofs.YtnikgcedifdaeaaGreatDoor.Sab
end
