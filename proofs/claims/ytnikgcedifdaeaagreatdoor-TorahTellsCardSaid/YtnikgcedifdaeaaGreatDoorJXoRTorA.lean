/- Texts of the proof, joined by a program (of one law): contracts of functions, plain laws. -/
import Derived.Test.YtnikgcedifdaeaaGreatDoorJXoRefA
import Derived.Test.YtnikgcedifdaeaaGreatDoorJX9
import Derived.Test.YtnikgcedifdaeaaGreatDoorJXoRFeastK0
import Derived.Test.YtnikgcedifdaeaaGreatDoorJXoRFeastK2
import Derived.Test.YtnikgcedifdaeaaGreatDoorJXoRFreeK0
import Derived.Test.YtnikgcedifdaeaaGreatDoorJXoRFreeK2
import Derived.Test.YtnikgcedifdaeaaGreatDoorJXoRFreeK4
import Derived.Test.YtnikgcedifdaeaaGreatDoorJXoRFreeK6
import Derived.Test.YtnikgcedifdaeaaGreatDoorJX11
import Derived.Test.YtnikgcedifdaeaaGreatDoorJX10
import Derived.Test.YtnikgcedifdaeaaGreatDoorJX7
set_option linter.unusedVariables false
set_option linter.unusedSimpArgs false
set_option linter.unusedSectionVars false
section
/- The reference's rows: a cycle's Sabbaths, a year's feasts. -/
set_option linter.unusedVariables false
set_option linter.unusedSimpArgs false
namespace Go.Proofs.YtnikgcedifdaeaaGreatDoor.Sab
open Go Go.Proofs.YtnikgcedifdaeaaGreatDoor.Ab
set_option maxRecDepth 100000
set_option maxHeartbeats 0
noncomputable section
theorem two_places {q : Int → Bool} (h0 : q 0 = true) (h1 : q 1 = true) : allB q places = true := allB_cons h0 (allB_cons h1 allB_nil)
theorem two_drop {q : Ty × Ty → Int → Bool} {l : List (Ty × Ty)} (h0 : allB (fun p => q p 0) l = true) (h1 : allB (fun p => q p 1) l = true) : allB (fun p => allB (q p) places) l = true := by
  induction l with
  | nil => rfl
  | cons a r ih =>
    unfold allB at h0 h1
    cases e0 : q a 0 with
    | false => rw [e0] at h0; cases h0
    | true =>
      cases e1 : q a 1 with
      | false => rw [e1] at h1; cases h1
      | true =>
        rw [e0] at h0
        rw [e1] at h1
        exact allB_cons (two_places e0 e1) (ih h0 h1)
theorem rfeast_chk : allB (fun t => allB (okRFeast t) places) tyList = true :=
  allB_cons (two_places rfeast_chk_0_0 rfeast_chk_0_1) (allB_cons (two_places rfeast_chk_1_0 rfeast_chk_1_1) (allB_cons (two_places rfeast_chk_2_0 rfeast_chk_2_1) (allB_cons (two_places rfeast_chk_3_0 rfeast_chk_3_1) (allB_cons (two_places rfeast_chk_4_0 rfeast_chk_4_1) (allB_cons (two_places rfeast_chk_5_0 rfeast_chk_5_1) (allB_cons (two_places rfeast_chk_6_0 rfeast_chk_6_1) (allB_cons (two_places rfeast_chk_7_0 rfeast_chk_7_1) (allB_cons (two_places rfeast_chk_8_0 rfeast_chk_8_1) (allB_cons (two_places rfeast_chk_9_0 rfeast_chk_9_1) (allB_cons (two_places rfeast_chk_10_0 rfeast_chk_10_1) (allB_cons (two_places rfeast_chk_11_0 rfeast_chk_11_1) (allB_cons (two_places rfeast_chk_12_0 rfeast_chk_12_1) (allB_cons (two_places rfeast_chk_13_0 rfeast_chk_13_1) (allB_nil))))))))))))))
theorem rfree_chk : allB (fun p => allB (fun pl => okRFree p pl) places) pairsL = true := by
  have e : pairsL.drop 37 = [] := by decide +kernel
  have h : allB (fun p => allB (fun pl => okRFree p pl) places) (pairsL.drop 37) = true := by rw [e]; rfl
  have := allB_drop 0 (two_drop rfree_chk_0_0 rfree_chk_0_1) (allB_drop 1 (two_drop rfree_chk_1_0 rfree_chk_1_1) (allB_drop 2 (two_drop rfree_chk_2_0 rfree_chk_2_1) (allB_drop 3 (two_drop rfree_chk_3_0 rfree_chk_3_1) (allB_drop 4 (two_drop rfree_chk_4_0 rfree_chk_4_1) (allB_drop 5 (two_drop rfree_chk_5_0 rfree_chk_5_1) (allB_drop 6 (two_drop rfree_chk_6_0 rfree_chk_6_1) (allB_drop 7 (two_drop rfree_chk_7_0 rfree_chk_7_1) (allB_drop 8 (two_drop rfree_chk_8_0 rfree_chk_8_1) (allB_drop 9 (two_drop rfree_chk_9_0 rfree_chk_9_1) (allB_drop 10 (two_drop rfree_chk_10_0 rfree_chk_10_1) (allB_drop 11 (two_drop rfree_chk_11_0 rfree_chk_11_1) (allB_drop 12 (two_drop rfree_chk_12_0 rfree_chk_12_1) (allB_drop 13 (two_drop rfree_chk_13_0 rfree_chk_13_1) (allB_drop 14 (two_drop rfree_chk_14_0 rfree_chk_14_1) (allB_drop 15 (two_drop rfree_chk_15_0 rfree_chk_15_1) (allB_drop 16 (two_drop rfree_chk_16_0 rfree_chk_16_1) (allB_drop 17 (two_drop rfree_chk_17_0 rfree_chk_17_1) (allB_drop 18 (two_drop rfree_chk_18_0 rfree_chk_18_1) (allB_drop 19 (two_drop rfree_chk_19_0 rfree_chk_19_1) (allB_drop 20 (two_drop rfree_chk_20_0 rfree_chk_20_1) (allB_drop 21 (two_drop rfree_chk_21_0 rfree_chk_21_1) (allB_drop 22 (two_drop rfree_chk_22_0 rfree_chk_22_1) (allB_drop 23 (two_drop rfree_chk_23_0 rfree_chk_23_1) (allB_drop 24 (two_drop rfree_chk_24_0 rfree_chk_24_1) (allB_drop 25 (two_drop rfree_chk_25_0 rfree_chk_25_1) (allB_drop 26 (two_drop rfree_chk_26_0 rfree_chk_26_1) (allB_drop 27 (two_drop rfree_chk_27_0 rfree_chk_27_1) (allB_drop 28 (two_drop rfree_chk_28_0 rfree_chk_28_1) (allB_drop 29 (two_drop rfree_chk_29_0 rfree_chk_29_1) (allB_drop 30 (two_drop rfree_chk_30_0 rfree_chk_30_1) (allB_drop 31 (two_drop rfree_chk_31_0 rfree_chk_31_1) (allB_drop 32 (two_drop rfree_chk_32_0 rfree_chk_32_1) (allB_drop 33 (two_drop rfree_chk_33_0 rfree_chk_33_1) (allB_drop 34 (two_drop rfree_chk_34_0 rfree_chk_34_1) (allB_drop 35 (two_drop rfree_chk_35_0 rfree_chk_35_1) (allB_drop 36 (two_drop rfree_chk_36_0 rfree_chk_36_1) (h)))))))))))))))))))))))))))))))))))))
  simpa using this
theorem rall_chk : allB okRAll tyList = true := by kernel_rfl
theorem rnew_off : allB (fun t => zero (offD t 1 false 22 - 21) && zero (offD t 1 false 23 - 22)) tyList = true := by decide +kernel
theorem mREnds_ok {y : Int} {t : Ty} (h : YT y t) (h9 : y ≤ 9998) (l : List Int) : Memo.Ok base.P base.G (ry y l) (mREnds t) := by
  obtain ⟨u, hu⟩ := yt_of (y + 1) (by have := h.low; omega) (by omega)
  have hl := h.len
  have o := of_ty rnew_off h
  have o2 := of_ty rnew_off hu
  simp only [Bool.and_eq_true, zero_iff] at o o2
  refine .cons ((rday2_vc h (1, 22) (by decide)).ans rfl rfl ?_ ?_) (.cons ((rday2_vc h (1, 23) (by decide)).ans rfl rfl ?_ ?_) (.cons ((rday2_vc hu (1, 22) (by decide)).ans rfl rfl ?_ ?_) (.cons ((rday2_vc hu (1, 23) (by decide)).ans rfl rfl ?_ ?_) .nil)))
  all_goals simp [conc, conc1, conc0, den_y, den_f h, den_l]
  all_goals omega
theorem mRWk_ok {y : Int} {t : Ty} (h : YT y t) (h9 : y ≤ 9998) (l : List Int) (pl : Int) (hp : pl ∈ places) : Memo.Ok base.P base.G (ry y l) (mRWk t pl) := by
  intro e he
  obtain ⟨j, hj, rfl⟩ := List.mem_map.1 he
  obtain ⟨f0, f1⟩ := first_bd y h.low (by omega)
  have hw := h.wd
  have hj2 : 0 ≤ j ∧ j ≤ 6 := by
    simp only [seven, List.mem_cons, List.not_mem_nil, or_false] at hj
    omega
  have hpl : 0 ≤ pl ∧ pl ≤ 1 := by
    simp only [places, List.mem_cons, List.not_mem_nil, or_false] at hp
    omega
  have v := rweek_vc (Cal.first y + (23 - pl + j)) (by omega) (by omega)
  have e6 : (Cal.first y + (23 - pl + j)) % 7 = (t.1 + (23 - pl + j)) % 7 := by omega
  rw [e6] at v
  refine v.ans rfl rfl ?_ ?_
  · simp [conc1, conc0, den_f h]
  · simp [conc, conc1, conc0, den_l]
theorem rall_lvc {y : Int} {t : Ty} (h : YT y t) (h9 : y ≤ 9998) (pl : Int) (hp : pl ∈ places) : LVC base rAllF [iv y, iv pl] ((allOff t pl).map fun o => iv (Cal.first y + o)) 3 1 (allOff t pl).length (some 0) true := by
  have c := allB_get (show allB (fun pl => isLR (rowI t (allOff t pl)) base.A0.next (base.goL vCyc (memo (mREnds t ++ mRWk t pl)) noL 400 rAllF [yE 0, iL pl])) places = true from of_ty rall_chk h) pl hp
  have hx : allB pl0 (rowI t (allOff t pl)).cs = true := pl_row _ _
  have := (Base.lansB base_fit (vCyc_ok h.low h9) (OkO.memo (.append (mREnds_ok h h9 []) (mRWk_ok h h9 [] pl hp))) OkL.none c hx rfl).vc rfl hx
  simpa [rowI, conc1, conc0, den_y, den_f h, den_l, Function.comp_def] using this
theorem rfeast_lvc {y : Int} {t : Ty} (h : YT y t) (pl : Int) (hp : pl ∈ places) : LVC base rFeast [iv y, iv pl] (evVals (Cal.first y) (feasts t pl)) 60 2 (feasts t pl).length (some 0) true := by
  have c := allB_get (show allB (fun pl => isLR (rowEv t.1 (feasts t pl)) base.A0.next (base.goL vTy (memo (mRFeast t)) noL 400 rFeast [yE 0, iL pl])) places = true from of_ty rfeast_chk h) pl hp
  have hx : allB pl0 (rowEv t.1 (feasts t pl)).cs = true := pl_evs _ _
  have hM : Memo.Ok base.P base.G (ry y []) (mRFeast t) := by
    refine .cons ((ris_vc y (by have := h.low; omega) (by have := h.high; omega)).ans rfl rfl ?_ ?_) (mRDs_ok h [])
    · simp [conc1, conc0, den_y]
    · simp [conc, conc1, conc0, h.leap]
  have := (Base.lansB base_fit (vTy_ok h) (OkO.memo hM) OkL.none c hx rfl).vc rfl hx
  have e := evs_conc (ry y []) t.1 (Cal.first y) (feasts t pl) (fun o => den_f h o [])
  simp only [rowEv] at this
  rw [e] at this
  simpa [conc1, conc0, den_y, den_l] using this
theorem rfree_lvc {y : Int} {p : Ty × Ty} (h : YP y p) (h9 : y ≤ 9998) (pl : Int) (hp : pl ∈ places) : LVC base rFree [iv y, iv pl] ((freeOff p.1 pl).map fun o => iv (Cal.first y + o)) 3 1 (freeOff p.1 pl).length (some 0) true := by
  have c := allB_get (show allB (fun pl => okRFree p pl) places = true from of_pair rfree_chk h) pl hp
  have hx : allB pl0 (rowI p.1 (freeOff p.1 pl)).cs = true := pl_row _ _
  have hE : LMemo.Ok base.P base.G (ry y []) (mlRFree p pl) := by
    refine .cons ((rall_lvc h.a h9 pl hp).ans rfl (pl_row _ _) ?_ ?_) (.cons ((rfeast_lvc h.a pl hp).ans rfl (pl_evs _ _) ?_ ?_) (.cons ((rfeast_lvc h.b pl hp).ans rfl (pl_evs _ _) ?_ ?_) .nil))
    · simp [conc1, conc0, den_y, den_l]
    · simp [rowI, conc0, den_f h.a, Function.comp_def]
    · simp [conc1, conc0, den_y, den_l]
    · exact (evs_conc _ _ _ _ fun o => den_f h.a o []).symm
    · simp [conc1, conc0, den_y, den_l]
    · refine (evs_conc _ _ _ _ fun o => ?_).symm
      have := den_f h.a (tyLen p.1 + o) []
      rw [← Int.add_assoc] at this
      rw [this, h.a.len]
      omega
  have := (Base.lansB base_fit (vCyc_ok h.a.low h9) OkO.none (OkL.memo hE) c hx rfl).vc rfl hx
  simpa [rowI, conc1, conc0, den_y, den_f h.a, den_l, Function.comp_def] using this
end
end Go.Proofs.YtnikgcedifdaeaaGreatDoor.Sab
end

section
/- The reference's cycle of a day. -/
set_option linter.unusedVariables false
set_option linter.unusedSimpArgs false
namespace Go.Proofs.YtnikgcedifdaeaaGreatDoor.Sab
open Go Go.Proofs.YtnikgcedifdaeaaGreatDoor.Ab
set_option maxRecDepth 100000
set_option maxHeartbeats 0
noncomputable section
abbrev rCyc : Nat := 44
theorem rfrom_any {y : Int} {t : Ty} (h : YT y t) (o : Int) (o0 : 0 ≤ o) (o1 : o < tyLen t) : ∃ num d ad, 1 ≤ num ∧ num ≤ 12 ∧ 1 ≤ d ∧ d ≤ 30 ∧ VC base rFromDay [iv (Cal.first y + o)] (.tuple #[.agg #[iv y, iv num, .bool ad, iv d], iv 0]) := by
  have c2 := of_ty mons_num h
  simp only [Bool.and_eq_true, ile_iff] at c2
  have c := allB_get (of_ty mon_chk h) o (mem_daysN 390 o o0 (by simp; omega))
  cases hm : monOf o (mons t) with
  | none =>
    rw [hm] at c
    have : ile (tyLen t) o = false := by
      cases hb : ile (tyLen t) o with
      | false => rfl
      | true => rw [ile_iff] at hb; omega
    simp [this] at c
  | some m =>
    obtain ⟨h1, h2, h3⟩ := monOf_ok hm
    have b := allB_get (of_ty mons_len h) m h1
    have b2 := allB_get c2.1 m h1
    simp only [Bool.and_eq_true, ile_iff] at b b2
    have := rfrom_vc h m h1 (o - m.a) (by omega) (by omega)
    rw [show m.a + (o - m.a) = o by omega] at this
    exact ⟨_, _, _, b2.1, b2.2, by omega, by omega, this⟩
def mRCy (t : Ty) (ad : Bool) : Memo := [(rFromDay, [nO t], .tuple [.agg [yE 0, iE 0 [(3, 1)], bL ad, iE 0 [(4, 1)]], iL 0]), (rDay, [yE 0, iL 1, iL 22], dE (t.1 + offD t 1 false 22)), (rDay, [yE 0, iL 1, iL 23], dE (t.1 + offD t 1 false 23))]
def okRCy (t : Ty) : Bool := allB (fun pl => allB (fun ad => isR (.tuple [yE 0, iL 0]) (base.go ⟨[(1, 9998), (-400000, 400000), (23 - pl, 390), (1, 12), (1, 30)], [], []⟩ (memo (mRCy t ad)) 100 rCyc [nO t, iL pl]) && isR (.tuple [yE (-1), iL 0]) (base.go ⟨[(2, 9999), (-400000, 400000), (0, 22 - pl), (1, 12), (1, 30)], [], []⟩ (memo (mRCy t ad)) 100 rCyc [nO t, iL pl]) && allB (fun b => isR (.tuple [iL 0, iL 2]) (base.go (vCE pl b) (memo (mRCy t ad)) 100 rCyc [nO t, iL pl])) bools) bools) places
theorem rcy_chk : allB okRCy tyList = true := by kernel_rfl
theorem rcy_vc {y : Int} {t : Ty} (h : YT y t) (pl : Int) (hp : pl ∈ places) (o : Int) (o0 : 0 ≤ o) (o1 : o < tyLen t) :
    (23 - pl ≤ o → y ≤ 9998 → VC base rCyc [iv (Cal.first y + o), iv pl] (.tuple #[iv y, iv 0])) ∧ (o ≤ 22 - pl → 2 ≤ y → VC base rCyc [iv (Cal.first y + o), iv pl] (.tuple #[iv (y - 1), iv 0])) ∧
    (y = 1 ∧ o ≤ 22 - pl ∨ y = 9999 ∧ 23 - pl ≤ o → VC base rCyc [iv (Cal.first y + o), iv pl] (.tuple #[iv 0, iv 2])) := by
  obtain ⟨num, d, ad, n0, n1, d0, d1, v⟩ := rfrom_any h o o0 o1
  have h0 := h.low
  have h9 := h.high
  have hw := h.wd
  have c2 := of_ty mons_num h
  simp only [Bool.and_eq_true, ile_iff] at c2
  obtain ⟨f0, f1⟩ := first_bd y h0 (by omega)
  have dn : Lin.den (ry y [o, num, d]) ⟨t.1, [(1, 7), (2, 1)]⟩ = Cal.first y + o := by simp [Lin.den, denT, ry, rho]; omega
  have dnum : Lin.den (ry y [o, num, d]) ⟨0, [(3, 1)]⟩ = num := by simp [Lin.den, denT, ry, rho]
  have dd : Lin.den (ry y [o, num, d]) ⟨0, [(4, 1)]⟩ = d := by simp [Lin.den, denT, ry, rho]
  have hE : Memo.Ok base.P base.G (ry y [o, num, d]) (mRCy t ad) := by
    refine .cons (v.ans rfl rfl ?_ ?_) (.cons ((rday2_vc h (1, 22) (by decide)).ans rfl rfl ?_ ?_) (.cons ((rday2_vc h (1, 23) (by decide)).ans rfl rfl ?_ ?_) .nil))
    · simp [nO, conc1, conc0, dn]
    · simp [conc, conc1, conc0, den_y, den_l, dnum, dd]
    all_goals simp [conc, conc1, conc0, den_y, den_l, den_f h]
  have hb : ad ∈ bools := by cases ad <;> decide
  have c := allB_get (allB_get (show allB (fun pl => allB (fun ad => isR (.tuple [yE 0, iL 0]) (base.go ⟨[(1, 9998), (-400000, 400000), (23 - pl, 390), (1, 12), (1, 30)], [], []⟩ (memo (mRCy t ad)) 100 rCyc [nO t, iL pl]) && isR (.tuple [yE (-1), iL 0]) (base.go ⟨[(2, 9999), (-400000, 400000), (0, 22 - pl), (1, 12), (1, 30)], [], []⟩ (memo (mRCy t ad)) 100 rCyc [nO t, iL pl]) && allB (fun b => isR (.tuple [iL 0, iL 2]) (base.go (vCE pl b) (memo (mRCy t ad)) 100 rCyc [nO t, iL pl])) bools) bools) places = true from of_ty rcy_chk h) pl hp) ad hb
  rw [Bool.and_eq_true, Bool.and_eq_true] at c
  refine ⟨fun g0 g1 => ?_, fun g0 g1 => ?_, fun hy => ?_⟩
  · have := (Base.ansB (ρ := ry y [o, num, d]) base_fit (env_ok (inB_cons h0 g1 (inB_cons (by omega) (by omega) (inB_cons g0 (by omega) (inB_cons n0 n1 (inB_cons d0 d1 inB_nil))))) (by simp) (by simp)) (OkO.memo hE) c.1.1 rfl rfl).vc rfl rfl
    simpa [nO, conc, conc1, conc0, dn, den_y, den_l] using this
  · have := (Base.ansB (ρ := ry y [o, num, d]) base_fit (env_ok (inB_cons g1 h9 (inB_cons (by omega) (by omega) (inB_cons o0 g0 (inB_cons n0 n1 (inB_cons d0 d1 inB_nil))))) (by simp) (by simp)) (OkO.memo hE) c.1.2 rfl rfl).vc rfl rfl
    have e : y + -1 = y - 1 := by omega
    simpa [nO, conc, conc1, conc0, dn, den_y, den_l, e] using this
  · obtain ⟨b, hbb, hV⟩ : ∃ b, b ∈ bools ∧ (vCE pl b).Ok (ry y [o, num, d]) := by
      rcases hy with ⟨rfl, ho⟩ | ⟨rfl, ho⟩
      · exact ⟨false, by decide, env_ok (inB_cons (by decide) (by decide) (inB_cons (by omega) (by omega) (inB_cons (by omega) (by omega) (inB_cons n0 n1 (inB_cons d0 d1 inB_nil))))) (by simp [vCE]) (by simp [vCE])⟩
      · exact ⟨true, by decide, env_ok (inB_cons (by decide) (by decide) (inB_cons (by omega) (by omega) (inB_cons (by omega) (by omega) (inB_cons n0 n1 (inB_cons d0 d1 inB_nil))))) (by simp [vCE]) (by simp [vCE])⟩
    have := (Base.ansB base_fit hV (OkO.memo hE) (allB_get c.2 b hbb) rfl rfl).vc rfl rfl
    simpa [nO, conc, conc1, conc0, dn, den_l] using this
theorem rcyc_vc {y : Int} {t : Ty} (h : YT y t) (h9 : y ≤ 9998) (pl : Int) (hp : pl ∈ places) (o : Int) (o0 : 23 - pl ≤ o) (o1 : o ≤ tyLen t + (22 - pl)) : VC base rCyc [iv (Cal.first y + o), iv pl] (.tuple #[iv y, iv 0]) := by
  have hpl : 0 ≤ pl ∧ pl ≤ 1 := by
    simp only [places, List.mem_cons, List.not_mem_nil, or_false] at hp
    omega
  have h0 := h.low
  by_cases c : o < tyLen t
  · exact (rcy_vc h pl hp o (by omega) c).1 o0 h9
  · obtain ⟨u, hu⟩ := yt_of (y + 1) (by omega) (by omega)
    have l := of_ty long_pos hu
    rw [ile_iff] at l
    have := (rcy_vc hu pl hp (o - tyLen t) (by omega) (by omega)).2.1 (by omega) (by omega)
    rw [h.len, show Cal.first y + tyLen t + (o - tyLen t) = Cal.first y + o by omega, show y + 1 - 1 = y by omega] at this
    exact this
def mRCO : Memo := [(rFromDay, [nE], .tuple [.agg [iL 0, iL 0, bL false, iL 0], iL 2])]
def mCO : Memo := [(fFromDay, [nE], .tuple [.agg [iL 0, iL 0, bL false, iL 0], iL 2])]
theorem cyo_chk : allB (fun pl => (isR (.tuple [iL 0, iL 2]) (base.go vLow (memo mCO) 60 fCyc [nE, iL pl]) && isR (.tuple [iL 0, iL 2]) (base.go vHigh (memo mCO) 60 fCyc [nE, iL pl])) && (isR (.tuple [iL 0, iL 2]) (base.go vLow (memo mRCO) 60 rCyc [nE, iL pl]) && isR (.tuple [iL 0, iL 2]) (base.go vHigh (memo mRCO) 60 rCyc [nE, iL pl]))) places = true := by kernel_rfl
theorem cy_out {n : Int} (h : Outside n) (pl : Int) (hp : pl ∈ places) : VC base fCyc [iv n, iv pl] (.tuple #[iv 0, iv 2]) ∧ VC base rCyc [iv n, iv pl] (.tuple #[iv 0, iv 2]) := by
  have c := allB_get cyo_chk pl hp
  rw [Bool.and_eq_true] at c
  have hE : Memo.Ok base.P base.G (rho [n]) mCO := .cons ((from_out h).ans rfl rfl (by simp [conc1, conc0, den_n]) (by simp [conc, conc1, conc0, den_l])) .nil
  have hR : Memo.Ok base.P base.G (rho [n]) mRCO := .cons ((rfrom_out h).ans rfl rfl (by simp [conc1, conc0, den_n]) (by simp [conc, conc1, conc0, den_l])) .nil
  constructor
  · have := (out_ans h (OkO.memo hE) c.1 rfl rfl).vc rfl rfl
    simpa [conc, conc1, conc0, den_n, den_l] using this
  · have := (out_ans h (OkO.memo hR) c.2 rfl rfl).vc rfl rfl
    simpa [conc, conc1, conc0, den_n, den_l] using this
/-- No place. -/
def NoPlace (p : Int) : Prop := minI ≤ p ∧ p ≤ maxI ∧ (p < 0 ∨ 1 < p)
def vNP (b : Bool) : Ab.Env := ⟨[bif b then (2, maxI) else (minI, -1)], [], []⟩
theorem np_ok {p : Int} (h : NoPlace p) : ∃ b ∈ bools, ∀ l, (vNP b).Ok (rho (p :: l)) := by
  rcases h.2.2 with g | g
  · exact ⟨false, by decide, fun l => env_ok (inB_cons h.1 (by omega) inB_nil) (by simp [vNP]) (by simp [vNP])⟩
  · exact ⟨true, by decide, fun l => env_ok (inB_cons (by omega) h.2.1 inB_nil) (by simp [vNP]) (by simp [vNP])⟩
theorem cyp_chk : allB (fun b => isR (.tuple [iL 0, iL 1]) (base.go (vNP b) noO 60 fCyc [iE 0 [(1, 1)], nE]) && isR (.tuple [iL 0, iL 1]) (base.go (vNP b) noO 60 rCyc [iE 0 [(1, 1)], nE])) bools = true := by kernel_rfl
theorem cy_np {n p : Int} (h : NoPlace p) : VC base fCyc [iv n, iv p] (.tuple #[iv 0, iv 1]) ∧ VC base rCyc [iv n, iv p] (.tuple #[iv 0, iv 1]) := by
  obtain ⟨b, hb, hV⟩ := np_ok h
  have c := allB_get cyp_chk b hb
  rw [Bool.and_eq_true] at c
  constructor
  · have := (Base.ansB base_fit (hV [n]) OkO.none c.1 rfl rfl).vc rfl rfl
    simp [conc, conc1, conc0, den_l] at this
    simpa [Lin.den, denT, rho] using this
  · have := (Base.ansB base_fit (hV [n]) OkO.none c.2 rfl rfl).vc rfl rfl
    simp [conc, conc1, conc0, den_l] at this
    simpa [Lin.den, denT, rho] using this
end
end Go.Proofs.YtnikgcedifdaeaaGreatDoor.Sab
end

section
/- The reference's readings: what is to be checked. -/
set_option linter.unusedVariables false
set_option linter.unusedSimpArgs false
namespace Go.Proofs.YtnikgcedifdaeaaGreatDoor.Sab
open Go Go.Proofs.YtnikgcedifdaeaaGreatDoor.Ab
set_option maxRecDepth 100000
noncomputable section
abbrev rTorah : Nat := 9
abbrev rTOf : Nat := 11
def rowRo (t : Ty) (l : List (Int × Int × Int)) : LR := ⟨(l.map fun e => [iL e.1, iL e.2.1, dE (t.1 + e.2.2)]).flatten, 29, 3, l.length, some 0, true, none⟩
def mlRTor (t : Ty) (pl : Int) : LMemo := [(rAllF, [yE 0, iL pl], rowI t (allOff t pl)), (rFree, [yE 0, iL pl], rowI t (freeOff t pl))]
def mRPs (t : Ty) (l : List Int) : Memo := l.map fun o => (rPart, [yE 0, dE (t.1 + o)], .tuple [iL (partK t o), iL 0])
def mRTor (t : Ty) (pl : Int) : Memo := (rIs, [yE 0], bL t.2.2) :: mRPs t (freeOff t pl)
def okRTor (pl : Int) (t : Ty) : Bool := isLR (rowRo t (torahOff t pl)) base.A0.next (base.goL vCyc (memo (mRTor t pl)) (memoL (mlRTor t pl)) 400 rTorah [yE 0, iL pl])
def rowsR (t : Ty) (pl : Int) : LMemo := [(rTorah, [yE 0, iL pl], rowRo t (torahOff t pl))]
def okROfP (pl : Int) (t : Ty) : Bool := allB (fun e => isR (.tuple [.agg [iL e.1, iL e.2.1, dE (t.1 + e.2.2)], iL 0]) (base.goL vCyc (memo [(rCyc, [dE (t.1 + e.2.2), iL pl], .tuple [yE 0, iL 0]), (rWeek, [dE (t.1 + e.2.2)], iL 6)]) (memoL (rowsR t pl)) 400 rTOf [dE (t.1 + e.2.2), iL pl])) (torahOff t pl)
end
end Go.Proofs.YtnikgcedifdaeaaGreatDoor.Sab
end
