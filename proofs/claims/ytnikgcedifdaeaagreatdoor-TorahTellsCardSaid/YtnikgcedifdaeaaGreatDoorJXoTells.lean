/- Texts of the proof, joined by a program (of one law): contracts of functions, plain laws. -/
import Derived.Test.YtnikgcedifdaeaaGreatDoorJX7
import Derived.Test.YtnikgcedifdaeaaGreatDoorJXoTellsA
import Derived.Test.YtnikgcedifdaeaaGreatDoorJXoTellsK0
import Derived.Test.YtnikgcedifdaeaaGreatDoorJX11
set_option linter.unusedVariables false
set_option linter.unusedSimpArgs false
set_option linter.unusedSectionVars false
section
/- The laws about readings: what is to be checked. -/
set_option linter.unusedVariables false
set_option linter.unusedSimpArgs false
namespace Go.Proofs.YtnikgcedifdaeaaGreatDoor.Sab
open Go Go.Proofs.YtnikgcedifdaeaaGreatDoor.Ab
set_option maxRecDepth 100000
noncomputable section
end
end Go.Proofs.YtnikgcedifdaeaaGreatDoor.Sab
end

section
/- The laws about readings: what they rest on holds. -/
set_option linter.unusedVariables false
set_option linter.unusedSimpArgs false
namespace Go.Proofs.YtnikgcedifdaeaaGreatDoor.Sab
open Go Go.Proofs.YtnikgcedifdaeaaGreatDoor.Ab
set_option maxRecDepth 100000
noncomputable section
end
end Go.Proofs.YtnikgcedifdaeaaGreatDoor.Sab
end

section
/- Readings, names and pairs are the document's: the law. -/
set_option linter.unusedVariables false
set_option linter.unusedSimpArgs false
namespace Go.Proofs.YtnikgcedifdaeaaGreatDoor.Sab
open Go Go.Proofs.YtnikgcedifdaeaaGreatDoor.Ab
set_option maxRecDepth 100000
noncomputable section
theorem tl_chk_0 : allB (okTl 0) tyList = true :=
  allB_cons tl_chk_0_0 (allB_cons tl_chk_0_1 (allB_cons tl_chk_0_2 (allB_cons tl_chk_0_3 (allB_cons tl_chk_0_4 (allB_cons tl_chk_0_5 (allB_cons tl_chk_0_6 (allB_cons tl_chk_0_7 (allB_cons tl_chk_0_8 (allB_cons tl_chk_0_9 (allB_cons tl_chk_0_10 (allB_cons tl_chk_0_11 (allB_cons tl_chk_0_12 (allB_cons tl_chk_0_13 allB_nil)))))))))))))
theorem tl_chk_1 : allB (okTl 1) tyList = true :=
  allB_cons tl_chk_1_0 (allB_cons tl_chk_1_1 (allB_cons tl_chk_1_2 (allB_cons tl_chk_1_3 (allB_cons tl_chk_1_4 (allB_cons tl_chk_1_5 (allB_cons tl_chk_1_6 (allB_cons tl_chk_1_7 (allB_cons tl_chk_1_8 (allB_cons tl_chk_1_9 (allB_cons tl_chk_1_10 (allB_cons tl_chk_1_11 (allB_cons tl_chk_1_12 (allB_cons tl_chk_1_13 allB_nil)))))))))))))
theorem den_v (ρ : Nat → Int) (i : Nat) : Lin.den ρ ⟨0, [(i, 1)]⟩ = ρ i := by simp [Lin.den, denT]
theorem mTl_ok {ρ : Nat → Int} {p : Int} {s : ByteArray} {b : Bool} {pA : AV} (hp : conc1 ρ pA = iv p) (hl : pl1 pA = true) (hs : tokS (ρ 8) = s)
    (v1 : VC base fTOf [iv (ρ 2), iv p] (.tuple #[.agg #[iv (ρ 4), iv (ρ 5), iv (ρ 6)], iv (ρ 7)])) (v2 : VC base rTOf [iv (ρ 2), iv p] (.tuple #[.agg #[iv (ρ 4), iv (ρ 5), iv (ρ 6)], iv (ρ 7)]))
    (n1 : VC baseN fName [iv (ρ 3)] (.string s)) (n2 : VC baseN rName [iv (ρ 3)] (.string s)) (n3 : VC baseN fPairF [iv (ρ 3)] (.bool b)) (n4 : VC baseN rPairF [iv (ρ 3)] (.bool b)) : Memo.Ok baseN.P baseN.G ρ (mTl pA b) := by
  refine .cons (awake_vc.ans rfl rfl rfl rfl) (.cons (v1.toN.ans (allB2 rfl hl) rfl ?_ ?_) (.cons (v2.toN.ans (allB2 rfl hl) rfl ?_ ?_) (.cons (n1.ans rfl rfl ?_ ?_) (.cons (n2.ans rfl rfl ?_ ?_) (.cons (n3.ans rfl rfl ?_ ?_) (.cons (n4.ans rfl rfl ?_ ?_) .nil))))))
  · simp only [List.map_cons, List.map_nil, hp]
    simp [conc1, conc0, den_v]
  · simp [redT, conc, conc1, conc0, den_v]
  · simp only [List.map_cons, List.map_nil, hp]
    simp [conc1, conc0, den_v]
  · simp [redT, conc, conc1, conc0, den_v]
  · simp [conc1, conc0, den_v]
  · simp [conc, conc1, conc0, hs]
  · simp [conc1, conc0, den_v]
  · simp [conc, conc1, conc0, hs]
  · simp [conc1, conc0, den_v]
  · simp [conc, conc1, conc0]
  · simp [conc1, conc0, den_v]
  · simp [conc, conc1, conc0]
theorem lR_ok {y : Int} {p : Ty × Ty} (h : YP y p) (h9 : y ≤ 9998) (l : List Int) (pl : Int) (hp : pl ∈ places) : LMemo.Ok baseN.P baseN.G (ry y l) (rows1 p.1 pl ++ rowsR p.1 pl) := by
  have hx : allB pl0 (rowR p.1 (torahOff p.1 pl)).cs = true := pl_rds _ _
  have hx2 : allB pl0 (rowRo p.1 (torahOff p.1 pl)).cs = true := pl_rds _ _
  refine .cons (LVC.ans (x := rowR p.1 (torahOff p.1 pl)) (torah_lvc h h9 pl hp).toN rfl hx ?_ ?_) (.cons (LVC.ans (x := rowRo p.1 (torahOff p.1 pl)) (rtor_lvc h h9 pl hp).toN rfl hx2 ?_ ?_) .nil)
  · simp [conc1, conc0, den_y, den_l]
  · exact (rds_conc (ry y l) p.1.1 (Cal.first y) _ (fun o => den_f h.a o l)).symm
  · simp [conc1, conc0, den_y, den_l]
  · exact (rds_conc (ry y l) p.1.1 (Cal.first y) _ (fun o => den_f h.a o l)).symm
theorem tells_law (y p d n : Int) (y0 : minI ≤ y) (y1 : y ≤ maxI) (p0 : minI ≤ p) (p1 : p ≤ maxI) (d0 : minI ≤ d) (d1 : d ≤ maxI) (n0 : minI ≤ n) (n1 : n ≤ maxI) : VC baseN fTells [.agg #[iv y, iv p, iv d, iv n]] (.bool true) := by
  obtain ⟨r1, r2, r3, e, v1, v2⟩ := both_of d p d0 d1 p0 p1
  obtain ⟨s, b, ⟨k1, k2⟩, k3, k4⟩ := names_both n n0 n1
  have hb : b ∈ bools := by cases b <;> decide
  have hs := tok_num s
  have err : ∀ (pA : AV) (q : Int) (x : Int), pA ∈ [iE 0 [(1, 1)], iL 0, iL 1] → x ∈ errs → conc1 (rho [y, q, d, n, r1, r2, r3, e, numS s]) pA = iv p → pl1 pA = true → VC base fTorah [iv y, iv p] (nilV x) → VC base rTorah [iv y, iv p] (nilV x) → VC baseN fTells [.agg #[iv y, iv p, iv d, iv n]] (.bool true) := by
    intro pA q x hpA hx hc hl w1 w2
    have c := allB_get (allB_get (allB_get tle_chk b hb) x hx) pA hpA
    have hV : vAny.Ok (rho [y, q, d, n, r1, r2, r3, e, numS s]) := env_ok inB_nil (by simp [vAny]) (by simp [vAny])
    have hE : Memo.Ok baseN.P baseN.G (rho [y, q, d, n, r1, r2, r3, e, numS s]) (mTlE pA b x) := by
      refine .cons (w1.toN.ans (allB2 rfl hl) rfl ?_ ?_) (.cons (w2.toN.ans (allB2 rfl hl) rfl ?_ ?_) (mTl_ok hc hl hs v1 v2 k1 k2 k3 k4))
      · simp only [List.map_cons, List.map_nil, hc]
        simp [conc1, conc0, den_n]
      · simp [nilE, nilV, conc, conc1, conc0, den_l]
      · simp only [List.map_cons, List.map_nil, hc]
        simp [conc1, conc0, den_n]
      · simp [nilE, nilV, conc, conc1, conc0, den_l]
    have hq : pl0 pA = true := by
      simp only [List.mem_cons, List.not_mem_nil, or_false] at hpA
      rcases hpA with rfl | rfl | rfl <;> rfl
    have hc0 : conc0 (rho [y, q, d, n, r1, r2, r3, e, numS s]) pA = iv p := by rw [← conc01 hq]; exact hc
    have ha : allB pl1 [askA nE pA] = true := allB1 (allB_cons rfl (allB_cons hq (allB_cons rfl (allB_cons rfl allB_nil))))
    have := (Base.ansB baseN_fit hV (OkO.memo hE) c rfl ha).vc ha rfl
    have ea : [askA nE pA].map (conc1 (rho [y, q, d, n, r1, r2, r3, e, numS s])) = [.agg #[iv y, iv p, iv d, iv n]] := by
      show [Value.agg ([nE, pA, iE 0 [(2, 1)], iE 0 [(3, 1)]].map (conc0 _)).toArray] = _
      simp only [List.map_cons, List.map_nil, hc0]
      simp [conc0, den_v, rho]
    rw [ea] at this
    simpa [conc, conc1, conc0] using this
  by_cases hp : p = 0 ∨ p = 1
  rotate_left
  · have h : NoPlace p := ⟨p0, p1, by omega⟩
    exact err (iE 0 [(1, 1)]) p 1 (by simp) (by decide) (by simp [conc1, conc0, den_v, rho]) rfl (cyc_np h).1 (cyc_np h).2
  have hpp : p ∈ places := by rcases hp with rfl | rfl <;> decide
  by_cases hy : 1 ≤ y ∧ y ≤ 9998
  rotate_left
  · have c := cyc_ny y0 y1 (by omega) p hpp
    rcases hp with rfl | rfl
    · exact err (iL 0) 0 2 (by simp) (by decide) (by simp [conc1, conc0, den_l]) rfl c.1 c.2
    · exact err (iL 1) 0 2 (by simp) (by decide) (by simp [conc1, conc0, den_l]) rfl c.1 c.2
  obtain ⟨q, hq⟩ := yp_of y hy.1 hy.2
  have ht : okTl p q.1 = true := two_pl tl_chk_0 tl_chk_1 hpp hq.a.mem
  have c := allB_get (show allB (fun b => isR (bL true) (baseN.goL vTl (memo (mTl (iL p) b)) (memoL (rows1 q.1 p ++ rowsR q.1 p)) 400 fTells [askA (yE 0) (iL p)])) bools = true from ht) b hb
  obtain ⟨f0, f1⟩ := first_bd y hy.1 (by omega)
  have hV : vTl.Ok (ry y [d, n, r1, r2, r3, e, numS s]) := env_ok (inB_cons hy.1 hy.2 (inB_cons (by omega) (by omega) inB_nil)) (by simp [vTl]) (by simp [vTl])
  have hE : Memo.Ok baseN.P baseN.G (ry y [d, n, r1, r2, r3, e, numS s]) (mTl (iL p) b) := mTl_ok (by simp [conc1, conc0, den_l]) rfl hs v1 v2 k1 k2 k3 k4
  have := (Base.ansL baseN_fit hV (OkO.memo hE) (OkL.memo (lR_ok hq hy.2 _ p hpp)) c rfl rfl).vc rfl rfl
  have ea : [askA (yE 0) (iL p)].map (conc1 (ry y [d, n, r1, r2, r3, e, numS s])) = [.agg #[iv y, iv p, iv d, iv n]] := by
    show [Value.agg ([yE 0, iL p, iE 0 [(2, 1)], iE 0 [(3, 1)]].map (conc0 _)).toArray] = _
    simp [conc0, den_y, den_l, den_v, ry, rho]
  rw [ea] at this
  simpa [conc, conc1, conc0] using this
end
end Go.Proofs.YtnikgcedifdaeaaGreatDoor.Sab
end
