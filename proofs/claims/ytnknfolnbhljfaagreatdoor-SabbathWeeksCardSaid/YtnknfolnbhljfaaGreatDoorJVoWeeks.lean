/- Texts of the proof, joined by a program (of one law): contracts of functions, plain laws. -/
import Derived.Test.YtnknfolnbhljfaaGreatDoorJVoWeeksK0
import Derived.Test.YtnknfolnbhljfaaGreatDoorJVoWeeksK1
import Derived.Test.YtnknfolnbhljfaaGreatDoorJVoWeeksK2
import Derived.Test.YtnknfolnbhljfaaGreatDoorJVoWeeksK3
import Derived.Test.YtnknfolnbhljfaaGreatDoorJVoWeeksK4
import Derived.Test.YtnknfolnbhljfaaGreatDoorJVoWeeksK5
import Derived.Test.YtnknfolnbhljfaaGreatDoorJT8
set_option linter.unusedVariables false
set_option linter.unusedSimpArgs false
set_option linter.unusedSectionVars false
section
/- Sabbaths are weeks from one another: the law. -/
set_option linter.unusedVariables false
set_option linter.unusedSimpArgs false
namespace Go.Proofs.YtnknfolnbhljfaaGreatDoor.Sab
open Go Go.Proofs.YtnknfolnbhljfaaGreatDoor.Ab
set_option maxRecDepth 100000
set_option maxHeartbeats 0
noncomputable section
theorem weeks_chk : allB okWeek2 pairsL = true := by
  have e : pairsL.drop 37 = [] := by decide +kernel
  have h : allB okWeek2 (pairsL.drop 37) = true := by rw [e]; rfl
  have := allB_drop 0 weeks_chk_0 (allB_drop 1 weeks_chk_1 (allB_drop 2 weeks_chk_2 (allB_drop 3 weeks_chk_3 (allB_drop 4 weeks_chk_4 (allB_drop 5 weeks_chk_5 (allB_drop 6 weeks_chk_6 (allB_drop 7 weeks_chk_7 (allB_drop 8 weeks_chk_8 (allB_drop 9 weeks_chk_9 (allB_drop 10 weeks_chk_10 (allB_drop 11 weeks_chk_11 (allB_drop 12 weeks_chk_12 (allB_drop 13 weeks_chk_13 (allB_drop 14 weeks_chk_14 (allB_drop 15 weeks_chk_15 (allB_drop 16 weeks_chk_16 (allB_drop 17 weeks_chk_17 (allB_drop 18 weeks_chk_18 (allB_drop 19 weeks_chk_19 (allB_drop 20 weeks_chk_20 (allB_drop 21 weeks_chk_21 (allB_drop 22 weeks_chk_22 (allB_drop 23 weeks_chk_23 (allB_drop 24 weeks_chk_24 (allB_drop 25 weeks_chk_25 (allB_drop 26 weeks_chk_26 (allB_drop 27 weeks_chk_27 (allB_drop 28 weeks_chk_28 (allB_drop 29 weeks_chk_29 (allB_drop 30 weeks_chk_30 (allB_drop 31 weeks_chk_31 (allB_drop 32 weeks_chk_32 (allB_drop 33 weeks_chk_33 (allB_drop 34 weeks_chk_34 (allB_drop 35 weeks_chk_35 (allB_drop 36 weeks_chk_36 (h)))))))))))))))))))))))))))))))))))))
  simpa using this
theorem awake23_chk : isR (bL true) (base.go vNone noO 400 fAwake23 []) = true := by kernel_rfl
theorem awake23_vc : VC base fAwake23 [] (.bool true) := by
  have := (Base.ansB (V := vNone) (ρ := rho []) base_fit (env_ok inB_nil (by simp [vNone]) (by simp [vNone])) OkO.none awake23_chk rfl rfl).vc rfl rfl
  simpa [conc, conc1, conc0] using this
theorem sats_ok : allB (fun t => allB (fun pl => allB (fun o => zero ((t.1 + o) % 7 - 6) && (ile (23 - pl) o && ile o (tyLen t + (22 - pl)))) (allOff t pl)) places) tyList = true := by decide +kernel
theorem mWeeks_ok {y : Int} {t : Ty} (h : YT y t) (h9 : y ≤ 9998) (l : List Int) (pl : Int) (hp : pl ∈ places) : Memo.Ok base.P base.G (ry y l) (mWeeks t pl) := by
  have s := allB_get (of_ty sats_ok h) pl hp
  have hw := h.wd
  obtain ⟨f0, f1⟩ := first_bd y h.low (by omega)
  refine .append (.append (.cons (awake23_vc.ans rfl rfl rfl rfl) (.cons ((rof_vc h).ans rfl rfl ?_ ?_) .nil)) ?_) ?_
  · simp [conc1, conc0, den_y]
  · simp [ofR, conc, conc1, conc0, den_l]
  · intro e he
    obtain ⟨o, ho, rfl⟩ := List.mem_map.1 he
    have b := allB_get s o ho
    simp only [Bool.and_eq_true, ile_iff] at b
    refine (cyc_vc h h9 pl hp o b.2.1 b.2.2).ans rfl rfl ?_ ?_
    · simp [conc1, conc0, den_f h, den_l]
    · simp [conc, conc1, conc0, den_y, den_l]
  · intro e he
    obtain ⟨o, ho, rfl⟩ := List.mem_map.1 he
    have b := allB_get s o ho
    simp only [Bool.and_eq_true, ile_iff, zero_iff] at b
    have hb : -100 ≤ o ∧ o ≤ 500 := by
      have := of_ty mons_num h
      simp only [Bool.and_eq_true, ile_iff] at this
      have : pl = 0 ∨ pl = 1 := by simpa [places] using hp
      omega
    have e6 : (Cal.first y + o) % 7 = 6 := by omega
    have v := rweek_vc (Cal.first y + o) (by omega) (by omega)
    rw [e6] at v
    refine v.ans rfl rfl ?_ ?_
    · simp [conc1, conc0, den_f h]
    · simp [conc, conc1, conc0, den_l]
theorem weeks_law (a b : Int) (a0 : 0 ≤ a) (a1 : a ≤ 65535) (b0 : 0 ≤ b) (b1 : b ≤ 255) : VC base fWeeks [.int .u16 a, .int .u8 b] (.bool true) := by
  obtain ⟨k, hk⟩ : ∃ k, k = 1 + a % 9997 := ⟨_, rfl⟩
  obtain ⟨q, hq⟩ : ∃ q, q = a / 9997 := ⟨_, rfl⟩
  obtain ⟨m, hm⟩ : ∃ m, m = b / 2 := ⟨_, rfl⟩
  obtain ⟨pl, hpl⟩ : ∃ pl, pl = b % 2 := ⟨_, rfl⟩
  have hpp : pl ∈ places := by
    rcases (by omega : pl = 0 ∨ pl = 1) with h | h <;> rw [h] <;> decide
  obtain ⟨p, hp⟩ := yp_of k (by omega) (by omega)
  have h9 : k ≤ 9997 := by omega
  obtain ⟨f0, f1⟩ := first_bd k (by omega) (by omega)
  have hl := hp.a.len
  have c := allB_get (show allB (fun pl => isR (bL true) (base.goL vLaw23 (memo (mWeeks p.1 pl)) (memoL (mlWeeks p pl)) 400 fWeeks [arg23, argP23 pl])) places = true from of_pair weeks_chk hp) pl hpp
  have hL : LMemo.Ok base.P base.G (ry k [q, m]) (mlWeeks p pl) := by
    have hx : allB pl0 (rowN p pl).cs = true := pl_row _ _
    refine .cons ((all_lvc hp.a (by omega) pl hpp).ans rfl (pl_row _ _) ?_ ?_) (.cons (LVC.ans (x := rowN p pl) (all_lvc hp.b (by omega) pl hpp) rfl hx ?_ ?_) (.cons ((free_lvc hp (by omega) pl hpp).ans rfl (pl_row _ _) ?_ ?_) .nil))
    · simp [conc1, conc0, den_y, den_l]
    · simp [rowI, conc0, den_f hp.a, Function.comp_def]
    · simp [conc1, conc0, den_y, den_l]
    · simp only [rowN, List.map_map]
      refine List.map_congr_left fun o _ => ?_
      have := den_f hp.a (tyLen p.1 + o) [q, m]
      rw [← Int.add_assoc] at this
      simp only [Function.comp, conc0]
      rw [this, hl, Int.add_assoc]
    · simp [conc1, conc0, den_y, den_l]
    · simp [rowI, conc0, den_f hp.a, Function.comp_def]
  have hV : vLaw23.Ok (ry k [q, m]) := env_ok (inB_cons (by omega) h9 (inB_cons (by omega) (by omega) (inB_cons (by omega) (by omega) (inB_cons (by omega) (by omega) inB_nil)))) (by simp [vLaw23]) (by
    simp [vLaw23, Lin.den, denT, ry, rho]
    omega)
  have := (Base.ansL (ρ := ry k [q, m]) base_fit hV (OkO.memo (mWeeks_ok hp.a (by omega) _ pl hpp)) (OkL.memo hL) c rfl rfl).vc rfl rfl
  have e : -1 + (k + 9997 * q) = a := by omega
  have e2 : pl + 2 * m = b := by omega
  simpa [arg23, argP23, conc, conc1, conc0, Lin.den, denT, ry, rho, e, e2] using this
end
end Go.Proofs.YtnknfolnbhljfaaGreatDoor.Sab
end
