/- Texts of the proof, joined by a program (part 1): contracts of functions, plain laws. -/
import Derived.Test.YtnknfolnbhljfaaGreatDoorJT6
import Derived.Test.YtnknfolnbhljfaaGreatDoorJT8
import Derived.Test.YtnknfolnbhljfaaGreatDoorJT9
set_option linter.unusedVariables false
set_option linter.unusedSimpArgs false
set_option linter.unusedSectionVars false
section
/- The reference's calendar: what it answers is the same. -/
set_option linter.unusedVariables false
set_option linter.unusedSimpArgs false
namespace Go.Proofs.YtnknfolnbhljfaaGreatDoor.Sab
open Go Go.Proofs.YtnknfolnbhljfaaGreatDoor.Ab
set_option maxRecDepth 100000
noncomputable section
abbrev rWeek : Nat := 12
abbrev rIs : Nat := 28
abbrev rBefore : Nat := 118
abbrev rFirst : Nat := 37
abbrev rOf : Nat := 13
abbrev rDay : Nat := 29
set_option maxHeartbeats 0
theorem rweek_pos : allB (fun c => isR (iL c) (base.go vPos noO 60 rWeek [iE c [(0, 7)]])) seven = true := by kernel_rfl
theorem rweek_neg : allB (fun c => isR (iL c) (base.go vNeg noO 60 rWeek [iE c [(0, 7)]])) seven = true := by kernel_rfl
theorem rweek_vc (a : Int) (h0 : -1152921504606846976 ≤ a) (h1 : a ≤ 1152921504606846976) : VC base rWeek [iv a] (iv (a % 7)) := by
  have e : Lin.den (rho [a / 7]) ⟨a % 7, [(0, 7)]⟩ = a := by simp [Lin.den, denT, rho]; omega
  have r : Ans base.P base.G (rho [a / 7]) rWeek [iE (a % 7) [(0, 7)]] (iL (a % 7)) := by
    by_cases hs : 0 ≤ a / 7
    · exact Base.ansB (V := vPos) base_fit (env_ok (inB_cons hs (by omega) inB_nil) (by simp) (by simp)) OkO.none (of_seven rweek_pos _ (by omega) (by omega)) rfl rfl
    · exact Base.ansB (V := vNeg) base_fit (env_ok (inB_cons (by omega) (by omega) inB_nil) (by simp) (by simp)) OkO.none (of_seven rweek_neg _ (by omega) (by omega)) rfl rfl
  have := r.vc rfl rfl
  simpa [conc1, conc0, conc, e] using this
def vIs : Env := ⟨[(0, 526)], [], []⟩
theorem ris_chk : allB (fun c => isR (bL (ile ((7 * c + 1) % 19) 6)) (base.go vIs noO 60 rIs [iE c [(0, 19)]])) nineteen = true := by kernel_rfl
theorem ris_vc (y : Int) (h0 : 0 ≤ y) (h1 : y ≤ 10001) : VC base rIs [iv y] (.bool (Cal.leap y)) := by
  have e : Lin.den (rho [y / 19]) ⟨y % 19, [(0, 19)]⟩ = y := by simp [Lin.den, denT, rho]; omega
  have el : ile ((7 * (y % 19) + 1) % 19) 6 = Cal.leap y := by
    unfold Cal.leap
    rw [Bool.eq_iff_iff, ile_iff, decide_eq_true_iff, show 7 * y + 1 = 7 * (y % 19) + 1 + 19 * (7 * (y / 19)) by omega, Int.add_mul_emod_self_left]
    generalize (7 * (y % 19) + 1) % 19 = z
    omega
  have r := Base.ansB (B := base) (V := vIs) (ρ := rho [y / 19]) base_fit (env_ok (inB_cons (by omega) (by omega) inB_nil) (by simp) (by simp)) OkO.none (of_nineteen ris_chk (y % 19) (by omega) (by omega)) rfl rfl
  have := r.vc rfl rfl
  simpa [conc1, conc0, conc, e, el] using this
theorem rbefore_chk : isR (.tuple [iE 0 [(1, 1)], iL 0]) (base.go vBefore noO 60 rBefore [iE 0 [(0, 1)]]) = true := by kernel_rfl
theorem rbefore_vc (y : Int) (h0 : 1 ≤ y) (h1 : y ≤ 10001) : VC base rBefore [iv y] (.tuple #[iv (Cal.before y), iv 0]) := by
  obtain ⟨b0, b1⟩ := before_bd h0 h1
  have hb : Cal.before y = (235 * y - 234) / 19 := rfl
  have r := Base.ansB (B := base) (V := vBefore) (ρ := rho [y, Cal.before y]) base_fit (env_ok (inB_cons h0 h1 (inB_cons b0 b1 inB_nil)) (by
    simp [Lin.den, denT, rho]
    omega) (by
    simp [Lin.den, denT, rho]
    omega)) OkO.none rbefore_chk rfl rfl
  have := r.vc rfl rfl
  simpa [conc1, conc0, conc, Lin.den, denT, rho, Lin.lit] using this
def mRFirst (w : Int) (lp af : Bool) : Memo := [(rWeek, [iE (-1373427) [(2, 1)]], iL w), (rIs, [iE 0 [(0, 1)]], bL lp), (rIs, [iE (-1) [(0, 1)]], bL af), (rBefore, [iE 0 [(0, 1)]], .tuple [iE 0 [(1, 1)], iL 0])]
def okRFirst (w : Int) (r : Int × Int) (lp af : Bool) : Bool := isR (.tuple [iE (-1373427 + dlK w r.1 lp af) [(2, 1)], iL 0]) (base.go (vFirst r.1 r.2) (memo (mRFirst w lp af)) 60 rFirst [iE 0 [(0, 1)]])
theorem rfirst_chk : allB (fun w => allB (fun r => allB (fun lp => allB (fun af => okRFirst w r lp af) bools) bools) regs) seven = true := by kernel_rfl
theorem rfirst_vc (y : Int) (h0 : 1 ≤ y) (h1 : y ≤ 10000) : VC base rFirst [iv y] (.tuple #[iv (Cal.first y), iv 0]) := by
  obtain ⟨b0, b1⟩ := before_bd h0 (by omega)
  have hf : Cal.first y = Cal.md y + Cal.delay (Cal.md y) (Cal.mp y) (Cal.leap y) (Cal.leap (y - 1)) := rfl
  have hmd : Cal.md y = (5604 + 765433 * Cal.before y) / 25920 - 1373427 := rfl
  have hmp : Cal.mp y = (5604 + 765433 * Cal.before y) % 25920 := rfl
  have vb := rbefore_vc y h0 (by omega)
  have vl := ris_vc y (by omega) (by omega)
  have vl2 := ris_vc (y - 1) (by omega) (by omega)
  generalize Cal.before y = B at b0 b1 hmd hmp vb
  generalize Cal.leap y = lp at hf vl
  generalize Cal.leap (y - 1) = af at hf vl2
  obtain ⟨D, hD⟩ : ∃ D, D = (5604 + 765433 * B) / 25920 := ⟨_, rfl⟩
  have hp : 0 ≤ Cal.mp y ∧ Cal.mp y < 25920 := by rw [hmp]; omega
  have hDp : 5604 + 765433 * B - 25920 * D = Cal.mp y := by rw [hmp, hD]; omega
  have hmd' : Cal.md y = D - 1373427 := by rw [hmd, hD]
  obtain ⟨r, hr, r0, r1⟩ := reg_of (Cal.mp y) hp.1 hp.2
  have wk := rweek_vc (D - 1373427) (by omega) (by omega)
  have hE : Memo.Ok base.P base.G (rho [y, B, D, 765433 * B / 4294967296]) (mRFirst ((D - 1373427) % 7) lp af) := by
    refine .cons (wk.ans rfl rfl ?_ ?_) (.cons (vl.ans rfl rfl ?_ ?_) (.cons (vl2.ans rfl rfl ?_ ?_) (.cons (vb.ans rfl rfl ?_ ?_) .nil)))
    all_goals simp [conc, conc1, conc0, Lin.den, denT, rho, Lin.lit]
    all_goals omega
  have hb : ∀ b : Bool, b ∈ bools := by decide
  have hA := Base.ansB (B := base) (V := vFirst r.1 r.2) (ρ := rho [y, B, D, 765433 * B / 4294967296]) base_fit (env_ok (inB_cons h0 h1 (inB_cons b0 b1 (inB_cons (by omega) (by omega) (inB_cons (by omega) (by omega) inB_nil)))) (by
    simp [Lin.den, denT, rho]
    omega) (by
    simp [Lin.den, denT, rho, hD])) (OkO.memo hE) (allB_get (allB_get (allB_get (of_seven rfirst_chk ((D - 1373427) % 7) (by omega) (by omega)) r hr) lp (hb lp)) af (hb af)) rfl rfl
  have := hA.vc rfl rfl
  have e : -1373427 + dlK ((D - 1373427) % 7) r.1 lp af + D = Cal.first y := by
    rw [hf, dlK_eq, ← off_reg _ _ _ _ r hr r0 r1, ← hmd']
    unfold Cal.delay
    omega
  simpa [conc1, conc0, conc, Lin.den, denT, rho, Lin.lit, e] using this
/-! ### the year's type -/
def mRTy (t : Ty) : Memo := [(rFirst, [yE 0], .tuple [dE t.1, iL 0]), (rFirst, [yE 1], .tuple [dE (t.1 + tyLen t), iL 0]), (rIs, [yE 0], bL t.2.2), (rWeek, [dE t.1], iL t.1)]
theorem mRTy_ok {y : Int} {t : Ty} (h : YT y t) (l : List Int) : Memo.Ok base.P base.G (ry y l) (mRTy t) := by
  have h0 := h.low
  have h1 := h.high
  obtain ⟨f0, f1⟩ := first_bd y h0 (by omega)
  refine .cons ((rfirst_vc y h0 (by omega)).ans rfl rfl ?_ ?_) (.cons ((rfirst_vc (y + 1) (by omega) (by omega)).ans rfl rfl ?_ ?_) (.cons ((ris_vc y (by omega) (by omega)).ans rfl rfl ?_ ?_) (.cons ((rweek_vc (Cal.first y) (by omega) (by omega)).ans rfl rfl ?_ ?_) .nil)))
  · simp [conc1, conc0, den_y]
  · simp [conc, conc1, conc0, den_f0 h, den_l]
  · simp [conc1, conc0, den_y]
  · simp [conc, conc1, conc0, den_f h, den_l, h.len]
  · simp [conc1, conc0, den_y]
  · simp [conc, conc1, conc0, den_l, h.leap]
  · simp [conc1, conc0, den_f0 h]
  · simp [conc, conc1, conc0, den_l, h.wd]
theorem rof_chk : allB (fun t => isR (ofR t) (base.go vTy (memo (mRTy t)) 60 rOf [yE 0])) tyList = true := by kernel_rfl
theorem rof_vc {y : Int} {t : Ty} (h : YT y t) : VC base rOf [iv y] (.tuple #[.agg #[iv t.1, iv t.2.1, .bool t.2.2], iv 0]) := by
  have := (Base.ansB base_fit (vTy_ok h) (OkO.memo (mRTy_ok h [])) (of_ty rof_chk h) rfl rfl).vc rfl rfl
  simpa [ofR, conc, conc1, conc0, den_y, den_l] using this
def mROf (t : Ty) : Memo := (rOf, [yE 0], ofR t) :: mRTy t
theorem mROf_ok {y : Int} {t : Ty} (h : YT y t) (l : List Int) : Memo.Ok base.P base.G (ry y l) (mROf t) := by
  refine .cons ((rof_vc h).ans rfl rfl ?_ ?_) (mRTy_ok h l)
  · simp [conc1, conc0, den_y]
  · simp [ofR, conc, conc1, conc0, den_l]
end
end Go.Proofs.YtnknfolnbhljfaaGreatDoor.Sab
end

section
/- The reference's parts of a cycle. -/
set_option linter.unusedVariables false
set_option linter.unusedSimpArgs false
namespace Go.Proofs.YtnknfolnbhljfaaGreatDoor.Sab
open Go Go.Proofs.YtnknfolnbhljfaaGreatDoor.Ab
set_option maxRecDepth 100000
set_option maxHeartbeats 0
noncomputable section
abbrev rPart : Nat := 27
theorem pl_ints (l : List Int) : allB pl0 (l.map iL) = true := by
  induction l with
  | nil => rfl
  | cons a r ih => exact ih
abbrev rPlaceF : Nat := 83
abbrev rAhead : Nat := 84
abbrev rDaysF : Nat := 153
abbrev rLens : Nat := 127
abbrev rNum : Nat := 154
def vNil : Env := ⟨[], [], []⟩
theorem vNil_ok : vNil.Ok (rho []) := env_ok inB_nil (by simp [vNil]) (by simp [vNil])
def rNums : List Nat := [1, 7, 9, 11]
def mNo (lp : Bool) (n : Nat) : Int := Int.ofNat n + (bif lp && Nat.ble 6 n then 1 else 0)
def codeA (n : Nat) : AV := .agg [iL (Int.ofNat n), bL false]
def lensL (t : Ty) : List Int := [30, bif zero (t.2.1 - 2) then 30 else 29, bif zero t.2.1 then 29 else 30, 29, 30] ++ (bif t.2.2 then [30] else []) ++ [29, 30, 29, 30, 29, 30, 29]
def lenRow (t : Ty) : LR := ⟨(lensL t).map iL, 3, 1, (lensL t).length, none, true⟩
theorem rlen_chk : allB (fun t => isLR (lenRow t) base.A0.next (base.goL vNil noO noL 200 rLens [tyA t])) tyList = true := by kernel_rfl
theorem rplace_chk : allB (fun lp => allB (fun n => isR (.tuple [iL (mNo lp n), bL true]) (base.go vNil noO 200 rPlaceF [bL lp, codeA n])) rNums) bools = true := by kernel_rfl
def at_ : Nat → List Int → Int
  | _, [] => 0
  | 0, a :: _ => a
  | k + 1, _ :: r => at_ k r
def numOf (t : Ty) : List Ty → Int → Int
  | [], _ => 0
  | u :: r, k => bif zero (t.1 - u.1) && zero (t.2.1 - u.2.1) && (t.2.2 == u.2.2) then k else numOf t r (k + 1)
theorem rnum_chk : allB (fun t => isR (iL (numOf t tyList 1)) (base.go vNil noO 200 rNum [tyA t])) tyList = true := by kernel_rfl
def mNum (t : Ty) : Memo := [(rNum, [tyA t], iL (numOf t tyList 1))]
def mLen (t : Ty) : LMemo := [(rLens, [tyA t], lenRow t)]
theorem rahead_chk : allB (fun t => allB (fun n => isR (iL (offD t n false 1)) (base.goL vNil (memo (mNum t)) (memoL (mLen t)) 200 rAhead [tyA t, iL (mNo t.2.2 n)])) rNums) tyList = true := by kernel_rfl
def dayN (t : Ty) (n : Nat) : Int := at_ ((mNo t.2.2 n).toNat - 1) (lensL t)
theorem rdays_chk : allB (fun t => allB (fun n => isR (iL (dayN t n)) (base.goL vNil (memo (mNum t)) (memoL (mLen t)) 200 rDaysF [tyA t, iL (mNo t.2.2 n)])) rNums) tyList = true := by kernel_rfl
def mCode (t : Ty) : Memo := (rNums.map fun n => (rPlaceF, [bL t.2.2, codeA n], .tuple [iL (mNo t.2.2 n), bL true])) ++ (rNums.map fun n => (rAhead, [tyA t, iL (mNo t.2.2 n)], iL (offD t n false 1))) ++ (rNums.map fun n => (rDaysF, [tyA t, iL (mNo t.2.2 n)], iL (dayN t n)))
theorem mCode_ok {y : Int} {t : Ty} (h : YT y t) (l : List Int) : Memo.Ok base.P base.G (ry y l) (mCode t) := by
  have hL : LMemo.Ok base.P base.G (rho []) (mLen t) := by
    have hx : allB pl0 (lenRow t).cs = true := pl_ints _
    have c := of_ty rlen_chk h
    exact .cons (Base.lansB base_fit vNil_ok OkO.none OkL.none c hx rfl) .nil
  have hN : Memo.Ok base.P base.G (rho []) (mNum t) := .cons (Base.ansB base_fit vNil_ok OkO.none (of_ty rnum_chk h) rfl rfl) .nil
  have hb : t.2.2 ∈ bools := by cases t.2.2 <;> decide
  refine .append (.append ?_ ?_) ?_
  all_goals
    intro e he
    obtain ⟨n, hn, rfl⟩ := List.mem_map.1 he
  · have := (Base.ansB base_fit vNil_ok OkO.none (allB_get (allB_get rplace_chk _ hb) n hn) rfl rfl).vc rfl rfl
    refine this.ans rfl rfl ?_ ?_
    · simp [codeA, conc1, conc0, den_l]
    · simp [conc, conc1, conc0, den_l]
  · have := (Base.ansL base_fit vNil_ok (OkO.memo hN) (OkL.memo hL) (allB_get (of_ty rahead_chk h) n hn) rfl rfl).vc rfl rfl
    refine this.ans rfl rfl ?_ ?_
    · simp [tyA, conc1, conc0, den_l]
    · simp [conc, conc1, conc0, den_l]
  · have := (Base.ansL base_fit vNil_ok (OkO.memo hN) (OkL.memo hL) (allB_get (of_ty rdays_chk h) n hn) rfl rfl).vc rfl rfl
    refine this.ans rfl rfl ?_ ?_
    · simp [tyA, conc1, conc0, den_l]
    · simp [conc, conc1, conc0, den_l]
def rEnds : List (Nat × Int) := [(1, 15), (1, 22), (1, 23), (7, 15), (9, 5), (11, 9)]
def mRDay (t : Ty) : Memo := mROf t ++ mCode t
theorem rends_chk : allB (fun t => allB (fun x => isR (dE (t.1 + offD t x.1 false x.2)) (base.go vTy (memo (mRDay t)) 200 rDay [yE 0, iL (Int.ofNat x.1), iL x.2])) rEnds) tyList = true := by kernel_rfl
theorem rend_vc {y : Int} {t : Ty} (h : YT y t) (x : Nat × Int) (hx : x ∈ rEnds) : VC base rDay [iv y, iv x.1, iv x.2] (iv (Cal.first y + offD t x.1 false x.2)) := by
  have := (Base.ansB base_fit (vTy_ok h) (OkO.memo (Memo.Ok.append (mROf_ok h []) (mCode_ok h []))) (allB_get (of_ty rends_chk h) x hx) rfl rfl).vc rfl rfl
  simpa [conc, conc1, conc0, den_y, den_f h, den_l] using this
def mRPart (t : Ty) : Memo := [(rDay, [yE 0, iL 7, iL 15], dE (t.1 + b1 t)), (rDay, [yE 0, iL 9, iL 5], dE (t.1 + offD t 9 false 5)), (rDay, [yE 0, iL 11, iL 9], dE (t.1 + offD t 11 false 9)), (rFirst, [yE 1], .tuple [dE (t.1 + tyLen t), iL 0])]
theorem rpart_chk : allB (fun t => allB (fun s => isR (.tuple [iL s.1, iL 0]) (base.go (vPart t s) (memo (mRPart t)) 60 rPart [yE 0, iE 0 [(2, 1)]])) (spans t)) tyList = true := by kernel_rfl
theorem mRPart_ok {y : Int} {t : Ty} (h : YT y t) (h1 : y ≤ 9998) (l : List Int) : Memo.Ok base.P base.G (ry y l) (mRPart t) := by
  have h0 := h.low
  refine .cons ((rend_vc h (7, 15) (by decide)).ans rfl rfl ?_ ?_) (.cons ((rend_vc h (9, 5) (by decide)).ans rfl rfl ?_ ?_) (.cons ((rend_vc h (11, 9) (by decide)).ans rfl rfl ?_ ?_) (.cons ((rfirst_vc (y + 1) (by omega) (by omega)).ans rfl rfl ?_ ?_) .nil)))
  · simp [conc1, conc0, den_y, den_l]
  · simp [conc, conc1, conc0, den_f h, b1]
  · simp [conc1, conc0, den_y, den_l]
  · simp [conc, conc1, conc0, den_f h]
  · simp [conc1, conc0, den_y, den_l]
  · simp [conc, conc1, conc0, den_f h]
  · simp [conc1, conc0, den_y, den_l]
  · simp [conc, conc1, conc0, den_f h, den_l, h.len]
theorem rpart_vc {y : Int} {t : Ty} (h : YT y t) (h1 : y ≤ 9998) (n : Int) (n0 : -3000000000 ≤ n) (n1 : n ≤ 5000000000) : VC base rPart [iv y, iv n] (.tuple #[iv (partOf (Cal.first y) t n), iv 0]) := by
  obtain ⟨f0, f1⟩ := first_bd y h.low (by omega)
  have up := of_ty offs_up h
  simp only [Bool.and_eq_true, ile_iff] at up
  obtain ⟨⟨u1, u2⟩, u3⟩ := up
  have key : ∀ s ∈ spans t, (∀ o, s.2.1 = some o → Cal.first y + o ≤ n) → (∀ o, s.2.2 = some o → n < Cal.first y + o) → VC base rPart [iv y, iv n] (.tuple #[iv s.1, iv 0]) := by
    intro s hs a1 a2
    have a := Base.ansB (V := vPart t s) (ρ := ry y [n]) base_fit (env_ok (inB_cons h.low h1 (inB_cons (by omega) (by omega) (inB_cons n0 n1 inB_nil))) (fact0_ok h a1 a2) (by simp)) (OkO.memo (mRPart_ok h h1 [n])) (allB_get (of_ty rpart_chk h) s hs) rfl rfl
    have := a.vc rfl rfl
    have e2 : Lin.den (ry y [n]) ⟨0, [(2, 1)]⟩ = n := by simp [Lin.den, denT, ry, rho]
    simpa [conc, conc1, conc0, den_y, den_l, e2] using this
  have pick : ∀ j : Int, partOf (Cal.first y) t n = j → VC base rPart [iv y, iv n] (.tuple #[iv j, iv 0]) → VC base rPart [iv y, iv n] (.tuple #[iv (partOf (Cal.first y) t n), iv 0]) := fun j e v => e ▸ v
  by_cases c1 : n < Cal.first y + b1 t
  · exact pick 1 (by unfold partOf; simp only [if_neg (show ¬ Cal.first y + b1 t ≤ n by omega), if_neg (show ¬ Cal.first y + b2 t ≤ n by omega), if_neg (show ¬ Cal.first y + b3 t ≤ n by omega), if_neg (show ¬ Cal.first y + tyLen t ≤ n by omega)]; rfl) (key (1, none, some (b1 t)) (by simp [spans]) (by simp) (by simpa using c1))
  by_cases c2 : n < Cal.first y + b2 t
  · exact pick 2 (by unfold partOf; simp only [if_pos (show Cal.first y + b1 t ≤ n by omega), if_neg (show ¬ Cal.first y + b2 t ≤ n by omega), if_neg (show ¬ Cal.first y + b3 t ≤ n by omega), if_neg (show ¬ Cal.first y + tyLen t ≤ n by omega)]; rfl) (key (2, some (b1 t), some (b2 t)) (by simp [spans]) (by simp; omega) (by simpa using c2))
  by_cases c3 : n < Cal.first y + b3 t
  · exact pick 3 (by unfold partOf; simp only [if_pos (show Cal.first y + b1 t ≤ n by omega), if_pos (show Cal.first y + b2 t ≤ n by omega), if_neg (show ¬ Cal.first y + b3 t ≤ n by omega), if_neg (show ¬ Cal.first y + tyLen t ≤ n by omega)]; rfl) (key (3, some (b2 t), some (b3 t)) (by simp [spans]) (by simp; omega) (by simpa using c3))
  by_cases c4 : n < Cal.first y + tyLen t
  · exact pick 4 (by unfold partOf; simp only [if_pos (show Cal.first y + b1 t ≤ n by omega), if_pos (show Cal.first y + b2 t ≤ n by omega), if_pos (show Cal.first y + b3 t ≤ n by omega), if_neg (show ¬ Cal.first y + tyLen t ≤ n by omega)]; rfl) (key (4, some (b3 t), some (tyLen t)) (by simp [spans]) (by simp; omega) (by simpa using c4))
  · exact pick 5 (by unfold partOf; simp only [if_pos (show Cal.first y + b1 t ≤ n by omega), if_pos (show Cal.first y + b2 t ≤ n by omega), if_pos (show Cal.first y + b3 t ≤ n by omega), if_pos (show Cal.first y + tyLen t ≤ n by omega)]; rfl) (key (5, some (tyLen t), none) (by simp [spans]) (by simp; omega) (by simp))
end
end Go.Proofs.YtnknfolnbhljfaaGreatDoor.Sab
end

section
/- The laws about readings: what is to be checked. -/
set_option linter.unusedVariables false
set_option linter.unusedSimpArgs false
namespace Go.Proofs.YtnknfolnbhljfaaGreatDoor.Sab
open Go Go.Proofs.YtnknfolnbhljfaaGreatDoor.Ab
set_option maxRecDepth 100000
noncomputable section
abbrev fPlaces : Nat := 7
abbrev fAnchors : Nat := 6
/-- The year, the first day's week, how often the argument went round, the same for the place. -/
def vLaw24 : Env := ⟨[(1, 9998), (-400000, 400000), (0, 6), (0, 127)], [], [(⟨-1, [(0, 1), (2, 9998)]⟩, 9998, 2)]⟩
def argY : AV := .int .u16 ⟨-1, [(0, 1), (2, 9998)]⟩
def argP (pl : Int) : AV := .int .u8 ⟨pl, [(3, 2)]⟩
def mRParts (t : Ty) (l : List Int) : Memo := l.map fun o => (rPart, [yE 0, dE (t.1 + o)], .tuple [iL (partK t o), iL 0])
def mAwk : Memo := [(fAwake, [], bL true)]
def lT (t : Ty) (pl : Int) : LMemo := [(fTorah, [yE 0, iL pl], rowR t (torahOff t pl))]
def okPlaces (t : Ty) : Bool := isR (bL true) (baseN.goL vLaw24 (memo (mAwk ++ mRParts t (allOff t 0))) (memoL (lT t 0 ++ lT t 1)) 400 fPlaces [argY])
def mAnc (t : Ty) : Memo := [(rIs, [yE 0], bL t.2.2), (rDay, [yE 1, iL 1, iL 15], dE (t.1 + (tyLen t + 14)))]
def okAnchors (t : Ty) : Bool := allB (fun pl => isR (bL true) (baseN.goL vLaw24 (memo (mAwk ++ mAnc t ++ mRParts t (allOff t pl))) (memoL (lT t pl)) 400 fAnchors [argY, argP pl])) places
end
end Go.Proofs.YtnknfolnbhljfaaGreatDoor.Sab
end

section
/- The laws about readings: what they rest on holds. -/
set_option linter.unusedVariables false
set_option linter.unusedSimpArgs false
namespace Go.Proofs.YtnknfolnbhljfaaGreatDoor.Sab
open Go Go.Proofs.YtnknfolnbhljfaaGreatDoor.Ab
set_option maxRecDepth 100000
noncomputable section
theorem mAwk_ok (ρ : Nat → Int) : Memo.Ok baseN.P baseN.G ρ mAwk := .cons (awake_vc.ans rfl rfl rfl rfl) .nil
theorem mRParts_ok {y : Int} {t : Ty} (h : YT y t) (h9 : y ≤ 9998) (l m : List Int) (hm : ∀ o ∈ m, -100000 ≤ o ∧ o ≤ 100000) : Memo.Ok baseN.P baseN.G (ry y l) (mRParts t m) := by
  intro e he
  obtain ⟨o, ho, rfl⟩ := List.mem_map.1 he
  obtain ⟨f0, f1⟩ := first_bd y h.low (by omega)
  obtain ⟨o0, o1⟩ := hm o ho
  refine (rpart_vc h h9 (Cal.first y + o) (by omega) (by omega)).toN.ans rfl rfl ?_ ?_
  · simp [conc1, conc0, den_y, den_f h]
  · simp [conc, conc1, conc0, den_l, partOf_eq]
theorem all_bd : allB (fun t => allB (fun pl => allB (fun o => ile (-100000) o && ile o 100000) (allOff t pl)) places) tyList = true := by decide +kernel
theorem lT_ok {y : Int} {p : Ty × Ty} (h : YP y p) (h9 : y ≤ 9998) (l : List Int) (pl : Int) (hp : pl ∈ places) : LAns baseN.P baseN.G (ry y l) fTorah [yE 0, iL pl] (rowR p.1 (torahOff p.1 pl)) := by
  have hx : allB pl0 (rowR p.1 (torahOff p.1 pl)).cs = true := pl_rds _ _
  refine LVC.ans (x := rowR p.1 (torahOff p.1 pl)) (torah_lvc h h9 pl hp).toN rfl hx ?_ ?_
  · simp [conc1, conc0, den_y, den_l]
  · exact (rds_conc (ry y l) p.1.1 (Cal.first y) _ (fun o => den_f h.a o l)).symm
theorem law24_ok {k q m : Int} (h0 : 1 ≤ k) (h1 : k ≤ 9998) (q0 : 0 ≤ q) (q1 : q ≤ 6) (m0 : 0 ≤ m) (m1 : m ≤ 127) : vLaw24.Ok (ry k [q, m]) := by
  obtain ⟨f0, f1⟩ := first_bd k h0 (by omega)
  exact env_ok (inB_cons h0 h1 (inB_cons (by omega) (by omega) (inB_cons q0 q1 (inB_cons m0 m1 inB_nil)))) (by simp [vLaw24]) (by
    simp [vLaw24, Lin.den, denT, ry, rho]
    omega)
theorem rIs_ans {y : Int} {t : Ty} (h : YT y t) (l : List Int) : Ans baseN.P baseN.G (ry y l) rIs [yE 0] (bL t.2.2) := by
  refine (ris_vc y (by have := h.low; omega) (by have := h.high; omega)).toN.ans rfl rfl ?_ ?_
  · simp [conc1, conc0, den_y]
  · simp [conc, conc1, conc0, h.leap]
theorem suk_off : allB (fun t => zero (offD t 1 false 15 - 14)) tyList = true := by decide +kernel
theorem rSuk_ans {y : Int} {p : Ty × Ty} (h : YP y p) (l : List Int) : Ans baseN.P baseN.G (ry y l) rDay [yE 1, iL 1, iL 15] (dE (p.1.1 + (tyLen p.1 + 14))) := by
  have o := of_ty suk_off h.b
  rw [zero_iff] at o
  have hl := h.a.len
  refine (rend_vc h.b (1, 15) (by decide)).toN.ans rfl rfl ?_ ?_
  · simp [conc1, conc0, den_y, den_l]
  · simp [conc, conc1, conc0, den_f h.a]
    omega
end
end Go.Proofs.YtnknfolnbhljfaaGreatDoor.Sab
end
