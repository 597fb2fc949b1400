/- Texts of the proof, joined by a program (of one law): contracts of functions, plain laws. -/
import Derived.Test.YtnikgcedifdaeaaGreatDoorJXoRTorK0
import Derived.Test.YtnikgcedifdaeaaGreatDoorJXoRTorK2
import Derived.Test.YtnikgcedifdaeaaGreatDoorJX11
import Derived.Test.YtnikgcedifdaeaaGreatDoorJX7
import Derived.Test.YtnikgcedifdaeaaGreatDoorJX10
set_option linter.unusedVariables false
set_option linter.unusedSimpArgs false
set_option linter.unusedSectionVars false
section
/- The reference's readings, of a cycle and of a day: the same as the code's. -/
set_option linter.unusedVariables false
set_option linter.unusedSimpArgs false
namespace Go.Proofs.YtnikgcedifdaeaaGreatDoor.Sab
open Go Go.Proofs.YtnikgcedifdaeaaGreatDoor.Ab
set_option maxRecDepth 100000
noncomputable section
theorem rtor_chk_0 : allB (okRTor 0) tyList = true :=
  allB_cons rtor_chk_0_0 (allB_cons rtor_chk_0_1 (allB_cons rtor_chk_0_2 (allB_cons rtor_chk_0_3 (allB_cons rtor_chk_0_4 (allB_cons rtor_chk_0_5 (allB_cons rtor_chk_0_6 (allB_cons rtor_chk_0_7 (allB_cons rtor_chk_0_8 (allB_cons rtor_chk_0_9 (allB_cons rtor_chk_0_10 (allB_cons rtor_chk_0_11 (allB_cons rtor_chk_0_12 (allB_cons rtor_chk_0_13 allB_nil)))))))))))))
theorem rtor_chk_1 : allB (okRTor 1) tyList = true :=
  allB_cons rtor_chk_1_0 (allB_cons rtor_chk_1_1 (allB_cons rtor_chk_1_2 (allB_cons rtor_chk_1_3 (allB_cons rtor_chk_1_4 (allB_cons rtor_chk_1_5 (allB_cons rtor_chk_1_6 (allB_cons rtor_chk_1_7 (allB_cons rtor_chk_1_8 (allB_cons rtor_chk_1_9 (allB_cons rtor_chk_1_10 (allB_cons rtor_chk_1_11 (allB_cons rtor_chk_1_12 (allB_cons rtor_chk_1_13 allB_nil)))))))))))))
theorem rofp_chk_0 : allB (okROfP 0) tyList = true :=
  allB_cons rofp_chk_0_0 (allB_cons rofp_chk_0_1 (allB_cons rofp_chk_0_2 (allB_cons rofp_chk_0_3 (allB_cons rofp_chk_0_4 (allB_cons rofp_chk_0_5 (allB_cons rofp_chk_0_6 (allB_cons rofp_chk_0_7 (allB_cons rofp_chk_0_8 (allB_cons rofp_chk_0_9 (allB_cons rofp_chk_0_10 (allB_cons rofp_chk_0_11 (allB_cons rofp_chk_0_12 (allB_cons rofp_chk_0_13 allB_nil)))))))))))))
theorem rofp_chk_1 : allB (okROfP 1) tyList = true :=
  allB_cons rofp_chk_1_0 (allB_cons rofp_chk_1_1 (allB_cons rofp_chk_1_2 (allB_cons rofp_chk_1_3 (allB_cons rofp_chk_1_4 (allB_cons rofp_chk_1_5 (allB_cons rofp_chk_1_6 (allB_cons rofp_chk_1_7 (allB_cons rofp_chk_1_8 (allB_cons rofp_chk_1_9 (allB_cons rofp_chk_1_10 (allB_cons rofp_chk_1_11 (allB_cons rofp_chk_1_12 (allB_cons rofp_chk_1_13 allB_nil)))))))))))))
theorem mRPs_ok {y : Int} {t : Ty} (h : YT y t) (h9 : y ≤ 9998) (l m : List Int) (hm : ∀ o ∈ m, -100000 ≤ o ∧ o ≤ 100000) : Memo.Ok base.P base.G (ry y l) (mRPs t m) := by
  intro e he
  obtain ⟨o, ho, rfl⟩ := List.mem_map.1 he
  obtain ⟨f0, f1⟩ := first_bd y h.low (by omega)
  obtain ⟨o0, o1⟩ := hm o ho
  refine (rpart_vc h h9 (Cal.first y + o) (by omega) (by omega)).ans rfl rfl ?_ ?_
  · simp [conc1, conc0, den_y, den_f h]
  · simp [conc, conc1, conc0, den_l, partOf_eq]
theorem rtor_lvc {y : Int} {p : Ty × Ty} (h : YP y p) (h9 : y ≤ 9998) (pl : Int) (hp : pl ∈ places) : LVC base rTorah [iv y, iv pl] (rdVals (Cal.first y) (torahOff p.1 pl)) 29 3 (torahOff p.1 pl).length (some 0) true := by
  have c : isLR (rowRo p.1 (torahOff p.1 pl)) base.A0.next (base.goL vCyc (memo (mRTor p.1 pl)) (memoL (mlRTor p.1 pl)) 400 rTorah [yE 0, iL pl]) = true := two_pl rtor_chk_0 rtor_chk_1 hp h.a.mem
  have hx : allB pl0 (rowRo p.1 (torahOff p.1 pl)).cs = true := pl_rds _ _
  have hE : LMemo.Ok base.P base.G (ry y []) (mlRTor p.1 pl) := by
    refine .cons ((rall_lvc h.a h9 pl hp).ans rfl (pl_row _ _) ?_ ?_) (.cons ((rfree_lvc h h9 pl hp).ans rfl (pl_row _ _) ?_ ?_) .nil)
    · simp [conc1, conc0, den_y, den_l]
    · simp [rowI, conc0, den_f h.a, Function.comp_def]
    · simp [conc1, conc0, den_y, den_l]
    · simp [rowI, conc0, den_f h.a, Function.comp_def]
  have hM : Memo.Ok base.P base.G (ry y []) (mRTor p.1 pl) := by
    refine .cons ((ris_vc y (by have := h.a.low; omega) (by omega)).ans rfl rfl ?_ ?_) (mRPs_ok h.a h9 [] _ (offs_bd (t := p.1) (pl := pl) _ (allB_get (of_ty free_bd h.a) pl hp)))
    · simp [conc1, conc0, den_y]
    · simp [conc, conc1, conc0, h.a.leap]
  have := (Base.lansB base_fit (vCyc_ok h.a.low h9) (OkO.memo hM) (OkL.memo hE) c hx rfl).vc rfl hx
  have e := rds_conc (ry y []) p.1.1 (Cal.first y) (torahOff p.1 pl) (fun o => den_f h.a o [])
  simp only [rowRo] at this
  rw [e] at this
  simpa [conc1, conc0, den_y, den_l] using this
theorem rowsR_ok {y : Int} {p : Ty × Ty} (h : YP y p) (h9 : y ≤ 9998) (l : List Int) (pl : Int) (hp : pl ∈ places) : LMemo.Ok base.P base.G (ry y l) (rowsR p.1 pl) := by
  have hx : allB pl0 (rowRo p.1 (torahOff p.1 pl)).cs = true := pl_rds _ _
  refine .cons (LVC.ans (x := rowRo p.1 (torahOff p.1 pl)) (rtor_lvc h h9 pl hp) rfl hx ?_ ?_) .nil
  · simp [conc1, conc0, den_y, den_l]
  · exact (rds_conc (ry y l) p.1.1 (Cal.first y) _ (fun o => den_f h.a o l)).symm
theorem rof_p {y : Int} {p : Ty × Ty} (h : YP y p) (h9 : y ≤ 9998) (pl : Int) (hp : pl ∈ places) (e : Int × Int × Int) (he : e ∈ torahOff p.1 pl) (hw : (Cal.first y + e.2.2) % 7 = 6) (o0 : 23 - pl ≤ e.2.2) (o1 : e.2.2 ≤ tyLen p.1 + (22 - pl)) : VC base rTOf [iv (Cal.first y + e.2.2), iv pl] (.tuple #[.agg #[iv e.1, iv e.2.1, iv (Cal.first y + e.2.2)], iv 0]) := by
  have c := allB_get (show allB (fun e => isR (.tuple [.agg [iL e.1, iL e.2.1, dE (p.1.1 + e.2.2)], iL 0]) (base.goL vCyc (memo [(rCyc, [dE (p.1.1 + e.2.2), iL pl], .tuple [yE 0, iL 0]), (rWeek, [dE (p.1.1 + e.2.2)], iL 6)]) (memoL (rowsR p.1 pl)) 400 rTOf [dE (p.1.1 + e.2.2), iL pl])) (torahOff p.1 pl) = true from two_pl rofp_chk_0 rofp_chk_1 hp h.a.mem) e he
  obtain ⟨f0, f1⟩ := first_bd y h.a.low (by omega)
  have hE : Memo.Ok base.P base.G (ry y []) [(rCyc, [dE (p.1.1 + e.2.2), iL pl], .tuple [yE 0, iL 0]), (rWeek, [dE (p.1.1 + e.2.2)], iL 6)] := by
    refine .cons ((rcyc_vc h.a h9 pl hp e.2.2 o0 o1).ans rfl rfl ?_ ?_) (.cons ((rweek_vc (Cal.first y + e.2.2) (by have := of_ty mons_num h.a; simp only [Bool.and_eq_true, ile_iff] at this; have hpl : 0 ≤ pl ∧ pl ≤ 1 := (by simp only [places, List.mem_cons, List.not_mem_nil, or_false] at hp; omega); omega) (by have := of_ty mons_num h.a; simp only [Bool.and_eq_true, ile_iff] at this; have hpl : 0 ≤ pl ∧ pl ≤ 1 := (by simp only [places, List.mem_cons, List.not_mem_nil, or_false] at hp; omega); omega)).ans rfl rfl ?_ ?_) .nil)
    · simp [conc1, conc0, den_f h.a, den_l]
    · simp [conc, conc1, conc0, den_y, den_l]
    · simp [conc1, conc0, den_f h.a]
    · simp [conc, conc1, conc0, den_l, hw]
  have := (Base.ansL base_fit (vCyc_ok h.a.low h9) (OkO.memo hE) (OkL.memo (rowsR_ok h h9 [] pl hp)) c rfl rfl).vc rfl rfl
  simpa [conc, conc1, conc0, den_f h.a, den_l] using this
theorem rofg_chk : allB (fun pl => allB (fun w => isR (.tuple [.agg [iL 0, iL 0, iL 0], iL 4]) (base.go vOfW (memo [(rCyc, [nW w, iL pl], .tuple [yE 0, iL 0]), (rWeek, [nW w], iL w)]) 60 rTOf [nW w, iL pl])) six) places = true := by kernel_rfl
theorem rof_g {y : Int} {p : Ty × Ty} (h : YP y p) (h9 : y ≤ 9998) (pl : Int) (hp : pl ∈ places) (o : Int) (hw6 : (Cal.first y + o) % 7 ≠ 6) (o0 : 23 - pl ≤ o) (o1 : o ≤ tyLen p.1 + (22 - pl)) : VC base rTOf [iv (Cal.first y + o), iv pl] (.tuple #[.agg #[iv 0, iv 0, iv 0], iv 4]) := by
  obtain ⟨w, hw⟩ : ∃ w, w = (Cal.first y + o) % 7 := ⟨_, rfl⟩
  obtain ⟨q, hq⟩ : ∃ q, q = (Cal.first y + o) / 7 - Cal.first y / 7 := ⟨_, rfl⟩
  have hws : w ∈ six := by
    have : w = 0 ∨ w = 1 ∨ w = 2 ∨ w = 3 ∨ w = 4 ∨ w = 5 := by omega
    rcases this with h | h | h | h | h | h <;> rw [h] <;> decide
  have hpl : 0 ≤ pl ∧ pl ≤ 1 := by
    simp only [places, List.mem_cons, List.not_mem_nil, or_false] at hp
    omega
  have hl : tyLen p.1 ≤ 385 := by
    have c2 := of_ty mons_num h.a
    simp only [Bool.and_eq_true, ile_iff] at c2
    exact c2.2
  obtain ⟨f0, f1⟩ := first_bd y h.a.low (by omega)
  have dn : Lin.den (ry y [q]) ⟨w, [(1, 7), (2, 7)]⟩ = Cal.first y + o := by simp [Lin.den, denT, ry, rho]; omega
  have hE : Memo.Ok base.P base.G (ry y [q]) [(rCyc, [nW w, iL pl], .tuple [yE 0, iL 0]), (rWeek, [nW w], iL w)] := by
    refine .cons ((rcyc_vc h.a h9 pl hp o o0 o1).ans rfl rfl ?_ ?_) (.cons ((rweek_vc (Cal.first y + o) (by omega) (by omega)).ans rfl rfl ?_ ?_) .nil)
    · simp [nW, conc1, conc0, dn, den_l]
    · simp [conc, conc1, conc0, den_y, den_l]
    · simp [nW, conc1, conc0, dn]
    · simp [conc, conc1, conc0, den_l, hw]
  have := (Base.ansB (ρ := ry y [q]) base_fit (env_ok (inB_cons h.a.low h9 (inB_cons (by omega) (by omega) (inB_cons (by omega) (by omega) inB_nil))) (by simp [vOfW]) (by simp [vOfW])) (OkO.memo hE) (allB_get (allB_get rofg_chk pl hp) w hws) rfl rfl).vc rfl rfl
  simpa [nW, conc, conc1, conc0, dn, den_l] using this
def vAny : Ab.Env := ⟨[], [], []⟩
def errs : List Int := [1, 2]
theorem ofe_chk : allB (fun e => isR (.tuple [.agg [iL 0, iL 0, iL 0], iL e]) (base.go vAny (memo [(fCyc, [nE, iE 0 [(1, 1)]], .tuple [iL 0, iL e])]) 60 fTOf [nE, iE 0 [(1, 1)]]) && isR (.tuple [.agg [iL 0, iL 0, iL 0], iL e]) (base.go vAny (memo [(rCyc, [nE, iE 0 [(1, 1)]], .tuple [iL 0, iL e])]) 60 rTOf [nE, iE 0 [(1, 1)]])) errs = true := by kernel_rfl
theorem of_err {n p e : Int} (he : e ∈ errs) (h : VC base fCyc [iv n, iv p] (.tuple #[iv 0, iv e])) (k : VC base rCyc [iv n, iv p] (.tuple #[iv 0, iv e])) :
    VC base fTOf [iv n, iv p] (.tuple #[.agg #[iv 0, iv 0, iv 0], iv e]) ∧ VC base rTOf [iv n, iv p] (.tuple #[.agg #[iv 0, iv 0, iv 0], iv e]) := by
  have c := allB_get ofe_chk e he
  rw [Bool.and_eq_true] at c
  have d0 : Lin.den (rho [n, p]) ⟨0, [(0, 1)]⟩ = n := by simp [Lin.den, denT, rho]
  have d1 : Lin.den (rho [n, p]) ⟨0, [(1, 1)]⟩ = p := by simp [Lin.den, denT, rho]
  have hV : vAny.Ok (rho [n, p]) := env_ok inB_nil (by simp [vAny]) (by simp [vAny])
  constructor
  · have hE : Memo.Ok base.P base.G (rho [n, p]) [(fCyc, [nE, iE 0 [(1, 1)]], .tuple [iL 0, iL e])] := .cons (h.ans rfl rfl (by simp [conc1, conc0, d0, d1]) (by simp [conc, conc1, conc0, den_l])) .nil
    have := (Base.ansB base_fit hV (OkO.memo hE) c.1 rfl rfl).vc rfl rfl
    simpa [conc, conc1, conc0, d0, d1, den_l] using this
  · have hE : Memo.Ok base.P base.G (rho [n, p]) [(rCyc, [nE, iE 0 [(1, 1)]], .tuple [iL 0, iL e])] := .cons (k.ans rfl rfl (by simp [conc1, conc0, d0, d1]) (by simp [conc, conc1, conc0, den_l])) .nil
    have := (Base.ansB base_fit hV (OkO.memo hE) c.2 rfl rfl).vc rfl rfl
    simpa [conc, conc1, conc0, d0, d1, den_l] using this
/-- The reading of any day, in any place: the code's and the reference's. -/
def Both (n p : Int) : Prop := ∃ r1 r2 r3 e, VC base fTOf [iv n, iv p] (.tuple #[.agg #[iv r1, iv r2, iv r3], iv e]) ∧ VC base rTOf [iv n, iv p] (.tuple #[.agg #[iv r1, iv r2, iv r3], iv e])
theorem both_cycle {y : Int} {p : Ty × Ty} (h : YP y p) (h9 : y ≤ 9998) (pl : Int) (hp : pl ∈ places) (o : Int) (o0 : 23 - pl ≤ o) (o1 : o ≤ tyLen p.1 + (22 - pl)) : Both (Cal.first y + o) pl := by
  by_cases hw6 : (Cal.first y + o) % 7 = 6
  · obtain ⟨e, he, rfl⟩ := sat_of h pl hp o hw6 o0 o1
    exact ⟨_, _, _, _, tof_p h h9 pl hp e he o0 o1, rof_p h h9 pl hp e he hw6 o0 o1⟩
  · exact ⟨_, _, _, _, tof_g h h9 pl hp o hw6 o0 o1, rof_g h h9 pl hp o hw6 o0 o1⟩
theorem both_any {y : Int} {t : Ty} (h : YT y t) (pl : Int) (hp : pl ∈ places) (o : Int) (o0 : 0 ≤ o) (o1 : o < tyLen t) : Both (Cal.first y + o) pl := by
  have hpl : 0 ≤ pl ∧ pl ≤ 1 := by
    simp only [places, List.mem_cons, List.not_mem_nil, or_false] at hp
    omega
  have h0 := h.low
  have h9 := h.high
  have err : (y = 1 ∧ o ≤ 22 - pl ∨ y = 9999 ∧ 23 - pl ≤ o) → Both (Cal.first y + o) pl := fun hy => by
    have := of_err (e := 2) (by decide) (cye_vc h pl hp o o0 o1 hy) ((rcy_vc h pl hp o o0 o1).2.2 hy)
    exact ⟨_, _, _, _, this.1, this.2⟩
  by_cases c : 23 - pl ≤ o
  · by_cases c9 : y ≤ 9998
    · obtain ⟨u, hu⟩ := yt_of (y + 1) (by omega) (by omega)
      exact both_cycle (p := (t, u)) ⟨h, hu⟩ c9 pl hp o c (by first | omega | (simp only; omega))
    · exact err (.inr ⟨by omega, c⟩)
  · by_cases c1 : 2 ≤ y
    · obtain ⟨u, hu⟩ := yt_of (y - 1) (by omega) (by omega)
      have hu1 : YT (y - 1 + 1) t := by rw [show y - 1 + 1 = y by omega]; exact h
      have l := hu.len
      rw [show y - 1 + 1 = y by omega] at l
      have lp := of_ty long_pos hu
      rw [ile_iff] at lp
      have := both_cycle (p := (u, t)) ⟨hu, hu1⟩ (by omega) pl hp (tyLen u + o) (by first | omega | (simp only; omega)) (by first | omega | (simp only; omega))
      rw [show Cal.first (y - 1) + (tyLen u + o) = Cal.first y + o by omega] at this
      exact this
    · exact err (.inl ⟨by omega, by omega⟩)
theorem both_of (n p : Int) (n0 : minI ≤ n) (n1 : n ≤ maxI) (p0 : minI ≤ p) (p1 : p ≤ maxI) : Both n p := by
  by_cases hp : p = 0 ∨ p = 1
  rotate_left
  · have h : NoPlace p := ⟨p0, p1, by omega⟩
    have := of_err (n := n) (e := 1) (by decide) (cy_np h).1 (cy_np h).2
    exact ⟨_, _, _, _, this.1, this.2⟩
  have hpp : p ∈ places := by rcases hp with rfl | rfl <;> decide
  by_cases hin : -1373427 ≤ n ∧ n ≤ lastD
  · obtain ⟨y, y0, y1, y2, y3⟩ := year_of n hin.1 hin.2
    obtain ⟨t, h⟩ := yt_of y y0 y1
    have hl := h.len
    have := both_any h p hpp (n - Cal.first y) (by omega) (by omega)
    rwa [show Cal.first y + (n - Cal.first y) = n by omega] at this
  · have h : Outside n := ⟨n0, n1, by omega⟩
    have := of_err (e := 2) (by decide) (cy_out h p hpp).1 (cy_out h p hpp).2
    exact ⟨_, _, _, _, this.1, this.2⟩
end
end Go.Proofs.YtnikgcedifdaeaaGreatDoor.Sab
end

section
/- From the calendar's variables to those and the portions' names. Plain. -/
set_option linter.unusedVariables false
namespace Go.Proofs.YtnikgcedifdaeaaGreatDoor.Sab
open Go Go.Proofs.YtnikgcedifdaeaaGreatDoor.Ab
theorem glN {w : World} (h : baseN.G w) : base.G w := by
  intro x hx
  refine h x ?_
  have hx : x ∈ L_base := hx
  show x ∈ L_baseN
  simp only [L_base, L_baseN, List.mem_cons, List.not_mem_nil, or_false] at hx ⊢
  rcases hx with h | h
  · exact .inl h
  · exact .inr (.inl h)
theorem _root_.Go.Proofs.YtnikgcedifdaeaaGreatDoor.Ab.VC.toN {f : Nat} {vs : List Value} {r : Value} (h : VC base f vs r) : VC baseN f vs r := ⟨h.has, fun w hG => h.calls w (glN hG)⟩
theorem _root_.Go.Proofs.YtnikgcedifdaeaaGreatDoor.Ab.LVC.toN {f : Nat} {vs cells : List Value} {elem : TypeId} {sz n : Nat} {tup : Option Int} {opn : Bool} (h : LVC base f vs cells elem sz n tup opn) : LVC baseN f vs cells elem sz n tup opn := ⟨h.has, fun w hG => h.calls w (glN hG)⟩
end Go.Proofs.YtnikgcedifdaeaaGreatDoor.Sab
end

section
/- The example in the laws about readings. -/
set_option linter.unusedVariables false
set_option linter.unusedSimpArgs false
namespace Go.Proofs.YtnikgcedifdaeaaGreatDoor.Sab
open Go Go.Proofs.YtnikgcedifdaeaaGreatDoor.Ab
set_option maxRecDepth 100000
set_option maxHeartbeats 0
noncomputable section
abbrev fAwake : Nat := 12
abbrev fCycle : Nat := 41
def p84 : Ty × Ty := ((6, 0, true), (4, 2, false))
theorem f84 : Cal.first 5784 = 738779 := by decide +kernel
theorem yp84 : YP 5784 p84 := ⟨⟨by decide, by decide, by decide, by decide +kernel, by decide +kernel, by decide +kernel⟩, ⟨by decide, by decide, by decide, by decide +kernel, by decide +kernel, by decide +kernel⟩⟩
def rd84 : LR := ⟨((torahOff p84.1 0).map fun e => [iL e.1, iL e.2.1, iL (738779 + e.2.2)]).flatten, 29, 3, (torahOff p84.1 0).length, some 0, false, none⟩
theorem pl_rl (c : Int) (l : List (Int × Int × Int)) : allB pl0 ((l.map fun e => [iL e.1, iL e.2.1, iL (c + e.2.2)]).flatten) = true := by
  induction l with
  | nil => rfl
  | cons a r ih => exact ih
theorem rl_conc (ρ : Nat → Int) (f : Int) (l : List (Int × Int × Int)) : ((l.map fun e => [iL e.1, iL e.2.1, iL (f + e.2.2)]).flatten).map (conc0 ρ) = rdVals f l := by
  induction l with
  | nil => rfl
  | cons a r ih =>
    simp only [rdVals, List.map_cons, List.flatten_cons, List.cons_append, List.nil_append, conc0, den_l]
    congr 3
def vNo : Env := ⟨[], [], []⟩
theorem vNo_ok : vNo.Ok (rho []) := env_ok inB_nil (by simp) (by simp)
theorem cyc1_chk : isR (.tuple [iL 5784, iL 0]) (base.go vNo noO 400 fCycle [iL 738807, iL 0]) = true := by kernel_rfl
theorem cyc2_chk : isR (.tuple [iL 5784, iL 0]) (base.go vNo noO 400 fCycle [iL 738808, iL 0]) = true := by kernel_rfl
def mAwake : Memo := [(fCycle, [iL 738807, iL 0], .tuple [iL 5784, iL 0]), (fCycle, [iL 738808, iL 0], .tuple [iL 5784, iL 0])]
theorem awake_chk : isR (bL true) (baseN.goL vNo (memo mAwake) (memoL [(fTorah, [iL 5784, iL 0], rd84)]) 400 fAwake []) = true := by kernel_rfl
theorem awake_vc : VC baseN fAwake [] (.bool true) := by
  have c1 := (Base.ansB (ρ := rho []) base_fit vNo_ok OkO.none cyc1_chk rfl rfl).vc rfl rfl
  have c2 := (Base.ansB (ρ := rho []) base_fit vNo_ok OkO.none cyc2_chk rfl rfl).vc rfl rfl
  have hM : Memo.Ok baseN.P baseN.G (rho []) mAwake := .cons (c1.toN.ans rfl rfl rfl rfl) (.cons (c2.toN.ans rfl rfl rfl rfl) .nil)
  have hx : allB pl0 rd84.cs = true := pl_rl _ _
  have hL : LMemo.Ok baseN.P baseN.G (rho []) [(fTorah, [iL 5784, iL 0], rd84)] := by
    refine .cons (LVC.ans (x := rd84) (torah_lvc yp84 (by decide) 0 (by decide)).toN rfl hx ?_ ?_) .nil
    · simp [conc1, conc0, den_l]
    · rw [f84]
      exact (rl_conc _ _ _).symm
  have := (Base.ansL baseN_fit vNo_ok (OkO.memo hM) (OkL.memo hL) awake_chk rfl rfl).vc rfl rfl
  simpa [conc, conc1, conc0] using this
end
end Go.Proofs.YtnikgcedifdaeaaGreatDoor.Sab
end

section
/- Readings, names, pairs: what the code and the reference answer; the law, what is to be checked. -/
set_option linter.unusedVariables false
set_option linter.unusedSimpArgs false
namespace Go.Proofs.YtnikgcedifdaeaaGreatDoor.Sab
open Go Go.Proofs.YtnikgcedifdaeaaGreatDoor.Ab
set_option maxRecDepth 100000
set_option maxHeartbeats 0
noncomputable section
abbrev fName : Nat := 14
abbrev rName : Nat := 15
abbrev fPairF : Nat := 16
abbrev rPairF : Nat := 17
abbrev fTells : Nat := 3
def nilE (e : Int) : AV := .tuple [.nilslice, iL e]
theorem cnp_chk : allB (fun b => isR (nilE 1) (base.go (vNP b) noO 60 fTorah [iE 0 [(1, 1)], nE]) && isR (nilE 1) (base.go (vNP b) noO 60 rTorah [iE 0 [(1, 1)], nE])) bools = true := by kernel_rfl
def vNY (b : Bool) : Ab.Env := ⟨[bif b then (9999, maxI) else (minI, 0)], [], []⟩
theorem cny_chk : allB (fun pl => allB (fun b => isR (nilE 2) (base.go (vNY b) noO 60 fTorah [nE, iL pl]) && isR (nilE 2) (base.go (vNY b) noO 60 rTorah [nE, iL pl])) bools) places = true := by kernel_rfl
def nilV (e : Int) : Value := .tuple #[.slice none 0 0, iv e]
theorem cyc_np {y p : Int} (h : NoPlace p) : VC base fTorah [iv y, iv p] (nilV 1) ∧ VC base rTorah [iv y, iv p] (nilV 1) := by
  obtain ⟨b, hb, hV⟩ := np_ok h
  have c := allB_get cnp_chk b hb
  rw [Bool.and_eq_true] at c
  constructor
  · have := (Base.ansB base_fit (hV [y]) OkO.none c.1 rfl rfl).vc rfl rfl
    simp [nilE, conc, conc1, conc0, den_l] at this
    simpa [nilV, Lin.den, denT, rho] using this
  · have := (Base.ansB base_fit (hV [y]) OkO.none c.2 rfl rfl).vc rfl rfl
    simp [nilE, conc, conc1, conc0, den_l] at this
    simpa [nilV, Lin.den, denT, rho] using this
theorem cyc_ny {y : Int} (y0 : minI ≤ y) (y1 : y ≤ maxI) (h : y < 1 ∨ 9998 < y) (pl : Int) (hp : pl ∈ places) : VC base fTorah [iv y, iv pl] (nilV 2) ∧ VC base rTorah [iv y, iv pl] (nilV 2) := by
  obtain ⟨b, hb, hV⟩ : ∃ b ∈ bools, (vNY b).Ok (rho [y]) := by
    rcases h with g | g
    · exact ⟨false, by decide, env_ok (inB_cons y0 (by omega) inB_nil) (by simp [vNY]) (by simp [vNY])⟩
    · exact ⟨true, by decide, env_ok (inB_cons (by omega) y1 inB_nil) (by simp [vNY]) (by simp [vNY])⟩
  have c := allB_get (allB_get cny_chk pl hp) b hb
  rw [Bool.and_eq_true] at c
  constructor
  · have := (Base.ansB base_fit hV OkO.none c.1 rfl rfl).vc rfl rfl
    simpa [nilE, nilV, conc, conc1, conc0, den_n, den_l] using this
  · have := (Base.ansB base_fit hV OkO.none c.2 rfl rfl).vc rfl rfl
    simpa [nilE, nilV, conc, conc1, conc0, den_n, den_l] using this
def nameS : Int → List AV → List Nat
  | _, [] => []
  | n, .str s :: r => bif zero n then s else nameS (n - 1) r
  | n, _ :: r => nameS (n - 1) r
def nm (n : Int) : List Nat := nameS (n - 1) a_torah_names
def fiftyfour : List Int := (daysN 54).map (· + 1)
theorem nm_chk : allB (fun n => isR (.str (nm n)) (baseN.go vNo noO 100 fName [iL n]) && isR (.str (nm n)) (baseN.go vNo noO 100 rName [iL n]) && pl0 (.str (nm n))) fiftyfour = true := by kernel_rfl
def vN54 (b : Bool) : Ab.Env := ⟨[bif b then (55, maxI) else (minI, 0)], [], []⟩
theorem nmo_chk : allB (fun b => isR (.str []) (baseN.go (vN54 b) noO 100 fName [nE]) && isR (.str []) (baseN.go (vN54 b) noO 100 rName [nE]) && (isR (bL false) (baseN.go (vN54 b) noO 100 fPairF [nE]) && isR (bL false) (baseN.go (vN54 b) noO 100 rPairF [nE]))) bools = true := by kernel_rfl
def isP (n : Int) : Bool := isI' n 22 || isI' n 27 || isI' n 29 || isI' n 32 || isI' n 39 || isI' n 42 || isI' n 51
theorem pr_chk : allB (fun n => isR (bL (isP n)) (baseN.go vNo noO 100 fPairF [iL n]) && isR (bL (isP n)) (baseN.go vNo noO 100 rPairF [iL n])) fiftyfour = true := by kernel_rfl
theorem names_both (n : Int) (n0 : minI ≤ n) (n1 : n ≤ maxI) : ∃ (s : ByteArray) (b : Bool), (VC baseN fName [iv n] (.string s) ∧ VC baseN rName [iv n] (.string s)) ∧ VC baseN fPairF [iv n] (.bool b) ∧ VC baseN rPairF [iv n] (.bool b) := by
  by_cases hin : 1 ≤ n ∧ n ≤ 54
  · have hm : n ∈ fiftyfour := List.mem_map.2 ⟨n - 1, mem_daysN 54 _ (by omega) (by simp; omega), by omega⟩
    have c := allB_get nm_chk n hm
    have d := allB_get pr_chk n hm
    rw [Bool.and_eq_true, Bool.and_eq_true] at c
    rw [Bool.and_eq_true] at d
    have v1 := (Base.ansB baseN_fit vNo_ok OkO.none c.1.1 c.2 rfl).vc rfl c.2
    have v2 := (Base.ansB baseN_fit vNo_ok OkO.none c.1.2 c.2 rfl).vc rfl c.2
    have v3 := (Base.ansB baseN_fit vNo_ok OkO.none d.1 rfl rfl).vc rfl rfl
    have v4 := (Base.ansB baseN_fit vNo_ok OkO.none d.2 rfl rfl).vc rfl rfl
    refine ⟨bytesOf (nm n), isP n, ⟨?_, ?_⟩, ?_, ?_⟩
    · simpa [conc, conc1, conc0, den_l] using v1
    · simpa [conc, conc1, conc0, den_l] using v2
    · simpa [conc, conc1, conc0, den_l] using v3
    · simpa [conc, conc1, conc0, den_l] using v4
  · obtain ⟨b, hb, hV⟩ : ∃ b ∈ bools, (vN54 b).Ok (rho [n]) := by
      by_cases g : n < 1
      · exact ⟨false, by decide, env_ok (inB_cons n0 (by omega) inB_nil) (by simp [vN54]) (by simp [vN54])⟩
      · exact ⟨true, by decide, env_ok (inB_cons (by omega) n1 inB_nil) (by simp [vN54]) (by simp [vN54])⟩
    have c := allB_get nmo_chk b hb
    simp only [Bool.and_eq_true] at c
    have v1 := (Base.ansB baseN_fit hV OkO.none c.1.1 rfl rfl).vc rfl rfl
    have v2 := (Base.ansB baseN_fit hV OkO.none c.1.2 rfl rfl).vc rfl rfl
    have v3 := (Base.ansB baseN_fit hV OkO.none c.2.1 rfl rfl).vc rfl rfl
    have v4 := (Base.ansB baseN_fit hV OkO.none c.2.2 rfl rfl).vc rfl rfl
    refine ⟨bytesOf [], false, ⟨?_, ?_⟩, ?_, ?_⟩
    · simpa [conc, conc1, conc0, den_n] using v1
    · simpa [conc, conc1, conc0, den_n] using v2
    · simpa [conc, conc1, conc0, den_n] using v3
    · simpa [conc, conc1, conc0, den_n] using v4
/-- The year, its week; the day, the portion; the reading, how it ended; the name. -/
def vTl : Ab.Env := ⟨[(1, 9998), (-400000, 400000)], [], []⟩
def askA (y p : AV) : AV := .agg [y, p, iE 0 [(2, 1)], iE 0 [(3, 1)]]
def redT : AV := .tuple [.agg [iE 0 [(4, 1)], iE 0 [(5, 1)], iE 0 [(6, 1)]], iE 0 [(7, 1)]]
def mTl (p : AV) (b : Bool) : Memo := [(fAwake, [], bL true), (fTOf, [iE 0 [(2, 1)], p], redT), (rTOf, [iE 0 [(2, 1)], p], redT), (fName, [iE 0 [(3, 1)]], .tok 8), (rName, [iE 0 [(3, 1)]], .tok 8), (fPairF, [iE 0 [(3, 1)]], bL b), (rPairF, [iE 0 [(3, 1)]], bL b)]
def okTl (pl : Int) (t : Ty) : Bool := allB (fun b => isR (bL true) (baseN.goL vTl (memo (mTl (iL pl) b)) (memoL (rows1 t pl ++ rowsR t pl)) 400 fTells [askA (yE 0) (iL pl)])) bools
/-- Where there is no cycle. -/
def mTlE (p : AV) (b : Bool) (e : Int) : Memo := (fTorah, [nE, p], nilE e) :: (rTorah, [nE, p], nilE e) :: mTl p b
theorem tle_chk : allB (fun b => allB (fun e => allB (fun p => isR (bL true) (baseN.go vAny (memo (mTlE p b e)) 100 fTells [askA nE p])) [iE 0 [(1, 1)], iL 0, iL 1]) errs) bools = true := by kernel_rfl
end
end Go.Proofs.YtnikgcedifdaeaaGreatDoor.Sab
end
