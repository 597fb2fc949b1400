/- Texts of the proof, joined by a program (of one law): contracts of functions, plain laws. -/
import Derived.Test.YtnikgcedifdaeaaGreatDoorJXoEvK0
import Derived.Test.YtnikgcedifdaeaaGreatDoorJXoEvK2
import Derived.Test.YtnikgcedifdaeaaGreatDoorJX8
import Derived.Test.YtnikgcedifdaeaaGreatDoorJX9
import Derived.Test.YtnikgcedifdaeaaGreatDoorJX11
import Derived.Test.YtnikgcedifdaeaaGreatDoorJX10
set_option linter.unusedVariables false
set_option linter.unusedSimpArgs false
set_option linter.unusedSectionVars false
section
/- All events of a year, as a row. -/
set_option linter.unusedVariables false
set_option linter.unusedSimpArgs false
namespace Go.Proofs.YtnikgcedifdaeaaGreatDoor.Sab
open Go Go.Proofs.YtnikgcedifdaeaaGreatDoor.Ab
set_option maxRecDepth 100000
noncomputable section
theorem evs_chk : allB okEvs tyList = true :=
  allB_cons evs_chk_0 (allB_cons evs_chk_1 (allB_cons evs_chk_2 (allB_cons evs_chk_3 (allB_cons evs_chk_4 (allB_cons evs_chk_5 (allB_cons evs_chk_6 (allB_cons evs_chk_7 (allB_cons evs_chk_8 (allB_cons evs_chk_9 (allB_cons evs_chk_10 (allB_cons evs_chk_11 (allB_cons evs_chk_12 (allB_cons evs_chk_13 allB_nil)))))))))))))
set_option maxHeartbeats 0
theorem fast_chk : allB okFast tyList = true := by kernel_rfl
theorem chod_chk : allB okChod tyList = true := by kernel_rfl
theorem spec_chk : allB okSpec tyList = true := by kernel_rfl
theorem ev1_lvc {f : Nat} {l : Ty → List Ev} (c : allB (fun t => isLR (rowEv t.1 (l t)) base.A0.next (base.goL vTy (orElse (memo (mOf t)) (orElse (oWeek vTy) (oSort vTy))) noL 400 f [yE 0])) tyList = true) {y : Int} {t : Ty} (h : YT y t) : LVC base f [iv y] (evVals (Cal.first y) (l t)) 60 2 (l t).length (some 0) true := by
  have hx : allB pl0 (rowEv t.1 (l t)).cs = true := pl_evs _ _
  have := (Base.lansB base_fit (vTy_ok h) (OkO.orElse (OkO.memo (mOf_ok h [])) (OkO.orElse (oWeek_ok (vTy_ok h)) (oSort_ok (vTy_ok h)))) OkL.none (allB_get c t h.mem) hx rfl).vc rfl hx
  have e := evs_conc (ry y []) t.1 (Cal.first y) (l t) (fun o => den_f h o [])
  simp only [rowEv] at this
  rw [e] at this
  simpa [conc1, conc0, den_y, den_l] using this
theorem fast_lvc {y : Int} {t : Ty} (h : YT y t) : LVC base fFast [iv y] (evVals (Cal.first y) (fasts t)) 60 2 (fasts t).length (some 0) true := ev1_lvc fast_chk h
theorem spec_lvc {y : Int} {t : Ty} (h : YT y t) : LVC base fSpec [iv y] (evVals (Cal.first y) (specs t)) 60 2 (specs t).length (some 0) true := ev1_lvc spec_chk h
theorem chod_lvc {y : Int} {t : Ty} (h : YT y t) : LVC base fChod [iv y] (evVals (Cal.first y) (chods t)) 60 2 (chods t).length (some 0) true := by
  have hx : allB pl0 (rowEv t.1 (chods t)).cs = true := pl_evs _ _
  have := (Base.lansB base_fit (vTy_ok h) (OkO.memo (mOf_ok h [])) OkL.none (of_ty chod_chk h) hx rfl).vc rfl hx
  have e := evs_conc (ry y []) t.1 (Cal.first y) (chods t) (fun o => den_f h o [])
  simp only [rowEv] at this
  rw [e] at this
  simpa [conc1, conc0, den_y, den_l] using this
theorem mlEv_ok {y : Int} {t : Ty} (h : YT y t) (l : List Int) (pl : Int) (hp : pl ∈ places) : LMemo.Ok base.P base.G (ry y l) (mlEv t pl) := by
  refine .cons ((feast_lvc h pl hp).ans rfl (pl_evs _ _) ?_ ?_) (.cons ((fast_lvc h).ans rfl (pl_evs _ _) ?_ ?_) (.cons ((chod_lvc h).ans rfl (pl_evs _ _) ?_ ?_) (.cons ((spec_lvc h).ans rfl (pl_evs _ _) ?_ ?_) .nil)))
  · simp [conc1, conc0, den_y, den_l]
  · exact (evs_conc _ _ _ _ fun o => den_f h o l).symm
  · simp [conc1, conc0, den_y]
  · exact (evs_conc _ _ _ _ fun o => den_f h o l).symm
  · simp [conc1, conc0, den_y]
  · exact (evs_conc _ _ _ _ fun o => den_f h o l).symm
  · simp [conc1, conc0, den_y]
  · exact (evs_conc _ _ _ _ fun o => den_f h o l).symm
/-- All events of a year. -/
theorem events_lvc {y : Int} {t : Ty} (h : YT y t) (pl : Int) (hp : pl ∈ places) : LVC base fEvents [iv y, iv pl] (evVals (Cal.first y) (evs t pl)) 60 2 (evs t pl).length (some 0) true := by
  have c := allB_get (show allB (fun pl => isLR (rowEv t.1 (evs t pl)) base.A0.next (base.goL vTy (oSort vTy) (memoL (mlEv t pl)) 2000 fEvents [yE 0, iL pl])) places = true from of_ty evs_chk h) pl hp
  have hx : allB pl0 (rowEv t.1 (evs t pl)).cs = true := pl_evs _ _
  have := (Base.lansB base_fit (vTy_ok h) (oSort_ok (vTy_ok h)) (OkL.memo (mlEv_ok h [] pl hp)) c hx rfl).vc rfl hx
  have e := evs_conc (ry y []) t.1 (Cal.first y) (evs t pl) (fun o => den_f h o [])
  simp only [rowEv] at this
  rw [e] at this
  simpa [conc1, conc0, den_y, den_l] using this
end
end Go.Proofs.YtnikgcedifdaeaaGreatDoor.Sab
end

section
/- What there is to say of a day: the counted days, what is to be checked. -/
set_option linter.unusedVariables false
set_option linter.unusedSimpArgs false
namespace Go.Proofs.YtnikgcedifdaeaaGreatDoor.Sab
open Go Go.Proofs.YtnikgcedifdaeaaGreatDoor.Ab
set_option maxRecDepth 100000
noncomputable section
abbrev fOmer : Nat := 54
abbrev fTOf' : Nat := 10
abbrev fDayOf : Nat := 20
def headIs (a : Int) : List Int → Bool
  | [] => false
  | b :: _ => zero (a - b)
def dedup : List Int → List Int
  | [] => []
  | a :: r => bif headIs a r then dedup r else a :: dedup r
/-- The days of a year on which there is something. -/
def dayPts (t : Ty) (pl : Int) : List Int := dedup ((evs t pl).map fun e => e.1)
def inMon (m : Mon) (g : Int × Int) : Bool := ile m.a g.1 && ile g.2 (m.a + m.len - 1)
def monFor (g : Int × Int) : List Mon → Option Mon
  | [] => none
  | m :: r => bif inMon m g then some m else monFor g r
def omerOff (t : Ty) : Int := offD t 7 false 15
def civP : List AV := [iE 0 [(3, 1)], iE 0 [(4, 1)], iE 0 [(5, 1)]]
def redP (b : Bool) : List AV := bif b then [iE 0 [(7, 1)], iE 0 [(8, 1)], iE 0 [(9, 1)]] else [iL 0, iL 0, iL 0]
def rowsE (t : Ty) (pl : Int) : LMemo := [(fEvents, [yE 0, iL pl], rowEv t.1 (evs t pl))]
end
end Go.Proofs.YtnikgcedifdaeaaGreatDoor.Sab
end

section
/- What there is to say of a day, its events too: what is to be checked. -/
set_option linter.unusedVariables false
set_option linter.unusedSimpArgs false
namespace Go.Proofs.YtnikgcedifdaeaaGreatDoor.Sab
open Go Go.Proofs.YtnikgcedifdaeaaGreatDoor.Ab
set_option maxRecDepth 100000
noncomputable section
/-- The kinds on a day of the year. -/
def kindsOn (t : Ty) (pl o : Int) : List Int := ((evs t pl).filter fun e => zero (e.1 - o)).map (·.2)
/-- The unknowns: year, its week, the day of the year; the civil date; the weekday; the reading; how it ended; the month, the day of the month; the count. -/
def vDX (ob : Int × Int) (ne : List Lin) : Ab.Env := ⟨[(1, 9999), (-400000, 400000), ob, (-5000, 8000), (1, 12), (1, 31), (0, 6), (0, 60), (0, 60), (-2000000, 3000000), (1, 9), (1, 12), (1, 30), (0, 49)], [], ne.map fun f => (f, 0, 0)⟩
def hebX (ad : Bool) : List AV := [yE 0, iE 0 [(11, 1)], bL ad, iE 0 [(12, 1)]]
def mDX (nv : AV) (pl : Int) (ad b : Bool) : Memo := [(fFromDay, [nv], .tuple [.agg (hebX ad), iL 0]), (fWeekday, [nv], iE 0 [(6, 1)]), (fGFrom, [nv], .tuple [.agg civP, iL 0]), (fOmer, [nv], .tuple [iE 0 [(13, 1)], iL 0]),
  (fTOf', [nv, iL pl], .tuple [.agg (redP b), bif b then iL 0 else iE 0 [(10, 1)]])]
def headX (nv : AV) (ad : Bool) : List AV := nv :: (hebX ad ++ (civP ++ [iE 0 [(6, 1)], iE 0 [(13, 1)]]))
def boxX (nv : AV) (ad b : Bool) (ks : List Int) : LR := ⟨ks.map iL, 3, 1, ks.length, some 0, true, some (headX nv ad, redP b)⟩
def noneX (nv : AV) (ad b : Bool) : AV := .tuple [.agg (headX nv ad ++ .nilslice :: redP b), iL 0]
/-- A day with events. -/
def okDP (t : Ty) (pl o : Int) : Bool := match monFor (o, o) (mons t) with
  | none => false
  | some m => allB (fun b => bif b && !zero ((t.1 + o) % 7 - 6) then true else isLR (boxX (dE (t.1 + o)) m.ad b (kindsOn t pl o)) base.A0.next (base.goL (vDX (o, o) []) (memo (mDX (dE (t.1 + o)) pl m.ad b)) (memoL (rowsE t pl)) 400 fDayOf [dE (t.1 + o), iL pl])) bools
/-- The days without. -/
def nePts (t : Ty) (pl : Int) : List Lin := (dayPts t pl).map fun p => ⟨-p, [(2, 1)]⟩
def okDG (t : Ty) (pl : Int) : Bool := allB (fun ad => allB (fun b => isR (noneX (nO t) ad b) (base.goL (vDX (0, 390) (nePts t pl)) (memo (mDX (nO t) pl ad b)) (memoL (rowsE t pl)) 400 fDayOf [nO t, iL pl])) bools) bools
def okDPK (pl : Int) (t : Ty) (i : Nat) : Bool := allB (okDP t pl) (((dayPts t pl).drop (20 * i)).take 20)
def okDPs (pl : Int) (t : Ty) : Bool := allB (okDP t pl) (dayPts t pl)
def okDGs (pl : Int) (t : Ty) : Bool := okDG t pl
end
end Go.Proofs.YtnikgcedifdaeaaGreatDoor.Sab
end

section
/- What there is to say of a day: the counted days, readings of any day, what the classes' terms mean. -/
set_option linter.unusedVariables false
set_option linter.unusedSimpArgs false
namespace Go.Proofs.YtnikgcedifdaeaaGreatDoor.Sab
open Go Go.Proofs.YtnikgcedifdaeaaGreatDoor.Ab
set_option maxRecDepth 100000
noncomputable section
def omer (t : Ty) (o : Int) : Int := if omerOff t < o ∧ o ≤ omerOff t + 49 then o - omerOff t else 0
def vOm (g : Int × Int) : Ab.Env := ⟨[(1, 9999), (-400000, 400000), g, (1, 12), (1, 30)], [], []⟩
def mOm (t : Ty) (ad : Bool) : Memo := (fFromDay, [nO t], .tuple [.agg [yE 0, iE 0 [(3, 1)], bL ad, iE 0 [(4, 1)]], iL 0]) :: mOf t
def omCls (t : Ty) : List ((Int × Int) × AV) := [((0, omerOff t), iL 0), ((omerOff t + 1, omerOff t + 49), iE (-omerOff t) [(2, 1)]), ((omerOff t + 50, 390), iL 0)]
def okOm (t : Ty) : Bool := allB (fun ad => allB (fun c => isR (.tuple [c.2, iL 0]) (base.go (vOm c.1) (memo (mOm t ad)) 200 fOmer [nO t])) (omCls t)) bools
set_option maxHeartbeats 0 in
theorem om_chk : allB okOm tyList = true := by kernel_rfl
theorem om_bd : allB (fun t => ile 1 (omerOff t) && ile (omerOff t) 300 && ile (tyLen t) 385) tyList = true := by decide +kernel
theorem omer_vc {y : Int} {t : Ty} (h : YT y t) (o : Int) (o0 : 0 ≤ o) (o1 : o < tyLen t) : VC base fOmer [iv (Cal.first y + o)] (.tuple #[iv (omer t o), iv 0]) := by
  obtain ⟨num, d, ad, n0, n1, d0, d1, v⟩ := from_any h o o0 o1
  have hw := h.wd
  have hb := of_ty om_bd h
  simp only [Bool.and_eq_true, ile_iff] at hb
  obtain ⟨f0, f1⟩ := first_bd y h.low (by have := h.high; omega)
  have dn : Lin.den (ry y [o, num, d]) ⟨t.1, [(1, 7), (2, 1)]⟩ = Cal.first y + o := by simp [Lin.den, denT, ry, rho]; omega
  have dnum : Lin.den (ry y [o, num, d]) ⟨0, [(3, 1)]⟩ = num := by simp [Lin.den, denT, ry, rho]
  have dd : Lin.den (ry y [o, num, d]) ⟨0, [(4, 1)]⟩ = d := by simp [Lin.den, denT, ry, rho]
  have do' : ∀ c, Lin.den (ry y [o, num, d]) ⟨c, [(2, 1)]⟩ = c + o := fun c => by simp [Lin.den, denT, ry, rho]
  have hE : Memo.Ok base.P base.G (ry y [o, num, d]) (mOm t ad) := by
    refine .cons (v.ans rfl rfl ?_ ?_) (mOf_ok h _)
    · simp [nO, conc1, conc0, dn]
    · simp [conc, conc1, conc0, den_y, den_l, dnum, dd]
  have hba : ad ∈ bools := by cases ad <;> decide
  have c := allB_get (show allB (fun ad => allB (fun c => isR (.tuple [c.2, iL 0]) (base.go (vOm c.1) (memo (mOm t ad)) 200 fOmer [nO t])) (omCls t)) bools = true from of_ty om_chk h) ad hba
  have key : ∀ (x : (Int × Int) × AV), x ∈ omCls t → x.1.1 ≤ o → o ≤ x.1.2 → pl x.2 = true → pl1 x.2 = true → conc1 (ry y [o, num, d]) x.2 = iv (omer t o) → VC base fOmer [iv (Cal.first y + o)] (.tuple #[iv (omer t o), iv 0]) := by
    intro x hx x0 x1 hp hp1 e
    have hpl : pl (.tuple [x.2, iL 0]) = true := by
      show allB pl1 [x.2, iL 0] = true
      unfold allB
      rw [hp1]
      rfl
    have := (Base.ansB (ρ := ry y [o, num, d]) base_fit (env_ok (inB_cons h.low h.high (inB_cons (by omega) (by omega) (inB_cons x0 x1 (inB_cons n0 n1 (inB_cons d0 d1 inB_nil))))) (by simp [vOm]) (by simp [vOm])) (OkO.memo hE) (allB_get c x hx) hpl rfl).vc rfl hpl
    have e3 : conc (ry y [o, num, d]) (.tuple [x.2, iL 0]) = .tuple #[iv (omer t o), iv 0] := by
      show Value.tuple ([x.2, iL 0].map (conc1 _)).toArray = _
      rw [List.map_cons, e]
      simp [conc1, conc0, den_l]
    rw [e3] at this
    simpa [nO, conc1, conc0, dn] using this
  by_cases c1 : o ≤ omerOff t
  · refine key ((0, omerOff t), iL 0) (by simp [omCls]) o0 c1 rfl rfl ?_
    simp [conc1, conc0, den_l, omer]
    omega
  by_cases c2 : o ≤ omerOff t + 49
  · refine key ((omerOff t + 1, omerOff t + 49), iE (-omerOff t) [(2, 1)]) (by simp [omCls]) (by first | omega | (simp only; omega)) c2 rfl rfl ?_
    simp only [conc1, conc0, do']
    unfold omer
    rw [if_pos ⟨by omega, c2⟩]
    congr 1
    omega
  · refine key ((omerOff t + 50, 390), iL 0) (by simp [omCls]) (by first | omega | (simp only; omega)) (by first | omega | (simp only; omega)) rfl rfl ?_
    simp only [conc1, conc0, den_l]
    unfold omer
    rw [if_neg (by omega)]
theorem rd_bd : allB (fun t => allB (fun pl => allB (fun e => ile 0 e.1 && ile e.1 60 && (ile 0 e.2.1 && ile e.2.1 60) && (isI ((t.1 + e.2.2) % 7) 6 && (ile (23 - pl) e.2.2 && ile e.2.2 (tyLen t + (22 - pl)))) && (isI e.1 0 == isI e.2.1 0)) (torahOff t pl)) places) tyList = true := by decide +kernel
/-- What the reading of a day may be. -/
inductive Rd (n pl : Int) : Prop where
  | found (r1 r2 : Int) (a : 0 ≤ r1) (b : r1 ≤ 60) (c : 0 ≤ r2) (d : r2 ≤ 60) (z : r1 = 0 ↔ r2 = 0) (w : n % 7 = 6) (v : VC base fTOf [iv n, iv pl] (.tuple #[.agg #[iv r1, iv r2, iv n], iv 0]))
  | none (e : Int) (a : 1 ≤ e) (b : e ≤ 9) (v : VC base fTOf [iv n, iv pl] (.tuple #[.agg #[iv 0, iv 0, iv 0], iv e]))
theorem isI_iff (a b : Int) : isI a b = true ↔ a = b := by unfold isI; rw [zero_iff]; omega
theorem rd_cycle {y : Int} {p : Ty × Ty} (h : YP y p) (h9 : y ≤ 9998) (pl : Int) (hp : pl ∈ places) (o : Int) (o0 : 23 - pl ≤ o) (o1 : o ≤ tyLen p.1 + (22 - pl)) : Rd (Cal.first y + o) pl := by
  by_cases hw6 : (Cal.first y + o) % 7 = 6
  · obtain ⟨e, he, rfl⟩ := sat_of h pl hp o hw6 o0 o1
    have b := allB_get (allB_get (of_ty rd_bd h.a) pl hp) e he
    simp only [Bool.and_eq_true, ile_iff, isI_iff, beq_iff_eq] at b
    obtain ⟨⟨⟨⟨b1, b2⟩, b3, b4⟩, b5, b6, b7⟩, b8⟩ := b
    have hw := h.a.wd
    refine .found e.1 e.2.1 b1 b2 b3 b4 ?_ (by omega) (tof_p h h9 pl hp e he o0 o1)
    constructor
    · intro z
      rw [(isI_iff _ _).2 z] at b8
      exact (isI_iff _ _).1 b8.symm
    · intro z
      rw [(isI_iff _ _).2 z] at b8
      exact (isI_iff _ _).1 b8
  · exact .none 4 (by decide) (by decide) (tof_g h h9 pl hp o hw6 o0 o1)
theorem rd_any {y : Int} {t : Ty} (h : YT y t) (pl : Int) (hp : pl ∈ places) (o : Int) (o0 : 0 ≤ o) (o1 : o < tyLen t) : Rd (Cal.first y + o) pl := by
  have hpl : 0 ≤ pl ∧ pl ≤ 1 := by
    simp only [places, List.mem_cons, List.not_mem_nil, or_false] at hp
    omega
  have h0 := h.low
  have h9 := h.high
  by_cases c : 23 - pl ≤ o
  · by_cases c9 : y ≤ 9998
    · obtain ⟨u, hu⟩ := yt_of (y + 1) (by omega) (by omega)
      exact rd_cycle (p := (t, u)) ⟨h, hu⟩ c9 pl hp o c (by first | omega | (simp only; omega))
    · exact .none 2 (by decide) (by decide) (tof_e h pl hp o o0 o1 (.inr ⟨by omega, c⟩))
  · by_cases c1 : 2 ≤ y
    · obtain ⟨u, hu⟩ := yt_of (y - 1) (by omega) (by omega)
      have hu1 : YT (y - 1 + 1) t := by rw [show y - 1 + 1 = y by omega]; exact h
      have l := hu.len
      rw [show y - 1 + 1 = y by omega] at l
      have lp := of_ty long_pos hu
      rw [ile_iff] at lp
      have := rd_cycle (p := (u, t)) ⟨hu, hu1⟩ (by omega) pl hp (tyLen u + o) (by first | omega | (simp only; omega)) (by first | omega | (simp only; omega))
      rw [show Cal.first (y - 1) + (tyLen u + o) = Cal.first y + o by omega] at this
      exact this
    · exact .none 2 (by decide) (by decide) (tof_e h pl hp o o0 o1 (.inl ⟨by omega, by omega⟩))
theorem mons_one : allB (fun t => allB (fun m => allB (fun m' => bif ile m'.a (m.a + m.len - 1) && ile m.a (m'.a + m'.len - 1) then isI m.a m'.a && isI m.len m'.len && isI m.num m'.num && (m.ad == m'.ad) else true) (mons t)) (mons t)) tyList = true := by decide +kernel
theorem mon_eq {t : Ty} (ht : t ∈ tyList) {m m' : Mon} (hm : m ∈ mons t) (hm' : m' ∈ mons t) {o : Int} (a : m.a ≤ o ∧ o ≤ m.a + m.len - 1) (b : m'.a ≤ o ∧ o ≤ m'.a + m'.len - 1) : m = m' := by
  have c := allB_get (allB_get (allB_get mons_one t ht) m hm) m' hm'
  rw [show (ile m'.a (m.a + m.len - 1) && ile m.a (m'.a + m'.len - 1)) = true by rw [Bool.and_eq_true, ile_iff, ile_iff]; omega] at c
  simp only [cond_true, Bool.and_eq_true, isI_iff, beq_iff_eq] at c
  obtain ⟨⟨⟨h1, h2⟩, h3⟩, h4⟩ := c
  cases m
  cases m'
  simp only at h1 h2 h3 h4
  subst h1 h2 h3 h4
  rfl
theorem monFor_ok {g : Int × Int} {m : Mon} : ∀ {l : List Mon}, monFor g l = some m → m ∈ l ∧ m.a ≤ g.1 ∧ g.2 ≤ m.a + m.len - 1
  | [], h => by cases h
  | x :: r, h => by
    unfold monFor at h
    cases hc : inMon x g with
    | true =>
      rw [hc] at h
      obtain rfl := Option.some.inj h
      unfold inMon at hc
      simp only [Bool.and_eq_true, ile_iff] at hc
      exact ⟨List.mem_cons_self .., hc.1, hc.2⟩
    | false =>
      rw [hc] at h
      obtain ⟨h1, h2⟩ := monFor_ok (l := r) h
      exact ⟨List.mem_cons_of_mem _ h1, h2⟩
section
variable {y o : Int} {t : Ty} {g : Int × Int}
end
end
end Go.Proofs.YtnikgcedifdaeaaGreatDoor.Sab
end

section
/- What there is to say of a day: its calls' answers. -/
set_option linter.unusedVariables false
set_option linter.unusedSimpArgs false
namespace Go.Proofs.YtnikgcedifdaeaaGreatDoor.Sab
open Go Go.Proofs.YtnikgcedifdaeaaGreatDoor.Ab
set_option maxRecDepth 100000
noncomputable section
/-- How a reading is told: its cells, how the call ended. -/
def rdV (b : Bool) (r1 r2 r3 : Int) : List Value := bif b then [iv r1, iv r2, iv r3] else [iv 0, iv 0, iv 0]
theorem redP_pl (b : Bool) : allB pl0 (redP b) = true := by cases b <;> rfl
section
variable {y o cy cm cd r1 r2 r3 e pl : Int} {t : Ty} {g : Int × Int} {m : Mon} {b : Bool}
theorem redP_c (l : List Int) : (redP b).map (conc0 (ry y (o :: cy :: cm :: cd :: ((Cal.first y + o) % 7) :: r1 :: r2 :: r3 :: e :: l))) = rdV b r1 r2 r3 := by
  cases b <;> simp [redP, rdV, conc0, Lin.den, denT, ry, rho, Lin.lit]
theorem rowsE_ok (h : YT y t) (hp : pl ∈ places) (l : List Int) : LMemo.Ok base.P base.G (ry y l) (rowsE t pl) := by
  refine .cons ((events_lvc h pl hp).ans rfl (pl_evs _ _) ?_ ?_) .nil
  · simp [conc1, conc0, den_y, den_l]
  · exact (evs_conc _ _ _ _ fun o => den_f h o l).symm
end
theorem civ_bd {day y m d : Int} (h0 : -1373427 ≤ day) (h1 : day ≤ lastD) (h : Civ day y m d) : -4000 ≤ y ∧ y ≤ 7000 ∧ 1 ≤ m ∧ m ≤ 12 ∧ 1 ≤ d ∧ d ≤ 31 := by
  have h2 : day ≤ 2300000 := by unfold lastD at h1; omega
  obtain ⟨g0, g1, g2, g3⟩ := gyr_in day h0 h2
  obtain ⟨hy, x, hx, rfl, x1, x2, rfl⟩ := h
  rw [← hy] at g0 g1 g2 g3
  have bd : allB (fun lp => allB (fun x => ile 1 x.1 && ile x.1 12 && (ile 28 x.2.2 && ile x.2.2 31)) (gmons lp)) bools = true := by decide +kernel
  have hb : gLeap y ∈ bools := by cases gLeap y <;> decide
  have b := allB_get (allB_get bd _ hb) x hx
  simp only [Bool.and_eq_true, ile_iff] at b
  exact ⟨by omega, by omega, b.1.1, b.1.2, by omega, by omega⟩
end
end Go.Proofs.YtnikgcedifdaeaaGreatDoor.Sab
end

section
/- The example in the laws about days. -/
set_option linter.unusedVariables false
set_option linter.unusedSimpArgs false
namespace Go.Proofs.YtnikgcedifdaeaaGreatDoor.Sab
open Go Go.Proofs.YtnikgcedifdaeaaGreatDoor.Ab
set_option maxRecDepth 100000
set_option maxHeartbeats 0
noncomputable section
abbrev fAwake25 : Nat := 22
def t84 : Ty := (6, 0, true)
def q84 : Ty × Ty := ((6, 0, true), (4, 2, false))
theorem f84' : Cal.first 5784 = 738779 := by decide +kernel
theorem yq84 : YP 5784 q84 := ⟨⟨by decide, by decide, by decide, by decide +kernel, by decide +kernel, by decide +kernel⟩, ⟨by decide, by decide, by decide, by decide +kernel, by decide +kernel, by decide +kernel⟩⟩
def rdq84 : LR := ⟨((torahOff t84 0).map fun e => [iL e.1, iL e.2.1, iL (738779 + e.2.2)]).flatten, 29, 3, (torahOff t84 0).length, some 0, false, none⟩
def ev84 : LR := ⟨((evs t84 0).map fun e => [iL e.2, iL (738779 + e.1)]).flatten, 60, 2, (evs t84 0).length, some 0, true, none⟩
theorem pl_rq (c : Int) (l : List (Int × Int × Int)) : allB pl0 ((l.map fun e => [iL e.1, iL e.2.1, iL (c + e.2.2)]).flatten) = true := by
  induction l with
  | nil => rfl
  | cons a r ih => exact ih
theorem rq_conc (ρ : Nat → Int) (f : Int) (l : List (Int × Int × Int)) : ((l.map fun e => [iL e.1, iL e.2.1, iL (f + e.2.2)]).flatten).map (conc0 ρ) = rdVals f l := by
  induction l with
  | nil => rfl
  | cons a r ih =>
    simp only [rdVals, List.map_cons, List.flatten_cons, List.cons_append, List.nil_append, conc0, den_l]
    congr 3
theorem pl_eq (c : Int) (l : List Ev) : allB pl0 ((l.map fun e => [iL e.2, iL (c + e.1)]).flatten) = true := by
  induction l with
  | nil => rfl
  | cons a r ih => exact ih
theorem eq_conc (ρ : Nat → Int) (f : Int) (l : List Ev) : ((l.map fun e => [iL e.2, iL (f + e.1)]).flatten).map (conc0 ρ) = evVals f l := by
  induction l with
  | nil => rfl
  | cons a r ih =>
    simp only [evVals, List.map_cons, List.flatten_cons, List.cons_append, List.nil_append, conc0, den_l]
    congr 2
def vNon : Ab.Env := ⟨[], [], []⟩
theorem vNon_ok : vNon.Ok (rho []) := env_ok inB_nil (by simp [vNon]) (by simp [vNon])
def mAw25 : Memo := [(fFromDay, [iL 738999], .tuple [.agg [iL 5784, iL 7, bL false, iL 15], iL 0]), (fGFrom, [iL 738999], .tuple [.agg [iL 2024, iL 4, iL 23], iL 0]), (fOmer, [iL 738999], .tuple [iL 0, iL 0]), (fCyc, [iL 738999, iL 0], .tuple [iL 5784, iL 0])]
def lAw25 : LMemo := [(fEvents, [iL 5784, iL 0], ev84), (fTorah, [iL 5784, iL 0], rdq84)]
theorem awake25_chk : isR (bL true) (base.goL vNon (memo mAw25) (memoL lAw25) 400 fAwake25 []) = true := by kernel_rfl
theorem civ84 : Civ 738999 2024 4 23 := ⟨by decide +kernel, (4, 91, 30), by decide +kernel, rfl, by decide +kernel, by decide +kernel, by decide +kernel⟩
theorem mem84 : (⟨206, 30, 7, false⟩ : Mon) ∈ mons q84.1 := List.mem_of_getElem? (i := 7) rfl
theorem awake25_vc : VC base fAwake25 [] (.bool true) := by
  have e0 : Cal.first 5784 + 220 = 738999 := by rw [f84']; rfl
  have v1 := from_vc yq84.a ⟨206, 30, 7, false⟩ mem84 14 (by decide) (by decide)
  rw [show Cal.first 5784 + ((206 : Int) + 14) = 738999 by rw [f84']; rfl] at v1
  have v2 := gfrom_vc (day := 738999) (by decide) (by decide) civ84
  have v3 := omer_vc yq84.a 220 (by decide) (by decide +kernel)
  rw [e0] at v3
  have o0 : omer q84.1 220 = 0 := by decide +kernel
  rw [o0] at v3
  have v4 := cyc_vc yq84.a (by decide) 0 (by decide) 220 (by decide) (by decide +kernel)
  rw [e0] at v4
  have hM : Memo.Ok base.P base.G (rho []) mAw25 := .cons (v1.ans rfl rfl rfl rfl) (.cons (v2.ans rfl rfl rfl rfl) (.cons (v3.ans rfl rfl rfl rfl) (.cons (v4.ans rfl rfl rfl rfl) .nil)))
  have hx : allB pl0 rdq84.cs = true := pl_rq _ _
  have hx2 : allB pl0 ev84.cs = true := pl_eq _ _
  have hL : LMemo.Ok base.P base.G (rho []) lAw25 := by
    refine .cons (LVC.ans (x := ev84) (events_lvc yq84.a 0 (by decide)) rfl hx2 rfl ?_) (.cons (LVC.ans (x := rdq84) (torah_lvc yq84 (by decide) 0 (by decide)) rfl hx rfl ?_) .nil)
    · rw [f84']
      exact (eq_conc _ _ _).symm
    · rw [f84']
      exact (rq_conc _ _ _).symm
  have := (Base.ansL base_fit vNon_ok (OkO.memo hM) (OkL.memo hL) awake25_chk rfl rfl).vc rfl rfl
  simpa [conc, conc1, conc0] using this
end
end Go.Proofs.YtnikgcedifdaeaaGreatDoor.Sab
end

section
/- Both dates are of that day, its events those of its year on that day: what is to be checked. -/
set_option linter.unusedVariables false
set_option linter.unusedSimpArgs false
namespace Go.Proofs.YtnikgcedifdaeaaGreatDoor.Sab
open Go Go.Proofs.YtnikgcedifdaeaaGreatDoor.Ab
set_option maxRecDepth 100000
noncomputable section
abbrev fBoth : Nat := 5
/-- 0: no reading; 1: one with portions; 2: one without. -/
def modesX : List Nat := [0, 1, 2]
/-- The unknowns: as those of a day; and the place's byte. -/
def vBX (md : Nat) (nl : Lin) (ob : Int × Int) (ne : List Lin) : Ab.Env := ⟨[(1, 9999), (-400000, 400000), ob, (-5000, 8000), (1, 12), (1, 31), (0, 6), (1, 60), (1, 60), (-2000000, 3000000), (1, 9), (1, 12), (1, 30), (0, 49), (0, 127)], [], (bif natIs md 0 then ne else nl :: ne).map fun f => (f, 0, 0)⟩
/-- The weekday, the reading. -/
def wX (md : Nat) : AV := bif natIs md 0 then iE 0 [(6, 1)] else iL 6
def rX (nv : AV) (md : Nat) : List AV := bif natIs md 0 then [iL 0, iL 0, iL 0] else bif natIs md 1 then [iE 0 [(7, 1)], iE 0 [(8, 1)], nv] else [iL 0, iL 0, nv]
def headB (nv : AV) (ad : Bool) (md : Nat) : List AV := nv :: (hebX ad ++ (civP ++ [wX md, iE 0 [(13, 1)]]))
def mBX (nv : AV) (ad : Bool) (md : Nat) : Memo := [(rFromDay, [nv], .tuple [.agg (hebX ad), iL 0]), (rGFrom, [nv], .tuple [.agg civP, iL 0]), (rWeek, [nv], wX md), (fAwake25, [], bL true)]
def lBX (t : Ty) (pl : Int) (nv : AV) (ad : Bool) (md : Nat) (ks : List Int) : LMemo := (fDayOf, [nv, iL pl], ⟨ks.map iL, 3, 1, ks.length, some 0, true, some (headB nv ad md, rX nv md)⟩) :: rowsE t pl
def argX (pl : Int) : AV := .int .u8 ⟨pl, [(14, 2)]⟩
/-- Days with events. -/
def okBP (t : Ty) (pl o : Int) : Bool := match monFor (o, o) (mons t) with
  | none => false
  | some m => allB (fun md => bif !natIs md 0 && !zero ((t.1 + o) % 7 - 6) then true else isR (bL true) (base.goL (vBX md ⟨t.1 + o, [(1, 7)]⟩ (o, o) []) (memo (mBX (dE (t.1 + o)) m.ad md)) (memoL (lBX t pl (dE (t.1 + o)) m.ad md (kindsOn t pl o))) 400 fBoth [dE (t.1 + o), argX pl])) modesX
/-- Days without. -/
def okBG (t : Ty) (pl : Int) : Bool := allB (fun ad => allB (fun md => isR (bL true) (base.goL (vBX md ⟨t.1, [(1, 7), (2, 1)]⟩ (0, 390) (nePts t pl)) (memo ((fDayOf, [nO t, iL pl], .tuple [.agg (headB (nO t) ad md ++ .nilslice :: rX (nO t) md), iL 0]) :: mBX (nO t) ad md)) (memoL (rowsE t pl)) 400 fBoth [nO t, argX pl])) modesX) bools
def okBPK (pl : Int) (t : Ty) (i : Nat) : Bool := allB (okBP t pl) (((dayPts t pl).drop (12 * i)).take 12)
def okBPs (pl : Int) (t : Ty) : Bool := allB (okBP t pl) (dayPts t pl)
def okBGs (pl : Int) (t : Ty) : Bool := okBG t pl
end
end Go.Proofs.YtnikgcedifdaeaaGreatDoor.Sab
end
