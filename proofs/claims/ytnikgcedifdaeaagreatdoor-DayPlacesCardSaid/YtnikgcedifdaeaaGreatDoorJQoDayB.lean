/- Texts of the proof, joined by a program (of one law): contracts of functions, plain laws. -/
import Derived.Test.YtnikgcedifdaeaaGreatDoorJQoDayA
import Derived.Test.YtnikgcedifdaeaaGreatDoorJQ11
set_option linter.unusedVariables false
set_option linter.unusedSimpArgs false
set_option linter.unusedSectionVars false
section
/- What there is to say of a day: the counted days, readings of any day, what the classes' terms mean. -/
set_option linter.unusedVariables false
set_option linter.unusedSimpArgs false
namespace Go.Proofs.YtnikgcedifdaeaaGreatDoor.Sab
open Go Go.Proofs.YtnikgcedifdaeaaGreatDoor.Ab
set_option maxRecDepth 100000
noncomputable section
def omer (t : Ty) (o : Int) : Int := if omerOff t < o ∧ o ≤ omerOff t + 49 then o - omerOff t else 0
def vOm (g : Int × Int) : Ab.Env := ⟨[(1, 9999), (-400000, 400000), g, (1, 12), (1, 30)], [], []⟩
def mOm (t : Ty) (ad : Bool) : Memo := (fFromDay, [nO t], .tuple [.agg [yE 0, iE 0 [(3, 1)], bL ad, iE 0 [(4, 1)]], iL 0]) :: mOf t
def omCls (t : Ty) : List ((Int × Int) × AV) := [((0, omerOff t), iL 0), ((omerOff t + 1, omerOff t + 49), iE (-omerOff t) [(2, 1)]), ((omerOff t + 50, 390), iL 0)]
def okOm (t : Ty) : Bool := allB (fun ad => allB (fun c => isR (.tuple [c.2, iL 0]) (base.go (vOm c.1) (memo (mOm t ad)) 200 fOmer [nO t])) (omCls t)) bools
set_option maxHeartbeats 0 in
theorem om_chk : allB okOm tyList = true := by kernel_rfl
theorem om_bd : allB (fun t => ile 1 (omerOff t) && ile (omerOff t) 300 && ile (tyLen t) 385) tyList = true := by decide +kernel
theorem omer_vc {y : Int} {t : Ty} (h : YT y t) (o : Int) (o0 : 0 ≤ o) (o1 : o < tyLen t) : VC base fOmer [iv (Cal.first y + o)] (.tuple #[iv (omer t o), iv 0]) := by
  obtain ⟨num, d, ad, n0, n1, d0, d1, v⟩ := from_any h o o0 o1
  have hw := h.wd
  have hb := of_ty om_bd h
  simp only [Bool.and_eq_true, ile_iff] at hb
  obtain ⟨f0, f1⟩ := first_bd y h.low (by have := h.high; omega)
  have dn : Lin.den (ry y [o, num, d]) ⟨t.1, [(1, 7), (2, 1)]⟩ = Cal.first y + o := by simp [Lin.den, denT, ry, rho]; omega
  have dnum : Lin.den (ry y [o, num, d]) ⟨0, [(3, 1)]⟩ = num := by simp [Lin.den, denT, ry, rho]
  have dd : Lin.den (ry y [o, num, d]) ⟨0, [(4, 1)]⟩ = d := by simp [Lin.den, denT, ry, rho]
  have do' : ∀ c, Lin.den (ry y [o, num, d]) ⟨c, [(2, 1)]⟩ = c + o := fun c => by simp [Lin.den, denT, ry, rho]
  have hE : Memo.Ok base.P base.G (ry y [o, num, d]) (mOm t ad) := by
    refine .cons (v.ans rfl rfl ?_ ?_) (mOf_ok h _)
    · simp [nO, conc1, conc0, dn]
    · simp [conc, conc1, conc0, den_y, den_l, dnum, dd]
  have hba : ad ∈ bools := by cases ad <;> decide
  have c := allB_get (show allB (fun ad => allB (fun c => isR (.tuple [c.2, iL 0]) (base.go (vOm c.1) (memo (mOm t ad)) 200 fOmer [nO t])) (omCls t)) bools = true from of_ty om_chk h) ad hba
  have key : ∀ (x : (Int × Int) × AV), x ∈ omCls t → x.1.1 ≤ o → o ≤ x.1.2 → pl x.2 = true → pl1 x.2 = true → conc1 (ry y [o, num, d]) x.2 = iv (omer t o) → VC base fOmer [iv (Cal.first y + o)] (.tuple #[iv (omer t o), iv 0]) := by
    intro x hx x0 x1 hp hp1 e
    have hpl : pl (.tuple [x.2, iL 0]) = true := by
      show allB pl1 [x.2, iL 0] = true
      unfold allB
      rw [hp1]
      rfl
    have := (Base.ansB (ρ := ry y [o, num, d]) base_fit (env_ok (inB_cons h.low h.high (inB_cons (by omega) (by omega) (inB_cons x0 x1 (inB_cons n0 n1 (inB_cons d0 d1 inB_nil))))) (by simp [vOm]) (by simp [vOm])) (OkO.memo hE) (allB_get c x hx) hpl rfl).vc rfl hpl
    have e3 : conc (ry y [o, num, d]) (.tuple [x.2, iL 0]) = .tuple #[iv (omer t o), iv 0] := by
      show Value.tuple ([x.2, iL 0].map (conc1 _)).toArray = _
      rw [List.map_cons, e]
      simp [conc1, conc0, den_l]
    rw [e3] at this
    simpa [nO, conc1, conc0, dn] using this
  by_cases c1 : o ≤ omerOff t
  · refine key ((0, omerOff t), iL 0) (by simp [omCls]) o0 c1 rfl rfl ?_
    simp [conc1, conc0, den_l, omer]
    omega
  by_cases c2 : o ≤ omerOff t + 49
  · refine key ((omerOff t + 1, omerOff t + 49), iE (-omerOff t) [(2, 1)]) (by simp [omCls]) (by first | omega | (simp only; omega)) c2 rfl rfl ?_
    simp only [conc1, conc0, do']
    unfold omer
    rw [if_pos ⟨by omega, c2⟩]
    congr 1
    omega
  · refine key ((omerOff t + 50, 390), iL 0) (by simp [omCls]) (by first | omega | (simp only; omega)) (by first | omega | (simp only; omega)) rfl rfl ?_
    simp only [conc1, conc0, den_l]
    unfold omer
    rw [if_neg (by omega)]
theorem rd_bd : allB (fun t => allB (fun pl => allB (fun e => ile 0 e.1 && ile e.1 60 && (ile 0 e.2.1 && ile e.2.1 60) && (isI ((t.1 + e.2.2) % 7) 6 && (ile (23 - pl) e.2.2 && ile e.2.2 (tyLen t + (22 - pl)))) && (isI e.1 0 == isI e.2.1 0)) (torahOff t pl)) places) tyList = true := by decide +kernel
/-- What the reading of a day may be. -/
inductive Rd (n pl : Int) : Prop where
  | found (r1 r2 : Int) (a : 0 ≤ r1) (b : r1 ≤ 60) (c : 0 ≤ r2) (d : r2 ≤ 60) (z : r1 = 0 ↔ r2 = 0) (w : n % 7 = 6) (v : VC base fTOf [iv n, iv pl] (.tuple #[.agg #[iv r1, iv r2, iv n], iv 0]))
  | none (e : Int) (a : 1 ≤ e) (b : e ≤ 9) (v : VC base fTOf [iv n, iv pl] (.tuple #[.agg #[iv 0, iv 0, iv 0], iv e]))
theorem isI_iff (a b : Int) : isI a b = true ↔ a = b := by unfold isI; rw [zero_iff]; omega
theorem rd_cycle {y : Int} {p : Ty × Ty} (h : YP y p) (h9 : y ≤ 9998) (pl : Int) (hp : pl ∈ places) (o : Int) (o0 : 23 - pl ≤ o) (o1 : o ≤ tyLen p.1 + (22 - pl)) : Rd (Cal.first y + o) pl := by
  by_cases hw6 : (Cal.first y + o) % 7 = 6
  · obtain ⟨e, he, rfl⟩ := sat_of h pl hp o hw6 o0 o1
    have b := allB_get (allB_get (of_ty rd_bd h.a) pl hp) e he
    simp only [Bool.and_eq_true, ile_iff, isI_iff, beq_iff_eq] at b
    obtain ⟨⟨⟨⟨b1, b2⟩, b3, b4⟩, b5, b6, b7⟩, b8⟩ := b
    have hw := h.a.wd
    refine .found e.1 e.2.1 b1 b2 b3 b4 ?_ (by omega) (tof_p h h9 pl hp e he o0 o1)
    constructor
    · intro z
      rw [(isI_iff _ _).2 z] at b8
      exact (isI_iff _ _).1 b8.symm
    · intro z
      rw [(isI_iff _ _).2 z] at b8
      exact (isI_iff _ _).1 b8
  · exact .none 4 (by decide) (by decide) (tof_g h h9 pl hp o hw6 o0 o1)
theorem rd_any {y : Int} {t : Ty} (h : YT y t) (pl : Int) (hp : pl ∈ places) (o : Int) (o0 : 0 ≤ o) (o1 : o < tyLen t) : Rd (Cal.first y + o) pl := by
  have hpl : 0 ≤ pl ∧ pl ≤ 1 := by
    simp only [places, List.mem_cons, List.not_mem_nil, or_false] at hp
    omega
  have h0 := h.low
  have h9 := h.high
  by_cases c : 23 - pl ≤ o
  · by_cases c9 : y ≤ 9998
    · obtain ⟨u, hu⟩ := yt_of (y + 1) (by omega) (by omega)
      exact rd_cycle (p := (t, u)) ⟨h, hu⟩ c9 pl hp o c (by first | omega | (simp only; omega))
    · exact .none 2 (by decide) (by decide) (tof_e h pl hp o o0 o1 (.inr ⟨by omega, c⟩))
  · by_cases c1 : 2 ≤ y
    · obtain ⟨u, hu⟩ := yt_of (y - 1) (by omega) (by omega)
      have hu1 : YT (y - 1 + 1) t := by rw [show y - 1 + 1 = y by omega]; exact h
      have l := hu.len
      rw [show y - 1 + 1 = y by omega] at l
      have lp := of_ty long_pos hu
      rw [ile_iff] at lp
      have := rd_cycle (p := (u, t)) ⟨hu, hu1⟩ (by omega) pl hp (tyLen u + o) (by first | omega | (simp only; omega)) (by first | omega | (simp only; omega))
      rw [show Cal.first (y - 1) + (tyLen u + o) = Cal.first y + o by omega] at this
      exact this
    · exact .none 2 (by decide) (by decide) (tof_e h pl hp o o0 o1 (.inl ⟨by omega, by omega⟩))
theorem mons_one : allB (fun t => allB (fun m => allB (fun m' => bif ile m'.a (m.a + m.len - 1) && ile m.a (m'.a + m'.len - 1) then isI m.a m'.a && isI m.len m'.len && isI m.num m'.num && (m.ad == m'.ad) else true) (mons t)) (mons t)) tyList = true := by decide +kernel
theorem mon_eq {t : Ty} (ht : t ∈ tyList) {m m' : Mon} (hm : m ∈ mons t) (hm' : m' ∈ mons t) {o : Int} (a : m.a ≤ o ∧ o ≤ m.a + m.len - 1) (b : m'.a ≤ o ∧ o ≤ m'.a + m'.len - 1) : m = m' := by
  have c := allB_get (allB_get (allB_get mons_one t ht) m hm) m' hm'
  rw [show (ile m'.a (m.a + m.len - 1) && ile m.a (m'.a + m'.len - 1)) = true by rw [Bool.and_eq_true, ile_iff, ile_iff]; omega] at c
  simp only [cond_true, Bool.and_eq_true, isI_iff, beq_iff_eq] at c
  obtain ⟨⟨⟨h1, h2⟩, h3⟩, h4⟩ := c
  cases m
  cases m'
  simp only at h1 h2 h3 h4
  subst h1 h2 h3 h4
  rfl
theorem monFor_ok {g : Int × Int} {m : Mon} : ∀ {l : List Mon}, monFor g l = some m → m ∈ l ∧ m.a ≤ g.1 ∧ g.2 ≤ m.a + m.len - 1
  | [], h => by cases h
  | x :: r, h => by
    unfold monFor at h
    cases hc : inMon x g with
    | true =>
      rw [hc] at h
      obtain rfl := Option.some.inj h
      unfold inMon at hc
      simp only [Bool.and_eq_true, ile_iff] at hc
      exact ⟨List.mem_cons_self .., hc.1, hc.2⟩
    | false =>
      rw [hc] at h
      obtain ⟨h1, h2⟩ := monFor_ok (l := r) h
      exact ⟨List.mem_cons_of_mem _ h1, h2⟩
theorem cls_all (t : Ty) (pl o : Int) (o0 : 0 ≤ o) (o1 : o < tyLen t) : ∃ g ∈ classes t pl, g.1 ≤ o ∧ o ≤ g.2 := by
  rcases gaps_all (dayPts t pl) 0 (tyLen t - 1) o o0 (by omega) with h | ⟨g, hg, h⟩
  · exact ⟨(o, o), List.mem_append_left _ (List.mem_map.2 ⟨o, h, rfl⟩), Int.le_refl _, Int.le_refl _⟩
  · exact ⟨g, List.mem_append_right _ hg, h⟩
section
variable {y o : Int} {t : Ty} {g : Int × Int}
theorem nP_c (h : YT y t) (g0 : g.1 ≤ o) (g1 : o ≤ g.2) (l : List Int) : conc1 (ry y (o :: l)) (nP t g) = iv (Cal.first y + o) := by
  have hw := h.wd
  unfold nP
  cases hz : zero (g.2 - g.1) with
  | true =>
    have := (zero_iff _).1 hz
    simp only [cond_true, conc1, conc0, den_f h]
    congr 1
    omega
  | false =>
    simp only [cond_false, nO, conc1, conc0]
    congr 1
    simp [Lin.den, denT, ry, rho]
    omega
theorem oP_c (g0 : g.1 ≤ o) (g1 : o ≤ g.2) (c : Int) (l : List Int) : conc0 (ry y (o :: l)) (oP c g) = iv (c + o) := by
  unfold oP
  cases hz : zero (g.2 - g.1) with
  | true =>
    have := (zero_iff _).1 hz
    simp only [cond_true, conc0, den_l]
    congr 1
    omega
  | false =>
    simp only [cond_false, conc0]
    congr 1
    simp [Lin.den, denT, ry, rho]
theorem wP_c (h : YT y t) (g0 : g.1 ≤ o) (g1 : o ≤ g.2) (a b c : Int) (l : List Int) : conc0 (ry y (o :: a :: b :: c :: ((Cal.first y + o) % 7) :: l)) (wP t g) = iv ((Cal.first y + o) % 7) := by
  have hw := h.wd
  unfold wP
  cases hz : zero (g.2 - g.1) with
  | true =>
    have := (zero_iff _).1 hz
    simp only [cond_true, conc0, den_l]
    congr 1
    omega
  | false =>
    simp only [cond_false, conc0]
    congr 1
    simp [Lin.den, denT, ry, rho]
theorem omP_c (h : YT y t) (hg : (omerIn t g || omerOut t g) = true) (g0 : g.1 ≤ o) (g1 : o ≤ g.2) (l : List Int) : conc0 (ry y (o :: l)) (omP t g) = iv (omer t o) := by
  unfold omP
  cases hz : omerIn t g with
  | true =>
    unfold omerIn at hz
    simp only [Bool.and_eq_true, ile_iff] at hz
    simp only [cond_true]
    rw [oP_c g0 g1]
    unfold omer
    rw [if_pos ⟨by omega, by omega⟩]
    congr 1
    omega
  | false =>
    rw [hz] at hg
    unfold omerOut at hg
    simp only [Bool.false_or, Bool.or_eq_true, ile_iff] at hg
    simp only [cond_false, conc0, den_l]
    unfold omer
    rw [if_neg (by omega)]
theorem pl0_nP (t : Ty) (g : Int × Int) : pl0 (nP t g) = true := by unfold nP; cases zero (g.2 - g.1) <;> rfl
theorem pl1_nP (t : Ty) (g : Int × Int) : pl1 (nP t g) = true := by unfold nP; cases zero (g.2 - g.1) <;> rfl
theorem pl0_wP (t : Ty) (g : Int × Int) : pl0 (wP t g) = true := by unfold wP; cases zero (g.2 - g.1) <;> rfl
theorem pl0_oP (c : Int) (g : Int × Int) : pl0 (oP c g) = true := by unfold oP; cases zero (g.2 - g.1) <;> rfl
theorem pl0_omP (t : Ty) (g : Int × Int) : pl0 (omP t g) = true := by
  unfold omP
  cases omerIn t g
  · rfl
  · exact pl0_oP _ _
end
end
end Go.Proofs.YtnikgcedifdaeaaGreatDoor.Sab
end
