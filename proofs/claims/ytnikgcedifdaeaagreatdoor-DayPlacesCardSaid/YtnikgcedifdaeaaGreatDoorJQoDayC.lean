/- Texts of the proof, joined by a program (of one law): contracts of functions, plain laws. -/
import Derived.Test.YtnikgcedifdaeaaGreatDoorJQoDayB
set_option linter.unusedVariables false
set_option linter.unusedSimpArgs false
set_option linter.unusedSectionVars false
section
/- What there is to say of a day: its calls' answers. -/
set_option linter.unusedVariables false
set_option linter.unusedSimpArgs false
namespace Go.Proofs.YtnikgcedifdaeaaGreatDoor.Sab
open Go Go.Proofs.YtnikgcedifdaeaaGreatDoor.Ab
set_option maxRecDepth 100000
noncomputable section
theorem heb_pl (m : Mon) (g : Int × Int) : allB pl0 (hebP m g) = true := allB_cons rfl (allB_cons rfl (allB_cons rfl (allB_cons (pl0_oP _ _) allB_nil)))
/-- How a reading is told: its cells, how the call ended. -/
def rdV (b : Bool) (r1 r2 r3 : Int) : List Value := bif b then [iv r1, iv r2, iv r3] else [iv 0, iv 0, iv 0]
theorem redP_pl (b : Bool) : allB pl0 (redP b) = true := by cases b <;> rfl
section
variable {y o cy cm cd r1 r2 r3 e pl : Int} {t : Ty} {g : Int × Int} {m : Mon} {b : Bool}
theorem redP_c (l : List Int) : (redP b).map (conc0 (ry y (o :: cy :: cm :: cd :: ((Cal.first y + o) % 7) :: r1 :: r2 :: r3 :: e :: l))) = rdV b r1 r2 r3 := by
  cases b <;> simp [redP, rdV, conc0, Lin.den, denT, ry, rho, Lin.lit]
theorem hebP_c (g0 : g.1 ≤ o) (g1 : o ≤ g.2) (l : List Int) : (hebP m g).map (conc0 (ry y (o :: l))) = [iv y, iv m.num, .bool m.ad, iv (1 + (o - m.a))] := by
  show [conc0 _ (yE 0), conc0 _ (iL m.num), conc0 _ (bL m.ad), conc0 _ (oP (1 - m.a) g)] = _
  rw [oP_c g0 g1, show 1 - m.a + o = 1 + (o - m.a) by omega]
  simp [conc0, den_y, den_l]
theorem civP_c (l : List Int) : civP.map (conc0 (ry y (o :: cy :: cm :: cd :: l))) = [iv cy, iv cm, iv cd] := by
  simp [civP, conc0, Lin.den, denT, ry, rho]
theorem mDayOf_ok (h : YT y t) (hp : pl ∈ places) (hm : m ∈ mons t) (ma : m.a ≤ g.1) (mb : g.2 ≤ m.a + m.len - 1) (hom : (omerIn t g || omerOut t g) = true) (g0 : g.1 ≤ o) (g1 : o ≤ g.2) (o0 : 0 ≤ o) (o1 : o < tyLen t)
    (hc : Civ (Cal.first y + o) cy cm cd) (hr : VC base fTOf [iv (Cal.first y + o), iv pl] (.tuple #[.agg (rdV b r1 r2 r3).toArray, iv (bif b then 0 else e)])) (l : List Int) :
    Memo.Ok base.P base.G (ry y (o :: cy :: cm :: cd :: ((Cal.first y + o) % 7) :: r1 :: r2 :: r3 :: e :: l)) (mDayOf t pl m g b) := by
  have h1 := first_le (a := 1) (b := y) (by decide) h.low (by have := h.high; omega)
  have h2 := first_le (a := y + 1) (b := 10000) (by have := h.low; omega) (by have := h.high; omega) (by decide)
  rw [first_one] at h1
  rw [first_last, h.len] at h2
  unfold lastD at h2
  have hn := allB1 (pl1_nP t g)
  have v1 := from_vc h m hm (o - m.a) (by omega) (by omega)
  rw [show m.a + (o - m.a) = o by omega] at v1
  refine .cons (v1.ans hn (plT (heb_pl m g)) ?_ ?_) (.cons ((weekday_vc (Cal.first y + o) (by omega) (by omega)).ans hn (plS (pl0_wP t g)) ?_ ?_) (.cons ((gfrom_vc (by omega) (by unfold lastD; omega) hc).ans hn rfl ?_ ?_) (.cons ((omer_vc h o o0 o1).ans hn (plT (p01 (pl0_omP t g))) ?_ ?_) (.cons (hr.ans (allB2 (pl1_nP t g) rfl) ?_ ?_ ?_) .nil))))
  · simp only [List.map_cons, List.map_nil, nP_c h g0 g1]
  · simp only [conc, List.map_cons, List.map_nil, conc1, hebP_c g0 g1, conc0, den_l]
  · simp only [List.map_cons, List.map_nil, nP_c h g0 g1]
  · rw [concS (pl0_wP t g), wP_c h g0 g1]
  · simp only [List.map_cons, List.map_nil, nP_c h g0 g1]
  · simp only [conc, List.map_cons, List.map_nil, conc1, civP_c, conc0, den_l]
  · simp only [List.map_cons, List.map_nil, nP_c h g0 g1]
  · show _ = Value.tuple #[conc1 _ (omP t g), conc1 _ (iL 0)]
    rw [conc01 (pl0_omP t g), omP_c h hom g0 g1]
    simp [conc1, conc0, den_l]
  · cases b <;> rfl
  · rw [List.map_cons, nP_c h g0 g1]
    simp [conc1, conc0, den_l]
  · show _ = Value.tuple #[Value.agg ((redP b).map (conc0 _)).toArray, conc1 _ (bif b then iL 0 else iE 0 [(10, 1)])]
    rw [redP_c]
    cases b <;> simp [conc1, conc0, Lin.den, denT, ry, rho, Lin.lit]
theorem rowsE_ok (h : YT y t) (hp : pl ∈ places) (l : List Int) : LMemo.Ok base.P base.G (ry y l) (rowsE t pl) := by
  refine .cons ((events_lvc h pl hp).ans rfl (pl_evs _ _) ?_ ?_) .nil
  · simp [conc1, conc0, den_y, den_l]
  · exact (evs_conc _ _ _ _ fun o => den_f h o l).symm
end
theorem days_of {pl : Int} (hp : pl ∈ places) {t : Ty} (ht : t ∈ tyList) (c0 : allB (okDays 0) tyList = true) (c1 : allB (okDays 1) tyList = true) : okDays pl t = true := by
  simp only [places, List.mem_cons, List.not_mem_nil, or_false] at hp
  rcases hp with rfl | rfl
  · exact allB_get c0 t ht
  · exact allB_get c1 t ht
theorem sat_in {t : Ty} {g : Int × Int} {f o : Int} (hw : f % 7 = t.1) (g0 : g.1 ≤ o) (g1 : o ≤ g.2) (h : (f + o) % 7 = 6) : satIn t g = true := by
  unfold satIn
  rw [ile_iff]
  omega
theorem civ_bd {day y m d : Int} (h0 : -1373427 ≤ day) (h1 : day ≤ lastD) (h : Civ day y m d) : -4000 ≤ y ∧ y ≤ 7000 ∧ 1 ≤ m ∧ m ≤ 12 ∧ 1 ≤ d ∧ d ≤ 31 := by
  have h2 : day ≤ 2300000 := by unfold lastD at h1; omega
  obtain ⟨g0, g1, g2, g3⟩ := gyr_in day h0 h2
  obtain ⟨hy, x, hx, rfl, x1, x2, rfl⟩ := h
  rw [← hy] at g0 g1 g2 g3
  have bd : allB (fun lp => allB (fun x => ile 1 x.1 && ile x.1 12 && (ile 28 x.2.2 && ile x.2.2 31)) (gmons lp)) bools = true := by decide +kernel
  have hb : gLeap y ∈ bools := by cases gLeap y <;> decide
  have b := allB_get (allB_get bd _ hb) x hx
  simp only [Bool.and_eq_true, ile_iff] at b
  exact ⟨by omega, by omega, b.1.1, b.1.2, by omega, by omega⟩
/-- What the code says of a day; which events it has is left open here. -/
theorem day_vx (c0 : allB (okDays 0) tyList = true) (c1 : allB (okDays 1) tyList = true) {y o cy cm cd pl : Int} {t : Ty} {m : Mon} (h : YT y t) (hp : pl ∈ places) (o0 : 0 ≤ o) (o1 : o < tyLen t) (hm : m ∈ mons t) (ma : m.a ≤ o) (mb : o ≤ m.a + m.len - 1) (hc : Civ (Cal.first y + o) cy cm cd) :
    ∃ r1 r2 r3, 0 ≤ r1 ∧ r1 ≤ 60 ∧ 0 ≤ r2 ∧ r2 ≤ 60 ∧ -2000000 ≤ r3 ∧ r3 ≤ 3000000 ∧
      VX base fDayOf [iv (Cal.first y + o), iv pl] [iv (Cal.first y + o), iv y, iv m.num, .bool m.ad, iv (1 + (o - m.a)), iv cy, iv cm, iv cd, iv ((Cal.first y + o) % 7), iv (omer t o)] [iv r1, iv r2, iv r3] 0 := by
  have h1 := first_le (a := 1) (b := y) (by decide) h.low (by have := h.high; omega)
  have h2 := first_le (a := y + 1) (b := 10000) (by have := h.low; omega) (by have := h.high; omega) (by decide)
  rw [first_one] at h1
  rw [first_last, h.len] at h2
  obtain ⟨z1, z2, z3, z4, z5, z6⟩ := civ_bd (by omega) (by omega) hc
  obtain ⟨f0, f1⟩ := first_bd y h.low (by have := h.high; omega)
  obtain ⟨g, hg, g0, g1⟩ := cls_all t pl o o0 o1
  have c := allB_get (show allB (okDayC t pl) (classes t pl) = true from days_of hp h.mem c0 c1) g hg
  unfold okDayC at c
  rw [Bool.and_eq_true] at c
  obtain ⟨hom, c⟩ := c
  split at c
  · cases c
  rename_i m' hm'
  obtain ⟨k1, k2, k3⟩ := monFor_ok hm'
  obtain rfl := mon_eq h.mem hm k1 (o := o) ⟨ma, mb⟩ ⟨by omega, by omega⟩
  have key : ∀ (b : Bool) (r1 r2 r3 e : Int), 0 ≤ r1 → r1 ≤ 60 → 0 ≤ r2 → r2 ≤ 60 → -2000000 ≤ r3 → r3 ≤ 3000000 → 1 ≤ e → e ≤ 9 → (b = true → satIn t g = true) →
      VC base fTOf [iv (Cal.first y + o), iv pl] (.tuple #[.agg (rdV b r1 r2 r3).toArray, iv (bif b then 0 else e)]) →
      VX base fDayOf [iv (Cal.first y + o), iv pl] [iv (Cal.first y + o), iv y, iv m.num, .bool m.ad, iv (1 + (o - m.a)), iv cy, iv cm, iv cd, iv ((Cal.first y + o) % 7), iv (omer t o)] (rdV b r1 r2 r3) 0 := by
    intro b r1 r2 r3 e a1 a2 a3 a4 a5 a6 a7 a8 hs hr
    have hb : b ∈ bools := by cases b <;> decide
    have cb := allB_get c b hb
    have hbs : (b && !satIn t g) = false := by
      cases b with
      | false => rfl
      | true => rw [hs rfl]; rfl
    rw [hbs, cond_false] at cb
    have hV : (vDay g (1, 9)).Ok (ry y [o, cy, cm, cd, (Cal.first y + o) % 7, r1, r2, r3, e]) := env_ok (inB_cons h.low h.high (inB_cons (by omega) (by omega) (inB_cons g0 g1 (inB_cons (by omega) (by omega) (inB_cons z3 z4 (inB_cons z5 z6 (inB_cons (by omega) (by omega) (inB_cons a1 a2 (inB_cons a3 a4 (inB_cons a5 a6 (inB_cons a7 a8 inB_nil))))))))))) (by simp [vDay]) (by simp [vDay])
    have hE := mDayOf_ok (b := b) (r1 := r1) (r2 := r2) (r3 := r3) (e := e) h hp hm k2 k3 hom g0 g1 o0 o1 hc hr []
    have ha1 : allB pl0 (nP t g :: (hebP m g ++ (civP ++ [wP t g, omP t g]))) = true := allB_cons (pl0_nP t g) (allB_cons rfl (allB_cons rfl (allB_cons rfl (allB_cons (pl0_oP _ _) (allB_cons rfl (allB_cons rfl (allB_cons rfl (allB_cons (pl0_wP t g) (allB_cons (pl0_omP t g) allB_nil)))))))))
    have hsc : scalar (aboutP t m g b) = true := scalar_mid (a1 := nP t g :: (hebP m g ++ (civP ++ [wP t g, omP t g]))) (a2 := redP b) (e := .lit 0) ha1 (redP_pl b)
    have A := Base.ansXB base_fit hV (OkO.memo hE) (OkL.memo (rowsE_ok h hp _)) cb hsc (allB2 (pl1_nP t g) rfl)
    have A' : Ans base.P base.G (ry y [o, cy, cm, cd, (Cal.first y + o) % 7, r1, r2, r3, e]) fDayOf [nP t g, iL pl] (.tuple [.agg ((nP t g :: (hebP m g ++ (civP ++ [wP t g, omP t g]))) ++ .one :: redP b), .int .i64 (.lit 0)]) := A
    have X := A'.vx (allB2 (pl1_nP t g) rfl) ha1 (redP_pl b)
    have e1 : conc0 (ry y [o, cy, cm, cd, (Cal.first y + o) % 7, r1, r2, r3, e]) (nP t g) = iv (Cal.first y + o) := (conc01 (pl0_nP t g)).symm.trans (nP_c h g0 g1 _)
    simp only [List.map_cons, List.map_nil, List.map_append, nP_c h g0 g1, e1, hebP_c g0 g1, civP_c, wP_c h g0 g1, omP_c h hom g0 g1, redP_c] at X
    simp only [conc1, conc0, den_l, List.cons_append, List.nil_append] at X
    exact X
  rcases rd_any h pl hp o o0 o1 with ⟨r1, r2, a, b, c', d, z, w, v⟩ | ⟨e, a, b, v⟩
  · exact ⟨r1, r2, Cal.first y + o, a, b, c', d, by omega, by unfold lastD at h2; omega, key true r1 r2 (Cal.first y + o) 1 a b c' d (by omega) (by unfold lastD at h2; omega) (by decide) (by decide) (fun _ => sat_in h.wd g0 g1 w) v⟩
  · exact ⟨0, 0, 0, by decide, by decide, by decide, by decide, by decide, by decide, key false 0 0 0 e (by decide) (by decide) (by decide) (by decide) (by decide) (by decide) a b (fun h => by cases h) v⟩
end
end Go.Proofs.YtnikgcedifdaeaaGreatDoor.Sab
end
