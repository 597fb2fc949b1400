/- Texts of the proof, joined by a program (of one law): contracts of functions, plain laws. -/
import Derived.Test.YtnikgcedifdaeaaGreatDoorJXoRGregK0
import Derived.Test.YtnikgcedifdaeaaGreatDoorJXoBothK
import Derived.Test.YtnikgcedifdaeaaGreatDoorJXoDayO
set_option linter.unusedVariables false
set_option linter.unusedSimpArgs false
set_option linter.unusedSectionVars false
section
/- The reference's Gregorian date of a day. -/
set_option linter.unusedVariables false
set_option linter.unusedSimpArgs false
namespace Go.Proofs.YtnikgcedifdaeaaGreatDoor.Sab
open Go Go.Proofs.YtnikgcedifdaeaaGreatDoor.Ab
set_option maxRecDepth 100000
noncomputable section
theorem gbeg_next (y : Int) : gBeg (y + 1) - gBeg y = bif gLeap y then 366 else 365 := by
  unfold gLeap gLeapR gBeg
  have z : ∀ a : Int, zero a = decide (a = 0) := fun a => by
    by_cases h : a = 0
    · rw [decide_eq_true h]; exact (zero_iff _).2 h
    · rw [decide_eq_false h]
      cases hz : zero a with
      | false => rfl
      | true => exact absurd ((zero_iff _).1 hz) h
  rw [z, z, z]
  by_cases h4 : y % 400 % 400 = 0
  · rw [decide_eq_true h4]
    simp only [cond_true]
    omega
  · rw [decide_eq_false h4]
    by_cases h1 : y % 400 % 100 = 0
    · rw [decide_eq_true h1]
      simp only [cond_true, cond_false]
      omega
    · rw [decide_eq_false h1]
      by_cases h2 : y % 400 % 4 = 0
      · rw [decide_eq_true h2]
        simp only [cond_true, cond_false]
        omega
      · rw [decide_eq_false h2]
        simp only [cond_false]
        omega
theorem rg_k {day y : Int} (y0 : -4000 ≤ y) (y1 : y ≤ 7000) (g0 : gBeg y + 1 ≤ day) (g1 : day ≤ gBeg y + 366) : 12 ≤ y + 20 - day / 366 ∧ y + 20 - day / 366 ≤ 37 := by
  unfold gBeg at *
  omega
theorem mAh_ok {y day : Int} (y0 : -4000 ≤ y) (y1 : y ≤ 7000) : Memo.Ok base.P base.G (rho (y :: gBeg y :: (day - gBeg y) :: dV y 40 1)) (mAh 40 1) := by
  have key : ∀ (n i : Nat), 1 ≤ i → i + n ≤ 41 → Memo.Ok base.P base.G (rho (y :: gBeg y :: (day - gBeg y) :: dV y 40 1)) (mAh n i) := by
    intro n
    induction n with
    | zero => intro i _ _; exact .nil
    | succ n ih =>
      intro i h0 h1
      refine .cons ((rgahead_vc (y - (i : Int)) (by omega) (by omega)).ans rfl rfl ?_ ?_) (ih (i + 1) (by omega) (by omega))
      · simp [conc1, conc0, Lin.den, denT, rho]
        omega
      · have hg : (y :: gBeg y :: (day - gBeg y) :: dV y 40 1).getD (2 + i) 0 = gBeg y - gBeg (y - (i : Int)) := by
          obtain ⟨j, rfl⟩ : ∃ j, i = j + 1 := ⟨i - 1, by omega⟩
          rw [show 2 + (j + 1) = j + 1 + 1 + 1 by omega, List.getD_cons_succ, List.getD_cons_succ, List.getD_cons_succ, dV_get y 40 1 j (by omega), Nat.add_comm 1 j]
        simp only [conc, conc1, conc0, Lin.den, denT, rho, hg]
        simp
        omega
  exact key 40 1 (by omega) (by omega)
theorem mDs_ok {y : Int} (y0 : -4000 ≤ y) (y1 : y ≤ 7000) (l : List Int) : Memo.Ok base.P base.G (rho (y :: l)) (mDs (gLeap y)) := by
  intro e he
  obtain ⟨m, hm, rfl⟩ := List.mem_map.1 he
  refine (rgdays_vc y (by omega) (by omega) m hm).ans rfl rfl ?_ ?_
  · simp [conc1, conc0, Lin.den, denT, rho, Lin.lit]
  · simp [conc, conc1, conc0, Lin.den, denT, rho, Lin.lit]
theorem rgfrom_vc {day y m d : Int} (h0 : -1373427 ≤ day) (h1 : day ≤ lastD) (h : Civ day y m d) : VC base rGFrom [iv day] (.tuple #[.agg #[iv y, iv m, iv d], iv 0]) := by
  have h2 : day ≤ 2300000 := by unfold lastD at h1; omega
  obtain ⟨g0, g1, g2, g3⟩ := gyr_in day h0 h2
  obtain ⟨hy, x, hx, rfl, x1, x2, rfl⟩ := h
  rw [← hy] at g0 g1 g2 g3
  have b1 : gBeg y + 1 ≤ day := g2
  have b2 : day ≤ gBeg y + 366 := by split at g3 <;> omega
  obtain ⟨k0, k1⟩ := rg_k g0 g1 b1 b2
  have hc := rgk (gLeap y) _ k0 k1
  unfold okRG at hc
  have hc := allB_get hc x hx
  have bd : allB (fun lp => allB (fun x => ile 0 x.2.1 && ile (x.2.1 + x.2.2) 366) (gmons lp)) bools = true := by decide +kernel
  have hb : gLeap y ∈ bools := by cases gLeap y <;> decide
  have bx := allB_get (allB_get bd _ hb) x hx
  simp only [Bool.and_eq_true, ile_iff] at bx
  have hE : Memo.Ok base.P base.G (rho (y :: gBeg y :: (day - gBeg y) :: dV y 40 1)) (mRG (gLeap y) (y + 20 - day / 366)) := by
    refine .cons ((rgin_vc day h0 h1).ans rfl rfl ?_ ?_) (.cons ((rdown_vc 366 (by decide) day (by omega) (by omega)).ans rfl rfl ?_ ?_) (.cons ((rgahead_vc y (by omega) (by omega)).ans rfl rfl ?_ ?_) (.cons ((rgahead_vc (y + 1) (by omega) (by omega)).ans rfl rfl ?_ ?_) (Memo.Ok.append (mDs_ok g0 g1 _) (mAh_ok g0 g1)))))
    · simp [nGF, conc1, conc0, Lin.den, denT, rho]; omega
    · simp [conc, conc1, conc0]
    · simp [nGF, conc1, conc0, Lin.den, denT, rho, Lin.lit]; omega
    · simp [conc, conc1, conc0, Lin.den, denT, rho]; omega
    · simp [conc1, conc0, Lin.den, denT, rho]
    · simp [conc, conc1, conc0, Lin.den, denT, rho]
    · simp [conc1, conc0, Lin.den, denT, rho]; omega
    · have := gbeg_next y
      simp [conc, conc1, conc0, Lin.den, denT, rho]
      omega
  have := (Base.ansB (V := vRG x) (ρ := rho (y :: gBeg y :: (day - gBeg y) :: dV y 40 1)) base_fit (env_ok (inB_cons (by omega) (by omega) (inB_cons (by unfold gBeg; omega) (by unfold gBeg; omega) (inB_cons (by omega) (by omega) (dV_in y 40 1)))) (by simp [vRG]) (by simp [vRG])) (OkO.memo hE) hc rfl rfl).vc rfl rfl
  have e1 : gBeg y + (day - gBeg y) = day := by omega
  have e2 : -x.2.1 + (day - gBeg y) = day - gBeg y - x.2.1 := by omega
  simpa [nGF, conc, conc1, conc0, Lin.den, denT, rho, Lin.lit, e1, e2] using this
end
end Go.Proofs.YtnikgcedifdaeaaGreatDoor.Sab
end

section
/- Both dates are of that day, its events those of its year on that day, and no others: the law. -/
set_option linter.unusedVariables false
set_option linter.unusedSimpArgs false
namespace Go.Proofs.YtnikgcedifdaeaaGreatDoor.Sab
open Go Go.Proofs.YtnikgcedifdaeaaGreatDoor.Ab
set_option maxRecDepth 100000
set_option maxHeartbeats 0
noncomputable section
def vOutB (lo : Bool) : Ab.Env := ⟨[bif lo then (minI, -1373428) else (lastD + 1, maxI), (0, 127)], [], []⟩
def argO (pl : Int) : AV := .int .u8 ⟨pl, [(1, 2)]⟩
def mOB (pl : Int) : Memo := [(fDayOf, [nE, iL pl], aboutE 2), (rFromDay, [nE], .tuple [.agg [iL 0, iL 0, bL false, iL 0], iL 2]), (fAwake25, [], bL true)]
theorem both_out_chk : allB (fun lo => allB (fun pl => isR (bL true) (base.go (vOutB lo) (memo (mOB pl)) 60 fBoth [nE, argO pl])) places) bools = true := by kernel_rfl
theorem both_out {n b : Int} (h : Outside n) (b0 : 0 ≤ b) (b1 : b ≤ 255) (hp : b % 2 ∈ places) : VC base fBoth [iv n, .int .u8 b] (.bool true) := by
  have hE : Memo.Ok base.P base.G (rho [n, b / 2]) (mOB (b % 2)) := by
    refine .cons ((day_out h _ hp).ans (a1 := zeroD) (a2 := zeroR) (e := .lit 2) rfl rfl rfl ?_ ?_ ?_ ?_) (.cons ((rfrom_out h).ans rfl rfl ?_ ?_) (.cons (awake25_vc.ans rfl rfl rfl rfl) .nil))
    all_goals simp [zeroD, zeroR, zeroDV, conc, conc1, conc0, den_n, den_l]
  have e : b % 2 + 2 * (b / 2) = b := by omega
  have hv : (minI ≤ n ∧ n ≤ -1373428) ∨ (lastD + 1 ≤ n ∧ n ≤ maxI) := by
    have := h.1
    have := h.2.1
    have := h.2.2
    omega
  rcases hv with g | g
  · have cc := allB_get (allB_get both_out_chk true (by decide)) _ hp
    have := (Base.ansB (V := vOutB true) (ρ := rho [n, b / 2]) base_fit (env_ok (inB_cons g.1 g.2 (inB_cons (by omega) (by omega) inB_nil)) (by simp [vOutB]) (by simp [vOutB])) (OkO.memo hE) cc rfl rfl).vc rfl rfl
    simpa [conc, conc1, conc0, argO, Lin.den, denT, rho, e] using this
  · have cc := allB_get (allB_get both_out_chk false (by decide)) _ hp
    have := (Base.ansB (V := vOutB false) (ρ := rho [n, b / 2]) base_fit (env_ok (inB_cons g.1 g.2 (inB_cons (by omega) (by omega) inB_nil)) (by simp [vOutB]) (by simp [vOutB])) (OkO.memo hE) cc rfl rfl).vc rfl rfl
    simpa [conc, conc1, conc0, argO, Lin.den, denT, rho, e] using this
theorem day_any {pl : Int} (hp : pl ∈ places) : allB (okDPs pl) tyList = true ∧ allB (okDGs pl) tyList = true ∧ allB (okBPs pl) tyList = true ∧ allB (okBGs pl) tyList = true := by
  simp only [places, List.mem_cons, List.not_mem_nil, or_false] at hp
  rcases hp with rfl | rfl
  · exact ⟨dayx_chk_0, dayg_chk_0, both_chk_0, bothg_chk_0⟩
  · exact ⟨dayx_chk_1, dayg_chk_1, both_chk_1, bothg_chk_1⟩
def rXV (md : Nat) (u1 u2 n : Int) : List Value := bif natIs md 0 then [iv 0, iv 0, iv 0] else bif natIs md 1 then [iv u1, iv u2, iv n] else [iv 0, iv 0, iv n]
theorem modes_of {md : Nat} (h : md ∈ modesX) : md = 0 ∨ md = 1 ∨ md = 2 := by simpa [modesX] using h
theorem headB_pl {nv : AV} {ad : Bool} {md : Nat} (h : md ∈ modesX) (h0 : pl0 nv = true) : allB pl0 (headB nv ad md) = true := by
  refine allB_cons h0 ?_
  rcases modes_of h with rfl | rfl | rfl <;> rfl
theorem rX_pl {nv : AV} {md : Nat} (h : md ∈ modesX) (h0 : pl0 nv = true) : allB pl0 (rX nv md) = true := by
  rcases modes_of h with rfl | rfl | rfl
  · rfl
  · exact allB_cons rfl (allB_cons rfl (allB_cons h0 allB_nil))
  · exact allB_cons rfl (allB_cons rfl (allB_cons h0 allB_nil))
section
variable {y o cy cm cd pl u1 u2 k : Int} {t : Ty} {m : Mon} {md : Nat} {nv : AV}
abbrev rhoB (y o cy cm cd u1 u2 k : Int) (t : Ty) (m : Mon) : Nat → Int := ry y [o, cy, cm, cd, (Cal.first y + o) % 7, u1, u2, 0, 1, m.num, 1 + (o - m.a), omer t o, k]
theorem headB_c (hmd : md ∈ modesX) (hw : md ≠ 0 → (Cal.first y + o) % 7 = 6) (h0 : pl0 nv = true) (hnv : ∀ l, conc1 (ry y (o :: l)) nv = iv (Cal.first y + o)) :
    (headB nv m.ad md).map (conc0 (rhoB y o cy cm cd u1 u2 k t m)) = [iv (Cal.first y + o), iv y, iv m.num, .bool m.ad, iv (1 + (o - m.a)), iv cy, iv cm, iv cd, iv ((Cal.first y + o) % 7), iv (omer t o)] := by
  have e1 : conc0 (rhoB y o cy cm cd u1 u2 k t m) nv = iv (Cal.first y + o) := (conc01 h0).symm.trans (hnv _)
  have e2 : conc0 (rhoB y o cy cm cd u1 u2 k t m) (wX md) = iv ((Cal.first y + o) % 7) := by
    rcases modes_of hmd with rfl | rfl | rfl
    · rw [show wX 0 = iE 0 [(6, 1)] from rfl]; simp [conc0, Lin.den, denT, rhoB, ry, rho]
    · rw [hw (by decide), show wX 1 = iL 6 from rfl]; simp [conc0, den_l]
    · rw [hw (by decide), show wX 2 = iL 6 from rfl]; simp [conc0, den_l]
  simp only [headB, List.map_cons, List.map_append, e1, e2]
  simp [hebX, civP, conc0, den_y, den_l, Lin.den, Lin.lit, denT, ry, rho, rhoB]
theorem rX_c (hmd : md ∈ modesX) (h0 : pl0 nv = true) (hnv : ∀ l, conc1 (ry y (o :: l)) nv = iv (Cal.first y + o)) :
    (rX nv md).map (conc0 (rhoB y o cy cm cd u1 u2 k t m)) = rXV md u1 u2 (Cal.first y + o) := by
  have e1 : conc0 (rhoB y o cy cm cd u1 u2 k t m) nv = iv (Cal.first y + o) := (conc01 h0).symm.trans (hnv _)
  rcases modes_of hmd with rfl | rfl | rfl
  · show [iL 0, iL 0, iL 0].map _ = [iv 0, iv 0, iv 0]
    simp [conc0, den_l]
  · show [iE 0 [(7, 1)], iE 0 [(8, 1)], nv].map _ = [iv u1, iv u2, iv (Cal.first y + o)]
    simp only [List.map_cons, List.map_nil, e1]
    simp [conc0, Lin.den, denT, ry, rho, rhoB]
  · show [iL 0, iL 0, nv].map _ = [iv 0, iv 0, iv (Cal.first y + o)]
    simp only [List.map_cons, List.map_nil, e1]
    simp [conc0, den_l]
theorem mBX_ok (h : YT y t) (hm : m ∈ mons t) (ma : m.a ≤ o) (mb : o ≤ m.a + m.len - 1) (o0 : 0 ≤ o) (o1 : o < tyLen t) (hc : Civ (Cal.first y + o) cy cm cd)
    (hmd : md ∈ modesX) (hw : md ≠ 0 → (Cal.first y + o) % 7 = 6) (hpl : pl1 nv = true) (hnv : ∀ l, conc1 (ry y (o :: l)) nv = iv (Cal.first y + o)) :
    Memo.Ok base.P base.G (rhoB y o cy cm cd u1 u2 k t m) (mBX nv m.ad md) := by
  have h1 := first_le (a := 1) (b := y) (by decide) h.low (by have := h.high; omega)
  have h2 := first_le (a := y + 1) (b := 10000) (by have := h.low; omega) (by have := h.high; omega) (by decide)
  rw [first_one] at h1
  rw [first_last, h.len] at h2
  unfold lastD at h2
  have hn := allB1 hpl
  have v1 := rfrom_vc h m hm (o - m.a) (by omega) (by omega)
  rw [show m.a + (o - m.a) = o by omega] at v1
  refine .cons (v1.ans hn rfl ?_ ?_) (.cons ((rgfrom_vc (by omega) (by unfold lastD; omega) hc).ans hn rfl ?_ ?_) (.cons ((rweek_vc (Cal.first y + o) (by omega) (by omega)).ans hn ?_ ?_ ?_) (.cons (awake25_vc.ans rfl rfl rfl rfl) .nil)))
  · simp only [List.map_cons, List.map_nil, hnv]
  · simp [hebX, conc, conc1, conc0, den_y, den_l, Lin.den, Lin.lit, denT, ry, rho, rhoB]
  · simp only [List.map_cons, List.map_nil, hnv]
  · simp [civP, conc, conc1, conc0, den_l, Lin.den, Lin.lit, denT, ry, rho, rhoB]
  · rcases modes_of hmd with rfl | rfl | rfl <;> rfl
  · simp only [List.map_cons, List.map_nil, hnv]
  · rcases modes_of hmd with rfl | rfl | rfl
    · rw [show wX 0 = iE 0 [(6, 1)] from rfl]; simp [conc, conc1, conc0, Lin.den, denT, rhoB, ry, rho]
    · rw [hw (by decide), show wX 1 = iL 6 from rfl]; simp [conc, conc1, conc0, den_l]
    · rw [hw (by decide), show wX 2 = iL 6 from rfl]; simp [conc, conc1, conc0, den_l]
theorem both_in (h : YT y t) (hp : pl ∈ places) (o0 : 0 ≤ o) (o1 : o < tyLen t) (hm : m ∈ mons t) (ma : m.a ≤ o) (mb : o ≤ m.a + m.len - 1) (hc : Civ (Cal.first y + o) cy cm cd)
    (hu1 : 1 ≤ u1 ∧ u1 ≤ 60) (hu2 : 1 ≤ u2 ∧ u2 ≤ 60) (hk : 0 ≤ k ∧ k ≤ 127) (hmd : md ∈ modesX) (hw : md ≠ 0 → (Cal.first y + o) % 7 = 6)
    (hd : DayIs fDayOf [iv (Cal.first y + o), iv pl] [iv (Cal.first y + o), iv y, iv m.num, .bool m.ad, iv (1 + (o - m.a)), iv cy, iv cm, iv cd, iv ((Cal.first y + o) % 7), iv (omer t o)] (rXV md u1 u2 (Cal.first y + o)) (kindsOn t pl o)) :
    VC base fBoth [iv (Cal.first y + o), .int .u8 (pl + 2 * k)] (.bool true) := by
  have hwd := h.wd
  have h1 := first_le (a := 1) (b := y) (by decide) h.low (by have := h.high; omega)
  have h2 := first_le (a := y + 1) (b := 10000) (by have := h.low; omega) (by have := h.high; omega) (by decide)
  rw [first_one] at h1
  rw [first_last, h.len] at h2
  obtain ⟨z1, z2, z3, z4, z5, z6⟩ := civ_bd (by omega) (by omega) hc
  obtain ⟨f0, f1⟩ := first_bd y h.low (by have := h.high; omega)
  have nb := allB_get (of_ty mons_num h |> fun x => by simp only [Bool.and_eq_true] at x; exact x.1) m hm
  have lb := allB_get (of_ty mons_len h) m hm
  simp only [Bool.and_eq_true, ile_iff] at nb lb
  have om0 : 0 ≤ omer t o ∧ omer t o ≤ 49 := by unfold omer; split <;> omega
  have had : m.ad ∈ bools := by cases m.ad <;> decide
  obtain ⟨_, _, cbp, cbg⟩ := day_any hp
  have hB : ∀ lo hi, lo ≤ o → o ≤ hi → inB [(1, 9999), (-400000, 400000), (lo, hi), (-5000, 8000), (1, 12), (1, 31), (0, 6), (1, 60), (1, 60), (-2000000, 3000000), (1, 9), (1, 12), (1, 30), (0, 49), (0, 127)]
      (y :: (Cal.first y / 7) :: [o, cy, cm, cd, (Cal.first y + o) % 7, u1, u2, 0, 1, m.num, 1 + (o - m.a), omer t o, k]) := fun lo hi l0 l1 =>
    inB_cons h.low h.high (inB_cons (by omega) (by omega) (inB_cons l0 l1 (inB_cons (by omega) (by omega) (inB_cons z3 z4 (inB_cons z5 z6 (inB_cons (by omega) (by omega) (inB_cons hu1.1 hu1.2 (inB_cons hu2.1 hu2.2 (inB_cons (by omega) (by omega) (inB_cons (by omega) (by omega) (inB_cons nb.1 nb.2 (inB_cons (by omega) (by omega) (inB_cons om0.1 om0.2 (inB_cons hk.1 hk.2 inB_nil))))))))))))))
  have hne : md ≠ 0 → Cal.first y + o ≠ 0 := fun hh => by
    have := hw hh
    omega
  have earg : ∀ {nv : AV}, (∀ l, conc1 (ry y (o :: l)) nv = iv (Cal.first y + o)) → [nv, argX pl].map (conc1 (rhoB y o cy cm cd u1 u2 k t m)) = [iv (Cal.first y + o), .int .u8 (pl + 2 * k)] := fun hnv => by
    simp only [List.map_cons, List.map_nil, hnv]
    simp [argX, conc1, conc0, Lin.den, denT, ry, rho, rhoB]
  rcases hd with ⟨hk0, hv⟩ | ⟨hk0, hv⟩
  · -- no events
    have hnk := kinds_none.1 hk0
    have hnv : ∀ l, conc1 (ry y (o :: l)) (nO t) = iv (Cal.first y + o) := fun l => by
      simp only [nO, conc1, conc0]
      congr 1
      simp [Lin.den, denT, ry, rho]
      omega
    have cb := allB_get (allB_get (show okBG t pl = true from allB_get cbg t h.mem) m.ad had) md hmd
    have hE : Memo.Ok base.P base.G (rhoB y o cy cm cd u1 u2 k t m) ((fDayOf, [nO t, iL pl], .tuple [.agg (headB (nO t) m.ad md ++ .nilslice :: rX (nO t) md), iL 0]) :: mBX (nO t) m.ad md) := by
      refine .cons (hv.ans (allB2 rfl rfl) ?_ ?_ ?_) (mBX_ok h hm ma mb o0 o1 hc hmd hw rfl hnv)
      · show allB pl1 [.agg (headB (nO t) m.ad md ++ .nilslice :: rX (nO t) md), iL 0] = true
        refine allB_cons ?_ (allB_cons rfl allB_nil)
        show allB pl0 (headB (nO t) m.ad md ++ .nilslice :: rX (nO t) md) = true
        rcases modes_of hmd with rfl | rfl | rfl <;> rfl
      · rw [List.map_cons, hnv]
        simp [conc1, conc0, den_l]
      · show _ = Value.tuple #[Value.agg ((headB (nO t) m.ad md ++ .nilslice :: rX (nO t) md).map (conc0 _)).toArray, conc1 _ (iL 0)]
        rw [List.map_append, headB_c hmd hw rfl hnv, List.map_cons, rX_c hmd rfl hnv]
        simp [conc1, conc0, den_l]
    have hV : (vBX md ⟨t.1, [(1, 7), (2, 1)]⟩ (0, 390) (nePts t pl)).Ok (rhoB y o cy cm cd u1 u2 k t m) := env_okN (hB 0 390 o0 (by
      have ml := of_ty mons_num h
      simp only [Bool.and_eq_true, ile_iff] at ml
      omega)) (by simp) (fun f hf => by
      have pts : f ∈ nePts t pl → Lin.den (rhoB y o cy cm cd u1 u2 k t m) f ≠ 0 := fun hf => by
        obtain ⟨p, hp', rfl⟩ := List.mem_map.1 hf
        intro hz
        simp [Lin.den, denT, rho, rhoB, ry] at hz
        exact hnk (by rw [show o = p by omega]; exact hp')
      rcases modes_of hmd with rfl | rfl | rfl
      · exact pts hf
      all_goals
        rcases List.mem_cons.1 hf with rfl | hf
        · have := hne (by decide)
          simp [Lin.den, denT, rho, rhoB, ry]
          omega
        · exact pts hf)
    have A := (Base.ansL base_fit hV (OkO.memo hE) (OkL.memo (rowsE_ok h hp _)) cb rfl (allB2 rfl rfl)).vc (allB2 rfl rfl) rfl
    rw [earg hnv] at A
    exact A
  · -- some
    have hmem : o ∈ dayPts t pl := Classical.byContradiction fun hn => hk0 (kinds_none.2 hn)
    have c := allB_get (show allB (okBP t pl) (dayPts t pl) = true from allB_get cbp t h.mem) o hmem
    unfold okBP at c
    split at c
    · cases c
    rename_i m' hm'
    obtain ⟨k1, k2, k3⟩ := monFor_ok hm'
    obtain rfl := mon_eq h.mem hm k1 (o := o) ⟨ma, mb⟩ ⟨k2, k3⟩
    have cb := allB_get c md hmd
    have hbs : (!natIs md 0 && !zero ((t.1 + o) % 7 - 6)) = false := by
      rcases modes_of hmd with rfl | rfl | rfl
      · rfl
      all_goals
        have := hw (by decide)
        rw [(zero_iff _).2 (by omega)]
        rfl
    rw [hbs, cond_false] at cb
    have hnv : ∀ l, conc1 (ry y (o :: l)) (dE (t.1 + o)) = iv (Cal.first y + o) := fun l => by
      show iv (Lin.den _ _) = _
      rw [den_f h]
    have hx : allB pl0 ((kindsOn t pl o).map iL) = true := by
      induction kindsOn t pl o with
      | nil => rfl
      | cons a r ih => exact allB_cons rfl ih
    have hE := mBX_ok (u1 := u1) (u2 := u2) (k := k) h hm ma mb o0 o1 hc hmd hw (nv := dE (t.1 + o)) rfl hnv
    have hL : LMemo.Ok base.P base.G (rhoB y o cy cm cd u1 u2 k t m) (lBX t pl (dE (t.1 + o)) m.ad md (kindsOn t pl o)) := by
      refine .cons (hv.ans (x := ⟨(kindsOn t pl o).map iL, 3, 1, (kindsOn t pl o).length, some 0, true, some (headB (dE (t.1 + o)) m.ad md, rX (dE (t.1 + o)) md)⟩) rfl (allB2 rfl rfl) hx (headB_pl hmd rfl) (rX_pl hmd rfl) ?_ ?_ ?_ ?_) (rowsE_ok h hp _)
      · rw [List.map_cons, hnv]
        simp [conc1, conc0, den_l]
      · show _ = ((kindsOn t pl o).map iL).map _
        rw [List.map_map]
        refine (List.map_congr_left fun a _ => ?_)
        simp [conc0, den_l]
      · rw [headB_c hmd hw rfl hnv]
      · rw [rX_c hmd rfl hnv]
    have hV : (vBX md ⟨t.1 + o, [(1, 7)]⟩ (o, o) []).Ok (rhoB y o cy cm cd u1 u2 k t m) := env_okN (hB o o (Int.le_refl _) (Int.le_refl _)) (by simp) (fun f hf => by
      rcases modes_of hmd with rfl | rfl | rfl
      · cases hf
      all_goals
        rcases List.mem_cons.1 hf with rfl | hf
        · have := hne (by decide)
          simp [Lin.den, denT, rho, rhoB, ry]
          omega
        · cases hf)
    have A := (Base.ansL base_fit hV (OkO.memo hE) (OkL.memo hL) cb rfl (allB2 rfl rfl)).vc (allB2 rfl rfl) rfl
    rw [earg hnv] at A
    exact A
end
theorem dayBoth_law (n b : Int) (n0 : minI ≤ n) (n1 : n ≤ maxI) (b0 : 0 ≤ b) (b1 : b ≤ 255) : VC base fBoth [iv n, .int .u8 b] (.bool true) := by
  have hp : b % 2 ∈ places := by
    simp only [places, List.mem_cons, List.not_mem_nil, or_false]
    omega
  by_cases hin : -1373427 ≤ n ∧ n ≤ lastD
  rotate_left
  · exact both_out ⟨n0, n1, by omega⟩ b0 b1 hp
  obtain ⟨y, y0, y1, y2, y3⟩ := year_of n hin.1 hin.2
  obtain ⟨t, h⟩ := yt_of y y0 y1
  have hl := h.len
  obtain ⟨m, hm, ma, mb⟩ := mon_of h.mem (n - Cal.first y) (by omega) (by omega)
  obtain ⟨cy, cm, cd, hc⟩ := civ_of n hin.1 (by have := hin.2; unfold lastD at this; omega)
  obtain ⟨o, rfl⟩ : ∃ o, n = Cal.first y + o := ⟨n - Cal.first y, by omega⟩
  rw [show Cal.first y + o - Cal.first y = o by omega] at ma mb
  have o0 : 0 ≤ o := by omega
  have o1 : o < tyLen t := by omega
  obtain ⟨cp, cg, _, _⟩ := day_any hp
  have eb : b % 2 + 2 * (b / 2) = b := by omega
  rw [← eb]
  have hk : 0 ≤ b / 2 ∧ b / 2 ≤ 127 := by omega
  rcases rd_any h (b % 2) hp o o0 o1 with ⟨r1, r2, a, b', c', d, z, w, v⟩ | ⟨e, a, b', v⟩
  · have hd := day_vb (b := true) (r1 := r1) (r2 := r2) (r3 := Cal.first y + o) (e := 1) cp cg h hp o0 o1 hm ma mb hc ⟨a, b'⟩ ⟨c', d⟩ ⟨by omega, by have := hin.2; unfold lastD at this; omega⟩ ⟨by decide, by decide⟩ (fun _ => w) v
    by_cases hr : r1 = 0
    · have hr2 := z.1 hr
      subst hr
      subst hr2
      exact both_in (u1 := 1) (u2 := 1) (md := 2) h hp o0 o1 hm ma mb hc (by decide) (by decide) hk (by decide) (fun _ => w) hd
    · have hr2 : r2 ≠ 0 := fun hh => hr (z.2 hh)
      exact both_in (u1 := r1) (u2 := r2) (md := 1) h hp o0 o1 hm ma mb hc ⟨by omega, b'⟩ ⟨by omega, d⟩ hk (by decide) (fun _ => w) hd
  · have hd := day_vb (b := false) (r1 := 0) (r2 := 0) (r3 := 0) (e := e) cp cg h hp o0 o1 hm ma mb hc (by decide) (by decide) (by decide) ⟨a, b'⟩ (fun hh => by cases hh) v
    exact both_in (u1 := 1) (u2 := 1) (md := 0) h hp o0 o1 hm ma mb hc (by decide) (by decide) hk (by decide) (fun hh => absurd rfl hh) hd
end
end Go.Proofs.YtnikgcedifdaeaaGreatDoor.Sab
end
