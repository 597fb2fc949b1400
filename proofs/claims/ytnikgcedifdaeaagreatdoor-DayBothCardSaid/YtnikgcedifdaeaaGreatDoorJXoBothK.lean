/- Texts of the proof, joined by a program (of one law): contracts of functions, plain laws. -/
import Derived.Test.YtnikgcedifdaeaaGreatDoorJXoBothX
import Derived.Test.YtnikgcedifdaeaaGreatDoorJXoBothK0
import Derived.Test.YtnikgcedifdaeaaGreatDoorJXoBothK2
import Derived.Test.YtnikgcedifdaeaaGreatDoorJXoBothK4
set_option linter.unusedVariables false
set_option linter.unusedSimpArgs false
set_option linter.unusedSectionVars false
section
/- What the code says of a day, its events too. -/
set_option linter.unusedVariables false
set_option linter.unusedSimpArgs false
namespace Go.Proofs.YtnikgcedifdaeaaGreatDoor.Sab
open Go Go.Proofs.YtnikgcedifdaeaaGreatDoor.Ab
set_option maxRecDepth 100000
noncomputable section
/-- The answer: a struct, in it a row of these numbers; no row where there is none. -/
def DayIs (f : Nat) (vs l1 l2 : List Value) (ks : List Int) : Prop :=
  (ks = [] ∧ VC base f vs (.tuple #[.agg (l1 ++ .slice none 0 0 :: l2).toArray, iv 0])) ∨ (ks ≠ [] ∧ VB base f vs l1 l2 (ks.map iv) 3 1 ks.length 0 true)
theorem mem_dedup {a : Int} : ∀ {l : List Int}, a ∈ l → a ∈ dedup l
  | [], h => by cases h
  | b :: r, h => by
    unfold dedup
    cases hb : headIs b r with
    | true =>
      simp only [cond_true]
      rcases List.mem_cons.1 h with rfl | h
      · cases r with
        | nil => cases hb
        | cons c r =>
          unfold headIs at hb
          have := (zero_iff _).1 hb
          exact mem_dedup (by rw [show a = c by omega]; exact List.mem_cons_self)
      · exact mem_dedup h
    | false =>
      simp only [cond_false]
      rcases List.mem_cons.1 h with rfl | h
      · exact List.mem_cons_self
      · exact List.mem_cons_of_mem _ (mem_dedup h)
theorem of_dedup {a : Int} : ∀ {l : List Int}, a ∈ dedup l → a ∈ l
  | [], h => h
  | b :: r, h => by
    unfold dedup at h
    cases hb : headIs b r with
    | true =>
      rw [hb] at h
      exact List.mem_cons_of_mem _ (of_dedup h)
    | false =>
      rw [hb] at h
      rcases List.mem_cons.1 h with rfl | h
      · exact List.mem_cons_self
      · exact List.mem_cons_of_mem _ (of_dedup h)
theorem kinds_none {t : Ty} {pl o : Int} : kindsOn t pl o = [] ↔ o ∉ dayPts t pl := by
  unfold kindsOn dayPts
  rw [List.map_eq_nil_iff, List.filter_eq_nil_iff]
  constructor
  · intro h hm
    obtain ⟨e, he, rfl⟩ := List.mem_map.1 (of_dedup hm)
    exact h e he ((zero_iff _).2 (by omega))
  · intro h e he hz
    have := (zero_iff _).1 hz
    exact h (mem_dedup (List.mem_map.2 ⟨e, he, by omega⟩))
theorem headX_pl {nv : AV} {ad : Bool} (h0 : pl0 nv = true) : allB pl0 (headX nv ad) = true := allB_cons h0 rfl
theorem pl_box {nv : AV} {ad : Bool} (h0 : pl0 nv = true) (b : Bool) : pl (noneX nv ad b) = true := by
  show allB pl1 [.agg (headX nv ad ++ .nilslice :: redP b), iL 0] = true
  refine allB_cons ?_ (allB_cons rfl allB_nil)
  show allB pl0 (headX nv ad ++ .nilslice :: redP b) = true
  exact allB_cons h0 (by cases b <;> rfl)
section
variable {y o cy cm cd pl r1 r2 r3 e : Int} {t : Ty} {m : Mon} {b : Bool}
theorem mDX_ok (h : YT y t) (hp : pl ∈ places) (hm : m ∈ mons t) (ma : m.a ≤ o) (mb : o ≤ m.a + m.len - 1) (o0 : 0 ≤ o) (o1 : o < tyLen t) (hc : Civ (Cal.first y + o) cy cm cd)
    (hr : VC base fTOf [iv (Cal.first y + o), iv pl] (.tuple #[.agg (rdV b r1 r2 r3).toArray, iv (bif b then 0 else e)])) {nv : AV} (hpl : pl1 nv = true) (hnv : ∀ l, conc1 (ry y (o :: l)) nv = iv (Cal.first y + o)) :
    Memo.Ok base.P base.G (ry y [o, cy, cm, cd, (Cal.first y + o) % 7, r1, r2, r3, e, m.num, 1 + (o - m.a), omer t o]) (mDX nv pl m.ad b) := by
  have h1 := first_le (a := 1) (b := y) (by decide) h.low (by have := h.high; omega)
  have h2 := first_le (a := y + 1) (b := 10000) (by have := h.low; omega) (by have := h.high; omega) (by decide)
  rw [first_one] at h1
  rw [first_last, h.len] at h2
  unfold lastD at h2
  have hn := allB1 hpl
  have v1 := from_vc h m hm (o - m.a) (by omega) (by omega)
  rw [show m.a + (o - m.a) = o by omega] at v1
  refine .cons (v1.ans hn rfl ?_ ?_) (.cons ((weekday_vc (Cal.first y + o) (by omega) (by omega)).ans hn rfl ?_ ?_) (.cons ((gfrom_vc (by omega) (by unfold lastD; omega) hc).ans hn rfl ?_ ?_) (.cons ((omer_vc h o o0 o1).ans hn rfl ?_ ?_) (.cons (hr.ans (allB2 hpl rfl) ?_ ?_ ?_) .nil))))
  · simp only [List.map_cons, List.map_nil, hnv]
  · simp [hebX, conc, conc1, conc0, den_y, den_l, Lin.den, Lin.lit, denT, ry, rho]
  · simp only [List.map_cons, List.map_nil, hnv]
  · simp [conc, conc1, conc0, Lin.den, denT, ry, rho]
  · simp only [List.map_cons, List.map_nil, hnv]
  · simp [civP, conc, conc1, conc0, den_l, Lin.den, Lin.lit, denT, ry, rho]
  · simp only [List.map_cons, List.map_nil, hnv]
  · simp [conc, conc1, conc0, den_l, Lin.den, Lin.lit, denT, ry, rho]
  · cases b <;> rfl
  · rw [List.map_cons, hnv]
    simp [conc1, conc0, den_l]
  · show _ = Value.tuple #[Value.agg ((redP b).map (conc0 _)).toArray, conc1 _ (bif b then iL 0 else iE 0 [(10, 1)])]
    rw [redP_c]
    cases b <;> simp [conc1, conc0, Lin.den, denT, ry, rho, Lin.lit]
theorem headX_c {nv : AV} (h0 : pl0 nv = true) (hnv : ∀ l, conc1 (ry y (o :: l)) nv = iv (Cal.first y + o)) : (headX nv m.ad).map (conc0 (ry y [o, cy, cm, cd, (Cal.first y + o) % 7, r1, r2, r3, e, m.num, 1 + (o - m.a), omer t o])) =
    [iv (Cal.first y + o), iv y, iv m.num, .bool m.ad, iv (1 + (o - m.a)), iv cy, iv cm, iv cd, iv ((Cal.first y + o) % 7), iv (omer t o)] := by
  have e1 : conc0 (ry y [o, cy, cm, cd, (Cal.first y + o) % 7, r1, r2, r3, e, m.num, 1 + (o - m.a), omer t o]) nv = iv (Cal.first y + o) := (conc01 h0).symm.trans (hnv _)
  simp only [headX, List.map_cons, e1]
  simp [hebX, civP, conc0, den_y, den_l, Lin.den, Lin.lit, denT, ry, rho]
/-- What the code says of a day. -/
theorem day_vb (cp : allB (okDPs pl) tyList = true) (cg : allB (okDGs pl) tyList = true) (h : YT y t) (hp : pl ∈ places) (o0 : 0 ≤ o) (o1 : o < tyLen t) (hm : m ∈ mons t) (ma : m.a ≤ o) (mb : o ≤ m.a + m.len - 1) (hc : Civ (Cal.first y + o) cy cm cd)
    (a1 : 0 ≤ r1 ∧ r1 ≤ 60) (a2 : 0 ≤ r2 ∧ r2 ≤ 60) (a3 : -2000000 ≤ r3 ∧ r3 ≤ 3000000) (a4 : 1 ≤ e ∧ e ≤ 9) (hs : b = true → (Cal.first y + o) % 7 = 6)
    (hr : VC base fTOf [iv (Cal.first y + o), iv pl] (.tuple #[.agg (rdV b r1 r2 r3).toArray, iv (bif b then 0 else e)])) :
    DayIs fDayOf [iv (Cal.first y + o), iv pl] [iv (Cal.first y + o), iv y, iv m.num, .bool m.ad, iv (1 + (o - m.a)), iv cy, iv cm, iv cd, iv ((Cal.first y + o) % 7), iv (omer t o)] (rdV b r1 r2 r3) (kindsOn t pl o) := by
  have hw := h.wd
  have h1 := first_le (a := 1) (b := y) (by decide) h.low (by have := h.high; omega)
  have h2 := first_le (a := y + 1) (b := 10000) (by have := h.low; omega) (by have := h.high; omega) (by decide)
  rw [first_one] at h1
  rw [first_last, h.len] at h2
  obtain ⟨z1, z2, z3, z4, z5, z6⟩ := civ_bd (by omega) (by omega) hc
  obtain ⟨f0, f1⟩ := first_bd y h.low (by have := h.high; omega)
  have nb := allB_get (of_ty mons_num h |> fun x => by simp only [Bool.and_eq_true] at x; exact x.1) m hm
  have lb := allB_get (of_ty mons_len h) m hm
  simp only [Bool.and_eq_true, ile_iff] at nb lb
  have om0 : 0 ≤ omer t o ∧ omer t o ≤ 49 := by unfold omer; split <;> omega
  have lp := of_ty long_pos h
  have hb : b ∈ bools := by cases b <;> decide
  have had : m.ad ∈ bools := by cases m.ad <;> decide
  have hB : ∀ lo hi, lo ≤ o → o ≤ hi → inB [(1, 9999), (-400000, 400000), (lo, hi), (-5000, 8000), (1, 12), (1, 31), (0, 6), (0, 60), (0, 60), (-2000000, 3000000), (1, 9), (1, 12), (1, 30), (0, 49)]
      (y :: (Cal.first y / 7) :: [o, cy, cm, cd, (Cal.first y + o) % 7, r1, r2, r3, e, m.num, 1 + (o - m.a), omer t o]) := fun lo hi l0 l1 =>
    inB_cons h.low h.high (inB_cons (by omega) (by omega) (inB_cons l0 l1 (inB_cons (by omega) (by omega) (inB_cons z3 z4 (inB_cons z5 z6 (inB_cons (by omega) (by omega) (inB_cons a1.1 a1.2 (inB_cons a2.1 a2.2 (inB_cons a3.1 a3.2 (inB_cons a4.1 a4.2 (inB_cons nb.1 nb.2 (inB_cons (by omega) (by omega) (inB_cons om0.1 om0.2 inB_nil)))))))))))))
  by_cases hk : o ∈ dayPts t pl
  · right
    refine ⟨fun hn => kinds_none.1 hn hk, ?_⟩
    have c := allB_get (show allB (okDP t pl) (dayPts t pl) = true from allB_get cp t h.mem) o hk
    unfold okDP at c
    split at c
    · cases c
    rename_i m' hm'
    obtain ⟨k1, k2, k3⟩ := monFor_ok hm'
    obtain rfl := mon_eq h.mem hm k1 (o := o) ⟨ma, mb⟩ ⟨k2, k3⟩
    have cb := allB_get c b hb
    have hbs : (b && !zero ((t.1 + o) % 7 - 6)) = false := by
      cases b with
      | false => rfl
      | true =>
        have := hs rfl
        rw [(zero_iff _).2 (by omega)]
        rfl
    rw [hbs, cond_false] at cb
    have hnv : ∀ l, conc1 (ry y (o :: l)) (dE (t.1 + o)) = iv (Cal.first y + o) := fun l => by
      show iv (Lin.den _ _) = _
      rw [den_f h]
    have hE := mDX_ok (b := b) (r1 := r1) (r2 := r2) (r3 := r3) (e := e) h hp hm ma mb o0 o1 hc hr (nv := dE (t.1 + o)) rfl hnv
    have hV : (vDX (o, o) []).Ok (ry y [o, cy, cm, cd, (Cal.first y + o) % 7, r1, r2, r3, e, m.num, 1 + (o - m.a), omer t o]) := env_okN (hB o o (Int.le_refl _) (Int.le_refl _)) (by simp) (by simp)
    have hx : allB pl0 (boxX (dE (t.1 + o)) m.ad b (kindsOn t pl o)).cs = true := by
      show allB pl0 ((kindsOn t pl o).map iL) = true
      induction kindsOn t pl o with
      | nil => rfl
      | cons a r ih => exact allB_cons rfl ih
    have A := (Base.lansX base_fit hV (OkO.memo hE) (OkL.memo (rowsE_ok h hp _)) cb hx (allB2 rfl rfl) rfl (headX_pl rfl) (redP_pl b)).vb rfl (allB2 rfl rfl) hx (headX_pl rfl) (redP_pl b)
    rw [headX_c rfl hnv, redP_c] at A
    have e2 : (boxX (dE (t.1 + o)) m.ad b (kindsOn t pl o)).cs.map (conc0 (ry y [o, cy, cm, cd, (Cal.first y + o) % 7, r1, r2, r3, e, m.num, 1 + (o - m.a), omer t o])) = (kindsOn t pl o).map iv := by
      show ((kindsOn t pl o).map iL).map _ = _
      rw [List.map_map]
      apply List.map_congr_left
      intro a _
      simp [conc0, den_l]
    rw [e2] at A
    have e3 : [dE (t.1 + o), iL pl].map (conc1 (ry y [o, cy, cm, cd, (Cal.first y + o) % 7, r1, r2, r3, e, m.num, 1 + (o - m.a), omer t o])) = [iv (Cal.first y + o), iv pl] := by
      rw [List.map_cons, hnv]
      simp [conc1, conc0, den_l]
    rw [e3] at A
    exact A
  · left
    refine ⟨kinds_none.2 hk, ?_⟩
    have cb := allB_get (allB_get (show okDG t pl = true from allB_get cg t h.mem) m.ad had) b hb
    have hnv : ∀ l, conc1 (ry y (o :: l)) (nO t) = iv (Cal.first y + o) := fun l => by
      simp only [nO, conc1, conc0]
      congr 1
      simp [Lin.den, denT, ry, rho]
      omega
    have hE := mDX_ok (b := b) (r1 := r1) (r2 := r2) (r3 := r3) (e := e) h hp hm ma mb o0 o1 hc hr (nv := nO t) rfl hnv
    have hV : (vDX (0, 390) (nePts t pl)).Ok (ry y [o, cy, cm, cd, (Cal.first y + o) % 7, r1, r2, r3, e, m.num, 1 + (o - m.a), omer t o]) := env_okN (hB 0 390 o0 (by
      have ml := of_ty mons_num h
      simp only [Bool.and_eq_true, ile_iff] at ml
      omega)) (by simp) (fun f hf => by
      obtain ⟨p, hp', rfl⟩ := List.mem_map.1 hf
      intro hz
      simp [Lin.den, denT, rho] at hz
      exact hk (by rw [show o = p by omega]; exact hp'))
    have A := (Base.ansL base_fit hV (OkO.memo hE) (OkL.memo (rowsE_ok h hp _)) cb (pl_box rfl b) (allB2 rfl rfl)).vc (allB2 rfl rfl) (pl_box rfl b)
    have e3 : [nO t, iL pl].map (conc1 (ry y [o, cy, cm, cd, (Cal.first y + o) % 7, r1, r2, r3, e, m.num, 1 + (o - m.a), omer t o])) = [iv (Cal.first y + o), iv pl] := by
      rw [List.map_cons, hnv]
      simp [conc1, conc0, den_l]
    rw [e3] at A
    have e4 : conc (ry y [o, cy, cm, cd, (Cal.first y + o) % 7, r1, r2, r3, e, m.num, 1 + (o - m.a), omer t o]) (noneX (nO t) m.ad b) = .tuple #[.agg ([iv (Cal.first y + o), iv y, iv m.num, .bool m.ad, iv (1 + (o - m.a)), iv cy, iv cm, iv cd, iv ((Cal.first y + o) % 7), iv (omer t o)] ++ .slice none 0 0 :: rdV b r1 r2 r3).toArray, iv 0] := by
      show Value.tuple #[Value.agg ((headX (nO t) m.ad ++ .nilslice :: redP b).map (conc0 _)).toArray, conc1 _ (iL 0)] = _
      rw [List.map_append, headX_c rfl hnv, List.map_cons, redP_c]
      simp [conc1, conc0, den_l]
    rw [e4] at A
    exact A
end
end
end Go.Proofs.YtnikgcedifdaeaaGreatDoor.Sab
end

section
/- DayBoth's classes, all of them. -/
set_option linter.unusedVariables false
namespace Go.Proofs.YtnikgcedifdaeaaGreatDoor.Sab
open Go Go.Proofs.YtnikgcedifdaeaaGreatDoor.Ab
set_option maxRecDepth 100000
noncomputable section
theorem both_len : allB (fun pl => allB (fun t => ((dayPts t pl).drop 84).isEmpty) tyList) places = true := by decide +kernel
theorem allB_stepB {α : Type} {p : α → Bool} {l : List α} (n k : Nat) (h : allB p ((l.drop n).take k) = true) (r : allB p (l.drop (n + k)) = true) : allB p (l.drop n) = true :=
  allB_parts k h (by rw [List.drop_drop]; exact r)
theorem both_0_0 : okBPs 0 (1, 0, false) = true := by
  have e := List.isEmpty_iff.1 (allB_get (allB_get both_len 0 (by decide)) (1, 0, false) (by decide))
  have h : allB (okBP (1, 0, false) 0) ((dayPts (1, 0, false) 0).drop 84) = true := by rw [e]; rfl
  exact (allB_stepB 0 12 bothk_0_0_0 (allB_stepB 12 12 bothk_0_0_1 (allB_stepB 24 12 bothk_0_0_2 (allB_stepB 36 12 bothk_0_0_3 (allB_stepB 48 12 bothk_0_0_4 (allB_stepB 60 12 bothk_0_0_5 (allB_stepB 72 12 bothk_0_0_6 h)))))))
theorem both_0_1 : okBPs 0 (1, 2, false) = true := by
  have e := List.isEmpty_iff.1 (allB_get (allB_get both_len 0 (by decide)) (1, 2, false) (by decide))
  have h : allB (okBP (1, 2, false) 0) ((dayPts (1, 2, false) 0).drop 84) = true := by rw [e]; rfl
  exact (allB_stepB 0 12 bothk_0_1_0 (allB_stepB 12 12 bothk_0_1_1 (allB_stepB 24 12 bothk_0_1_2 (allB_stepB 36 12 bothk_0_1_3 (allB_stepB 48 12 bothk_0_1_4 (allB_stepB 60 12 bothk_0_1_5 (allB_stepB 72 12 bothk_0_1_6 h)))))))
theorem both_0_2 : okBPs 0 (2, 1, false) = true := by
  have e := List.isEmpty_iff.1 (allB_get (allB_get both_len 0 (by decide)) (2, 1, false) (by decide))
  have h : allB (okBP (2, 1, false) 0) ((dayPts (2, 1, false) 0).drop 84) = true := by rw [e]; rfl
  exact (allB_stepB 0 12 bothk_0_2_0 (allB_stepB 12 12 bothk_0_2_1 (allB_stepB 24 12 bothk_0_2_2 (allB_stepB 36 12 bothk_0_2_3 (allB_stepB 48 12 bothk_0_2_4 (allB_stepB 60 12 bothk_0_2_5 (allB_stepB 72 12 bothk_0_2_6 h)))))))
theorem both_0_3 : okBPs 0 (4, 1, false) = true := by
  have e := List.isEmpty_iff.1 (allB_get (allB_get both_len 0 (by decide)) (4, 1, false) (by decide))
  have h : allB (okBP (4, 1, false) 0) ((dayPts (4, 1, false) 0).drop 84) = true := by rw [e]; rfl
  exact (allB_stepB 0 12 bothk_0_3_0 (allB_stepB 12 12 bothk_0_3_1 (allB_stepB 24 12 bothk_0_3_2 (allB_stepB 36 12 bothk_0_3_3 (allB_stepB 48 12 bothk_0_3_4 (allB_stepB 60 12 bothk_0_3_5 (allB_stepB 72 12 bothk_0_3_6 h)))))))
theorem both_0_4 : okBPs 0 (4, 2, false) = true := by
  have e := List.isEmpty_iff.1 (allB_get (allB_get both_len 0 (by decide)) (4, 2, false) (by decide))
  have h : allB (okBP (4, 2, false) 0) ((dayPts (4, 2, false) 0).drop 84) = true := by rw [e]; rfl
  exact (allB_stepB 0 12 bothk_0_4_0 (allB_stepB 12 12 bothk_0_4_1 (allB_stepB 24 12 bothk_0_4_2 (allB_stepB 36 12 bothk_0_4_3 (allB_stepB 48 12 bothk_0_4_4 (allB_stepB 60 12 bothk_0_4_5 (allB_stepB 72 12 bothk_0_4_6 h)))))))
theorem both_0_5 : okBPs 0 (6, 0, false) = true := by
  have e := List.isEmpty_iff.1 (allB_get (allB_get both_len 0 (by decide)) (6, 0, false) (by decide))
  have h : allB (okBP (6, 0, false) 0) ((dayPts (6, 0, false) 0).drop 84) = true := by rw [e]; rfl
  exact (allB_stepB 0 12 bothk_0_5_0 (allB_stepB 12 12 bothk_0_5_1 (allB_stepB 24 12 bothk_0_5_2 (allB_stepB 36 12 bothk_0_5_3 (allB_stepB 48 12 bothk_0_5_4 (allB_stepB 60 12 bothk_0_5_5 (allB_stepB 72 12 bothk_0_5_6 h)))))))
theorem both_0_6 : okBPs 0 (6, 2, false) = true := by
  have e := List.isEmpty_iff.1 (allB_get (allB_get both_len 0 (by decide)) (6, 2, false) (by decide))
  have h : allB (okBP (6, 2, false) 0) ((dayPts (6, 2, false) 0).drop 84) = true := by rw [e]; rfl
  exact (allB_stepB 0 12 bothk_0_6_0 (allB_stepB 12 12 bothk_0_6_1 (allB_stepB 24 12 bothk_0_6_2 (allB_stepB 36 12 bothk_0_6_3 (allB_stepB 48 12 bothk_0_6_4 (allB_stepB 60 12 bothk_0_6_5 (allB_stepB 72 12 bothk_0_6_6 h)))))))
theorem both_0_7 : okBPs 0 (1, 0, true) = true := by
  have e := List.isEmpty_iff.1 (allB_get (allB_get both_len 0 (by decide)) (1, 0, true) (by decide))
  have h : allB (okBP (1, 0, true) 0) ((dayPts (1, 0, true) 0).drop 84) = true := by rw [e]; rfl
  exact (allB_stepB 0 12 bothk_0_7_0 (allB_stepB 12 12 bothk_0_7_1 (allB_stepB 24 12 bothk_0_7_2 (allB_stepB 36 12 bothk_0_7_3 (allB_stepB 48 12 bothk_0_7_4 (allB_stepB 60 12 bothk_0_7_5 (allB_stepB 72 12 bothk_0_7_6 h)))))))
theorem both_0_8 : okBPs 0 (1, 2, true) = true := by
  have e := List.isEmpty_iff.1 (allB_get (allB_get both_len 0 (by decide)) (1, 2, true) (by decide))
  have h : allB (okBP (1, 2, true) 0) ((dayPts (1, 2, true) 0).drop 84) = true := by rw [e]; rfl
  exact (allB_stepB 0 12 bothk_0_8_0 (allB_stepB 12 12 bothk_0_8_1 (allB_stepB 24 12 bothk_0_8_2 (allB_stepB 36 12 bothk_0_8_3 (allB_stepB 48 12 bothk_0_8_4 (allB_stepB 60 12 bothk_0_8_5 (allB_stepB 72 12 bothk_0_8_6 h)))))))
theorem both_0_9 : okBPs 0 (2, 1, true) = true := by
  have e := List.isEmpty_iff.1 (allB_get (allB_get both_len 0 (by decide)) (2, 1, true) (by decide))
  have h : allB (okBP (2, 1, true) 0) ((dayPts (2, 1, true) 0).drop 84) = true := by rw [e]; rfl
  exact (allB_stepB 0 12 bothk_0_9_0 (allB_stepB 12 12 bothk_0_9_1 (allB_stepB 24 12 bothk_0_9_2 (allB_stepB 36 12 bothk_0_9_3 (allB_stepB 48 12 bothk_0_9_4 (allB_stepB 60 12 bothk_0_9_5 (allB_stepB 72 12 bothk_0_9_6 h)))))))
theorem both_0_10 : okBPs 0 (4, 0, true) = true := by
  have e := List.isEmpty_iff.1 (allB_get (allB_get both_len 0 (by decide)) (4, 0, true) (by decide))
  have h : allB (okBP (4, 0, true) 0) ((dayPts (4, 0, true) 0).drop 84) = true := by rw [e]; rfl
  exact (allB_stepB 0 12 bothk_0_10_0 (allB_stepB 12 12 bothk_0_10_1 (allB_stepB 24 12 bothk_0_10_2 (allB_stepB 36 12 bothk_0_10_3 (allB_stepB 48 12 bothk_0_10_4 (allB_stepB 60 12 bothk_0_10_5 (allB_stepB 72 12 bothk_0_10_6 h)))))))
theorem both_0_11 : okBPs 0 (4, 2, true) = true := by
  have e := List.isEmpty_iff.1 (allB_get (allB_get both_len 0 (by decide)) (4, 2, true) (by decide))
  have h : allB (okBP (4, 2, true) 0) ((dayPts (4, 2, true) 0).drop 84) = true := by rw [e]; rfl
  exact (allB_stepB 0 12 bothk_0_11_0 (allB_stepB 12 12 bothk_0_11_1 (allB_stepB 24 12 bothk_0_11_2 (allB_stepB 36 12 bothk_0_11_3 (allB_stepB 48 12 bothk_0_11_4 (allB_stepB 60 12 bothk_0_11_5 (allB_stepB 72 12 bothk_0_11_6 h)))))))
theorem both_0_12 : okBPs 0 (6, 0, true) = true := by
  have e := List.isEmpty_iff.1 (allB_get (allB_get both_len 0 (by decide)) (6, 0, true) (by decide))
  have h : allB (okBP (6, 0, true) 0) ((dayPts (6, 0, true) 0).drop 84) = true := by rw [e]; rfl
  exact (allB_stepB 0 12 bothk_0_12_0 (allB_stepB 12 12 bothk_0_12_1 (allB_stepB 24 12 bothk_0_12_2 (allB_stepB 36 12 bothk_0_12_3 (allB_stepB 48 12 bothk_0_12_4 (allB_stepB 60 12 bothk_0_12_5 (allB_stepB 72 12 bothk_0_12_6 h)))))))
theorem both_0_13 : okBPs 0 (6, 2, true) = true := by
  have e := List.isEmpty_iff.1 (allB_get (allB_get both_len 0 (by decide)) (6, 2, true) (by decide))
  have h : allB (okBP (6, 2, true) 0) ((dayPts (6, 2, true) 0).drop 84) = true := by rw [e]; rfl
  exact (allB_stepB 0 12 bothk_0_13_0 (allB_stepB 12 12 bothk_0_13_1 (allB_stepB 24 12 bothk_0_13_2 (allB_stepB 36 12 bothk_0_13_3 (allB_stepB 48 12 bothk_0_13_4 (allB_stepB 60 12 bothk_0_13_5 (allB_stepB 72 12 bothk_0_13_6 h)))))))
theorem both_chk_0 : allB (okBPs 0) tyList = true :=
  allB_cons both_0_0 (allB_cons both_0_1 (allB_cons both_0_2 (allB_cons both_0_3 (allB_cons both_0_4 (allB_cons both_0_5 (allB_cons both_0_6 (allB_cons both_0_7 (allB_cons both_0_8 (allB_cons both_0_9 (allB_cons both_0_10 (allB_cons both_0_11 (allB_cons both_0_12 (allB_cons both_0_13 allB_nil)))))))))))))
theorem bothg_chk_0 : allB (okBGs 0) tyList = true :=
  allB_cons bothg_0_0 (allB_cons bothg_0_1 (allB_cons bothg_0_2 (allB_cons bothg_0_3 (allB_cons bothg_0_4 (allB_cons bothg_0_5 (allB_cons bothg_0_6 (allB_cons bothg_0_7 (allB_cons bothg_0_8 (allB_cons bothg_0_9 (allB_cons bothg_0_10 (allB_cons bothg_0_11 (allB_cons bothg_0_12 (allB_cons bothg_0_13 allB_nil)))))))))))))
theorem both_1_0 : okBPs 1 (1, 0, false) = true := by
  have e := List.isEmpty_iff.1 (allB_get (allB_get both_len 1 (by decide)) (1, 0, false) (by decide))
  have h : allB (okBP (1, 0, false) 1) ((dayPts (1, 0, false) 1).drop 84) = true := by rw [e]; rfl
  exact (allB_stepB 0 12 bothk_1_0_0 (allB_stepB 12 12 bothk_1_0_1 (allB_stepB 24 12 bothk_1_0_2 (allB_stepB 36 12 bothk_1_0_3 (allB_stepB 48 12 bothk_1_0_4 (allB_stepB 60 12 bothk_1_0_5 (allB_stepB 72 12 bothk_1_0_6 h)))))))
theorem both_1_1 : okBPs 1 (1, 2, false) = true := by
  have e := List.isEmpty_iff.1 (allB_get (allB_get both_len 1 (by decide)) (1, 2, false) (by decide))
  have h : allB (okBP (1, 2, false) 1) ((dayPts (1, 2, false) 1).drop 84) = true := by rw [e]; rfl
  exact (allB_stepB 0 12 bothk_1_1_0 (allB_stepB 12 12 bothk_1_1_1 (allB_stepB 24 12 bothk_1_1_2 (allB_stepB 36 12 bothk_1_1_3 (allB_stepB 48 12 bothk_1_1_4 (allB_stepB 60 12 bothk_1_1_5 (allB_stepB 72 12 bothk_1_1_6 h)))))))
theorem both_1_2 : okBPs 1 (2, 1, false) = true := by
  have e := List.isEmpty_iff.1 (allB_get (allB_get both_len 1 (by decide)) (2, 1, false) (by decide))
  have h : allB (okBP (2, 1, false) 1) ((dayPts (2, 1, false) 1).drop 84) = true := by rw [e]; rfl
  exact (allB_stepB 0 12 bothk_1_2_0 (allB_stepB 12 12 bothk_1_2_1 (allB_stepB 24 12 bothk_1_2_2 (allB_stepB 36 12 bothk_1_2_3 (allB_stepB 48 12 bothk_1_2_4 (allB_stepB 60 12 bothk_1_2_5 (allB_stepB 72 12 bothk_1_2_6 h)))))))
theorem both_1_3 : okBPs 1 (4, 1, false) = true := by
  have e := List.isEmpty_iff.1 (allB_get (allB_get both_len 1 (by decide)) (4, 1, false) (by decide))
  have h : allB (okBP (4, 1, false) 1) ((dayPts (4, 1, false) 1).drop 84) = true := by rw [e]; rfl
  exact (allB_stepB 0 12 bothk_1_3_0 (allB_stepB 12 12 bothk_1_3_1 (allB_stepB 24 12 bothk_1_3_2 (allB_stepB 36 12 bothk_1_3_3 (allB_stepB 48 12 bothk_1_3_4 (allB_stepB 60 12 bothk_1_3_5 (allB_stepB 72 12 bothk_1_3_6 h)))))))
theorem both_1_4 : okBPs 1 (4, 2, false) = true := by
  have e := List.isEmpty_iff.1 (allB_get (allB_get both_len 1 (by decide)) (4, 2, false) (by decide))
  have h : allB (okBP (4, 2, false) 1) ((dayPts (4, 2, false) 1).drop 84) = true := by rw [e]; rfl
  exact (allB_stepB 0 12 bothk_1_4_0 (allB_stepB 12 12 bothk_1_4_1 (allB_stepB 24 12 bothk_1_4_2 (allB_stepB 36 12 bothk_1_4_3 (allB_stepB 48 12 bothk_1_4_4 (allB_stepB 60 12 bothk_1_4_5 (allB_stepB 72 12 bothk_1_4_6 h)))))))
theorem both_1_5 : okBPs 1 (6, 0, false) = true := by
  have e := List.isEmpty_iff.1 (allB_get (allB_get both_len 1 (by decide)) (6, 0, false) (by decide))
  have h : allB (okBP (6, 0, false) 1) ((dayPts (6, 0, false) 1).drop 84) = true := by rw [e]; rfl
  exact (allB_stepB 0 12 bothk_1_5_0 (allB_stepB 12 12 bothk_1_5_1 (allB_stepB 24 12 bothk_1_5_2 (allB_stepB 36 12 bothk_1_5_3 (allB_stepB 48 12 bothk_1_5_4 (allB_stepB 60 12 bothk_1_5_5 (allB_stepB 72 12 bothk_1_5_6 h)))))))
theorem both_1_6 : okBPs 1 (6, 2, false) = true := by
  have e := List.isEmpty_iff.1 (allB_get (allB_get both_len 1 (by decide)) (6, 2, false) (by decide))
  have h : allB (okBP (6, 2, false) 1) ((dayPts (6, 2, false) 1).drop 84) = true := by rw [e]; rfl
  exact (allB_stepB 0 12 bothk_1_6_0 (allB_stepB 12 12 bothk_1_6_1 (allB_stepB 24 12 bothk_1_6_2 (allB_stepB 36 12 bothk_1_6_3 (allB_stepB 48 12 bothk_1_6_4 (allB_stepB 60 12 bothk_1_6_5 (allB_stepB 72 12 bothk_1_6_6 h)))))))
theorem both_1_7 : okBPs 1 (1, 0, true) = true := by
  have e := List.isEmpty_iff.1 (allB_get (allB_get both_len 1 (by decide)) (1, 0, true) (by decide))
  have h : allB (okBP (1, 0, true) 1) ((dayPts (1, 0, true) 1).drop 84) = true := by rw [e]; rfl
  exact (allB_stepB 0 12 bothk_1_7_0 (allB_stepB 12 12 bothk_1_7_1 (allB_stepB 24 12 bothk_1_7_2 (allB_stepB 36 12 bothk_1_7_3 (allB_stepB 48 12 bothk_1_7_4 (allB_stepB 60 12 bothk_1_7_5 (allB_stepB 72 12 bothk_1_7_6 h)))))))
theorem both_1_8 : okBPs 1 (1, 2, true) = true := by
  have e := List.isEmpty_iff.1 (allB_get (allB_get both_len 1 (by decide)) (1, 2, true) (by decide))
  have h : allB (okBP (1, 2, true) 1) ((dayPts (1, 2, true) 1).drop 84) = true := by rw [e]; rfl
  exact (allB_stepB 0 12 bothk_1_8_0 (allB_stepB 12 12 bothk_1_8_1 (allB_stepB 24 12 bothk_1_8_2 (allB_stepB 36 12 bothk_1_8_3 (allB_stepB 48 12 bothk_1_8_4 (allB_stepB 60 12 bothk_1_8_5 (allB_stepB 72 12 bothk_1_8_6 h)))))))
theorem both_1_9 : okBPs 1 (2, 1, true) = true := by
  have e := List.isEmpty_iff.1 (allB_get (allB_get both_len 1 (by decide)) (2, 1, true) (by decide))
  have h : allB (okBP (2, 1, true) 1) ((dayPts (2, 1, true) 1).drop 84) = true := by rw [e]; rfl
  exact (allB_stepB 0 12 bothk_1_9_0 (allB_stepB 12 12 bothk_1_9_1 (allB_stepB 24 12 bothk_1_9_2 (allB_stepB 36 12 bothk_1_9_3 (allB_stepB 48 12 bothk_1_9_4 (allB_stepB 60 12 bothk_1_9_5 (allB_stepB 72 12 bothk_1_9_6 h)))))))
theorem both_1_10 : okBPs 1 (4, 0, true) = true := by
  have e := List.isEmpty_iff.1 (allB_get (allB_get both_len 1 (by decide)) (4, 0, true) (by decide))
  have h : allB (okBP (4, 0, true) 1) ((dayPts (4, 0, true) 1).drop 84) = true := by rw [e]; rfl
  exact (allB_stepB 0 12 bothk_1_10_0 (allB_stepB 12 12 bothk_1_10_1 (allB_stepB 24 12 bothk_1_10_2 (allB_stepB 36 12 bothk_1_10_3 (allB_stepB 48 12 bothk_1_10_4 (allB_stepB 60 12 bothk_1_10_5 (allB_stepB 72 12 bothk_1_10_6 h)))))))
theorem both_1_11 : okBPs 1 (4, 2, true) = true := by
  have e := List.isEmpty_iff.1 (allB_get (allB_get both_len 1 (by decide)) (4, 2, true) (by decide))
  have h : allB (okBP (4, 2, true) 1) ((dayPts (4, 2, true) 1).drop 84) = true := by rw [e]; rfl
  exact (allB_stepB 0 12 bothk_1_11_0 (allB_stepB 12 12 bothk_1_11_1 (allB_stepB 24 12 bothk_1_11_2 (allB_stepB 36 12 bothk_1_11_3 (allB_stepB 48 12 bothk_1_11_4 (allB_stepB 60 12 bothk_1_11_5 (allB_stepB 72 12 bothk_1_11_6 h)))))))
theorem both_1_12 : okBPs 1 (6, 0, true) = true := by
  have e := List.isEmpty_iff.1 (allB_get (allB_get both_len 1 (by decide)) (6, 0, true) (by decide))
  have h : allB (okBP (6, 0, true) 1) ((dayPts (6, 0, true) 1).drop 84) = true := by rw [e]; rfl
  exact (allB_stepB 0 12 bothk_1_12_0 (allB_stepB 12 12 bothk_1_12_1 (allB_stepB 24 12 bothk_1_12_2 (allB_stepB 36 12 bothk_1_12_3 (allB_stepB 48 12 bothk_1_12_4 (allB_stepB 60 12 bothk_1_12_5 (allB_stepB 72 12 bothk_1_12_6 h)))))))
theorem both_1_13 : okBPs 1 (6, 2, true) = true := by
  have e := List.isEmpty_iff.1 (allB_get (allB_get both_len 1 (by decide)) (6, 2, true) (by decide))
  have h : allB (okBP (6, 2, true) 1) ((dayPts (6, 2, true) 1).drop 84) = true := by rw [e]; rfl
  exact (allB_stepB 0 12 bothk_1_13_0 (allB_stepB 12 12 bothk_1_13_1 (allB_stepB 24 12 bothk_1_13_2 (allB_stepB 36 12 bothk_1_13_3 (allB_stepB 48 12 bothk_1_13_4 (allB_stepB 60 12 bothk_1_13_5 (allB_stepB 72 12 bothk_1_13_6 h)))))))
theorem both_chk_1 : allB (okBPs 1) tyList = true :=
  allB_cons both_1_0 (allB_cons both_1_1 (allB_cons both_1_2 (allB_cons both_1_3 (allB_cons both_1_4 (allB_cons both_1_5 (allB_cons both_1_6 (allB_cons both_1_7 (allB_cons both_1_8 (allB_cons both_1_9 (allB_cons both_1_10 (allB_cons both_1_11 (allB_cons both_1_12 (allB_cons both_1_13 allB_nil)))))))))))))
theorem bothg_chk_1 : allB (okBGs 1) tyList = true :=
  allB_cons bothg_1_0 (allB_cons bothg_1_1 (allB_cons bothg_1_2 (allB_cons bothg_1_3 (allB_cons bothg_1_4 (allB_cons bothg_1_5 (allB_cons bothg_1_6 (allB_cons bothg_1_7 (allB_cons bothg_1_8 (allB_cons bothg_1_9 (allB_cons bothg_1_10 (allB_cons bothg_1_11 (allB_cons bothg_1_12 (allB_cons bothg_1_13 allB_nil)))))))))))))
end
end Go.Proofs.YtnikgcedifdaeaaGreatDoor.Sab
end
