/- Texts of the proof of 'FeastDays', joined by a program (part 6): contracts of functions, plain laws. -/
import Derived.Test.YtflpddhoiafhcaaDoorJFeastDays2
import Derived.Test.YtflpddhoiafhcaaDoorJFeastDays4
import Derived.Test.YtflpddhoiafhcaaDoorJFeastDays5
import Derived.OpenShut
section
/- What the printed Lean functions of the reference answer for a year's first day: the same plain mathematics. -/
namespace Go.Proofs.YtflpddhoiafhcaaDoor.P
open Go.RowKit Go.Proofs.YtflpddhoiafhcaaDoor.H
theorem left_lit (a b : Int) (hb : b = 7 ∨ b = 19 ∨ b = 25920) (h0 : -1152921504606846976 ≤ a) (h1 : a ≤ 1152921504606846976) : almanackerref01_Left.f a b = some (a % b) := by
  rcases hb with rfl | rfl | rfl
  all_goals
    unfold almanackerref01_Left.f
    rw [if_neg (by decide), Int.tmod_eq_emod]
    split
    · rw [if_neg (by omega)]; simp
    · rw [if_pos (by simp; omega)]
      simp only [Option.some.injEq]
      unfold wrap64
      simp
      omega
theorem down_lit (a b : Int) (hb : b = 7 ∨ b = 19 ∨ b = 25920) (h0 : -1152921504606846976 ≤ a) (h1 : a ≤ 1152921504606846976) : almanackerref01_Down.f a b = some (a / b) := by
  rcases hb with rfl | rfl | rfl
  all_goals
    unfold almanackerref01_Down.f
    rw [if_neg (by decide), Int.tmod_eq_emod, Int.tdiv_eq_ediv]
    split
    · rw [if_neg (by omega)]
      simp only [Option.some.injEq]
      unfold wrap64
      omega
    · rw [if_pos (by simp; omega)]
      simp only [Option.some.injEq]
      unfold wrap64
      try simp
      try rw [show Int.sign (7 : Int) = 1 from rfl]
      try rw [show Int.sign (19 : Int) = 1 from rfl]
      try rw [show Int.sign (25920 : Int) = 1 from rfl]
      omega
theorem rweek_eq (a : Int) (h0 : -1152921504606846976 ≤ a) (h1 : a ≤ 1152921504606846976) : almanackerref04_Weekday.f a = some (a % 7) := by
  unfold almanackerref04_Weekday.f
  rw [left_lit a 7 (by simp) h0 h1]
  rfl
theorem is_eq (y : Int) (h0 : -100000 ≤ y) (h1 : y ≤ 100000) : almanackerref03_Is.f y = some (Cal.leap y) := by
  unfold almanackerref03_Is.f
  have e : wrap64 (wrap64 (7 * y) + 1) = 7 * y + 1 := by unfold wrap64; omega
  rw [e, left_lit _ 19 (by simp) (by omega) (by omega)]
  rfl
theorem rright_eq (y : Int) (h0 : 0 ≤ y) (h1 : y ≤ 10001) : almanackerref03_Right.f y = some true := by
  unfold almanackerref03_Right.f
  rw [if_pos h0, decide_eq_true h1]
theorem rin_eq (y : Int) (h0 : 0 ≤ y) (h1 : y ≤ 10001) : almanackerref03_In.f y = some (if Cal.leap y = true then 13 else 12, 0) := by
  unfold almanackerref03_In.f
  rw [rright_eq y h0 h1, Option.bind_some, if_pos rfl, is_eq y (by omega) (by omega), Option.bind_some]
  cases Cal.leap y <;> rfl
theorem rbefore_eq (y : Int) (h0 : 0 ≤ y) (h1 : y ≤ 10001) : almanackerref03_Before.f y = some (Cal.before y, 0) := by
  unfold almanackerref03_Before.f
  rw [rright_eq y h0 h1, Option.bind_some, if_pos rfl]
  have e : wrap64 (wrap64 (235 * y) - 234) = 235 * y - 234 := by unfold wrap64; omega
  rw [e, down_lit _ 19 (by simp) (by omega) (by omega)]
  rfl
theorem rmoon_eq (n : Int) (h0 : -200000 ≤ n) (h1 : n ≤ 200000) : almanackerref04_Moon.f n = some ((5604 + 765433 * n) / 25920 - 1373427, (5604 + 765433 * n) % 25920, 0) := by
  unfold almanackerref04_Moon.f almanackerref02_Split.f
  have e : wrap64 (5604 + wrap64 (765433 * n)) = 5604 + 765433 * n := by unfold wrap64; omega
  rw [if_neg (by omega), if_neg (by omega), e, down_lit _ 25920 (by simp) (by omega) (by omega), Option.bind_some, left_lit _ 25920 (by simp) (by omega) (by omega), Option.bind_some, Option.bind_some]
  simp only [Option.some.injEq, Prod.mk.injEq, and_true]
  unfold wrap64
  omega
theorem rof_eq (k : Nat) (y : Int) (h0 : 0 ≤ y) (h1 : y ≤ 10001) : almanackerref04_Of.f (k + 1) y 1 = some (Cal.md y, Cal.mp y, 0) := by
  unfold almanackerref04_Of.f
  have hd : decide ((1 : Int) > (if Cal.leap y = true then 13 else 12)) = false := by cases Cal.leap y <;> decide
  obtain ⟨b0, b1⟩ := before_bd y h0 h1
  rw [rin_eq y h0 h1, Option.bind_some, if_pos rfl, if_neg (by decide)]
  simp only [hd]
  rw [almanackerref04_Of.j0, if_neg (by decide), rbefore_eq y h0 h1, Option.bind_some]
  have e : wrap64 (wrap64 (Cal.before y + 1) - 1) = Cal.before y := by unfold wrap64; omega
  simp only [e]
  rw [rmoon_eq _ (by omega) (by omega)]
  rfl
theorem rdelay_eq (k : Nat) (d p : Int) (lp after : Bool) (h0 : -1152921504606846976 ≤ d) (h1 : d ≤ 1152921504606846976) : almanackerref05_Delay.f (k + 2) d p lp after = some (Cal.delay d p lp after) := by
  unfold almanackerref05_Delay.f
  rw [rweek_eq d h0 h1, Option.bind_some]
  obtain ⟨w, hw⟩ : ∃ w, d % 7 = w := ⟨_, rfl⟩
  have w0 : 0 ≤ w := by omega
  have w1 : w ≤ 6 := by omega
  have ht : Int.tmod (wrap64 (w + 1)) 7 = (w + 1) % 7 := by
    have : wrap64 (w + 1) = w + 1 := by unfold wrap64; omega
    rw [this, Int.tmod_eq_emod_of_nonneg (by omega)]
  have ht0 : Int.tmod (wrap64 (w + 0)) 7 = w := by
    have : wrap64 (w + 0) = w := by unfold wrap64; omega
    rw [this, Int.tmod_eq_emod_of_nonneg (by omega)]; omega
  obtain ⟨A, hA⟩ : ∃ A, (if (w + 1) % 7 = 0 ∨ (w + 1) % 7 = 3 ∨ (w + 1) % 7 = 5 then (1 : Int) + 1 else 1) = A := ⟨_, rfl⟩
  obtain ⟨B, hB⟩ : ∃ B, (if w = 0 ∨ w = 3 ∨ w = 5 then (0 : Int) + 1 else 0) = B := ⟨_, rfl⟩
  have hone : (if (w + 1) % 7 = 0 then (some (1 + 1)) else (if (w + 1) % 7 = 3 then (some (1 + 1)) else (if (w + 1) % 7 = 5 then (some (1 + 1)) else (some 1)))) = some A := by
    rw [← hA]
    by_cases a : (w + 1) % 7 = 0 <;> by_cases b : (w + 1) % 7 = 3 <;> by_cases c : (w + 1) % 7 = 5 <;> simp [a, b, c]
  have hzero : (if w = 0 then (some (wrap64 (0 + 1))) else (if w = 3 then (some (wrap64 (0 + 1))) else (if w = 5 then (some (wrap64 (0 + 1))) else (some 0)))) = some B := by
    have e : wrap64 (0 + 1) = 1 := by unfold wrap64; omega
    rw [e, ← hB]
    by_cases a : w = 0 <;> by_cases b : w = 3 <;> by_cases c : w = 5 <;> simp [a, b, c]
  have hJ : ∀ x, almanackerref05_Delay.j1 (k + 1) w 0 x = some (if x = true then A else B) := by
    intro x
    rw [almanackerref05_Delay.j1, ht, ht0, hone, hzero]
    cases x <;> rfl
  have hJ0 : ∀ x, almanackerref05_Delay.j0 (k + 2) after w 0 x d p = some (if (x = true ∨ (after = true ∧ w = 1 ∧ p ≥ 16789)) then A else B) := by
    intro x
    rw [almanackerref05_Delay.j0, ht, hone, hJ, hJ]
    cases x <;> cases after <;> by_cases hb : w = 1 <;> by_cases hc : p ≥ 16789 <;> simp [hb, hc]
  have hfin : Cal.delay d p lp after = if (p ≥ 19440 ∨ (lp = false ∧ w = 2 ∧ p ≥ 9924) ∨ (after = true ∧ w = 1 ∧ p ≥ 16789)) then A else B := by
    unfold Cal.delay Cal.off
    rw [hw, ← hA, ← hB]
    have e0 : (w + 0) % 7 = w := by omega
    by_cases a : p ≥ 19440
    · simp only [if_pos a, if_pos (Or.inl a : p ≥ 19440 ∨ _)]
    · by_cases b : lp = false ∧ w = 2 ∧ p ≥ 9924
      · simp only [if_neg a, if_pos b, if_pos (Or.inr (Or.inl b) : p ≥ 19440 ∨ _)]
      · by_cases c : after = true ∧ w = 1 ∧ p ≥ 16789
        · simp only [if_neg a, if_neg b, if_pos c, if_pos (Or.inr (Or.inr c) : p ≥ 19440 ∨ _)]
        · simp only [if_neg a, if_neg b, if_neg c, e0]
          rw [if_neg (show ¬ (p ≥ 19440 ∨ (lp = false ∧ w = 2 ∧ p ≥ 9924) ∨ (after = true ∧ w = 1 ∧ p ≥ 16789)) from fun h => h.elim a fun h => h.elim b c)]
  rw [hfin, hw, ht, hone]
  simp only [hJ0]
  by_cases a : p ≥ 19440
  · simp [a]
  · cases lp <;> by_cases b : w = 2 <;> by_cases c : p ≥ 9924 <;> simp [a, b, c]
theorem rfirst_eq (k : Nat) (y : Int) (h0 : 0 ≤ y) (h1 : y ≤ 10001) : almanackerref05_First.f (k + 2) y = some (Cal.first y, 0) := by
  unfold almanackerref05_First.f
  obtain ⟨m0, m1⟩ := md_bd y h0 h1
  have e : wrap64 (y - 1) = y - 1 := by unfold wrap64; omega
  rw [rof_eq (k + 1) y h0 h1, Option.bind_some, if_pos rfl, is_eq y (by omega) (by omega), Option.bind_some, e, is_eq (y - 1) (by omega) (by omega), Option.bind_some, rdelay_eq k _ _ _ _ (by omega) (by omega), Option.bind_some]
  obtain ⟨d0, d1⟩ := delay_bd (Cal.md y) (Cal.mp y) (Cal.leap y) (Cal.leap (y - 1))
  simp only [Option.some.injEq, Prod.mk.injEq, and_true]
  unfold Cal.first wrap64
  omega
theorem rfirst_ev (y : Int) (h0 : 0 ≤ y) (h1 : y ≤ 10001) : Ev (fun K => almanackerref05_First.f K y) (Cal.first y, 0) :=
  ⟨2, fun K hK => by
    obtain ⟨k, rfl⟩ : ∃ k, K = k + 2 := ⟨K - 2, by omega⟩
    exact rfirst_eq k y h0 h1⟩
end Go.Proofs.YtflpddhoiafhcaaDoor.P
end

section
/- Reading an event of a list that is moved to a day; its weekday. -/
namespace Go.Proofs.YtflpddhoiafhcaaDoor.P
open Go.RowKit Go.Proofs.YtflpddhoiafhcaaDoor.H Go.Proofs.YtflpddhoiafhcaaDoorW.PrintWords
theorem rd_at (M : List (Int × Int)) (s i : Int) (h0 : 0 ≤ i) (h1 : i < (M.length : Int)) : rd_T48 (M.map (atDay s)) i = atDay s (M.getD i.toNat (0, 0)) := by
  unfold rd_T48
  have hi : i.toNat < M.length := by omega
  rw [List.getD_eq_getElem?_getD, List.getElem?_map, List.getElem?_eq_getElem hi, List.getD_eq_getElem?_getD, List.getElem?_eq_getElem hi]
  rfl
theorem getD_mem' (M : List (Int × Int)) (i : Int) (h0 : 0 ≤ i) (h1 : i < (M.length : Int)) : M.getD i.toNat (0, 0) ∈ M := by
  have hi : i.toNat < M.length := by omega
  rw [List.getD_eq_getElem?_getD, List.getElem?_eq_getElem hi]; exact List.getElem_mem hi
theorem week_shift (s t p : Int) (hst : s % 7 = t % 7) (hs : -3000000 ≤ s ∧ s ≤ 3000000) (ht : -3000000 ≤ t ∧ t ≤ 3000000) (hp : -1000 ≤ p ∧ p ≤ 1000) : almanackerref04_Weekday.f (s + p) = almanackerref04_Weekday.f (t + p) := by
  rw [rweek_eq _ (by omega) (by omega), rweek_eq _ (by omega) (by omega)]
  have : (s + p) % 7 = (t + p) % 7 := by rw [← Int.emod_add_emod s, ← Int.emod_add_emod t, hst]
  rw [this]
end Go.Proofs.YtflpddhoiafhcaaDoor.P
end

section
/- What the printed Lean function of 'almanackerlaw19.FeastDays' answers: true, in every year and place. -/
namespace Go.Proofs.YtflpddhoiafhcaaDoor.P
open Go.RowKit Go.Proofs.YtflpddhoiafhcaaDoor.H Go.Proofs.YtflpddhoiafhcaaDoorW.PrintWords Go.WideShapes Go.ChangeShapes
section
variable (M : List (Int × Int)) (s t n : Int) (hst : s % 7 = t % 7) (hs : -3000000 ≤ s ∧ s ≤ 3000000) (ht : -3000000 ≤ t ∧ t ≤ 3000000) (hM : ∀ p ∈ M, -1000 ≤ p.2 ∧ p.2 ≤ 1000) (hl : M.length ≤ 1000) (x1 x1' : Int) (hx : Int.tmod x1 2 = Int.tmod x1' 2)
include hst hs ht hM hl hx
theorem days_shift : ∀ k, (∀ x7 x12 i, almanackerlaw19_FeastDays.l0 k x1 (M.map (atDay s)) x7 s (s + n) x12 i = almanackerlaw19_FeastDays.l0 k x1' (M.map (atDay t)) x7 t (t + n) x12 i) ∧
    (∀ x7 x12 i w x, almanackerlaw19_FeastDays.j1 k x1 (M.map (atDay s)) x7 s (s + n) x12 i w x = almanackerlaw19_FeastDays.j1 k x1' (M.map (atDay t)) x7 t (t + n) x12 i w x)
  | 0 => ⟨fun _ _ _ => rfl, fun _ _ _ _ _ => rfl⟩
  | k + 1 => by
    obtain ⟨ih0, ih1⟩ := days_shift k
    refine ⟨fun x7 x12 i => ?_, fun x7 x12 i w x => ?_⟩
    · rw [almanackerlaw19_FeastDays.l0, almanackerlaw19_FeastDays.l0, List.length_map, List.length_map, hx]
      by_cases c1 : i < (M.length : Int)
      · rw [if_pos c1, if_pos c1]
        by_cases c2 : 0 ≤ i
        · rw [if_pos c2, if_pos c2, rd_at M s i c2 c1, rd_at M t i c2 c1]
          have hb := hM _ (getD_mem' M i c2 c1)
          generalize M.getD i.toNat (0, 0) = p at *
          simp only [atDay, ih1]
          rw [week_shift s t p.2 hst hs ht hb]
          refine congrArg (Option.bind _) (funext fun w5 => ?_)
          by_cases d1 : s + p.2 < s
          · rw [if_pos d1, if_pos (show t + p.2 < t by omega)]
          rw [if_neg d1, if_neg (show ¬ t + p.2 < t by omega)]
          by_cases d2 : s + p.2 ≥ s + n
          · rw [if_pos d2, if_pos (show t + p.2 ≥ t + n by omega)]
          rw [if_neg d2, if_neg (show ¬ t + p.2 ≥ t + n by omega)]
          by_cases c3 : i > 0
          · have e : wrap64 (i - 1) = i - 1 := by unfold wrap64; omega
            rw [if_pos c3, if_pos c3, e]
            have c4 : 0 ≤ i - 1 := by omega
            have c5 : i - 1 < (M.length : Int) := by omega
            rw [if_pos c4, if_pos c4, if_pos c5, if_pos c5, rd_at M s (i - 1) c4 c5, rd_at M t (i - 1) c4 c5]
            generalize M.getD (i - 1).toNat (0, 0) = q at *
            simp only [atDay]
            have q4 : (s + p.2 == s + q.2) = (t + p.2 == t + q.2) := by
              rw [Bool.eq_iff_iff, beq_iff_eq, beq_iff_eq]; omega
            rw [q4]
            by_cases d3 : s + p.2 < s + q.2
            · rw [if_pos d3, if_pos (show t + p.2 < t + q.2 by omega)]
            · rw [if_neg d3, if_neg (show ¬ t + p.2 < t + q.2 by omega)]
          · rw [if_neg c3, if_neg c3]
        · rw [if_neg c2, if_neg c2]
      · rw [if_neg c1, if_neg c1]
    · rw [almanackerlaw19_FeastDays.j1, almanackerlaw19_FeastDays.j1, List.length_map, List.length_map]
      by_cases c0 : x = true
      · rw [if_pos c0, if_pos c0]
      rw [if_neg c0, if_neg c0]
      by_cases c2 : 0 ≤ i
      · rw [if_pos c2, if_pos c2]
        by_cases c1 : i < (M.length : Int)
        · rw [if_pos c1, if_pos c1, rd_at M s i c2 c1, rd_at M t i c2 c1]
          generalize M.getD i.toNat (0, 0) = p at *
          simp only [atDay, ih0]
          by_cases d1 : s + p.2 = s
          · rw [if_pos d1, if_pos (show t + p.2 = t by omega)]
          · rw [if_neg d1, if_neg (show ¬ t + p.2 = t by omega)]
        · rw [if_neg c1, if_neg c1]
      · rw [if_neg c2, if_neg c2]
end
def yearLong (kd : Int) (l : Bool) : Int := 353 + kd + (if l = true then 30 else 0)
theorem days_types : ∀ t ∈ Cal.tyList, ∀ p ∈ [0, 1], almanackerlaw19_FeastDays.l0 600 p ((feastList t.1 t.2.1 t.2.2 p).map (atDay t.1)) 0 t.1 (t.1 + yearLong t.2.1 t.2.2) 0 0 = some true := by
  decide +kernel
theorem feastDays_pure : almanackerlaw19_FeastDays.Pure := by
  intro a0 a1 w0 w1
  have b0 := bounds_u16 w0
  have b1 := bounds_u8 w1
  have hw : wrap64 a0 = a0 := by unfold wrap64; omega
  have hy : wrap64 (1 + Int.tmod (wrap64 a0) 9999) = 1 + a0 % 9999 := by
    rw [hw, Int.tmod_eq_emod_of_nonneg b0.1]; unfold wrap64; omega
  have hp : wrap64 (Int.tmod a1 2) = a1 % 2 := by
    rw [Int.tmod_eq_emod_of_nonneg b1.1]; unfold wrap64; omega
  obtain ⟨y, hye⟩ : ∃ y, 1 + a0 % 9999 = y := ⟨_, rfl⟩
  have y0 : 1 ≤ y := by omega
  have y1 : y ≤ 9999 := by omega
  obtain ⟨p, hpe⟩ : ∃ p, a1 % 2 = p := ⟨_, rfl⟩
  have hp01 : p = 0 ∨ p = 1 := by omega
  have hpm : p ∈ [(0 : Int), 1] := by rcases hp01 with rfl | rfl <;> simp
  obtain ⟨b, kd, l, Y⟩ := Yr.all y y0 y1
  have T := days_types _ Y.ht p hpm
  have hlb := list_bd _ Y.ht p hpm
  have hln : (feastList b kd l p).length ≤ 60 := by
    have := list_len _ Y.ht p hpm
    unfold feastList; rw [Cal.sortE_length]; exact this
  obtain ⟨a, c⟩ := first_bd y (by omega) (by omega)
  obtain ⟨_, _, k0, k1⟩ := kev_bd Y.ht
  have hE : Ev (fun K => almanackerlaw19_FeastDays.f K a0 a1) true := by
    unfold almanackerlaw19_FeastDays.f
    rw [hy, hp, hye, hpe]
    have e1 : wrap64 (y + 1) = y + 1 := by unfold wrap64; omega
    rw [e1]
    refine Ev.bind (feast_list Y p hp01) (Ev.bind (rfirst_ev y (by omega) (by omega)) (Ev.bind (rfirst_ev (y + 1) (by omega) (by omega)) ?_))
    have hnext : Cal.first (y + 1) = Cal.first y + yearLong kd l := by have := Y.hl; unfold yearLong; omega
    simp only [hnext]
    refine Ev.of (k := 600) (fun k => (almanackerlaw19_FeastDays.mono_l k).1 _ _ _ _ _ _ _) ?_
    rw [(days_shift (feastList b kd l p) (Cal.first y) b (yearLong kd l) (by have := Y.hb; omega) ⟨by omega, by omega⟩ ⟨by omega, by omega⟩ hlb (by omega) a1 p (by
      rw [Int.tmod_eq_emod_of_nonneg b1.1, Int.tmod_eq_emod_of_nonneg (by omega)]; omega) 600).1]
    exact T
  exact hE.get
end Go.Proofs.YtflpddhoiafhcaaDoor.P
end
