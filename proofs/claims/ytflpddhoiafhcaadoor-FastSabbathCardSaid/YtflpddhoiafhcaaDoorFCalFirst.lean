/- What the printed Lean functions of the calendar answer for a year: its first day, its type, in the words of plain mathematics. -/
import Derived.Test.YtflpddhoiafhcaaDoorFx4
import Derived.Test.YtflpddhoiafhcaaDoorCal
namespace Go.Proofs.YtflpddhoiafhcaaDoor.F
open Go.RowKit Go.Proofs.YtflpddhoiafhcaaDoor.H
theorem both_lit (a b : Int) (hb : b = 7 ∨ b = 19 ∨ b = 25920) (h0 : -1152921504606846976 ≤ a) (h1 : a ≤ 1152921504606846976) : exact_both.f a b = some (a / b, a % b) := by
  rcases hb with rfl | rfl | rfl
  all_goals
    unfold exact_both.f
    rw [if_neg (by decide), Int.tmod_eq_emod, Int.tdiv_eq_ediv]
    split
    · rw [if_neg (by omega)]
      simp only [Option.some.injEq, Prod.mk.injEq]
      unfold wrap64
      omega
    · rw [if_pos (by simp; omega)]
      simp only [Option.some.injEq, Prod.mk.injEq]
      unfold wrap64
      simp
      try rw [show Int.sign (7 : Int) = 1 from rfl]
      try rw [show Int.sign (19 : Int) = 1 from rfl]
      try rw [show Int.sign (25920 : Int) = 1 from rfl]
      omega
theorem mod_lit (a b : Int) (hb : b = 7 ∨ b = 19 ∨ b = 25920) (h0 : -1152921504606846976 ≤ a) (h1 : a ≤ 1152921504606846976) : exact_Mod.f a b = some (a % b, 0) := by
  unfold exact_Mod.f
  rw [if_neg (by omega), both_lit a b hb h0 h1]
  rfl
theorem div_lit (a b : Int) (hb : b = 7 ∨ b = 19 ∨ b = 25920) (h0 : -1152921504606846976 ≤ a) (h1 : a ≤ 1152921504606846976) : exact_Div.f a b = some (a / b, 0) := by
  unfold exact_Div.f
  rw [if_neg (by omega), both_lit a b hb h0 h1]
  rfl
theorem weekday_eq (a : Int) (h0 : -1152921504606846976 ≤ a) (h1 : a ≤ 1152921504606846976) : molad_Weekday.f a = some (a % 7) := by
  unfold molad_Weekday.f
  rw [mod_lit a 7 (by simp) h0 h1]
  rfl
theorem check_eq (y : Int) (h0 : 0 ≤ y) (h1 : y ≤ 10001) : cycle_check.f y = some 0 := by
  unfold cycle_check.f
  rw [if_neg (by omega), if_neg (by omega)]
theorem leap_eq (y : Int) (h0 : -1 ≤ y) (h1 : y ≤ 10001) : (cycle_Leap.f y).map (·.1) = some (Cal.leap y) ∧ (0 ≤ y → cycle_Leap.f y = some (Cal.leap y, 0)) := by
  by_cases hy : 0 ≤ y
  · have e : cycle_Leap.f y = some (Cal.leap y, 0) := by
      unfold cycle_Leap.f Cal.leap
      rw [check_eq y hy h1, Option.bind_some, if_pos rfl, Int.tmod_eq_emod_of_nonneg hy]
      have key : ∀ m : Fin 19, (if ((m.val : Nat) : Int) = 0 then (some (true, (0 : Int))) else (if ((m.val : Nat) : Int) = 3 then (some (true, 0)) else (if ((m.val : Nat) : Int) = 6 then (some (true, 0)) else (if ((m.val : Nat) : Int) = 8 then (some (true, 0)) else (if ((m.val : Nat) : Int) = 11 then (some (true, 0)) else (if ((m.val : Nat) : Int) = 14 then (some (true, 0)) else (if ((m.val : Nat) : Int) = 17 then (some (true, 0)) else (some (false, 0)))))))))
          = some (decide ((7 * ((m.val : Nat) : Int) + 1) % 19 < 7), 0) := by decide
      have hk := key ⟨(y % 19).toNat, by omega⟩
      have hm : (((⟨(y % 19).toNat, by omega⟩ : Fin 19).val : Nat) : Int) = y % 19 := by simp; omega
      rw [hm] at hk
      rw [hk]
      have hd : decide ((7 * (y % 19) + 1) % 19 < 7) = decide ((7 * y + 1) % 19 < 7) := by
        have e : 7 * y + 1 = (7 * (y % 19) + 1) + 19 * (7 * (y / 19)) := by omega
        rw [e, Int.add_mul_emod_self_left]
      rw [hd]
    exact ⟨by rw [e]; rfl, fun _ => e⟩
  · obtain rfl : y = -1 := by omega
    exact ⟨by decide, fun h => by omega⟩
theorem in_eq (y : Int) (h0 : 0 ≤ y) (h1 : y ≤ 10001) : cycle_In.f y = some (if Cal.leap y = true then 13 else 12, 0) := by
  unfold cycle_In.f
  rw [(leap_eq y (by omega) h1).2 h0, Option.bind_some]
  cases Cal.leap y <;> rfl
theorem before_eq (y : Int) (h0 : 0 ≤ y) (h1 : y ≤ 10001) : cycle_Before.f y = some (Cal.before y, 0) := by
  unfold cycle_Before.f
  rw [check_eq y h0 h1, Option.bind_some, if_pos rfl]
  have e : wrap64 (wrap64 (235 * wrap64 (y - 1)) + 1) = 235 * y - 234 := by unfold wrap64; omega
  rw [e, div_lit _ 19 (by simp) (by omega) (by omega)]
  rfl
theorem split_eq (p : Int) (h0 : -1152921504606846976 ≤ p) (h1 : p ≤ 1152921504606846976) : halak_Split.f p = some (p / 25920, p % 25920) := by
  unfold halak_Split.f
  rw [div_lit p 25920 (by simp) h0 h1, Option.bind_some, mod_lit p 25920 (by simp) h0 h1]
  rfl
theorem moons_eq (n : Int) (h0 : -200000 ≤ n) (h1 : n ≤ 200000) : halak_Moons.f n = some (n * 765433, 0) := by
  unfold halak_Moons.f exact_Mul.f
  first | rw [if_pos (by omega)] | simp
  rfl
theorem moon_eq (k : Nat) (n : Int) (h0 : -200000 ≤ n) (h1 : n ≤ 200000) : molad_Moon.f (k + 1) n = some ((5604 + 765433 * n) / 25920 - 1373427, (5604 + 765433 * n) % 25920, 0) := by
  unfold molad_Moon.f
  rw [if_neg (by omega), show decide (n > 200000) = false by simp; omega, molad_Moon.j0, if_neg (by decide), moons_eq n h0 h1, Option.bind_some, if_pos rfl]
  have e : wrap64 (n * 765433 + 5604) = 5604 + 765433 * n := by unfold wrap64; omega
  rw [e, split_eq _ (by omega) (by omega), Option.bind_some]
  simp only [Option.some.injEq, Prod.mk.injEq, and_true]
  unfold wrap64
  omega
theorem before_bd (y : Int) (h0 : 0 ≤ y) (h1 : y ≤ 10001) : -13 ≤ Cal.before y ∧ Cal.before y ≤ 123700 := by unfold Cal.before; omega
theorem of_eq (k : Nat) (y : Int) (h0 : 0 ≤ y) (h1 : y ≤ 10001) : molad_Of.f (k + 2) y 1 = some (Cal.md y, Cal.mp y, 0) := by
  unfold molad_Of.f
  have hd : decide ((1 : Int) > (if Cal.leap y = true then 13 else 12)) = false := by cases Cal.leap y <;> decide
  obtain ⟨b0, b1⟩ := before_bd y h0 h1
  rw [in_eq y h0 h1, Option.bind_some, if_pos rfl, if_neg (by decide)]
  simp only [hd]
  rw [molad_Of.j0, if_neg (by decide), before_eq y h0 h1, Option.bind_some, if_pos rfl]
  have e : wrap64 (wrap64 (Cal.before y + 1) - 1) = Cal.before y := by unfold wrap64; omega
  simp only [e]
  rw [moon_eq k _ (by omega) (by omega)]
  rfl
theorem md_bd (y : Int) (h0 : 0 ≤ y) (h1 : y ≤ 10001) : -1373900 ≤ Cal.md y ∧ Cal.md y ≤ 2300000 := by
  obtain ⟨b0, b1⟩ := before_bd y h0 h1
  unfold Cal.md; omega
theorem bad_eq (w : Int) : newyear_bad.f w = some (decide (w = 0 ∨ w = 3 ∨ w = 5)) := by
  unfold newyear_bad.f
  by_cases h1 : w = 0 <;> by_cases h2 : w = 3 <;> by_cases h3 : w = 5 <;> simp [h1, h2, h3]
theorem delay_eq (k : Nat) (d p : Int) (lp after : Bool) (h0 : -1152921504606846976 ≤ d) (h1 : d ≤ 1152921504606846976) : newyear_Delay.f (k + 1) d p lp after = some (Cal.delay d p lp after) := by
  unfold newyear_Delay.f
  rw [weekday_eq d h0 h1, Option.bind_some]
  obtain ⟨w, hw⟩ : ∃ w, d % 7 = w := ⟨_, rfl⟩
  have w0 : 0 ≤ w := by omega
  have w1 : w ≤ 6 := by omega
  have ht : Int.tmod (wrap64 (w + 1)) 7 = (w + 1) % 7 := by
    have : wrap64 (w + 1) = w + 1 := by unfold wrap64; omega
    rw [this, Int.tmod_eq_emod_of_nonneg (by omega)]
  have hT : newyear_Delay.j0 (k + 1) w true = some (if (w + 1) % 7 = 0 ∨ (w + 1) % 7 = 3 ∨ (w + 1) % 7 = 5 then 2 else 1) := by
    rw [newyear_Delay.j0, if_pos rfl, ht, bad_eq, Option.bind_some]
    by_cases h : (w + 1) % 7 = 0 ∨ (w + 1) % 7 = 3 ∨ (w + 1) % 7 = 5 <;> simp [h]
  have hF : newyear_Delay.j0 (k + 1) w false = some (if w = 0 ∨ w = 3 ∨ w = 5 then 1 else 0) := by
    rw [newyear_Delay.j0, if_neg (by decide), bad_eq, Option.bind_some]
    by_cases h : w = 0 ∨ w = 3 ∨ w = 5 <;> simp [h]
  have hA : (decide (p ≥ 19440)) = true ↔ p ≥ 19440 := by simp
  unfold Cal.delay Cal.off
  rw [hw]
  have e1 : (w + 1) % 7 % 7 = (w + 1) % 7 := by omega
  by_cases h1 : p ≥ 19440
  · rw [if_pos h1, show decide (p ≥ 19440) = true from decide_eq_true h1, hT]
    simp only [if_pos h1]
    split <;> rfl
  · rw [if_neg h1]
    simp only [if_neg h1]
    by_cases h2 : w = 2
    · subst h2
      by_cases h3 : p ≥ 9924
      · cases lp
        · simp only [h3, if_true, Bool.not_false, hT]; simp
        · simp only [h3, if_true, hF]; simp
      · simp only [if_true, if_neg h3]; simp [hF, h3]
    · by_cases h3 : w = 1
      · subst h3
        by_cases h4 : p ≥ 16789
        · cases after
          · simp [h4, hF]
          · simp [h4, hT]
        · simp [h4, hF]
      · simp only [if_neg h2, if_neg h3, hF]
        simp [h2, h3]
        have : w % 7 = w := by omega
        rw [this]
theorem delay_bd (d p : Int) (lp after : Bool) : 0 ≤ Cal.delay d p lp after ∧ Cal.delay d p lp after ≤ 2 := by
  unfold Cal.delay Cal.off
  repeat' split
  all_goals omega
theorem first_eq (k : Nat) (y : Int) (h0 : 0 ≤ y) (h1 : y ≤ 10001) : newyear_First.f (k + 2) y = some (Cal.first y, 0) := by
  unfold newyear_First.f
  obtain ⟨m0, m1⟩ := md_bd y h0 h1
  rw [of_eq k y h0 h1, Option.bind_some, if_pos rfl, (leap_eq y (by omega) h1).2 h0, Option.bind_some]
  have e : wrap64 (y - 1) = y - 1 := by unfold wrap64; omega
  rw [e]
  obtain ⟨t, ht, hl⟩ : ∃ t, cycle_Leap.f (y - 1) = some t ∧ t.1 = Cal.leap (y - 1) := by
    have := (leap_eq (y - 1) (by omega) (by omega)).1
    obtain ⟨t, ht, hl⟩ := Option.map_eq_some_iff.1 this
    exact ⟨t, ht, hl⟩
  rw [ht, Option.bind_some, hl, delay_eq (k + 1) _ _ _ _ (by omega) (by omega), Option.bind_some]
  obtain ⟨d0, d1⟩ := delay_bd (Cal.md y) (Cal.mp y) (Cal.leap y) (Cal.leap (y - 1))
  simp only [Option.some.injEq, Prod.mk.injEq, and_true]
  unfold Cal.first wrap64
  omega
end Go.Proofs.YtflpddhoiafhcaaDoor.F
