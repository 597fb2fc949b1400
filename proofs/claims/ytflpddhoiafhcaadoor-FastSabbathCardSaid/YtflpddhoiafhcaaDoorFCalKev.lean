/- What the printed Lean functions of the calendar answer for a year's type and for a date's day. -/
import Derived.Test.YtflpddhoiafhcaaDoorFCalFirst
import Derived.Test.YtflpddhoiafhcaaDoorFx7
import Derived.Test.YtflpddhoiafhcaaDoorKev
namespace Go.Proofs.YtflpddhoiafhcaaDoor.F
open Go.RowKit Go.Proofs.YtflpddhoiafhcaaDoor.H
theorem first_bd (y : Int) (h0 : 0 ≤ y) (h1 : y ≤ 10001) : -1373900 ≤ Cal.first y ∧ Cal.first y ≤ 2300002 := by
  obtain ⟨m0, m1⟩ := md_bd y h0 h1
  obtain ⟨d0, d1⟩ := delay_bd (Cal.md y) (Cal.mp y) (Cal.leap y) (Cal.leap (y - 1))
  unfold Cal.first; omega
theorem long_eq (k : Nat) (y : Int) (h0 : 1 ≤ y) (h1 : y ≤ 9999) : keviah_Long.f (k + 3) y = some (Cal.first (y + 1) - Cal.first y, 0) := by
  obtain ⟨a0, a1⟩ := first_bd y (by omega) (by omega)
  obtain ⟨b0, b1⟩ := first_bd (y + 1) (by omega) (by omega)
  have e : wrap64 (y + 1) = y + 1 := by unfold wrap64; omega
  unfold keviah_Long.f
  rw [if_neg (by omega), show decide (y > 9999) = false by simp; omega, keviah_Long.j0, if_neg (by decide), first_eq k y (by omega) (by omega), Option.bind_some, e, first_eq k (y + 1) (by omega) (by omega), Option.bind_some]
  simp only [Option.some.injEq, Prod.mk.injEq, and_true]
  unfold wrap64
  omega
theorem long_out (k : Nat) (y : Int) (h : y < 1 ∨ y > 9999) : keviah_Long.f (k + 1) y = some (0, 2) := by
  unfold keviah_Long.f
  by_cases h0 : y < 1
  · rw [if_pos h0, keviah_Long.j0, if_pos rfl]
  · rw [if_neg h0, show decide (y > 9999) = true by simp; omega, keviah_Long.j0, if_pos rfl]
theorem kev_bd {b k : Int} {l : Bool} (h : (b, k, l) ∈ Cal.tyList) : 0 ≤ k ∧ k ≤ 2 ∧ 1 ≤ b ∧ b ≤ 6 := by
  have key : ∀ x ∈ Cal.tyList, 0 ≤ x.2.1 ∧ x.2.1 ≤ 2 ∧ 1 ≤ x.1 ∧ x.1 ≤ 6 := by decide
  exact key _ h
theorem kev_eq (k : Nat) (y b kd : Int) (l : Bool) (h0 : 1 ≤ y) (h1 : y ≤ 9999) (ht : (b, kd, l) ∈ Cal.tyList) (hb : Cal.first y % 7 = b) (hl : Cal.first (y + 1) - Cal.first y = 353 + kd + (if l = true then 30 else 0)) (hlp : Cal.leap y = l) :
    keviah_Of.f (k + 3) y = some (b, kd, l, 0) := by
  obtain ⟨a0, a1⟩ := first_bd y (by omega) (by omega)
  obtain ⟨k0, k1, _, _⟩ := kev_bd ht
  unfold keviah_Of.f
  rw [long_eq k y h0 h1, Option.bind_some, if_pos rfl, first_eq (k + 1) y (by omega) (by omega), Option.bind_some, (leap_eq y (by omega) (by omega)).2 (by omega), Option.bind_some, weekday_eq _ (by omega) (by omega), Option.bind_some, hb, hlp, hl]
  have e : Int.tmod (wrap64 (353 + kd + (if l = true then 30 else 0) - 353)) 30 = kd := by
    cases l
    · have : wrap64 (353 + kd + (if false = true then 30 else 0) - 353) = kd := by unfold wrap64; simp; omega
      rw [this, Int.tmod_eq_emod_of_nonneg (by omega)]; omega
    · have : wrap64 (353 + kd + (if true = true then 30 else 0) - 353) = kd + 30 := by unfold wrap64; simp; omega
      rw [this, Int.tmod_eq_emod_of_nonneg (by omega)]; omega
  rw [e]
theorem kev_out (k : Nat) (y : Int) (h : y < 1 ∨ y > 9999) : keviah_Of.f (k + 1) y = some (0, 0, false, 2) := by
  unfold keviah_Of.f
  rw [long_out k y h]
  rfl
theorem toDay_eq (k : Nat) (y b kd : Int) (l : Bool) (n : Int) (lc : Bool) (d m : Int) (h0 : 1 ≤ y) (h1 : y ≤ 9999) (ht : (b, kd, l) ∈ Cal.tyList) (hb : Cal.first y % 7 = b) (hl : Cal.first (y + 1) - Cal.first y = 353 + kd + (if l = true then 30 else 0)) (hlp : Cal.leap y = l)
    (hp : code_Place.f (k + 3) l n lc = some (m, true)) (hm0 : 0 ≤ m) (hm1 : m ≤ 100) (hd0 : 1 ≤ d) (hd1 : d ≤ Cal.mdays b kd l m) (hd2 : d ≤ 100) (ha0 : 0 ≤ Cal.mahead b kd l m) (ha1 : Cal.mahead b kd l m ≤ 1000) :
    heb_ToDay.f (k + 3) y n lc d = some (Cal.first y + Cal.mahead b kd l m + d - 1, 0) := by
  obtain ⟨a0, a1⟩ := first_bd y (by omega) (by omega)
  have hf : heb_find.f (k + 3) y n lc = some (b, kd, l, m, 0) := by
    unfold heb_find.f
    rw [kev_eq k y b kd l h0 h1 ht hb hl hlp, Option.bind_some, if_pos rfl]
    simp only
    rw [hp, Option.bind_some, if_pos rfl]
  have hk : heb_look.f (k + 3) y n lc d = some (b, kd, l, m, 0) := by
    unfold heb_look.f
    rw [hf, Option.bind_some, if_pos rfl, if_neg (by omega)]
    simp only
    rw [month_Days.f, if_pos (by omega), Option.bind_some, if_neg (by omega)]
  unfold heb_ToDay.f
  rw [hk, Option.bind_some, if_pos rfl, first_eq (k + 1) y (by omega) (by omega), Option.bind_some]
  simp only
  rw [month_Ahead.f, if_pos (by omega), Option.bind_some]
  simp only [Option.some.injEq, Prod.mk.injEq, and_true]
  unfold wrap64
  omega
end Go.Proofs.YtflpddhoiafhcaaDoor.F
