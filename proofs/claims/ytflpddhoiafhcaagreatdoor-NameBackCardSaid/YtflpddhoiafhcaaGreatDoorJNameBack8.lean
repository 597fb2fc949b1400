/- Texts of the proof of 'NameBack', joined by a program (part 8): contracts of functions, plain laws. -/
import Derived.Test.YtflpddhoiafhcaaGreatDoorJNameBack2
import Derived.Test.YtflpddhoiafhcaaGreatDoorJNameBack5
import Derived.Test.YtflpddhoiafhcaaGreatDoorJNameBack3
import Derived.Test.YtflpddhoiafhcaaGreatDoorJNameBack7
import Derived.Test.YtflpddhoiafhcaaGreatDoorJNameBack4
import Derived.Test.YtflpddhoiafhcaaGreatDoorJNameBack6
import Derived.OpenShut
set_option linter.unusedVariables false
set_option linter.unusedSimpArgs false
set_option linter.unusedSectionVars false
section
/- A code's place in the reference's words: the same as in the package's. -/
namespace Go.Proofs.YtflpddhoiafhcaaGreatDoor.Q
open Go.RowKit Go.Proofs.YtflpddhoiafhcaaGreatDoor.H Go.Proofs.YtflpddhoiafhcaaGreatDoorW.PrintWords
theorem code_Right_ok (n : Int) (l : Bool) : code_Right.f n l = some (Cal.codeOk n l) := by
  by_cases h0 : n > 0 <;> by_cases h1 : n ≤ 12 <;> by_cases h2 : n = 5 <;> simp [code_Right.f, Cal.codeOk, h0, h1, h2]
def codeL (l : Bool) : List S32 := ([⟨1, false⟩, ⟨2, false⟩, ⟨3, false⟩, ⟨4, false⟩, ⟨5, false⟩] ++ (if l then [⟨5, true⟩] else []) ++ [⟨6, false⟩, ⟨7, false⟩, ⟨8, false⟩, ⟨9, false⟩, ⟨10, false⟩, ⟨11, false⟩, ⟨12, false⟩] : List S32)
theorem codes_is (l : Bool) : almanackerref09_codes.f 14 l = some (codeL l) := by cases l <;> kernel_rfl
theorem place_none (n : Int) (l : Bool) (xs : List S32) (hx : ∀ x ∈ xs, x.f0 ≠ n) : ∀ (d i : Nat), i + d = xs.length → xs.length < 100 → almanackerref09_Place.l0 (d + 1) xs i n l = some (0, false)
  | 0, i, h, hl => by
    rw [almanackerref09_Place.l0, if_neg (by omega)]
  | d + 1, i, h, hl => by
    rw [almanackerref09_Place.l0, if_pos (by omega), if_pos (by omega)]
    have e : rd_T32 xs (i : Int) = xs[i]'(by omega) := by simp [rd_T32, List.getD_eq_getElem?_getD, show i < xs.length by omega]
    have hne := hx _ (List.getElem_mem (show i < xs.length by omega))
    rw [e, if_neg (by simp [hne])]
    have hw : wrap64 ((i : Int) + 1) = ((i + 1 : Nat) : Int) := by unfold wrap64; omega
    rw [hw]
    exact place_none n l xs hx d (i + 1) (by omega) hl
theorem place_same (y : Bool) (n : Int) (l : Bool) : ∃ r, code_Place.f 2 y n l = some r ∧ almanackerref09_Place.f 14 y n l = some r := by
  by_cases hn : 1 ≤ n ∧ n ≤ 12
  · have key : ∀ i : Fin 12, ∀ y l : Bool, (code_Place.f 2 y (((i.val : Nat) : Int) + 1) l).isSome = true ∧ code_Place.f 2 y (((i.val : Nat) : Int) + 1) l = almanackerref09_Place.f 14 y (((i.val : Nat) : Int) + 1) l := by decide +kernel
    obtain ⟨k1, k2⟩ := key ⟨(n - 1).toNat, by omega⟩ y l
    have e : (((⟨(n - 1).toNat, by omega⟩ : Fin 12).val : Nat) : Int) + 1 = n := by simp; omega
    rw [e] at k1 k2
    obtain ⟨r, hr⟩ := Option.isSome_iff_exists.1 k1
    exact ⟨r, hr, k2 ▸ hr⟩
  · refine ⟨(0, false), ?_, ?_⟩
    · have hw : Cal.codeOk n l = false := by
        unfold Cal.codeOk
        rcases (by omega : n < 1 ∨ n > 12) with h | h
        · simp [show ¬ n > 0 by omega]
        · simp [show ¬ n ≤ 12 by omega]
      unfold code_Place.f
      rw [code_Right_ok, hw, Option.bind_some, if_neg (by decide), code_Place.j0, if_pos rfl]
    · unfold almanackerref09_Place.f
      rw [codes_is, Option.bind_some]
      have hx : ∀ x ∈ codeL y, x.f0 ≠ n := by
        intro x hx e
        have key : ∀ y : Bool, ∀ x ∈ codeL y, 1 ≤ x.f0 ∧ x.f0 ≤ 12 := by
          intro y; cases y <;> simp [codeL]
        have := key y x hx
        omega
      have hlen : (codeL y).length = 12 ∨ (codeL y).length = 13 := by cases y <;> simp [codeL]
      rcases hlen with h | h
      · exact almanackerref09_Place.mono_l 13 _ _ _ _ _ (place_none n l _ hx 12 0 (by omega) (by omega))
      · exact place_none n l _ hx 13 0 (by omega) (by omega)
end Go.Proofs.YtflpddhoiafhcaaGreatDoor.Q
end

section
/- What the printed Lean functions of the reference answer for a year's first day: the same plain mathematics. -/
namespace Go.Proofs.YtflpddhoiafhcaaGreatDoor.Q
open Go.RowKit Go.Proofs.YtflpddhoiafhcaaGreatDoor.H
theorem left_lit (a b : Int) (hb : b = 7 ∨ b = 19 ∨ b = 25920) (h0 : -1152921504606846976 ≤ a) (h1 : a ≤ 1152921504606846976) : almanackerref01_Left.f a b = some (a % b) := by
  rcases hb with rfl | rfl | rfl
  all_goals
    unfold almanackerref01_Left.f
    rw [if_neg (by decide), Int.tmod_eq_emod]
    split
    · rw [if_neg (by omega)]; simp
    · rw [if_pos (by simp; omega)]
      simp only [Option.some.injEq]
      unfold wrap64
      simp
      omega
theorem down_lit (a b : Int) (hb : b = 7 ∨ b = 19 ∨ b = 25920) (h0 : -1152921504606846976 ≤ a) (h1 : a ≤ 1152921504606846976) : almanackerref01_Down.f a b = some (a / b) := by
  rcases hb with rfl | rfl | rfl
  all_goals
    unfold almanackerref01_Down.f
    rw [if_neg (by decide), Int.tmod_eq_emod, Int.tdiv_eq_ediv]
    split
    · rw [if_neg (by omega)]
      simp only [Option.some.injEq]
      unfold wrap64
      omega
    · rw [if_pos (by simp; omega)]
      simp only [Option.some.injEq]
      unfold wrap64
      try simp
      try rw [show Int.sign (7 : Int) = 1 from rfl]
      try rw [show Int.sign (19 : Int) = 1 from rfl]
      try rw [show Int.sign (25920 : Int) = 1 from rfl]
      omega
theorem rweek_eq (a : Int) (h0 : -1152921504606846976 ≤ a) (h1 : a ≤ 1152921504606846976) : almanackerref04_Weekday.f a = some (a % 7) := by
  unfold almanackerref04_Weekday.f
  rw [left_lit a 7 (by simp) h0 h1]
  rfl
theorem is_eq (y : Int) (h0 : -100000 ≤ y) (h1 : y ≤ 100000) : almanackerref03_Is.f y = some (Cal.leap y) := by
  unfold almanackerref03_Is.f
  have e : wrap64 (wrap64 (7 * y) + 1) = 7 * y + 1 := by unfold wrap64; omega
  rw [e, left_lit _ 19 (by simp) (by omega) (by omega)]
  rfl
theorem rright_eq (y : Int) (h0 : 0 ≤ y) (h1 : y ≤ 10001) : almanackerref03_Right.f y = some true := by
  unfold almanackerref03_Right.f
  rw [if_pos h0, decide_eq_true h1]
theorem rin_eq (y : Int) (h0 : 0 ≤ y) (h1 : y ≤ 10001) : almanackerref03_In.f y = some (if Cal.leap y = true then 13 else 12, 0) := by
  unfold almanackerref03_In.f
  rw [rright_eq y h0 h1, Option.bind_some, if_pos rfl, is_eq y (by omega) (by omega), Option.bind_some]
  cases Cal.leap y <;> rfl
theorem rbefore_eq (y : Int) (h0 : 0 ≤ y) (h1 : y ≤ 10001) : almanackerref03_Before.f y = some (Cal.before y, 0) := by
  unfold almanackerref03_Before.f
  rw [rright_eq y h0 h1, Option.bind_some, if_pos rfl]
  have e : wrap64 (wrap64 (235 * y) - 234) = 235 * y - 234 := by unfold wrap64; omega
  rw [e, down_lit _ 19 (by simp) (by omega) (by omega)]
  rfl
theorem rmoon_eq (n : Int) (h0 : -200000 ≤ n) (h1 : n ≤ 200000) : almanackerref04_Moon.f n = some ((5604 + 765433 * n) / 25920 - 1373427, (5604 + 765433 * n) % 25920, 0) := by
  unfold almanackerref04_Moon.f almanackerref02_Split.f
  have e : wrap64 (5604 + wrap64 (765433 * n)) = 5604 + 765433 * n := by unfold wrap64; omega
  rw [if_neg (by omega), if_neg (by omega), e, down_lit _ 25920 (by simp) (by omega) (by omega), Option.bind_some, left_lit _ 25920 (by simp) (by omega) (by omega), Option.bind_some, Option.bind_some]
  simp only [Option.some.injEq, Prod.mk.injEq, and_true]
  unfold wrap64
  omega
theorem rof_eq (k : Nat) (y : Int) (h0 : 0 ≤ y) (h1 : y ≤ 10001) : almanackerref04_Of.f (k + 1) y 1 = some (Cal.md y, Cal.mp y, 0) := by
  unfold almanackerref04_Of.f
  have hd : decide ((1 : Int) > (if Cal.leap y = true then 13 else 12)) = false := by cases Cal.leap y <;> decide
  obtain ⟨b0, b1⟩ := before_bd y h0 h1
  rw [rin_eq y h0 h1, Option.bind_some, if_pos rfl, if_neg (by decide)]
  simp only [hd]
  rw [almanackerref04_Of.j0, if_neg (by decide), rbefore_eq y h0 h1, Option.bind_some]
  have e : wrap64 (wrap64 (Cal.before y + 1) - 1) = Cal.before y := by unfold wrap64; omega
  simp only [e]
  rw [rmoon_eq _ (by omega) (by omega)]
  rfl
theorem rdelay_eq (k : Nat) (d p : Int) (lp after : Bool) (h0 : -1152921504606846976 ≤ d) (h1 : d ≤ 1152921504606846976) : almanackerref05_Delay.f (k + 2) d p lp after = some (Cal.delay d p lp after) := by
  unfold almanackerref05_Delay.f
  rw [rweek_eq d h0 h1, Option.bind_some]
  obtain ⟨w, hw⟩ : ∃ w, d % 7 = w := ⟨_, rfl⟩
  have w0 : 0 ≤ w := by omega
  have w1 : w ≤ 6 := by omega
  have ht : Int.tmod (wrap64 (w + 1)) 7 = (w + 1) % 7 := by
    have : wrap64 (w + 1) = w + 1 := by unfold wrap64; omega
    rw [this, Int.tmod_eq_emod_of_nonneg (by omega)]
  have ht0 : Int.tmod (wrap64 (w + 0)) 7 = w := by
    have : wrap64 (w + 0) = w := by unfold wrap64; omega
    rw [this, Int.tmod_eq_emod_of_nonneg (by omega)]; omega
  obtain ⟨A, hA⟩ : ∃ A, (if (w + 1) % 7 = 0 ∨ (w + 1) % 7 = 3 ∨ (w + 1) % 7 = 5 then (1 : Int) + 1 else 1) = A := ⟨_, rfl⟩
  obtain ⟨B, hB⟩ : ∃ B, (if w = 0 ∨ w = 3 ∨ w = 5 then (0 : Int) + 1 else 0) = B := ⟨_, rfl⟩
  have hone : (if (w + 1) % 7 = 0 then (some (1 + 1)) else (if (w + 1) % 7 = 3 then (some (1 + 1)) else (if (w + 1) % 7 = 5 then (some (1 + 1)) else (some 1)))) = some A := by
    rw [← hA]
    by_cases a : (w + 1) % 7 = 0 <;> by_cases b : (w + 1) % 7 = 3 <;> by_cases c : (w + 1) % 7 = 5 <;> simp [a, b, c]
  have hzero : (if w = 0 then (some (wrap64 (0 + 1))) else (if w = 3 then (some (wrap64 (0 + 1))) else (if w = 5 then (some (wrap64 (0 + 1))) else (some 0)))) = some B := by
    have e : wrap64 (0 + 1) = 1 := by unfold wrap64; omega
    rw [e, ← hB]
    by_cases a : w = 0 <;> by_cases b : w = 3 <;> by_cases c : w = 5 <;> simp [a, b, c]
  have hJ : ∀ x, almanackerref05_Delay.j1 (k + 1) w 0 x = some (if x = true then A else B) := by
    intro x
    rw [almanackerref05_Delay.j1, ht, ht0, hone, hzero]
    cases x <;> rfl
  have hJ0 : ∀ x, almanackerref05_Delay.j0 (k + 2) after w 0 x d p = some (if (x = true ∨ (after = true ∧ w = 1 ∧ p ≥ 16789)) then A else B) := by
    intro x
    rw [almanackerref05_Delay.j0, ht, hone, hJ, hJ]
    cases x <;> cases after <;> by_cases hb : w = 1 <;> by_cases hc : p ≥ 16789 <;> simp [hb, hc]
  have hfin : Cal.delay d p lp after = if (p ≥ 19440 ∨ (lp = false ∧ w = 2 ∧ p ≥ 9924) ∨ (after = true ∧ w = 1 ∧ p ≥ 16789)) then A else B := by
    unfold Cal.delay Cal.off
    rw [hw, ← hA, ← hB]
    have e0 : (w + 0) % 7 = w := by omega
    by_cases a : p ≥ 19440
    · simp only [if_pos a, if_pos (Or.inl a : p ≥ 19440 ∨ _)]
    · by_cases b : lp = false ∧ w = 2 ∧ p ≥ 9924
      · simp only [if_neg a, if_pos b, if_pos (Or.inr (Or.inl b) : p ≥ 19440 ∨ _)]
      · by_cases c : after = true ∧ w = 1 ∧ p ≥ 16789
        · simp only [if_neg a, if_neg b, if_pos c, if_pos (Or.inr (Or.inr c) : p ≥ 19440 ∨ _)]
        · simp only [if_neg a, if_neg b, if_neg c, e0]
          rw [if_neg (show ¬ (p ≥ 19440 ∨ (lp = false ∧ w = 2 ∧ p ≥ 9924) ∨ (after = true ∧ w = 1 ∧ p ≥ 16789)) from fun h => h.elim a fun h => h.elim b c)]
  rw [hfin, hw, ht, hone]
  simp only [hJ0]
  by_cases a : p ≥ 19440
  · simp [a]
  · cases lp <;> by_cases b : w = 2 <;> by_cases c : p ≥ 9924 <;> simp [a, b, c]
theorem rfirst_eq (k : Nat) (y : Int) (h0 : 0 ≤ y) (h1 : y ≤ 10001) : almanackerref05_First.f (k + 2) y = some (Cal.first y, 0) := by
  unfold almanackerref05_First.f
  obtain ⟨m0, m1⟩ := md_bd y h0 h1
  have e : wrap64 (y - 1) = y - 1 := by unfold wrap64; omega
  rw [rof_eq (k + 1) y h0 h1, Option.bind_some, if_pos rfl, is_eq y (by omega) (by omega), Option.bind_some, e, is_eq (y - 1) (by omega) (by omega), Option.bind_some, rdelay_eq k _ _ _ _ (by omega) (by omega), Option.bind_some]
  obtain ⟨d0, d1⟩ := delay_bd (Cal.md y) (Cal.mp y) (Cal.leap y) (Cal.leap (y - 1))
  simp only [Option.some.injEq, Prod.mk.injEq, and_true]
  unfold Cal.first wrap64
  omega
end Go.Proofs.YtflpddhoiafhcaaGreatDoor.Q
end

section
/- What the printed Lean functions of the reference answer for a year and for a date: the same plain mathematics. -/
namespace Go.Proofs.YtflpddhoiafhcaaGreatDoor.Q
open Go.RowKit Go.Proofs.YtflpddhoiafhcaaGreatDoor.H
theorem rlong_eq (k : Nat) (y : Int) (h0 : 1 ≤ y) (h1 : y ≤ 9999) : almanackerref07_Long.f (k + 2) y = some (Cal.first (y + 1) - Cal.first y, 0) := by
  obtain ⟨a0, a1⟩ := first_bd y (by omega) (by omega)
  obtain ⟨b0, b1⟩ := first_bd (y + 1) (by omega) (by omega)
  have e : wrap64 (y + 1) = y + 1 := by unfold wrap64; omega
  unfold almanackerref07_Long.f almanackerref07_Right.f
  rw [if_pos (by omega), decide_eq_true (by omega), Option.bind_some, if_pos rfl, rfirst_eq k y (by omega) (by omega), Option.bind_some, e, rfirst_eq k (y + 1) (by omega) (by omega), Option.bind_some]
  simp only [Option.some.injEq, Prod.mk.injEq, and_true]
  unfold wrap64
  omega
theorem rlong_out (k : Nat) (y : Int) (h : y < 1 ∨ y > 9999) : almanackerref07_Long.f k y = some (0, 2) := by
  unfold almanackerref07_Long.f almanackerref07_Right.f
  by_cases h0 : y < 1
  · rw [if_neg (by omega), Option.bind_some, if_neg (by decide)]
  · rw [if_pos (by omega), decide_eq_false (by omega), Option.bind_some, if_neg (by decide)]
theorem rkev_eq (k : Nat) (y b kd : Int) (l : Bool) (h0 : 1 ≤ y) (h1 : y ≤ 9999) (ht : (b, kd, l) ∈ Cal.tyList) (hb : Cal.first y % 7 = b) (hl : Cal.first (y + 1) - Cal.first y = 353 + kd + (if l = true then 30 else 0)) (hlp : Cal.leap y = l) :
    almanackerref07_Of.f (k + 2) y = some (b, kd, l, 0) := by
  obtain ⟨a0, a1⟩ := first_bd y (by omega) (by omega)
  obtain ⟨k0, k1, _, _⟩ := kev_bd ht
  unfold almanackerref07_Of.f
  rw [rlong_eq k y h0 h1, Option.bind_some, if_pos rfl, rfirst_eq k y (by omega) (by omega), Option.bind_some, rweek_eq _ (by omega) (by omega), Option.bind_some, is_eq y (by omega) (by omega), Option.bind_some, hb, hlp, hl]
  cases l
  · rw [if_neg (by decide)]
    simp only [Option.some.injEq, Prod.mk.injEq, and_true, true_and]
    unfold wrap64; simp; omega
  · rw [if_pos rfl]
    simp only [Option.some.injEq, Prod.mk.injEq, and_true, true_and]
    unfold wrap64; simp; omega
theorem rkev_out (k : Nat) (y : Int) (h : y < 1 ∨ y > 9999) : almanackerref07_Of.f k y = some (0, 0, false, 2) := by
  unfold almanackerref07_Of.f
  rw [rlong_out k y h]
  rfl
end Go.Proofs.YtflpddhoiafhcaaGreatDoor.Q
end

section
/- Is there such a date? The package and the reference say the same. -/
namespace Go.Proofs.YtflpddhoiafhcaaGreatDoor.Q
open Go.RowKit Go.Proofs.YtflpddhoiafhcaaGreatDoor.H Go.Proofs.YtflpddhoiafhcaaGreatDoorW.PrintWords
theorem days_ok : ∀ t ∈ Cal.tyList, ∀ m ∈ List.range 13, almanackerref08_Days.f 60 t.1 t.2.1 t.2.2 ((m : Int) + 1) = some (Cal.mdays t.1 t.2.1 t.2.2 ((m : Int) + 1)) := by decide +kernel
theorem mdays_le : ∀ t ∈ Cal.tyList, ∀ m ∈ List.range 13, Cal.mdays t.1 t.2.1 t.2.2 ((m : Int) + 1) ≤ 30 := by decide +kernel
theorem place_bd (lp : Bool) (n : Int) (l : Bool) (m : Int) (ok : Bool) (h : code_Place.f 2 lp n l = some (m, ok)) : ok = true → 1 ≤ m ∧ m ≤ 13 := by
  intro hok
  subst hok
  unfold code_Place.f at h
  rw [code_Right_ok, Option.bind_some] at h
  unfold Cal.codeOk at h
  by_cases hr : n > 0 ∧ n ≤ 12
  · have e : wrap64 (n + 1) = n + 1 := by unfold wrap64; omega
    cases l <;> cases lp <;> simp only [code_Place.j0, e] at h
    all_goals
      repeat' (first | (split at h) )
      all_goals first
        | (cases h; done)
        | (have h' := Option.some.inj h; simp only [Prod.mk.injEq] at h'; have := h'.1; omega)
        | (simp at h; done)
        | (simp at h; omega)
  · have hz : (decide (n > 0) && decide (n ≤ 12)) = false := by
      simp only [Bool.and_eq_false_iff, decide_eq_false_iff_not]
      rcases Int.lt_or_le n 1 with h | h
      · exact .inl (by omega)
      · exact .inr (by omega)
    rw [hz] at h
    simp [code_Place.j0] at h
theorem check_both (y n : Int) (l : Bool) (d : Int) : ∃ e, heb_Check.f 30 y n l d = some e ∧ Ev (fun K => almanackerref10_Check.f K y n l d) e ∧ (e = 0 → 1 ≤ y ∧ y ≤ 9999 ∧ 1 ≤ d ∧ d ≤ 30) := by
  by_cases hy : 1 ≤ y ∧ y ≤ 9999
  · obtain ⟨b, kd, lp, Y⟩ := Yr.all y hy.1 hy.2
    have hk := kev_eq 27 y b kd lp Y.h0 Y.h1 Y.ht Y.hb Y.hl Y.hlp
    obtain ⟨⟨m, ok⟩, hp, hq⟩ := place_same lp n l
    have hp30 := Ev.up (code_Place.mono lp n l) hp 30 (by omega)
    have hbd := place_bd lp n l m ok hp
    have hqe : Ev (fun K => almanackerref09_Place.f K lp n l) (m, ok) := Ev.of (almanackerref09_Place.mono lp n l) hq
    have hke : Ev (fun K => almanackerref07_Of.f K y) (b, kd, lp, 0) := ⟨2, fun K hK => by
      obtain ⟨k, rfl⟩ := Nat.le.dest hK
      rw [Nat.add_comm]
      exact rkev_eq k y b kd lp Y.h0 Y.h1 Y.ht Y.hb Y.hl Y.hlp⟩
    cases ok with
    | false =>
      refine ⟨3, ?_, ?_, fun h => by cases h⟩
      · unfold heb_Check.f heb_look.f heb_find.f
        rw [hk, Option.bind_some, if_pos rfl]
        dsimp only
        rw [hp30, Option.bind_some, if_neg (by simp), Option.bind_some, if_neg (by decide), Option.bind_some]
      · unfold almanackerref10_Check.f
        refine Ev.bind (x := (0, 3)) ?_ (Ev.from 0 (fun K _ => if_neg (by decide)) Ev.const)
        unfold almanackerref10_Last.f
        exact Ev.bind hke (Ev.from 0 (fun K _ => if_pos rfl) (Ev.bind hqe (Ev.from 0 (fun K _ => if_neg (by simp)) Ev.const)))
    | true =>
      obtain ⟨m0, m1⟩ := hbd rfl
      have hD := days_ok _ Y.ht (m - 1).toNat (List.mem_range.2 (by omega))
      have hM := mdays_le _ Y.ht (m - 1).toNat (List.mem_range.2 (by omega))
      have em : (((m - 1).toNat : Nat) : Int) + 1 = m := by omega
      rw [em] at hD hM
      simp only at hD hM
      have hDe : Ev (fun K => almanackerref08_Days.f K b kd lp m) (Cal.mdays b kd lp m) := Ev.of (almanackerref08_Days.mono b kd lp m) hD
      have hf : heb_find.f 30 y n l = some (b, kd, lp, m, 0) := by
        unfold heb_find.f
        rw [hk, Option.bind_some, if_pos rfl]
        dsimp only
        rw [hp30, Option.bind_some, if_pos rfl]
      have hLe : Ev (fun K => almanackerref10_Last.f K y n l) (Cal.mdays b kd lp m, 0) := by
        unfold almanackerref10_Last.f
        exact Ev.bind hke (Ev.from 0 (fun K _ => if_pos rfl) (Ev.bind hqe (Ev.from 0 (fun K _ => if_pos rfl) (Ev.bind hDe Ev.const))))
      unfold heb_Check.f heb_look.f
      rw [hf, Option.bind_some, if_pos rfl]
      dsimp only
      by_cases d0 : d < 1
      · refine ⟨4, by rw [if_pos d0, Option.bind_some], ?_, fun h => by cases h⟩
        unfold almanackerref10_Check.f
        exact Ev.bind hLe (Ev.from 0 (fun K _ => if_pos rfl) (Ev.from 0 (fun K _ => if_pos d0) Ev.const))
      · rw [if_neg d0, month_Days.f, if_pos (by omega), Option.bind_some]
        generalize Cal.mdays b kd lp m = D at *
        by_cases d1 : d > D
        · refine ⟨4, by rw [if_pos d1, Option.bind_some], ?_, fun h => by cases h⟩
          unfold almanackerref10_Check.f
          exact Ev.bind hLe (Ev.from 0 (fun K _ => if_pos rfl) (Ev.from 0 (fun K _ => if_neg d0) (Ev.from 0 (fun K _ => if_pos d1) Ev.const)))
        · refine ⟨0, by rw [if_neg d1, Option.bind_some], ?_, fun _ => ⟨hy.1, hy.2, by omega, by omega⟩⟩
          unfold almanackerref10_Check.f
          exact Ev.bind hLe (Ev.from 0 (fun K _ => if_pos rfl) (Ev.from 0 (fun K _ => if_neg d0) (Ev.from 0 (fun K _ => if_neg d1) Ev.const)))
  · refine ⟨2, ?_, ?_, fun h => by cases h⟩
    · unfold heb_Check.f heb_look.f heb_find.f
      rw [kev_out 29 y (by omega), Option.bind_some, if_neg (by decide), Option.bind_some, if_neg (by decide), Option.bind_some]
    · unfold almanackerref10_Check.f
      refine Ev.bind (x := (0, 2)) ?_ (Ev.from 0 (fun K _ => if_neg (by decide)) Ev.const)
      unfold almanackerref10_Last.f
      have hko : Ev (fun K => almanackerref07_Of.f K y) (0, 0, false, 2) := ⟨0, fun K _ => rkev_out K y (by omega)⟩
      exact Ev.bind hko (Ev.from 0 (fun K _ => if_neg (by decide)) Ev.const)
end Go.Proofs.YtflpddhoiafhcaaGreatDoor.Q
end

section
/- What the printed Lean function of 'almanackerlaw14.NameBack' answers: true, at every date and text. -/
namespace Go.Proofs.YtflpddhoiafhcaaGreatDoor.Q
open Go Go.RowKit Go.Proofs.YtflpddhoiafhcaaGreatDoor.H Go.Proofs.YtflpddhoiafhcaaGreatDoorW.PrintWords Go.WideShapes Go.ChangeShapes
/-- A date's words. -/
def words (m : ByteArray) (d y : Int) : List UInt8 := Lib.itoa d ++ 32 :: (m.data.toList ++ 32 :: Lib.itoa y)
theorem text_words (m : ByteArray) (d y : Int) : name_Print.text m d y = words m d y := by
  unfold name_Print.text words Lib.join
  simp [List.intercalate, List.intersperse]
theorem bytes_back (s : ByteArray) : (⟨s.data.toList.toArray⟩ : ByteArray) = s := by cases s; simp
/-- A date that is: its month has a name. -/
theorem check_month {y n : Int} {l : Bool} {d : Int} (h : heb_Check.f 30 y n l d = some 0) : 1 ≤ y ∧ y ≤ 9999 ∧ validC (Cal.leap y) n l = true ∧ name_Month.f y n l = some (nameOf (Cal.leap y) n l, 0) := by
  rcases month_cases y n l with hc | ⟨e, he, hm⟩
  · exact hc
  · exfalso
    unfold name_Month.f heb_Last.f at hm
    unfold heb_Check.f heb_look.f at h
    cases hf : heb_find.f 30 y n l with
    | none => rw [hf] at h; cases h
    | some x =>
      rw [hf] at h hm
      rw [Option.bind_some] at h hm
      by_cases hx : x.2.2.2.2 = 0
      · rw [if_pos hx] at hm
        cases hD : month_Days.f x.1 x.2.1 x.2.2.1 x.2.2.2.1 with
        | none => rw [hD] at hm; cases hm
        | some D =>
          rw [hD, Option.bind_some, Option.bind_some, if_pos rfl] at hm
          split at hm
          · have := Option.some.inj hm
            exact he (by rw [Prod.mk.injEq] at this; exact this.2.symm)
          · split at hm
            · cases hl : name_leap.f y with
              | none => rw [hl] at hm; cases hm
              | some b =>
                rw [hl, Option.bind_some] at hm
                split at hm <;> (have := Option.some.inj hm; exact he (by rw [Prod.mk.injEq] at this; exact this.2.symm))
            · split at hm
              · have := Option.some.inj hm
                exact he (by rw [Prod.mk.injEq] at this; exact this.2.symm)
              · cases hm
      · rw [if_neg hx, Option.bind_some] at h
        exact hx (Option.some.inj h)
theorem name_len (lp : Bool) (n : Int) (l : Bool) (h : validC lp n l = true) : (nameOf lp n l).size ≤ 10 := by
  have key : ∀ lp ∈ [true, false], ∀ p ∈ codes24, validC lp p.1 p.2 = true → (nameOf lp p.1 p.2).size ≤ 10 := by decide +kernel
  exact key lp (by cases lp <;> simp) (n, l) (codes_mem h) h
theorem leap_name (y : Int) (h0 : 1 ≤ y) (h1 : y ≤ 9999) : name_leap.f y = some (Cal.leap y) := by
  unfold name_leap.f
  rw [(leap_eq y (by omega) (by omega)).2 (by omega), Option.bind_some]
  cases Cal.leap y <;> rfl
/-- What is printed. -/
theorem print_ok {y n : Int} {l : Bool} {d : Int} (h : heb_Check.f 30 y n l d = some 0) (d0 : 1 ≤ d) (d1 : d ≤ 30) : name_Print.f y n l d = some (⟨(words (nameOf (Cal.leap y) n l) d y).toArray⟩, 0) := by
  obtain ⟨y0, y1, hv, hm⟩ := check_month h
  have hn := name_len _ _ _ hv
  obtain ⟨_, a1, _, _⟩ := num_facts y y0 y1
  obtain ⟨_, b1, _, _⟩ := num_facts d d0 (by omega)
  unfold name_Print.f
  rw [h, Option.bind_some, if_pos rfl, hm, Option.bind_some]
  dsimp only
  rw [text_words, if_pos]
  refine ⟨?_, by omega, by omega, by omega, by omega⟩
  have hs : (nameOf (Cal.leap y) n l).data.toList.length = (nameOf (Cal.leap y) n l).size := Array.length_toList
  unfold words
  simp only [List.length_append, List.length_cons]
  omega
theorem print_no {y n : Int} {l : Bool} {d e : Int} (h : heb_Check.f 30 y n l d = some e) (he : e ≠ 0) : name_Print.f y n l d = some (⟨#[]⟩, e) := by
  unfold name_Print.f
  rw [h, Option.bind_some, if_neg he]
/-- The codes that the names lead to. -/
theorem code_back : ∀ lp ∈ [true, false], ∀ p ∈ codes24, validC lp p.1 p.2 = true → codeIn (codesTo 12) (nameOf lp p.1 p.2) = (p.1, p.2, true) ∧ (nameOf lp p.1 p.2 = Cal.adar2 → lp = true) := by decide +kernel
/-- What is read of a date's words. -/
theorem read_back {y n : Int} {l : Bool} {d : Int} (h : heb_Check.f 30 y n l d = some 0) (d0 : 1 ≤ d) (d1 : d ≤ 30) : name_Read.f ⟨(words (nameOf (Cal.leap y) n l) d y).toArray⟩ = some (y, n, l, d, 0) := by
  obtain ⟨y0, y1, hv, hm⟩ := check_month h
  have hn := name_len _ _ _ hv
  obtain ⟨a0, a1, _, a3⟩ := num_facts y y0 y1
  obtain ⟨b0, b1, b2, b3⟩ := num_facts d d0 (by omega)
  obtain ⟨c0, c1⟩ := code_back (Cal.leap y) (by cases Cal.leap y <;> simp) (n, l) (codes_mem hv) hv
  dsimp only at c0 c1
  have hs : (nameOf (Cal.leap y) n l).data.toList.length = (nameOf (Cal.leap y) n l).size := Array.length_toList
  have hl := leap_name y y0 y1
  have hbb := bytes_back (nameOf (Cal.leap y) n l)
  generalize nameOf (Cal.leap y) n l = m at *
  have hcut : Lib.cut (⟨(words m d y).toArray⟩ : ByteArray).data.toList [32] = (Lib.itoa d, m.data.toList ++ 32 :: Lib.itoa y, true) := Bytes.cut_at _ _ b3
  have hlast := Bytes.last_at m.data.toList (Lib.itoa y) a3
  unfold name_Read.f
  rw [hcut]
  dsimp only
  rw [hlast]
  unfold name_Read.at
  rw [if_pos (by
    rw [Bytes.size_of, Bytes.size_of, Bytes.size_of]
    unfold words
    simp only [List.length_append, List.length_cons]
    omega), if_pos ⟨rfl, by omega⟩]
  have e1 : (⟨(m.data.toList ++ 32 :: Lib.itoa y).toArray⟩ : ByteArray).extract 0 ((m.data.toList.length : Int)).toNat = m := by
    rw [Bytes.extract_of, Int.toNat_natCast]
    simp [hbb]
  have e2 : (⟨(m.data.toList ++ 32 :: Lib.itoa y).toArray⟩ : ByteArray).extract ((m.data.toList.length : Int) + 1).toNat (⟨(m.data.toList ++ 32 :: Lib.itoa y).toArray⟩ : ByteArray).size = ⟨(Lib.itoa y).toArray⟩ := by
    rw [Bytes.extract_of, Bytes.size_of, show ((m.data.toList.length : Int) + 1).toNat = m.data.toList.length + 1 by omega]
    have e3 : (m.data.toList ++ 32 :: Lib.itoa y).drop (m.data.toList.length + 1) = Lib.itoa y := by
      rw [show m.data.toList ++ 32 :: Lib.itoa y = (m.data.toList ++ [32]) ++ Lib.itoa y by simp]
      exact List.drop_left' (by simp)
    rw [e3, List.take_of_length_le (by simp only [List.length_append, List.length_cons]; omega)]
  rw [e1, e2, c0, numOf_itoa y 4 y0 y1 (by omega), numOf_itoa d 2 d0 (by omega) (by have := b2 (by omega); omega)]
  unfold name_Read.go
  dsimp only
  rw [if_pos rfl, h, Option.bind_some, if_pos rfl]
  by_cases hA : m = Cal.adar2
  · rw [if_pos hA, hl, Option.bind_some, c1 hA]; rfl
  · rw [if_neg hA]
theorem codeIn_mem (m : List (ByteArray × Int × Bool)) (s : ByteArray) (c : Int) (l : Bool) (h : codeIn m s = (c, l, true)) : (s, c, l) ∈ m := by
  unfold codeIn at h
  cases hf : m.find? fun x => x.1 = s with
  | none => rw [hf] at h; simp at h
  | some x =>
    rw [hf] at h
    simp only [Prod.mk.injEq, and_true] at h
    have hx : x.1 = s := by simpa using List.find?_some hf
    have hm := List.mem_of_find?_eq_some hf
    obtain ⟨x1, x2, x3⟩ := x
    simp only at hx h
    rw [← hx, ← h.1, ← h.2]
    exact hm
theorem names_14 : ∀ lp ∈ [true, false], ∀ x ∈ codesTo 12, x.1 = nameOf lp x.2.1 x.2.2 ∨ (x.2.1 = 6 ∧ lp = true ∧ x.1 ≠ Cal.adar2 ∧ (nameOf lp x.2.1 x.2.2).size = x.1.size + 3) ∨ (x.1 = Cal.adar2 ∧ lp = false) := by decide +kernel
/-- What holds of what is read of a text. -/
def ReadOk (s : ByteArray) (y c : Int) (l : Bool) (n e : Int) : Prop :=
  e = 5 ∨ e = 2 ∨ (e = 0 ∧ heb_Check.f 30 y c l n = some 0 ∧ 1 ≤ y ∧ y ≤ 9999 ∧ 1 ≤ n ∧ n ≤ 30 ∧ (words (nameOf (Cal.leap y) c l) n y = s.data.toList ∨ (c = 6 ∧ Cal.leap y = true ∧ (words (nameOf (Cal.leap y) c l) n y).length = s.size + 3)))
theorem read_any (s : ByteArray) (hs : s.size ≤ 100) : ∃ y c l n e, name_Read.f s = some (y, c, l, n, e) ∧ ReadOk s y c l n e := by
  have hsl : s.data.toList.length = s.size := Array.length_toList
  unfold name_Read.f
  rcases Bytes.cut_space s.data.toList with ⟨h1, _⟩ | ⟨a, r, h1, h2, h3⟩
  · rw [h1]
    dsimp only
    have hl : Lib.lastIndexByte ⟨([] : List UInt8).toArray⟩ 32 = -1 := rfl
    rw [hl]
    refine ⟨0, 0, false, 0, 5, ?_, .inl rfl⟩
    unfold name_Read.at
    rw [if_pos ⟨by omega, by rw [Bytes.size_of]; omega, by rw [Bytes.size_of]; simp, by rw [Bytes.size_of]; simp⟩, if_neg (by simp)]
  · rw [h2]
    dsimp only
    have hlen : a.length + 1 + r.length = s.size := by rw [← hsl, h1]; simp; omega
    rcases Bytes.last_space r with ⟨hl, _⟩ | ⟨m, z, hr, hl, _⟩
    · rw [hl]
      refine ⟨0, 0, false, 0, 5, ?_, .inl rfl⟩
      unfold name_Read.at
      rw [if_pos ⟨by omega, by rw [Bytes.size_of]; omega, by rw [Bytes.size_of]; omega, by rw [Bytes.size_of]; omega⟩, if_neg (by omega)]
    · rw [hl]
      have hrl : r.length = m.length + 1 + z.length := by rw [hr]; simp; omega
      unfold name_Read.at
      rw [if_pos ⟨by omega, by rw [Bytes.size_of]; omega, by rw [Bytes.size_of]; omega, by rw [Bytes.size_of]; omega⟩, if_pos ⟨rfl, by omega⟩]
      have e1 : (⟨r.toArray⟩ : ByteArray).extract 0 ((m.length : Int)).toNat = ⟨m.toArray⟩ := by
        rw [Bytes.extract_of, Int.toNat_natCast, hr]
        simp
      have e2 : (⟨r.toArray⟩ : ByteArray).extract ((m.length : Int) + 1).toNat (⟨r.toArray⟩ : ByteArray).size = ⟨z.toArray⟩ := by
        rw [Bytes.extract_of, Bytes.size_of, show ((m.length : Int) + 1).toNat = m.length + 1 by omega]
        have e3 : r.drop (m.length + 1) = z := by
          rw [hr, show m ++ 32 :: z = (m ++ [32]) ++ z by simp]
          exact List.drop_left' (by simp)
        rw [e3, List.take_of_length_le (by omega)]
      rw [e1, e2]
      obtain ⟨⟨c, l, ok⟩, hc⟩ : ∃ x, codeIn (codesTo 12) ⟨m.toArray⟩ = x := ⟨_, rfl⟩
      rw [hc]
      unfold name_Read.go
      dsimp only
      cases hn : numOf ⟨a.toArray⟩ 2 with
      | none => exact ⟨0, 0, false, 0, 5, rfl, .inl rfl⟩
      | some n =>
        cases hz : numOf ⟨z.toArray⟩ 4 with
        | none => exact ⟨0, 0, false, 0, 5, rfl, .inl rfl⟩
        | some y =>
          dsimp only
          cases ok with
          | false => exact ⟨0, 0, false, 0, 5, rfl, .inl rfl⟩
          | true =>
            rw [if_pos rfl]
            obtain ⟨n0, na, _⟩ := numOf_some hn
            obtain ⟨y0, yz, _⟩ := numOf_some hz
            obtain ⟨ec, hec, _, hok⟩ := check_both y c l n
            rw [hec, Option.bind_some]
            by_cases he : ec = 0
            · subst he
              obtain ⟨b0, b1, b2, b3⟩ := hok rfl
              rw [if_pos rfl]
              have hw : ∀ q : ByteArray, words q n y = a ++ 32 :: (q.data.toList ++ 32 :: z) := fun q => by
                unfold words
                rw [← na, ← yz]
              have hmem := codeIn_mem _ _ _ _ hc
              have h14 := names_14 (Cal.leap y) (by cases Cal.leap y <;> simp) _ hmem
              dsimp only at h14
              have same : (⟨m.toArray⟩ : ByteArray) = nameOf (Cal.leap y) c l → words (nameOf (Cal.leap y) c l) n y = s.data.toList := fun hq => by
                rw [hw, ← hq, h1, hr]
              by_cases hA : (⟨m.toArray⟩ : ByteArray) = Cal.adar2
              · rw [if_pos hA, leap_name y b0 b1, Option.bind_some]
                by_cases hl2 : Cal.leap y = true
                · rw [if_pos hl2]
                  refine ⟨y, c, l, n, 0, rfl, .inr (.inr ⟨rfl, hec, b0, b1, b2, b3, ?_⟩)⟩
                  rcases h14 with h | ⟨_, _, h, _⟩ | ⟨_, h⟩
                  · exact .inl (same h)
                  · exact absurd hA h
                  · rw [hl2] at h; cases h
                · rw [if_neg hl2]
                  exact ⟨0, 0, false, 0, 2, rfl, .inr (.inl rfl)⟩
              · rw [if_neg hA]
                refine ⟨y, c, l, n, 0, rfl, .inr (.inr ⟨rfl, hec, b0, b1, b2, b3, ?_⟩)⟩
                rcases h14 with h | ⟨h6, hl2, _, h⟩ | ⟨h, _⟩
                · exact .inl (same h)
                · refine .inr ⟨h6, hl2, ?_⟩
                  rw [hw]
                  have hq : (nameOf (Cal.leap y) c l).data.toList.length = (nameOf (Cal.leap y) c l).size := Array.length_toList
                  have hq2 : (⟨m.toArray⟩ : ByteArray).size = m.length := Bytes.size_of m
                  have hgoal : (a ++ 32 :: ((nameOf (Cal.leap y) c l).data.toList ++ 32 :: z)).length = a.length + 1 + ((nameOf (Cal.leap y) c l).data.toList.length + 1 + z.length) := by simp only [List.length_append, List.length_cons]; omega
                  rw [hgoal, hq, h, hq2]
                  omega
                · exact absurd h hA
            · rw [if_neg he]
              exact ⟨0, 0, false, 0, 2, rfl, .inr (.inl rfl)⟩
theorem print_any (y n : Int) (l : Bool) (d : Int) : ∃ a e, name_Print.f y n l d = some (a, e) := by
  obtain ⟨e, he, _, hok⟩ := check_both y n l d
  by_cases h : e = 0
  · subst h
    obtain ⟨_, _, d0, d1⟩ := hok rfl
    exact ⟨_, _, print_ok he d0 d1⟩
  · exact ⟨_, _, print_no he h⟩
theorem back_j0 (s : ByteArray) (hs : s.size ≤ 100) (K : Nat) : almanackerlaw14_NameBack.j0 (K + 1) s false = some true := by
  obtain ⟨y, c, l, n, e, hr, ho⟩ := read_any s hs
  obtain ⟨a, ep, hp⟩ := print_any y c l n
  rw [almanackerlaw14_NameBack.j0, if_neg (by decide), hr, Option.bind_some]
  dsimp only
  rw [hp, Option.bind_some, awake_names, Option.bind_some, if_pos rfl]
  rcases ho with rfl | rfl | ⟨rfl, hc, y0, y1, n0, n1, hw⟩
  · rw [if_neg (by decide), if_pos rfl]
  · rw [if_neg (by decide), if_neg (by decide)]; rfl
  · rw [if_pos rfl]
    have hpo := print_ok hc n0 n1
    rw [hp] at hpo
    have hpe := Option.some.inj hpo
    simp only [Prod.mk.injEq] at hpe
    obtain ⟨rfl, _⟩ := hpe
    rcases hw with hw | ⟨h6, hl, hw⟩
    · rw [hw, bytes_back, if_pos rfl]
    · by_cases hq : (⟨(words (nameOf (Cal.leap y) c l) n y).toArray⟩ : ByteArray).toList = s.toList
      · rw [if_pos hq]
      · have hsz : ((⟨(words (nameOf (Cal.leap y) c l) n y).toArray⟩ : ByteArray).size : Int) = wrap64 ((s.size : Int) + 3) := by
          rw [Bytes.size_of, hw]
          unfold wrap64
          omega
        rw [if_neg hq, if_pos h6, is_eq y (by omega) (by omega), Option.bind_some, hl, if_pos rfl]
        rw [hl] at hsz
        rw [if_pos hsz]
theorem nameBack_f (y n : Int) (l : Bool) (d : Int) (s : ByteArray) : ∃ k, almanackerlaw14_NameBack.f k y n l d s = some true := by
  have hE : Ev (fun K => almanackerlaw14_NameBack.f K y n l d s) true := by
    unfold almanackerlaw14_NameBack.f
    by_cases hs : (s.size : Int) > 100
    · refine Ev.from 0 (f' := fun _ => some true) (fun K _ => ?_) Ev.const
      rw [if_pos hs, awake_names]; rfl
    · refine Ev.from 0 (fun K _ => if_neg hs) ?_
      have hj : Ev (fun K => almanackerlaw14_NameBack.j0 K s false) true := Ev.succ (f' := fun _ => some true) (fun K => back_j0 s (by omega) K) Ev.const
      obtain ⟨e, he, hr, hok⟩ := check_both y n l d
      by_cases h : e = 0
      · subst h
        obtain ⟨_, _, d0, d1⟩ := hok rfl
        have hp : Ev (fun _ : Nat => name_Print.f y n l d) (⟨(words (nameOf (Cal.leap y) n l) d y).toArray⟩, 0) := ⟨0, fun _ _ => print_ok he d0 d1⟩
        have hb : Ev (fun _ : Nat => name_Read.f ⟨(words (nameOf (Cal.leap y) n l) d y).toArray⟩) (y, n, l, d, 0) := ⟨0, fun _ _ => read_back he d0 d1⟩
        refine Ev.bind hp (Ev.bind hr (Ev.from 0 (fun K _ => if_neg (by simp)) (Ev.bind hb (Ev.from 0 (fun K _ => if_pos rfl) (Ev.from 0 (fun K _ => if_pos rfl) ?_)))))
        have hz : (!(y == y) || ((!(n == n) || (!(l == l))) || (!(d == d)))) = false := by cases l <;> simp
        rw [hz]
        exact hj
      · have hp : Ev (fun _ : Nat => name_Print.f y n l d) (⟨#[]⟩, e) := ⟨0, fun _ _ => print_no he h⟩
        obtain ⟨y2, c2, l2, n2, e2, hr2, _⟩ := read_any ⟨#[]⟩ (by decide)
        have hb : Ev (fun _ : Nat => name_Read.f ⟨#[]⟩) (y2, c2, l2, n2, e2) := ⟨0, fun _ _ => hr2⟩
        refine Ev.bind hp (Ev.bind hr (Ev.from 0 (fun K _ => if_neg (by simp)) (Ev.bind hb (Ev.from 0 (fun K _ => if_neg h) hj))))
  exact hE.get
end Go.Proofs.YtflpddhoiafhcaaGreatDoor.Q
end

section
-- Written by wip/hprint.py of this repo (holes typed by hand, all else by a program) over the seat YtflpddhoiafhcaaGreatDoor.
namespace Go.Proofs.YtflpddhoiafhcaaGreatDoor.Q
open Go.RowKit Go.Proofs.YtflpddhoiafhcaaGreatDoorW.PrintWords Go.Proofs.YtflpddhoiafhcaaGreatDoorW.PrintLast Go.Proofs.YtflpddhoiafhcaaGreatDoorW.PrintMore
attribute [local go_sem] max2_int min2_int max_two min_two max_three min_three max_four min_four   -- for this text's walks alone
set_option linter.unusedVariables false
set_option linter.unusedSimpArgs false

end Go.Proofs.YtflpddhoiafhcaaGreatDoor.Q
end
