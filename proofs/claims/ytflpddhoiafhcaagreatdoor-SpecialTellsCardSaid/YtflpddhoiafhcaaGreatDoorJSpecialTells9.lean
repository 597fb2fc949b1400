/- Texts of the proof of 'SpecialTells', joined by a program (part 9): contracts of functions, plain laws. -/
import Derived.Test.YtflpddhoiafhcaaGreatDoorJSpecialTells0
import Derived.Test.YtflpddhoiafhcaaGreatDoorJSpecialTells2
import Derived.Test.YtflpddhoiafhcaaGreatDoorJSpecialTells6
import Derived.Test.YtflpddhoiafhcaaGreatDoorJSpecialTells7
import Derived.Test.YtflpddhoiafhcaaGreatDoorJSpecialTells4
import Derived.Test.YtflpddhoiafhcaaGreatDoorJSpecialTells5
import Derived.Test.YtflpddhoiafhcaaGreatDoorJSpecialTells8
import Derived.OpenShut
set_option linter.unusedVariables false
set_option linter.unusedSimpArgs false
set_option linter.unusedSectionVars false
section
/- The reference's sort puts any events in the one order. -/
namespace Go.Proofs.YtflpddhoiafhcaaGreatDoor.S
open Go.RowKit Go.Proofs.YtflpddhoiafhcaaGreatDoor.H
def insAt (x : S57) (l : List S57) (p : Nat) : List S57 := l.take p ++ [x] ++ l.drop p
def ltS (x y : S57) : Bool := Cal.ltE (toP x) (toP y)
theorem before_ltS (x y : S57) : almanackerref19_before.f x.f0 x.f1 y.f0 y.f1 = some (ltS x y) := by
  unfold almanackerref19_before.f ltS Cal.ltE toP
  by_cases h1 : x.f1 < y.f1
  · rw [if_pos h1]; simp [h1]
  · rw [if_neg h1]
    by_cases h2 : x.f1 = y.f1
    · rw [if_pos h2]; simp [h2]
    · rw [if_neg h2]; simp [h1, h2]
theorem rd_some (l : List S57) (i : Nat) (h : i < l.length) : rd_T57 l (i : Int) = l[i] := by
  simp [rd_T57, List.getD_eq_getElem?_getD, h]
theorem wrap_nat (i : Nat) (h : i < 1000000) : wrap64 ((i : Int) + 1) = ((i + 1 : Nat) : Int) := by unfold wrap64; omega
theorem wrap_pred (i : Nat) (h0 : 0 < i) (h : i < 1000000) : wrap64 ((i : Int) - 1) = ((i - 1 : Nat) : Int) := by unfold wrap64; omega
/-- One element is put in: behind the last that it isn't ahead of. -/
theorem sort_l1 (x0 x3 : List S57) (i : Nat) (hi : i < x0.length) (hl : x3.length < 100000) (hl0 : x0.length < 100000) :
    ∀ (at_ : Nat), at_ ≤ x3.length → (∀ j (hj : j < x3.length), at_ ≤ j → ltS x0[i] x3[j] = true) →
      ∃ p, p ≤ at_ ∧ (∀ j (hj : j < x3.length), p ≤ j → ltS x0[i] x3[j] = true) ∧ (∀ hp : 0 < p, ∀ hlt : p - 1 < x3.length, ltS x0[i] x3[p - 1] = false) ∧
        ∀ k r, almanackerref19_Sort.l0 k x0 (insAt x0[i] x3 p) ((i + 1 : Nat) : Int) = some r → almanackerref19_Sort.l1 (k + at_ + 1) x0 x3 i at_ = some r
  | 0, hat, hall => by
    refine ⟨0, Nat.le_refl _, hall, fun h => absurd h (by decide), fun k r hr => ?_⟩
    rw [almanackerref19_Sort.l1, if_neg (by omega)]
    simp only [Option.bind_some]
    rw [if_pos (by omega), if_pos (by omega), if_pos (by simp; omega), if_pos (by omega), if_pos (by omega), if_pos (by simp), if_pos (by simp; omega), wrap_nat i (by omega), rd_some x0 i hi]
    simpa [insAt] using hr
  | a + 1, hat, hall => by
    have hlt : a < x3.length := by omega
    have hstep : ∀ K, almanackerref19_Sort.l1 (K + 1) x0 x3 i ((a + 1 : Nat) : Int) = if ltS x0[i] x3[a] = true then almanackerref19_Sort.l1 K x0 x3 i ((a : Nat) : Int) else almanackerref19_Sort.l0 K x0 (insAt x0[i] x3 (a + 1)) ((i + 1 : Nat) : Int) := by
      intro K
      rw [almanackerref19_Sort.l1, wrap_pred (a + 1) (by omega) (by omega), show a + 1 - 1 = a from rfl, if_pos (by omega), if_pos (by omega), if_pos (by omega), if_pos (by omega), if_pos (by omega), rd_some x0 i hi, rd_some x3 a hlt, before_ltS, Option.bind_some]
      by_cases hb : ltS x0[i] x3[a] = true
      · rw [if_pos hb, if_pos hb]
      · rw [if_neg hb, if_neg hb]
        simp only [Option.bind_some]
        rw [if_pos (by omega), if_pos (by omega), if_pos (by simp; omega), if_pos (by simp; omega), if_pos (by simp; omega), wrap_nat i (by omega)]
        simp [insAt]
    by_cases hb : ltS x0[i] x3[a] = true
    · obtain ⟨p, hp, h1, h2, h3⟩ := sort_l1 x0 x3 i hi hl hl0 a (by omega) (fun j hj haj => by
        by_cases e : j = a
        · subst e; exact hb
        · exact hall j hj (by omega))
      refine ⟨p, by omega, h1, h2, fun k r hr => ?_⟩
      rw [show k + (a + 1) + 1 = (k + a + 1) + 1 by omega, hstep, if_pos hb]
      exact h3 k r hr
    · refine ⟨a + 1, Nat.le_refl _, hall, fun _ _ => by simpa using hb, fun k r hr => ?_⟩
      rw [show k + (a + 1) + 1 = (k + a + 1) + 1 by omega, hstep, if_neg hb]
      have lift : ∀ m r, almanackerref19_Sort.l0 k x0 (insAt x0[i] x3 (a + 1)) ((i + 1 : Nat) : Int) = some r → almanackerref19_Sort.l0 (k + m) x0 (insAt x0[i] x3 (a + 1)) ((i + 1 : Nat) : Int) = some r := by
        intro m
        induction m with
        | zero => exact fun _ h => h
        | succ m ih => exact fun r h => (almanackerref19_Sort.mono_l (k + m)).1 _ _ _ r (ih r h)
      exact lift (a + 1) r hr
/-- Put in at a place that parts what it isn't ahead of from what it is: as 'insE' does. -/
theorem ins_at (x : Int × Int) : ∀ (l : List (Int × Int)) (p : Nat), p ≤ l.length → (∀ y ∈ l.drop p, Cal.ltE x y = true) → (∀ y ∈ l.take p, Cal.ltE x y = false) → l.take p ++ [x] ++ l.drop p = Cal.insE x l
  | [], p, h, _, _ => by
    obtain rfl : p = 0 := by simpa using h
    rfl
  | y :: r, 0, _, h1, _ => by
    have := h1 y (by simp)
    simp [Cal.insE, this]
  | y :: r, p + 1, h, h1, h2 => by
    have hy := h2 y (by simp)
    have ih := ins_at x r p (by simpa using h) (fun z hz => h1 z (by simpa using hz)) (fun z hz => h2 z (by simp [hz]))
    rw [Cal.insE, hy, if_neg (by decide), ← ih]
    simp
theorem insAt_eq (x : S57) (l : List S57) (p : Nat) (ho : Cal.InOrder (l.map toP)) (hp : p ≤ l.length) (h1 : ∀ j (hj : j < l.length), p ≤ j → ltS x l[j] = true) (h2 : ∀ hp : 0 < p, ∀ hlt : p - 1 < l.length, ltS x l[p - 1] = false) :
    (insAt x l p).map toP = Cal.insE (toP x) (l.map toP) := by
  rw [← ins_at (toP x) (l.map toP) p (by simpa using hp)]
  · simp [insAt, List.map_take, List.map_drop]
  · intro y hy
    rw [← List.map_drop] at hy
    obtain ⟨z, hz, rfl⟩ := List.mem_map.1 hy
    obtain ⟨i, hi, rfl⟩ := List.mem_iff_getElem.1 hz
    rw [List.getElem_drop]
    exact h1 _ _ (by omega)
  · intro y hy
    rw [← List.map_take] at hy
    obtain ⟨z, hz, rfl⟩ := List.mem_map.1 hy
    obtain ⟨i, hi, rfl⟩ := List.mem_iff_getElem.1 hz
    rw [List.length_take] at hi
    rw [List.getElem_take]
    have hlast := h2 (by omega) (by omega)
    by_cases e : i = p - 1
    · subst e; exact hlast
    · have hord := List.pairwise_iff_getElem.1 ho i (p - 1) (by simp; omega) (by simp; omega) (by omega)
      simp only [List.getElem_map] at hord
      exact Cal.ltE_trans' hord hlast
theorem insAt_length (x : S57) (l : List S57) (p : Nat) : (insAt x l p).length = l.length + 1 := by
  unfold insAt
  simp
  omega
theorem sort_up (x0 x3 : List S57) (i : Int) (r : List S57) (k m : Nat) (h : almanackerref19_Sort.l0 k x0 x3 i = some r) (hm : k ≤ m) : almanackerref19_Sort.l0 m x0 x3 i = some r := by
  obtain ⟨d, rfl⟩ := Nat.le.dest hm
  clear hm
  induction d with
  | zero => exact h
  | succ d ih => exact (almanackerref19_Sort.mono_l (k + d)).1 _ _ _ r ih
theorem sort_l0 (x0 : List S57) (hl0 : x0.length < 50000) : ∀ (n i : Nat) (x3 : List S57), i + n = x0.length → x3.length = i → Cal.InOrder (x3.map toP) → (x3.map toP).Perm ((x0.take i).map toP) →
    ∃ r : List S57, almanackerref19_Sort.l0 (n * (x0.length + 2) + 1) x0 x3 (i : Int) = some r ∧ r.map toP = Cal.sortE (x0.map toP)
  | 0, i, x3, hi, hx, ho, hp => by
    refine ⟨x3, ?_, ?_⟩
    · rw [Nat.zero_mul, almanackerref19_Sort.l0, if_neg (by omega)]
    · refine Cal.sortE_of ho ?_
      rw [List.take_of_length_le (by omega)] at hp
      exact hp
  | n + 1, i, x3, hi, hx, ho, hp => by
    have hi' : i < x0.length := by omega
    obtain ⟨p, hp1, hp2, hp3, hstep⟩ := sort_l1 x0 x3 i hi' (by omega) (by omega) x3.length (Nat.le_refl _) (fun j hj hh => absurd hj (by omega))
    have he := insAt_eq x0[i] x3 p ho hp1 hp2 hp3
    have ho2 : Cal.InOrder ((insAt x0[i] x3 p).map toP) := he ▸ Cal.insE_order _ _ ho
    have hperm : ((insAt x0[i] x3 p).map toP).Perm ((x0.take (i + 1)).map toP) := by
      rw [he, List.take_succ_eq_append_getElem hi', List.map_append]
      refine (Cal.insE_perm _ _).trans ?_
      refine (List.Perm.cons _ hp).trans ?_
      exact (List.perm_append_singleton _ _).symm
    obtain ⟨r, h1, h2⟩ := sort_l0 x0 hl0 n (i + 1) (insAt x0[i] x3 p) (by omega) (by rw [insAt_length]; omega) ho2 hperm
    refine ⟨r, ?_, h2⟩
    have h3 := hstep _ r h1
    refine sort_up _ _ _ _ (n * (x0.length + 2) + 1 + x3.length + 1 + 1) _ ?_ (by rw [Nat.succ_mul]; omega)
    rw [almanackerref19_Sort.l0, if_pos (by omega)]
    exact h3
theorem sort_eq (l : List S57) (k : Nat) (hl : l.length < 50000) (hk : l.length * (l.length + 2) + 1 ≤ k) : almanackerref19_Sort.f k l = some ((Cal.sortE (l.map toP)).map ofP) := by
  obtain ⟨r, h1, h2⟩ := sort_l0 l hl l.length 0 [] (by omega) rfl List.Pairwise.nil (List.Perm.refl _)
  have e : r = (Cal.sortE (l.map toP)).map ofP := by
    rw [← h2, List.map_map]
    have : (ofP ∘ toP) = id := rfl
    rw [this, List.map_id]
  unfold almanackerref19_Sort.f
  rw [← e]
  exact sort_up l [] 0 r _ k h1 hk
end Go.Proofs.YtflpddhoiafhcaaGreatDoor.S
end

section
/- What the printed Lean function of 'almanackerlaw22.SpecialTells' answers: true, at every year and day. -/
namespace Go.Proofs.YtflpddhoiafhcaaGreatDoor.S
open Go.RowKit Go.Proofs.YtflpddhoiafhcaaGreatDoor.H Go.Proofs.YtflpddhoiafhcaaGreatDoorW.PrintWords Go.WideShapes Go.ChangeShapes
theorem rupto_l0 : ∀ (t : Nat) (a : Int), (a - 6) % 7 = t → -10000000 ≤ a - t → a ≤ 9000000 → Ev (fun K => almanackerref12_Upto.l0 K a 6) (a - t)
  | 0, a, h, a0, a1 => by
    refine Ev.succ (f' := fun _ => some (a - (0 : Nat))) (fun K => ?_) Ev.const
    rw [almanackerref12_Upto.l0, rweek_eq _ (by omega) (by omega), Option.bind_some, if_pos (by omega)]
    simp
  | t + 1, a, h, a0, a1 => by
    have e : wrap64 (a - 1) = a - 1 := by unfold wrap64; omega
    have ih := rupto_l0 t (a - 1) (by omega) (by omega) (by omega)
    rw [show a - 1 - (t : Int) = a - ((t + 1 : Nat) : Int) by omega] at ih
    refine Ev.succ (fun K => ?_) ih
    rw [almanackerref12_Upto.l0, rweek_eq _ (by omega) (by omega), Option.bind_some, if_neg (by omega), e]
theorem rupto (a : Int) (a0 : -9000000 ≤ a) (a1 : a ≤ 9000000) : Ev (fun K => almanackerref12_Upto.f K a 6) (a - (a - 6) % 7) := by
  have h := rupto_l0 ((a - 6) % 7).toNat a (by omega) (by omega) (by omega)
  rw [show (((a - 6) % 7).toNat : Int) = (a - 6) % 7 by omega] at h
  refine Ev.from 0 (fun K _ => ?_) h
  unfold almanackerref12_Upto.f
  rfl
theorem rfrom_l0 : ∀ (t : Nat) (a : Int), (6 - a) % 7 = t → -9000000 ≤ a → a + t ≤ 10000000 → Ev (fun K => almanackerref12_From.l0 K a 6) (a + t)
  | 0, a, h, a0, a1 => by
    refine Ev.succ (f' := fun _ => some (a + (0 : Nat))) (fun K => ?_) Ev.const
    rw [almanackerref12_From.l0, rweek_eq _ (by omega) (by omega), Option.bind_some, if_pos (by omega)]
    simp
  | t + 1, a, h, a0, a1 => by
    have e : wrap64 (a + 1) = a + 1 := by unfold wrap64; omega
    have ih := rfrom_l0 t (a + 1) (by omega) (by omega) (by omega)
    rw [show a + 1 + (t : Int) = a + ((t + 1 : Nat) : Int) by omega] at ih
    refine Ev.succ (fun K => ?_) ih
    rw [almanackerref12_From.l0, rweek_eq _ (by omega) (by omega), Option.bind_some, if_neg (by omega), e]
theorem rfrom (a : Int) (a0 : -8000000 ≤ a) (a1 : a ≤ 8000000) : Ev (fun K => almanackerref12_From.f K a 6) (a + (6 - a) % 7) := by
  have h := rfrom_l0 ((6 - a) % 7).toNat a (by omega) (by omega) (by omega)
  rw [show (((6 - a) % 7).toNat : Int) = (6 - a) % 7 by omega] at h
  refine Ev.from 0 (fun K _ => ?_) h
  unfold almanackerref12_From.f
  rfl
def refDayOk (b kd : Int) (l : Bool) (n m d : Int) : Prop :=
  almanackerref09_Place.f 60 l n false = some (m, true) ∧ almanackerref08_Days.f 60 b kd l m = some (Cal.mdays b kd l m) ∧ almanackerref08_Ahead.f 60 b kd l m = some (Cal.mahead b kd l m) ∧ 1 ≤ d ∧ d ≤ Cal.mdays b kd l m ∧ d ≤ 100 ∧ 0 ≤ Cal.mahead b kd l m ∧ Cal.mahead b kd l m ≤ 1000
instance (b kd : Int) (l : Bool) (n m d : Int) : Decidable (refDayOk b kd l n m d) := by unfold refDayOk; infer_instance
theorem sp_ref_ok : ∀ t ∈ Cal.tyList, ∀ r ∈ spRows, refDayOk t.1 t.2.1 t.2.2 r.f1 (spPlace t.2.2 r.f1) r.f2 := by decide +kernel
theorem find_ok : ∀ t ∈ Cal.tyList, ∀ d ∈ List.range 386, ((almanackerref08_Find.f 90 t.1 t.2.1 t.2.2 ((d : Int) + 1)).bind fun r => almanackerref09_Of.f 90 t.2.2 r.1).isSome = true := by decide +kernel
section
variable {y b kd : Int} {l : Bool} (Y : Yr y b kd l)
include Y
theorem Yr.rday {n m d : Int} (h : refDayOk b kd l n m d) : ∀ K, 60 ≤ K → almanackerref19_Day.f K y n d = some (Cal.first y + Cal.mahead b kd l m + d - 1) := by
  unfold refDayOk at h
  obtain ⟨p1, p2, p3, d0, d1, d2, m0, m1⟩ := h
  intro K hK
  obtain ⟨k, rfl⟩ : ∃ k, K = k + 2 := ⟨K - 2, by omega⟩
  unfold almanackerref19_Day.f
  rw [rtoDay_eq k y b kd l n false d m _ _ Y.h0 Y.h1 Y.ht Y.hb Y.hl Y.hlp (Ev.up (almanackerref09_Place.mono l n false) p1 _ hK) (Ev.up (almanackerref08_Days.mono b kd l m) p2 _ hK) (Ev.up (almanackerref08_Ahead.mono b kd l m) p3 _ hK) d0 d1 d2 m0 m1]
  rfl
/-- A rule's Sabbath up to (from) its day, without what is further. -/
theorem rule_upto (r : S54) (hr : r ∈ spRows) (hc : r.f3 ≠ 77) (h4 : r.f4 = 0) : Ev (fun K => almanackerref22_upto.f K y r.f1 r.f2) (Cal.first y + (spEv b kd l r).2) := by
  have hR := sp_ref_ok _ Y.ht r hr
  have hO := sp_rows_ok _ Y.ht r hr
  simp only at hR hO
  have hday := Y.rday hR
  unfold spOk at hO
  obtain ⟨_, hm, he0, he1, _, _⟩ := hO
  unfold refDayOk at hR
  obtain ⟨_, _, _, d0, _, d2, q0, q1⟩ := hR
  obtain ⟨f0, f1⟩ := first_bd y (by have := Y.h0; omega) (by have := Y.h1; omega)
  have hb := Y.hb
  unfold spEv nearOff at he0 he1 ⊢
  simp only at he0 he1 ⊢
  rw [if_neg hc] at he0 he1 ⊢
  rw [h4] at he0 he1 ⊢
  clear Y
  generalize Cal.mahead b kd l (spPlace l r.f1) = M at *
  generalize Cal.first y = s at *
  generalize r.f2 = d at *
  generalize r.f1 = n at *
  have hU := rupto (s + M + d - 1) (by omega) (by omega)
  have e : s + M + d - 1 - (s + M + d - 1 - 6) % 7 = s + (M + d - 1 - (b + (M + d - 1) - 6) % 7 + 0) := by omega
  rw [e] at hU
  refine Ev.from 60 (f' := fun K => (almanackerref12_Upto.f K (s + M + d - 1) 6).bind fun t => some t) (fun K hK => ?_) (Ev.bind hU Ev.const)
  unfold almanackerref22_upto.f
  rw [hday K hK, Option.bind_some]
theorem rule_from (r : S54) (hr : r ∈ spRows) (hc : r.f3 = 77) (h4 : r.f4 = 0) : ∃ t, (∀ K, 60 ≤ K → almanackerref19_Day.f K y r.f1 r.f2 = some t) ∧ Ev (fun K => almanackerref12_From.f K t 6) (Cal.first y + (spEv b kd l r).2) := by
  have hR := sp_ref_ok _ Y.ht r hr
  have hO := sp_rows_ok _ Y.ht r hr
  simp only at hR hO
  have hday := Y.rday hR
  unfold spOk at hO
  obtain ⟨_, hm, he0, he1, _, _⟩ := hO
  unfold refDayOk at hR
  obtain ⟨_, _, _, d0, _, d2, q0, q1⟩ := hR
  obtain ⟨f0, f1⟩ := first_bd y (by have := Y.h0; omega) (by have := Y.h1; omega)
  have hb := Y.hb
  unfold spEv nearOff at he0 he1 ⊢
  simp only at he0 he1 ⊢
  rw [if_pos hc] at he0 he1 ⊢
  rw [h4] at he0 he1 ⊢
  clear Y
  refine ⟨_, hday, ?_⟩
  clear hday
  generalize Cal.mahead b kd l (spPlace l r.f1) = M at *
  generalize Cal.first y = s at *
  generalize r.f2 = d at *
  have hU := rfrom (s + M + d - 1) (by omega) (by omega)
  have e : s + M + d - 1 + (6 - (s + M + d - 1)) % 7 = s + (M + d - 1 + (6 - (b + (M + d - 1))) % 7 + 0) := by omega
  rw [e] at hU
  exact hU
theorem sp_mem (r : S54) (h : r = ⟨35, 1, 3, 77, 0⟩ ∨ r = ⟨30, 6, 1, 78, 0⟩ ∨ r = ⟨31, 6, 13, 78, 0⟩ ∨ r = ⟨33, 7, 1, 78, 0⟩ ∨ r = ⟨34, 7, 14, 78, 0⟩ ∨ r = ⟨36, 11, 9, 78, 0⟩) : r ∈ spRows := by
  rcases h with rfl | rfl | rfl | rfl | rfl | rfl <;> simp [spRows, special_rules.f]
theorem ref_list : Ev (fun K => almanackerref22_Of.f K y) ((spList b kd l).map (atDay (Cal.first y)), 0) := by
  have y0 := Y.h0
  have y1 := Y.h1
  have m71 := rule_upto Y ⟨33, 7, 1, 78, 0⟩ (sp_mem Y _ (by simp)) (by decide) rfl
  have m119 := rule_upto Y ⟨36, 11, 9, 78, 0⟩ (sp_mem Y _ (by simp)) (by decide) rfl
  have m61 := rule_upto Y ⟨30, 6, 1, 78, 0⟩ (sp_mem Y _ (by simp)) (by decide) rfl
  have m613 := rule_upto Y ⟨31, 6, 13, 78, 0⟩ (sp_mem Y _ (by simp)) (by decide) rfl
  have m714 := rule_upto Y ⟨34, 7, 14, 78, 0⟩ (sp_mem Y _ (by simp)) (by decide) rfl
  obtain ⟨t, hT, hF⟩ := rule_from Y ⟨35, 1, 3, 77, 0⟩ (sp_mem Y _ (by simp)) rfl rfl
  have hDay : Ev (fun K => almanackerref19_Day.f K y 1 3) t := ⟨60, fun K hK => hT K hK⟩
  have hR : almanackerref07_Right.f y = some true := by
    unfold almanackerref07_Right.f
    rw [if_pos (by omega)]; simp; omega
  have e32 : (spEv b kd l ⟨32, 7, 1, 78, -7⟩).2 = (spEv b kd l ⟨33, 7, 1, 78, 0⟩).2 - 7 := by
    unfold spEv; simp only; omega
  have e37 : (spEv b kd l ⟨37, 11, 9, 78, 7⟩).2 = (spEv b kd l ⟨36, 11, 9, 78, 0⟩).2 + 7 := by
    unfold spEv; simp only; omega
  have b33 := (sp_rows_ok _ Y.ht ⟨33, 7, 1, 78, 0⟩ (sp_mem Y _ (by simp))).2.2
  have b36 := (sp_rows_ok _ Y.ht ⟨36, 11, 9, 78, 0⟩ (sp_mem Y _ (by simp))).2.2
  simp only at b33 b36
  obtain ⟨f0, f1⟩ := first_bd y (by omega) (by omega)
  have hL : (spRows.map (spEv b kd l)).map (atDay (Cal.first y)) = [(⟨35, Cal.first y + (spEv b kd l ⟨35, 1, 3, 77, 0⟩).2⟩ : S57), ⟨30, Cal.first y + (spEv b kd l ⟨30, 6, 1, 78, 0⟩).2⟩, ⟨31, Cal.first y + (spEv b kd l ⟨31, 6, 13, 78, 0⟩).2⟩,
      ⟨32, Cal.first y + (spEv b kd l ⟨32, 7, 1, 78, -7⟩).2⟩, ⟨33, Cal.first y + (spEv b kd l ⟨33, 7, 1, 78, 0⟩).2⟩, ⟨34, Cal.first y + (spEv b kd l ⟨34, 7, 14, 78, 0⟩).2⟩,
      ⟨36, Cal.first y + (spEv b kd l ⟨36, 11, 9, 78, 0⟩).2⟩, ⟨37, Cal.first y + (spEv b kd l ⟨37, 11, 9, 78, 7⟩).2⟩] := rfl
  rw [e32, e37] at hL
  generalize (spEv b kd l ⟨35, 1, 3, 77, 0⟩).2 = q35 at *
  generalize (spEv b kd l ⟨30, 6, 1, 78, 0⟩).2 = q30 at *
  generalize (spEv b kd l ⟨31, 6, 13, 78, 0⟩).2 = q31 at *
  generalize (spEv b kd l ⟨33, 7, 1, 78, 0⟩).2 = q33 at *
  generalize (spEv b kd l ⟨34, 7, 14, 78, 0⟩).2 = q34 at *
  generalize (spEv b kd l ⟨36, 11, 9, 78, 0⟩).2 = q36 at *
  have hsort : Ev (fun K => almanackerref19_Sort.f K ((spRows.map (spEv b kd l)).map (atDay (Cal.first y)))) ((spList b kd l).map (atDay (Cal.first y))) := by
    have hlen : ((spRows.map (spEv b kd l)).map (atDay (Cal.first y))).length = 8 := by rw [List.length_map, List.length_map, sp_rows_len]
    have e1 : ((spRows.map (spEv b kd l)).map (atDay (Cal.first y))).map toP = (spRows.map (spEv b kd l)).map (shiftE (Cal.first y)) := by
      rw [List.map_map]; rfl
    refine ⟨100, fun K hK => ?_⟩
    show almanackerref19_Sort.f K _ = _
    rw [sort_eq _ K (by rw [hlen]; omega) (by rw [hlen]; omega), e1, sortE_shift, List.map_map]
    rfl
  have w1 : wrap64 (Cal.first y + q33 - 7) = Cal.first y + (q33 - 7) := by unfold wrap64; omega
  have w2 : wrap64 (Cal.first y + q36 + 7) = Cal.first y + (q36 + 7) := by unfold wrap64; omega
  unfold almanackerref22_Of.f
  have hR2 : Ev (fun _ : Nat => almanackerref07_Right.f y) true := ⟨0, fun _ _ => hR⟩
  refine Ev.bind hR2 (Ev.from 0 (fun K _ => if_pos rfl) ?_)
  refine Ev.bind m71 (Ev.bind m119 (Ev.bind hDay (Ev.bind hF (Ev.bind m61 (Ev.bind m613 (Ev.bind m714 ?_))))))
  rw [w1, w2, ← hL]
  exact Ev.bind hsort Ev.const
end
theorem ref_out (y : Int) (h : y < 1 ∨ y > 9999) : Ev (fun K => almanackerref22_Of.f K y) ([], 2) := by
  have hR : almanackerref07_Right.f y = some false := by
    unfold almanackerref07_Right.f
    by_cases c : y ≥ 1
    · rw [if_pos c]; simp; omega
    · rw [if_neg c]
  refine Ev.from 0 (f' := fun _ => some ([], 2)) (fun K _ => ?_) Ev.const
  unfold almanackerref22_Of.f
  rw [hR]
  rfl
theorem rnamed_l0 (day : Int) (L : List S57) (hL : L.length ≤ 1000) : ∀ (rest : List S57) (i : Nat), L.drop i = rest → i ≤ L.length → Ev (fun K => almanackerref22_Named.l0 K day L (i : Int)) (kindOf day rest, 0)
  | [], i, hd, hi => by
    have hlen : L.length ≤ i := List.drop_eq_nil_iff.1 hd
    refine Ev.succ (f' := fun _ => some (0, 0)) (fun K => ?_) Ev.const
    rw [almanackerref22_Named.l0, if_neg (by omega)]
  | r :: rest, i, hd, hi => by
    have hlt : i < L.length := by
      rcases Nat.lt_or_ge i L.length with h | h
      · exact h
      · rw [List.drop_eq_nil_of_le h] at hd; cases hd
    have hri : rd_T57 L (i : Int) = r := by
      have : L[i]? = some r := by rw [← List.head?_drop, hd]; rfl
      simp [rd_T57, List.getD_eq_getElem?_getD, this]
    have hd2 : L.drop (i + 1) = rest := by rw [← List.drop_drop, hd]; rfl
    have e : wrap64 ((i : Int) + 1) = ((i + 1 : Nat) : Int) := by unfold wrap64; omega
    rw [kindOf]
    by_cases c : r.f1 = day
    · rw [if_pos c]
      refine Ev.succ (f' := fun _ => some (r.f0, 0)) (fun K => ?_) Ev.const
      rw [almanackerref22_Named.l0, if_pos (by omega), if_pos (by omega), hri, if_pos c]
    · rw [if_neg c]
      refine Ev.succ (fun K => ?_) (rnamed_l0 day L hL rest (i + 1) hd2 (by omega))
      rw [almanackerref22_Named.l0, if_pos (by omega), if_pos (by omega), hri, if_neg c, e]
theorem ryear_l0 (n y : Int) (y0 : 1 ≤ y) (y1 : y ≤ 9999) (hn0 : Cal.first y ≤ n) (hn1 : n < Cal.first (y + 1)) : ∀ (k : Nat) (lo hi : Int), 1 ≤ lo → lo ≤ y → y < hi → hi ≤ 10000 → hi - lo ≤ 2 ^ k → Ev (fun K => almanackerref06_Year.l0 K n lo hi) (y, 0)
  | 0, lo, hi, h0, h1, h2, h3, h4 => by
    have e : wrap64 (hi - lo) = hi - lo := by unfold wrap64; omega
    have el : lo = y := by omega
    refine Ev.succ (f' := fun _ => some (y, 0)) (fun K => ?_) Ev.const
    rw [almanackerref06_Year.l0, e, if_neg (by omega), el]
  | k + 1, lo, hi, h0, h1, h2, h3, h4 => by
    rw [Int.pow_succ] at h4
    have e : wrap64 (hi - lo) = hi - lo := by unfold wrap64; omega
    by_cases c : hi - lo > 1
    · obtain ⟨m, hm⟩ : ∃ m, (lo + hi) / 2 = m := ⟨_, rfl⟩
      have e2 : wrap64 (Int.tdiv (wrap64 (lo + hi)) 2) = m := by
        have : wrap64 (lo + hi) = lo + hi := by unfold wrap64; omega
        rw [this, Int.tdiv_eq_ediv_of_nonneg (by omega), hm]
        unfold wrap64; omega
      by_cases d : m ≤ y
      · have := first_le (a := m) (b := y) (by omega) d (by omega)
        refine Ev.succ (fun K => ?_) (Ev.bind (g := fun K x => if x.1 ≤ n then almanackerref06_Year.l0 K n m hi else almanackerref06_Year.l0 K n lo m) (rfirst_ev m (by omega) (by omega)) (r := (y, 0)) ?_)
        · rw [almanackerref06_Year.l0, e, if_pos c, e2]
        · refine Ev.from 0 (fun K _ => ?_) (ryear_l0 n y y0 y1 hn0 hn1 k m hi (by omega) d h2 h3 (by omega))
          rw [if_pos (by simp only; omega)]
      · have := first_le (a := y + 1) (b := m) (by omega) (by omega) (by omega)
        refine Ev.succ (fun K => ?_) (Ev.bind (g := fun K x => if x.1 ≤ n then almanackerref06_Year.l0 K n m hi else almanackerref06_Year.l0 K n lo m) (rfirst_ev m (by omega) (by omega)) (r := (y, 0)) ?_)
        · rw [almanackerref06_Year.l0, e, if_pos c, e2]
        · refine Ev.from 0 (fun K _ => ?_) (ryear_l0 n y y0 y1 hn0 hn1 k lo m h0 h1 (by omega) (by omega) (by omega))
          rw [if_neg (by simp only; omega)]
    · have el : lo = y := by omega
      refine Ev.succ (f' := fun _ => some (y, 0)) (fun K => ?_) Ev.const
      rw [almanackerref06_Year.l0, e, if_neg c, el]
theorem rlast_ev : Ev (fun K => almanackerref06_Last.f K) (Cal.first 10000 - 1) := by
  obtain ⟨a, b⟩ := first_bd 10000 (by omega) (by omega)
  have e : wrap64 (Cal.first 10000 - 1) = Cal.first 10000 - 1 := by unfold wrap64; omega
  refine Ev.bind (rfirst_ev 10000 (by omega) (by omega)) ?_
  simp only [e]
  exact Ev.const
theorem ryear_ev {y : Int} (y0 : 1 ≤ y) (y1 : y ≤ 9999) {n : Int} (hn0 : Cal.first y ≤ n) (hn1 : n < Cal.first (y + 1)) : Ev (fun K => almanackerref06_Year.f K n) (y, 0) := by
  have a := first_le (a := 1) (b := y) (by omega) y0 (by omega)
  have b := first_le (a := y + 1) (b := 10000) (by omega) (by omega) (by omega)
  rw [first_1] at a
  unfold almanackerref06_Year.f
  refine Ev.from 0 (fun K _ => if_neg (by omega)) (Ev.bind rlast_ev ?_)
  rw [show decide (n > Cal.first 10000 - 1) = false from decide_eq_false (by omega)]
  refine Ev.succ (fun K => ?_) (ryear_l0 n y y0 y1 hn0 hn1 14 1 10000 (by omega) y0 (by omega) (by omega) (by decide))
  rw [almanackerref06_Year.j0, if_neg (by decide)]
theorem ryear_out {n : Int} (h : n < Cal.first 1 ∨ Cal.first 10000 ≤ n) : Ev (fun K => almanackerref06_Year.f K n) (0, 2) := by
  rw [first_1] at h
  have hj : Ev (fun K => almanackerref06_Year.j0 K n true) (0, 2) := by
    refine Ev.succ (f' := fun _ => some (0, 2)) (fun K => ?_) Ev.const
    rw [almanackerref06_Year.j0, if_pos rfl]
  unfold almanackerref06_Year.f
  by_cases c : n < -1373427
  · exact Ev.from 0 (fun K _ => if_pos c) hj
  · refine Ev.from 0 (fun K _ => if_neg c) (Ev.bind rlast_ev ?_)
    rw [show decide (n > Cal.first 10000 - 1) = true from decide_eq_true (by omega)]
    exact hj
theorem rfromDay_y {y b kd : Int} {l : Bool} (Y : Yr y b kd l) (n : Int) (h0 : Cal.first y ≤ n) (h1 : n < Cal.first (y + 1)) : ∃ a c d, Ev (fun K => almanackerref10_FromDay.f K n) (y, a, c, d, 0) := by
  have b0 := Y.h0
  have b1 := Y.h1
  obtain ⟨f0, f1⟩ := first_bd y (by omega) (by omega)
  have hlong : Cal.first (y + 1) - Cal.first y ≤ 386 := by
    obtain ⟨k0, k1, _, _⟩ := kev_bd Y.ht
    have := Y.hl
    cases l <;> simp at this <;> omega
  have F := find_ok _ Y.ht (n - Cal.first y).toNat (by rw [List.mem_range]; omega)
  simp only at F
  have e : wrap64 (wrap64 (n - Cal.first y) + 1) = ((n - Cal.first y).toNat : Int) + 1 := by unfold wrap64; omega
  obtain ⟨c, hc⟩ := Option.isSome_iff_exists.1 F
  obtain ⟨r, hr, hc⟩ := Option.bind_eq_some_iff.1 hc
  refine ⟨c.1, c.2.1, r.2.1, ?_⟩
  unfold almanackerref10_FromDay.f
  refine Ev.bind (ryear_ev Y.h0 Y.h1 h0 h1) (Ev.from 0 (fun K _ => if_pos rfl) ?_)
  refine Ev.bind (x := (b, kd, l, 0)) ⟨2, fun K hK => ?_⟩ (Ev.bind (rfirst_ev y (by omega) (by omega)) ?_)
  · obtain ⟨k, rfl⟩ := Nat.le.dest hK
    rw [Nat.add_comm]
    exact rkev_eq k y b kd l Y.h0 Y.h1 Y.ht Y.hb Y.hl Y.hlp
  · simp only [e]
    exact Ev.bind (Ev.of (almanackerref08_Find.mono _ _ _ _) hr) (Ev.bind (Ev.of (almanackerref09_Of.mono _ _) hc) Ev.const)
theorem same_l0 (L : List S57) (hL : L.length ≤ 1000) : ∀ (t i : Nat), i + t = L.length → Ev (fun K => almanackerref19_Same.l0 K L L (i : Int)) true
  | 0, i, hi => by
    refine Ev.succ (f' := fun _ => some true) (fun K => ?_) Ev.const
    rw [almanackerref19_Same.l0, if_neg (by omega)]
  | t + 1, i, hi => by
    have e : wrap64 ((i : Int) + 1) = ((i + 1 : Nat) : Int) := by unfold wrap64; omega
    refine Ev.succ (fun K => ?_) (same_l0 L hL t (i + 1) (by omega))
    rw [almanackerref19_Same.l0, if_pos (by omega), if_pos (by omega), if_pos (by omega), if_neg (by simp), e]
theorem same_ev (L : List S57) (hL : L.length ≤ 1000) : Ev (fun K => almanackerref19_Same.f K L L) true := by
  unfold almanackerref19_Same.f
  exact Ev.from 0 (fun K _ => if_pos rfl) (same_l0 L hL L.length 0 (by omega))
theorem of_both (y : Int) : ∃ L e, L.length ≤ 1000 ∧ Ev (fun K => special_Of.f K y) (L, e) ∧ Ev (fun K => almanackerref22_Of.f K y) (L, e) := by
  by_cases h : 1 ≤ y ∧ y ≤ 9999
  · obtain ⟨b, kd, l, Y⟩ := Yr.all y h.1 h.2
    have hlen := sp_len _ Y.ht
    exact ⟨_, 0, by rw [List.length_map]; simp only at hlen; omega, ⟨12, fun K hK => sp_list Y K hK⟩, ref_list Y⟩
  · refine ⟨[], 2, by simp, ⟨2, fun K hK => ?_⟩, ref_out y (by omega)⟩
    obtain ⟨k, rfl⟩ := Nat.le.dest hK
    rw [Nat.add_comm]
    exact sp_out k y (by omega)
theorem named_both (n : Int) : ∃ k e, special_Named.f n = some (k, e) ∧ Ev (fun K => almanackerref22_Named.f K n) (k, e) := by
  by_cases h : Cal.first 1 ≤ n ∧ n < Cal.first 10000
  · obtain ⟨y, y0, y1, h0, h1⟩ := year_of n 9999 1 (by omega) (by omega) h.1 h.2
    obtain ⟨b, kd, l, Y⟩ := Yr.all y y0 y1
    obtain ⟨a, c, d, hd⟩ := fromDay_y Y n h0 h1
    obtain ⟨a', c', d', hd'⟩ := rfromDay_y Y n h0 h1
    have hlen : ((spList b kd l).map (atDay (Cal.first y))).length ≤ 1000 := by
      have := sp_len _ Y.ht
      rw [List.length_map]; simp only at this; omega
    refine ⟨kindOf n ((spList b kd l).map (atDay (Cal.first y))), 0, ?_, ?_⟩
    · unfold special_Named.f
      rw [hd, Option.bind_some, if_pos rfl]
      simp only
      rw [sp_list Y 30 (by omega), Option.bind_some, if_pos hlen]
    · unfold almanackerref22_Named.f
      refine Ev.bind hd' (Ev.from 0 (fun K _ => if_pos rfl) (Ev.bind (ref_list Y) ?_))
      exact rnamed_l0 n _ hlen _ 0 rfl (by omega)
  · refine ⟨0, 2, ?_, ?_⟩
    · unfold special_Named.f heb_FromDay.f
      rw [year_out (by omega)]
      rfl
    · unfold almanackerref22_Named.f
      refine Ev.bind (x := (0, 0, false, 0, 2)) ?_ (Ev.from 0 (fun K _ => if_neg (by decide)) Ev.const)
      unfold almanackerref10_FromDay.f
      exact Ev.bind (ryear_out (by omega)) (Ev.from 0 (fun K _ => if_neg (by decide)) Ev.const)
theorem specialTells_pure : almanackerlaw22_SpecialTells.Pure := by
  intro a0 a1 w0 w1
  obtain ⟨L, e, hL, hs, hr⟩ := of_both a0
  obtain ⟨k, e2, hs2, hr2⟩ := named_both a1
  have hE : Ev (fun K => almanackerlaw22_SpecialTells.f K a0 a1) true := by
    unfold almanackerlaw22_SpecialTells.f
    have hs3 : Ev (fun _ : Nat => special_Named.f a1) (k, e2) := ⟨0, fun _ _ => hs2⟩
    refine Ev.bind hs (Ev.bind hr (Ev.bind hs3 (Ev.bind hr2 (Ev.bind (Ev.of almanackerlaw22_awake.mono awake_eq) (Ev.from 0 (fun K _ => if_pos rfl) (Ev.bind (same_ev L hL) ?_))))))
    refine Ev.from 0 (f' := fun _ => some true) (fun K _ => ?_) Ev.const
    simp
  exact hE.get
end Go.Proofs.YtflpddhoiafhcaaGreatDoor.S
end
