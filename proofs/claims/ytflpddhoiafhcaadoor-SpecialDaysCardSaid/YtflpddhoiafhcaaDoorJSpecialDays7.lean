/- Texts of the proof of 'SpecialDays', joined by a program (part 7): contracts of functions, plain laws. -/
import Derived.Test.YtflpddhoiafhcaaDoorJSpecialDays2
import Derived.Test.YtflpddhoiafhcaaDoorJSpecialDays4
import Derived.Test.YtflpddhoiafhcaaDoorJSpecialDays5
import Derived.Test.YtflpddhoiafhcaaDoorJSpecialDays6
import Derived.OpenShut
set_option linter.unusedVariables false
set_option linter.unusedSimpArgs false
set_option linter.unusedSectionVars false
section
/- What holds of the special Sabbaths of a year, in the words of the printed Lean functions: what the laws on them ask. -/
namespace Go.Proofs.YtflpddhoiafhcaaDoor.S
open Go.RowKit Go.Proofs.YtflpddhoiafhcaaDoor.H Go.Proofs.YtflpddhoiafhcaaDoorW.PrintWords
theorem right_some (n : Int) (l : Bool) : ∃ t, code_Right.f n l = some t := by
  unfold code_Right.f
  repeat' split
  all_goals exact ⟨_, rfl⟩
theorem code_some (k : Nat) (l : Bool) (m : Int) : ∃ r, code_Of.f (k + 1) l m = some r := by
  have key : ∀ x1 x13 a b, ∃ r, code_Of.j0 (k + 1) x1 x13 a b = some r := by
    intro x1 x13 a b
    rw [code_Of.j0]
    obtain ⟨t1, h1⟩ := right_some (wrap64 (a - 1)) (x1 == 6)
    obtain ⟨t2, h2⟩ := right_some a b
    rw [h1, h2, Option.bind_some, Option.bind_some]
    cases x13 <;> cases t1 <;> cases t2 <;> exact ⟨_, rfl⟩
  unfold code_Of.f
  split
  · exact key _ _ _ _
  · exact key _ _ _ _
section
variable {y b kd : Int} {l : Bool} (Y : Yr y b kd l)
include Y
theorem fromDay_y (n : Int) (h0 : Cal.first y ≤ n) (h1 : n < Cal.first (y + 1)) : ∃ a c d, heb_FromDay.f 30 n = some (y, a, c, d, 0) := by
  have b0 := Y.h0
  have b1 := Y.h1
  unfold heb_FromDay.f
  rw [year_eq Y.h0 Y.h1 h0 h1, Option.bind_some]
  simp only
  rw [if_pos trivial, kev_eq 27 y b kd l Y.h0 Y.h1 Y.ht Y.hb Y.hl Y.hlp, Option.bind_some, first_eq 28 y (by omega) (by omega), Option.bind_some]
  simp only
  rw [month_Find.f, if_pos (by unfold wrap64; omega), Option.bind_some]
  obtain ⟨r, hr⟩ := code_some 29 l (Cal.mfind b kd l (wrap64 (wrap64 (n - Cal.first y) + 1))).1
  rw [hr]
  exact ⟨_, _, _, rfl⟩
theorem named_eq (p : Int × Int) (hp : p ∈ spList b kd l) : special_Named.f (Cal.first y + p.2) = some (p.1, 0) := by
  obtain ⟨q0, q1, q2⟩ := sp_in _ Y.ht p hp
  have hl := Y.hl
  simp only at q0 q1 q2
  unfold yearLong at q1
  obtain ⟨a, c, d, hd⟩ := fromDay_y Y (Cal.first y + p.2) (by omega) (by omega)
  unfold special_Named.f
  rw [hd, Option.bind_some, if_pos rfl]
  simp only
  rw [sp_list Y 30 (by omega), Option.bind_some, if_pos (by rw [List.length_map, sp_len _ Y.ht]; omega), kindOf_shift, q2]
end
theorem yr5784 : Yr 5784 6 0 true := ⟨by decide, by decide, by decide, by decide, by decide, by decide⟩
theorem awake_eq : almanackerlaw22_awake.f 30 = some true := by
  have e : (738996 : Int) = Cal.first 5784 + ((34, 217) : Int × Int).2 := by decide
  unfold almanackerlaw22_awake.f
  rw [e, named_eq yr5784 (34, 217) (by decide +kernel), Option.bind_some, sp_list yr5784 30 (by omega), Option.bind_some, sp_out 28 0 (by omega), Option.bind_some]
  simp only [List.length_map, sp_len _ yr5784.ht]
  rfl
/-- What the law on the days asks of the list's entry i, in a year of a type. -/
def dayFact (b kd : Int) (l : Bool) (i : Nat) : Prop :=
  let p := (spList b kd l).getD i (0, 0); let n := yearLong kd l
  (b + p.2) % 7 = 6 ∧ 0 ≤ p.2 ∧ p.2 < n ∧ (0 < i → ((spList b kd l).getD (i - 1) (0, 0)).2 < p.2) ∧ 30 ≤ p.1 ∧ p.1 ≤ 37 ∧ (p.1 = 35 → p.2 < 9) ∧ (p.1 = 37 → n - 50 ≤ p.2) ∧ (p.1 = 34 → p.2 < n - 163 ∧ n - 170 ≤ p.2) ∧
  ∀ m ∈ List.range i, ((spList b kd l).getD m (0, 0)).1 ≠ p.1
instance (b kd : Int) (l : Bool) (i : Nat) : Decidable (dayFact b kd l i) := by unfold dayFact; infer_instance
theorem day_facts : ∀ t ∈ Cal.tyList, ∀ i ∈ List.range 8, dayFact t.1 t.2.1 t.2.2 i := by decide +kernel
/-- The same in the words of the walk: of the list L of a year that begins at s; the next one at n. -/
structure EntryOk (s n : Int) (L : List S48) (i : Int) (kd d : Int) : Prop where
  at_ : rd_T48 L i = ⟨kd, d⟩
  named : special_Named.f d = some (kd, 0)
  week : almanackerref04_Weekday.f d = some 6
  lo : decide (d < s) = false
  hi : decide (d ≥ n) = false
  after : 0 < i → decide (d ≤ (rd_T48 L (i - 1)).f1) = false
  k0 : decide (kd < 30) = false
  k1 : decide (kd > 37) = false
  k35 : kd = 35 → decide (d ≥ wrap64 (s + 9)) = false
  k37 : kd = 37 → decide (d < wrap64 (n - 50)) = false
  k34 : kd = 34 → decide (d ≥ wrap64 (n - 163)) = false ∧ decide (d < wrap64 (n - 170)) = false
  other : ∀ m : Int, 0 ≤ m → m < i → ((rd_T48 L m).f0 == kd) = false
structure DaysOk (y s n : Int) (L : List S48) : Prop where
  of : special_Of.f 30 y = some (L, 0)
  len : L.length = 8
  first : almanackerref05_First.f 30 y = some (s, 0)
  next : almanackerref05_First.f 30 (wrap64 (y + 1)) = some (n, 0)
  entry : ∀ i : Int, 0 ≤ i → i < 8 → ∃ kd d, EntryOk s n L i kd d
theorem rd_at (M : List (Int × Int)) (s i : Int) (h0 : 0 ≤ i) (h1 : i < (M.length : Int)) : rd_T48 (M.map (atDay s)) i = atDay s (M.getD i.toNat (0, 0)) := by
  unfold rd_T48
  have hi : i.toNat < M.length := by omega
  rw [List.getD_eq_getElem?_getD, List.getElem?_map, List.getElem?_eq_getElem hi, List.getD_eq_getElem?_getD, List.getElem?_eq_getElem hi]
  rfl
theorem getD_mem' (M : List (Int × Int)) (i : Int) (h0 : 0 ≤ i) (h1 : i < (M.length : Int)) : M.getD i.toNat (0, 0) ∈ M := by
  have hi : i.toNat < M.length := by omega
  rw [List.getD_eq_getElem?_getD, List.getElem?_eq_getElem hi]; exact List.getElem_mem hi
theorem days_ok (y : Int) (h0 : 1 ≤ y) (h1 : y ≤ 9999) : ∃ s n L, DaysOk y s n L := by
  obtain ⟨b, kd, l, Y⟩ := Yr.all y h0 h1
  have hlen := sp_len _ Y.ht
  have hn : Cal.first (y + 1) = Cal.first y + yearLong kd l := by have := Y.hl; unfold yearLong; omega
  obtain ⟨f0, f1⟩ := first_bd y (by omega) (by omega)
  obtain ⟨g0, g1⟩ := first_bd (y + 1) (by omega) (by omega)
  have e1 : wrap64 (y + 1) = y + 1 := by unfold wrap64; omega
  refine ⟨Cal.first y, Cal.first (y + 1), (spList b kd l).map (atDay (Cal.first y)), sp_list Y 30 (by omega), by rw [List.length_map]; exact hlen, rfirst_eq 28 y (by omega) (by omega), by rw [e1]; exact rfirst_eq 28 (y + 1) (by omega) (by omega), fun i i0 i1 => ?_⟩
  have F := day_facts _ Y.ht i.toNat (by rw [List.mem_range]; omega)
  have hil : i < ((spList b kd l).length : Int) := by simp only at hlen; omega
  have hmem := getD_mem' (spList b kd l) i i0 hil
  have hN := named_eq Y _ hmem
  have hR := rd_at (spList b kd l) (Cal.first y) i i0 hil
  have hb := Y.hb
  unfold dayFact at F
  simp only at F
  have hprev : 0 < i → rd_T48 ((spList b kd l).map (atDay (Cal.first y))) (i - 1) = atDay (Cal.first y) ((spList b kd l).getD (i.toNat - 1) (0, 0)) := by
    intro hi
    rw [rd_at _ _ _ (by omega) (by omega), show (i - 1).toNat = i.toNat - 1 by omega]
  generalize hp : (spList b kd l).getD i.toNat (0, 0) = p at *
  obtain ⟨F1, F2, F3, F4, F5, F6, F7, F8, F9, F10⟩ := F
  refine ⟨p.1, Cal.first y + p.2, hR, hN, ?_, ?_, ?_, ?_, ?_, ?_, ?_, ?_, ?_, ?_⟩
  · rw [rweek_eq _ (by omega) (by omega)]
    have : (Cal.first y + p.2) % 7 = 6 := by omega
    rw [this]
  · simp; omega
  · simp; omega
  · intro hi
    rw [hprev hi]
    have := F4 (by omega)
    generalize (spList b kd l).getD (i.toNat - 1) (0, 0) = q at this ⊢
    simp; omega
  · simp; omega
  · simp; omega
  · intro h
    have := F7 h
    simp; unfold wrap64; omega
  · intro h
    have := F8 h
    simp; unfold wrap64; omega
  · intro h
    have := F9 h
    constructor
    · simp; unfold wrap64; omega
    · simp; unfold wrap64; omega
  · intro m m0 m1
    rw [rd_at _ _ m m0 (by omega)]
    have := F10 m.toNat (by rw [List.mem_range]; omega)
    simpa using this
end Go.Proofs.YtflpddhoiafhcaaDoor.S
end

section
/- What the printed Lean function of 'almanackerlaw22.SpecialDays' answers: true, in every year. -/
namespace Go.Proofs.YtflpddhoiafhcaaDoor.S
open Go.RowKit Go.Proofs.YtflpddhoiafhcaaDoor.H Go.Proofs.YtflpddhoiafhcaaDoorW.PrintWords Go.WideShapes Go.ChangeShapes
section
variable {y s n : Int} {L : List S48} (D : DaysOk y s n L)
include D
theorem sd_end : Ev (fun K => almanackerlaw22_SpecialDays.l0 K L s n 8) true := by
  have hl : (L.length : Int) = 8 := by rw [D.len]; rfl
  refine Ev.succ (f' := fun K => (almanackerlaw22_awake.f K).bind fun t => some t) (fun K => ?_) (Ev.bind (Ev.of almanackerlaw22_awake.mono awake_eq) Ev.const)
  rw [almanackerlaw22_SpecialDays.l0, if_neg (by omega)]
theorem sd_inner (i kd d : Int) (i0 : 0 ≤ i) (i8 : i < 8) (E : EntryOk s n L i kd d) (hnext : Ev (fun K => almanackerlaw22_SpecialDays.l0 K L s n (i + 1)) true) :
    ∀ (t : Nat) (m : Int), 0 ≤ m → m + t = i → Ev (fun K => almanackerlaw22_SpecialDays.l1 K L s n i m kd d) true
  | 0, m, m0, hm => by
    have e : wrap64 (i + 1) = i + 1 := by unfold wrap64; omega
    refine Ev.succ (fun K => ?_) hnext
    rw [almanackerlaw22_SpecialDays.l1, if_neg (by omega), e]
  | t + 1, m, m0, hm => by
    have hl : (L.length : Int) = 8 := by rw [D.len]; rfl
    have e : wrap64 (m + 1) = m + 1 := by unfold wrap64; omega
    have ho := E.other m m0 (by omega)
    rw [beq_eq_false_iff_ne] at ho
    refine Ev.succ (fun K => ?_) (sd_inner i kd d i0 i8 E hnext t (m + 1) (by omega) (by omega))
    rw [almanackerlaw22_SpecialDays.l1, if_pos (by omega), if_pos m0, if_pos (by omega), if_neg ho, e]
theorem sd_j2 (i kd d : Int) (E : EntryOk s n L i kd d) (h : Ev (fun K => almanackerlaw22_SpecialDays.j3 K L s n i false kd d) true) : Ev (fun K => almanackerlaw22_SpecialDays.j2 K L s n i false kd d) true := by
  refine Ev.succ (fun K => ?_) h
  rw [almanackerlaw22_SpecialDays.j2, if_neg (by decide)]
  by_cases h35 : kd = 35
  · rw [if_pos h35, if_neg (of_decide_eq_false (E.k35 h35)), if_neg (by omega), if_neg (by omega)]
  · rw [if_neg h35]
    by_cases h37 : kd = 37
    · rw [if_pos h37, if_neg (of_decide_eq_false (E.k37 h37)), if_neg (by omega)]
    · rw [if_neg h37]
      by_cases h34 : kd = 34
      · rw [if_pos h34, if_neg (of_decide_eq_false (E.k34 h34).1), (E.k34 h34).2]
      · rw [if_neg h34]
theorem sd_loop : ∀ (t : Nat) (i : Int), 0 ≤ i → i + t = 8 → Ev (fun K => almanackerlaw22_SpecialDays.l0 K L s n i) true
  | 0, i, i0, hi => by
    obtain rfl : i = 8 := by omega
    exact sd_end D
  | t + 1, i, i0, hi => by
    have hl : (L.length : Int) = 8 := by rw [D.len]; rfl
    obtain ⟨kd, d, E⟩ := D.entry i i0 (by omega)
    have hin := sd_inner D i kd d i0 (by omega) E (sd_loop t (i + 1) (by omega) (by omega)) i.toNat 0 (by omega) (by omega)
    have hj3 : Ev (fun K => almanackerlaw22_SpecialDays.j3 K L s n i false kd d) true := by
      refine Ev.succ (fun K => ?_) hin
      rw [almanackerlaw22_SpecialDays.j3, if_neg (by decide)]
    refine Ev.succ (fun K => ?_) (sd_j2 D i kd d E hj3)
    rw [almanackerlaw22_SpecialDays.l0, if_pos (by omega), if_pos i0, E.at_]
    dsimp only
    rw [E.named, Option.bind_some, E.week, Option.bind_some, if_pos rfl, if_neg (of_decide_eq_false E.lo), if_neg (of_decide_eq_false E.hi)]
    dsimp only
    by_cases h : i > 0
    · have e : wrap64 (i - 1) = i - 1 := by unfold wrap64; omega
      rw [if_pos h, e, if_pos (by omega), if_pos (by omega), if_neg (of_decide_eq_false (E.after h)), if_pos rfl, if_pos rfl, if_neg (of_decide_eq_false E.k0), E.k1]
    · rw [if_neg h, if_pos rfl, if_pos rfl, if_neg (of_decide_eq_false E.k0), E.k1]
theorem sd_f (a0 : Int) (hy : wrap64 (1 + Int.tmod (wrap64 a0) 9999) = y) : Ev (fun K => almanackerlaw22_SpecialDays.f K a0) true := by
  unfold almanackerlaw22_SpecialDays.f
  rw [hy]
  refine Ev.bind (Ev.of (special_Of.mono y) D.of) (Ev.bind (Ev.of (almanackerref05_First.mono y) D.first) (Ev.bind (Ev.of (almanackerref05_First.mono (wrap64 (y + 1))) D.next) ?_))
  have hl : (L.length : Int) = 8 := by rw [D.len]; rfl
  have h := sd_loop D 8 0 (by omega) (by omega)
  dsimp only
  refine Ev.from 0 (f' := fun K => almanackerlaw22_SpecialDays.j0 K L s n false) (fun K _ => ?_) (Ev.succ (fun K => ?_) h)
  · rw [if_pos rfl, hl]; rfl
  · rw [almanackerlaw22_SpecialDays.j0, if_neg (by decide)]
end
theorem specialDays_pure : almanackerlaw22_SpecialDays.Pure := by
  intro a0 w0
  have b0 := bounds_u16 w0
  have hy : wrap64 (1 + Int.tmod (wrap64 a0) 9999) = 1 + a0 % 9999 := by
    have e : wrap64 a0 = a0 := by unfold wrap64; omega
    rw [e, Int.tmod_eq_emod_of_nonneg b0.1]; unfold wrap64; omega
  obtain ⟨s, n, L, D⟩ := days_ok (1 + a0 % 9999) (by omega) (by omega)
  exact (sd_f D a0 hy).get
end Go.Proofs.YtflpddhoiafhcaaDoor.S
end
