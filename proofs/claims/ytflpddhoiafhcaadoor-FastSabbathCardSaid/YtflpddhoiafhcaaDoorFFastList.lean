/- What the printed Lean function of 'fast.Of' answers: by the year's type a fixed list, moved to the year's first day, in order. -/
import Derived.Test.YtflpddhoiafhcaaDoorFCalKev
import Derived.Test.YtflpddhoiafhcaaDoorFx8
namespace Go.Proofs.YtflpddhoiafhcaaDoor.F
open Go.RowKit Go.Proofs.YtflpddhoiafhcaaDoor.H
def placeNum (l : Bool) (n : Int) : Int := if l = true ∧ n > 5 then n + 1 else n
def rowOff (b kd : Int) (l : Bool) (r : Int × Int × Int) : Int := Cal.mahead b kd l (placeNum l r.2.1) + r.2.2 - 1
def dayOff (b kd : Int) (l : Bool) (r : Int × Int × Int) : Int := rowOff b kd l r + Cal.moved r.1 ((b + rowOff b kd l r) % 7)
def fastOff (b kd : Int) (l : Bool) (rows : List (Int × Int × Int)) : List (Int × Int) :=
  rows.flatMap fun r => if r.1 = 21 then [(r.1, dayOff b kd l r), (20, dayOff b kd l r - 1)] else [(r.1, dayOff b kd l r)]
def rowOk (b kd : Int) (l : Bool) (r : Int × Int × Int) : Prop :=
  code_Place.f 20 l r.2.1 false = some (placeNum l r.2.1, true) ∧ 0 ≤ placeNum l r.2.1 ∧ placeNum l r.2.1 ≤ 100 ∧ 1 ≤ r.2.2 ∧ r.2.2 ≤ Cal.mdays b kd l (placeNum l r.2.1) ∧ r.2.2 ≤ 100 ∧ 0 ≤ Cal.mahead b kd l (placeNum l r.2.1) ∧ Cal.mahead b kd l (placeNum l r.2.1) ≤ 1000
instance (b kd : Int) (l : Bool) (r : Int × Int × Int) : Decidable (rowOk b kd l r) := by unfold rowOk; infer_instance
theorem rows_ok : ∀ t ∈ Cal.tyList, ∀ r ∈ fastRows, rowOk t.1 t.2.1 t.2.2 r := by decide +kernel
theorem moved_bd (k w : Int) : -2 ≤ Cal.moved k w ∧ Cal.moved k w ≤ 1 := by
  unfold Cal.moved
  repeat' split
  all_goals omega
/-- Events, moved to a first day. -/
def atDay (s : Int) (p : Int × Int) : S48 := ⟨p.1, s + p.2⟩
theorem go_eq (y b kd : Int) (l : Bool) (h0 : 1 ≤ y) (h1 : y ≤ 9999) (ht : (b, kd, l) ∈ Cal.tyList) (hb : Cal.first y % 7 = b) (hl : Cal.first (y + 1) - Cal.first y = 353 + kd + (if l = true then 30 else 0)) (hlp : Cal.leap y = l) :
    ∀ (rows : List (Int × Int × Int)) (acc : List S48), (∀ r ∈ rows, rowOk b kd l r) →
      fast_Of.go y rows acc = (feast_Sort.f (acc ++ (fastOff b kd l rows).map (atDay (Cal.first y)))).bind fun s => some (s, 0)
  | [], acc, _ => by
    rw [fast_Of.go]
    simp [fastOff]
  | (kk, n, d) :: rest, acc, h => by
    obtain ⟨hp, p0, p1, d0, d1, d2, m0, m1⟩ := h (kk, n, d) (by simp)
    obtain ⟨a0, a1⟩ := first_bd y (by omega) (by omega)
    simp only at hp p0 p1 d0 d1 d2 m0 m1
    rw [fast_Of.go, toDay_eq 17 y b kd l n false d _ h0 h1 ht hb hl hlp hp p0 p1 d0 d1 d2 m0 m1, Option.bind_some, if_pos rfl]
    simp only
    rw [weekday_eq _ (by omega) (by omega), Option.bind_some]
    have hw : (Cal.first y + Cal.mahead b kd l (placeNum l n) + d - 1) % 7 = (b + rowOff b kd l (kk, n, d)) % 7 := by
      have e : Cal.first y + Cal.mahead b kd l (placeNum l n) + d - 1 = Cal.first y + rowOff b kd l (kk, n, d) := by
        show _ = Cal.first y + (Cal.mahead b kd l (placeNum l n) + d - 1)
        omega
      rw [e]
      generalize rowOff b kd l (kk, n, d) = R
      rw [← hb, Int.emod_add_emod]
    rw [hw]
    obtain ⟨v0, v1⟩ := moved_bd kk ((b + rowOff b kd l (kk, n, d)) % 7)
    have hd : wrap64 (Cal.first y + Cal.mahead b kd l (placeNum l n) + d - 1 + Cal.moved kk ((b + rowOff b kd l (kk, n, d)) % 7)) = Cal.first y + dayOff b kd l (kk, n, d) := by
      unfold dayOff wrap64
      simp only [rowOff] at *
      omega
    have hd2 : wrap64 (Cal.first y + dayOff b kd l (kk, n, d) - 1) = Cal.first y + (dayOff b kd l (kk, n, d) - 1) := by
      unfold dayOff wrap64
      simp only [rowOff] at *
      omega
    rw [hd, hd2]
    have ih := go_eq y b kd l h0 h1 ht hb hl hlp rest
    have hrest : ∀ r ∈ rest, rowOk b kd l r := fun r hr => h r (by simp [hr])
    by_cases hk : kk = 21
    · rw [if_pos hk, ih _ hrest]
      have e : fastOff b kd l ((kk, n, d) :: rest) = [(kk, dayOff b kd l (kk, n, d)), (20, dayOff b kd l (kk, n, d) - 1)] ++ fastOff b kd l rest := by
        unfold fastOff
        rw [List.flatMap_cons, if_pos hk]
      rw [e]
      simp [atDay]
    · rw [if_neg hk, ih _ hrest]
      have e : fastOff b kd l ((kk, n, d) :: rest) = [(kk, dayOff b kd l (kk, n, d))] ++ fastOff b kd l rest := by
        unfold fastOff
        rw [List.flatMap_cons, if_neg hk]
      rw [e]
      simp [atDay]
/-! The order keeps its shape when all days are moved alike. -/
def shiftE (s : Int) (p : Int × Int) : Int × Int := (p.1, s + p.2)
theorem ltE_shift (s : Int) (x y : Int × Int) : Cal.ltE (shiftE s x) (shiftE s y) = Cal.ltE x y := by
  unfold Cal.ltE shiftE
  exact decide_eq_decide.2 (by simp only; omega)
theorem insE_shift (s : Int) (x : Int × Int) : ∀ l, Cal.insE (shiftE s x) (l.map (shiftE s)) = (Cal.insE x l).map (shiftE s)
  | [] => rfl
  | y :: r => by
    rw [List.map_cons, Cal.insE, Cal.insE, ltE_shift, insE_shift s x r]
    split <;> rfl
theorem sortE_shift (s : Int) : ∀ l, Cal.sortE (l.map (shiftE s)) = (Cal.sortE l).map (shiftE s)
  | [] => rfl
  | x :: r => by rw [List.map_cons, Cal.sortE, sortE_shift s r, insE_shift, Cal.sortE]
def fastList (b kd : Int) (l : Bool) : List (Int × Int) := Cal.sortE (fastOff b kd l fastRows)
set_option maxHeartbeats 1000000 in
theorem fast_list (y b kd : Int) (l : Bool) (h0 : 1 ≤ y) (h1 : y ≤ 9999) (ht : (b, kd, l) ∈ Cal.tyList) (hb : Cal.first y % 7 = b) (hl : Cal.first (y + 1) - Cal.first y = 353 + kd + (if l = true then 30 else 0)) (hlp : Cal.leap y = l) :
    fast_Of.f y = some ((fastList b kd l).map (atDay (Cal.first y)), 0) := by
  have hlen : (fastOff b kd l fastRows).length ≤ 18 := by
    have key : ∀ t ∈ Cal.tyList, (fastOff t.1 t.2.1 t.2.2 fastRows).length ≤ 18 := by decide +kernel
    exact key (b, kd, l) ht
  have hok : ∀ r ∈ fastRows, rowOk b kd l r := rows_ok (b, kd, l) ht
  rw [fast_Of.f, if_neg (by omega), go_eq y b kd l h0 h1 ht hb hl hlp fastRows [] hok, List.nil_append, feast_Sort.f, if_pos (by rw [List.length_map]; omega), Option.bind_some]
  have e1 : ((fastOff b kd l fastRows).map (atDay (Cal.first y))).map toP = (fastOff b kd l fastRows).map (shiftE (Cal.first y)) := by
    rw [List.map_map]; rfl
  rw [e1, sortE_shift, List.map_map]
  rfl
theorem fast_out (y : Int) (h : y < 1 ∨ y > 9999) : fast_Of.f y = some ([], 2) := by
  rw [fast_Of.f, if_pos h]
end Go.Proofs.YtflpddhoiafhcaaDoor.F
