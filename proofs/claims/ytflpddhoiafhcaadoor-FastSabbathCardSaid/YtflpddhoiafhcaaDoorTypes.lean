/- The fourteen types of years, their months' lengths, and what is asked of them: plain, no program in sight. -/
import Derived.Test.YtflpddhoiafhcaaDoorCal
namespace Go.Proofs.YtflpddhoiafhcaaDoor.Cal

/-- The fourteen types in their order: the weekday on which the year begins, its kind, whether it is a leap year. -/
def tyList : List (Int × Int × Bool) :=
  [(1, 0, false), (1, 2, false), (2, 1, false), (4, 1, false), (4, 2, false), (6, 0, false), (6, 2, false),
   (1, 0, true), (1, 2, true), (2, 1, true), (4, 0, true), (4, 2, true), (6, 0, true), (6, 2, true)]
def tyEq (x y : Int × Int × Bool) : Bool := x.1 == y.1 && (x.2.1 == y.2.1 && (x.2.2 == y.2.2))
/-- The place of a type among others, from a number on; 0: it is none of them. -/
def idxFrom (x : Int × Int × Bool) : List (Int × Int × Bool) → Int → Int
  | [], _ => 0
  | y :: r, i => if tyEq x y then i else idxFrom x r (i + 1)
/-- A type's number: 1 to 14; 0: it is none. -/
def tyNum (b k : Int) (l : Bool) : Int := idxFrom (b, k, l) tyList 1
def plainList : List Int := [30, 29, 30, 29, 30, 29, 30, 29, 30, 29, 30, 29]
/-- The months' lengths of a kind. -/
def lens (k : Int) (l : Bool) : List Int :=
  [30, if k = 2 then 30 else 29, if k = 0 then 29 else 30, 29, 30] ++ (if l = true then [30] else []) ++ [29, 30, 29, 30, 29, 30, 29]
/-- The months that are laid in the first rounds, so many. -/
def pre (k : Int) (l : Bool) : Nat → List Int
  | 0 => []
  | i + 1 => pre k l i ++ (if i = 5 ∧ l = true then [30] else []) ++ [if i = 1 ∧ k = 2 then 30 else if i = 2 ∧ k = 0 then 29 else plainList.getD i 0]
theorem pre_len (k : Int) (l : Bool) : ∀ i, i ≤ (pre k l i).length ∧ (pre k l i).length ≤ i + (if 5 < i then 1 else 0)
  | 0 => by simp [pre]
  | i + 1 => by
    have h := pre_len k l i
    simp only [pre, List.length_append, List.length_cons, List.length_nil]
    by_cases c : i = 5 ∧ l = true
    · obtain ⟨rfl, _⟩ := c
      rw [if_pos ⟨rfl, ‹_›⟩]
      simp at h ⊢
      omega
    · rw [if_neg c]
      by_cases d : 5 < i
      · rw [if_pos d] at h; rw [if_pos (by omega)]; simp; omega
      · rw [if_neg d] at h; simp; split <;> omega
theorem pre_all (k : Int) (l : Bool) : pre k l 12 = lens k l := by
  simp only [pre, lens, plainList]
  cases l <;> by_cases h2 : k = 2 <;> by_cases h0 : k = 0 <;> simp_all
/-- The months of a type; none, if there is no such type. -/
def months (b k : Int) (l : Bool) : List Int := if tyNum b k l = 0 then [] else lens k l
def mdays (b k : Int) (l : Bool) (m : Int) : Int := if 0 < m ∧ m ≤ (months b k l).length then (months b k l).getD (m - 1).toNat 0 else 0
def mahead (b k : Int) (l : Bool) (m : Int) : Int := if 0 < m ∧ m ≤ (months b k l).length then ((months b k l).take (m - 1).toNat).sum else 0
/-- The month and the day of a day, from a month on. -/
def findIn : List Int → Int → Int → Int × Int × Bool
  | [], _, _ => (0, 0, false)
  | d :: r, i, n => if n < 1 then (0, 0, false) else if n ≤ d then (i + 1, n, true) else findIn r (i + 1) (n - d)
def mfind (b k : Int) (l : Bool) (n : Int) : Int × Int × Bool := findIn (months b k l) 0 n
end Go.Proofs.YtflpddhoiafhcaaDoor.Cal
