/- The plain mathematics of the fixed Hebrew calendar: first days of years, their types; what is asked of the years 1 to 9999 is reckoned by the kernel once. No program in sight. -/
namespace Go.Proofs.YtflpddhoiafhcaaDoor.Cal

def leap (y : Int) : Bool := decide ((7 * y + 1) % 19 < 7)
def before (y : Int) : Int := (235 * y - 234) / 19
def md (y : Int) : Int := (5604 + 765433 * before y) / 25920 - 1373427
def mp (y : Int) : Int := (5604 + 765433 * before y) % 25920
/-- 1 where the new moon puts the year off. -/
def off (w p : Int) (lp after : Bool) : Int :=
  if p ≥ 19440 then 1 else if lp = false ∧ w = 2 ∧ p ≥ 9924 then 1 else if after = true ∧ w = 1 ∧ p ≥ 16789 then 1 else 0
def delay (d p : Int) (lp after : Bool) : Int :=
  if (d % 7 + off (d % 7) p lp after) % 7 = 0 ∨ (d % 7 + off (d % 7) p lp after) % 7 = 3 ∨ (d % 7 + off (d % 7) p lp after) % 7 = 5
  then off (d % 7) p lp after + 1 else off (d % 7) p lp after
/-- A year's first day. -/
def first (y : Int) : Int := md y + delay (md y) (mp y) (leap y) (leap (y - 1))

/-! The same over natural numbers, for the kernel. -/
def leapN (y : Nat) : Bool := Nat.blt ((7 * y + 1) % 19) 7
def pN (y : Nat) : Nat := 5604 + 765433 * ((235 * y - 234) / 19)
def offN (w p : Nat) (lp after : Bool) : Nat :=
  bif Nat.ble 19440 p then 1 else bif !lp && (Nat.beq w 2 && Nat.ble 9924 p) then 1 else bif after && (Nat.beq w 1 && Nat.ble 16789 p) then 1 else 0
def badN (w : Nat) : Bool := Nat.beq w 0 || (Nat.beq w 3 || Nat.beq w 5)
def plusN (w n : Nat) : Nat := bif badN ((w + n) % 7) then n + 1 else n
/-- A year's first day, counted from 1373428 days ahead of day 0. -/
def fN (y : Nat) : Nat := pN y / 25920 + 1 + plusN ((pN y / 25920 + 1) % 7) (offN ((pN y / 25920 + 1) % 7) (pN y % 25920) (leapN y) (leapN (y - 1)))
/-- The fourteen types: the weekday on which the year begins, its length, whether it is a leap year. -/
def typeN (w l : Nat) (lp : Bool) : Nat :=
  bif lp then
    (bif Nat.beq w 1 then (bif Nat.beq l 383 then 8 else bif Nat.beq l 385 then 9 else 0) else bif Nat.beq w 2 then (bif Nat.beq l 384 then 10 else 0) else
     bif Nat.beq w 4 then (bif Nat.beq l 383 then 11 else bif Nat.beq l 385 then 12 else 0) else bif Nat.beq w 6 then (bif Nat.beq l 383 then 13 else bif Nat.beq l 385 then 14 else 0) else 0)
  else
    (bif Nat.beq w 1 then (bif Nat.beq l 353 then 1 else bif Nat.beq l 355 then 2 else 0) else bif Nat.beq w 2 then (bif Nat.beq l 354 then 3 else 0) else
     bif Nat.beq w 4 then (bif Nat.beq l 354 then 4 else bif Nat.beq l 355 then 5 else 0) else bif Nat.beq w 6 then (bif Nat.beq l 353 then 6 else bif Nat.beq l 355 then 7 else 0) else 0)
def tyN (y : Nat) : Nat := typeN (fN y % 7) (fN (y + 1) - fN y) (leapN y)
def okN (y : Nat) : Bool := Nat.beq y 0 || (Nat.blt 9999 y || Nat.blt 0 (tyN y))
def allN : Nat → Nat → Bool
  | 0, lo => okN lo
  | k + 1, lo => allN k lo && allN k (lo + 2 ^ k)
theorem allN_of : ∀ (k lo y : Nat), allN k lo = true → lo ≤ y → y < lo + 2 ^ k → okN y = true := by
  intro k
  induction k with
  | zero => intro lo y h h0 h1; obtain rfl : y = lo := by simp at h1; omega
            exact h
  | succ k ih =>
    intro lo y h h0 h1
    simp only [allN, Bool.and_eq_true] at h
    rw [Nat.pow_succ] at h1
    by_cases c : y < lo + 2 ^ k
    · exact ih lo y h.1 h0 c
    · exact ih (lo + 2 ^ k) y h.2 (by omega) (by omega)
theorem all_years : allN 14 0 = true := by decide +kernel
theorem ty_pos (y : Nat) (h0 : 1 ≤ y) (h1 : y ≤ 9999) : 0 < tyN y := by
  have h := allN_of 14 0 y all_years (by omega) (by omega)
  simp only [okN, Bool.or_eq_true, Nat.beq_eq, Nat.blt, Nat.ble_eq] at h
  omega
end Go.Proofs.YtflpddhoiafhcaaDoor.Cal
