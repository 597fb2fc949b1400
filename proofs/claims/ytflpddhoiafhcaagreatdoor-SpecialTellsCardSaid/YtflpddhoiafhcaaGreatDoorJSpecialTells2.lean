/- Texts of the proof of 'SpecialTells', joined by a program (part 2): contracts of functions, plain laws. -/
import Derived.Test.YtflpddhoiafhcaaGreatDoorJSpecialTells0
import Derived.Test.YtflpddhoiafhcaaGreatDoorProg
import Derived.Below
import Derived.Deep.Draws
import Derived.WalkKit
import Derived.Laws.Rows
import Derived.Test.YtflpddhoiafhcaaGreatDoorJSpecialTells1
import Derived.Test.YtflpddhoiafhcaaGreatDoorRows
import Derived.Stop.Joined
import Derived.Stop.LaidErr
import Derived.Lib.LaidTab
import Derived.MakeChecks
import Derived.LaidMore
import Derived.OpenShut
import Derived.ChangeSame
import Derived.Deep.Strs
import Derived.Shelf.Bits.Mul64
import Derived.OwnWalk
import Derived.Tactics
import Derived.KernelRfl
import Derived.RowKit3
import Derived.Deep.LoopGhost
import Derived.Deep.QuietTactic
import Derived.BigQuiet
import Derived.WideLaws
import Derived.Deep.DeepCutAuto
import Derived.Deep.CutBlock
import Derived.Deep.RegionHeld3
import Derived.OrdersHeld
import Derived.Outline
import Derived.Shelf.SlicesQ.Index
import Derived.Laws.StructEq
import Derived.IntWalk
import Derived.RegionTactic
import Derived.ChangeAlike
import Derived.Laws.Tables
import Derived.Laws.CopyOwn
import Derived.Shelf.SlSortCmp.WholeK
import Derived.Shelf.SlicesE.Clone
import Derived.Shelf.SlicesG.Cmp
import Derived.Shelf.Strings.Builder1
import Derived.Shelf.Strings.Builder2
import Derived.Shelf.Strings.OnBuilder
import Derived.Shelf.Small.Utf8
import Derived.Shelf.Small.Bits
import Derived.Shelf.Small.Strs
import Derived.Shelf.Small.Wraps
import Derived.Shelf.Strings.BuilderF
import Derived.Shelf.Utf8.RuneCount
import Derived.Shelf.Strings.Builder2Cap
import Derived.Shelf.Strconv.Atoi
import Derived.Shelf.Strconv.Itoa0
import Derived.Shelf.Strconv.Itoa1
import Derived.Shelf.LaysM
import Derived.Shelf.Strconv.Itoa2
import Derived.Shelf.Strconv.Itoa3
import Derived.Shelf.Strconv.AtoiErrFast
import Derived.Shelf.Strconv.ParseIntEmpty
import Derived.Shelf.Strconv.AtoiFail
import Derived.Shelf.Strconv.Clone
import Derived.Shelf.Strconv.SyntaxError
import Derived.Shelf.LaysC
import Derived.Shelf.Strconv.ToError
import Derived.Shelf.Strconv.Lower
import Derived.Shelf.Strconv.ParseUint10
import Derived.Shelf.Strconv.ParseUint10Empty
import Derived.Shelf.Strconv.ParseUint10Any
import Derived.Shelf.Strconv.ParseInt10
import Derived.Shelf.Strconv.AtoiLong
import Derived.Shelf.Strconv.AtoiInnerAll
import Derived.Shelf.Strconv.RangeError
import Derived.Shelf.Strconv.ToErrorRange
import Derived.Shelf.Strconv.AtoiAll
import Derived.Shelf.Strconv.ErrVarAll
import Derived.Shelf.Strconv.ParseUintEmpty
import Derived.Shelf.Strings.Search1
import Derived.Shelf.Strings.Search2
import Derived.Shelf.Strings.Search3
import Derived.Shelf.Strings.Cut
import Derived.Shelf.Strings.Count
import Derived.Shelf.Strings.Shaped
import Derived.Shelf.Strings.LastIndex
import Derived.Shelf.Strings.Prefix
import Derived.Shelf.Strings.Split
import Derived.Shelf.Unicode.Decode
import Derived.Shelf.Strings.Runes
import Derived.Shelf.Strings.RuneCount
import Derived.Shelf.Strings.AsciiSet
import Derived.Shelf.Unicode.DecodeSlow
import Derived.Shelf.Unicode.DecodeAny
import Derived.Shelf.Unicode.DecodeLast
import Derived.Shelf.Slices.SearchI
import Derived.Deep.AppendLies
import Derived.Maps.AppendAt
import Derived.Laws.BytesArg
import Derived.Laws.MakeOwn
import Derived.Laws.OwnMore
import Derived.Deep.OwnRows
import Derived.Lib.ConvBytes
import Derived.Laws.Slices
import Derived.Lib.AppendStr
import Derived.ArgAppend
import Derived.Laws.IdiomCopy
import Derived.Laws.BitsLemmas
import Derived.RowKit
import Derived.Sort.OwnSortedInts
set_option linter.unusedVariables false
set_option linter.unusedSimpArgs false
section
/- The plain mathematics of the fixed Hebrew calendar: first days of years, their types; what is asked of the years 1 to 9999 is reckoned by the kernel once. No program in sight. -/
namespace Go.Proofs.YtflpddhoiafhcaaGreatDoor.Cal

def leap (y : Int) : Bool := decide ((7 * y + 1) % 19 < 7)
def before (y : Int) : Int := (235 * y - 234) / 19
def md (y : Int) : Int := (5604 + 765433 * before y) / 25920 - 1373427
def mp (y : Int) : Int := (5604 + 765433 * before y) % 25920
/-- 1 where the new moon puts the year off. -/
def off (w p : Int) (lp after : Bool) : Int :=
  if p ≥ 19440 then 1 else if lp = false ∧ w = 2 ∧ p ≥ 9924 then 1 else if after = true ∧ w = 1 ∧ p ≥ 16789 then 1 else 0
def delay (d p : Int) (lp after : Bool) : Int :=
  if (d % 7 + off (d % 7) p lp after) % 7 = 0 ∨ (d % 7 + off (d % 7) p lp after) % 7 = 3 ∨ (d % 7 + off (d % 7) p lp after) % 7 = 5
  then off (d % 7) p lp after + 1 else off (d % 7) p lp after
/-- A year's first day. -/
def first (y : Int) : Int := md y + delay (md y) (mp y) (leap y) (leap (y - 1))

def leapN (y : Nat) : Bool := Nat.blt ((7 * y + 1) % 19) 7
def pN (y : Nat) : Nat := 5604 + 765433 * ((235 * y - 234) / 19)
def offN (w p : Nat) (lp after : Bool) : Nat :=
  bif Nat.ble 19440 p then 1 else bif !lp && (Nat.beq w 2 && Nat.ble 9924 p) then 1 else bif after && (Nat.beq w 1 && Nat.ble 16789 p) then 1 else 0
def badN (w : Nat) : Bool := Nat.beq w 0 || (Nat.beq w 3 || Nat.beq w 5)
def plusN (w n : Nat) : Nat := bif badN ((w + n) % 7) then n + 1 else n
/-- A year's first day, counted from 1373428 days ahead of day 0. -/
def fN (y : Nat) : Nat := pN y / 25920 + 1 + plusN ((pN y / 25920 + 1) % 7) (offN ((pN y / 25920 + 1) % 7) (pN y % 25920) (leapN y) (leapN (y - 1)))
/-- The fourteen types: the weekday on which the year begins, its length, whether it is a leap year. -/
def typeN (w l : Nat) (lp : Bool) : Nat :=
  bif lp then
    (bif Nat.beq w 1 then (bif Nat.beq l 383 then 8 else bif Nat.beq l 385 then 9 else 0) else bif Nat.beq w 2 then (bif Nat.beq l 384 then 10 else 0) else
     bif Nat.beq w 4 then (bif Nat.beq l 383 then 11 else bif Nat.beq l 385 then 12 else 0) else bif Nat.beq w 6 then (bif Nat.beq l 383 then 13 else bif Nat.beq l 385 then 14 else 0) else 0)
  else
    (bif Nat.beq w 1 then (bif Nat.beq l 353 then 1 else bif Nat.beq l 355 then 2 else 0) else bif Nat.beq w 2 then (bif Nat.beq l 354 then 3 else 0) else
     bif Nat.beq w 4 then (bif Nat.beq l 354 then 4 else bif Nat.beq l 355 then 5 else 0) else bif Nat.beq w 6 then (bif Nat.beq l 353 then 6 else bif Nat.beq l 355 then 7 else 0) else 0)
def tyN (y : Nat) : Nat := typeN (fN y % 7) (fN (y + 1) - fN y) (leapN y)
def okN (y : Nat) : Bool := Nat.beq y 0 || (Nat.blt 9999 y || Nat.blt 0 (tyN y))
def allN : Nat → Nat → Bool
  | 0, lo => okN lo
  | k + 1, lo => allN k lo && allN k (lo + 2 ^ k)
theorem allN_of : ∀ (k lo y : Nat), allN k lo = true → lo ≤ y → y < lo + 2 ^ k → okN y = true := by
  intro k
  induction k with
  | zero => intro lo y h h0 h1; obtain rfl : y = lo := by simp at h1; omega
            exact h
  | succ k ih =>
    intro lo y h h0 h1
    simp only [allN, Bool.and_eq_true] at h
    rw [Nat.pow_succ] at h1
    by_cases c : y < lo + 2 ^ k
    · exact ih lo y h.1 h0 c
    · exact ih (lo + 2 ^ k) y h.2 (by omega) (by omega)
theorem all_years : allN 14 0 = true := by decide +kernel
theorem ty_pos (y : Nat) (h0 : 1 ≤ y) (h1 : y ≤ 9999) : 0 < tyN y := by
  have h := allN_of 14 0 y all_years (by omega) (by omega)
  simp only [okN, Bool.or_eq_true, Nat.beq_eq, Nat.blt, Nat.ble_eq] at h
  omega
end Go.Proofs.YtflpddhoiafhcaaGreatDoor.Cal
end

section
/- The fourteen types of years, their months' lengths, and what is asked of them: plain, no program in sight. -/
namespace Go.Proofs.YtflpddhoiafhcaaGreatDoor.Cal

/-- The fourteen types in their order: the weekday on which the year begins, its kind, whether it is a leap year. -/
def tyList : List (Int × Int × Bool) :=
  [(1, 0, false), (1, 2, false), (2, 1, false), (4, 1, false), (4, 2, false), (6, 0, false), (6, 2, false),
   (1, 0, true), (1, 2, true), (2, 1, true), (4, 0, true), (4, 2, true), (6, 0, true), (6, 2, true)]
def tyEq (x y : Int × Int × Bool) : Bool := x.1 == y.1 && (x.2.1 == y.2.1 && (x.2.2 == y.2.2))
/-- The place of a type among others, from a number on; 0: it is none of them. -/
def idxFrom (x : Int × Int × Bool) : List (Int × Int × Bool) → Int → Int
  | [], _ => 0
  | y :: r, i => if tyEq x y then i else idxFrom x r (i + 1)
/-- A type's number: 1 to 14; 0: it is none. -/
def tyNum (b k : Int) (l : Bool) : Int := idxFrom (b, k, l) tyList 1
def plainList : List Int := [30, 29, 30, 29, 30, 29, 30, 29, 30, 29, 30, 29]
/-- The months' lengths of a kind. -/
def lens (k : Int) (l : Bool) : List Int :=
  [30, if k = 2 then 30 else 29, if k = 0 then 29 else 30, 29, 30] ++ (if l = true then [30] else []) ++ [29, 30, 29, 30, 29, 30, 29]
/-- The months that are laid in the first rounds, so many. -/
def pre (k : Int) (l : Bool) : Nat → List Int
  | 0 => []
  | i + 1 => pre k l i ++ (if i = 5 ∧ l = true then [30] else []) ++ [if i = 1 ∧ k = 2 then 30 else if i = 2 ∧ k = 0 then 29 else plainList.getD i 0]
theorem pre_len (k : Int) (l : Bool) : ∀ i, i ≤ (pre k l i).length ∧ (pre k l i).length ≤ i + (if 5 < i then 1 else 0)
  | 0 => by simp [pre]
  | i + 1 => by
    have h := pre_len k l i
    simp only [pre, List.length_append, List.length_cons, List.length_nil]
    by_cases c : i = 5 ∧ l = true
    · obtain ⟨rfl, _⟩ := c
      rw [if_pos ⟨rfl, ‹_›⟩]
      simp at h ⊢
      omega
    · rw [if_neg c]
      by_cases d : 5 < i
      · rw [if_pos d] at h; rw [if_pos (by omega)]; simp; omega
      · rw [if_neg d] at h; simp; split <;> omega
theorem pre_all (k : Int) (l : Bool) : pre k l 12 = lens k l := by
  simp only [pre, lens, plainList]
  cases l <;> by_cases h2 : k = 2 <;> by_cases h0 : k = 0 <;> simp_all
/-- The months of a type; none, if there is no such type. -/
def months (b k : Int) (l : Bool) : List Int := if tyNum b k l = 0 then [] else lens k l
def mdays (b k : Int) (l : Bool) (m : Int) : Int := if 0 < m ∧ m ≤ (months b k l).length then (months b k l).getD (m - 1).toNat 0 else 0
def mahead (b k : Int) (l : Bool) (m : Int) : Int := if 0 < m ∧ m ≤ (months b k l).length then ((months b k l).take (m - 1).toNat).sum else 0
/-- The month and the day of a day, from a month on. -/
def findIn : List Int → Int → Int → Int × Int × Bool
  | [], _, _ => (0, 0, false)
  | d :: r, i, n => if n < 1 then (0, 0, false) else if n ≤ d then (i + 1, n, true) else findIn r (i + 1) (n - d)
def mfind (b k : Int) (l : Bool) (n : Int) : Int × Int × Bool := findIn (months b k l) 0 n
end Go.Proofs.YtflpddhoiafhcaaGreatDoor.Cal
end

section
/- What the package-level variables of the calendar hold: a world in which they read as their text lays them, and that a call which leaves elder memory alone keeps this. -/
namespace Go.Proofs.YtflpddhoiafhcaaGreatDoor
open Go.RowKit Go.Proofs.YtflpddhoiafhcaaGreatDoorW.PrintWords
/-- A type's three cells. -/
def encK (x : Int × Int × Bool) : List Value := [.int .i64 x.1, .int .i64 x.2.1, .bool x.2.2]
def tyCells : Array Value := ((Cal.tyList.map encK).flatten).toArray
def plainCells : Array Value := (Cal.plainList.map fun n => Value.int .i64 n).toArray
/-- What a package-level variable's block holds. -/
def Holds (g : Nat) (cs : Array Value) (w : World) : Prop := ∃ t fr, w.heap[g]? = some (.cells cs t fr)
theorem Holds.below {g : Nat} {cs : Array Value} {w w' : World} (h : Holds g cs w) (hb : Below w.heap.size w w') : Holds g cs w' := by
  obtain ⟨t, fr, e⟩ := h
  exact ⟨t, fr, (hb.block g (Array.getElem?_eq_some_iff.1 e).1).trans e⟩
theorem Holds.cell {g : Nat} {cs : Array Value} {w : World} (h : Holds g cs w) (i : Nat) : w.cell? ⟨g, i, none⟩ = cs[i]? := by
  obtain ⟨t, fr, e⟩ := h
  exact cell_of_row w g i cs t fr e
/-- The types and the months. -/
structure GlobT (w : World) : Prop where
  types : Holds 3 tyCells w
  plain : Holds 2 plainCells w
theorem keep_cell {w w' : World} (h : Below w.heap.size w w') {a : Addr} {v : Value} (hc : w.cell? a = some v) : w'.cell? a = some v :=
  (h.cell (World.block_lt_of_cell? w a hc)).trans hc
theorem GlobT.below {w w' : World} (g : GlobT w) (h : Below w.heap.size w w') : GlobT w' := ⟨g.types.below h, g.plain.below h⟩
theorem GlobT.drawn {w w' : World} (g : GlobT w) (h : Drawn0 w w') : GlobT w' := g.below h.below
theorem GlobT.typesAt {w : World} (g : GlobT w) : ∀ j, j < Cal.tyList.length → ∀ i v, (encK Cal.tyList[j]!)[i]? = some v → w.cell? ⟨3, 0 + j * 3 + i, none⟩ = some v := by
  intro j hj i v hv
  rw [g.types.cell]
  have h2 : i < 3 := by
    have := (List.getElem?_eq_some_iff.1 hv).1
    simpa [encK] using this
  have hj' : j < 14 := hj
  rw [← hv]
  have key : ∀ j, j < 14 → ∀ i, i < 3 → tyCells[0 + j * 3 + i]? = (encK Cal.tyList[j]!)[i]? := by
    intro j hj i hi
    rcases (by omega : i = 0 ∨ i = 1 ∨ i = 2) with rfl | rfl | rfl <;>
    rcases (by omega : j = 0 ∨ j = 1 ∨ j = 2 ∨ j = 3 ∨ j = 4 ∨ j = 5 ∨ j = 6 ∨ j = 7 ∨ j = 8 ∨ j = 9 ∨ j = 10 ∨ j = 11 ∨ j = 12 ∨ j = 13) with rfl | rfl | rfl | rfl | rfl | rfl | rfl | rfl | rfl | rfl | rfl | rfl | rfl | rfl <;> rfl
  exact key j hj' i h2
end Go.Proofs.YtflpddhoiafhcaaGreatDoor
end

section
/- What the row's listed variables give the walks: the fourteen types and the months. -/
namespace Go.Proofs.YtflpddhoiafhcaaGreatDoor
open Go.RowKit Go.ChangeShapes
theorem gTypes : Tryz.prog.globalNamed "almanacker/keviah.types" = some 3 := by kernel_rfl
theorem gPlain : Tryz.prog.globalNamed "almanacker/month.plain" = some 2 := by kernel_rfl
theorem tTypes : (Tryz.prog.globals[3]?).map (·.type) = some 235 := by kernel_rfl
theorem tPlain : (Tryz.prog.globals[2]?).map (·.type) = some 183 := by kernel_rfl
theorem plain_data : (Rows.laid_almanacker_month_plain : DataW Unit) = Lib.tabData .i64 Cal.plainList := by kernel_rfl
def kevData (x : Int × Int × Bool) : DataW Unit := .agg [.lit (.int .i64 x.1), .lit (.int .i64 x.2.1), .lit (.bool x.2.2)]
theorem types_data : (Rows.laid_almanacker_keviah_types : DataW Unit) = .agg (Cal.tyList.map kevData) := by kernel_rfl
theorem ck3 : Tryz.prog.cellsOf 93 = 3 := by kernel_rfl
theorem ck42 : Tryz.prog.cellsOf 235 = 42 := by kernel_rfl
theorem ci1 : Tryz.prog.cellsOf 3 = 1 := by kernel_rfl
theorem cb1 : Tryz.prog.cellsOf 4 = 1 := by kernel_rfl
theorem holds_of_var {W : World} {n : String} {g : Nat} {cs : Array Value} (hg : Tryz.prog.globalNamed n = some g) (h : W.var? Tryz.prog n = some cs) : Holds g cs W := by
  unfold World.var? at h
  rw [hg] at h
  simp only [Option.bind_some] at h
  split at h
  · rename_i c t fr hh
    obtain rfl := Option.some.inj h
    exact ⟨t, fr, hh⟩
  · cases h
set_option maxRecDepth 100000 in
theorem kev_cells {enc : TypeId × Value → Unit} {w : World} {base : Nat} {spare : Nat → Bool} {held : Bool} {k : Nat} {cs : List Value} {y : DataW Unit × List MemPlace} (x : Int × Int × Bool)
    (hl : cs.length = 3) (h : DataW.trod enc Tryz.prog w base spare held k 93 cs = some y) (hy : y.1 = kevData x) : cs = encK x := by
  obtain ⟨a, b, c, rfl⟩ : ∃ a b c, cs = [a, b, c] := by
    match cs, hl with
    | [a, b, c], _ => exact ⟨a, b, c, rfl⟩
  obtain ⟨y0, y1, y2, n, rfl, _, h0, h1, h2⟩ := Go.Deep.trod_struct3 Tryz.underlying93 h
  obtain ⟨n0, e0, rfl, _⟩ := DataW.trod_int Tryz.underlying3 h0
  obtain ⟨n1, e1, rfl, _⟩ := DataW.trod_int Tryz.underlying3 h1
  obtain ⟨b2, e2, rfl⟩ := DataW.trod_bool Tryz.underlying4 h2
  simp [ci1, cb1] at e0 e1 e2
  simp [kevData] at hy
  obtain ⟨p, q, r⟩ := x
  simp at hy
  obtain ⟨rfl, rfl, rfl⟩ := hy
  subst e0 e1 e2
  rfl
set_option maxRecDepth 100000 in
theorem cells_of_types {enc : TypeId × Value → Unit} {w : World} {base : Nat} {spare : Nat → Bool} {held : Bool} {k : Nat} {cs : List Value} {x : DataW Unit × List MemPlace}
    (h : DataW.trod enc Tryz.prog w base spare held k 235 cs = some x) (hx : x.1 = .agg (Cal.tyList.map kevData)) : cs = tyCells.toList := by
  obtain ⟨xs, m, rfl, rfl, hlen, hn, hel⟩ := DataW.trod_array Tryz.underlying235 h
  rw [ck42] at hlen
  have hx' : xs.map (·.1) = Cal.tyList.map kevData := by simpa using hx
  have hch : ∀ i, i < 14 → (cs.drop (i * 3)).take 3 = encK Cal.tyList[i]! := by
    intro i hi
    have h1 := hel i hi
    rw [ck3] at h1
    have hi2 : i < xs.length := by omega
    rw [List.getElem?_eq_getElem hi2] at h1
    have e : xs[i].1 = kevData Cal.tyList[i]! := by
      have := congrArg (fun l => l[i]?) hx'
      simp only [List.getElem?_map] at this
      rw [List.getElem?_eq_getElem hi2, List.getElem?_eq_getElem (show i < Cal.tyList.length from hi)] at this
      have e2 : Cal.tyList[i]! = Cal.tyList[i]'(show i < Cal.tyList.length from hi) := getElem!_pos _ _ _
      rw [e2]
      simpa using this
    exact kev_cells _ (by rw [List.length_take, List.length_drop]; omega) h1 e
  have hk : ∀ i, i < 14 → (tyCells.toList.drop (i * 3)).take 3 = encK Cal.tyList[i]! := by
    intro i hi
    rcases (by omega : i = 0 ∨ i = 1 ∨ i = 2 ∨ i = 3 ∨ i = 4 ∨ i = 5 ∨ i = 6 ∨ i = 7 ∨ i = 8 ∨ i = 9 ∨ i = 10 ∨ i = 11 ∨ i = 12 ∨ i = 13) with rfl | rfl | rfl | rfl | rfl | rfl | rfl | rfl | rfl | rfl | rfl | rfl | rfl | rfl <;> rfl
  apply List.ext_getElem?
  intro j
  by_cases hj : j < 42
  · have e1 : ∀ l : List Value, l[j]? = ((l.drop (j / 3 * 3)).take 3)[j % 3]? := by
      intro l
      rw [List.getElem?_take_of_lt (by omega), List.getElem?_drop]
      congr 1
      omega
    rw [e1 cs, e1 tyCells.toList, hch _ (by omega), hk _ (by omega)]
  · rw [List.getElem?_eq_none (by omega), List.getElem?_eq_none (by show tyCells.size ≤ j; have : tyCells.size = 42 := rfl; omega)]
theorem globT_of_laid {r : List (String × DataW Unit)} {W : World} (h : laidMet Tryz.prog (("almanacker/keviah.types", Rows.laid_almanacker_keviah_types) :: ("almanacker/month.plain", Rows.laid_almanacker_month_plain) :: r) W) : GlobT W := by
  have h2 := h.tail
  rw [plain_data] at h2
  have hp : W.var? Tryz.prog "almanacker/month.plain" = some plainCells := Lib.tabIs_of_head gPlain tPlain Tryz.underlying183 Tryz.underlying3 (by kernel_rfl) (by kernel_rfl) h2
  obtain ⟨ps, ⟨g', t', cs, fuel, p, q, hg', ht', hvar, hd, _, _⟩, _⟩ := h
  obtain rfl := Option.some.inj (gTypes.symm.trans hg')
  obtain rfl := Option.some.inj (tTypes.symm.trans ht')
  have hcs := cells_of_types hd types_data
  refine ⟨holds_of_var gTypes ?_, holds_of_var gPlain hp⟩
  rw [hvar]
  congr 1
  exact Array.toList_inj.1 hcs
end Go.Proofs.YtflpddhoiafhcaaGreatDoor
end

section
/-
  DERIVED: THE SHELF's CONTRACTS AT THIS DUMP, IN PLAIN WORDS (tools/lay-plain.mjs out of 'YtflpddhoiafhcaaGreatDoorShlMul.lean', which tools/lay-shelf.mjs wrote): THE SAME DECLARATIONS UNDER THE SAME NAMES: 'import', 'namespace', 'open', 'def', 'theorem' AND NOTHING ELSE: no command of the shelf's: FOR A HAND-IN. Each laying: the table of numbers ('.._ren') and one theorem, a field a fact of the dump's own or the kernel's comparison; each contract: ONE APPLICATION.
-/
namespace Go.Proofs
open Go.Shelf
def Tryz.lays264_ren : Go.Shelf.Ren := ⟨fun | 264 => 216 | n => n, fun | 53 => 193 | 46 => 158 | n => n, fun | n => n⟩
theorem Tryz.lays264 : Go.Proofs.Lays.n264 Tryz.prog Tryz.lays264_ren := {
  mixed := by kernel_rfl
  f264 := Tryz.func216.trans (congrArg some (by kernel_rfl))
  t46 := Tryz.underlying158
  a46 := Tryz.isAgg158
  z46 := Tryz.sizeOf158
  v46 := Tryz.zeroValue158
  t53 := Tryz.underlying193
  a53 := Tryz.isAgg193
  z53 := Tryz.sizeOf193
  v53 := Tryz.zeroValue193 }
open Go.RowKit Go.Lib in
/-- math/bits.Mul64 by its contract. -/
theorem Tryz.bits_Mul64 (x y : Nat) (hx : x < 18446744073709551616) (hy : y < 18446744073709551616) (w : World) :
    Calls Tryz.prog 216 #[.int .u64 x, .int .u64 y] w fun e w' => e = .returned (.tuple #[.int .u64 ((x * y / 18446744073709551616 : Nat) : Int), .int .u64 ((x * y % 18446744073709551616 : Nat) : Int)]) ∧ w' = w := Any.bits_Mul64 Tryz.lays264 x y hx hy w
end Go.Proofs
end

section
/- The contract of the program's function behind the hole 'exact_Mul', by a walk over its text. -/
namespace Go.Proofs.YtflpddhoiafhcaaGreatDoor.H
open Go.RowKit Go.Proofs.YtflpddhoiafhcaaGreatDoorW.PrintWords Go.Proofs.YtflpddhoiafhcaaGreatDoorW.PrintLast Go.Proofs.YtflpddhoiafhcaaGreatDoorW.PrintMore
attribute [local go_sem] max2_int min2_int max_two min_two max_three min_three max_four min_four
set_option linter.unusedVariables false
set_option linter.unusedSimpArgs false
theorem exact_size_pos (n : Int) (h0 : ¬ n < 0) (h1 : n ≤ 1073741824) (w : World) :
    Calls Tryz.prog 276 #[.int .i64 n] w fun e w' => e = .returned (.int .u64 n) ∧ w = w' := by
  have hd : decide (n < 0) = false := by simp; omega
  go_enter Tryz.func276, Tryz.ntmps276
  go_wp2
  go_ret
  exact ⟨rfl, rfl⟩
theorem exact_size_neg (n : Int) (h0 : n < 0) (h1 : -1073741824 ≤ n) (w : World) :
    Calls Tryz.prog 276 #[.int .i64 n] w fun e w' => e = .returned (.int .u64 (-n)) ∧ w = w' := by
  have hd : decide (n < 0) = true := by simp; omega
  have hb : -n ≤ 1073741824 := by omega
  have hc : 0 < -n := by omega
  go_enter Tryz.func276, Tryz.ntmps276
  go_wp2
  go_ret
  refine ⟨?_, rfl⟩
  simp [IntKind.wrap, IntKind.bits, IntKind.signed]
  omega
/-- Of two numbers below 2 ^ 31: nothing high, and the product. -/
theorem exact_mul64 (x y p : Int) (hx0 : 0 ≤ x) (hx1 : x ≤ 1073741824) (hy0 : 0 ≤ y) (hy1 : y ≤ 1073741824) (hp : x * y = p) (w : World) :
    Calls Tryz.prog 216 #[.int .u64 x, .int .u64 y] w fun e w' => e = .returned (.tuple #[.int .u64 0, .int .u64 p]) ∧ w = w' := by
  have h := Tryz.bits_Mul64 x.toNat y.toNat (by omega) (by omega) w
  have hq : ((x.toNat * y.toNat : Nat) : Int) = p := by rw [← hp, Int.natCast_mul, Int.toNat_of_nonneg hx0, Int.toNat_of_nonneg hy0]
  have hb : x.toNat * y.toNat ≤ 1073741824 * 1073741824 := Nat.mul_le_mul (by omega) (by omega)
  rw [Int.toNat_of_nonneg hx0, Int.toNat_of_nonneg hy0] at h
  refine h.mono ?_
  rintro e w' ⟨rfl, rfl⟩
  refine ⟨?_, rfl⟩
  rw [Nat.div_eq_of_lt (by omega), Nat.mod_eq_of_lt (by omega), hq]
  rfl
theorem exact_prod_bd (x y : Int) (hx0 : 0 ≤ x) (hx1 : x ≤ 1073741824) (hy0 : 0 ≤ y) (hy1 : y ≤ 1073741824) : 0 ≤ x * y ∧ x * y ≤ 1152921504606846976 :=
  ⟨Int.mul_nonneg hx0 hy0, Int.le_trans (Int.mul_le_mul hx1 hy1 hy0 (by omega)) (by decide)⟩
def exact_Mul.f (a0 : Int) (a1 : Int) : Option (Int × Int) := if -1073741824 ≤ a0 ∧ a0 ≤ 1073741824 ∧ -1073741824 ≤ a1 ∧ a1 ≤ 1073741824 then some (a0 * a1, 0) else none
theorem exact_mul_all (a b p : Int) (ha0 : -1073741824 ≤ a) (ha1 : a ≤ 1073741824) (hb0 : -1073741824 ≤ b) (hb1 : b ≤ 1073741824) (hp : a * b = p) (w : World) :
    Calls Tryz.prog 259 #[.int .i64 a, .int .i64 b] w fun e w' => e = .returned (.tuple #[.int .i64 p, .int .i64 0]) ∧ w = w' := by
  by_cases ca : a < 0 <;> by_cases cb : b < 0
  · have bd := exact_prod_bd (-a) (-b) (by omega) (by omega) (by omega) (by omega)
    have hq : -a * -b = p := by rw [Int.neg_mul_neg]; exact hp
    rw [hq] at bd
    obtain ⟨bd0, bd1⟩ := bd
    have HQ := Aside0.mk hq
    have hda : decide (a < 0) = true := by simp; omega
    have hdb : decide (b < 0) = true := by simp; omega
    have hm : decide (9223372036854775807 < p) = false := by simp; omega
    clear hp hq
    go_enter Tryz.func259, Tryz.ntmps259
    go_wp2_with fail
    refine (exact_size_neg a (by omega) ha0 _).mono ?_; rintro e w' ⟨rfl, rfl⟩
    go_wp2_with fail
    refine (exact_size_neg b (by omega) hb0 _).mono ?_; rintro e w' ⟨rfl, rfl⟩
    go_wp2_with fail
    refine (exact_mul64 (-a) (-b) p (by omega) (by omega) (by omega) (by omega) HQ.out _).mono ?_; rintro e w' ⟨rfl, rfl⟩
    go_wp2
    go_ret2
    exact ⟨rfl, rfl⟩
  · have bd := exact_prod_bd (-a) b (by omega) (by omega) (by omega) (by omega)
    obtain ⟨q, hq⟩ : ∃ q, -a * b = q := ⟨_, rfl⟩
    obtain rfl : p = -q := by rw [← hp, ← hq, Int.neg_mul, Int.neg_neg]
    rw [hq] at bd
    obtain ⟨bd0, bd1⟩ := bd
    have HQ := Aside0.mk hq
    have hda : decide (a < 0) = true := by simp; omega
    have hdb : decide (b < 0) = false := by simp; omega
    have hm : decide (9223372036854775808 < q) = false := by simp; omega
    clear hp hq
    go_enter Tryz.func259, Tryz.ntmps259
    go_wp2_with fail
    refine (exact_size_neg a (by omega) ha0 _).mono ?_; rintro e w' ⟨rfl, rfl⟩
    go_wp2_with fail
    refine (exact_size_pos b (by omega) hb1 _).mono ?_; rintro e w' ⟨rfl, rfl⟩
    go_wp2_with fail
    refine (exact_mul64 (-a) b q (by omega) (by omega) (by omega) (by omega) HQ.out _).mono ?_; rintro e w' ⟨rfl, rfl⟩
    go_wp2
    go_ret2
    refine ⟨?_, rfl⟩
    simp [IntKind.wrap, IntKind.bits, IntKind.signed]
    unfold wrap64
    omega
  · have bd := exact_prod_bd a (-b) (by omega) (by omega) (by omega) (by omega)
    obtain ⟨q, hq⟩ : ∃ q, a * -b = q := ⟨_, rfl⟩
    obtain rfl : p = -q := by rw [← hp, ← hq, Int.mul_neg, Int.neg_neg]
    rw [hq] at bd
    obtain ⟨bd0, bd1⟩ := bd
    have HQ := Aside0.mk hq
    have hda : decide (a < 0) = false := by simp; omega
    have hdb : decide (b < 0) = true := by simp; omega
    have hm : decide (9223372036854775808 < q) = false := by simp; omega
    clear hp hq
    go_enter Tryz.func259, Tryz.ntmps259
    go_wp2_with fail
    refine (exact_size_pos a (by omega) ha1 _).mono ?_; rintro e w' ⟨rfl, rfl⟩
    go_wp2_with fail
    refine (exact_size_neg b (by omega) hb0 _).mono ?_; rintro e w' ⟨rfl, rfl⟩
    go_wp2_with fail
    refine (exact_mul64 a (-b) q (by omega) (by omega) (by omega) (by omega) HQ.out _).mono ?_; rintro e w' ⟨rfl, rfl⟩
    go_wp2
    go_ret2
    refine ⟨?_, rfl⟩
    simp [IntKind.wrap, IntKind.bits, IntKind.signed]
    unfold wrap64
    omega
  · have bd := exact_prod_bd a b (by omega) (by omega) (by omega) (by omega)
    have HQ := Aside0.mk hp
    rw [hp] at bd
    obtain ⟨bd0, bd1⟩ := bd
    have hda : decide (a < 0) = false := by simp; omega
    have hdb : decide (b < 0) = false := by simp; omega
    have hm : decide (9223372036854775807 < p) = false := by simp; omega
    clear hp
    go_enter Tryz.func259, Tryz.ntmps259
    go_wp2_with fail
    refine (exact_size_pos a (by omega) ha1 _).mono ?_; rintro e w' ⟨rfl, rfl⟩
    go_wp2_with fail
    refine (exact_size_pos b (by omega) hb1 _).mono ?_; rintro e w' ⟨rfl, rfl⟩
    go_wp2_with fail
    refine (exact_mul64 a b p (by omega) (by omega) (by omega) (by omega) HQ.out _).mono ?_; rintro e w' ⟨rfl, rfl⟩
    go_wp2
    go_ret2
    exact ⟨rfl, rfl⟩
theorem exact_Mul.calls (a0 : Int) (a1 : Int) (r1 : Int) (r2 : Int) (w : World) (h : exact_Mul.f a0 a1 = some (r1, r2)) :
    Calls Tryz.prog 259 #[.int .i64 a0, .int .i64 a1] w fun e w' => e = .returned (.tuple #[.int .i64 r1, .int .i64 r2]) ∧ Drawn0 w w' := by
  unfold exact_Mul.f at h
  split at h
  · rename_i hc
    simp only [Option.some.injEq, Prod.mk.injEq] at h
    obtain ⟨h1, h2⟩ := h
    subst h2
    exact (exact_mul_all a0 a1 r1 hc.1 hc.2.1 hc.2.2.1 hc.2.2.2 h1 w).mono fun e w' ⟨he, hw⟩ => ⟨he, hw ▸ Drawn0.refl _⟩
  · cases h
end Go.Proofs.YtflpddhoiafhcaaGreatDoor.H
end

section
/-
  DERIVED: THE SHELF's CONTRACTS AT THIS DUMP, IN PLAIN WORDS (tools/lay-plain.mjs out of 'YtflpddhoiafhcaaGreatDoorShlKev.lean', which tools/lay-shelf.mjs wrote): THE SAME DECLARATIONS UNDER THE SAME NAMES: 'import', 'namespace', 'open', 'def', 'theorem' AND NOTHING ELSE: no command of the shelf's: FOR A HAND-IN. Each laying: the table of numbers ('.._ren') and one theorem, a field a fact of the dump's own or the kernel's comparison; each contract: ONE APPLICATION.
-/
namespace Go.Proofs
open Go.Shelf
def Tryz.indexKev_ren : Go.Shelf.Ren := ⟨fun | 6 => 232 | n => n, fun | 22 => 234 | 24 => 93 | 3 => 3 | 0 => 0 | 4 => 4 | n => n, fun | n => n⟩
theorem Tryz.indexKev : Go.Proofs.SlLaysQ.n6 Tryz.prog Tryz.indexKev_ren := {
  mixed := by kernel_rfl
  f6 := ⟨Tryz.f232.name, by decide, Tryz.func232.trans (congrArg some (by kernel_rfl))⟩
  t0 := Tryz.underlying0
  a0 := Tryz.isAgg0
  z0 := Tryz.sizeOf0
  v0 := Tryz.zeroValue0
  t3 := Tryz.underlying3
  a3 := Tryz.isAgg3
  z3 := Tryz.sizeOf3
  v3 := Tryz.zeroValue3
  t4 := Tryz.underlying4
  a4 := Tryz.isAgg4
  z4 := Tryz.sizeOf4
  v4 := Tryz.zeroValue4
  t22 := Tryz.underlying234
  a22 := Tryz.isAgg234
  z22 := Tryz.sizeOf234
  v22 := Tryz.zeroValue234 }
end Go.Proofs
end

section
/- The contract of the program's function behind the hole 'month_of', by a walk over its text. -/
namespace Go.Proofs.YtflpddhoiafhcaaGreatDoor.H
open Go.RowKit Go.Proofs.YtflpddhoiafhcaaGreatDoorW.PrintWords Go.Proofs.YtflpddhoiafhcaaGreatDoorW.PrintLast Go.Proofs.YtflpddhoiafhcaaGreatDoorW.PrintMore
attribute [local go_sem] max2_int min2_int max_two min_two max_three min_three max_four min_four
set_option linter.unusedVariables false
set_option linter.unusedSimpArgs false
/-- The model's '==' of two types. -/
theorem kev_eq : EqlAt Tryz.prog 93 (fun x => .agg (encK x).toArray) Cal.tyEq := by
  refine ⟨fun x y w => ?_, GuardAt.agg _ (by kernel_rfl)⟩
  have u3 := Tryz.underlying3
  have a3 := Tryz.isAgg3
  have z3 := Tryz.sizeOf3
  have u4 := Tryz.underlying4
  have a4 := Tryz.isAgg4
  have z4 := Tryz.sizeOf4
  have hS : Tryz.prog.underlying 93 = some (.struct (Tryz.prog.fieldsOf 93)) := by kernel_rfl
  have hp : Tryz.prog.stoodInHeld 93 = false := by kernel_rfl
  simp only [encK, Cal.tyEq]
  rw [run_eql_struct, show (10000 : Nat) = 9999 + 1 from rfl, run_equalIn_agg w 9999 93 _ _ hS hp]
  simp only [Program.fieldsOf, Tryz.underlying93]
  go_simp
  obtain ⟨x1, x2, x3⟩ := x
  obtain ⟨y1, y2, y3⟩ := y
  by_cases h1 : x1 = y1 <;> by_cases h2 : x2 = y2 <;> cases x3 <;> cases y3 <;> simp [h1, h2]
theorem idxBy_from (x : Int × Int × Bool) : ∀ (l : List (Int × Int × Bool)) (i : Nat), Go.Lib.idxByFrom Cal.tyEq x l i = if Cal.idxFrom x l ((i : Int) + 1) = 0 then -1 else Cal.idxFrom x l ((i : Int) + 1) - 1
  | [], i => by simp [Go.Lib.idxByFrom, Cal.idxFrom]
  | y :: r, i => by
    unfold Go.Lib.idxByFrom Cal.idxFrom
    cases h : Cal.tyEq x y
    · simp only [Bool.false_eq_true, if_false]
      have := idxBy_from x r (i + 1)
      rw [this]
      rfl
    · simp only [if_true]
      rw [if_neg (by omega)]
      omega
theorem keviah_index (b k : Int) (l : Bool) (w : World) (HG : GlobT w) :
    Calls Tryz.prog 232 #[.slice (some ⟨3, 0, none⟩) 14 14, .agg #[.int .i64 b, .int .i64 k, .bool l]] w
      fun e w' => e = .returned (.int .i64 (Cal.tyNum b k l - 1)) ∧ Below w.heap.size w w' := by
  have h := AnyQ.slices_Index Tryz.indexKev 3 Tryz.isAgg93 Tryz.sizeOf93 encK (fun _ => rfl) Cal.tyEq kev_eq 3 0 14 14 Cal.tyList (b, k, l) w (by decide) (by decide) HG.typesAt
  refine h.mono ?_
  rintro e w' ⟨rfl, q, rfl⟩
  refine ⟨?_, pw_below_drewN ((Below.refl _ _).alloc (Nat.le_refl _) _) q⟩
  have e1 : Go.Lib.idxBy Cal.tyEq (List.take 14 Cal.tyList) (b, k, l) = Cal.tyNum b k l - 1 := by
    rw [show List.take 14 Cal.tyList = Cal.tyList from rfl, Go.Lib.idxBy, idxBy_from]
    show (if Cal.tyNum b k l = 0 then -1 else Cal.tyNum b k l - 1) = _
    split <;> omega
  rw [e1]
theorem ty_bounds (b k : Int) (l : Bool) : 0 ≤ Cal.tyNum b k l ∧ Cal.tyNum b k l ≤ 14 := by
  simp only [Cal.tyNum, Cal.tyList, Cal.idxFrom]
  repeat' split
  all_goals omega
/-- What a walk holds of its world: elder memory stands; the variables read as laid; a block of three cells. -/
structure KBox (w : World) (g : Nat) (b k : Int) (l : Bool) (W : World) : Prop where
  below : Below w.heap.size w W
  ge : w.heap.size ≤ g
  glob : GlobT W
  c0 : W.cell? ⟨g, 0, none⟩ = some (.int .i64 b)
  c1 : W.cell? ⟨g, 1, none⟩ = some (.int .i64 k)
  c2 : W.cell? ⟨g, 2, none⟩ = some (.bool l)
theorem KBox.step {w : World} {g : Nat} {b k : Int} {l : Bool} {W W' : World} (h : KBox w g b k l W) (hb : Below W.heap.size W W') : KBox w g b k l W' :=
  ⟨h.below.trans (hb.mono h.below.size), h.ge, h.glob.below hb, keep_cell hb h.c0, keep_cell hb h.c1, keep_cell hb h.c2⟩
theorem KBox.drew {w : World} {g : Nat} {b k : Int} {l : Bool} {W : World} (h : KBox w g b k l W) : KBox w g b k l W.drew := h.step (below_drew (Below.refl _ _))
theorem KBox.begin {w : World} (HG : GlobT w) (b k : Int) (l : Bool) : KBox w w.heap.size b k l (w.alloc (.cells #[.int .i64 b, .int .i64 k, .bool l] 93)) := by
  have hb : Below w.heap.size w (w.alloc (.cells #[.int .i64 b, .int .i64 k, .bool l] 93)) := (Below.refl _ _).alloc (Nat.le_refl _) _
  refine ⟨hb, Nat.le_refl _, HG.below hb, ?_, ?_, ?_⟩ <;> (rw [World.cell?_alloc_at _ _ _ _ (by simp)]; rfl)
theorem ret_i64 {a b : Int} (h : a = b) : Ending.returned (.int .i64 a) = .returned (.int .i64 b) := by rw [h]
theorem i64_plain {n : Int} (h0 : 0 ≤ n) (h1 : n ≤ 14) : IntKind.i64.wrap n = n := IntWalk.i64_in n (by omega)
theorem keviah_number (b k n : Int) (l : Bool) (hn : Cal.tyNum b k l = n) (w : World) (HG : GlobT w) :
    Calls Tryz.prog 184 #[.agg #[.int .i64 b, .int .i64 k, .bool l]] w fun e w' => e = .returned (.int .i64 n) ∧ Below w.heap.size w w' := by
  obtain ⟨hb0, hb1⟩ := ty_bounds b k l
  rw [hn] at hb0 hb1
  have hcon : ∀ W, KBox w w.heap.size b k l W → Calls Tryz.prog 232 #[.slice (some ⟨3, 0, none⟩) 14 14, .agg #[.int .i64 b, .int .i64 k, .bool l]] W
      fun e w' => e = .returned (.int .i64 (n - 1)) ∧ Below W.heap.size W w' := fun W hW => by
    have := keviah_index b k l W hW.glob; rwa [hn] at this
  have HC := Aside0.mk hcon
  have HK := Aside0.mk (KBox.begin HG b k l)
  clear hcon hn HG
  go_enter Tryz.func184, Tryz.ntmps184
  go_wp2_with fail
  go_region_held3 (fun W => KBox w w.heap.size b k l W ∧ W.cell? ⟨w.heap.size, 0, none⟩ = some (.int .i64 b) ∧ W.cell? ⟨w.heap.size, 1, none⟩ = some (.int .i64 k) ∧ W.cell? ⟨w.heap.size, 2, none⟩ = some (.bool l))
    (first | (have hz_ := HK.out.drew; exact ⟨hz_, hz_.c0, hz_.c1, hz_.c2⟩) | (have hz_ := KBox.step (And.left (by assumption)) hb; exact ⟨hz_, hz_.c0, hz_.c1, hz_.c2⟩))
    (first | (go_at_call 232; refine (HC.out _ (And.left (by assumption))).mono ?_; rintro e w' ⟨rfl, hb⟩))
  have hB := Aside0.mk (And.left (‹KBox w w.heap.size b k l _ ∧ _›)).below
  go_wp2
  go_ret
  exact ⟨ret_i64 (i64_plain hb0 hb1), hB.out⟩
/-- A month is put into a table that lies in block g. -/
theorem table_add (g n : Nat) (d : Int) (cs : Array Value) (w : World) (hn : n < 13) (hs : cs.size = 14) (hc : cs[13]? = some (.int .i64 n)) (hg : w.heap[g]? = some (.cells cs 153 (0, 0))) :
    Calls Tryz.prog 185 #[.pointer (some ⟨g, 0, none⟩), .int .i64 d] w
      fun e w' => e = .returned (.tuple #[]) ∧ w'.heap[g]? = some (.cells ((cs.setIfInBounds n (.int .i64 d)).setIfInBounds 13 (.int .i64 (n + 1))) 153 (0, 0)) ∧ Below g w w' := by
  have h0 : (0 : Int) ≤ n := by omega
  have h1 : (n : Int) < 13 := by omega
  have c1 : w.cell? ⟨g, 13, none⟩ = some (.int .i64 n) := (blk_cell hg 13).trans hc
  obtain ⟨v, hv⟩ : ∃ v, cs[n]? = some v := ⟨_, Array.getElem?_eq_getElem (by omega)⟩
  have c2 : w.cell? ⟨g, n, none⟩ = some v := (blk_cell hg n).trans hv
  have f2 : w.frozen? ⟨g, n, none⟩ = false := blk_frozen hg n
  have hg1 : (w.setCell ⟨g, n, none⟩ (.int .i64 d)).heap[g]? = some (.cells (cs.setIfInBounds n (.int .i64 d)) 153 (0, 0)) := blk_set hg n _
  have c3 : (w.setCell ⟨g, n, none⟩ (.int .i64 d)).cell? ⟨g, 13, none⟩ = some (.int .i64 n) := (blk_cell hg1 13).trans (by rw [Array.getElem?_setIfInBounds_ne (by omega)]; exact hc)
  have f3 : (w.setCell ⟨g, n, none⟩ (.int .i64 d)).frozen? ⟨g, 13, none⟩ = false := blk_frozen hg1 13
  have hg2 : ((w.setCell ⟨g, n, none⟩ (.int .i64 d)).setCell ⟨g, 13, none⟩ (.int .i64 (n + 1))).heap[g]? = some (.cells ((cs.setIfInBounds n (.int .i64 d)).setIfInBounds 13 (.int .i64 (n + 1))) 153 (0, 0)) := blk_set hg1 13 _
  have HG2 := Aside0.mk hg2
  clear hc hv hg hg1 hg2 hs
  go_enter Tryz.func185, Tryz.ntmps185
  go_wp2
  go_region
  go_wp2
  go_end0
  exact ⟨rfl, HG2.out, (((Below.refl g w).setCell (p := ⟨g, n, none⟩) (Nat.le_refl g) _).drew).setCell (p := ⟨g, 13, none⟩) (Nat.le_refl g) _⟩
/-- The cells of a table that holds these months. -/
def tcells (ms : List Int) : Array Value := ((ms ++ List.replicate (13 - ms.length) 0).map (fun n => Value.int .i64 n) ++ [.int .i64 ms.length]).toArray
theorem tcells_size (ms : List Int) (h : ms.length ≤ 13) : (tcells ms).size = 14 := by simp [tcells]; omega
theorem tcells_one (ms : List Int) : (tcells ms).all (·.oneCell') = true := by
  rw [Array.all_eq_true_iff_forall_mem]
  intro v hv
  simp only [tcells, List.mem_toArray, List.mem_append, List.mem_map, List.mem_singleton] at hv
  rcases hv with ⟨n, _, rfl⟩ | rfl <;> rfl
theorem tcells_last (ms : List Int) (h : ms.length ≤ 13) : (tcells ms)[13]? = some (.int .i64 ms.length) := by
  simp only [tcells, List.getElem?_toArray]
  rw [List.getElem?_append_right (by simp; omega)]
  have e : ((ms ++ List.replicate (13 - ms.length) 0).map (fun n => Value.int .i64 n)).length = 13 := by simp; omega
  rw [e]
  rfl
theorem tcells_snoc (ms : List Int) (d : Int) (h : ms.length < 13) :
    ((tcells ms).setIfInBounds ms.length (.int .i64 d)).setIfInBounds 13 (.int .i64 (ms.length + 1)) = tcells (ms ++ [d]) := by
  apply Array.ext_getElem?
  intro i
  have hs := tcells_size ms (by omega)
  by_cases h13 : i = 13
  · subst h13
    rw [Array.getElem?_setIfInBounds_self_of_lt (by rw [Array.size_setIfInBounds]; omega), tcells_last _ (by simp; omega)]
    simp
  · rw [Array.getElem?_setIfInBounds_ne (by omega)]
    by_cases hi : i = ms.length
    · subst hi
      rw [Array.getElem?_setIfInBounds_self_of_lt (by omega)]
      simp only [tcells, List.getElem?_toArray]
      rw [List.getElem?_append_left (by simp only [List.length_map, List.length_append, List.length_replicate, List.length_cons, List.length_nil]; omega)]
      simp
    · rw [Array.getElem?_setIfInBounds_ne (by omega)]
      simp only [tcells, List.getElem?_toArray]
      by_cases hl : i < 13
      · rw [List.getElem?_append_left (by simp; omega), List.getElem?_append_left (by simp only [List.length_map, List.length_append, List.length_replicate, List.length_cons, List.length_nil]; omega)]
        rw [List.getElem?_map, List.getElem?_map]
        congr 1
        by_cases hm : i < ms.length
        · rw [List.getElem?_append_left hm, List.append_assoc, List.getElem?_append_left hm]
        · rw [List.getElem?_append_right (by omega), List.getElem?_append_right (by simp; omega)]
          simp only [List.length_append, List.length_cons, List.length_nil]
          rw [List.getElem?_replicate, List.getElem?_replicate, if_pos (by omega), if_pos (by omega)]
      · rw [List.getElem?_eq_none (by simp; omega), List.getElem?_eq_none (by simp; omega)]
theorem table_add_list (g : Nat) (d : Int) (ms : List Int) (w : World) (hn : ms.length < 13) (hg : w.heap[g]? = some (.cells (tcells ms) 153 (0, 0))) :
    Calls Tryz.prog 185 #[.pointer (some ⟨g, 0, none⟩), .int .i64 d] w
      fun e w' => e = .returned (.tuple #[]) ∧ w'.heap[g]? = some (.cells (tcells (ms ++ [d])) 153 (0, 0)) ∧ Below g w w' := by
  refine (table_add g ms.length d (tcells ms) w hn (tcells_size ms (by omega)) (tcells_last ms (by omega)) hg).mono ?_
  rintro e w' ⟨he, h1, h2⟩
  exact ⟨he, (by rw [tcells_snoc ms d hn] at h1; exact h1), h2⟩
/-- An element of the months' table. -/
theorem plain_at (i : Nat) (h : i < 12) (w : World) : (Instr.index 183 (.agg plainCells) (.int .i64 i)).run Tryz.prog w = .ok (.int .i64 (Cal.plainList.getD i 0)) w := by
  rcases (by omega : i = 0 ∨ i = 1 ∨ i = 2 ∨ i = 3 ∨ i = 4 ∨ i = 5 ∨ i = 6 ∨ i = 7 ∨ i = 8 ∨ i = 9 ∨ i = 10 ∨ i = 11) with rfl | rfl | rfl | rfl | rfl | rfl | rfl | rfl | rfl | rfl | rfl | rfl <;> kernel_rfl
theorem plain_bd (i : Nat) (h : i < 12) : 29 ≤ Cal.plainList.getD i 0 ∧ Cal.plainList.getD i 0 ≤ 30 := by
  rcases (by omega : i = 0 ∨ i = 1 ∨ i = 2 ∨ i = 3 ∨ i = 4 ∨ i = 5 ∨ i = 6 ∨ i = 7 ∨ i = 8 ∨ i = 9 ∨ i = 10 ∨ i = 11) with rfl | rfl | rfl | rfl | rfl | rfl | rfl | rfl | rfl | rfl | rfl | rfl <;> simp [Cal.plainList]
theorem pre_lt (k : Int) (l : Bool) (i : Nat) (h : i < 12) : (Cal.pre k l i).length < 13 := by
  have := Cal.pre_len k l i
  split at this <;> omega
theorem pre_lt5 (k : Int) (i : Nat) (h : i = 5) : (Cal.pre k true i ++ [30]).length < 13 := by
  have := Cal.pre_len k true i
  rw [List.length_append, List.length_singleton]
  split at this <;> omega
theorem pre_five (k d : Int) (i : Nat) (h : i = 5) (hd : Cal.plainList.getD i 0 = d) : Cal.pre k true (i + 1) = Cal.pre k true i ++ [30] ++ [d] := by
  subst h
  rw [← hd]
  rfl
theorem pre_else (k d : Int) (l : Bool) (i : Nat) (h5 : ¬ (i = 5 ∧ l = true)) (h1 : ¬ (i = 1 ∧ k = 2)) (h2 : ¬ (i = 2 ∧ k = 0)) (hd : Cal.plainList.getD i 0 = d) : Cal.pre k l (i + 1) = Cal.pre k l i ++ [d] := by
  rw [Cal.pre, if_neg h5, if_neg h1, if_neg h2, hd, List.append_nil]
theorem pre_one (k d : Int) (l : Bool) (i : Nat) (h1 : i = 1) (hk : k = 2) (hd : Cal.plainList.getD i 0 = d) : Cal.pre k l (i + 1) = Cal.pre k l i ++ [d + 1] := by
  subst h1 hk
  rw [← hd]
  simp [Cal.pre, Cal.plainList]
theorem pre_two (k d : Int) (l : Bool) (i : Nat) (h1 : i = 2) (hk : k = 0) (hd : Cal.plainList.getD i 0 = d) : Cal.pre k l (i + 1) = Cal.pre k l i ++ [d - 1] := by
  subst h1 hk
  rw [← hd]
  simp [Cal.pre, Cal.plainList]
/-- What is held of the world behind the first call. -/
structure OfAt (w : World) (b k : Int) (l : Bool) (W : World) : Prop where
  below : Below w.heap.size w W
  bx : W.heap[w.heap.size]? = some (.cells #[.int .i64 b, .int .i64 k, .bool l] 93 (0, 0))
  out : W.heap[w.heap.size + 1]? = some (.cells (tcells []) 153 (0, 0))
theorem OfAt.step {w : World} {b k : Int} {l : Bool} {W W' : World} {B : Nat} (h : OfAt w b k l W) (hb : Below B W W') (hB : w.heap.size + 2 ≤ B) : OfAt w b k l W' :=
  ⟨h.below.trans (hb.mono (by omega)), (hb.block _ (by omega)).trans h.bx, (hb.block _ (by omega)).trans h.out⟩
theorem OfAt.size {w : World} {b k : Int} {l : Bool} {W : World} (h : OfAt w b k l W) : w.heap.size + 2 ≤ W.heap.size := (Array.getElem?_eq_some_iff.1 h.out).1
theorem OfAt.begin (w : World) (b k : Int) (l : Bool) :
    OfAt w b k l ((w.alloc (.cells #[.int .i64 b, .int .i64 k, .bool l] 93)).alloc (.cells #[.int .i64 0, .int .i64 0, .int .i64 0, .int .i64 0, .int .i64 0, .int .i64 0, .int .i64 0, .int .i64 0, .int .i64 0, .int .i64 0, .int .i64 0, .int .i64 0, .int .i64 0, .int .i64 0] 153)) := by
  refine ⟨((Below.refl _ _).alloc (Nat.le_refl _) _).alloc (by simp) _, ?_, ?_⟩
  · rw [Below.heap_alloc _ _ _ (by simp)]; exact heap_alloc_new w _
  · have := heap_alloc_new (w.alloc (.cells #[.int .i64 b, .int .i64 k, .bool l] 93)) (.cells #[.int .i64 0, .int .i64 0, .int .i64 0, .int .i64 0, .int .i64 0, .int .i64 0, .int .i64 0, .int .i64 0, .int .i64 0, .int .i64 0, .int .i64 0, .int .i64 0, .int .i64 0, .int .i64 0] 153)
    rw [World.size_alloc] at this
    exact this
set_option maxHeartbeats 4000000 in
set_option maxRecDepth 100000 in
theorem month_of (b k : Int) (l : Bool) (w : World) (HG : GlobT w) :
    Calls Tryz.prog 133 #[.agg #[.int .i64 b, .int .i64 k, .bool l]] w fun e w' => e = .returned (.agg (tcells (Cal.months b k l))) ∧ Below w.heap.size w w' := by
  have HA := Aside0.mk (OfAt.begin w b k l)
  by_cases hz : Cal.tyNum b k l = 0
  · have hm : Cal.months b k l = [] := by simp [Cal.months, hz]
    rw [hm]
    have HN := Aside0.mk hz
    have HGG := Aside0.mk HG
    clear hz hm HG
    go_enter Tryz.func133, Tryz.ntmps133
    go_wp2_with fail
    refine (keviah_number b k 0 l HN.out _ (HGG.out.below HA.out.below)).mono ?_
    rintro e W1 ⟨rfl, hb⟩
    have H1 := Aside0.mk (HA.out.step hb (Nat.le_of_eq (by simp)))
    clear hb HA
    go_wp2_with (first | ((refine wpList_store_row rfl 153 (.tmp 2) (.tmp 9) rfl (w.heap.size + 1) (tcells []) rfl (by rfl) 153 _ H1.out.out (by kernel_rfl) (by rfl) (tcells_one []) ?_)))
    refine bodyPost_ret (results_cell_row rfl _ _ (w.heap.size + 1) 153 (tcells []) (0, 0) _ rfl (setRow_heap _ _ _ _ _ _ H1.out.out) Tryz.underlying153 rfl (by kernel_rfl)) rfl ?_
    exact ⟨rfl, below_setRow H1.out.below (by omega) _⟩
  · have hm : Cal.months b k l = Cal.pre k l 12 := by rw [Cal.pre_all]; simp [Cal.months, hz]
    rw [hm]
    have ⟨hb0, hb1⟩ := ty_bounds b k l
    obtain ⟨n, hn⟩ : ∃ n, Cal.tyNum b k l = n := ⟨_, rfl⟩
    rw [hn] at hz hb0 hb1
    have hz1 : (n == 0) = false := by simpa using hz
    have HN := Aside0.mk hn
    have HGG := Aside0.mk HG
    clear hz hm HG hn
    go_enter Tryz.func133, Tryz.ntmps133
    go_wp2_with fail
    refine (keviah_number b k n l HN.out _ (HGG.out.below HA.out.below)).mono ?_
    rintro e W1 ⟨rfl, hb⟩
    have H1 := Aside0.mk (HA.out.step hb (Nat.le_of_eq (by simp)))
    have H2 := Aside0.mk (H1.out.step ((Below.refl W1.heap.size W1).alloc (Nat.le_refl _) (.cells #[.int .i64 0, .int .i64 0, .int .i64 0, .int .i64 0, .int .i64 0, .int .i64 0, .int .i64 0, .int .i64 0, .int .i64 0, .int .i64 0, .int .i64 0, .int .i64 0, .int .i64 0, .int .i64 0] 153)) H1.out.size)
    have H3 := Aside0.mk (show (W1.alloc (.cells #[.int .i64 0, .int .i64 0, .int .i64 0, .int .i64 0, .int .i64 0, .int .i64 0, .int .i64 0, .int .i64 0, .int .i64 0, .int .i64 0, .int .i64 0, .int .i64 0, .int .i64 0, .int .i64 0] 153)).heap[W1.heap.size]? = some (.cells (tcells []) 153 (0, 0)) from heap_alloc_new W1 _)
    have HS := Aside0.mk H1.out.size
    obtain ⟨t3, fr3, hp3⟩ := (HGG.out.below H2.out.below).plain
    have HP := Aside0.mk hp3
    clear hp3
    clear hb HA
    go_wp2_with (first | (refine wpList_load_row rfl 183 _ rfl 2 rfl t3 plainCells fr3 _ HP.out Tryz.underlying183 rfl (by kernel_rfl) ?_))
    go_loopw [11] (fun s11 wr => ∃ i : Nat, i ≤ 12 ∧ s11 = .int .i64 i ∧ Aside0 (OfAt w b k l wr) ∧ Aside0 (wr.heap[W1.heap.size]? = some (.cells (tcells (Cal.pre k l i)) 153 (0, 0)))) (fun s11 _ => 12 - (intOf s11).toNat)
    case atStart => exact ⟨0, by omega, rfl, H2, H3⟩
    case round =>
      obtain ⟨i, hi, rfl, HO, HT⟩ := hrel
      by_cases hlt : i < 12
      · obtain ⟨d, hd⟩ : ∃ d, Cal.plainList.getD i 0 = d := ⟨_, rfl⟩
        have hx : ∀ w, (Instr.index 183 (.agg plainCells) (.int .i64 i)).run Tryz.prog w = .ok (.int .i64 d) w := fun w => by rw [← hd]; exact plain_at i hlt w
        have hdb : 29 ≤ d ∧ d ≤ 30 := by rw [← hd]; exact plain_bd i hlt
        obtain ⟨hd0, hd1⟩ := hdb
        have HD := Aside0.mk hd
        have c1 : wr.cell? ⟨w.heap.size, 1, none⟩ = some (.int .i64 k) := (blk_cell HO.out.bx 1).trans rfl
        have c2 : wr.cell? ⟨w.heap.size, 2, none⟩ = some (.bool l) := (blk_cell HO.out.bx 2).trans rfl
        have hltz : (i : Int) < 12 := by omega
        have HLT := Aside0.mk hlt
        clear hd
        have hcall : ∀ (m : Int) (ms : List Int) (W : World), ms.length < 13 → W.heap[W1.heap.size]? = some (.cells (tcells ms) 153 (0, 0)) →
            Calls Tryz.prog 185 #[.pointer (some ⟨W1.heap.size, 0, none⟩), .int .i64 m] W
              fun e w' => e = .returned (.tuple #[]) ∧ w'.heap[W1.heap.size]? = some (.cells (tcells (ms ++ [m])) 153 (0, 0)) ∧ Below W1.heap.size W w' :=
          fun m ms W h1 h2 => table_add_list W1.heap.size m ms W h1 h2
        have HC := Aside0.mk hcall
        clear hcall
        by_cases h5 : i = 5
        · have e5 : ((i : Int) == 5) = true := by simp; omega
          have e1 : ((i : Int) == 1) = false := by simp; omega
          have e2 : ((i : Int) == 2) = false := by simp; omega
          have H5 := Aside0.mk h5
          clear h5
          cases l with
          | true =>
            go_wp2_with fail
            refine (HC.out 30 (Cal.pre k true i) _ (pre_lt _ _ _ HLT.out) HT.out).mono ?_
            rintro e w2 ⟨rfl, ht2, hb2⟩
            have HT2 := Aside0.mk ht2
            have HO2 := Aside0.mk (HO.out.step hb2 HS.out)
            clear ht2 hb2
            go_wp2_with fail
            refine (HC.out d (Cal.pre k true i ++ [30]) _ (pre_lt5 _ _ H5.out) HT2.out).mono ?_
            rintro e w3 ⟨rfl, ht3, hb3⟩
            have HT3 := Aside0.mk ht3
            have HO3 := Aside0.mk (HO2.out.step hb3 HS.out)
            clear ht3 hb3
            go_wp2
            go_roundw
            case measure => simp [intOf]; omega
            case rel => exact ⟨i + 1, by omega, by go_num, HO3, ⟨by rw [pre_five k d i H5.out HD.out]; exact HT3.out⟩⟩
          | false =>
            go_wp2_with fail
            refine (HC.out d (Cal.pre k false i) _ (pre_lt _ _ _ HLT.out) HT.out).mono ?_
            rintro e w3 ⟨rfl, ht3, hb3⟩
            have HT3 := Aside0.mk ht3
            have HO3 := Aside0.mk (HO.out.step hb3 HS.out)
            clear ht3 hb3
            go_wp2
            go_roundw
            case measure => simp [intOf]; omega
            case rel => exact ⟨i + 1, by omega, by go_num, HO3, ⟨by rw [pre_else k d false i (by simp) (by have := H5.out; omega) (by have := H5.out; omega) HD.out]; exact HT3.out⟩⟩
        · have e5 : ((i : Int) == 5) = false := by simp; omega
          have H5 := Aside0.mk h5
          clear h5
          by_cases h1 : i = 1
          · have e1 : ((i : Int) == 1) = true := by simp; omega
            have e2 : ((i : Int) == 2) = false := by simp; omega
            have H1i := Aside0.mk h1
            clear h1
            by_cases hk : k = 2
            · have ek : (k == 2) = true := by simp; omega
              have HK := Aside0.mk hk
              clear hk
              go_wp2_with fail
              refine (HC.out (d + 1) (Cal.pre k l i) _ (pre_lt _ _ _ HLT.out) HT.out).mono ?_
              rintro e w3 ⟨rfl, ht3, hb3⟩
              have HT3 := Aside0.mk ht3
              have HO3 := Aside0.mk (HO.out.step hb3 HS.out)
              clear ht3 hb3
              go_wp2
              go_roundw
              case measure => simp [intOf]; omega
              case rel => exact ⟨i + 1, by omega, by go_num, HO3, ⟨by rw [pre_one k d l i H1i.out HK.out HD.out]; exact HT3.out⟩⟩
            · have ek : (k == 2) = false := by simp; omega
              have HK := Aside0.mk hk
              clear hk
              go_wp2_with fail
              refine (HC.out d (Cal.pre k l i) _ (pre_lt _ _ _ HLT.out) HT.out).mono ?_
              rintro e w3 ⟨rfl, ht3, hb3⟩
              have HT3 := Aside0.mk ht3
              have HO3 := Aside0.mk (HO.out.step hb3 HS.out)
              clear ht3 hb3
              go_wp2
              go_roundw
              case measure => simp [intOf]; omega
              case rel => exact ⟨i + 1, by omega, by go_num, HO3, ⟨by rw [pre_else k d l i (fun h => H5.out h.1) (fun h => HK.out h.2) (by have := H1i.out; omega) HD.out]; exact HT3.out⟩⟩
          · have e1 : ((i : Int) == 1) = false := by simp; omega
            have H1i := Aside0.mk h1
            clear h1
            by_cases h2 : i = 2
            · have e2 : ((i : Int) == 2) = true := by simp; omega
              have H2i := Aside0.mk h2
              clear h2
              by_cases hk : k = 0
              · have ek : (k == 0) = true := by simp; omega
                have HK := Aside0.mk hk
                clear hk
                go_wp2_with fail
                refine (HC.out (d - 1) (Cal.pre k l i) _ (pre_lt _ _ _ HLT.out) HT.out).mono ?_
                rintro e w3 ⟨rfl, ht3, hb3⟩
                have HT3 := Aside0.mk ht3
                have HO3 := Aside0.mk (HO.out.step hb3 HS.out)
                clear ht3 hb3
                go_wp2
                go_roundw
                case measure => simp [intOf]; omega
                case rel => exact ⟨i + 1, by omega, by go_num, HO3, ⟨by rw [pre_two k d l i H2i.out HK.out HD.out]; exact HT3.out⟩⟩
              · have ek : (k == 0) = false := by simp; omega
                have HK := Aside0.mk hk
                clear hk
                go_wp2_with fail
                refine (HC.out d (Cal.pre k l i) _ (pre_lt _ _ _ HLT.out) HT.out).mono ?_
                rintro e w3 ⟨rfl, ht3, hb3⟩
                have HT3 := Aside0.mk ht3
                have HO3 := Aside0.mk (HO.out.step hb3 HS.out)
                clear ht3 hb3
                go_wp2
                go_roundw
                case measure => simp [intOf]; omega
                case rel => exact ⟨i + 1, by omega, by go_num, HO3, ⟨by rw [pre_else k d l i (fun h => H5.out h.1) (fun h => H1i.out h.1) (fun h => HK.out h.2) HD.out]; exact HT3.out⟩⟩
            · have e2 : ((i : Int) == 2) = false := by simp; omega
              have H2i := Aside0.mk h2
              clear h2
              go_wp2_with fail
              refine (HC.out d (Cal.pre k l i) _ (pre_lt _ _ _ HLT.out) HT.out).mono ?_
              rintro e w3 ⟨rfl, ht3, hb3⟩
              have HT3 := Aside0.mk ht3
              have HO3 := Aside0.mk (HO.out.step hb3 HS.out)
              clear ht3 hb3
              go_wp2
              go_roundw
              case measure => simp [intOf]; omega
              case rel => exact ⟨i + 1, by omega, by go_num, HO3, ⟨by rw [pre_else k d l i (fun h => H5.out h.1) (fun h => H1i.out h.1) (fun h => H2i.out h.1) HD.out]; exact HT3.out⟩⟩
      · obtain rfl : i = 12 := by omega
        have hlen : (Cal.pre k l 12).length ≤ 13 := by have := Cal.pre_len k l 12; split at this <;> omega
        have hs14 := tcells_size _ hlen
        obtain ⟨cs, hcs⟩ : ∃ cs, tcells (Cal.pre k l 12) = cs := ⟨_, rfl⟩
        have hone : cs.all (·.oneCell') = true := by rw [← hcs]; exact tcells_one _
        have HT2 : Aside0 (wr.heap[W1.heap.size]? = some (.cells cs 153 (0, 0))) := ⟨by rw [← hcs]; exact HT.out⟩
        rw [hcs] at hs14
        have HS14 := Aside0.mk hs14
        have HCS := Aside0.mk hcs
        have HONE := Aside0.mk hone
        have hi14 : (Tryz.prog.info? 153).map (·.size) = some 14 := by kernel_rfl
        have HI := Aside0.mk (show (Tryz.prog.info? 153).map (·.size) = some cs.size by rw [hs14]; exact hi14)
        clear hlen hs14 hcs hone hi14
        go_wp2_with (first | (refine wpList_load_row rfl 153 (.tmp 3) rfl W1.heap.size rfl 153 cs (0, 0) _ HT2.out Tryz.underlying153 rfl HI.out ?_) | (refine wpList_store_row rfl 153 (.tmp 2) (.tmp 45) rfl (w.heap.size + 1) cs rfl (by rfl) 153 _ HO.out.out HI.out (by rw [HS14.out]; rfl) HONE.out ?_))
        refine bodyPost_ret (results_cell_row rfl _ _ (w.heap.size + 1) 153 cs (0, 0) _ rfl (setRow_heap _ _ _ _ _ _ HO.out.out) Tryz.underlying153 rfl HI.out) rfl ?_
        exact ⟨by rw [HCS.out], below_setRow HO.out.below (by omega) _⟩
end Go.Proofs.YtflpddhoiafhcaaGreatDoor.H
end

section
/- The contract of the program's function behind the hole 'month_Days', by a walk over its text. -/
namespace Go.Proofs.YtflpddhoiafhcaaGreatDoor.H
open Go.RowKit Go.Proofs.YtflpddhoiafhcaaGreatDoorW.PrintWords Go.Proofs.YtflpddhoiafhcaaGreatDoorW.PrintLast Go.Proofs.YtflpddhoiafhcaaGreatDoorW.PrintMore
attribute [local go_sem] max2_int min2_int max_two min_two max_three min_three max_four min_four
set_option linter.unusedVariables false
set_option linter.unusedSimpArgs false
theorem table_has (cs : Array Value) (n m : Int) (r : Bool) (hr : decide (0 < m ∧ m ≤ n) = r) (hc : cs[13]? = some (.int .i64 n)) (w : World) :
    Calls Tryz.prog 134 #[.agg cs, .int .i64 m] w fun e w' => e = .returned (.bool r) ∧ Below w.heap.size w w' := by
  have hg := heap_alloc_new w (.cells cs 153)
  have c1 : (w.alloc (.cells cs 153)).cell? ⟨w.heap.size, 13, none⟩ = some (.int .i64 n) := (blk_cell hg 13).trans hc
  clear hg hc
  by_cases h0 : 0 < m
  · have e0 : decide (0 < m) = true := by simp; omega
    by_cases h1 : m ≤ n
    · have e1 : decide (m ≤ n) = true := by simp; omega
      obtain rfl : r = true := by rw [← hr]; simp; omega
      clear hr
      go_enter Tryz.func134, Tryz.ntmps134
      go_wp2
      go_ret
      exact ⟨rfl, (Below.refl _ _).alloc (Nat.le_refl _) _⟩
    · have e1 : decide (m ≤ n) = false := by simp; omega
      obtain rfl : r = false := by rw [← hr]; simp; omega
      clear hr
      go_enter Tryz.func134, Tryz.ntmps134
      go_wp2
      go_ret
      exact ⟨rfl, (Below.refl _ _).alloc (Nat.le_refl _) _⟩
  · have e0 : decide (0 < m) = false := by simp; omega
    obtain rfl : r = false := by rw [← hr]; simp; omega
    clear hr
    go_enter Tryz.func134, Tryz.ntmps134
    go_wp2
    go_ret
    exact ⟨rfl, (Below.refl _ _).alloc (Nat.le_refl _) _⟩
theorem months_len (b k : Int) (l : Bool) : (Cal.months b k l).length ≤ 13 := by
  unfold Cal.months Cal.lens
  split <;> simp
  split <;> simp
theorem tcells_at (ms : List Int) (h : ms.length ≤ 13) (i : Nat) (hi : i < 13) : (tcells ms)[i]? = some (.int .i64 (ms.getD i 0)) := by
  simp only [tcells, List.getElem?_toArray]
  rw [List.getElem?_append_left (by simp; omega), List.getElem?_map]
  by_cases hm : i < ms.length
  · rw [List.getElem?_append_left hm, List.getElem?_eq_getElem hm]; simp [hm]
  · rw [List.getElem?_append_right (by omega), List.getElem?_replicate, if_pos (by omega)]
    simp [List.getElem?_eq_none (Nat.le_of_not_lt hm)]
def month_Days.f (a0_0 : Int) (a0_1 : Int) (a0_2 : Bool) (a1 : Int) : Option (Int) := if -9223372036854775808 ≤ a1 ∧ a1 ≤ 9223372036854775807 then some (Cal.mdays a0_0 a0_1 a0_2 a1) else none
/-- A table's cells, as the walks take them. -/
structure Tab (ms : List Int) (cs : Array Value) : Prop where
  size : cs.size = 14
  one : cs.all (·.oneCell') = true
  last : cs[13]? = some (.int .i64 ms.length)
  info : (Tryz.prog.info? 153).map (·.size) = some cs.size
  at_ : ∀ i, i < 13 → cs[i]? = some (.int .i64 (ms.getD i 0))
theorem Tab.of (ms : List Int) (h : ms.length ≤ 13) : Tab ms (tcells ms) :=
  ⟨tcells_size ms h, tcells_one ms, tcells_last ms h, by rw [tcells_size ms h]; kernel_rfl, tcells_at ms h⟩
/-- The world behind the call of 'of': its table laid in a block. -/
structure TabAt (w : World) (g : Nat) (cs : Array Value) (W : World) : Prop where
  below : Below w.heap.size w W
  ge : w.heap.size ≤ g
  tab : W.heap[g]? = some (.cells cs 153 (0, 0))
theorem TabAt.step {w : World} {g : Nat} {cs : Array Value} {W W' : World} (h : TabAt w g cs W) (hb : Below W.heap.size W W') : TabAt w g cs W' :=
  ⟨h.below.trans (hb.mono h.below.size), h.ge, (hb.block g (blk_lt h.tab)).trans h.tab⟩
theorem TabAt.begin {w W1 : World} (cs : Array Value) (hb : Below w.heap.size w W1) :
    TabAt w W1.heap.size cs ((W1.alloc (.cells #[.int .i64 0, .int .i64 0, .int .i64 0, .int .i64 0, .int .i64 0, .int .i64 0, .int .i64 0, .int .i64 0, .int .i64 0, .int .i64 0, .int .i64 0, .int .i64 0, .int .i64 0, .int .i64 0] 153)).setRow W1.heap.size cs) :=
  ⟨below_setRow (hb.alloc hb.size _) hb.size _, hb.size, setRow_heap _ _ _ _ _ _ (heap_alloc_new W1 _)⟩
theorem days_of (b k m r : Int) (l : Bool) (hm1 : -9223372036854775808 ≤ m) (hm2 : m ≤ 9223372036854775807) (hr : Cal.mdays b k l m = r) (w : World) (HG : GlobT w) :
    Calls Tryz.prog 102 #[.agg #[.int .i64 b, .int .i64 k, .bool l], .int .i64 m] w fun e w' => e = .returned (.int .i64 r) ∧ Below w.heap.size w w' := by
  have HK := Aside0.mk (KBox.begin HG b k l)
  have hml := months_len b k l
  have hof := fun W h => month_of b k l W h
  unfold Cal.mdays at hr
  generalize Cal.months b k l = ms at hml hof hr
  have hT := Tab.of ms hml
  generalize tcells ms = cs at hT hof
  have HT := Aside0.mk hT
  have HOF := Aside0.mk hof
  have HR := Aside0.mk hr
  have HL := Aside0.mk hml
  clear hml hof hT hr HG
  by_cases hc : 0 < m ∧ m ≤ (ms.length : Int)
  · obtain ⟨i, rfl⟩ : ∃ i : Nat, m = i + 1 := ⟨(m - 1).toNat, by omega⟩
    have HC := Aside0.mk hc
    have hi13 : (i : Int) < 13 := by have := HL.out; omega
    have hi0 : (0 : Int) ≤ i := by omega
    clear hc
    go_enter Tryz.func102, Tryz.ntmps102
    go_wp2_with fail
    refine (HOF.out _ HK.out.glob).mono ?_
    rintro e W1 ⟨rfl, hb⟩
    have HA := Aside0.mk (TabAt.begin cs (HK.out.step hb).below)
    clear hb
    go_wp2_with (first | (refine wpList_store_row rfl 153 (.tmp 5) (.tmp 7) rfl W1.heap.size cs rfl rfl 153 _ (heap_alloc_new W1 _) HT.out.info (by rw [HT.out.size]; rfl) HT.out.one ?_; generalize e2 : (W1.alloc (.cells #[.int .i64 0, .int .i64 0, .int .i64 0, .int .i64 0, .int .i64 0, .int .i64 0, .int .i64 0, .int .i64 0, .int .i64 0, .int .i64 0, .int .i64 0, .int .i64 0, .int .i64 0, .int .i64 0] 153)).setRow W1.heap.size cs = W2 at HA ⊢; clear e2) | (refine wpList_load_row rfl 153 (.tmp 5) rfl W1.heap.size rfl 153 cs (0, 0) _ HA.out.tab Tryz.underlying153 rfl HT.out.info ?_))
    refine (table_has cs ms.length (i + 1) true (by simpa using HC.out) HT.out.last _).mono ?_
    rintro e W3 ⟨rfl, hb⟩
    have HA3 := Aside0.mk (HA.out.step hb)
    have c : W3.cell? ⟨W1.heap.size, i, none⟩ = some (.int .i64 r) := by
      rw [blk_cell HA3.out.tab, HT.out.at_ i (by omega), ← HR.out, if_pos HC.out, show ((i : Int) + 1 - 1).toNat = i by omega]
    clear hb
    go_wp2
    go_ret
    exact ⟨rfl, HA3.out.below⟩
  · have HC := Aside0.mk hc
    obtain rfl : r = 0 := by rw [← HR.out, if_neg HC.out]
    clear hc
    go_enter Tryz.func102, Tryz.ntmps102
    go_wp2_with fail
    refine (HOF.out _ HK.out.glob).mono ?_
    rintro e W1 ⟨rfl, hb⟩
    have HA := Aside0.mk (TabAt.begin cs (HK.out.step hb).below)
    clear hb
    go_wp2_with (first | (refine wpList_store_row rfl 153 (.tmp 5) (.tmp 7) rfl W1.heap.size cs rfl rfl 153 _ (heap_alloc_new W1 _) HT.out.info (by rw [HT.out.size]; rfl) HT.out.one ?_; generalize e2 : (W1.alloc (.cells #[.int .i64 0, .int .i64 0, .int .i64 0, .int .i64 0, .int .i64 0, .int .i64 0, .int .i64 0, .int .i64 0, .int .i64 0, .int .i64 0, .int .i64 0, .int .i64 0, .int .i64 0, .int .i64 0] 153)).setRow W1.heap.size cs = W2 at HA ⊢; clear e2) | (refine wpList_load_row rfl 153 (.tmp 5) rfl W1.heap.size rfl 153 cs (0, 0) _ HA.out.tab Tryz.underlying153 rfl HT.out.info ?_))
    refine (table_has cs ms.length m false (by simpa using HC.out) HT.out.last _).mono ?_
    rintro e W3 ⟨rfl, hb⟩
    have HA3 := Aside0.mk (HA.out.step hb)
    clear hb
    go_wp2
    go_ret
    exact ⟨rfl, HA3.out.below⟩
theorem month_Days.calls (a0_0 : Int) (a0_1 : Int) (a0_2 : Bool) (a1 : Int) (r : Int) (w : World) (HG : GlobT w) (h : month_Days.f a0_0 a0_1 a0_2 a1 = some r) :
    Calls Tryz.prog 102 #[.agg #[.int .i64 a0_0, .int .i64 a0_1, .bool a0_2], .int .i64 a1] w fun e w' => e = .returned (.int .i64 r) ∧ Below w.heap.size w w' := by
  unfold month_Days.f at h
  split at h
  · rename_i hc
    exact days_of a0_0 a0_1 a1 r a0_2 hc.1 hc.2 (Option.some.inj h) w HG
  · cases h
end Go.Proofs.YtflpddhoiafhcaaGreatDoor.H
end

section
/- The contract of the program's function behind the hole 'month_Ahead', by a walk over its text. -/
namespace Go.Proofs.YtflpddhoiafhcaaGreatDoor.H
open Go.RowKit Go.Proofs.YtflpddhoiafhcaaGreatDoorW.PrintWords Go.Proofs.YtflpddhoiafhcaaGreatDoorW.PrintLast Go.Proofs.YtflpddhoiafhcaaGreatDoorW.PrintMore
attribute [local go_sem] max2_int min2_int max_two min_two max_three min_three max_four min_four
set_option linter.unusedVariables false
set_option linter.unusedSimpArgs false
theorem months_mem (b k : Int) (l : Bool) : ∀ n ∈ Cal.months b k l, 29 ≤ n ∧ n ≤ 30 := by
  unfold Cal.months Cal.lens
  split
  · intro n h; cases h
  · intro n h
    cases l <;> by_cases h2 : k = 2 <;> by_cases h0 : k = 0 <;> simp [h2, h0] at h <;> omega
theorem take_sum_bd : ∀ (ms : List Int), (∀ n ∈ ms, 29 ≤ n ∧ n ≤ 30) → ∀ j, 0 ≤ (ms.take j).sum ∧ (ms.take j).sum ≤ 30 * (j : Int)
  | [], _, j => by simp; omega
  | n :: r, h, 0 => by simp
  | n :: r, h, j + 1 => by
    have h1 := h n (by simp)
    have h2 := take_sum_bd r (fun x hx => h x (by simp [hx])) j
    simp only [List.take_succ_cons, List.sum_cons]
    omega
theorem take_sum_succ (ms : List Int) (j : Nat) : (ms.take (j + 1)).sum = (ms.take j).sum + ms.getD j 0 := by
  by_cases h : j < ms.length
  · rw [List.take_succ_eq_append_getElem h, List.sum_append]
    simp [h]
  · rw [List.take_of_length_le (by omega), List.take_of_length_le (by omega)]
    simp [List.getElem?_eq_none (Nat.le_of_not_lt h)]
theorem getD_bd (ms : List Int) (h : ∀ n ∈ ms, 29 ≤ n ∧ n ≤ 30) (j : Nat) : 0 ≤ ms.getD j 0 ∧ ms.getD j 0 ≤ 30 := by
  by_cases hj : j < ms.length
  · have := h ms[j] (List.getElem_mem hj)
    simp [hj]; omega
  · simp [List.getElem?_eq_none (Nat.le_of_not_lt hj)]
theorem table_slice (g : Nat) (i : Nat) (hi : i ≤ 13) (W : World) : (Instr.sliceAt 151 (.pointer (some ⟨g, 0, none⟩)) none (some (.int .i64 i)) none).run Tryz.prog W = .ok (.slice (some ⟨g, 0, none⟩) i 13) W := by
  have hl : Tryz.prog.arrayLen 151 = 13 := by kernel_rfl
  have he : Tryz.prog.elem 151 = 3 := by kernel_rfl
  rw [run_sliceAt_array_h W 151 _ (by kernel_rfl) .i64 i (by omega) (by rw [hl]; omega), he, Tryz.sizeOf3]
  simp [slicedAt, hl, Result.andThen]
  rfl
def month_Ahead.f (a0_0 : Int) (a0_1 : Int) (a0_2 : Bool) (a1 : Int) : Option (Int) := if -9223372036854775808 ≤ a1 ∧ a1 ≤ 9223372036854775807 then some (Cal.mahead a0_0 a0_1 a0_2 a1) else none
set_option maxHeartbeats 4000000 in
set_option maxRecDepth 100000 in
theorem ahead_of (b k m r : Int) (l : Bool) (hm1 : -9223372036854775808 ≤ m) (hm2 : m ≤ 9223372036854775807) (hr : Cal.mahead b k l m = r) (w : World) (HG : GlobT w) :
    Calls Tryz.prog 81 #[.agg #[.int .i64 b, .int .i64 k, .bool l], .int .i64 m] w fun e w' => e = .returned (.int .i64 r) ∧ Below w.heap.size w w' := by
  have HK := Aside0.mk (KBox.begin HG b k l)
  have hml := months_len b k l
  have hmb := months_mem b k l
  have hof := fun W h => month_of b k l W h
  unfold Cal.mahead at hr
  generalize Cal.months b k l = ms at hml hof hr hmb
  have hT := Tab.of ms hml
  generalize tcells ms = cs at hT hof
  have HT := Aside0.mk hT
  have HOF := Aside0.mk hof
  have HR := Aside0.mk hr
  have HL := Aside0.mk hml
  have HM := Aside0.mk hmb
  clear hml hof hT hr HG hmb
  by_cases hc : 0 < m ∧ m ≤ (ms.length : Int)
  · obtain ⟨i, rfl⟩ : ∃ i : Nat, m = i + 1 := ⟨(m - 1).toNat, by omega⟩
    have HC := Aside0.mk hc
    have hi13 : (i : Int) < 13 := by have := HL.out; omega
    have hi0 : (0 : Int) ≤ i := by omega
    have HRR := Aside0.mk (show (ms.take i).sum = r by rw [← HR.out, if_pos hc, show ((i : Int) + 1 - 1).toNat = i by omega])
    clear hc
    go_enter Tryz.func81, Tryz.ntmps81
    go_wp2_with fail
    refine (HOF.out _ HK.out.glob).mono ?_
    rintro e W1 ⟨rfl, hb⟩
    have HA := Aside0.mk (TabAt.begin cs (HK.out.step hb).below)
    clear hb
    go_wp2_with (first | (refine wpList_store_row rfl 153 (.tmp 5) (.tmp 10) rfl W1.heap.size cs rfl rfl 153 _ (heap_alloc_new W1 _) HT.out.info (by rw [HT.out.size]; rfl) HT.out.one ?_; generalize e2 : (W1.alloc (.cells #[.int .i64 0, .int .i64 0, .int .i64 0, .int .i64 0, .int .i64 0, .int .i64 0, .int .i64 0, .int .i64 0, .int .i64 0, .int .i64 0, .int .i64 0, .int .i64 0, .int .i64 0, .int .i64 0] 153)).setRow W1.heap.size cs = W2 at HA ⊢; clear e2) | (refine wpList_load_row rfl 153 (.tmp 5) rfl W1.heap.size rfl 153 cs (0, 0) _ HA.out.tab Tryz.underlying153 rfl HT.out.info ?_))
    refine (table_has cs ms.length (i + 1) true (by simpa using HC.out) HT.out.last _).mono ?_
    rintro e W3 ⟨rfl, hb⟩
    have HA3 := Aside0.mk (HA.out.step hb)
    clear hb
    have hsl : ∀ W, (Instr.sliceAt 151 (.pointer (some ⟨W1.heap.size, 0, none⟩)) none (some (.int .i64 i)) none).run Tryz.prog W = .ok (.slice (some ⟨W1.heap.size, 0, none⟩) i 13) W := table_slice _ i (by omega)
    go_wp2_with fail
    go_loop [6, 20] (fun s6 s20 => ∃ j : Nat, j ≤ i ∧ s20 = .int .i64 j ∧ s6 = .int .i64 (ms.take j).sum) (fun _ s20 => i - (intOf s20).toNat)
    case atStart => exact ⟨0, by omega, rfl, by simp⟩
    case round =>
      obtain ⟨j, hj, rfl, rfl⟩ := hrel
      have hb1 := take_sum_bd ms HM.out j
      have hb2 := getD_bd ms HM.out j
      have hsu := take_sum_succ ms j
      obtain ⟨S, hS⟩ : ∃ S, (ms.take j).sum = S := ⟨_, rfl⟩
      obtain ⟨d, hd⟩ : ∃ d, ms.getD j 0 = d := ⟨_, rfl⟩
      rw [hS] at hb1
      rw [hd] at hb2
      rw [hS, hd] at hsu
      have HSU := Aside0.mk hsu
      have HSS := Aside0.mk hS
      rw [hS]
      obtain ⟨hb1a, hb1b⟩ := hb1
      obtain ⟨hb2a, hb2b⟩ := hb2
      have hj13 : (j : Int) ≤ 12 := by omega
      by_cases hlt : j < i
      · have c : W3.cell? ⟨W1.heap.size, j, none⟩ = some (.int .i64 d) := by
          rw [blk_cell HA3.out.tab, HT.out.at_ j (by omega), hd]
        clear hsu hS hd
        go_wp2
        go_round
        case measure => simp [intOf]; omega
        case rel => exact ⟨j + 1, by omega, by go_num, by rw [HSU.out]⟩
      · obtain rfl : j = i := by omega
        have HE := Aside0.mk (hS.symm.trans HRR.out)
        clear hsu hS hd
        go_wp2
        go_ret
        exact ⟨ret_i64 HE.out, HA3.out.below⟩
  · have HC := Aside0.mk hc
    obtain rfl : r = 0 := by rw [← HR.out, if_neg HC.out]
    clear hc
    go_enter Tryz.func81, Tryz.ntmps81
    go_wp2_with fail
    refine (HOF.out _ HK.out.glob).mono ?_
    rintro e W1 ⟨rfl, hb⟩
    have HA := Aside0.mk (TabAt.begin cs (HK.out.step hb).below)
    clear hb
    go_wp2_with (first | (refine wpList_store_row rfl 153 (.tmp 5) (.tmp 10) rfl W1.heap.size cs rfl rfl 153 _ (heap_alloc_new W1 _) HT.out.info (by rw [HT.out.size]; rfl) HT.out.one ?_; generalize e2 : (W1.alloc (.cells #[.int .i64 0, .int .i64 0, .int .i64 0, .int .i64 0, .int .i64 0, .int .i64 0, .int .i64 0, .int .i64 0, .int .i64 0, .int .i64 0, .int .i64 0, .int .i64 0, .int .i64 0, .int .i64 0] 153)).setRow W1.heap.size cs = W2 at HA ⊢; clear e2) | (refine wpList_load_row rfl 153 (.tmp 5) rfl W1.heap.size rfl 153 cs (0, 0) _ HA.out.tab Tryz.underlying153 rfl HT.out.info ?_))
    refine (table_has cs ms.length m false (by simpa using HC.out) HT.out.last _).mono ?_
    rintro e W3 ⟨rfl, hb⟩
    have HA3 := Aside0.mk (HA.out.step hb)
    clear hb
    go_wp2
    go_ret
    exact ⟨rfl, HA3.out.below⟩
theorem month_Ahead.calls (a0_0 : Int) (a0_1 : Int) (a0_2 : Bool) (a1 : Int) (r : Int) (w : World) (HG : GlobT w) (h : month_Ahead.f a0_0 a0_1 a0_2 a1 = some r) :
    Calls Tryz.prog 81 #[.agg #[.int .i64 a0_0, .int .i64 a0_1, .bool a0_2], .int .i64 a1] w fun e w' => e = .returned (.int .i64 r) ∧ Below w.heap.size w w' := by
  unfold month_Ahead.f at h
  split at h
  · rename_i hc
    exact ahead_of a0_0 a0_1 a1 r a0_2 hc.1 hc.2 (Option.some.inj h) w HG
  · cases h
end Go.Proofs.YtflpddhoiafhcaaGreatDoor.H
end

section
/- The contract of the program's function behind the hole 'month_Find', by a walk over its text. -/
namespace Go.Proofs.YtflpddhoiafhcaaGreatDoor.H
open Go.RowKit Go.Proofs.YtflpddhoiafhcaaGreatDoorW.PrintWords Go.Proofs.YtflpddhoiafhcaaGreatDoorW.PrintLast Go.Proofs.YtflpddhoiafhcaaGreatDoorW.PrintMore
attribute [local go_sem] max2_int min2_int max_two min_two max_three min_three max_four min_four
set_option linter.unusedVariables false
set_option linter.unusedSimpArgs false
def month_Find.f (a0_0 : Int) (a0_1 : Int) (a0_2 : Bool) (a1 : Int) : Option (Int × Int × Bool) := if -9223372036854775808 ≤ a1 ∧ a1 ≤ 9223372036854775807 then some (Cal.mfind a0_0 a0_1 a0_2 a1) else none
theorem drop_getD (ms : List Int) (j : Nat) (h : j < ms.length) : ms.drop j = ms.getD j 0 :: ms.drop (j + 1) := by
  rw [List.drop_eq_getElem_cons h]
  simp [h]
theorem ret_find {a b a' b' : Int} {c c' : Bool} (h : (a, b, c) = (a', b', c')) : Ending.returned (.tuple #[.int .i64 a, .int .i64 b, .bool c]) = .returned (.tuple #[.int .i64 a', .int .i64 b', .bool c']) := by
  simp only [Prod.mk.injEq] at h
  rw [h.1, h.2.1, h.2.2]
set_option maxHeartbeats 4000000 in
set_option maxRecDepth 100000 in
theorem find_of (b k m r1 r2 : Int) (r3 l : Bool) (hm1 : -9223372036854775808 ≤ m) (hm2 : m ≤ 9223372036854775807) (hr : Cal.mfind b k l m = (r1, r2, r3)) (w : World) (HG : GlobT w) :
    Calls Tryz.prog 94 #[.agg #[.int .i64 b, .int .i64 k, .bool l], .int .i64 m] w fun e w' => e = .returned (.tuple #[.int .i64 r1, .int .i64 r2, .bool r3]) ∧ Below w.heap.size w w' := by
  have HK := Aside0.mk (KBox.begin HG b k l)
  have hml := months_len b k l
  have hmb := months_mem b k l
  have hof := fun W h => month_of b k l W h
  unfold Cal.mfind at hr
  generalize Cal.months b k l = ms at hml hof hr hmb
  have hT := Tab.of ms hml
  generalize tcells ms = cs at hT hof
  obtain ⟨L, hL⟩ : ∃ L, ms.length = L := ⟨_, rfl⟩
  rw [hL] at hml
  have HT := Aside0.mk hT
  have HOF := Aside0.mk hof
  have HR := Aside0.mk hr
  have HL := Aside0.mk hL
  have HM := Aside0.mk hmb
  have HLAST := Aside0.mk (show cs[13]? = some (.int .i64 L) by rw [← hL]; exact hT.last)
  have hL13 : (L : Int) ≤ 13 := by omega
  clear hof hT hr HG hmb hL
  go_enter Tryz.func94, Tryz.ntmps94
  go_wp2_with fail
  refine (HOF.out _ HK.out.glob).mono ?_
  rintro e W1 ⟨rfl, hb⟩
  have HA := Aside0.mk (TabAt.begin cs (HK.out.step hb).below)
  have hsl : ∀ W, (Instr.sliceAt 151 (.pointer (some ⟨W1.heap.size, 0, none⟩)) none (some (.int .i64 L)) none).run Tryz.prog W = .ok (.slice (some ⟨W1.heap.size, 0, none⟩) L 13) W := table_slice _ L hml
  clear hb
  go_wp2_with (first | (refine wpList_store_row rfl 153 (.tmp 7) (.tmp 11) rfl W1.heap.size cs rfl rfl 153 _ (heap_alloc_new W1 _) HT.out.info (by rw [HT.out.size]; rfl) HT.out.one ?_; have c13 := (blk_cell HA.out.tab 13).trans HLAST.out; generalize e2 : (W1.alloc (.cells #[.int .i64 0, .int .i64 0, .int .i64 0, .int .i64 0, .int .i64 0, .int .i64 0, .int .i64 0, .int .i64 0, .int .i64 0, .int .i64 0, .int .i64 0, .int .i64 0, .int .i64 0, .int .i64 0] 153)).setRow W1.heap.size cs = W2 at HA c13 ⊢; clear e2))
  go_loop [1, 17] (fun s1 s17 => ∃ (j : Nat) (n : Int), j ≤ L ∧ s17 = .int .i64 j ∧ s1 = .int .i64 n ∧ -9223372036854775808 ≤ n ∧ n ≤ 9223372036854775807 ∧ Aside0 (Cal.findIn (ms.drop j) j n = (r1, r2, r3))) (fun _ s17 => L - (intOf s17).toNat)
  case atStart => exact ⟨0, m, by omega, rfl, rfl, hm1, hm2, ⟨HR.out⟩⟩
  case round =>
    obtain ⟨j, n, hj, rfl, rfl, hn1, hn2, HF⟩ := hrel
    have hb2 := getD_bd ms HM.out j
    obtain ⟨d, hd⟩ : ∃ d, ms.getD j 0 = d := ⟨_, rfl⟩
    rw [hd] at hb2
    obtain ⟨hb2a, hb2b⟩ := hb2
    by_cases hlt : j < L
    · have HFD := Aside0.mk (show Cal.findIn (d :: ms.drop (j + 1)) j n = (r1, r2, r3) by rw [← hd, ← drop_getD ms j (by have := HL.out; omega)]; exact HF.out)
      have c : W2.cell? ⟨W1.heap.size, j, none⟩ = some (.int .i64 d) := by
        rw [blk_cell HA.out.tab, HT.out.at_ j (by omega), hd]
      clear hd HF
      by_cases h1 : n < 1
      · have HE := Aside0.mk (show ((0 : Int), (0 : Int), false) = (r1, r2, r3) by rw [← HFD.out, Cal.findIn, if_pos h1])
        have hb1 : decide (n < 1) = true := by simp; omega
        go_wp2
        go_ret3
        exact ⟨ret_find HE.out, HA.out.below⟩
      · have hb1 : decide (n < 1) = false := by simp; omega
        by_cases h2 : n ≤ d
        · have HE := Aside0.mk (show ((j : Int) + 1, n, true) = (r1, r2, r3) by rw [← HFD.out, Cal.findIn, if_neg h1, if_pos h2])
          have hb3 : decide (n ≤ d) = true := by simp; omega
          go_wp2
          go_ret3
          exact ⟨ret_find HE.out, HA.out.below⟩
        · have HE := Aside0.mk (show Cal.findIn (ms.drop (j + 1)) ((j + 1 : Nat) : Int) (n - d) = (r1, r2, r3) by rw [← HFD.out, Cal.findIn, if_neg h1, if_neg h2]; rfl)
          have hb3 : decide (n ≤ d) = false := by simp; omega
          go_wp2
          go_round
          case measure => simp [intOf]; omega
          case rel => exact ⟨j + 1, n - d, by omega, by go_num, rfl, by omega, by omega, HE⟩
    · obtain rfl : j = L := by omega
      have HE := Aside0.mk (show ((0 : Int), (0 : Int), false) = (r1, r2, r3) by rw [← HF.out, List.drop_of_length_le (by have := HL.out; omega)]; rfl)
      clear hd
      go_wp2
      go_ret3
      exact ⟨ret_find HE.out, HA.out.below⟩
theorem month_Find.calls (a0_0 : Int) (a0_1 : Int) (a0_2 : Bool) (a1 : Int) (r1 : Int) (r2 : Int) (r3 : Bool) (w : World) (HG : GlobT w) (h : month_Find.f a0_0 a0_1 a0_2 a1 = some (r1, r2, r3)) :
    Calls Tryz.prog 94 #[.agg #[.int .i64 a0_0, .int .i64 a0_1, .bool a0_2], .int .i64 a1] w fun e w' => e = .returned (.tuple #[.int .i64 r1, .int .i64 r2, .bool r3]) ∧ Below w.heap.size w w' := by
  unfold month_Find.f at h
  split at h
  · rename_i hc
    exact find_of a0_0 a0_1 a1 r1 r2 r3 a0_2 hc.1 hc.2 (Option.some.inj h) w HG
  · cases h
end Go.Proofs.YtflpddhoiafhcaaGreatDoor.H
end

section
/- A call of a function value that lies in a temporary and captures nothing; and of a struct's function value: the words for a walk. -/
namespace Go.Proofs.YtflpddhoiafhcaaGreatDoorW.PrintWords
section
variable {P : Program} {ops : Array Oper} {rest : List Oper} {o : Oper} {a : Act} {Q : Exit → Act → World → Prop} {W : World}
end
end Go.Proofs.YtflpddhoiafhcaaGreatDoorW.PrintWords
end

section
/- The contract of the program's function behind the hole 'sort_Search', by a walk over its text. -/
namespace Go.Proofs.YtflpddhoiafhcaaGreatDoor.H
open Go.RowKit Go.Proofs.YtflpddhoiafhcaaGreatDoorW.PrintWords Go.Proofs.YtflpddhoiafhcaaGreatDoorW.PrintLast Go.Proofs.YtflpddhoiafhcaaGreatDoorW.PrintMore
attribute [local go_sem] max2_int min2_int max_two min_two max_three min_three max_four min_four
set_option linter.unusedVariables false
set_option linter.unusedSimpArgs false
/-- Binary search: the least number from i on, below j, at which B says true; or j. -/
def searchB (B : Int → Option Bool) : Nat → Int → Int → Option Int
  | 0, _, _ => none
  | k + 1, i, j => if i < j then (B ((i + j) / 2)).bind fun b => if b = true then searchB B k i ((i + j) / 2) else searchB B k ((i + j) / 2 + 1) j else some i
set_option maxHeartbeats 4000000 in
set_option maxRecDepth 100000 in
theorem sort_search (B : Int → Option Bool) (c : Nat) (ad : Addr) (N r : Int) (k0 : Nat) (hN0 : 0 ≤ N) (hN1 : N ≤ 20000) (w : World) (hc : ∀ args W, (callFunc c args).run Tryz.prog W = .ok (.enter c args) W)
    (hp : ∀ W h b, Below w.heap.size w W → B h = some b → 0 ≤ h → h < N → Calls Tryz.prog c #[.int .i64 h, .pointer (some ad)] W fun e w' => e = .returned (.bool b) ∧ Below W.heap.size W w') (hr : searchB B k0 0 N = some r) :
    Calls Tryz.prog 140 #[.int .i64 N, .func (.func c) #[] #[.pointer (some ad)]] w fun e w' => e = .returned (.int .i64 r) ∧ Below w.heap.size w w' := by
  have HP := Aside0.mk hp
  have HR := Aside0.mk hr
  have HC := Aside0.mk hc
  clear hp hr hc
  go_enter Tryz.func140, Tryz.ntmps140
  go_wp2_with fail
  go_loopw [5, 6] (fun s5 s6 wr => ∃ (i j : Int) (k : Nat), 0 ≤ i ∧ i ≤ j ∧ j ≤ N ∧ s5 = .int .i64 i ∧ s6 = .int .i64 j ∧ Aside0 (searchB B k i j = some r) ∧ Aside0 (Below w.heap.size w wr)) (fun s5 s6 _ => (intOf s6).toNat - (intOf s5).toNat)
  case atStart => exact ⟨0, N, k0, by omega, hN0, by omega, rfl, rfl, HR, ⟨Below.refl _ w⟩⟩
  case round =>
    obtain ⟨i, j, k, h0, h1, h2, rfl, rfl, HS, HB⟩ := hrel
    clear HR
    obtain ⟨k, rfl⟩ : ∃ k', k = k' + 1 := by
      cases k with
      | zero => exact absurd HS.out (by simp [searchB])
      | succ k => exact ⟨k, rfl⟩
    by_cases hlt : i < j
    · obtain ⟨b, hb, hS⟩ := Option.bind_eq_some_iff.1 (show (B ((i + j) / 2)).bind (fun b => if b = true then searchB B k i ((i + j) / 2) else searchB B k ((i + j) / 2 + 1) j) = some r by have := HS.out; rw [searchB, if_pos hlt] at this; exact this)
      have HCALL := Aside0.mk (HP.out wr _ b HB.out hb (by omega) (by omega))
      have HSS := Aside0.mk hS
      clear hS hb HS
      go_wp2_with fail
      rw [HC.out, Oper.upon_enter]
      refine HCALL.out.mono ?_
      rintro e W1 ⟨rfl, hb1⟩
      have HB2 : Aside0 (Below w.heap.size w W1) := ⟨HB.out.trans (hb1.mono HB.out.size)⟩
      clear hb1 HB HCALL
      cases b with
      | true =>
        have HS2 := Aside0.mk (show searchB B k i ((i + j) / 2) = some r by have := HSS.out; rw [if_pos rfl] at this; exact this)
        clear HSS
        go_wp2_with fail
        go_round
        case measure => simp [intOf]; omega
        case rel => exact ⟨i, (i + j) / 2, k, h0, by omega, by omega, rfl, rfl, HS2, HB2⟩
      | false =>
        have HS2 := Aside0.mk (show searchB B k ((i + j) / 2 + 1) j = some r by have := HSS.out; rw [if_neg (by decide)] at this; exact this)
        clear HSS
        go_wp2_with fail
        go_round
        case measure => simp [intOf]; omega
        case rel => exact ⟨(i + j) / 2 + 1, j, k, by omega, by omega, by omega, by go_num, rfl, HS2, HB2⟩
    · have HE := Aside0.mk (show i = r by have := HS.out; rw [searchB, if_neg hlt] at this; exact Option.some.inj this)
      go_wp2_with fail
      go_ret
      exact ⟨by first | rfl | (rw [HE.out]; rfl), HB.out⟩
end Go.Proofs.YtflpddhoiafhcaaGreatDoor.H
end

section
/- Events in order: by days, then by kinds. The one order of a list; plain, no program in sight. -/
namespace Go.Proofs.YtflpddhoiafhcaaGreatDoor.Cal

/-- Does a kind on a day (kind, day) stand ahead of another one? -/
def ltE (x y : Int × Int) : Bool := decide (x.2 < y.2 ∨ (x.2 = y.2 ∧ x.1 < y.1))
def insE (x : Int × Int) : List (Int × Int) → List (Int × Int)
  | [] => [x]
  | y :: r => if ltE x y then x :: y :: r else y :: insE x r
def sortE : List (Int × Int) → List (Int × Int)
  | [] => []
  | x :: r => insE x (sortE r)
theorem ltE_total {x y : Int × Int} (h1 : ltE x y = false) (h2 : ltE y x = false) : x = y := by
  obtain ⟨a, b⟩ := x
  obtain ⟨c, d⟩ := y
  simp [ltE] at h1 h2
  simp only [Prod.mk.injEq]
  omega
theorem ltE_trans' {x y z : Int × Int} (h1 : ltE y x = false) (h2 : ltE z y = false) : ltE z x = false := by
  simp [ltE] at h1 h2 ⊢
  omega
theorem ltE_asymm {x y : Int × Int} (h : ltE x y = true) : ltE y x = false := by
  simp [ltE] at h ⊢
  omega
theorem insE_perm (x : Int × Int) : ∀ l, (insE x l).Perm (x :: l)
  | [] => List.Perm.refl _
  | y :: r => by
    unfold insE
    split
    · exact List.Perm.refl _
    · exact ((insE_perm x r).cons y).trans (List.Perm.swap x y r)
theorem sortE_perm : ∀ l, (sortE l).Perm l
  | [] => List.Perm.refl _
  | x :: r => (insE_perm x (sortE r)).trans ((sortE_perm r).cons x)
/-- In order: no later one stands ahead of an elder one. -/
def InOrder (l : List (Int × Int)) : Prop := l.Pairwise fun x y => ltE y x = false
theorem insE_order (x : Int × Int) : ∀ l, InOrder l → InOrder (insE x l)
  | [], _ => List.pairwise_singleton _ _
  | y :: r, h => by
    unfold insE
    have h' := List.pairwise_cons.1 h
    split
    · rename_i hxy
      refine List.pairwise_cons.2 ⟨fun z hz => ?_, h⟩
      rcases List.mem_cons.1 hz with rfl | hz
      · exact ltE_asymm hxy
      · exact ltE_trans' (ltE_asymm hxy) (h'.1 z hz)
    · rename_i hxy
      refine List.pairwise_cons.2 ⟨fun z hz => ?_, insE_order x r h'.2⟩
      rcases List.mem_cons.1 ((insE_perm x r).mem_iff.1 hz) with rfl | hz
      · simpa using hxy
      · exact h'.1 z hz
theorem sortE_order : ∀ l, InOrder (sortE l)
  | [] => List.Pairwise.nil
  | x :: r => insE_order x _ (sortE_order r)
/-- There is one order. -/
theorem order_one : ∀ {l m : List (Int × Int)}, InOrder l → InOrder m → l.Perm m → l = m
  | [], m, _, _, hp => (List.nil_perm.1 hp).symm
  | x :: l, [], _, _, hp => absurd hp.length_eq (by simp)
  | x :: l, y :: m, h, k, hp => by
    have h' := List.pairwise_cons.1 h
    have k' := List.pairwise_cons.1 k
    have e : x = y := by
      have hy : y ∈ x :: l := hp.mem_iff.2 (by simp)
      have hx : x ∈ y :: m := hp.mem_iff.1 (by simp)
      rcases List.mem_cons.1 hy with rfl | hy
      · rfl
      rcases List.mem_cons.1 hx with rfl | hx
      · rfl
      exact ltE_total (k'.1 x hx) (h'.1 y hy)
    subst e
    rw [order_one h'.2 k'.2 (List.Perm.cons_inv hp)]
theorem sortE_of {l m : List (Int × Int)} (h : InOrder m) (hp : m.Perm l) : m = sortE l := order_one h (sortE_order l) (hp.trans (sortE_perm l).symm)
theorem sortE_length (l : List (Int × Int)) : (sortE l).length = l.length := (sortE_perm l).length_eq
end Go.Proofs.YtflpddhoiafhcaaGreatDoor.Cal
end

section
/-
  DERIVED: THE SHELF's CONTRACTS AT THIS DUMP, IN PLAIN WORDS (tools/lay-plain.mjs out of 'YtflpddhoiafhcaaGreatDoorShlSort.lean', which tools/lay-shelf.mjs wrote): THE SAME DECLARATIONS UNDER THE SAME NAMES: 'import', 'namespace', 'open', 'def', 'theorem' AND NOTHING ELSE: no command of the shelf's: FOR A HAND-IN. Each laying: the table of numbers ('.._ren') and one theorem, a field a fact of the dump's own or the kernel's comparison; each contract: ONE APPLICATION.
-/
namespace Go.Proofs
open Go.Shelf
def Tryz.sortEv_ren : Go.Shelf.Ren := ⟨fun | 6 => 83 | 15 => 136 | 14 => 135 | 28 => 194 | 29 => 195 | 20 => 186 | 21 => 187 | 22 => 188 | 23 => 189 | 24 => 190 | 25 => 191 | 26 => 192 | 27 => 193 | 46 => 233 | 47 => 234 | 48 => 235 | 49 => 236 | 50 => 237 | 57 => 260 | n => n, fun | 22 => 22 | 24 => 57 | 25 => 101 | 3 => 3 | 39 => 158 | 0 => 0 | 53 => 129 | 55 => 193 | 4 => 4 | 46 => 186 | 45 => 185 | 50 => 72 | 5 => 5 | 9 => 9 | 66 => 237 | 70 => 241 | 76 => 269 | 77 => 230 | n => n, fun | n => n⟩
theorem Tryz.sortEv : Go.Proofs.SlLaysF0.n6 Tryz.prog Tryz.sortEv_ren := {
  mixed := by kernel_rfl
  f6 := ⟨Tryz.f83.name, by decide, Tryz.func83.trans (congrArg some (by kernel_rfl))⟩
  f14 := ⟨Tryz.f135.name, by decide, Tryz.func135.trans (congrArg some (by kernel_rfl))⟩
  f15 := Tryz.func136.trans (congrArg some (by kernel_rfl))
  f20 := ⟨Tryz.f186.name, by decide, Tryz.func186.trans (congrArg some (by kernel_rfl))⟩
  f21 := ⟨Tryz.f187.name, by decide, Tryz.func187.trans (congrArg some (by kernel_rfl))⟩
  f22 := ⟨Tryz.f188.name, by decide, Tryz.func188.trans (congrArg some (by kernel_rfl))⟩
  f23 := ⟨Tryz.f189.name, by decide, Tryz.func189.trans (congrArg some (by kernel_rfl))⟩
  f24 := ⟨Tryz.f190.name, by decide, Tryz.func190.trans (congrArg some (by kernel_rfl))⟩
  f25 := ⟨Tryz.f191.name, by decide, Tryz.func191.trans (congrArg some (by kernel_rfl))⟩
  f26 := ⟨Tryz.f192.name, by decide, Tryz.func192.trans (congrArg some (by kernel_rfl))⟩
  f27 := ⟨Tryz.f193.name, by decide, Tryz.func193.trans (congrArg some (by kernel_rfl))⟩
  f28 := Tryz.func194.trans (congrArg some (by kernel_rfl))
  f29 := Tryz.func195.trans (congrArg some (by kernel_rfl))
  f46 := ⟨Tryz.f233.name, by decide, Tryz.func233.trans (congrArg some (by kernel_rfl))⟩
  f47 := Tryz.func234.trans (congrArg some (by kernel_rfl))
  f48 := Tryz.func235.trans (congrArg some (by kernel_rfl))
  f49 := ⟨Tryz.f236.name, by decide, Tryz.func236.trans (congrArg some (by kernel_rfl))⟩
  f50 := ⟨Tryz.f237.name, by decide, Tryz.func237.trans (congrArg some (by kernel_rfl))⟩
  f57 := ⟨Tryz.f260.name, by decide, Tryz.func260.trans (congrArg some (by kernel_rfl))⟩
  t0 := Tryz.underlying0
  a0 := Tryz.isAgg0
  z0 := Tryz.sizeOf0
  v0 := Tryz.zeroValue0
  t3 := Tryz.underlying3
  a3 := Tryz.isAgg3
  z3 := Tryz.sizeOf3
  v3 := Tryz.zeroValue3
  t4 := Tryz.underlying4
  a4 := Tryz.isAgg4
  z4 := Tryz.sizeOf4
  v4 := Tryz.zeroValue4
  t5 := Tryz.underlying5
  a5 := Tryz.isAgg5
  z5 := Tryz.sizeOf5
  v5 := Tryz.zeroValue5
  t9 := Tryz.underlying9
  a9 := Tryz.isAgg9
  z9 := Tryz.sizeOf9
  v9 := Tryz.zeroValue9
  t22 := Tryz.underlying22
  a22 := Tryz.isAgg22
  z22 := Tryz.sizeOf22
  v22 := Tryz.zeroValue22
  t25 := Tryz.underlying101
  a25 := Tryz.isAgg101
  z25 := Tryz.sizeOf101
  v25 := Tryz.zeroValue101
  t39 := Tryz.underlying158
  a39 := Tryz.isAgg158
  z39 := Tryz.sizeOf158
  v39 := Tryz.zeroValue158
  t45 := Tryz.underlying185
  a45 := Tryz.isAgg185
  z45 := Tryz.sizeOf185
  v45 := Tryz.zeroValue185
  t46 := Tryz.underlying186
  a46 := Tryz.isAgg186
  z46 := Tryz.sizeOf186
  v46 := Tryz.zeroValue186
  t50 := Tryz.underlying72
  a50 := Tryz.isAgg72
  z50 := Tryz.sizeOf72
  v50 := Tryz.zeroValue72
  t53 := Tryz.underlying129
  a53 := Tryz.isAgg129
  z53 := Tryz.sizeOf129
  v53 := Tryz.zeroValue129
  t55 := Tryz.underlying193
  a55 := Tryz.isAgg193
  z55 := Tryz.sizeOf193
  v55 := Tryz.zeroValue193
  t66 := Tryz.underlying237
  a66 := Tryz.isAgg237
  z66 := Tryz.sizeOf237
  v66 := Tryz.zeroValue237
  t70 := Tryz.underlying241
  a70 := Tryz.isAgg241
  z70 := Tryz.sizeOf241
  v70 := Tryz.zeroValue241
  t76 := Tryz.underlying269
  a76 := Tryz.isAgg269
  z76 := Tryz.sizeOf269
  v76 := Tryz.zeroValue269
  t77 := Tryz.underlying230
  a77 := Tryz.isAgg230
  z77 := Tryz.sizeOf230
  v77 := Tryz.zeroValue230 }
def Tryz.cmpInt_ren : Go.Shelf.Ren := ⟨fun | 5 => 86 | 7 => 137 | n => n, fun | 22 => 3 | 3 => 3 | 4 => 4 | n => n, fun | n => n⟩
theorem Tryz.cmpInt : Go.Proofs.SlLaysC2.n5 Tryz.prog Tryz.cmpInt_ren := {
  mixed := by kernel_rfl
  f5 := ⟨Tryz.f86.name, by decide, Tryz.func86.trans (congrArg some (by kernel_rfl))⟩
  f7 := ⟨Tryz.f137.name, by decide, Tryz.func137.trans (congrArg some (by kernel_rfl))⟩
  t3 := Tryz.underlying3
  a3 := Tryz.isAgg3
  z3 := Tryz.sizeOf3
  v3 := Tryz.zeroValue3
  t4 := Tryz.underlying4
  a4 := Tryz.isAgg4
  z4 := Tryz.sizeOf4
  v4 := Tryz.zeroValue4
  t22 := Tryz.underlying3
  a22 := Tryz.isAgg3
  z22 := Tryz.sizeOf3
  v22 := Tryz.zeroValue3 }
def Tryz.cloneEv_ren : Go.Shelf.Ren := ⟨fun | 41 => 82 | n => n, fun | 22 => 22 | 23 => 57 | 4 => 4 | n => n, fun | n => n⟩
theorem Tryz.cloneEv : Go.Proofs.SlLaysE0.n41 Tryz.prog Tryz.cloneEv_ren := {
  mixed := by kernel_rfl
  f41 := ⟨Tryz.f82.name, by decide, Tryz.func82.trans (congrArg some (by kernel_rfl))⟩
  t4 := Tryz.underlying4
  a4 := Tryz.isAgg4
  z4 := Tryz.sizeOf4
  v4 := Tryz.zeroValue4
  t22 := Tryz.underlying22
  a22 := Tryz.isAgg22
  z22 := Tryz.sizeOf22
  v22 := Tryz.zeroValue22 }
end Go.Proofs
end

section
/- The contract of the program's function behind the hole 'ev_sort', by a walk over its text. -/
namespace Go.Proofs.YtflpddhoiafhcaaGreatDoor.H
open Go.RowKit Go.Proofs.YtflpddhoiafhcaaGreatDoorW.PrintWords Go.Proofs.YtflpddhoiafhcaaGreatDoorW.PrintLast Go.Proofs.YtflpddhoiafhcaaGreatDoorW.PrintMore
attribute [local go_sem] max2_int min2_int max_two min_two max_three min_three max_four min_four
set_option linter.unusedVariables false
set_option linter.unusedSimpArgs false
/-- An event's two cells: kind, day. -/
def encE (x : Int × Int) : List Value := [.int .i64 x.1, .int .i64 x.2]
/-- The first that isn't 0. -/
def or2 (x y : Int) : Int := if x = 0 then y else x
theorem cmp_or (g : Nat) (x y : Int) (w : World) (h0 : w.cell? ⟨g, 0, none⟩ = some (.int .i64 x)) (h1 : w.cell? ⟨g, 1, none⟩ = some (.int .i64 y)) :
    Calls Tryz.prog 85 #[.slice (some ⟨g, 0, none⟩) 2 2] w fun e w' => e = .returned (.int .i64 (or2 x y)) ∧ w = w' := by
  by_cases hx : x = 0
  · have ex : (x != 0) = false := by simpa using hx
    obtain ⟨r, hr⟩ : ∃ r, or2 x y = r := ⟨_, rfl⟩
    obtain rfl : y = r := by rw [← hr, or2, if_pos hx]
    rw [hr]
    clear hr hx
    by_cases hy : y = 0
    · have ey : (y != 0) = false := by simpa using hy
      have HY := Aside0.mk hy
      clear hy
      go_enter Tryz.func85, Tryz.ntmps85
      go_wp2
      go_loop [8] (fun s8 => ∃ k : Int, (k = 0 ∨ k = 1 ∨ k = 2) ∧ s8 = .int .i64 k) (fun s8 => 2 - (intOf s8).toNat)
      case atStart => exact ⟨0, by simp, rfl⟩
      case round =>
        obtain ⟨k, hk, rfl⟩ := hrel
        rcases hk with rfl | rfl | rfl
        · go_wp2
          go_round
          case measure => simp [intOf]
          case rel => exact ⟨1, by simp, rfl⟩
        · go_wp2
          go_round
          case measure => simp [intOf]
          case rel => exact ⟨2, by simp, rfl⟩
        · go_wp2
          go_ret
          exact ⟨by rw [HY.out]; rfl, rfl⟩
    · have ey : (y != 0) = true := by simpa using hy
      clear hy
      go_enter Tryz.func85, Tryz.ntmps85
      go_wp2
      go_loop [8] (fun s8 => ∃ k : Int, (k = 0 ∨ k = 1) ∧ s8 = .int .i64 k) (fun s8 => 2 - (intOf s8).toNat)
      case atStart => exact ⟨0, by simp, rfl⟩
      case round =>
        obtain ⟨k, hk, rfl⟩ := hrel
        rcases hk with rfl | rfl
        · go_wp2
          go_round
          case measure => simp [intOf]
          case rel => exact ⟨1, by simp, rfl⟩
        · go_wp2
          go_ret
          exact ⟨rfl, rfl⟩
  · have ex : (x != 0) = true := by simpa using hx
    obtain ⟨r, hr⟩ : ∃ r, or2 x y = r := ⟨_, rfl⟩
    obtain rfl : x = r := by rw [← hr, or2, if_neg hx]
    rw [hr]
    clear hr hx
    go_enter Tryz.func85, Tryz.ntmps85
    go_wp2
    go_loop [8] (fun s8 => s8 = .int .i64 0) (fun s8 => 2 - (intOf s8).toNat)
    case atStart => rfl
    case round =>
      obtain rfl := hrel
      go_wp2
      go_ret
      exact ⟨rfl, rfl⟩
/-- -1, 0 or 1. -/
def cmpI (x y : Int) : Int := Go.Lib.compareInt x y
/-- By days, then by kinds. -/
def cmpEv (x y : Int × Int) : Int := or2 (cmpI x.2 y.2) (cmpI x.1 y.1)
set_option maxHeartbeats 4000000 in
set_option maxRecDepth 100000 in
theorem ev_closure (x y : Int × Int) (W : World) : Calls Tryz.prog 84 #[.agg (encE x).toArray, .agg (encE y).toArray] W
    fun e w' => e = .returned (.int .i64 (cmpEv x y)) ∧ ∃ q os', w' = Go.Sort.grow (W.drewN q) os' := by
  obtain ⟨x1, x2⟩ := x
  obtain ⟨y1, y2⟩ := y
  have hcon : ∀ (a b : Int) (V : World), Calls Tryz.prog 86 #[.int .i64 a, .int .i64 b] V fun e w' => e = .returned (.int .i64 (cmpI a b)) ∧ V = w' := fun a b V =>
    (AnyG.cmp_Compare_int Tryz.cmpInt a b V).mono fun e w' ⟨he, hw⟩ => ⟨he, hw.symm⟩
  unfold cmpEv
  have HC := Aside0.mk hcon
  clear hcon
  simp only [encE]
  go_enter Tryz.func84, Tryz.ntmps84
  go_wp2_with fail
  go_region_held3 (fun V => V.cell? ⟨W.heap.size, 0, none⟩ = some (.int .i64 x1) ∧ V.cell? ⟨W.heap.size, 1, none⟩ = some (.int .i64 x2) ∧ V.cell? ⟨W.heap.size + 1, 0, none⟩ = some (.int .i64 y1) ∧ V.cell? ⟨W.heap.size + 1, 1, none⟩ = some (.int .i64 y2))
    (first | go_keep | (simp [go_sem, World.cell?_alloc_past]))
    (first | (go_at_call 86; refine (HC.out _ _ _).mono ?_; rintro e w' ⟨rfl, rfl⟩) | (go_at_call 85; refine (cmp_or (W.heap.size + 2) (cmpI x2 y2) (cmpI x1 y1) _ ?qa ?qb).mono ?_; (case qa => (change (World.alloc _ _).cell? _ = _; rw [World.cell?_alloc_at _ _ _ _ (by simp)]; rfl)); (case qb => (change (World.alloc _ _).cell? _ = _; rw [World.cell?_alloc_at _ _ _ _ (by simp)]; rfl)); rintro e w' ⟨rfl, rfl⟩))
  go_wp2
  go_ret
  refine ⟨rfl, 1, #[.cells #[.int .i64 x1, .int .i64 x2] 57, .cells #[.int .i64 y1, .int .i64 y2] 57, .cells #[.int .i64 (cmpI x2 y2), .int .i64 (cmpI x1 y1)] 3], ?_⟩
  rw [Go.Sort.alloc_eq_grow, Go.Sort.alloc_eq_grow, Go.Sort.alloc_eq_grow, Go.Sort.grow_grow, Go.Sort.grow_grow]
  rfl
end Go.Proofs.YtflpddhoiafhcaaGreatDoor.H
end

section
/-
  DERIVED: THE SHELF's CONTRACTS AT THIS DUMP, IN PLAIN WORDS (tools/lay-plain.mjs out of 'YtflpddhoiafhcaaGreatDoorShlBits.lean', which tools/lay-shelf.mjs wrote): THE SAME DECLARATIONS UNDER THE SAME NAMES: 'import', 'namespace', 'open', 'def', 'theorem' AND NOTHING ELSE: no command of the shelf's: FOR A HAND-IN. Each laying: the table of numbers ('.._ren') and one theorem, a field a fact of the dump's own or the kernel's comparison; each contract: ONE APPLICATION.
-/
namespace Go.Proofs
open Go.Shelf
def Tryz.lays125_ren : Go.Shelf.Ren := ⟨fun | 125 => 136 | 128 => 194 | 129 => 195 | n => n, fun | 46 => 158 | 3 => 3 | 51 => 129 | 53 => 193 | 4 => 4 | 5 => 5 | 9 => 9 | n => n, fun | n => n⟩
theorem Tryz.lays125 : Go.Proofs.Lays.n125 Tryz.prog Tryz.lays125_ren := {
  mixed := by kernel_rfl
  f125 := Tryz.func136.trans (congrArg some (by kernel_rfl))
  f128 := Tryz.func194.trans (congrArg some (by kernel_rfl))
  f129 := Tryz.func195.trans (congrArg some (by kernel_rfl))
  t3 := Tryz.underlying3
  a3 := Tryz.isAgg3
  z3 := Tryz.sizeOf3
  v3 := Tryz.zeroValue3
  t4 := Tryz.underlying4
  a4 := Tryz.isAgg4
  z4 := Tryz.sizeOf4
  v4 := Tryz.zeroValue4
  t5 := Tryz.underlying5
  a5 := Tryz.isAgg5
  z5 := Tryz.sizeOf5
  v5 := Tryz.zeroValue5
  t9 := Tryz.underlying9
  a9 := Tryz.isAgg9
  z9 := Tryz.sizeOf9
  v9 := Tryz.zeroValue9
  t46 := Tryz.underlying158
  a46 := Tryz.isAgg158
  z46 := Tryz.sizeOf158
  v46 := Tryz.zeroValue158
  t51 := Tryz.underlying129
  a51 := Tryz.isAgg129
  z51 := Tryz.sizeOf129
  v51 := Tryz.zeroValue129
  t53 := Tryz.underlying193
  a53 := Tryz.isAgg193
  z53 := Tryz.sizeOf193
  v53 := Tryz.zeroValue193 }
/-- bits.Len: "Len returns the minimum number of bits required to represent x; the result is 0 for x == 0.": IT RETURNS 'Lib.bitLen x'; the world is as it was. (A uint has 64 bits in the model.) ITS CALLEE bits.Len64 IS MET BY ITS OWN CONTRACT OFF THE SHELF (lay that first). (LAID: no walk: one application.) -/
theorem Tryz.bits_Len (x : Int) (w : World) (h0 : 0 ≤ x) (h1 : x ≤ 18446744073709551615) :
    Calls Tryz.prog 136 #[.int .u64 x] w fun e w' => e = .returned (.int .i64 (Lib.bitLen x.toNat)) ∧ w' = w := Any.bits_Len Tryz.lays125 x w h0 h1
end Go.Proofs
end

section
-- Written by wip/hprint.py of this repo (holes typed by hand, all else by a program) over the seat YtflpddhoiafhcaaGreatDoor.
namespace Go.Proofs.YtflpddhoiafhcaaGreatDoor.S
open Go.Proofs.YtflpddhoiafhcaaGreatDoor.H
open Go.RowKit Go.Proofs.YtflpddhoiafhcaaGreatDoorW.PrintWords Go.Proofs.YtflpddhoiafhcaaGreatDoorW.PrintLast Go.Proofs.YtflpddhoiafhcaaGreatDoorW.PrintMore
attribute [local go_sem] max2_int min2_int max_two min_two max_three min_three max_four min_four   -- for this text's walks alone
set_option linter.unusedVariables false
set_option linter.unusedSimpArgs false

def errW : Option Int → Value
  | none => .nilIface
  | some c => .iface 0 (.int .i64 c)
theorem errW_none : errW none = .nilIface := rfl
theorem errW_some (c : Int) : errW (some c) = .iface 0 (.int .i64 c) := rfl

theorem info3 : (Tryz.prog.info? 3).map (fun i => (i.zero, i.size, i.bytes)) = some (some (.int .i64 0), 1, 8) := by kernel_rfl
theorem info32 : (Tryz.prog.info? 32).map (fun i => (i.zero, i.size, i.bytes)) = some (some (.agg #[(.int .i64 0), (.bool false)]), 2, 16) := by kernel_rfl
theorem info57 : (Tryz.prog.info? 57).map (fun i => (i.zero, i.size, i.bytes)) = some (some (.agg #[(.int .i64 0), (.int .i64 0)]), 2, 16) := by kernel_rfl
-- the values' own types
/-- A function value that lies in a rule: by its number. -/
def nearV (c : Int) : Value := .func (.func (if c = 77 then 77 else 78)) #[] #[]
theorem nearV_one (c : Int) : (nearV c).oneCell' = true := rfl
structure S54 where
  f0 : Int
  f1 : Int
  f2 : Int
  f3 : Int
  f4 : Int
def z54 : S54 := ⟨(0 : Int), (0 : Int), (0 : Int), (0 : Int), (0 : Int)⟩
def k54 : Kd S54 := Kd.iso (Kd.pair (Kd.int .i64) (Kd.pair (Kd.int .i64) (Kd.pair (Kd.int .i64) (Kd.pair (Kd.scalar nearV nearV_one) (Kd.int .i64))))) (fun x : S54 => (x.f0, x.f1, x.f2, x.f3, x.f4))
theorem k54_open {w : World} {x : S54} {cs : List Value} (h : k54.K w x cs) : cs = [.int .i64 x.f0, .int .i64 x.f1, .int .i64 x.f2, nearV x.f3, .int .i64 x.f4] := by
  obtain ⟨_, _, rfl, rfl, ⟨_, _, rfl, rfl, ⟨_, _, rfl, rfl, ⟨_, _, rfl, rfl, rfl⟩⟩⟩⟩ := h
  exact rfl
theorem k54_mkM (w : World) (base : Nat) (ok : Nat → Prop) (x : S54)  : k54.M w base ok x [.int .i64 x.f0, .int .i64 x.f1, .int .i64 x.f2, nearV x.f3, .int .i64 x.f4] := ⟨[.int .i64 x.f0], [.int .i64 x.f1, .int .i64 x.f2, nearV x.f3, .int .i64 x.f4], rfl, rfl, ⟨[.int .i64 x.f1], [.int .i64 x.f2, nearV x.f3, .int .i64 x.f4], rfl, rfl, ⟨[.int .i64 x.f2], [nearV x.f3, .int .i64 x.f4], rfl, rfl, ⟨[nearV x.f3], [.int .i64 x.f4], rfl, rfl, rfl⟩⟩⟩⟩
def rd_T54 (xs : List S54) (i : Int) : S54 := xs.getD i.toNat z54
theorem at_T54 {w : World} {A : Option Addr} {n : Nat} {xs : List S54} (h : Kd.C k54 w A n xs) (i : Int) (h0 : 0 ≤ i) (h1 : i < n) : ∃ ad , A = some ad ∧ w.cell? (ad.add (i.toNat * 5)) = some (.int .i64 (rd_T54 xs i).f0) ∧ w.cell? ⟨(ad.add (i.toNat * 5)).block, (ad.add (i.toNat * 5)).off + 1, none⟩ = some (.int .i64 (rd_T54 xs i).f1) ∧ w.cell? ⟨(ad.add (i.toNat * 5)).block, (ad.add (i.toNat * 5)).off + 2, none⟩ = some (.int .i64 (rd_T54 xs i).f2) ∧ w.cell? ⟨(ad.add (i.toNat * 5)).block, (ad.add (i.toNat * 5)).off + 3, none⟩ = some (nearV (rd_T54 xs i).f3) ∧ w.cell? ⟨(ad.add (i.toNat * 5)).block, (ad.add (i.toNat * 5)).off + 4, none⟩ = some (.int .i64 (rd_T54 xs i).f4) := by
  obtain ⟨ad, c, e, _, hK, hc0⟩ := Kd.C_get h z54 i h0 h1
  have hc : ∀ j u, c[j]? = some u → w.cell? (ad.add (i.toNat * 5 + j)) = some u := hc0
  obtain rfl := k54_open hK
  exact ⟨ad, e, hc 0 _ rfl, by rw [← add_field _ _ 1 (by omega)]; exact hc 1 _ rfl, by rw [← add_field _ _ 2 (by omega)]; exact hc 2 _ rfl, by rw [← add_field _ _ 3 (by omega)]; exact hc 3 _ rfl, by rw [← add_field _ _ 4 (by omega)]; exact hc 4 _ rfl⟩

structure S57 where
  f0 : Int
  f1 : Int
def z57 : S57 := ⟨(0 : Int), (0 : Int)⟩
def k57 : Kd S57 := Kd.iso (Kd.pair (Kd.int .i64) (Kd.int .i64)) (fun x : S57 => (x.f0, x.f1))
theorem k57_open {w : World} {x : S57} {cs : List Value} (h : k57.K w x cs) : cs = [.int .i64 x.f0, .int .i64 x.f1] := by
  obtain ⟨_, _, rfl, rfl, rfl⟩ := h
  exact rfl
theorem k57_mkM (w : World) (base : Nat) (ok : Nat → Prop) (x : S57)  : k57.M w base ok x [.int .i64 x.f0, .int .i64 x.f1] := ⟨[.int .i64 x.f0], [.int .i64 x.f1], rfl, rfl, rfl⟩
def rd_T57 (xs : List S57) (i : Int) : S57 := xs.getD i.toNat z57
theorem at_T57 {w : World} {A : Option Addr} {n : Nat} {xs : List S57} (h : Kd.C k57 w A n xs) (i : Int) (h0 : 0 ≤ i) (h1 : i < n) : ∃ ad , A = some ad ∧ w.cell? (ad.add (i.toNat * 2)) = some (.int .i64 (rd_T57 xs i).f0) ∧ w.cell? ⟨(ad.add (i.toNat * 2)).block, (ad.add (i.toNat * 2)).off + 1, none⟩ = some (.int .i64 (rd_T57 xs i).f1) := by
  obtain ⟨ad, c, e, _, hK, hc0⟩ := Kd.C_get h z57 i h0 h1
  have hc : ∀ j u, c[j]? = some u → w.cell? (ad.add (i.toNat * 2 + j)) = some u := hc0
  obtain rfl := k57_open hK
  exact ⟨ad, e, hc 0 _ rfl, by rw [← add_field _ _ 1 (by omega)]; exact hc 1 _ rfl⟩

structure S32 where
  f0 : Int
  f1 : Bool
def z32 : S32 := ⟨(0 : Int), false⟩
def k32 : Kd S32 := Kd.iso (Kd.pair (Kd.int .i64) Kd.bool) (fun x : S32 => (x.f0, x.f1))
theorem k32_open {w : World} {x : S32} {cs : List Value} (h : k32.K w x cs) : cs = [.int .i64 x.f0, .bool x.f1] := by
  obtain ⟨_, _, rfl, rfl, rfl⟩ := h
  exact rfl
theorem k32_mkM (w : World) (base : Nat) (ok : Nat → Prop) (x : S32)  : k32.M w base ok x [.int .i64 x.f0, .bool x.f1] := ⟨[.int .i64 x.f0], [.bool x.f1], rfl, rfl, rfl⟩
def rd_T32 (xs : List S32) (i : Int) : S32 := xs.getD i.toNat z32
theorem at_T32 {w : World} {A : Option Addr} {n : Nat} {xs : List S32} (h : Kd.C k32 w A n xs) (i : Int) (h0 : 0 ≤ i) (h1 : i < n) : ∃ ad , A = some ad ∧ w.cell? (ad.add (i.toNat * 2)) = some (.int .i64 (rd_T32 xs i).f0) ∧ w.cell? ⟨(ad.add (i.toNat * 2)).block, (ad.add (i.toNat * 2)).off + 1, none⟩ = some (.bool (rd_T32 xs i).f1) := by
  obtain ⟨ad, c, e, _, hK, hc0⟩ := Kd.C_get h z32 i h0 h1
  have hc : ∀ j u, c[j]? = some u → w.cell? (ad.add (i.toNat * 2 + j)) = some u := hc0
  obtain rfl := k32_open hK
  exact ⟨ad, e, hc 0 _ rfl, by rw [← add_field _ _ 1 (by omega)]; exact hc 1 _ rfl⟩

end Go.Proofs.YtflpddhoiafhcaaGreatDoor.S
end

section
-- Written by wip/hprint.py of this repo (holes typed by hand, all else by a program) over the seat YtflpddhoiafhcaaGreatDoor.
namespace Go.Proofs.YtflpddhoiafhcaaGreatDoor.S
open Go.Proofs.YtflpddhoiafhcaaGreatDoor.H
open Go.RowKit Go.Proofs.YtflpddhoiafhcaaGreatDoorW.PrintWords Go.Proofs.YtflpddhoiafhcaaGreatDoorW.PrintLast Go.Proofs.YtflpddhoiafhcaaGreatDoorW.PrintMore
attribute [local go_sem] max2_int min2_int max_two min_two max_three min_three max_four min_four   -- for this text's walks alone
set_option linter.unusedVariables false
set_option linter.unusedSimpArgs false

theorem eqA32 (d : Nat) (w : World) (x0 y0 : Int) (x1 y1 : Bool) :
    (Op.equalIn (d + 2) 32 (.agg #[.int .i64 x0, .bool x1]) (.agg #[.int .i64 y0, .bool y1])).run Tryz.prog w = .ok (x0 == y0 && (x1 == y1)) w := by
  refine eqA_of Tryz.underlying32 (by kernel_rfl) ?_
  refine eqf_cons (by rfl) (by go_simp; rfl) (by go_simp; rfl) (by go_simp) ?_
  exact eqf_last (by rfl) (by go_simp; rfl) (by go_simp; rfl) (by go_simp)
end Go.Proofs.YtflpddhoiafhcaaGreatDoor.S
end

section
-- Written by wip/hprint.py of this repo (holes typed by hand, all else by a program) over the seat YtflpddhoiafhcaaGreatDoor.
namespace Go.Proofs.YtflpddhoiafhcaaGreatDoor.S
open Go.Proofs.YtflpddhoiafhcaaGreatDoor.H
open Go.RowKit Go.Proofs.YtflpddhoiafhcaaGreatDoorW.PrintWords Go.Proofs.YtflpddhoiafhcaaGreatDoorW.PrintLast Go.Proofs.YtflpddhoiafhcaaGreatDoorW.PrintMore
attribute [local go_sem] max2_int min2_int max_two min_two max_three min_three max_four min_four   -- for this text's walks alone
set_option linter.unusedVariables false
set_option linter.unusedSimpArgs false

def exact_both.f (a0 : Int) (a1 : Int) : Option (Int × Int) := if a1 = 0 then (none) else (if (Int.tmod a0 a1) < 0 then (some (wrap64 ((wrap64 (Int.tdiv a0 a1)) - 1), wrap64 ((Int.tmod a0 a1) + a1))) else (some (wrap64 (Int.tdiv a0 a1), Int.tmod a0 a1)))
set_option maxHeartbeats 8000000 in
set_option maxRecDepth 100000 in
theorem exact_both.calls (a0 : Int) (a1 : Int) (r1 : Int) (r2 : Int) (w : World) (h : exact_both.f a0 a1 = some (r1, r2)) :
    Calls Tryz.prog 229 #[.int .i64 a0, .int .i64 a1] w fun e w' => e = .returned (.tuple #[.int .i64 r1, .int .i64 r2]) ∧ Drawn0 w w' := by
  have H : (if a1 = 0 then (none) else (if (Int.tmod a0 a1) < 0 then (some (wrap64 ((wrap64 (Int.tdiv a0 a1)) - 1),wrap64 ((Int.tmod a0 a1) + a1))) else (some (wrap64 (Int.tdiv a0 a1),Int.tmod a0 a1)))) = some (r1,r2):=h
  clear h
  by_cases c3 : a1 = 0
  · rw [if_pos c3] at H
    exact absurd H (by simp)
  · rw [if_neg c3] at H
    have c3b0 : (a1 == 0) = false := zz27.mpr c3
    have c3b1 : (a1 != 0) = true := zz28.mpr c3
    by_cases c4 : (Int.tmod a0 a1) < 0
    · rw [if_pos c4] at H
      have c4b0 : decide ((Int.tmod a0 a1) < 0) = true := decide_eq_true c4
      clear c4
      simp only [zz15, zz16] at H
      obtain ⟨rfl, rfl⟩ := H
      go_enter Tryz.func229, Tryz.ntmps229
      go_wp2
      repeat (go_quiet (fail); try go_wp2)
      go_ret2
      exact ⟨by first | rfl | (simp; done) | (simp [*]; done), by repeat (first | exact Drawn0.refl _ | apply Drawn0.step)⟩
    · rw [if_neg c4] at H
      have c4b0 : decide ((Int.tmod a0 a1) < 0) = false := decide_eq_false c4
      clear c4
      simp only [zz15, zz16] at H
      obtain ⟨rfl, rfl⟩ := H
      go_enter Tryz.func229, Tryz.ntmps229
      go_wp2
      repeat (go_quiet (fail); try go_wp2)
      go_ret2
      exact ⟨by first | rfl | (simp; done) | (simp [*]; done), by repeat (first | exact Drawn0.refl _ | apply Drawn0.step)⟩

def exact_Mod.f (a0 : Int) (a1 : Int) : Option (Int × Int) := if a1 < 1 then (some (0, 1)) else ((exact_both.f a0 a1).bind fun bt101 => (some (bt101.2, 0)))
set_option maxHeartbeats 8000000 in
set_option maxRecDepth 100000 in
theorem exact_Mod.calls (a0 : Int) (a1 : Int) (r1 : Int) (r2 : Int) (w : World) (h : exact_Mod.f a0 a1 = some (r1, r2)) :
  Calls Tryz.prog 179 #[.int .i64 a0, .int .i64 a1] w fun e w' => e = .returned (.tuple #[.int .i64 r1, .int .i64 r2]) ∧ Drawn0 w w' := by
 have H : (if a1 < 1 then (some (0, 1)) else ((exact_both.f a0 a1).bind fun bt101 => (some (bt101.2, 0)))) = some (r1, r2) := h
 clear h
 by_cases c3 : a1 < 1
 ·
  rw [if_pos c3] at H
  have c3b0 : decide (a1 < 1) = true := decide_eq_true c3
  clear c3
  simp only [zz15, zz16] at H
  obtain ⟨rfl, rfl⟩ := H
  go_enter Tryz.func179, Tryz.ntmps179
  go_wp2
  go_ret2
  exact ⟨by first | rfl | (simp; done) | (simp [*]; done), by repeat (first | exact Drawn0.refl _ | apply Drawn0.step)⟩
 ·
  rw [if_neg c3] at H
  have c3b0 : decide (a1 < 1) = false := decide_eq_false c3
  clear c3
  replace H := zz14.mp H
  obtain ⟨⟨t101, t102⟩, A40, H⟩ := H
  replace H : (some (t102, 0)) = some (r1, r2) := H
  have A4 := zz00 A40
  clear A40
  simp only [zz15, zz16] at H
  obtain ⟨rfl, rfl⟩ := H
  go_enter Tryz.func179, Tryz.ntmps179
  go_wp2_with (first|((with_reducible refine zz23 (f:=229) rfl ?_);refine zz25 (some 13) rfl rfl Tryz.func229 (by kernel_rfl) rfl #[.int .i64 a0,.int .i64 a1] rfl (by (try simp only [List.map_toArray,List.map_cons,List.map_nil]);first|done|rfl|(simp only [List.length_drop,List.length_take];rfl)) ?_;(with_reducible refine (exact_both.calls a0 a1 t101 t102 _ A4.out).mono ?_);rintro e w' ⟨rfl,⟨nd,rfl⟩⟩;refine ⟨_,rfl,?_⟩))
  go_ret2
  exact ⟨by first | rfl | (simp; done) | (simp [*]; done), by repeat (first | exact Drawn0.refl _ | apply Drawn0.step)⟩

def molad_Weekday.f (a0 : Int) : Option (Int) := (exact_Mod.f a0 7).bind fun bt103 => (some bt103.1)
set_option maxHeartbeats 8000000 in
set_option maxRecDepth 100000 in
theorem molad_Weekday.calls (a0 : Int) (r : Int) (w : World) (h : molad_Weekday.f a0 = some r) :
  Calls Tryz.prog 130 #[.int .i64 a0] w fun e w' => e = .returned (.int .i64 r) ∧ Drawn0 w w' := by
 have H : ((exact_Mod.f a0 7).bind fun bt103 => (some bt103.1)) = some r := h
 clear h
 replace H := zz14.mp H
 obtain ⟨⟨t103, t104⟩, A20, H⟩ := H
 replace H : (some t103) = some r := H
 have A2 := zz00 A20
 clear A20
 obtain rfl := Option.some.inj H
 go_enter Tryz.func130, Tryz.ntmps130
 go_wp2_with (first|((with_reducible refine zz23 (f:=179) rfl ?_);refine zz25 (some 7) rfl rfl Tryz.func179 (by kernel_rfl) rfl #[.int .i64 a0,.int .i64 7] rfl (by (try simp only [List.map_toArray,List.map_cons,List.map_nil]);first|done|rfl|(simp only [List.length_drop,List.length_take];rfl)) ?_;(with_reducible refine (exact_Mod.calls a0 7 t103 t104 _ A2.out).mono ?_);rintro e w' ⟨rfl,⟨nd,rfl⟩⟩;refine ⟨_,rfl,?_⟩))
 go_ret
 exact ⟨by first | rfl | (simp; done) | (simp [*]; done), by repeat (first | exact Drawn0.refl _ | apply Drawn0.step)⟩

def week_From.f (a0 : Int) (a1 : Int) : Option (Int) := if a1 < 0 then (some a0) else (if a1 > 6 then (some a0) else ((molad_Weekday.f (wrap64 (a1 - a0))).bind fun t105 => (some (wrap64 (a0 + t105)))))
set_option maxHeartbeats 8000000 in
set_option maxRecDepth 100000 in
theorem week_From.calls (a0 : Int) (a1 : Int) (r : Int) (w : World) (h : week_From.f a0 a1 = some r) :
  Calls Tryz.prog 77 #[.int .i64 a0, .int .i64 a1] w fun e w' => e = .returned (.int .i64 r) ∧ Drawn0 w w' := by
 have H : (if a1 < 0 then (some a0) else (if a1 > 6 then (some a0) else ((molad_Weekday.f (wrap64 (a1 - a0))).bind fun t105 => (some (wrap64 (a0 + t105)))))) = some r := h
 clear h
 by_cases c3 : a1 < 0
 ·
  rw [if_pos c3] at H
  have c3b0 : decide (a1 < 0) = true := decide_eq_true c3
  clear c3
  obtain rfl := Option.some.inj H
  go_enter Tryz.func77, Tryz.ntmps77
  go_wp2
  go_ret
  exact ⟨by first | rfl | (simp; done) | (simp [*]; done), by repeat (first | exact Drawn0.refl _ | apply Drawn0.step)⟩
 ·
  rw [if_neg c3] at H
  have c3b0 : decide (a1 < 0) = false := decide_eq_false c3
  clear c3
  by_cases c4 : a1 > 6
  ·
   rw [if_pos c4] at H
   have c4b0 : decide (6 < a1) = true := decide_eq_true c4
   clear c4
   obtain rfl := Option.some.inj H
   go_enter Tryz.func77, Tryz.ntmps77
   go_wp2
   go_ret
   exact ⟨by first | rfl | (simp; done) | (simp [*]; done), by repeat (first | exact Drawn0.refl _ | apply Drawn0.step)⟩
  ·
   rw [if_neg c4] at H
   have c4b0 : decide (6 < a1) = false := decide_eq_false c4
   clear c4
   replace H := zz14.mp H
   obtain ⟨t105, A50, H⟩ := H
   replace H : (some (wrap64 (a0 + t105))) = some r := H
   have A5 := zz00 A50
   clear A50
   obtain rfl := Option.some.inj H
   go_enter Tryz.func77, Tryz.ntmps77
   go_wp2_with (first|((with_reducible refine zz23 (f:=130) rfl ?_);refine zz25 (some 16) rfl rfl Tryz.func130 (by kernel_rfl) rfl #[.int .i64 (wrap64 (a1 - a0))] rfl (by (try simp only [List.map_toArray,List.map_cons,List.map_nil]);first|done|rfl|(simp only [List.length_drop,List.length_take];rfl)) ?_;(with_reducible refine (molad_Weekday.calls (wrap64 (a1 - a0)) t105 _ A5.out).mono ?_);rintro e w' ⟨rfl,⟨nd,rfl⟩⟩;refine ⟨_,rfl,?_⟩))
   go_ret
   exact ⟨by first | rfl | (simp; done) | (simp [*]; done), by repeat (first | exact Drawn0.refl _ | apply Drawn0.step)⟩

def week_Upto.f (a0 : Int) (a1 : Int) : Option (Int) := if a1 < 0 then (some a0) else (if a1 > 6 then (some a0) else ((molad_Weekday.f (wrap64 (a0 - a1))).bind fun t106 => (some (wrap64 (a0 - t106)))))
set_option maxHeartbeats 8000000 in
set_option maxRecDepth 100000 in
theorem week_Upto.calls (a0 : Int) (a1 : Int) (r : Int) (w : World) (h : week_Upto.f a0 a1 = some r) :
  Calls Tryz.prog 78 #[.int .i64 a0, .int .i64 a1] w fun e w' => e = .returned (.int .i64 r) ∧ Drawn0 w w' := by
 have H : (if a1 < 0 then (some a0) else (if a1 > 6 then (some a0) else ((molad_Weekday.f (wrap64 (a0 - a1))).bind fun t106 => (some (wrap64 (a0 - t106)))))) = some r := h
 clear h
 by_cases c3 : a1 < 0
 ·
  rw [if_pos c3] at H
  have c3b0 : decide (a1 < 0) = true := decide_eq_true c3
  clear c3
  obtain rfl := Option.some.inj H
  go_enter Tryz.func78, Tryz.ntmps78
  go_wp2
  go_ret
  exact ⟨by first | rfl | (simp; done) | (simp [*]; done), by repeat (first | exact Drawn0.refl _ | apply Drawn0.step)⟩
 ·
  rw [if_neg c3] at H
  have c3b0 : decide (a1 < 0) = false := decide_eq_false c3
  clear c3
  by_cases c4 : a1 > 6
  ·
   rw [if_pos c4] at H
   have c4b0 : decide (6 < a1) = true := decide_eq_true c4
   clear c4
   obtain rfl := Option.some.inj H
   go_enter Tryz.func78, Tryz.ntmps78
   go_wp2
   go_ret
   exact ⟨by first | rfl | (simp; done) | (simp [*]; done), by repeat (first | exact Drawn0.refl _ | apply Drawn0.step)⟩
  ·
   rw [if_neg c4] at H
   have c4b0 : decide (6 < a1) = false := decide_eq_false c4
   clear c4
   replace H := zz14.mp H
   obtain ⟨t106, A50, H⟩ := H
   replace H : (some (wrap64 (a0 - t106))) = some r := H
   have A5 := zz00 A50
   clear A50
   obtain rfl := Option.some.inj H
   go_enter Tryz.func78, Tryz.ntmps78
   go_wp2_with (first|((with_reducible refine zz23 (f:=130) rfl ?_);refine zz25 (some 16) rfl rfl Tryz.func130 (by kernel_rfl) rfl #[.int .i64 (wrap64 (a0 - a1))] rfl (by (try simp only [List.map_toArray,List.map_cons,List.map_nil]);first|done|rfl|(simp only [List.length_drop,List.length_take];rfl)) ?_;(with_reducible refine (molad_Weekday.calls (wrap64 (a0 - a1)) t106 _ A5.out).mono ?_);rintro e w' ⟨rfl,⟨nd,rfl⟩⟩;refine ⟨_,rfl,?_⟩))
   go_ret
   exact ⟨by first | rfl | (simp; done) | (simp [*]; done), by repeat (first | exact Drawn0.refl _ | apply Drawn0.step)⟩

def near.f (c a0 a1 : Int) : Option Int := if c = 77 then week_From.f a0 a1 else week_Upto.f a0 a1
theorem near.calls (c a0 a1 r : Int) (w : World) (h : near.f c a0 a1 = some r) : Calls Tryz.prog (if c = 77 then 77 else 78) #[.int .i64 a0, .int .i64 a1] w fun e w' => e = .returned (.int .i64 r) ∧ Drawn0 w w' := by
  unfold near.f at h
  by_cases hc : c = 77
  · rw [if_pos hc] at h ⊢; exact week_From.calls a0 a1 r w h
  · rw [if_neg hc] at h ⊢; exact week_Upto.calls a0 a1 r w h
@[go_sem] theorem run_store_near {P : Program} {w : World} {a : Addr} {m : Mode} (c : Int) : (store a (nearV c) m).run P w = stored P w a (nearV c) m := run_store P w a _ m rfl
theorem near.enters (c : Int) (args : Array Value) (w : World) : (callFunc (if c = 77 then 77 else 78) args).run Tryz.prog w = .ok (.enter (if c = 77 then 77 else 78) args) w := by
  by_cases hc : c = 77
  · rw [if_pos hc]; exact Go.Proofs.YtflpddhoiafhcaaGreatDoorW.PrintLast.enters_ Tryz.func77 rfl rfl args w
  · rw [if_neg hc]; exact Go.Proofs.YtflpddhoiafhcaaGreatDoorW.PrintLast.enters_ Tryz.func78 rfl rfl args w
section
variable {P : Program} {ops : Array Oper} {Q : Exit → Act → World → Prop}
theorem goesN_ {oi : Oper} {N : Option Tmp} {a : Act} {w : World} {K : Act → World → Prop} {f : FuncId} {t : Tmp} {xs : Array Operand} {ts : Array TypeId} (args : Array Value) (he : (callFunc f args).run P w = .ok (.enter f args) w)
    (hw : Region.wanted oi (yielded ops a.tmps) = true) (hN : oi.dst = N) (hop : oi.op = .call { callee:=.value (.tmp t),args:=xs,argTypes:=ts }) (hv : a.eval (.tmp t) = .func (.func f) #[] #[]) (hargs : xs.map a.eval = args)
    (h : Calls P f args w fun e w' => ∃ v, e = .returned v ∧ K (a.put N v) w') : if Region.wanted oi (yielded ops a.tmps) = true then Oper.wp P oi a w K Q else K (a.put N undef) w := by
  refine call_ f args hw hN ?_ h
  unfold execOp
  simp only [hop]
  simp [resolve, Deferred.ofValue, invoke, hv, hargs, he]
end
def special_rules.f  : Option ((List (S54))) := some (([(⟨35, 1, 3, 77, 0⟩ : S54), (⟨30, 6, 1, 78, 0⟩ : S54), (⟨31, 6, 13, 78, 0⟩ : S54), (⟨32, 7, 1, 78, (-7)⟩ : S54), (⟨33, 7, 1, 78, 0⟩ : S54), (⟨34, 7, 14, 78, 0⟩ : S54), (⟨36, 11, 9, 78, 0⟩ : S54), (⟨37, 11, 9, 78, 7⟩ : S54)] : List (S54)))
set_option maxHeartbeats 8000000 in
set_option maxRecDepth 100000 in
theorem special_rules.calls  (r : List (S54)) (w : World) (h : special_rules.f  = some r) :
  Calls Tryz.prog 34 #[] w fun e w' => ∃ v0_ : Value, e = .returned (v0_) ∧ Kd.R k54 54 w' w.heap.size (fun _ => True) v0_ r ∧ Below w.heap.size w w' := by
 have hu54 := Tryz.underlying54
 have HB := Aside0.mk (Below.refl w.heap.size w)
 have H : (some (([(⟨35,1,3,77,0⟩ : S54),(⟨30,6,1,78,0⟩ : S54),(⟨31,6,13,78,0⟩ : S54),(⟨32,7,1,78,(-7)⟩ : S54),(⟨33,7,1,78,0⟩ : S54),(⟨34,7,14,78,0⟩ : S54),(⟨36,11,9,78,0⟩ : S54),(⟨37,11,9,78,7⟩ : S54)] : List (S54)))) = some r:=h
 clear h
 obtain ⟨y107,hy107⟩ : ∃ y_ : List (S54),y_ = (([(⟨35,1,3,77,0⟩ : S54),(⟨30,6,1,78,0⟩ : S54),(⟨31,6,13,78,0⟩ : S54),(⟨32,7,1,78,(-7)⟩ : S54),(⟨33,7,1,78,0⟩ : S54),(⟨34,7,14,78,0⟩ : S54),(⟨36,11,9,78,0⟩ : S54),(⟨37,11,9,78,7⟩ : S54)] : List (S54))):=⟨_,rfl⟩
 replace H : (some y107) = some r:=by first|(rw [hy107];with_reducible exact H)|(have H2_:=(Option.bind_some _ _).symm.trans H;rw [hy107];with_reducible exact H2_)|(have H2_:=(Option.bind_some _ _).symm.trans H;with_reducible exact H2_)|with_reducible exact H|(rw [hy107];exact H)|exact H
 have Ny107 := Aside0.mk hy107
 clear hy107
 obtain rfl := Option.some.inj H
 go_enter Tryz.func34, Tryz.ntmps34
 go_wp2_with (first|((with_reducible refine gate_dst (N:=9) rfl ?_);refine Kd.R_lit k54 _ 54 ?hg (N:=9) ?hd (xs:=([(⟨35,1,3,77,0⟩ : S54),(⟨30,6,1,78,0⟩ : S54),(⟨31,6,13,78,0⟩ : S54),(⟨32,7,1,78,(-7)⟩ : S54),(⟨33,7,1,78,0⟩ : S54),(⟨34,7,14,78,0⟩ : S54),(⟨36,11,9,78,0⟩ : S54),(⟨37,11,9,78,7⟩ : S54)] : List (S54))) (inner:=[.int .i64 35,.int .i64 1,.int .i64 3,nearV 77,.int .i64 0,.int .i64 30,.int .i64 6,.int .i64 1,nearV 78,.int .i64 0,.int .i64 31,.int .i64 6,.int .i64 13,nearV 78,.int .i64 0,.int .i64 32,.int .i64 7,.int .i64 1,nearV 78,.int .i64 (-7),.int .i64 33,.int .i64 7,.int .i64 1,nearV 78,.int .i64 0,.int .i64 34,.int .i64 7,.int .i64 14,nearV 78,.int .i64 0,.int .i64 36,.int .i64 11,.int .i64 9,nearV 78,.int .i64 0,.int .i64 37,.int .i64 11,.int .i64 9,nearV 78,.int .i64 7]) (ok:=fun _=>True) (okp:=fun _=>True) ?hr ?hp (fun _ hk=>hk) trivial (Below.refl _ _) (Nat.le_refl _) (by simp) ?_;(case hd=>rfl);(case hg=>rfl);(case hr=>first|(go_simp;done)|(go_simp;rfl));(case hp=>exact (Reps.c5 (show Kd.M k54 _ _ _ (⟨35,1,3,77,0⟩ : S54) [.int .i64 35,.int .i64 1,.int .i64 3,nearV 77,.int .i64 0] from (k54_mkM _ _ _ (⟨35,1,3,77,0⟩ : S54) )) (Reps.c5 (show Kd.M k54 _ _ _ (⟨30,6,1,78,0⟩ : S54) [.int .i64 30,.int .i64 6,.int .i64 1,nearV 78,.int .i64 0] from (k54_mkM _ _ _ (⟨30,6,1,78,0⟩ : S54) )) (Reps.c5 (show Kd.M k54 _ _ _ (⟨31,6,13,78,0⟩ : S54) [.int .i64 31,.int .i64 6,.int .i64 13,nearV 78,.int .i64 0] from (k54_mkM _ _ _ (⟨31,6,13,78,0⟩ : S54) )) (Reps.c5 (show Kd.M k54 _ _ _ (⟨32,7,1,78,(-7)⟩ : S54) [.int .i64 32,.int .i64 7,.int .i64 1,nearV 78,.int .i64 (-7)] from (k54_mkM _ _ _ (⟨32,7,1,78,(-7)⟩ : S54) )) (Reps.c5 (show Kd.M k54 _ _ _ (⟨33,7,1,78,0⟩ : S54) [.int .i64 33,.int .i64 7,.int .i64 1,nearV 78,.int .i64 0] from (k54_mkM _ _ _ (⟨33,7,1,78,0⟩ : S54) )) (Reps.c5 (show Kd.M k54 _ _ _ (⟨34,7,14,78,0⟩ : S54) [.int .i64 34,.int .i64 7,.int .i64 14,nearV 78,.int .i64 0] from (k54_mkM _ _ _ (⟨34,7,14,78,0⟩ : S54) )) (Reps.c5 (show Kd.M k54 _ _ _ (⟨36,11,9,78,0⟩ : S54) [.int .i64 36,.int .i64 11,.int .i64 9,nearV 78,.int .i64 0] from (k54_mkM _ _ _ (⟨36,11,9,78,0⟩ : S54) )) (Reps.c5 (show Kd.M k54 _ _ _ (⟨37,11,9,78,7⟩ : S54) [.int .i64 37,.int .i64 11,.int .i64 9,nearV 78,.int .i64 7] from (k54_mkM _ _ _ (⟨37,11,9,78,7⟩ : S54) )) (Reps.none _ _))))))))));intro v108 w1 ho2 hb hg_ hnew_;clear hg_ hnew_;(first|rw [← Ny107.out] at ho2|(simp only [Int.reduceToNat] at ho2;rw [← Ny107.out] at ho2));have n0_:=Aside0.mk (Kd.R_lower ho2 (below_size (by repeat (first|(with_reducible first|exact HB.out|apply below_alloc|apply pw_below_drewN|apply below_drew1)|exact HB.out))));have n1_:=Aside0.mk (below_step (by repeat (first|(with_reducible first|exact HB.out|apply below_alloc|apply pw_below_drewN|apply below_drew1)|exact HB.out)) hb);clear HB;have HO109:=n0_;have HB:=n1_;clear n0_ n1_;clear hb ho2))
 go_ret
 exact ⟨_,by first|rfl|(simp [errW_none,errW_some] <;> rfl)|(simp [*,errW_none,errW_some] <;> rfl),by (with_reducible repeat (first|apply Kd.R_alloc|apply Kd.R_drewN|apply Kd.R_drew));exact HO109.out,by repeat (first|(with_reducible first|exact HB.out|apply below_alloc|apply pw_below_drewN|apply below_drew1)|exact HB.out)⟩

def cycle_check.f (a0 : Int) : Option (Int) := if a0 < 0 then (some 2) else (if a0 > 10001 then (some 2) else (some 0))
set_option maxHeartbeats 8000000 in
set_option maxRecDepth 100000 in
theorem cycle_check.calls (a0 : Int) (r : Int) (w : World) (h : cycle_check.f a0 = some r) :
    Calls Tryz.prog 150 #[.int .i64 a0] w fun e w' => e = .returned (.int .i64 r) ∧ Drawn0 w w' := by
  have H : (if a0 < 0 then (some 2) else (if a0 > 10001 then (some 2) else (some 0))) = some r := h
  clear h
  by_cases c2 : a0 < 0
  · rw [if_pos c2] at H
    have c2b0 : decide (a0 < 0) = true := decide_eq_true c2
    clear c2
    obtain rfl := Option.some.inj H
    go_enter Tryz.func150, Tryz.ntmps150
    go_wp2
    go_ret
    exact ⟨by first | rfl | (simp; done) | (simp [*]; done), by repeat (first | exact Drawn0.refl _ | apply Drawn0.step)⟩
  · rw [if_neg c2] at H
    have c2b0 : decide (a0 < 0) = false := decide_eq_false c2
    clear c2
    by_cases c3 : a0 > 10001
    · rw [if_pos c3] at H
      have c3b0 : decide (10001 < a0) = true := decide_eq_true c3
      clear c3
      obtain rfl := Option.some.inj H
      go_enter Tryz.func150, Tryz.ntmps150
      go_wp2
      go_ret
      exact ⟨by first | rfl | (simp; done) | (simp [*]; done), by repeat (first | exact Drawn0.refl _ | apply Drawn0.step)⟩
    · rw [if_neg c3] at H
      have c3b0 : decide (10001 < a0) = false := decide_eq_false c3
      clear c3
      obtain rfl := Option.some.inj H
      go_enter Tryz.func150, Tryz.ntmps150
      go_wp2
      go_ret
      exact ⟨by first | rfl | (simp; done) | (simp [*]; done), by repeat (first | exact Drawn0.refl _ | apply Drawn0.step)⟩

def cycle_Leap.f (a0 : Int) : Option (Bool × Int) := (cycle_check.f a0).bind fun t110 => (if t110 = 0 then (if (Int.tmod a0 19) = 0 then (some (true, 0)) else (if (Int.tmod a0 19) = 3 then (some (true, 0)) else (if (Int.tmod a0 19) = 6 then (some (true, 0)) else (if (Int.tmod a0 19) = 8 then (some (true, 0)) else (if (Int.tmod a0 19) = 11 then (some (true, 0)) else (if (Int.tmod a0 19) = 14 then (some (true, 0)) else (if (Int.tmod a0 19) = 17 then (some (true, 0)) else (some (false, 0))))))))) else (some (false, t110)))
set_option maxHeartbeats 8000000 in
set_option maxRecDepth 100000 in
theorem cycle_Leap.calls (a0 : Int) (r1 : Bool) (r2 : Int) (w : World) (h : cycle_Leap.f a0 = some (r1, r2)) :
  Calls Tryz.prog 103 #[.int .i64 a0] w fun e w' => e = .returned (.tuple #[.bool r1, .int .i64 r2]) ∧ Drawn0 w w' := by
 have H : ((cycle_check.f a0).bind fun t110=>(if t110 = 0 then (if (Int.tmod a0 19) = 0 then (some (true,0)) else (if (Int.tmod a0 19) = 3 then (some (true,0)) else (if (Int.tmod a0 19) = 6 then (some (true,0)) else (if (Int.tmod a0 19) = 8 then (some (true,0)) else (if (Int.tmod a0 19) = 11 then (some (true,0)) else (if (Int.tmod a0 19) = 14 then (some (true,0)) else (if (Int.tmod a0 19) = 17 then (some (true,0)) else (some (false,0))))))))) else (some (false,t110)))) = some (r1,r2):=h
 clear h
 replace H := Option.bind_eq_some_iff.mp H
 obtain ⟨t110, A20, H⟩ := H
 replace H : (if t110 = 0 then (if (Int.tmod a0 19) = 0 then (some (true,0)) else (if (Int.tmod a0 19) = 3 then (some (true,0)) else (if (Int.tmod a0 19) = 6 then (some (true,0)) else (if (Int.tmod a0 19) = 8 then (some (true,0)) else (if (Int.tmod a0 19) = 11 then (some (true,0)) else (if (Int.tmod a0 19) = 14 then (some (true,0)) else (if (Int.tmod a0 19) = 17 then (some (true,0)) else (some (false,0))))))))) else (some (false,t110))) = some (r1,r2):=H
 have A2 := Aside0.mk A20
 clear A20
 by_cases c3 : t110 = 0
 ·
  rw [if_pos c3] at H
  have c3b0 : (t110 == 0) = true := beq_iff_eq.mpr c3
  have c3b1 : (t110 != 0) = false := bne_eq_false_iff_eq.mpr c3
  clear c3
  by_cases c4 : (Int.tmod a0 19) = 0
  ·
   rw [if_pos c4] at H
   have c4b0 : ((Int.tmod a0 19) == 0) = true := beq_iff_eq.mpr c4
   have c4b1 : ((Int.tmod a0 19) != 0) = false := bne_eq_false_iff_eq.mpr c4
   clear c4
   simp only [Option.some.injEq, Prod.mk.injEq] at H
   obtain ⟨rfl, rfl⟩ := H
   go_enter Tryz.func103, Tryz.ntmps103
   go_wp2_with (first|((with_reducible refine gate_callee (f:=150) rfl ?_);refine goesL_ (some 6) rfl rfl Tryz.func150 (by kernel_rfl) rfl #[.int .i64 a0] rfl (by (try simp only [List.map_toArray,List.map_cons,List.map_nil]);first|done|rfl|(simp only [List.length_drop,List.length_take];rfl)) ?_;(with_reducible refine (cycle_check.calls a0 t110 _ A2.out).mono ?_);rintro e w' ⟨rfl,⟨nd,rfl⟩⟩;refine ⟨_,rfl,?_⟩))
   go_ret2
   exact ⟨by first | rfl | (simp; done) | (simp [*]; done), by repeat (first | exact Drawn0.refl _ | apply Drawn0.step)⟩
  ·
   rw [if_neg c4] at H
   have c4b0 : ((Int.tmod a0 19) == 0) = false := beq_eq_false_iff_ne.mpr c4
   have c4b1 : ((Int.tmod a0 19) != 0) = true := bne_iff_ne.mpr c4
   by_cases c5 : (Int.tmod a0 19) = 3
   ·
    rw [if_pos c5] at H
    have c5b0 : ((Int.tmod a0 19) == 3) = true := beq_iff_eq.mpr c5
    have c5b1 : ((Int.tmod a0 19) != 3) = false := bne_eq_false_iff_eq.mpr c5
    clear c5
    simp only [Option.some.injEq, Prod.mk.injEq] at H
    obtain ⟨rfl, rfl⟩ := H
    go_enter Tryz.func103, Tryz.ntmps103
    go_wp2_with (first|((with_reducible refine gate_callee (f:=150) rfl ?_);refine goesL_ (some 6) rfl rfl Tryz.func150 (by kernel_rfl) rfl #[.int .i64 a0] rfl (by (try simp only [List.map_toArray,List.map_cons,List.map_nil]);first|done|rfl|(simp only [List.length_drop,List.length_take];rfl)) ?_;(with_reducible refine (cycle_check.calls a0 t110 _ A2.out).mono ?_);rintro e w' ⟨rfl,⟨nd,rfl⟩⟩;refine ⟨_,rfl,?_⟩))
    go_ret2
    exact ⟨by first | rfl | (simp; done) | (simp [*]; done), by repeat (first | exact Drawn0.refl _ | apply Drawn0.step)⟩
   ·
    rw [if_neg c5] at H
    have c5b0 : ((Int.tmod a0 19) == 3) = false := beq_eq_false_iff_ne.mpr c5
    have c5b1 : ((Int.tmod a0 19) != 3) = true := bne_iff_ne.mpr c5
    by_cases c6 : (Int.tmod a0 19) = 6
    ·
     rw [if_pos c6] at H
     have c6b0 : ((Int.tmod a0 19) == 6) = true := beq_iff_eq.mpr c6
     have c6b1 : ((Int.tmod a0 19) != 6) = false := bne_eq_false_iff_eq.mpr c6
     clear c6
     simp only [Option.some.injEq, Prod.mk.injEq] at H
     obtain ⟨rfl, rfl⟩ := H
     go_enter Tryz.func103, Tryz.ntmps103
     go_wp2_with (first|((with_reducible refine gate_callee (f:=150) rfl ?_);refine goesL_ (some 6) rfl rfl Tryz.func150 (by kernel_rfl) rfl #[.int .i64 a0] rfl (by (try simp only [List.map_toArray,List.map_cons,List.map_nil]);first|done|rfl|(simp only [List.length_drop,List.length_take];rfl)) ?_;(with_reducible refine (cycle_check.calls a0 t110 _ A2.out).mono ?_);rintro e w' ⟨rfl,⟨nd,rfl⟩⟩;refine ⟨_,rfl,?_⟩))
     go_ret2
     exact ⟨by first | rfl | (simp; done) | (simp [*]; done), by repeat (first | exact Drawn0.refl _ | apply Drawn0.step)⟩
    ·
     rw [if_neg c6] at H
     have c6b0 : ((Int.tmod a0 19) == 6) = false := beq_eq_false_iff_ne.mpr c6
     have c6b1 : ((Int.tmod a0 19) != 6) = true := bne_iff_ne.mpr c6
     by_cases c7 : (Int.tmod a0 19) = 8
     ·
      rw [if_pos c7] at H
      have c7b0 : ((Int.tmod a0 19) == 8) = true := beq_iff_eq.mpr c7
      have c7b1 : ((Int.tmod a0 19) != 8) = false := bne_eq_false_iff_eq.mpr c7
      clear c7
      simp only [Option.some.injEq, Prod.mk.injEq] at H
      obtain ⟨rfl, rfl⟩ := H
      go_enter Tryz.func103, Tryz.ntmps103
      go_wp2_with (first|((with_reducible refine gate_callee (f:=150) rfl ?_);refine goesL_ (some 6) rfl rfl Tryz.func150 (by kernel_rfl) rfl #[.int .i64 a0] rfl (by (try simp only [List.map_toArray,List.map_cons,List.map_nil]);first|done|rfl|(simp only [List.length_drop,List.length_take];rfl)) ?_;(with_reducible refine (cycle_check.calls a0 t110 _ A2.out).mono ?_);rintro e w' ⟨rfl,⟨nd,rfl⟩⟩;refine ⟨_,rfl,?_⟩))
      go_ret2
      exact ⟨by first | rfl | (simp; done) | (simp [*]; done), by repeat (first | exact Drawn0.refl _ | apply Drawn0.step)⟩
     ·
      rw [if_neg c7] at H
      have c7b0 : ((Int.tmod a0 19) == 8) = false := beq_eq_false_iff_ne.mpr c7
      have c7b1 : ((Int.tmod a0 19) != 8) = true := bne_iff_ne.mpr c7
      by_cases c8 : (Int.tmod a0 19) = 11
      ·
       rw [if_pos c8] at H
       have c8b0 : ((Int.tmod a0 19) == 11) = true := beq_iff_eq.mpr c8
       have c8b1 : ((Int.tmod a0 19) != 11) = false := bne_eq_false_iff_eq.mpr c8
       clear c8
       simp only [Option.some.injEq, Prod.mk.injEq] at H
       obtain ⟨rfl, rfl⟩ := H
       go_enter Tryz.func103, Tryz.ntmps103
       go_wp2_with (first|((with_reducible refine gate_callee (f:=150) rfl ?_);refine goesL_ (some 6) rfl rfl Tryz.func150 (by kernel_rfl) rfl #[.int .i64 a0] rfl (by (try simp only [List.map_toArray,List.map_cons,List.map_nil]);first|done|rfl|(simp only [List.length_drop,List.length_take];rfl)) ?_;(with_reducible refine (cycle_check.calls a0 t110 _ A2.out).mono ?_);rintro e w' ⟨rfl,⟨nd,rfl⟩⟩;refine ⟨_,rfl,?_⟩))
       go_ret2
       exact ⟨by first | rfl | (simp; done) | (simp [*]; done), by repeat (first | exact Drawn0.refl _ | apply Drawn0.step)⟩
      ·
       rw [if_neg c8] at H
       have c8b0 : ((Int.tmod a0 19) == 11) = false := beq_eq_false_iff_ne.mpr c8
       have c8b1 : ((Int.tmod a0 19) != 11) = true := bne_iff_ne.mpr c8
       by_cases c9 : (Int.tmod a0 19) = 14
       ·
        rw [if_pos c9] at H
        have c9b0 : ((Int.tmod a0 19) == 14) = true := beq_iff_eq.mpr c9
        have c9b1 : ((Int.tmod a0 19) != 14) = false := bne_eq_false_iff_eq.mpr c9
        clear c9
        simp only [Option.some.injEq, Prod.mk.injEq] at H
        obtain ⟨rfl, rfl⟩ := H
        go_enter Tryz.func103, Tryz.ntmps103
        go_wp2_with (first|((with_reducible refine gate_callee (f:=150) rfl ?_);refine goesL_ (some 6) rfl rfl Tryz.func150 (by kernel_rfl) rfl #[.int .i64 a0] rfl (by (try simp only [List.map_toArray,List.map_cons,List.map_nil]);first|done|rfl|(simp only [List.length_drop,List.length_take];rfl)) ?_;(with_reducible refine (cycle_check.calls a0 t110 _ A2.out).mono ?_);rintro e w' ⟨rfl,⟨nd,rfl⟩⟩;refine ⟨_,rfl,?_⟩))
        go_ret2
        exact ⟨by first | rfl | (simp; done) | (simp [*]; done), by repeat (first | exact Drawn0.refl _ | apply Drawn0.step)⟩
       ·
        rw [if_neg c9] at H
        have c9b0 : ((Int.tmod a0 19) == 14) = false := beq_eq_false_iff_ne.mpr c9
        have c9b1 : ((Int.tmod a0 19) != 14) = true := bne_iff_ne.mpr c9
        by_cases c10 : (Int.tmod a0 19) = 17
        ·
         rw [if_pos c10] at H
         have c10b0 : ((Int.tmod a0 19) == 17) = true := beq_iff_eq.mpr c10
         have c10b1 : ((Int.tmod a0 19) != 17) = false := bne_eq_false_iff_eq.mpr c10
         clear c10
         simp only [Option.some.injEq, Prod.mk.injEq] at H
         obtain ⟨rfl, rfl⟩ := H
         go_enter Tryz.func103, Tryz.ntmps103
         go_wp2_with (first|((with_reducible refine gate_callee (f:=150) rfl ?_);refine goesL_ (some 6) rfl rfl Tryz.func150 (by kernel_rfl) rfl #[.int .i64 a0] rfl (by (try simp only [List.map_toArray,List.map_cons,List.map_nil]);first|done|rfl|(simp only [List.length_drop,List.length_take];rfl)) ?_;(with_reducible refine (cycle_check.calls a0 t110 _ A2.out).mono ?_);rintro e w' ⟨rfl,⟨nd,rfl⟩⟩;refine ⟨_,rfl,?_⟩))
         go_ret2
         exact ⟨by first | rfl | (simp; done) | (simp [*]; done), by repeat (first | exact Drawn0.refl _ | apply Drawn0.step)⟩
        ·
         rw [if_neg c10] at H
         have c10b0 : ((Int.tmod a0 19) == 17) = false := beq_eq_false_iff_ne.mpr c10
         have c10b1 : ((Int.tmod a0 19) != 17) = true := bne_iff_ne.mpr c10
         simp only [Option.some.injEq, Prod.mk.injEq] at H
         obtain ⟨rfl, rfl⟩ := H
         go_enter Tryz.func103, Tryz.ntmps103
         go_wp2_with (first|((with_reducible refine gate_callee (f:=150) rfl ?_);refine goesL_ (some 6) rfl rfl Tryz.func150 (by kernel_rfl) rfl #[.int .i64 a0] rfl (by (try simp only [List.map_toArray,List.map_cons,List.map_nil]);first|done|rfl|(simp only [List.length_drop,List.length_take];rfl)) ?_;(with_reducible refine (cycle_check.calls a0 t110 _ A2.out).mono ?_);rintro e w' ⟨rfl,⟨nd,rfl⟩⟩;refine ⟨_,rfl,?_⟩))
         go_ret2
         exact ⟨by first | rfl | (simp; done) | (simp [*]; done), by repeat (first | exact Drawn0.refl _ | apply Drawn0.step)⟩
 ·
  rw [if_neg c3] at H
  have c3b0 : (t110 == 0) = false := beq_eq_false_iff_ne.mpr c3
  have c3b1 : (t110 != 0) = true := bne_iff_ne.mpr c3
  simp only [Option.some.injEq, Prod.mk.injEq] at H
  obtain ⟨rfl, rfl⟩ := H
  go_enter Tryz.func103, Tryz.ntmps103
  go_wp2_with (first|((with_reducible refine gate_callee (f:=150) rfl ?_);refine goesL_ (some 6) rfl rfl Tryz.func150 (by kernel_rfl) rfl #[.int .i64 a0] rfl (by (try simp only [List.map_toArray,List.map_cons,List.map_nil]);first|done|rfl|(simp only [List.length_drop,List.length_take];rfl)) ?_;(with_reducible refine (cycle_check.calls a0 t110 _ A2.out).mono ?_);rintro e w' ⟨rfl,⟨nd,rfl⟩⟩;refine ⟨_,rfl,?_⟩))
  go_ret2
  exact ⟨by first | rfl | (simp; done) | (simp [*]; done), by repeat (first | exact Drawn0.refl _ | apply Drawn0.step)⟩

def cycle_In.f (a0 : Int) : Option (Int × Int) := (cycle_Leap.f a0).bind fun bt111 => (if bt111.2 = 0 then (if bt111.1 = true then (some (13, 0)) else (some (12, 0))) else (some (0, bt111.2)))
set_option maxHeartbeats 8000000 in
set_option maxRecDepth 100000 in
theorem cycle_In.calls (a0 : Int) (r1 : Int) (r2 : Int) (w : World) (h : cycle_In.f a0 = some (r1, r2)) :
  Calls Tryz.prog 180 #[.int .i64 a0] w fun e w' => e = .returned (.tuple #[.int .i64 r1, .int .i64 r2]) ∧ Drawn0 w w' := by
 have H : ((cycle_Leap.f a0).bind fun bt111 => (if bt111.2 = 0 then (if bt111.1 = true then (some (13, 0)) else (some (12, 0))) else (some (0, bt111.2)))) = some (r1, r2) := h
 clear h
 replace H := Option.bind_eq_some_iff.mp H
 obtain ⟨⟨t111, t112⟩, A20, H⟩ := H
 replace H : (if t112 = 0 then (if t111 = true then (some (13, 0)) else (some (12, 0))) else (some (0, t112))) = some (r1, r2) := H
 have A2 := Aside0.mk A20
 clear A20
 by_cases c3 : t112 = 0
 ·
  rw [if_pos c3] at H
  have c3b0 : (t112 == 0) = true := beq_iff_eq.mpr c3
  have c3b1 : (t112 != 0) = false := bne_eq_false_iff_eq.mpr c3
  clear c3
  by_cases c4 : t111 = true
  ·
   subst c4
   have H1 : (some (13, 0)) = some (r1, r2) := by rw [if_pos rfl] at H; exact H
   clear H
   have H := H1
   clear H1
   simp only [Option.some.injEq, Prod.mk.injEq] at H
   obtain ⟨rfl, rfl⟩ := H
   go_enter Tryz.func180, Tryz.ntmps180
   go_wp2_with (first|((with_reducible refine gate_callee (f:=103) rfl ?_);refine goesL_ (some 8) rfl rfl Tryz.func103 (by kernel_rfl) rfl #[.int .i64 a0] rfl (by (try simp only [List.map_toArray,List.map_cons,List.map_nil]);first|done|rfl|(simp only [List.length_drop,List.length_take];rfl)) ?_;(with_reducible refine (cycle_Leap.calls a0 true t112 _ A2.out).mono ?_);rintro e w' ⟨rfl,⟨nd,rfl⟩⟩;refine ⟨_,rfl,?_⟩))
   go_ret2
   exact ⟨by first | rfl | (simp; done) | (simp [*]; done), by repeat (first | exact Drawn0.refl _ | apply Drawn0.step)⟩
  ·
   replace c4 := Bool.eq_false_iff.mpr c4
   subst c4
   have H1 : (some (12, 0)) = some (r1, r2) := by rw [if_neg (show ¬ (false = true) by decide)] at H; exact H
   clear H
   have H := H1
   clear H1
   simp only [Option.some.injEq, Prod.mk.injEq] at H
   obtain ⟨rfl, rfl⟩ := H
   go_enter Tryz.func180, Tryz.ntmps180
   go_wp2_with (first|((with_reducible refine gate_callee (f:=103) rfl ?_);refine goesL_ (some 8) rfl rfl Tryz.func103 (by kernel_rfl) rfl #[.int .i64 a0] rfl (by (try simp only [List.map_toArray,List.map_cons,List.map_nil]);first|done|rfl|(simp only [List.length_drop,List.length_take];rfl)) ?_;(with_reducible refine (cycle_Leap.calls a0 false t112 _ A2.out).mono ?_);rintro e w' ⟨rfl,⟨nd,rfl⟩⟩;refine ⟨_,rfl,?_⟩))
   go_ret2
   exact ⟨by first | rfl | (simp; done) | (simp [*]; done), by repeat (first | exact Drawn0.refl _ | apply Drawn0.step)⟩
 ·
  rw [if_neg c3] at H
  have c3b0 : (t112 == 0) = false := beq_eq_false_iff_ne.mpr c3
  have c3b1 : (t112 != 0) = true := bne_iff_ne.mpr c3
  simp only [Option.some.injEq, Prod.mk.injEq] at H
  obtain ⟨rfl, rfl⟩ := H
  go_enter Tryz.func180, Tryz.ntmps180
  go_wp2_with (first|((with_reducible refine gate_callee (f:=103) rfl ?_);refine goesL_ (some 8) rfl rfl Tryz.func103 (by kernel_rfl) rfl #[.int .i64 a0] rfl (by (try simp only [List.map_toArray,List.map_cons,List.map_nil]);first|done|rfl|(simp only [List.length_drop,List.length_take];rfl)) ?_;(with_reducible refine (cycle_Leap.calls a0 t111 t112 _ A2.out).mono ?_);rintro e w' ⟨rfl,⟨nd,rfl⟩⟩;refine ⟨_,rfl,?_⟩))
  go_ret2
  exact ⟨by first | rfl | (simp; done) | (simp [*]; done), by repeat (first | exact Drawn0.refl _ | apply Drawn0.step)⟩

def exact_Div.f (a0 : Int) (a1 : Int) : Option (Int × Int) := if a1 < 1 then (some (0, 1)) else ((exact_both.f a0 a1).bind fun bt113 => (some (bt113.1, 0)))
set_option maxHeartbeats 8000000 in
set_option maxRecDepth 100000 in
theorem exact_Div.calls (a0 : Int) (a1 : Int) (r1 : Int) (r2 : Int) (w : World) (h : exact_Div.f a0 a1 = some (r1, r2)) :
  Calls Tryz.prog 217 #[.int .i64 a0, .int .i64 a1] w fun e w' => e = .returned (.tuple #[.int .i64 r1, .int .i64 r2]) ∧ Drawn0 w w' := by
 have H : (if a1 < 1 then (some (0, 1)) else ((exact_both.f a0 a1).bind fun bt113 => (some (bt113.1, 0)))) = some (r1, r2) := h
 clear h
 by_cases c3 : a1 < 1
 ·
  rw [if_pos c3] at H
  have c3b0 : decide (a1 < 1) = true := decide_eq_true c3
  clear c3
  simp only [Option.some.injEq, Prod.mk.injEq] at H
  obtain ⟨rfl, rfl⟩ := H
  go_enter Tryz.func217, Tryz.ntmps217
  go_wp2
  go_ret2
  exact ⟨by first | rfl | (simp; done) | (simp [*]; done), by repeat (first | exact Drawn0.refl _ | apply Drawn0.step)⟩
 ·
  rw [if_neg c3] at H
  have c3b0 : decide (a1 < 1) = false := decide_eq_false c3
  clear c3
  replace H := Option.bind_eq_some_iff.mp H
  obtain ⟨⟨t113, t114⟩, A40, H⟩ := H
  replace H : (some (t113, 0)) = some (r1, r2) := H
  have A4 := Aside0.mk A40
  clear A40
  simp only [Option.some.injEq, Prod.mk.injEq] at H
  obtain ⟨rfl, rfl⟩ := H
  go_enter Tryz.func217, Tryz.ntmps217
  go_wp2_with (first|((with_reducible refine gate_callee (f:=229) rfl ?_);refine goesL_ (some 13) rfl rfl Tryz.func229 (by kernel_rfl) rfl #[.int .i64 a0,.int .i64 a1] rfl (by (try simp only [List.map_toArray,List.map_cons,List.map_nil]);first|done|rfl|(simp only [List.length_drop,List.length_take];rfl)) ?_;(with_reducible refine (exact_both.calls a0 a1 t113 t114 _ A4.out).mono ?_);rintro e w' ⟨rfl,⟨nd,rfl⟩⟩;refine ⟨_,rfl,?_⟩))
  go_ret2
  exact ⟨by first | rfl | (simp; done) | (simp [*]; done), by repeat (first | exact Drawn0.refl _ | apply Drawn0.step)⟩

def cycle_Before.f (a0 : Int) : Option (Int × Int) := (cycle_check.f a0).bind fun t115 => (if t115 = 0 then ((exact_Div.f (wrap64 ((wrap64 (235 * (wrap64 (a0 - 1)))) + 1)) 19).bind fun bt116 => (some (bt116.1, bt116.2))) else (some (0, t115)))
set_option maxHeartbeats 8000000 in
set_option maxRecDepth 100000 in
theorem cycle_Before.calls (a0 : Int) (r1 : Int) (r2 : Int) (w : World) (h : cycle_Before.f a0 = some (r1, r2)) :
  Calls Tryz.prog 181 #[.int .i64 a0] w fun e w' => e = .returned (.tuple #[.int .i64 r1, .int .i64 r2]) ∧ Drawn0 w w' := by
 have H : ((cycle_check.f a0).bind fun t115=>(if t115 = 0 then ((exact_Div.f (wrap64 ((wrap64 (235 * (wrap64 (a0 - 1)))) + 1)) 19).bind fun bt116=>(some (bt116.1,bt116.2))) else (some (0,t115)))) = some (r1,r2):=h
 clear h
 replace H := Option.bind_eq_some_iff.mp H
 obtain ⟨t115, A20, H⟩ := H
 replace H : (if t115 = 0 then ((exact_Div.f (wrap64 ((wrap64 (235 * (wrap64 (a0 - 1)))) + 1)) 19).bind fun bt116 => (some (bt116.1, bt116.2))) else (some (0, t115))) = some (r1, r2) := H
 have A2 := Aside0.mk A20
 clear A20
 by_cases c3 : t115 = 0
 ·
  rw [if_pos c3] at H
  have c3b0 : (t115 == 0) = true := beq_iff_eq.mpr c3
  have c3b1 : (t115 != 0) = false := bne_eq_false_iff_eq.mpr c3
  clear c3
  replace H := Option.bind_eq_some_iff.mp H
  obtain ⟨⟨t116, t117⟩, A40, H⟩ := H
  replace H : (some (t116, t117)) = some (r1, r2) := H
  have A4 := Aside0.mk A40
  clear A40
  simp only [Option.some.injEq, Prod.mk.injEq] at H
  obtain ⟨rfl, rfl⟩ := H
  go_enter Tryz.func181, Tryz.ntmps181
  go_wp2_with (first|((with_reducible refine gate_callee (f:=150) rfl ?_);refine goesL_ (some 6) rfl rfl Tryz.func150 (by kernel_rfl) rfl #[.int .i64 a0] rfl (by (try simp only [List.map_toArray,List.map_cons,List.map_nil]);first|done|rfl|(simp only [List.length_drop,List.length_take];rfl)) ?_;(with_reducible refine (cycle_check.calls a0 t115 _ A2.out).mono ?_);rintro e w' ⟨rfl,⟨nd,rfl⟩⟩;refine ⟨_,rfl,?_⟩)|((with_reducible refine gate_callee (f:=217) rfl ?_);refine goesL_ (some 14) rfl rfl Tryz.func217 (by kernel_rfl) rfl #[.int .i64 (wrap64 ((wrap64 (235 * (wrap64 (a0 - 1)))) + 1)),.int .i64 19] rfl (by (try simp only [List.map_toArray,List.map_cons,List.map_nil]);first|done|rfl|(simp only [List.length_drop,List.length_take];rfl)) ?_;(with_reducible refine (exact_Div.calls (wrap64 ((wrap64 (235 * (wrap64 (a0 - 1)))) + 1)) 19 t116 t117 _ A4.out).mono ?_);rintro e w' ⟨rfl,⟨nd,rfl⟩⟩;refine ⟨_,rfl,?_⟩))
  go_ret2
  exact ⟨by first | rfl | (simp; done) | (simp [*]; done), by repeat (first | exact Drawn0.refl _ | apply Drawn0.step)⟩
 ·
  rw [if_neg c3] at H
  have c3b0 : (t115 == 0) = false := beq_eq_false_iff_ne.mpr c3
  have c3b1 : (t115 != 0) = true := bne_iff_ne.mpr c3
  simp only [Option.some.injEq, Prod.mk.injEq] at H
  obtain ⟨rfl, rfl⟩ := H
  go_enter Tryz.func181, Tryz.ntmps181
  go_wp2_with (first|((with_reducible refine gate_callee (f:=150) rfl ?_);refine goesL_ (some 6) rfl rfl Tryz.func150 (by kernel_rfl) rfl #[.int .i64 a0] rfl (by (try simp only [List.map_toArray,List.map_cons,List.map_nil]);first|done|rfl|(simp only [List.length_drop,List.length_take];rfl)) ?_;(with_reducible refine (cycle_check.calls a0 t115 _ A2.out).mono ?_);rintro e w' ⟨rfl,⟨nd,rfl⟩⟩;refine ⟨_,rfl,?_⟩))
  go_ret2
  exact ⟨by first | rfl | (simp; done) | (simp [*]; done), by repeat (first | exact Drawn0.refl _ | apply Drawn0.step)⟩

def halak_Moons.f (a0 : Int) : Option (Int × Int) := (exact_Mul.f a0 765433).bind fun bt118 => (some (bt118.1, bt118.2))
set_option maxHeartbeats 8000000 in
set_option maxRecDepth 100000 in
theorem halak_Moons.calls (a0 : Int) (r1 : Int) (r2 : Int) (w : World) (h : halak_Moons.f a0 = some (r1, r2)) :
  Calls Tryz.prog 230 #[.int .i64 a0] w fun e w' => e = .returned (.tuple #[.int .i64 r1, .int .i64 r2]) ∧ Drawn0 w w' := by
 have H : ((exact_Mul.f a0 765433).bind fun bt118 => (some (bt118.1, bt118.2))) = some (r1, r2) := h
 clear h
 replace H := Option.bind_eq_some_iff.mp H
 obtain ⟨⟨t118, t119⟩, A20, H⟩ := H
 replace H : (some (t118, t119)) = some (r1, r2) := H
 have A2 := Aside0.mk A20
 clear A20
 simp only [Option.some.injEq, Prod.mk.injEq] at H
 obtain ⟨rfl, rfl⟩ := H
 go_enter Tryz.func230, Tryz.ntmps230
 go_wp2_with (first|((with_reducible refine gate_callee (f:=259) rfl ?_);refine goesL_ (some 5) rfl rfl Tryz.func259 (by kernel_rfl) rfl #[.int .i64 a0,.int .i64 765433] rfl (by (try simp only [List.map_toArray,List.map_cons,List.map_nil]);first|done|rfl|(simp only [List.length_drop,List.length_take];rfl)) ?_;(with_reducible refine (exact_Mul.calls a0 765433 t118 t119 _ A2.out).mono ?_);rintro e w' ⟨rfl,⟨nd,rfl⟩⟩;refine ⟨_,rfl,?_⟩))
 go_ret2
 exact ⟨by first | rfl | (simp; done) | (simp [*]; done), by repeat (first | exact Drawn0.refl _ | apply Drawn0.step)⟩

def halak_Split.f (a0 : Int) : Option (Int × Int) := (exact_Div.f a0 25920).bind fun bt121 => ((exact_Mod.f a0 25920).bind fun bt123 => (some (bt121.1, bt123.1)))
set_option maxHeartbeats 8000000 in
set_option maxRecDepth 100000 in
theorem halak_Split.calls (a0 : Int) (r1 : Int) (r2 : Int) (w : World) (h : halak_Split.f a0 = some (r1, r2)) :
  Calls Tryz.prog 231 #[.int .i64 a0] w fun e w' => e = .returned (.agg #[.int .i64 r1, .int .i64 r2]) ∧ Below w.heap.size w w' := by
 have hu147 := Tryz.underlying147
 have HB := Aside0.mk (Below.refl w.heap.size w)
 have H : ((exact_Div.f a0 25920).bind fun bt121 => ((exact_Mod.f a0 25920).bind fun bt123 => (some (bt121.1, bt123.1)))) = some (r1, r2) := h
 clear h
 replace H := Option.bind_eq_some_iff.mp H
 obtain ⟨⟨t121, t122⟩, A20, H⟩ := H
 replace H : ((exact_Mod.f a0 25920).bind fun bt123 => (some (t121, bt123.1))) = some (r1, r2) := H
 have A2 := Aside0.mk A20
 clear A20
 replace H := Option.bind_eq_some_iff.mp H
 obtain ⟨⟨t123, t124⟩, A30, H⟩ := H
 replace H : (some (t121, t123)) = some (r1, r2) := H
 have A3 := Aside0.mk A30
 clear A30
 simp only [Option.some.injEq, Prod.mk.injEq] at H
 obtain ⟨rfl, rfl⟩ := H
 go_enter Tryz.func231, Tryz.ntmps231
 go_wp2_with (first|((with_reducible refine gate_dst (N:=2) rfl ?_);refine box_event ?hg (N:=2) ?hd (cs:=#[.int .i64 0,.int .i64 0]) (t:=147) ?hr ?_;(case hd=>rfl);(case hg=>rfl);(case hr=>first|(go_simp;done)|(go_simp;rfl));intro gb120 hg w4 hbox hb;have n0_:=Aside0.mk (below_step (by repeat (first|(with_reducible first|exact HB.out|apply below_alloc|apply pw_below_drewN|apply below_drew1)|exact HB.out)) hb);have n1_:=Aside0.mk (hbox);have n2_:=Aside0.mk ((by rw [hg];exact (below_size (by repeat (first|(with_reducible first|exact HB.out|apply below_alloc|apply pw_below_drewN|apply below_drew1)|exact HB.out))) : w.heap.size ≤ gb120));have n3_:=Aside0.mk ((by rw [hg];exact (below_size (by repeat (first|(with_reducible first|exact HB.out|apply below_alloc|apply pw_below_drewN|apply below_drew1)|exact HB.out))) : w.heap.size ≤ gb120));clear HB;have HB:=n0_;have BK120:=n1_;have GW120:=n2_;have GE120:=n3_;clear n0_ n1_ n2_ n3_;clear hb hbox hg)|((with_reducible refine gate_callee (f:=217) rfl ?_);refine goesL_ (some 9) rfl rfl Tryz.func217 (by kernel_rfl) rfl #[.int .i64 a0,.int .i64 25920] rfl (by (try simp only [List.map_toArray,List.map_cons,List.map_nil]);first|done|rfl|(simp only [List.length_drop,List.length_take];rfl)) ?_;(with_reducible refine (exact_Div.calls a0 25920 t121 t122 _ A2.out).mono ?_);rintro e w' ⟨rfl,⟨nd,rfl⟩⟩;refine ⟨_,rfl,?_⟩;(try (rw [drewN_self w4];generalize hq_ : World.drewN w4 _ = w4;have n0_ : Aside0 (w4.heap[gb120]? = some (.cells #[.int .i64 0,.int .i64 0] 147 (0,0))):=⟨by rw [← hq_];exact (by (with_reducible repeat (first|refine blk_drewN ?_ _|refine blk_drew ?_|refine blk_alloc ?_ _));exact BK120.out)⟩;have n1_ : Aside0 (Below w.heap.size w w4):=⟨by rw [← hq_];exact (by repeat (first|(with_reducible first|exact HB.out|apply below_alloc|apply pw_below_drewN|apply below_drew1|refine below_set ?_ GE120.out)|exact HB.out))⟩;clear BK120 HB hq_;have BK120:=n0_;have HB:=n1_;clear n0_ n1_)))|((with_reducible refine gate_callee (f:=179) rfl ?_);refine goesL_ (some 14) rfl rfl Tryz.func179 (by kernel_rfl) rfl #[.int .i64 a0,.int .i64 25920] rfl (by (try simp only [List.map_toArray,List.map_cons,List.map_nil]);first|done|rfl|(simp only [List.length_drop,List.length_take];rfl)) ?_;(with_reducible refine (exact_Mod.calls a0 25920 t123 t124 _ A3.out).mono ?_);rintro e w' ⟨rfl,⟨nd,rfl⟩⟩;refine ⟨_,rfl,?_⟩;(try (rw [drewN_self w4];generalize hq_ : World.drewN w4 _ = w4;have n0_ : Aside0 (w4.heap[gb120]? = some (.cells #[.int .i64 0,.int .i64 0] 147 (0,0))):=⟨by rw [← hq_];exact (by (with_reducible repeat (first|refine blk_drewN ?_ _|refine blk_drew ?_|refine blk_alloc ?_ _));exact BK120.out)⟩;have n1_ : Aside0 (Below w.heap.size w w4):=⟨by rw [← hq_];exact (by repeat (first|(with_reducible first|exact HB.out|apply below_alloc|apply pw_below_drewN|apply below_drew1|refine below_set ?_ GE120.out)|exact HB.out))⟩;clear BK120 HB hq_;have BK120:=n0_;have HB:=n1_;clear n0_ n1_));have hcz5_0 : w4.cell? ⟨gb120,0,none⟩ = some (.int .i64 0):=(blk_cell BK120.out 0).trans rfl;have hcz5_1 : w4.cell? ⟨gb120,1,none⟩ = some (.int .i64 0):=(blk_cell BK120.out 1).trans rfl;have hfz5_0:=blk_frozen BK120.out 0;have hfz5_1:=blk_frozen BK120.out 1))
 refine bodyPost_ret (results_cell_row rfl _ _ gb120 147 #[.int .i64 t121,.int .i64 t123] (0,0) _ rfl (by (with_reducible repeat (first|refine blk_drewN ?_ _|refine blk_drew ?_|refine blk_alloc ?_ _));refine blk_put (cs:=#[.int .i64 t121,.int .i64 0]) ?_ 1 _ rfl;(with_reducible repeat (first|refine blk_drewN ?_ _|refine blk_drew ?_|refine blk_alloc ?_ _));refine blk_put (cs:=#[.int .i64 0,.int .i64 0]) ?_ 0 _ rfl;(with_reducible repeat (first|refine blk_drewN ?_ _|refine blk_drew ?_|refine blk_alloc ?_ _));exact BK120.out) Tryz.underlying147 rfl (by kernel_rfl)) rfl ?_
 exact ⟨by first|rfl|(simp [errW_none,errW_some] <;> rfl)|(simp [*,errW_none,errW_some] <;> rfl),by repeat (first|(with_reducible first|exact HB.out|apply below_alloc|apply pw_below_drewN|apply below_drew1|refine below_set ?_ GE120.out)|exact HB.out)⟩

def molad_Moon.j0 : Nat → Int → Bool → Option (Int × Int × Int)
  | 0, _, _ => none
  | k + 1, x0, x12 => if x12 = true then (some (0, 0, 2)) else ((halak_Moons.f x0).bind fun bt126 => (if bt126.2 = 0 then ((halak_Split.f (wrap64 (bt126.1 + 5604))).bind fun bt128 => (some (wrap64 (bt128.1 + (-1373427)), bt128.2, 0))) else (some (0, 0, bt126.2))))
def molad_Moon.f (k : Nat) (a0 : Int) : Option (Int × Int × Int) := if a0 < (-200000) then (molad_Moon.j0 k a0 true) else (molad_Moon.j0 k a0 (decide (a0 > 200000)))
theorem molad_Moon.mono_l : ∀ k, (∀ y0 y1, LeO (molad_Moon.j0 k y0 y1) (molad_Moon.j0 (k + 1) y0 y1))
 | 0 => fun _ _ r h => by simp [molad_Moon.j0] at h
 | k + 1 => by
  have ih0 := molad_Moon.mono_l k
  ·
   intro y0 y1
   unfold molad_Moon.j0
   repeat' first
   | (with_reducible exact ih0 _ _)
   | (with_reducible exact LeO.refl _)
   | (with_reducible exact LeO.none _)
   | (with_reducible refine LeO.ite ?_ ?_)
   | (with_reducible refine LeO.bind ?_ (fun _ => ?_))
   | exact ih0 _ _
   | exact LeO.none _
   | refine LeO.ite ?_ ?_
   | refine LeO.bind ?_ (fun _ => ?_)
theorem molad_Moon.mono : ∀ a0 k, LeO (molad_Moon.f k a0) (molad_Moon.f (k + 1) a0) := by
 intro a0 k
 have ih0 := molad_Moon.mono_l k
 unfold molad_Moon.f
 repeat' first
   | (with_reducible exact ih0 _ _)
   | (with_reducible exact LeO.refl _)
   | (with_reducible exact LeO.none _)
   | (with_reducible refine LeO.ite ?_ ?_)
   | (with_reducible refine LeO.bind ?_ (fun _ => ?_))
   | exact ih0 _ _
   | exact LeO.none _
   | refine LeO.ite ?_ ?_
   | refine LeO.bind ?_ (fun _ => ?_)
set_option maxHeartbeats 8000000 in
set_option maxRecDepth 100000 in
theorem molad_Moon.calls (k : Nat) (a0 : Int) (r1 : Int) (r2 : Int) (r3 : Int) (w : World) (h : molad_Moon.f k a0 = some (r1, r2, r3)) :
  Calls Tryz.prog 182 #[.int .i64 a0] w fun e w' => e = .returned (.tuple #[.agg #[.int .i64 r1, .int .i64 r2], .int .i64 r3]) ∧ Below w.heap.size w w' := by
 have hu147 := Tryz.underlying147
 have HB := Aside0.mk (Below.refl w.heap.size w)
 have H : (if a0 < (-200000) then (molad_Moon.j0 k a0 true) else (molad_Moon.j0 k a0 (decide (a0 > 200000)))) = some (r1, r2, r3) := h
 clear h
 have HC2 := Aside0.mk H
 clear H
 go_enter Tryz.func182, Tryz.ntmps182
 go_upto_region 1 with (first|((with_reducible refine gate_dst (N:=2) rfl ?_);refine box_event ?hg (N:=2) ?hd (cs:=#[.int .i64 0,.int .i64 0]) (t:=147) ?hr ?_;(case hd=>rfl);(case hg=>rfl);(case hr=>first|(go_simp;done)|(go_simp;rfl));intro gb125 hg w3 hbox hb;have n0_:=Aside0.mk (below_step (by repeat (first|(with_reducible first|exact HB.out|apply below_alloc|apply pw_below_drewN|apply below_drew1)|exact HB.out)) hb);have n1_:=Aside0.mk (hbox);have n2_:=Aside0.mk ((by rw [hg];exact (below_size (by repeat (first|(with_reducible first|exact HB.out|apply below_alloc|apply pw_below_drewN|apply below_drew1)|exact HB.out))) : w.heap.size ≤ gb125));have n3_:=Aside0.mk ((by rw [hg];exact (below_size (by repeat (first|(with_reducible first|exact HB.out|apply below_alloc|apply pw_below_drewN|apply below_drew1)|exact HB.out))) : w.heap.size ≤ gb125));clear HB;have HB:=n0_;have BK125:=n1_;have GW125:=n2_;have GE125:=n3_;clear n0_ n1_ n2_ n3_;clear hb hbox hg))
 (try simp only [Act.put, List.setIfInBounds_toArray, List.set_cons_zero, List.set_cons_succ])
 go_cut [12] (fun v12 wc=>∃ (kq : Nat) (x12_1 : Bool),v12 = .bool x12_1 ∧ Aside0 (molad_Moon.j0 kq a0 x12_1 = some (r1,r2,r3)) ∧ Aside0 (kq ≤ k) ∧ Aside0 (wc.heap[gb125]? = some (.cells #[.int .i64 0,.int .i64 0] 147 (0,0))) ∧ Aside0 (Below w.heap.size w wc))
 case first =>
  have H := HC2.out
  clear HC2
  by_cases c4 : a0 < (-200000)
  ·
   rw [if_pos c4] at H
   have c4b0 : decide (a0 < (-200000)) = true := decide_eq_true c4
   clear c4
   (first | rw [c4b0] | (simp only [i64_w, i32_w]; rw [c4b0]) | skip)
   have H' := Aside0.mk H
   clear H
   go_wp2
   go_meet
   case rel=>exact ⟨_,(true),(by first|rfl|(simp;done)|(simp [*];done)),H',⟨by first|omega|exact Nat.le_refl _⟩,⟨by (with_reducible repeat (first|refine blk_drewN ?_ _|refine blk_drew ?_|refine blk_alloc ?_ _));exact BK125.out⟩,⟨by repeat (first|(with_reducible first|exact HB.out|apply below_alloc|apply pw_below_drewN|apply below_drew1|refine below_set ?_ GE125.out)|exact HB.out)⟩⟩
  ·
   rw [if_neg c4] at H
   have c4b0 : decide (a0 < (-200000)) = false := decide_eq_false c4
   clear c4
   (first | rw [c4b0] | (simp only [i64_w, i32_w]; rw [c4b0]) | skip)
   have H' := Aside0.mk H
   clear H
   go_wp2
   go_meet
   case rel=>exact ⟨_,(decide (a0 > 200000)),(by first|rfl|(simp;done)|(simp [*];done)),H',⟨by first|omega|exact Nat.le_refl _⟩,⟨by (with_reducible repeat (first|refine blk_drewN ?_ _|refine blk_drew ?_|refine blk_alloc ?_ _));exact BK125.out⟩,⟨by repeat (first|(with_reducible first|exact HB.out|apply below_alloc|apply pw_below_drewN|apply below_drew1|refine below_set ?_ GE125.out)|exact HB.out)⟩⟩
 case rest =>
  clear HC2
  try clear c1
  try clear p2
  try clear c4
  try clear c4b0
  obtain ⟨kq, x12_1, rfl, HA, HJ1, BK125, HB⟩ := hcut
  cases kq with
  | zero => exact absurd HA.out (by simp [molad_Moon.j0])
  | succ kj1 =>
   have H := HA.out
   clear HA
   simp only [molad_Moon.j0] at H
   by_cases c5 : x12_1 = true
   ·
    subst c5
    have H1 : (some (0, 0, 2)) = some (r1, r2, r3) := by rw [if_pos rfl] at H; exact H
    clear H
    have H := H1
    clear H1
    simp only [Option.some.injEq, Prod.mk.injEq] at H
    obtain ⟨rfl, rfl, rfl⟩ := H
    have hcz6_0 : wc.cell? ⟨gb125, 0, none⟩ = some (.int .i64 0) := (blk_cell BK125.out 0).trans rfl
    have hcz6_1 : wc.cell? ⟨gb125, 1, none⟩ = some (.int .i64 0) := (blk_cell BK125.out 1).trans rfl
    have hfz6_0 := blk_frozen BK125.out 0
    have hfz6_1 := blk_frozen BK125.out 1
    go_wp2
    refine bodyPost_ret (results_ct rfl _ _ gb125 147 #[.int .i64 0,.int .i64 0] (0,0) _ rfl (by (with_reducible repeat (first|refine blk_drewN ?_ _|refine blk_drew ?_|refine blk_alloc ?_ _));refine blk_put (cs:=#[.int .i64 0,.int .i64 0]) ?_ 1 _ rfl;(with_reducible repeat (first|refine blk_drewN ?_ _|refine blk_drew ?_|refine blk_alloc ?_ _));refine blk_put (cs:=#[.int .i64 0,.int .i64 0]) ?_ 0 _ rfl;(with_reducible repeat (first|refine blk_drewN ?_ _|refine blk_drew ?_|refine blk_alloc ?_ _));exact BK125.out) Tryz.underlying147 rfl (by kernel_rfl)) rfl ?_
    exact ⟨by first|rfl|(simp [errW_none,errW_some] <;> rfl)|(simp [*,errW_none,errW_some] <;> rfl),by repeat (first|(with_reducible first|exact HB.out|apply below_alloc|apply pw_below_drewN|apply below_drew1|refine below_set ?_ GE125.out)|exact HB.out)⟩
   ·
    replace c5 := Bool.eq_false_iff.mpr c5
    subst c5
    have H1 : ((halak_Moons.f a0).bind fun bt126=>(if bt126.2 = 0 then ((halak_Split.f (wrap64 (bt126.1 + 5604))).bind fun bt128=>(some (wrap64 (bt128.1 + (-1373427)),bt128.2,0))) else (some (0,0,bt126.2)))) = some (r1,r2,r3):=by rw [if_neg (show ¬ (false = true) by decide)] at H;exact H
    clear H
    have H := H1
    clear H1
    replace H := Option.bind_eq_some_iff.mp H
    obtain ⟨⟨t126, t127⟩, A70, H⟩ := H
    replace H : (if t127 = 0 then ((halak_Split.f (wrap64 (t126 + 5604))).bind fun bt128 => (some (wrap64 (bt128.1 + (-1373427)), bt128.2, 0))) else (some (0, 0, t127))) = some (r1, r2, r3) := H
    have A7 := Aside0.mk A70
    clear A70
    by_cases c8 : t127 = 0
    ·
     rw [if_pos c8] at H
     have c8b0 : (t127 == 0) = true := beq_iff_eq.mpr c8
     have c8b1 : (t127 != 0) = false := bne_eq_false_iff_eq.mpr c8
     clear c8
     replace H := Option.bind_eq_some_iff.mp H
     obtain ⟨⟨t128, t129⟩, A90, H⟩ := H
     replace H : (some (wrap64 (t128 + (-1373427)), t129, 0)) = some (r1, r2, r3) := H
     have A9 := Aside0.mk A90
     clear A90
     simp only [Option.some.injEq, Prod.mk.injEq] at H
     obtain ⟨rfl, rfl, rfl⟩ := H
     go_wp2_with (first|((with_reducible refine gate_callee (f:=230) rfl ?_);refine goesL_ (some 16) rfl rfl Tryz.func230 (by kernel_rfl) rfl #[.int .i64 a0] rfl (by (try simp only [List.map_toArray,List.map_cons,List.map_nil]);first|done|rfl|(simp only [List.length_drop,List.length_take];rfl)) ?_;(with_reducible refine (halak_Moons.calls a0 t126 t127 _ A7.out).mono ?_);rintro e w' ⟨rfl,⟨nd,rfl⟩⟩;refine ⟨_,rfl,?_⟩;(try (rw [drewN_self wc];generalize hq_ : World.drewN wc _ = wc;have n0_ : Aside0 (wc.heap[gb125]? = some (.cells #[.int .i64 0,.int .i64 0] 147 (0,0))):=⟨by rw [← hq_];exact (by (with_reducible repeat (first|refine blk_drewN ?_ _|refine blk_drew ?_|refine blk_alloc ?_ _));exact BK125.out)⟩;have n1_ : Aside0 (Below w.heap.size w wc):=⟨by rw [← hq_];exact (by repeat (first|(with_reducible first|exact HB.out|apply below_alloc|apply pw_below_drewN|apply below_drew1|refine below_set ?_ GE125.out)|exact HB.out))⟩;clear BK125 HB hq_;have BK125:=n0_;have HB:=n1_;clear n0_ n1_)))|((with_reducible refine gate_callee (f:=231) rfl ?_);refine goesL_ (some 25) rfl rfl Tryz.func231 (by kernel_rfl) rfl #[.int .i64 (wrap64 (t126 + 5604))] rfl (by (try simp only [List.map_toArray,List.map_cons,List.map_nil]);first|done|rfl|(simp only [List.length_drop,List.length_take];rfl)) ?_;(with_reducible refine (halak_Split.calls (wrap64 (t126 + 5604)) t128 t129 _ A9.out).mono ?_);rintro e w10 ⟨rfl,hb⟩;refine ⟨_,rfl,?_⟩;have n0_:=Aside0.mk (blk_below (g:=gb125) (o:=.cells #[.int .i64 0,.int .i64 0] 147 (0,0)) (by (with_reducible repeat (first|refine blk_drewN ?_ _|refine blk_drew ?_|refine blk_alloc ?_ _));exact BK125.out) hb);have n1_:=Aside0.mk (below_step (by repeat (first|(with_reducible first|exact HB.out|apply below_alloc|apply pw_below_drewN|apply below_drew1|refine below_set ?_ GE125.out)|exact HB.out)) hb);clear BK125;clear HB;have BK125:=n0_;have HB:=n1_;clear n0_ n1_;(try clear hb);(try clear hb2);(try clear hk);(try clear hi))|((with_reducible refine gate_dst (N:=6) rfl ?_);refine box_event ?hg (N:=6) ?hd (cs:=#[.int .i64 0,.int .i64 0]) (t:=147) ?hr ?_;(case hd=>rfl);(case hg=>rfl);(case hr=>first|(go_simp;done)|(go_simp;rfl));intro gb130 hg w11 hbox hb;have n0_:=Aside0.mk (blk_below (g:=gb125) (o:=.cells #[.int .i64 0,.int .i64 0] 147 (0,0)) (by (with_reducible repeat (first|refine blk_drewN ?_ _|refine blk_drew ?_|refine blk_alloc ?_ _));exact BK125.out) hb);have n1_:=Aside0.mk (below_step (by repeat (first|(with_reducible first|exact HB.out|apply below_alloc|apply pw_below_drewN|apply below_drew1|refine below_set ?_ GE125.out)|exact HB.out)) hb);have n2_:=Aside0.mk (hbox);have n3_:=Aside0.mk ((by rw [hg];exact (below_size (by repeat (first|(with_reducible first|exact HB.out|apply below_alloc|apply pw_below_drewN|apply below_drew1|refine below_set ?_ GE125.out)|exact HB.out))) : w.heap.size ≤ gb130));have n4_:=Aside0.mk ((by rw [hg];exact (below_size (by repeat (first|(with_reducible first|exact HB.out|apply below_alloc|apply pw_below_drewN|apply below_drew1|refine below_set ?_ GE125.out)|exact HB.out))) : w.heap.size ≤ gb130));have n5_:=Aside0.mk ((by rw [hg];exact Nat.ne_of_lt (blk_lt (g:=gb125) (o:=.cells #[.int .i64 0,.int .i64 0] 147 (0,0)) (by (with_reducible repeat (first|refine blk_drewN ?_ _|refine blk_drew ?_|refine blk_alloc ?_ _));exact BK125.out)) : gb125 ≠ gb130));have n6_:=Aside0.mk ((by rw [hg];exact Nat.ne_of_gt (blk_lt (g:=gb125) (o:=.cells #[.int .i64 0,.int .i64 0] 147 (0,0)) (by (with_reducible repeat (first|refine blk_drewN ?_ _|refine blk_drew ?_|refine blk_alloc ?_ _));exact BK125.out)) : gb130 ≠ gb125));clear BK125;clear HB;have BK125:=n0_;have HB:=n1_;have BK130:=n2_;have GW130:=n3_;have GE130:=n4_;have NB125_130:=n5_;have NB130_125:=n6_;clear n0_ n1_ n2_ n3_ n4_ n5_ n6_;clear hb hbox hg;have hnb12:=NB130_125.out;have hnc12:=NB125_130.out;have hcz13_0 : w11.cell? ⟨gb130,0,none⟩ = some (.int .i64 0):=(blk_cell BK130.out 0).trans rfl;have hcz13_1 : w11.cell? ⟨gb130,1,none⟩ = some (.int .i64 0):=(blk_cell BK130.out 1).trans rfl;have hfz13_0:=blk_frozen BK130.out 0;have hfz13_1:=blk_frozen BK130.out 1;have hcz14_0 : w11.cell? ⟨gb125,0,none⟩ = some (.int .i64 0):=(blk_cell BK125.out 0).trans rfl;have hcz14_1 : w11.cell? ⟨gb125,1,none⟩ = some (.int .i64 0):=(blk_cell BK125.out 1).trans rfl;have hfz14_0:=blk_frozen BK125.out 0;have hfz14_1:=blk_frozen BK125.out 1))
     refine bodyPost_ret (results_ct rfl _ _ gb125 147 #[.int .i64 (wrap64 (t128 + (-1373427))),.int .i64 t129] (0,0) _ rfl (by (with_reducible repeat (first|refine blk_drewN ?_ _|refine blk_drew ?_|refine blk_alloc ?_ _));refine blk_put (cs:=#[.int .i64 (wrap64 (t128 + (-1373427))),.int .i64 0]) ?_ 1 _ rfl;(with_reducible repeat (first|refine blk_drewN ?_ _|refine blk_drew ?_|refine blk_alloc ?_ _));refine blk_put (cs:=#[.int .i64 0,.int .i64 0]) ?_ 0 _ rfl;(with_reducible repeat (first|refine blk_drewN ?_ _|refine blk_drew ?_|refine blk_alloc ?_ _));refine blk_far ?_ NB125_130.out _;(with_reducible repeat (first|refine blk_drewN ?_ _|refine blk_drew ?_|refine blk_alloc ?_ _));refine blk_far ?_ NB125_130.out _;(with_reducible repeat (first|refine blk_drewN ?_ _|refine blk_drew ?_|refine blk_alloc ?_ _));refine blk_far ?_ NB125_130.out _;(with_reducible repeat (first|refine blk_drewN ?_ _|refine blk_drew ?_|refine blk_alloc ?_ _));exact BK125.out) Tryz.underlying147 rfl (by kernel_rfl)) rfl ?_
     exact ⟨by first|rfl|(simp [errW_none,errW_some] <;> rfl)|(simp [*,errW_none,errW_some] <;> rfl),by repeat (first|(with_reducible first|exact HB.out|apply below_alloc|apply pw_below_drewN|apply below_drew1|refine below_set ?_ GE125.out|refine below_set ?_ GE130.out)|exact HB.out)⟩
    ·
     rw [if_neg c8] at H
     have c8b0 : (t127 == 0) = false := beq_eq_false_iff_ne.mpr c8
     have c8b1 : (t127 != 0) = true := bne_iff_ne.mpr c8
     simp only [Option.some.injEq, Prod.mk.injEq] at H
     obtain ⟨rfl, rfl, rfl⟩ := H
     go_wp2_with (first|((with_reducible refine gate_callee (f:=230) rfl ?_);refine goesL_ (some 16) rfl rfl Tryz.func230 (by kernel_rfl) rfl #[.int .i64 a0] rfl (by (try simp only [List.map_toArray,List.map_cons,List.map_nil]);first|done|rfl|(simp only [List.length_drop,List.length_take];rfl)) ?_;(with_reducible refine (halak_Moons.calls a0 t126 t127 _ A7.out).mono ?_);rintro e w' ⟨rfl,⟨nd,rfl⟩⟩;refine ⟨_,rfl,?_⟩;(try (rw [drewN_self wc];generalize hq_ : World.drewN wc _ = wc;have n0_ : Aside0 (wc.heap[gb125]? = some (.cells #[.int .i64 0,.int .i64 0] 147 (0,0))):=⟨by rw [← hq_];exact (by (with_reducible repeat (first|refine blk_drewN ?_ _|refine blk_drew ?_|refine blk_alloc ?_ _));exact BK125.out)⟩;have n1_ : Aside0 (Below w.heap.size w wc):=⟨by rw [← hq_];exact (by repeat (first|(with_reducible first|exact HB.out|apply below_alloc|apply pw_below_drewN|apply below_drew1|refine below_set ?_ GE125.out)|exact HB.out))⟩;clear BK125 HB hq_;have BK125:=n0_;have HB:=n1_;clear n0_ n1_));have hcz15_0 : wc.cell? ⟨gb125,0,none⟩ = some (.int .i64 0):=(blk_cell BK125.out 0).trans rfl;have hcz15_1 : wc.cell? ⟨gb125,1,none⟩ = some (.int .i64 0):=(blk_cell BK125.out 1).trans rfl;have hfz15_0:=blk_frozen BK125.out 0;have hfz15_1:=blk_frozen BK125.out 1))
     refine bodyPost_ret (results_ct rfl _ _ gb125 147 #[.int .i64 0,.int .i64 0] (0,0) _ rfl (by (with_reducible repeat (first|refine blk_drewN ?_ _|refine blk_drew ?_|refine blk_alloc ?_ _));refine blk_put (cs:=#[.int .i64 0,.int .i64 0]) ?_ 1 _ rfl;(with_reducible repeat (first|refine blk_drewN ?_ _|refine blk_drew ?_|refine blk_alloc ?_ _));refine blk_put (cs:=#[.int .i64 0,.int .i64 0]) ?_ 0 _ rfl;(with_reducible repeat (first|refine blk_drewN ?_ _|refine blk_drew ?_|refine blk_alloc ?_ _));exact BK125.out) Tryz.underlying147 rfl (by kernel_rfl)) rfl ?_
     exact ⟨by first|rfl|(simp [errW_none,errW_some] <;> rfl)|(simp [*,errW_none,errW_some] <;> rfl),by repeat (first|(with_reducible first|exact HB.out|apply below_alloc|apply pw_below_drewN|apply below_drew1|refine below_set ?_ GE125.out)|exact HB.out)⟩

end Go.Proofs.YtflpddhoiafhcaaGreatDoor.S
end

section
-- Written by wip/hprint.py of this repo (holes typed by hand, all else by a program) over the seat YtflpddhoiafhcaaGreatDoor.
namespace Go.Proofs.YtflpddhoiafhcaaGreatDoor.S
open Go.Proofs.YtflpddhoiafhcaaGreatDoor.H
open Go.RowKit Go.Proofs.YtflpddhoiafhcaaGreatDoorW.PrintWords Go.Proofs.YtflpddhoiafhcaaGreatDoorW.PrintLast Go.Proofs.YtflpddhoiafhcaaGreatDoorW.PrintMore
attribute [local go_sem] max2_int min2_int max_two min_two max_three min_three max_four min_four   -- for this text's walks alone
set_option linter.unusedVariables false
set_option linter.unusedSimpArgs false

def molad_Of.j0 : Nat → Int → Int → Bool → Option (Int × Int × Int)
  | 0, _, _, _ => none
  | k + 1, x0, x1, x24 => if x24 = true then (some (0, 0, 3)) else ((cycle_Before.f x0).bind fun bt134 => (if bt134.2 = 0 then ((molad_Moon.f k (wrap64 ((wrap64 (bt134.1 + x1)) - 1))).bind fun bt136 => (some (bt136.1, bt136.2.1, bt136.2.2))) else (some (0, 0, bt134.2))))
def molad_Of.f (k : Nat) (a0 : Int) (a1 : Int) : Option (Int × Int × Int) := (cycle_In.f a0).bind fun bt132 => (if bt132.2 = 0 then (if a1 < 1 then (molad_Of.j0 k a0 a1 true) else (molad_Of.j0 k a0 a1 (decide (a1 > bt132.1)))) else (some (0, 0, bt132.2)))
theorem molad_Of.mono_l : ∀ k, (∀ y0 y1 y2, LeO (molad_Of.j0 k y0 y1 y2) (molad_Of.j0 (k + 1) y0 y1 y2))
 | 0 => fun _ _ _ r h => by simp [molad_Of.j0] at h
 | k + 1 => by
  have ih0 := molad_Of.mono_l k
  ·
   intro y0 y1 y2
   unfold molad_Of.j0
   repeat' first
   | (with_reducible exact ih0 _ _ _)
   | (with_reducible exact molad_Moon.mono _ _)
   | (with_reducible exact LeO.refl _)
   | (with_reducible exact LeO.none _)
   | (with_reducible refine LeO.ite ?_ ?_)
   | (with_reducible refine LeO.bind ?_ (fun _ => ?_))
   | exact ih0 _ _ _
   | exact molad_Moon.mono _ _
   | exact LeO.none _
   | refine LeO.ite ?_ ?_
   | refine LeO.bind ?_ (fun _ => ?_)
theorem molad_Of.mono : ∀ a0 a1 k, LeO (molad_Of.f k a0 a1) (molad_Of.f (k + 1) a0 a1) := by
 intro a0 a1 k
 have ih0 := molad_Of.mono_l k
 unfold molad_Of.f
 repeat' first
   | (with_reducible exact ih0 _ _ _)
   | (with_reducible exact molad_Moon.mono _ _)
   | (with_reducible exact LeO.refl _)
   | (with_reducible exact LeO.none _)
   | (with_reducible refine LeO.ite ?_ ?_)
   | (with_reducible refine LeO.bind ?_ (fun _ => ?_))
   | exact ih0 _ _ _
   | exact molad_Moon.mono _ _
   | exact LeO.none _
   | refine LeO.ite ?_ ?_
   | refine LeO.bind ?_ (fun _ => ?_)
set_option maxHeartbeats 8000000 in
set_option maxRecDepth 100000 in
theorem molad_Of.calls (k : Nat) (a0 : Int) (a1 : Int) (r1 : Int) (r2 : Int) (r3 : Int) (w : World) (h : molad_Of.f k a0 a1 = some (r1, r2, r3)) :
  Calls Tryz.prog 131 #[.int .i64 a0, .int .i64 a1] w fun e w' => e = .returned (.tuple #[.agg #[.int .i64 r1, .int .i64 r2], .int .i64 r3]) ∧ Below w.heap.size w w' := by
 have hu147 := Tryz.underlying147
 have HB := zz00 (Below.refl w.heap.size w)
 have H : ((cycle_In.f a0).bind fun bt132=>(if bt132.2 = 0 then (if a1 < 1 then (molad_Of.j0 k a0 a1 true) else (molad_Of.j0 k a0 a1 (decide (a1 > bt132.1)))) else (some (0,0,bt132.2)))) = some (r1,r2,r3):=h
 clear h
 replace H := zz14.mp H
 obtain ⟨⟨t132, t133⟩, A30, H⟩ := H
 replace H : (if t133 = 0 then (if a1 < 1 then (molad_Of.j0 k a0 a1 true) else (molad_Of.j0 k a0 a1 (decide (a1 > t132)))) else (some (0, 0, t133))) = some (r1, r2, r3) := H
 have A3 := zz00 A30
 clear A30
 by_cases c4 : t133 = 0
 ·
  rw [if_pos c4] at H
  have c4b0 : (t133 == 0) = true := zz29.mpr c4
  have c4b1 : (t133 != 0) = false := zz26.mpr c4
  clear c4
  have HC5 := zz00 H
  clear H
  go_enter Tryz.func131, Tryz.ntmps131
  go_upto_region 4 with (first|((with_reducible refine zz24 (N:=4) rfl ?_);refine zz30 ?hg (N:=4) ?hd (cs:=#[.int .i64 0,.int .i64 0]) (t:=147) ?hr ?_;(case hd=>rfl);(case hg=>rfl);(case hr=>first|(go_simp;done)|(go_simp;rfl));intro gb131 hg w6 hbox hb;have n0_:=zz00 (zz21 (by repeat (first|(with_reducible first|exact HB.out|apply zz03|apply zz01|apply zz02)|exact HB.out)) hb);have n1_:=zz00 (hbox);have n2_:=zz00 ((by rw [hg];exact (zz22 (by repeat (first|(with_reducible first|exact HB.out|apply zz03|apply zz01|apply zz02)|exact HB.out))) : w.heap.size ≤ gb131));have n3_:=zz00 ((by rw [hg];exact (zz22 (by repeat (first|(with_reducible first|exact HB.out|apply zz03|apply zz01|apply zz02)|exact HB.out))) : w.heap.size ≤ gb131));clear HB;have HB:=n0_;have BK131:=n1_;have GW131:=n2_;have GE131:=n3_;clear n0_ n1_ n2_ n3_;clear hb hbox hg)|((with_reducible refine zz23 (f:=180) rfl ?_);refine zz25 (some 11) rfl rfl Tryz.func180 (by kernel_rfl) rfl #[.int .i64 a0] rfl (by (try simp only [List.map_toArray,List.map_cons,List.map_nil]);first|done|rfl|(simp only [List.length_drop,List.length_take];rfl)) ?_;(with_reducible refine (cycle_In.calls a0 t132 t133 _ A3.out).mono ?_);rintro e w' ⟨rfl,⟨nd,rfl⟩⟩;refine ⟨_,rfl,?_⟩))
  (try simp only [Act.put, zz11, zz12, zz13])
  go_cut [24] (fun v24 wc=>∃ (kq : Nat) (x24_4 : Bool),v24 = .bool x24_4 ∧ Aside0 (molad_Of.j0 kq a0 a1 x24_4 = some (r1,r2,r3)) ∧ Aside0 (kq ≤ k) ∧ Aside0 (wc.heap[gb131]? = some (.cells #[.int .i64 0,.int .i64 0] 147 (0,0))) ∧ Aside0 (Below w.heap.size w wc))
  case first =>
   have H := HC5.out
   clear HC5
   by_cases c7 : a1 < 1
   ·
    rw [if_pos c7] at H
    have c7b0 : decide (a1 < 1) = true := decide_eq_true c7
    clear c7
    (first | rw [c7b0] | (simp only [i64_w, i32_w]; rw [c7b0]) | skip)
    have H' := zz00 H
    clear H
    go_wp2
    go_meet
    case rel=>exact ⟨_,(true),(by first|rfl|(simp;done)|(simp [*];done)),H',⟨by first|omega|exact Nat.le_refl _⟩,⟨by (with_reducible repeat (first|refine zz07 ?_ _|refine zz09 ?_|refine zz08 ?_ _));exact BK131.out⟩,⟨by repeat (first|(with_reducible first|exact HB.out|apply zz03|apply zz01|apply zz02|refine zz10 ?_ GE131.out)|exact HB.out)⟩⟩
   ·
    rw [if_neg c7] at H
    have c7b0 : decide (a1 < 1) = false := decide_eq_false c7
    clear c7
    (first | rw [c7b0] | (simp only [i64_w, i32_w]; rw [c7b0]) | skip)
    have H' := zz00 H
    clear H
    go_wp2
    go_meet
    case rel=>exact ⟨_,(decide (a1 > t132)),(by first|rfl|(simp;done)|(simp [*];done)),H',⟨by first|omega|exact Nat.le_refl _⟩,⟨by (with_reducible repeat (first|refine zz07 ?_ _|refine zz09 ?_|refine zz08 ?_ _));exact BK131.out⟩,⟨by repeat (first|(with_reducible first|exact HB.out|apply zz03|apply zz01|apply zz02|refine zz10 ?_ GE131.out)|exact HB.out)⟩⟩
  case rest =>
   clear HC5
   try clear c1
   try clear p2
   try clear c4
   try clear c4b0
   try clear c4b1
   try clear c7
   try clear c7b0
   obtain ⟨kq, x24_4, rfl, HA, HJ4, BK131, HB⟩ := hcut
   cases kq with
   | zero => exact absurd HA.out (by simp [molad_Of.j0])
   | succ kj4 =>
    have H := HA.out
    clear HA
    simp only [molad_Of.j0] at H
    by_cases c8 : x24_4 = true
    ·
     subst c8
     have H1 : (some (0, 0, 3)) = some (r1, r2, r3) := by rw [if_pos rfl] at H; exact H
     clear H
     have H := H1
     clear H1
     simp only [zz15, zz16] at H
     obtain ⟨rfl, rfl, rfl⟩ := H
     have hcz9_0 : wc.cell? ⟨gb131, 0, none⟩ = some (.int .i64 0) := (zz18 BK131.out 0).trans rfl
     have hcz9_1 : wc.cell? ⟨gb131, 1, none⟩ = some (.int .i64 0) := (zz18 BK131.out 1).trans rfl
     have hfz9_0 := zz17 BK131.out 0
     have hfz9_1 := zz17 BK131.out 1
     go_wp2
     refine bodyPost_ret (results_ct rfl _ _ gb131 147 #[.int .i64 0,.int .i64 0] (0,0) _ rfl (by (with_reducible repeat (first|refine zz07 ?_ _|refine zz09 ?_|refine zz08 ?_ _));refine zz35 (cs:=#[.int .i64 0,.int .i64 0]) ?_ 1 _ rfl;(with_reducible repeat (first|refine zz07 ?_ _|refine zz09 ?_|refine zz08 ?_ _));refine zz35 (cs:=#[.int .i64 0,.int .i64 0]) ?_ 0 _ rfl;(with_reducible repeat (first|refine zz07 ?_ _|refine zz09 ?_|refine zz08 ?_ _));exact BK131.out) Tryz.underlying147 rfl (by kernel_rfl)) rfl ?_
     exact ⟨by first|rfl|(simp [errW_none,errW_some] <;> rfl)|(simp [*,errW_none,errW_some] <;> rfl),by repeat (first|(with_reducible first|exact HB.out|apply zz03|apply zz01|apply zz02|refine zz10 ?_ GE131.out)|exact HB.out)⟩
    ·
     replace c8 := zz32.mpr c8
     subst c8
     have H1 : ((cycle_Before.f a0).bind fun bt134=>(if bt134.2 = 0 then ((molad_Moon.f kj4 (wrap64 ((wrap64 (bt134.1 + a1)) - 1))).bind fun bt136=>(some (bt136.1,bt136.2.1,bt136.2.2))) else (some (0,0,bt134.2)))) = some (r1,r2,r3):=by rw [if_neg (show ¬ (false = true) by decide)] at H;exact H
     clear H
     have H := H1
     clear H1
     replace H := zz14.mp H
     obtain ⟨⟨t134, t135⟩, A100, H⟩ := H
     replace H : (if t135 = 0 then ((molad_Moon.f kj4 (wrap64 ((wrap64 (t134 + a1)) - 1))).bind fun bt136 => (some (bt136.1, bt136.2.1, bt136.2.2))) else (some (0, 0, t135))) = some (r1, r2, r3) := H
     have A10 := zz00 A100
     clear A100
     by_cases c11 : t135 = 0
     ·
      rw [if_pos c11] at H
      have c11b0 : (t135 == 0) = true := zz29.mpr c11
      have c11b1 : (t135 != 0) = false := zz26.mpr c11
      clear c11
      replace H := zz14.mp H
      obtain ⟨⟨t136, t137, t138⟩, A120, H⟩ := H
      replace H : (some (t136, t137, t138)) = some (r1, r2, r3) := H
      have A12 := zz00 A120
      clear A120
      simp only [zz15, zz16] at H
      obtain ⟨rfl, rfl, rfl⟩ := H
      go_wp2_with (first|((with_reducible refine zz23 (f:=181) rfl ?_);refine zz25 (some 28) rfl rfl Tryz.func181 (by kernel_rfl) rfl #[.int .i64 a0] rfl (by (try simp only [List.map_toArray,List.map_cons,List.map_nil]);first|done|rfl|(simp only [List.length_drop,List.length_take];rfl)) ?_;(with_reducible refine (cycle_Before.calls a0 t134 t135 _ A10.out).mono ?_);rintro e w' ⟨rfl,⟨nd,rfl⟩⟩;refine ⟨_,rfl,?_⟩;(try (rw [drewN_self wc];generalize hq_ : World.drewN wc _ = wc;have n0_ : Aside0 (wc.heap[gb131]? = some (.cells #[.int .i64 0,.int .i64 0] 147 (0,0))):=⟨by rw [← hq_];exact (by (with_reducible repeat (first|refine zz07 ?_ _|refine zz09 ?_|refine zz08 ?_ _));exact BK131.out)⟩;have n1_ : Aside0 (Below w.heap.size w wc):=⟨by rw [← hq_];exact (by repeat (first|(with_reducible first|exact HB.out|apply zz03|apply zz01|apply zz02|refine zz10 ?_ GE131.out)|exact HB.out))⟩;clear BK131 HB hq_;have BK131:=n0_;have HB:=n1_;clear n0_ n1_)))|((with_reducible refine zz23 (f:=182) rfl ?_);refine zz25 (some 39) rfl rfl Tryz.func182 (by kernel_rfl) rfl #[.int .i64 (wrap64 ((wrap64 (t134 + a1)) - 1))] rfl (by (try simp only [List.map_toArray,List.map_cons,List.map_nil]);first|done|rfl|(simp only [List.length_drop,List.length_take];rfl)) ?_;(with_reducible refine (molad_Moon.calls kj4 (wrap64 ((wrap64 (t134 + a1)) - 1)) t136 t137 t138 _ A12.out).mono ?_);rintro e w13 ⟨rfl,hb⟩;refine ⟨_,rfl,?_⟩;have n0_:=zz00 (zz34 (g:=gb131) (o:=.cells #[.int .i64 0,.int .i64 0] 147 (0,0)) (by (with_reducible repeat (first|refine zz07 ?_ _|refine zz09 ?_|refine zz08 ?_ _));exact BK131.out) hb);have n1_:=zz00 (zz21 (by repeat (first|(with_reducible first|exact HB.out|apply zz03|apply zz01|apply zz02|refine zz10 ?_ GE131.out)|exact HB.out)) hb);clear BK131;clear HB;have BK131:=n0_;have HB:=n1_;clear n0_ n1_;(try clear hb);(try clear hb2);(try clear hk);(try clear hi);have hcz14_0 : w13.cell? ⟨gb131,0,none⟩ = some (.int .i64 0):=(zz18 BK131.out 0).trans rfl;have hcz14_1 : w13.cell? ⟨gb131,1,none⟩ = some (.int .i64 0):=(zz18 BK131.out 1).trans rfl;have hfz14_0:=zz17 BK131.out 0;have hfz14_1:=zz17 BK131.out 1))
      refine bodyPost_ret (results_ct rfl _ _ gb131 147 #[.int .i64 t136,.int .i64 t137] (0,0) _ rfl (by (with_reducible repeat (first|refine zz07 ?_ _|refine zz09 ?_|refine zz08 ?_ _));refine zz35 (cs:=#[.int .i64 t136,.int .i64 0]) ?_ 1 _ rfl;(with_reducible repeat (first|refine zz07 ?_ _|refine zz09 ?_|refine zz08 ?_ _));refine zz35 (cs:=#[.int .i64 0,.int .i64 0]) ?_ 0 _ rfl;(with_reducible repeat (first|refine zz07 ?_ _|refine zz09 ?_|refine zz08 ?_ _));exact BK131.out) Tryz.underlying147 rfl (by kernel_rfl)) rfl ?_
      exact ⟨by first|rfl|(simp [errW_none,errW_some] <;> rfl)|(simp [*,errW_none,errW_some] <;> rfl),by repeat (first|(with_reducible first|exact HB.out|apply zz03|apply zz01|apply zz02|refine zz10 ?_ GE131.out)|exact HB.out)⟩
     ·
      rw [if_neg c11] at H
      have c11b0 : (t135 == 0) = false := zz27.mpr c11
      have c11b1 : (t135 != 0) = true := zz28.mpr c11
      simp only [zz15, zz16] at H
      obtain ⟨rfl, rfl, rfl⟩ := H
      go_wp2_with (first|((with_reducible refine zz23 (f:=181) rfl ?_);refine zz25 (some 28) rfl rfl Tryz.func181 (by kernel_rfl) rfl #[.int .i64 a0] rfl (by (try simp only [List.map_toArray,List.map_cons,List.map_nil]);first|done|rfl|(simp only [List.length_drop,List.length_take];rfl)) ?_;(with_reducible refine (cycle_Before.calls a0 t134 t135 _ A10.out).mono ?_);rintro e w' ⟨rfl,⟨nd,rfl⟩⟩;refine ⟨_,rfl,?_⟩;(try (rw [drewN_self wc];generalize hq_ : World.drewN wc _ = wc;have n0_ : Aside0 (wc.heap[gb131]? = some (.cells #[.int .i64 0,.int .i64 0] 147 (0,0))):=⟨by rw [← hq_];exact (by (with_reducible repeat (first|refine zz07 ?_ _|refine zz09 ?_|refine zz08 ?_ _));exact BK131.out)⟩;have n1_ : Aside0 (Below w.heap.size w wc):=⟨by rw [← hq_];exact (by repeat (first|(with_reducible first|exact HB.out|apply zz03|apply zz01|apply zz02|refine zz10 ?_ GE131.out)|exact HB.out))⟩;clear BK131 HB hq_;have BK131:=n0_;have HB:=n1_;clear n0_ n1_));have hcz15_0 : wc.cell? ⟨gb131,0,none⟩ = some (.int .i64 0):=(zz18 BK131.out 0).trans rfl;have hcz15_1 : wc.cell? ⟨gb131,1,none⟩ = some (.int .i64 0):=(zz18 BK131.out 1).trans rfl;have hfz15_0:=zz17 BK131.out 0;have hfz15_1:=zz17 BK131.out 1))
      refine bodyPost_ret (results_ct rfl _ _ gb131 147 #[.int .i64 0,.int .i64 0] (0,0) _ rfl (by (with_reducible repeat (first|refine zz07 ?_ _|refine zz09 ?_|refine zz08 ?_ _));refine zz35 (cs:=#[.int .i64 0,.int .i64 0]) ?_ 1 _ rfl;(with_reducible repeat (first|refine zz07 ?_ _|refine zz09 ?_|refine zz08 ?_ _));refine zz35 (cs:=#[.int .i64 0,.int .i64 0]) ?_ 0 _ rfl;(with_reducible repeat (first|refine zz07 ?_ _|refine zz09 ?_|refine zz08 ?_ _));exact BK131.out) Tryz.underlying147 rfl (by kernel_rfl)) rfl ?_
      exact ⟨by first|rfl|(simp [errW_none,errW_some] <;> rfl)|(simp [*,errW_none,errW_some] <;> rfl),by repeat (first|(with_reducible first|exact HB.out|apply zz03|apply zz01|apply zz02|refine zz10 ?_ GE131.out)|exact HB.out)⟩
 ·
  rw [if_neg c4] at H
  have c4b0 : (t133 == 0) = false := zz27.mpr c4
  have c4b1 : (t133 != 0) = true := zz28.mpr c4
  simp only [zz15, zz16] at H
  obtain ⟨rfl, rfl, rfl⟩ := H
  go_enter Tryz.func131, Tryz.ntmps131
  go_wp2_with (first|((with_reducible refine zz24 (N:=4) rfl ?_);refine zz30 ?hg (N:=4) ?hd (cs:=#[.int .i64 0,.int .i64 0]) (t:=147) ?hr ?_;(case hd=>rfl);(case hg=>rfl);(case hr=>first|(go_simp;done)|(go_simp;rfl));intro gb131 hg w16 hbox hb;have n0_:=zz00 (zz21 (by repeat (first|(with_reducible first|exact HB.out|apply zz03|apply zz01|apply zz02)|exact HB.out)) hb);have n1_:=zz00 (hbox);have n2_:=zz00 ((by rw [hg];exact (zz22 (by repeat (first|(with_reducible first|exact HB.out|apply zz03|apply zz01|apply zz02)|exact HB.out))) : w.heap.size ≤ gb131));have n3_:=zz00 ((by rw [hg];exact (zz22 (by repeat (first|(with_reducible first|exact HB.out|apply zz03|apply zz01|apply zz02)|exact HB.out))) : w.heap.size ≤ gb131));clear HB;have HB:=n0_;have BK131:=n1_;have GW131:=n2_;have GE131:=n3_;clear n0_ n1_ n2_ n3_;clear hb hbox hg)|((with_reducible refine zz23 (f:=180) rfl ?_);refine zz25 (some 11) rfl rfl Tryz.func180 (by kernel_rfl) rfl #[.int .i64 a0] rfl (by (try simp only [List.map_toArray,List.map_cons,List.map_nil]);first|done|rfl|(simp only [List.length_drop,List.length_take];rfl)) ?_;(with_reducible refine (cycle_In.calls a0 t132 t133 _ A3.out).mono ?_);rintro e w' ⟨rfl,⟨nd,rfl⟩⟩;refine ⟨_,rfl,?_⟩;(try (rw [drewN_self w16];generalize hq_ : World.drewN w16 _ = w16;have n0_ : Aside0 (w16.heap[gb131]? = some (.cells #[.int .i64 0,.int .i64 0] 147 (0,0))):=⟨by rw [← hq_];exact (by (with_reducible repeat (first|refine zz07 ?_ _|refine zz09 ?_|refine zz08 ?_ _));exact BK131.out)⟩;have n1_ : Aside0 (Below w.heap.size w w16):=⟨by rw [← hq_];exact (by repeat (first|(with_reducible first|exact HB.out|apply zz03|apply zz01|apply zz02|refine zz10 ?_ GE131.out)|exact HB.out))⟩;clear BK131 HB hq_;have BK131:=n0_;have HB:=n1_;clear n0_ n1_));have hcz17_0 : w16.cell? ⟨gb131,0,none⟩ = some (.int .i64 0):=(zz18 BK131.out 0).trans rfl;have hcz17_1 : w16.cell? ⟨gb131,1,none⟩ = some (.int .i64 0):=(zz18 BK131.out 1).trans rfl;have hfz17_0:=zz17 BK131.out 0;have hfz17_1:=zz17 BK131.out 1))
  refine bodyPost_ret (results_ct rfl _ _ gb131 147 #[.int .i64 0,.int .i64 0] (0,0) _ rfl (by (with_reducible repeat (first|refine zz07 ?_ _|refine zz09 ?_|refine zz08 ?_ _));refine zz35 (cs:=#[.int .i64 0,.int .i64 0]) ?_ 1 _ rfl;(with_reducible repeat (first|refine zz07 ?_ _|refine zz09 ?_|refine zz08 ?_ _));refine zz35 (cs:=#[.int .i64 0,.int .i64 0]) ?_ 0 _ rfl;(with_reducible repeat (first|refine zz07 ?_ _|refine zz09 ?_|refine zz08 ?_ _));exact BK131.out) Tryz.underlying147 rfl (by kernel_rfl)) rfl ?_
  exact ⟨by first|rfl|(simp [errW_none,errW_some] <;> rfl)|(simp [*,errW_none,errW_some] <;> rfl),by repeat (first|(with_reducible first|exact HB.out|apply zz03|apply zz01|apply zz02|refine zz10 ?_ GE131.out)|exact HB.out)⟩

def newyear_bad.f (a0 : Int) : Option (Bool) := if a0 = 0 then (some true) else (if a0 = 3 then (some true) else (if a0 = 5 then (some true) else (some false)))
set_option maxHeartbeats 8000000 in
set_option maxRecDepth 100000 in
theorem newyear_bad.calls (a0 : Int) (r : Bool) (w : World) (h : newyear_bad.f a0 = some r) :
    Calls Tryz.prog 183 #[.int .i64 a0] w fun e w' => e = .returned (.bool r) ∧ Drawn0 w w' := by
  have H : (if a0 = 0 then (some true) else (if a0 = 3 then (some true) else (if a0 = 5 then (some true) else (some false)))) = some r := h
  clear h
  by_cases c2 : a0 = 0
  · rw [if_pos c2] at H
    have c2b0 : (a0 == 0) = true := zz29.mpr c2
    have c2b1 : (a0 != 0) = false := zz26.mpr c2
    clear c2
    obtain rfl := Option.some.inj H
    go_enter Tryz.func183, Tryz.ntmps183
    go_wp2
    go_ret
    exact ⟨by first | rfl | (simp; done) | (simp [*]; done), by repeat (first | exact Drawn0.refl _ | apply Drawn0.step)⟩
  · rw [if_neg c2] at H
    have c2b0 : (a0 == 0) = false := zz27.mpr c2
    have c2b1 : (a0 != 0) = true := zz28.mpr c2
    by_cases c3 : a0 = 3
    · rw [if_pos c3] at H
      have c3b0 : (a0 == 3) = true := zz29.mpr c3
      have c3b1 : (a0 != 3) = false := zz26.mpr c3
      clear c3
      obtain rfl := Option.some.inj H
      go_enter Tryz.func183, Tryz.ntmps183
      go_wp2
      go_ret
      exact ⟨by first | rfl | (simp; done) | (simp [*]; done), by repeat (first | exact Drawn0.refl _ | apply Drawn0.step)⟩
    · rw [if_neg c3] at H
      have c3b0 : (a0 == 3) = false := zz27.mpr c3
      have c3b1 : (a0 != 3) = true := zz28.mpr c3
      by_cases c4 : a0 = 5
      · rw [if_pos c4] at H
        have c4b0 : (a0 == 5) = true := zz29.mpr c4
        have c4b1 : (a0 != 5) = false := zz26.mpr c4
        clear c4
        obtain rfl := Option.some.inj H
        go_enter Tryz.func183, Tryz.ntmps183
        go_wp2
        go_ret
        exact ⟨by first | rfl | (simp; done) | (simp [*]; done), by repeat (first | exact Drawn0.refl _ | apply Drawn0.step)⟩
      · rw [if_neg c4] at H
        have c4b0 : (a0 == 5) = false := zz27.mpr c4
        have c4b1 : (a0 != 5) = true := zz28.mpr c4
        obtain rfl := Option.some.inj H
        go_enter Tryz.func183, Tryz.ntmps183
        go_wp2
        go_ret
        exact ⟨by first | rfl | (simp; done) | (simp [*]; done), by repeat (first | exact Drawn0.refl _ | apply Drawn0.step)⟩

def newyear_Delay.j0 : Nat → Int → Bool → Option (Int)
  | 0, _, _ => none
  | k + 1, x8, x13 => if x13 = true then ((newyear_bad.f (Int.tmod (wrap64 (x8 + 1)) 7)).bind fun t141 => (if t141 = true then (some 2) else (some 1))) else ((newyear_bad.f x8).bind fun t142 => (if t142 = true then (some 1) else (some 0)))
def newyear_Delay.f (k : Nat) (a0_0 : Int) (a0_1 : Int) (a1 : Bool) (a2 : Bool) : Option (Int) := (molad_Weekday.f a0_0).bind fun t140 => (if a0_1 ≥ 19440 then (newyear_Delay.j0 k t140 (decide (a0_1 ≥ 19440))) else (if t140 = 2 then (if a0_1 ≥ 9924 then (if a1 = true then (if t140 = 1 then (if a0_1 ≥ 16789 then (newyear_Delay.j0 k t140 a2) else (newyear_Delay.j0 k t140 false)) else (newyear_Delay.j0 k t140 false)) else (newyear_Delay.j0 k t140 (!a1))) else (if t140 = 1 then (if a0_1 ≥ 16789 then (newyear_Delay.j0 k t140 a2) else (newyear_Delay.j0 k t140 false)) else (newyear_Delay.j0 k t140 false))) else (if t140 = 1 then (if a0_1 ≥ 16789 then (newyear_Delay.j0 k t140 a2) else (newyear_Delay.j0 k t140 false)) else (newyear_Delay.j0 k t140 false))))
theorem newyear_Delay.mono_l : ∀ k, (∀ y0 y1, LeO (newyear_Delay.j0 k y0 y1) (newyear_Delay.j0 (k + 1) y0 y1))
 | 0 => fun _ _ r h => by simp [newyear_Delay.j0] at h
 | k + 1 => by
  have ih0 := newyear_Delay.mono_l k
  ·
   intro y0 y1
   unfold newyear_Delay.j0
   repeat' first
   | (with_reducible exact ih0 _ _)
   | (with_reducible exact LeO.refl _)
   | (with_reducible exact LeO.none _)
   | (with_reducible refine LeO.ite ?_ ?_)
   | (with_reducible refine LeO.bind ?_ (fun _ => ?_))
   | exact ih0 _ _
   | exact LeO.none _
   | refine LeO.ite ?_ ?_
   | refine LeO.bind ?_ (fun _ => ?_)
theorem newyear_Delay.mono : ∀ a0 a1 a2 a3 k, LeO (newyear_Delay.f k a0 a1 a2 a3) (newyear_Delay.f (k + 1) a0 a1 a2 a3) := by
 intro a0 a1 a2 a3 k
 have ih0 := newyear_Delay.mono_l k
 unfold newyear_Delay.f
 repeat' first
   | (with_reducible exact ih0 _ _)
   | (with_reducible exact LeO.refl _)
   | (with_reducible exact LeO.none _)
   | (with_reducible refine LeO.ite ?_ ?_)
   | (with_reducible refine LeO.bind ?_ (fun _ => ?_))
   | exact ih0 _ _
   | exact LeO.none _
   | refine LeO.ite ?_ ?_
   | refine LeO.bind ?_ (fun _ => ?_)
set_option maxHeartbeats 8000000 in
set_option maxRecDepth 100000 in
theorem newyear_Delay.calls (k : Nat) (a0_0 : Int) (a0_1 : Int) (a1 : Bool) (a2 : Bool) (r : Int) (w : World) (h : newyear_Delay.f k a0_0 a0_1 a1 a2 = some r) :
  Calls Tryz.prog 132 #[.agg #[.int .i64 a0_0, .int .i64 a0_1], .bool a1, .bool a2] w fun e w' => e = .returned (.int .i64 r) ∧ Below w.heap.size w w' := by
 have hu147 := Tryz.underlying147
 have HB := zz00 (Below.refl w.heap.size w)
 have H : ((molad_Weekday.f a0_0).bind fun t140=>(if a0_1 ≥ 19440 then (newyear_Delay.j0 k t140 (decide (a0_1 ≥ 19440))) else (if t140 = 2 then (if a0_1 ≥ 9924 then (if a1 = true then (if t140 = 1 then (if a0_1 ≥ 16789 then (newyear_Delay.j0 k t140 a2) else (newyear_Delay.j0 k t140 false)) else (newyear_Delay.j0 k t140 false)) else (newyear_Delay.j0 k t140 (!a1))) else (if t140 = 1 then (if a0_1 ≥ 16789 then (newyear_Delay.j0 k t140 a2) else (newyear_Delay.j0 k t140 false)) else (newyear_Delay.j0 k t140 false))) else (if t140 = 1 then (if a0_1 ≥ 16789 then (newyear_Delay.j0 k t140 a2) else (newyear_Delay.j0 k t140 false)) else (newyear_Delay.j0 k t140 false))))) = some r:=h
 clear h
 replace H := zz14.mp H
 obtain ⟨t140, A40, H⟩ := H
 replace H : (if a0_1 ≥ 19440 then (newyear_Delay.j0 k t140 (decide (a0_1 ≥ 19440))) else (if t140 = 2 then (if a0_1 ≥ 9924 then (if a1 = true then (if t140 = 1 then (if a0_1 ≥ 16789 then (newyear_Delay.j0 k t140 a2) else (newyear_Delay.j0 k t140 false)) else (newyear_Delay.j0 k t140 false)) else (newyear_Delay.j0 k t140 (!a1))) else (if t140 = 1 then (if a0_1 ≥ 16789 then (newyear_Delay.j0 k t140 a2) else (newyear_Delay.j0 k t140 false)) else (newyear_Delay.j0 k t140 false))) else (if t140 = 1 then (if a0_1 ≥ 16789 then (newyear_Delay.j0 k t140 a2) else (newyear_Delay.j0 k t140 false)) else (newyear_Delay.j0 k t140 false)))) = some r:=H
 have A4 := zz00 A40
 clear A40
 have HC5 := zz00 H
 clear H
 go_enter Tryz.func132, Tryz.ntmps132
 go_upto_if 13 with (first|((with_reducible refine zz24 (N:=3) rfl ?_);refine zz30 ?hg (N:=3) ?hd (cs:=#[.int .i64 a0_0,.int .i64 a0_1]) (t:=147) ?hr ?_;(case hd=>rfl);(case hg=>rfl);(case hr=>first|(go_simp;done)|(go_simp;rfl));intro gb139 hg w6 hbox hb;have n0_:=zz00 (zz21 (by repeat (first|(with_reducible first|exact HB.out|apply zz03|apply zz01|apply zz02)|exact HB.out)) hb);have n1_:=zz00 (hbox);have n2_:=zz00 ((by rw [hg];exact (zz22 (by repeat (first|(with_reducible first|exact HB.out|apply zz03|apply zz01|apply zz02)|exact HB.out))) : w.heap.size ≤ gb139));have n3_:=zz00 ((by rw [hg];exact (zz22 (by repeat (first|(with_reducible first|exact HB.out|apply zz03|apply zz01|apply zz02)|exact HB.out))) : w.heap.size ≤ gb139));clear HB;have HB:=n0_;have BK139:=n1_;have GW139:=n2_;have GE139:=n3_;clear n0_ n1_ n2_ n3_;clear hb hbox hg;have hcz7_0 : w6.cell? ⟨gb139,0,none⟩ = some (.int .i64 a0_0):=(zz18 BK139.out 0).trans rfl;have hcz7_1 : w6.cell? ⟨gb139,1,none⟩ = some (.int .i64 a0_1):=(zz18 BK139.out 1).trans rfl;have hfz7_0:=zz17 BK139.out 0;have hfz7_1:=zz17 BK139.out 1)|((with_reducible refine zz23 (f:=130) rfl ?_);refine zz25 (some 12) rfl rfl Tryz.func130 (by kernel_rfl) rfl #[.int .i64 a0_0] rfl (by (try simp only [List.map_toArray,List.map_cons,List.map_nil]);first|done|rfl|(simp only [List.length_drop,List.length_take];rfl)) ?_;(with_reducible refine (molad_Weekday.calls a0_0 t140 _ A4.out).mono ?_);rintro e w' ⟨rfl,⟨nd,rfl⟩⟩;refine ⟨_,rfl,?_⟩))
 (try simp only [Act.put, zz11, zz12, zz13])
 go_cut [13] (fun v13 wc=>∃ (kq : Nat) (x13_4 : Bool),v13 = .bool x13_4 ∧ Aside0 (newyear_Delay.j0 kq t140 x13_4 = some r) ∧ Aside0 (kq ≤ k) ∧ Aside0 (wc.heap[gb139]? = some (.cells #[.int .i64 a0_0,.int .i64 a0_1] 147 (0,0))) ∧ Aside0 (Below w.heap.size w wc))
 case first =>
  have H := HC5.out
  clear HC5
  by_cases c8 : a0_1 ≥ 19440
  ·
   rw [if_pos c8] at H
   have c8b0 : decide (19440 ≤ a0_1) = true := decide_eq_true c8
   clear c8
   (first | rw [c8b0] | (simp only [i64_w, i32_w]; rw [c8b0]) | skip)
   have H' := zz00 H
   clear H
   go_wp2
   go_meet
   case rel=>exact ⟨_,(decide (a0_1 ≥ 19440)),(by first|rfl|(simp;done)|(simp [*];done)),H',⟨by first|omega|exact Nat.le_refl _⟩,⟨by (with_reducible repeat (first|refine zz07 ?_ _|refine zz09 ?_|refine zz08 ?_ _));exact BK139.out⟩,⟨by repeat (first|(with_reducible first|exact HB.out|apply zz03|apply zz01|apply zz02|refine zz10 ?_ GE139.out)|exact HB.out)⟩⟩
  ·
   rw [if_neg c8] at H
   have c8b0 : decide (19440 ≤ a0_1) = false := decide_eq_false c8
   clear c8
   (first | rw [c8b0] | (simp only [i64_w, i32_w]; rw [c8b0]) | skip)
   by_cases c9 : t140 = 2
   ·
    rw [if_pos c9] at H
    have c9b0 : (t140 == 2) = true := zz29.mpr c9
    have c9b1 : (t140 != 2) = false := zz26.mpr c9
    clear c9
    by_cases c10 : a0_1 ≥ 9924
    ·
     rw [if_pos c10] at H
     have c10b0 : decide (9924 ≤ a0_1) = true := decide_eq_true c10
     clear c10
     by_cases c11 : a1 = true
     ·
      subst c11
      have H1 : (if t140 = 1 then (if a0_1 ≥ 16789 then (newyear_Delay.j0 k t140 a2) else (newyear_Delay.j0 k t140 false)) else (newyear_Delay.j0 k t140 false)) = some r:=by rw [if_pos rfl] at H;exact H
      clear H
      have H := H1
      clear H1
      by_cases c12 : t140 = 1
      ·
       rw [if_pos c12] at H
       have c12b0 : (t140 == 1) = true := zz29.mpr c12
       have c12b1 : (t140 != 1) = false := zz26.mpr c12
       clear c12
       by_cases c13 : a0_1 ≥ 16789
       ·
        rw [if_pos c13] at H
        have c13b0 : decide (16789 ≤ a0_1) = true := decide_eq_true c13
        clear c13
        have H' := zz00 H
        clear H
        have hcz14_0 : w6.cell? ⟨gb139, 0, none⟩ = some (.int .i64 a0_0) := (zz18 BK139.out 0).trans rfl
        have hcz14_1 : w6.cell? ⟨gb139, 1, none⟩ = some (.int .i64 a0_1) := (zz18 BK139.out 1).trans rfl
        have hfz14_0 := zz17 BK139.out 0
        have hfz14_1 := zz17 BK139.out 1
        go_wp2
        go_meet
        case rel=>exact ⟨_,(a2),(by first|rfl|(simp;done)|(simp [*];done)),H',⟨by first|omega|exact Nat.le_refl _⟩,⟨by (with_reducible repeat (first|refine zz07 ?_ _|refine zz09 ?_|refine zz08 ?_ _));exact BK139.out⟩,⟨by repeat (first|(with_reducible first|exact HB.out|apply zz03|apply zz01|apply zz02|refine zz10 ?_ GE139.out)|exact HB.out)⟩⟩
       ·
        rw [if_neg c13] at H
        have c13b0 : decide (16789 ≤ a0_1) = false := decide_eq_false c13
        clear c13
        have H' := zz00 H
        clear H
        have hcz15_0 : w6.cell? ⟨gb139, 0, none⟩ = some (.int .i64 a0_0) := (zz18 BK139.out 0).trans rfl
        have hcz15_1 : w6.cell? ⟨gb139, 1, none⟩ = some (.int .i64 a0_1) := (zz18 BK139.out 1).trans rfl
        have hfz15_0 := zz17 BK139.out 0
        have hfz15_1 := zz17 BK139.out 1
        go_wp2
        go_meet
        case rel=>exact ⟨_,(false),(by first|rfl|(simp;done)|(simp [*];done)),H',⟨by first|omega|exact Nat.le_refl _⟩,⟨by (with_reducible repeat (first|refine zz07 ?_ _|refine zz09 ?_|refine zz08 ?_ _));exact BK139.out⟩,⟨by repeat (first|(with_reducible first|exact HB.out|apply zz03|apply zz01|apply zz02|refine zz10 ?_ GE139.out)|exact HB.out)⟩⟩
      ·
       rw [if_neg c12] at H
       have c12b0 : (t140 == 1) = false := zz27.mpr c12
       have c12b1 : (t140 != 1) = true := zz28.mpr c12
       have H' := zz00 H
       clear H
       have hcz16_0 : w6.cell? ⟨gb139, 0, none⟩ = some (.int .i64 a0_0) := (zz18 BK139.out 0).trans rfl
       have hcz16_1 : w6.cell? ⟨gb139, 1, none⟩ = some (.int .i64 a0_1) := (zz18 BK139.out 1).trans rfl
       have hfz16_0 := zz17 BK139.out 0
       have hfz16_1 := zz17 BK139.out 1
       go_wp2
       go_meet
       case rel=>exact ⟨_,(false),(by first|rfl|(simp;done)|(simp [*];done)),H',⟨by first|omega|exact Nat.le_refl _⟩,⟨by (with_reducible repeat (first|refine zz07 ?_ _|refine zz09 ?_|refine zz08 ?_ _));exact BK139.out⟩,⟨by repeat (first|(with_reducible first|exact HB.out|apply zz03|apply zz01|apply zz02|refine zz10 ?_ GE139.out)|exact HB.out)⟩⟩
     ·
      replace c11 := zz32.mpr c11
      subst c11
      have H1 : (newyear_Delay.j0 k t140 (!false)) = some r := by rw [if_neg (show ¬ (false = true) by decide)] at H; exact H
      clear H
      have H := H1
      clear H1
      have H' := zz00 H
      clear H
      have hcz17_0 : w6.cell? ⟨gb139, 0, none⟩ = some (.int .i64 a0_0) := (zz18 BK139.out 0).trans rfl
      have hcz17_1 : w6.cell? ⟨gb139, 1, none⟩ = some (.int .i64 a0_1) := (zz18 BK139.out 1).trans rfl
      have hfz17_0 := zz17 BK139.out 0
      have hfz17_1 := zz17 BK139.out 1
      go_wp2
      go_meet
      case rel=>exact ⟨_,(!false),(by first|rfl|(simp;done)|(simp [*];done)),H',⟨by first|omega|exact Nat.le_refl _⟩,⟨by (with_reducible repeat (first|refine zz07 ?_ _|refine zz09 ?_|refine zz08 ?_ _));exact BK139.out⟩,⟨by repeat (first|(with_reducible first|exact HB.out|apply zz03|apply zz01|apply zz02|refine zz10 ?_ GE139.out)|exact HB.out)⟩⟩
    ·
     rw [if_neg c10] at H
     have c10b0 : decide (9924 ≤ a0_1) = false := decide_eq_false c10
     clear c10
     by_cases c18 : t140 = 1
     ·
      rw [if_pos c18] at H
      have c18b0 : (t140 == 1) = true := zz29.mpr c18
      have c18b1 : (t140 != 1) = false := zz26.mpr c18
      clear c18
      by_cases c19 : a0_1 ≥ 16789
      ·
       rw [if_pos c19] at H
       have c19b0 : decide (16789 ≤ a0_1) = true := decide_eq_true c19
       clear c19
       have H' := zz00 H
       clear H
       have hcz20_0 : w6.cell? ⟨gb139, 0, none⟩ = some (.int .i64 a0_0) := (zz18 BK139.out 0).trans rfl
       have hcz20_1 : w6.cell? ⟨gb139, 1, none⟩ = some (.int .i64 a0_1) := (zz18 BK139.out 1).trans rfl
       have hfz20_0 := zz17 BK139.out 0
       have hfz20_1 := zz17 BK139.out 1
       go_wp2
       go_meet
       case rel=>exact ⟨_,(a2),(by first|rfl|(simp;done)|(simp [*];done)),H',⟨by first|omega|exact Nat.le_refl _⟩,⟨by (with_reducible repeat (first|refine zz07 ?_ _|refine zz09 ?_|refine zz08 ?_ _));exact BK139.out⟩,⟨by repeat (first|(with_reducible first|exact HB.out|apply zz03|apply zz01|apply zz02|refine zz10 ?_ GE139.out)|exact HB.out)⟩⟩
      ·
       rw [if_neg c19] at H
       have c19b0 : decide (16789 ≤ a0_1) = false := decide_eq_false c19
       clear c19
       have H' := zz00 H
       clear H
       have hcz21_0 : w6.cell? ⟨gb139, 0, none⟩ = some (.int .i64 a0_0) := (zz18 BK139.out 0).trans rfl
       have hcz21_1 : w6.cell? ⟨gb139, 1, none⟩ = some (.int .i64 a0_1) := (zz18 BK139.out 1).trans rfl
       have hfz21_0 := zz17 BK139.out 0
       have hfz21_1 := zz17 BK139.out 1
       go_wp2
       go_meet
       case rel=>exact ⟨_,(false),(by first|rfl|(simp;done)|(simp [*];done)),H',⟨by first|omega|exact Nat.le_refl _⟩,⟨by (with_reducible repeat (first|refine zz07 ?_ _|refine zz09 ?_|refine zz08 ?_ _));exact BK139.out⟩,⟨by repeat (first|(with_reducible first|exact HB.out|apply zz03|apply zz01|apply zz02|refine zz10 ?_ GE139.out)|exact HB.out)⟩⟩
     ·
      rw [if_neg c18] at H
      have c18b0 : (t140 == 1) = false := zz27.mpr c18
      have c18b1 : (t140 != 1) = true := zz28.mpr c18
      have H' := zz00 H
      clear H
      have hcz22_0 : w6.cell? ⟨gb139, 0, none⟩ = some (.int .i64 a0_0) := (zz18 BK139.out 0).trans rfl
      have hcz22_1 : w6.cell? ⟨gb139, 1, none⟩ = some (.int .i64 a0_1) := (zz18 BK139.out 1).trans rfl
      have hfz22_0 := zz17 BK139.out 0
      have hfz22_1 := zz17 BK139.out 1
      go_wp2
      go_meet
      case rel=>exact ⟨_,(false),(by first|rfl|(simp;done)|(simp [*];done)),H',⟨by first|omega|exact Nat.le_refl _⟩,⟨by (with_reducible repeat (first|refine zz07 ?_ _|refine zz09 ?_|refine zz08 ?_ _));exact BK139.out⟩,⟨by repeat (first|(with_reducible first|exact HB.out|apply zz03|apply zz01|apply zz02|refine zz10 ?_ GE139.out)|exact HB.out)⟩⟩
   ·
    rw [if_neg c9] at H
    have c9b0 : (t140 == 2) = false := zz27.mpr c9
    have c9b1 : (t140 != 2) = true := zz28.mpr c9
    by_cases c23 : t140 = 1
    ·
     rw [if_pos c23] at H
     have c23b0 : (t140 == 1) = true := zz29.mpr c23
     have c23b1 : (t140 != 1) = false := zz26.mpr c23
     clear c23
     by_cases c24 : a0_1 ≥ 16789
     ·
      rw [if_pos c24] at H
      have c24b0 : decide (16789 ≤ a0_1) = true := decide_eq_true c24
      clear c24
      have H' := zz00 H
      clear H
      have hcz25_0 : w6.cell? ⟨gb139, 0, none⟩ = some (.int .i64 a0_0) := (zz18 BK139.out 0).trans rfl
      have hcz25_1 : w6.cell? ⟨gb139, 1, none⟩ = some (.int .i64 a0_1) := (zz18 BK139.out 1).trans rfl
      have hfz25_0 := zz17 BK139.out 0
      have hfz25_1 := zz17 BK139.out 1
      go_wp2
      go_meet
      case rel=>exact ⟨_,(a2),(by first|rfl|(simp;done)|(simp [*];done)),H',⟨by first|omega|exact Nat.le_refl _⟩,⟨by (with_reducible repeat (first|refine zz07 ?_ _|refine zz09 ?_|refine zz08 ?_ _));exact BK139.out⟩,⟨by repeat (first|(with_reducible first|exact HB.out|apply zz03|apply zz01|apply zz02|refine zz10 ?_ GE139.out)|exact HB.out)⟩⟩
     ·
      rw [if_neg c24] at H
      have c24b0 : decide (16789 ≤ a0_1) = false := decide_eq_false c24
      clear c24
      have H' := zz00 H
      clear H
      have hcz26_0 : w6.cell? ⟨gb139, 0, none⟩ = some (.int .i64 a0_0) := (zz18 BK139.out 0).trans rfl
      have hcz26_1 : w6.cell? ⟨gb139, 1, none⟩ = some (.int .i64 a0_1) := (zz18 BK139.out 1).trans rfl
      have hfz26_0 := zz17 BK139.out 0
      have hfz26_1 := zz17 BK139.out 1
      go_wp2
      go_meet
      case rel=>exact ⟨_,(false),(by first|rfl|(simp;done)|(simp [*];done)),H',⟨by first|omega|exact Nat.le_refl _⟩,⟨by (with_reducible repeat (first|refine zz07 ?_ _|refine zz09 ?_|refine zz08 ?_ _));exact BK139.out⟩,⟨by repeat (first|(with_reducible first|exact HB.out|apply zz03|apply zz01|apply zz02|refine zz10 ?_ GE139.out)|exact HB.out)⟩⟩
    ·
     rw [if_neg c23] at H
     have c23b0 : (t140 == 1) = false := zz27.mpr c23
     have c23b1 : (t140 != 1) = true := zz28.mpr c23
     have H' := zz00 H
     clear H
     go_wp2
     go_meet
     case rel=>exact ⟨_,(false),(by first|rfl|(simp;done)|(simp [*];done)),H',⟨by first|omega|exact Nat.le_refl _⟩,⟨by (with_reducible repeat (first|refine zz07 ?_ _|refine zz09 ?_|refine zz08 ?_ _));exact BK139.out⟩,⟨by repeat (first|(with_reducible first|exact HB.out|apply zz03|apply zz01|apply zz02|refine zz10 ?_ GE139.out)|exact HB.out)⟩⟩
 case rest =>
  clear HC5
  try clear c1
  try clear c2
  try clear p2
  try clear c8
  try clear c8b0
  try clear c9
  try clear c9b0
  try clear c9b1
  try clear c10
  try clear c10b0
  try clear c11
  try clear c12
  try clear c12b0
  try clear c12b1
  try clear c13
  try clear c13b0
  try clear c18
  try clear c18b0
  try clear c18b1
  try clear c19
  try clear c19b0
  try clear c23
  try clear c23b0
  try clear c23b1
  try clear c24
  try clear c24b0
  try clear hcz14_0
  try clear hcz14_1
  try clear hcz15_0
  try clear hcz15_1
  try clear hcz16_0
  try clear hcz16_1
  try clear hcz17_0
  try clear hcz17_1
  try clear hcz20_0
  try clear hcz20_1
  try clear hcz21_0
  try clear hcz21_1
  try clear hcz22_0
  try clear hcz22_1
  try clear hcz25_0
  try clear hcz25_1
  try clear hcz26_0
  try clear hcz26_1
  try clear hcz7_0
  try clear hcz7_1
  try clear hfz14_0
  try clear hfz14_1
  try clear hfz15_0
  try clear hfz15_1
  try clear hfz16_0
  try clear hfz16_1
  try clear hfz17_0
  try clear hfz17_1
  try clear hfz20_0
  try clear hfz20_1
  try clear hfz21_0
  try clear hfz21_1
  try clear hfz22_0
  try clear hfz22_1
  try clear hfz25_0
  try clear hfz25_1
  try clear hfz26_0
  try clear hfz26_1
  try clear hfz7_0
  try clear hfz7_1
  obtain ⟨kq, x13_4, rfl, HA, HJ4, BK139, HB⟩ := hcut
  cases kq with
  | zero => exact absurd HA.out (by simp [newyear_Delay.j0])
  | succ kj4 =>
   have H := HA.out
   clear HA
   simp only [newyear_Delay.j0] at H
   by_cases c27 : x13_4 = true
   ·
    subst c27
    have H1 : ((newyear_bad.f (Int.tmod (wrap64 (t140 + 1)) 7)).bind fun t141 => (if t141 = true then (some 2) else (some 1))) = some r := by rw [if_pos rfl] at H; exact H
    clear H
    have H := H1
    clear H1
    replace H := zz14.mp H
    obtain ⟨t141, A280, H⟩ := H
    replace H : (if t141 = true then (some 2) else (some 1)) = some r := H
    have A28 := zz00 A280
    clear A280
    by_cases c29 : t141 = true
    ·
     subst c29
     have H1 : (some 2) = some r := by rw [if_pos rfl] at H; exact H
     clear H
     have H := H1
     clear H1
     obtain rfl := Option.some.inj H
     go_wp2_with (first|((with_reducible refine zz23 (f:=183) rfl ?_);refine zz25 (some 42) rfl rfl Tryz.func183 (by kernel_rfl) rfl #[.int .i64 (Int.tmod (wrap64 (t140 + 1)) 7)] rfl (by (try simp only [List.map_toArray,List.map_cons,List.map_nil]);first|done|rfl|(simp only [List.length_drop,List.length_take];rfl)) ?_;(with_reducible refine (newyear_bad.calls (Int.tmod (wrap64 (t140 + 1)) 7) true _ A28.out).mono ?_);rintro e w' ⟨rfl,⟨nd,rfl⟩⟩;refine ⟨_,rfl,?_⟩))
     go_ret
     exact ⟨by first|rfl|(simp [errW_none,errW_some] <;> rfl)|(simp [*,errW_none,errW_some] <;> rfl),by repeat (first|(with_reducible first|exact HB.out|apply zz03|apply zz01|apply zz02|refine zz10 ?_ GE139.out)|exact HB.out)⟩
    ·
     replace c29 := zz32.mpr c29
     subst c29
     have H1 : (some 1) = some r := by rw [if_neg (show ¬ (false = true) by decide)] at H; exact H
     clear H
     have H := H1
     clear H1
     obtain rfl := Option.some.inj H
     go_wp2_with (first|((with_reducible refine zz23 (f:=183) rfl ?_);refine zz25 (some 42) rfl rfl Tryz.func183 (by kernel_rfl) rfl #[.int .i64 (Int.tmod (wrap64 (t140 + 1)) 7)] rfl (by (try simp only [List.map_toArray,List.map_cons,List.map_nil]);first|done|rfl|(simp only [List.length_drop,List.length_take];rfl)) ?_;(with_reducible refine (newyear_bad.calls (Int.tmod (wrap64 (t140 + 1)) 7) false _ A28.out).mono ?_);rintro e w' ⟨rfl,⟨nd,rfl⟩⟩;refine ⟨_,rfl,?_⟩))
     go_ret
     exact ⟨by first|rfl|(simp [errW_none,errW_some] <;> rfl)|(simp [*,errW_none,errW_some] <;> rfl),by repeat (first|(with_reducible first|exact HB.out|apply zz03|apply zz01|apply zz02|refine zz10 ?_ GE139.out)|exact HB.out)⟩
   ·
    replace c27 := zz32.mpr c27
    subst c27
    have H1 : ((newyear_bad.f t140).bind fun t142 => (if t142 = true then (some 1) else (some 0))) = some r := by rw [if_neg (show ¬ (false = true) by decide)] at H; exact H
    clear H
    have H := H1
    clear H1
    replace H := zz14.mp H
    obtain ⟨t142, A300, H⟩ := H
    replace H : (if t142 = true then (some 1) else (some 0)) = some r := H
    have A30 := zz00 A300
    clear A300
    by_cases c31 : t142 = true
    ·
     subst c31
     have H1 : (some 1) = some r := by rw [if_pos rfl] at H; exact H
     clear H
     have H := H1
     clear H1
     obtain rfl := Option.some.inj H
     go_wp2_with (first|((with_reducible refine zz23 (f:=183) rfl ?_);refine zz25 (some 45) rfl rfl Tryz.func183 (by kernel_rfl) rfl #[.int .i64 t140] rfl (by (try simp only [List.map_toArray,List.map_cons,List.map_nil]);first|done|rfl|(simp only [List.length_drop,List.length_take];rfl)) ?_;(with_reducible refine (newyear_bad.calls t140 true _ A30.out).mono ?_);rintro e w' ⟨rfl,⟨nd,rfl⟩⟩;refine ⟨_,rfl,?_⟩))
     go_ret
     exact ⟨by first|rfl|(simp [errW_none,errW_some] <;> rfl)|(simp [*,errW_none,errW_some] <;> rfl),by repeat (first|(with_reducible first|exact HB.out|apply zz03|apply zz01|apply zz02|refine zz10 ?_ GE139.out)|exact HB.out)⟩
    ·
     replace c31 := zz32.mpr c31
     subst c31
     have H1 : (some 0) = some r := by rw [if_neg (show ¬ (false = true) by decide)] at H; exact H
     clear H
     have H := H1
     clear H1
     obtain rfl := Option.some.inj H
     go_wp2_with (first|((with_reducible refine zz23 (f:=183) rfl ?_);refine zz25 (some 45) rfl rfl Tryz.func183 (by kernel_rfl) rfl #[.int .i64 t140] rfl (by (try simp only [List.map_toArray,List.map_cons,List.map_nil]);first|done|rfl|(simp only [List.length_drop,List.length_take];rfl)) ?_;(with_reducible refine (newyear_bad.calls t140 false _ A30.out).mono ?_);rintro e w' ⟨rfl,⟨nd,rfl⟩⟩;refine ⟨_,rfl,?_⟩))
     go_ret
     exact ⟨by first|rfl|(simp [errW_none,errW_some] <;> rfl)|(simp [*,errW_none,errW_some] <;> rfl),by repeat (first|(with_reducible first|exact HB.out|apply zz03|apply zz01|apply zz02|refine zz10 ?_ GE139.out)|exact HB.out)⟩

end Go.Proofs.YtflpddhoiafhcaaGreatDoor.S
end
