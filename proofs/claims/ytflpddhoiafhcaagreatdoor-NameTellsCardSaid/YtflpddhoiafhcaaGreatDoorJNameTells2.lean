/- Texts of the proof of 'NameTells', joined by a program (part 2): contracts of functions, plain laws. -/
import Derived.Test.YtflpddhoiafhcaaGreatDoorJNameTells0
import Derived.Test.YtflpddhoiafhcaaGreatDoorProg
import Derived.Below
import Derived.Deep.Draws
import Derived.WalkKit
import Derived.Laws.Rows
import Derived.Test.YtflpddhoiafhcaaGreatDoorJNameTells1
import Derived.Test.YtflpddhoiafhcaaGreatDoorRows
import Derived.Stop.Joined
import Derived.Stop.LaidErr
import Derived.Lib.LaidTab
import Derived.MakeChecks
import Derived.LaidMore
import Derived.OpenShut
import Derived.ChangeSame
import Derived.Deep.Strs
import Derived.WalkSmall
import Derived.Lib.SmallJoins
import Derived.Lib.ItoaMem
import Derived.KernelRfl
import Derived.ProofKit
import Derived.Shelf.Vars
import Derived.ChangeOld
import Derived.SevenTiedAt
import Derived.Shelf.Bits.Mul64
import Derived.OwnWalk
import Derived.Tactics
import Derived.RowKit3
import Derived.Deep.LoopGhost
import Derived.Deep.QuietTactic
import Derived.BigQuiet
import Derived.WideLaws
import Derived.Deep.DeepCutAuto
import Derived.Deep.CutBlock
import Derived.Deep.RegionHeld3
import Derived.OrdersHeld
import Derived.Outline
import Derived.Shelf.SlicesQ.Index
import Derived.Laws.StructEq
import Derived.IntWalk
import Derived.RegionTactic
import Derived.ChangeAlike
import Derived.Laws.Tables
import Derived.Laws.CopyOwn
import Derived.Shelf.SlSortCmp.WholeK
import Derived.Shelf.SlicesE.Clone
import Derived.Shelf.SlicesG.Cmp
import Derived.Shelf.Strings.Builder1
import Derived.Shelf.Strings.Builder2
import Derived.Shelf.Strings.OnBuilder
import Derived.Shelf.Small.Utf8
import Derived.Shelf.Small.Bits
import Derived.Shelf.Small.Strs
import Derived.Shelf.Small.Wraps
import Derived.Shelf.Strings.BuilderF
import Derived.Shelf.Strings.BuilderK
import Derived.Shelf.Strings.Builder2Cap
import Derived.Shelf.Strconv.Atoi
import Derived.Shelf.Strconv.Itoa0
import Derived.Shelf.Strconv.Itoa1
import Derived.Shelf.LaysM
import Derived.Shelf.Strconv.Itoa2
import Derived.Shelf.Strconv.Itoa3
import Derived.Shelf.Strconv.AtoiErrFast
import Derived.Shelf.Strconv.ParseIntEmpty
import Derived.Shelf.Strconv.AtoiFail
import Derived.Shelf.Strconv.Clone
import Derived.Shelf.Strconv.SyntaxError
import Derived.Shelf.LaysC
import Derived.Shelf.Strconv.ToError
import Derived.Shelf.Strconv.Lower
import Derived.Shelf.Strconv.ParseUint10
import Derived.Shelf.Strconv.ParseUint10Empty
import Derived.Shelf.Strconv.ParseUint10Any
import Derived.Shelf.Strconv.ParseInt10
import Derived.Shelf.Strconv.AtoiLong
import Derived.Shelf.Strconv.AtoiInnerAll
import Derived.Shelf.Strconv.RangeError
import Derived.Shelf.Strconv.ToErrorRange
import Derived.Shelf.Strconv.AtoiAll
import Derived.Shelf.Strconv.ErrVarAll
import Derived.Shelf.Strconv.ParseUintEmpty
import Derived.Shelf.Strconv.ParseUint10b64
import Derived.Shelf.Strconv.ParseUint10b32
import Derived.Shelf.Strconv.ParseUint10b16
import Derived.Shelf.Strconv.ParseUint10b8
import Derived.Shelf.Strconv.ParseUint10At
import Derived.Shelf.Strings.Search1
import Derived.Shelf.Strings.Search2
import Derived.Shelf.Strings.Search3
import Derived.Shelf.Strings.Cut
import Derived.Shelf.Strings.Count
import Derived.Shelf.Strings.Shaped
import Derived.Shelf.Strings.LastIndex
import Derived.Shelf.Strings.Prefix
import Derived.Shelf.Strings.Split
import Derived.Shelf.Unicode.Decode
import Derived.Shelf.Strings.Runes
import Derived.Shelf.Strings.RuneCount
import Derived.Shelf.Strings.AsciiSet
import Derived.Shelf.Strings.Repeat
import Derived.Shelf.Unicode.DecodeSlow
import Derived.Shelf.Unicode.DecodeAny
import Derived.Shelf.Strings.BuilderCap
import Derived.Shelf.Slices.SearchI
import Derived.Shelf.Strings.Trim
import Derived.Shelf.Utf8.RuneCount
import Derived.Shelf.Unicode.DecodeLast
import Derived.Lib.AtoiAllCases
import Derived.Lib.AppendIntMem
import Derived.MapKept
import Derived.WideMake
import Derived.Carry
import Derived.Deep.AppendLies
import Derived.Maps.AppendAt
import Derived.Laws.BytesArg
import Derived.Laws.MakeOwn
import Derived.Laws.OwnMore
import Derived.Deep.OwnRows
import Derived.Lib.ConvBytes
import Derived.Laws.Slices
import Derived.Lib.AppendStr
import Derived.ArgAppend
import Derived.Laws.IdiomCopy
import Derived.Laws.BitsLemmas
import Derived.RowKit
import Derived.Sort.OwnSortedInts
set_option linter.unusedVariables false
set_option linter.unusedSimpArgs false
set_option linter.unusedSectionVars false
section
/- The plain mathematics of the fixed Hebrew calendar: first days of years, their types; what is asked of the years 1 to 9999 is reckoned by the kernel once. No program in sight. -/
namespace Go.Proofs.YtflpddhoiafhcaaGreatDoor.Cal

def leap (y : Int) : Bool := decide ((7 * y + 1) % 19 < 7)
def before (y : Int) : Int := (235 * y - 234) / 19
def md (y : Int) : Int := (5604 + 765433 * before y) / 25920 - 1373427
def mp (y : Int) : Int := (5604 + 765433 * before y) % 25920
/-- 1 where the new moon puts the year off. -/
def off (w p : Int) (lp after : Bool) : Int :=
  if p ≥ 19440 then 1 else if lp = false ∧ w = 2 ∧ p ≥ 9924 then 1 else if after = true ∧ w = 1 ∧ p ≥ 16789 then 1 else 0
def delay (d p : Int) (lp after : Bool) : Int :=
  if (d % 7 + off (d % 7) p lp after) % 7 = 0 ∨ (d % 7 + off (d % 7) p lp after) % 7 = 3 ∨ (d % 7 + off (d % 7) p lp after) % 7 = 5
  then off (d % 7) p lp after + 1 else off (d % 7) p lp after
/-- A year's first day. -/
def first (y : Int) : Int := md y + delay (md y) (mp y) (leap y) (leap (y - 1))

def leapN (y : Nat) : Bool := Nat.blt ((7 * y + 1) % 19) 7
def pN (y : Nat) : Nat := 5604 + 765433 * ((235 * y - 234) / 19)
def offN (w p : Nat) (lp after : Bool) : Nat :=
  bif Nat.ble 19440 p then 1 else bif !lp && (Nat.beq w 2 && Nat.ble 9924 p) then 1 else bif after && (Nat.beq w 1 && Nat.ble 16789 p) then 1 else 0
def badN (w : Nat) : Bool := Nat.beq w 0 || (Nat.beq w 3 || Nat.beq w 5)
def plusN (w n : Nat) : Nat := bif badN ((w + n) % 7) then n + 1 else n
/-- A year's first day, counted from 1373428 days ahead of day 0. -/
def fN (y : Nat) : Nat := pN y / 25920 + 1 + plusN ((pN y / 25920 + 1) % 7) (offN ((pN y / 25920 + 1) % 7) (pN y % 25920) (leapN y) (leapN (y - 1)))
/-- The fourteen types: the weekday on which the year begins, its length, whether it is a leap year. -/
def typeN (w l : Nat) (lp : Bool) : Nat :=
  bif lp then
    (bif Nat.beq w 1 then (bif Nat.beq l 383 then 8 else bif Nat.beq l 385 then 9 else 0) else bif Nat.beq w 2 then (bif Nat.beq l 384 then 10 else 0) else
     bif Nat.beq w 4 then (bif Nat.beq l 383 then 11 else bif Nat.beq l 385 then 12 else 0) else bif Nat.beq w 6 then (bif Nat.beq l 383 then 13 else bif Nat.beq l 385 then 14 else 0) else 0)
  else
    (bif Nat.beq w 1 then (bif Nat.beq l 353 then 1 else bif Nat.beq l 355 then 2 else 0) else bif Nat.beq w 2 then (bif Nat.beq l 354 then 3 else 0) else
     bif Nat.beq w 4 then (bif Nat.beq l 354 then 4 else bif Nat.beq l 355 then 5 else 0) else bif Nat.beq w 6 then (bif Nat.beq l 353 then 6 else bif Nat.beq l 355 then 7 else 0) else 0)
def tyN (y : Nat) : Nat := typeN (fN y % 7) (fN (y + 1) - fN y) (leapN y)
def okN (y : Nat) : Bool := Nat.beq y 0 || (Nat.blt 9999 y || Nat.blt 0 (tyN y))
def allN : Nat → Nat → Bool
  | 0, lo => okN lo
  | k + 1, lo => allN k lo && allN k (lo + 2 ^ k)
theorem allN_of : ∀ (k lo y : Nat), allN k lo = true → lo ≤ y → y < lo + 2 ^ k → okN y = true := by
  intro k
  induction k with
  | zero => intro lo y h h0 h1; obtain rfl : y = lo := by simp at h1; omega
            exact h
  | succ k ih =>
    intro lo y h h0 h1
    simp only [allN, Bool.and_eq_true] at h
    rw [Nat.pow_succ] at h1
    by_cases c : y < lo + 2 ^ k
    · exact ih lo y h.1 h0 c
    · exact ih (lo + 2 ^ k) y h.2 (by omega) (by omega)
theorem all_years : allN 14 0 = true := by decide +kernel
theorem ty_pos (y : Nat) (h0 : 1 ≤ y) (h1 : y ≤ 9999) : 0 < tyN y := by
  have h := allN_of 14 0 y all_years (by omega) (by omega)
  simp only [okN, Bool.or_eq_true, Nat.beq_eq, Nat.blt, Nat.ble_eq] at h
  omega
end Go.Proofs.YtflpddhoiafhcaaGreatDoor.Cal
end

section
/- The fourteen types of years, their months' lengths, and what is asked of them: plain, no program in sight. -/
namespace Go.Proofs.YtflpddhoiafhcaaGreatDoor.Cal

/-- The fourteen types in their order: the weekday on which the year begins, its kind, whether it is a leap year. -/
def tyList : List (Int × Int × Bool) :=
  [(1, 0, false), (1, 2, false), (2, 1, false), (4, 1, false), (4, 2, false), (6, 0, false), (6, 2, false),
   (1, 0, true), (1, 2, true), (2, 1, true), (4, 0, true), (4, 2, true), (6, 0, true), (6, 2, true)]
def tyEq (x y : Int × Int × Bool) : Bool := x.1 == y.1 && (x.2.1 == y.2.1 && (x.2.2 == y.2.2))
/-- The place of a type among others, from a number on; 0: it is none of them. -/
def idxFrom (x : Int × Int × Bool) : List (Int × Int × Bool) → Int → Int
  | [], _ => 0
  | y :: r, i => if tyEq x y then i else idxFrom x r (i + 1)
/-- A type's number: 1 to 14; 0: it is none. -/
def tyNum (b k : Int) (l : Bool) : Int := idxFrom (b, k, l) tyList 1
def plainList : List Int := [30, 29, 30, 29, 30, 29, 30, 29, 30, 29, 30, 29]
/-- The months' lengths of a kind. -/
def lens (k : Int) (l : Bool) : List Int :=
  [30, if k = 2 then 30 else 29, if k = 0 then 29 else 30, 29, 30] ++ (if l = true then [30] else []) ++ [29, 30, 29, 30, 29, 30, 29]
/-- The months that are laid in the first rounds, so many. -/
def pre (k : Int) (l : Bool) : Nat → List Int
  | 0 => []
  | i + 1 => pre k l i ++ (if i = 5 ∧ l = true then [30] else []) ++ [if i = 1 ∧ k = 2 then 30 else if i = 2 ∧ k = 0 then 29 else plainList.getD i 0]
theorem pre_len (k : Int) (l : Bool) : ∀ i, i ≤ (pre k l i).length ∧ (pre k l i).length ≤ i + (if 5 < i then 1 else 0)
  | 0 => by simp [pre]
  | i + 1 => by
    have h := pre_len k l i
    simp only [pre, List.length_append, List.length_cons, List.length_nil]
    by_cases c : i = 5 ∧ l = true
    · obtain ⟨rfl, _⟩ := c
      rw [if_pos ⟨rfl, ‹_›⟩]
      simp at h ⊢
      omega
    · rw [if_neg c]
      by_cases d : 5 < i
      · rw [if_pos d] at h; rw [if_pos (by omega)]; simp; omega
      · rw [if_neg d] at h; simp; split <;> omega
theorem pre_all (k : Int) (l : Bool) : pre k l 12 = lens k l := by
  simp only [pre, lens, plainList]
  cases l <;> by_cases h2 : k = 2 <;> by_cases h0 : k = 0 <;> simp_all
/-- The months of a type; none, if there is no such type. -/
def months (b k : Int) (l : Bool) : List Int := if tyNum b k l = 0 then [] else lens k l
def mdays (b k : Int) (l : Bool) (m : Int) : Int := if 0 < m ∧ m ≤ (months b k l).length then (months b k l).getD (m - 1).toNat 0 else 0
end Go.Proofs.YtflpddhoiafhcaaGreatDoor.Cal
end

section
/- What the package-level variables of the calendar hold: a world in which they read as their text lays them, and that a call which leaves elder memory alone keeps this. -/
namespace Go.Proofs.YtflpddhoiafhcaaGreatDoor
open Go.RowKit Go.Proofs.YtflpddhoiafhcaaGreatDoorW.PrintWords
/-- A type's three cells. -/
def encK (x : Int × Int × Bool) : List Value := [.int .i64 x.1, .int .i64 x.2.1, .bool x.2.2]
def tyCells : Array Value := ((Cal.tyList.map encK).flatten).toArray
def plainCells : Array Value := (Cal.plainList.map fun n => Value.int .i64 n).toArray
/-- What a package-level variable's block holds. -/
def Holds (g : Nat) (cs : Array Value) (w : World) : Prop := ∃ t fr, w.heap[g]? = some (.cells cs t fr)
theorem Holds.below {g : Nat} {cs : Array Value} {w w' : World} (h : Holds g cs w) (hb : Below w.heap.size w w') : Holds g cs w' := by
  obtain ⟨t, fr, e⟩ := h
  exact ⟨t, fr, (hb.block g (Array.getElem?_eq_some_iff.1 e).1).trans e⟩
theorem Holds.cell {g : Nat} {cs : Array Value} {w : World} (h : Holds g cs w) (i : Nat) : w.cell? ⟨g, i, none⟩ = cs[i]? := by
  obtain ⟨t, fr, e⟩ := h
  exact cell_of_row w g i cs t fr e
/-- The types and the months. -/
structure GlobT (w : World) : Prop where
  types : Holds 3 tyCells w
  plain : Holds 2 plainCells w
theorem keep_cell {w w' : World} (h : Below w.heap.size w w') {a : Addr} {v : Value} (hc : w.cell? a = some v) : w'.cell? a = some v :=
  (h.cell (World.block_lt_of_cell? w a hc)).trans hc
theorem GlobT.below {w w' : World} (g : GlobT w) (h : Below w.heap.size w w') : GlobT w' := ⟨g.types.below h, g.plain.below h⟩
theorem GlobT.drawn {w w' : World} (g : GlobT w) (h : Drawn0 w w') : GlobT w' := g.below h.below
theorem GlobT.typesAt {w : World} (g : GlobT w) : ∀ j, j < Cal.tyList.length → ∀ i v, (encK Cal.tyList[j]!)[i]? = some v → w.cell? ⟨3, 0 + j * 3 + i, none⟩ = some v := by
  intro j hj i v hv
  rw [g.types.cell]
  have h2 : i < 3 := by
    have := (List.getElem?_eq_some_iff.1 hv).1
    simpa [encK] using this
  have hj' : j < 14 := hj
  rw [← hv]
  have key : ∀ j, j < 14 → ∀ i, i < 3 → tyCells[0 + j * 3 + i]? = (encK Cal.tyList[j]!)[i]? := by
    intro j hj i hi
    rcases (by omega : i = 0 ∨ i = 1 ∨ i = 2) with rfl | rfl | rfl <;>
    rcases (by omega : j = 0 ∨ j = 1 ∨ j = 2 ∨ j = 3 ∨ j = 4 ∨ j = 5 ∨ j = 6 ∨ j = 7 ∨ j = 8 ∨ j = 9 ∨ j = 10 ∨ j = 11 ∨ j = 12 ∨ j = 13) with rfl | rfl | rfl | rfl | rfl | rfl | rfl | rfl | rfl | rfl | rfl | rfl | rfl | rfl <;> rfl
  exact key j hj' i h2
end Go.Proofs.YtflpddhoiafhcaaGreatDoor
end

section
/- What the row's listed variables give the walks: the fourteen types and the months. -/
namespace Go.Proofs.YtflpddhoiafhcaaGreatDoor
open Go.RowKit Go.ChangeShapes
theorem gTypes : Tryz.prog.globalNamed "almanacker/keviah.types" = some 3 := by kernel_rfl
theorem gPlain : Tryz.prog.globalNamed "almanacker/month.plain" = some 2 := by kernel_rfl
theorem tTypes : (Tryz.prog.globals[3]?).map (·.type) = some 235 := by kernel_rfl
theorem tPlain : (Tryz.prog.globals[2]?).map (·.type) = some 183 := by kernel_rfl
theorem plain_data : (Rows.laid_almanacker_month_plain : DataW Unit) = Lib.tabData .i64 Cal.plainList := by kernel_rfl
def kevData (x : Int × Int × Bool) : DataW Unit := .agg [.lit (.int .i64 x.1), .lit (.int .i64 x.2.1), .lit (.bool x.2.2)]
theorem types_data : (Rows.laid_almanacker_keviah_types : DataW Unit) = .agg (Cal.tyList.map kevData) := by kernel_rfl
theorem ck3 : Tryz.prog.cellsOf 93 = 3 := by kernel_rfl
theorem ck42 : Tryz.prog.cellsOf 235 = 42 := by kernel_rfl
theorem ci1 : Tryz.prog.cellsOf 3 = 1 := by kernel_rfl
theorem cb1 : Tryz.prog.cellsOf 4 = 1 := by kernel_rfl
theorem holds_of_var {W : World} {n : String} {g : Nat} {cs : Array Value} (hg : Tryz.prog.globalNamed n = some g) (h : W.var? Tryz.prog n = some cs) : Holds g cs W := by
  unfold World.var? at h
  rw [hg] at h
  simp only [Option.bind_some] at h
  split at h
  · rename_i c t fr hh
    obtain rfl := Option.some.inj h
    exact ⟨t, fr, hh⟩
  · cases h
set_option maxRecDepth 100000 in
theorem kev_cells {enc : TypeId × Value → Unit} {w : World} {base : Nat} {spare : Nat → Bool} {held : Bool} {k : Nat} {cs : List Value} {y : DataW Unit × List MemPlace} (x : Int × Int × Bool)
    (hl : cs.length = 3) (h : DataW.trod enc Tryz.prog w base spare held k 93 cs = some y) (hy : y.1 = kevData x) : cs = encK x := by
  obtain ⟨a, b, c, rfl⟩ : ∃ a b c, cs = [a, b, c] := by
    match cs, hl with
    | [a, b, c], _ => exact ⟨a, b, c, rfl⟩
  obtain ⟨y0, y1, y2, n, rfl, _, h0, h1, h2⟩ := Go.Deep.trod_struct3 Tryz.underlying93 h
  obtain ⟨n0, e0, rfl, _⟩ := DataW.trod_int Tryz.underlying3 h0
  obtain ⟨n1, e1, rfl, _⟩ := DataW.trod_int Tryz.underlying3 h1
  obtain ⟨b2, e2, rfl⟩ := DataW.trod_bool Tryz.underlying4 h2
  simp [ci1, cb1] at e0 e1 e2
  simp [kevData] at hy
  obtain ⟨p, q, r⟩ := x
  simp at hy
  obtain ⟨rfl, rfl, rfl⟩ := hy
  subst e0 e1 e2
  rfl
set_option maxRecDepth 100000 in
theorem cells_of_types {enc : TypeId × Value → Unit} {w : World} {base : Nat} {spare : Nat → Bool} {held : Bool} {k : Nat} {cs : List Value} {x : DataW Unit × List MemPlace}
    (h : DataW.trod enc Tryz.prog w base spare held k 235 cs = some x) (hx : x.1 = .agg (Cal.tyList.map kevData)) : cs = tyCells.toList := by
  obtain ⟨xs, m, rfl, rfl, hlen, hn, hel⟩ := DataW.trod_array Tryz.underlying235 h
  rw [ck42] at hlen
  have hx' : xs.map (·.1) = Cal.tyList.map kevData := by simpa using hx
  have hch : ∀ i, i < 14 → (cs.drop (i * 3)).take 3 = encK Cal.tyList[i]! := by
    intro i hi
    have h1 := hel i hi
    rw [ck3] at h1
    have hi2 : i < xs.length := by omega
    rw [List.getElem?_eq_getElem hi2] at h1
    have e : xs[i].1 = kevData Cal.tyList[i]! := by
      have := congrArg (fun l => l[i]?) hx'
      simp only [List.getElem?_map] at this
      rw [List.getElem?_eq_getElem hi2, List.getElem?_eq_getElem (show i < Cal.tyList.length from hi)] at this
      have e2 : Cal.tyList[i]! = Cal.tyList[i]'(show i < Cal.tyList.length from hi) := getElem!_pos _ _ _
      rw [e2]
      simpa using this
    exact kev_cells _ (by rw [List.length_take, List.length_drop]; omega) h1 e
  have hk : ∀ i, i < 14 → (tyCells.toList.drop (i * 3)).take 3 = encK Cal.tyList[i]! := by
    intro i hi
    rcases (by omega : i = 0 ∨ i = 1 ∨ i = 2 ∨ i = 3 ∨ i = 4 ∨ i = 5 ∨ i = 6 ∨ i = 7 ∨ i = 8 ∨ i = 9 ∨ i = 10 ∨ i = 11 ∨ i = 12 ∨ i = 13) with rfl | rfl | rfl | rfl | rfl | rfl | rfl | rfl | rfl | rfl | rfl | rfl | rfl | rfl <;> rfl
  apply List.ext_getElem?
  intro j
  by_cases hj : j < 42
  · have e1 : ∀ l : List Value, l[j]? = ((l.drop (j / 3 * 3)).take 3)[j % 3]? := by
      intro l
      rw [List.getElem?_take_of_lt (by omega), List.getElem?_drop]
      congr 1
      omega
    rw [e1 cs, e1 tyCells.toList, hch _ (by omega), hk _ (by omega)]
  · rw [List.getElem?_eq_none (by omega), List.getElem?_eq_none (by show tyCells.size ≤ j; have : tyCells.size = 42 := rfl; omega)]
theorem globT_of_laid {r : List (String × DataW Unit)} {W : World} (h : laidMet Tryz.prog (("almanacker/keviah.types", Rows.laid_almanacker_keviah_types) :: ("almanacker/month.plain", Rows.laid_almanacker_month_plain) :: r) W) : GlobT W := by
  have h2 := h.tail
  rw [plain_data] at h2
  have hp : W.var? Tryz.prog "almanacker/month.plain" = some plainCells := Lib.tabIs_of_head gPlain tPlain Tryz.underlying183 Tryz.underlying3 (by kernel_rfl) (by kernel_rfl) h2
  obtain ⟨ps, ⟨g', t', cs, fuel, p, q, hg', ht', hvar, hd, _, _⟩, _⟩ := h
  obtain rfl := Option.some.inj (gTypes.symm.trans hg')
  obtain rfl := Option.some.inj (tTypes.symm.trans ht')
  have hcs := cells_of_types hd types_data
  refine ⟨holds_of_var gTypes ?_, holds_of_var gPlain hp⟩
  rw [hvar]
  congr 1
  exact Array.toList_inj.1 hcs
end Go.Proofs.YtflpddhoiafhcaaGreatDoor
end

section
/- What the library's variables hold that strconv reads: a world in which they read as their text lays them, and that a call which leaves elder memory alone keeps this. -/
namespace Go.Proofs.YtflpddhoiafhcaaGreatDoor
open Go.RowKit Go.Proofs.YtflpddhoiafhcaaGreatDoorW.PrintWords
theorem gPow : Tryz.prog.globalNamed "internal/strconv.uint64pow10" = some 4 := by kernel_rfl
theorem gSyn : Tryz.prog.globalNamed "strconv.ErrSyntax" = some 5 := by kernel_rfl
theorem gRng : Tryz.prog.globalNamed "strconv.ErrRange" = some 6 := by kernel_rfl
/-- strconv's table and its two errors. -/
structure GlobS (w : World) : Prop where
  tab : Lib.TabIs Tryz.prog w "internal/strconv.uint64pow10" .u64 Lib.pow10Tab
  syn : ∃ tp p, w.var? Tryz.prog "strconv.ErrSyntax" = some #[.iface tp p]
  rng : ∃ tp p, w.var? Tryz.prog "strconv.ErrRange" = some #[.iface tp p]
theorem GlobS.below {w w' : World} (g : GlobS w) (h : Below w.heap.size w w') : GlobS w' := by
  obtain ⟨h1, ⟨t2, p2, h2⟩, ⟨t3, p3, h3⟩⟩ := g
  exact ⟨Joins.var_stays gPow h1 h (Nat.le_refl _), ⟨t2, p2, Joins.var_stays gSyn h2 h (Nat.le_refl _)⟩, ⟨t3, p3, Joins.var_stays gRng h3 h (Nat.le_refl _)⟩⟩
theorem GlobS.drawn {w w' : World} (g : GlobS w) (h : Drawn0 w w') : GlobS w' := g.below h.below
end Go.Proofs.YtflpddhoiafhcaaGreatDoor
end

section
/- What the row's listed variables give the walks: strconv's table and its two errors. -/
namespace Go.Proofs.YtflpddhoiafhcaaGreatDoor
open Go.RowKit Go.ChangeShapes
theorem tPow : (Tryz.prog.globals[4]?).map (·.type) = some 246 := by kernel_rfl
theorem tSyn : (Tryz.prog.globals[5]?).map (·.type) = some 119 := by kernel_rfl
theorem tRng : (Tryz.prog.globals[6]?).map (·.type) = some 119 := by kernel_rfl
theorem star_es : "*" ++ "errors.errorString" = "*errors.errorString" := by decide
theorem row_es (u : TypeId) (h : Tryz.prog.typeName? 3 u = some "*errors.errorString") : u = 273 :=
  typeName_ptr_named (nm := "errors.errorString") (by rw [star_es]; kernel_rfl) (by kernel_rfl) (by decide) u (by rw [star_es]; exact h)
theorem pow_data : (Rows.laid_internal_strconv_uint64pow10 : DataW Unit) = Lib.tabData .u64 Lib.pow10Tab := by kernel_rfl
end Go.Proofs.YtflpddhoiafhcaaGreatDoor
end

section
/- The months' names: what the package-level variable holds that name.Month and name.codes read; and which name a code has. -/
namespace Go.Proofs.YtflpddhoiafhcaaGreatDoor
open Go.RowKit Go.Proofs.YtflpddhoiafhcaaGreatDoorW.PrintWords
namespace Cal
def nameList : List ByteArray := [⟨#[84, 105, 115, 104, 114, 105]⟩, ⟨#[72, 101, 115, 104, 118, 97, 110]⟩, ⟨#[75, 105, 115, 108, 101, 118]⟩, ⟨#[84, 101, 118, 101, 116]⟩, ⟨#[83, 104, 101, 118, 97, 116]⟩, ⟨#[65, 100, 97, 114]⟩,
  ⟨#[78, 105, 115, 97, 110]⟩, ⟨#[73, 121, 97, 114]⟩, ⟨#[83, 105, 118, 97, 110]⟩, ⟨#[84, 97, 109, 109, 117, 122]⟩, ⟨#[65, 118]⟩, ⟨#[69, 108, 117, 108]⟩]
def adar1 : ByteArray := ⟨#[65, 100, 97, 114, 32, 73]⟩
def adar2 : ByteArray := ⟨#[65, 100, 97, 114, 32, 73, 73]⟩
/-- The name of a code from 1 to 12 (counted from 0 on). -/
def nameAt (i : Int) : ByteArray := nameList.getD i.toNat ⟨#[]⟩
end Cal
def nameCells : Array Value := (Cal.nameList.map Value.string).toArray
/-- The names. -/
structure GlobN (w : World) : Prop where
  names : Holds 0 nameCells w
  maxLen : ∃ m, w.cell? ⟨1, 0, none⟩ = some (.int .i64 m)
theorem GlobN.below {w w' : World} (g : GlobN w) (h : Below w.heap.size w w') : GlobN w' := ⟨g.names.below h, g.maxLen.imp fun _ hm => keep_cell h hm⟩
theorem GlobN.drawn {w w' : World} (g : GlobN w) (h : Drawn0 w w') : GlobN w' := g.below h.below
theorem GlobN.at_ {w : World} (g : GlobN w) (i : Int) (h0 : 0 ≤ i) (h1 : i < 12) : w.cell? ⟨0, i.toNat, none⟩ = some (.string (Cal.nameAt i)) := by
  rw [g.names.cell]
  have key : ∀ j, j < 12 → nameCells[j]? = some (.string (Cal.nameList.getD j ⟨#[]⟩)) := by
    intro j hj
    rcases (by omega : j = 0 ∨ j = 1 ∨ j = 2 ∨ j = 3 ∨ j = 4 ∨ j = 5 ∨ j = 6 ∨ j = 7 ∨ j = 8 ∨ j = 9 ∨ j = 10 ∨ j = 11) with rfl | rfl | rfl | rfl | rfl | rfl | rfl | rfl | rfl | rfl | rfl | rfl <;> rfl
  exact key _ (by omega)
theorem GlobN.adar {w : World} (g : GlobN w) : w.cell? ⟨0, 5, none⟩ = some (.string (Cal.nameAt 5)) := g.at_ 5 (by decide) (by decide)
end Go.Proofs.YtflpddhoiafhcaaGreatDoor
end

section
/- A row's contract that is handed the listed variables' condition and the world's shape (for internal/bytealg.MaxLen, which holds some number by its shape). -/
namespace Go.Proofs.YtflpddhoiafhcaaGreatDoor
open Go.RowKit Go.ChangeShapes
theorem maxLen_of {W : World} (h : W.ShapedOpen Tryz.prog) : ∃ m, W.cell? ⟨1, 0, none⟩ = some (.int .i64 m) := by
  exact cell_of_shapedOpen_int (t := 3) (zero := #[.int .i64 0]) h (by decide +kernel) (by kernel_rfl) rfl (by kernel_rfl) (by kernel_rfl) Tryz.underlying3
variable {H : Type} {enc : TypeId × Value → H}
theorem returns_and_shaped {a : Assume} {C : Checked} {os : Os} {f : FuncId} {fn : Func} {s : ChangeSpec} {conds : List PathCond} {apart fresh handsOn again : Bool} {X : World → Array Value → Prop}
    (hX : ∀ (w w' : World) (args : Array Value), w.heap = w'.heap → X w args → X w' args)
    (own : ownKnob C.prog.godebug = none) (started : os.Started) (noInit : C.prog.inits.idxOf? f = none) (hfn : C.prog.funcs[f]? = some fn)
    (witness : ∃ (w : World) (tape : Tape) (i : Input), w.os = os ∧ (w.forCall tape i).Shaped C.prog ∧ i.vars = [] ∧ Input.okWide C.prog (w.forCall tape i) .any w.heap.size f i ∧
      ((s.pre enc C.prog fn conds apart (w.forCall tape i).memory i.args ∧ X (w.forCall tape i).memory i.args) ∧ sizedMet enc C.prog fn (OpenSpec.ofChange s) apart (w.forCall tape i).memory i.args) ∧ a.holds C.prog (lone (Frame.enter C.prog f i.args .normal) [] (w.forCall tape i)))
    (contract : ∀ (W : World) (base : Nat) (args : Array Value) (ds gs : List (DataW H)) (before : List MemPlace),
      (∀ (j : Nat) t v, fn.params[j]? = some t → args[j]? = some v → Value.okWide C.prog W .any base t v) →
      DataW.Whole enc C.prog fn.params.toList s.vars apart W args.toList ds gs before → X W args → W.ShapedOpen C.prog →
      Calls C.prog f args W fun e W' => ∃ v, e = .returned v ∧ s.post enc C.prog fn apart fresh handsOn again W args v W') :
    ReturnsInHanded a C os f .any (fun w args => (s.pre enc C.prog fn conds apart w args ∧ X w args) ∧ sizedMet enc C.prog fn (OpenSpec.ofChange s) apart w args) (s.post enc C.prog fn apart fresh handsOn again) := by
  refine returnsInHanded_of_calls own started noInit witness fun w tape i _ hsh _ hok hpre _ => ?_
  obtain ⟨_, _, _, fn', hfn', _, _, _, _, hval⟩ := hok
  have e : fn' = fn := Option.some.inj (hfn'.symm.trans hfn)
  subst e
  obtain ⟨⟨⟨ds, gs, before, hw, hc⟩, hx⟩, hz⟩ := hpre
  refine (contract (w.forCall tape i) w.heap.size i.args ds gs before hval (DataW.Whole.of_heap (w' := w.forCall tape i) (by rfl) hw) (hX _ _ _ (by rfl) hx) hsh).mono fun e W' ⟨v, he, hp⟩ => ?_
  subst he
  exact ChangeSpec.post_blind hp
end Go.Proofs.YtflpddhoiafhcaaGreatDoor
end

section
/- What the row's listed variables give the walks of names: the calendar's tables, strconv's, the names. -/
namespace Go.Proofs.YtflpddhoiafhcaaGreatDoor
open Go.RowKit Go.ChangeShapes
theorem gNames : Tryz.prog.globalNamed "almanacker/name.names" = some 0 := by kernel_rfl
theorem tNames : (Tryz.prog.globals[0]?).map (·.type) = some 64 := by kernel_rfl
theorem names_data : (Rows.laid_almanacker_name_names : DataW Unit) = .agg (Cal.nameList.map fun b => .lit (.string b.data.toList)) := by kernel_rfl
theorem cn12 : Tryz.prog.cellsOf 64 = 12 := by kernel_rfl
theorem cn1 : Tryz.prog.cellsOf 9 = 1 := by kernel_rfl
set_option maxRecDepth 100000 in
theorem cells_of_names {enc : TypeId × Value → Unit} {w : World} {base : Nat} {spare : Nat → Bool} {held : Bool} {k : Nat} {cs : List Value} {x : DataW Unit × List MemPlace}
    (h : DataW.trod enc Tryz.prog w base spare held k 64 cs = some x) (hx : x.1 = .agg (Cal.nameList.map fun b => .lit (.string b.data.toList))) : cs = nameCells.toList := by
  obtain ⟨xs, m, rfl, rfl, hlen, hn, hel⟩ := DataW.trod_array Tryz.underlying64 h
  rw [cn12] at hlen
  have hx' : xs.map (·.1) = Cal.nameList.map fun b => .lit (.string b.data.toList) := by simpa using hx
  have hch : ∀ i, i < 12 → cs[i]? = some (.string (Cal.nameList.getD i ⟨#[]⟩)) := by
    intro i hi
    have h1 := hel i hi
    rw [cn1] at h1
    have hi2 : i < xs.length := by omega
    have hi3 : i < Cal.nameList.length := hi
    rw [List.getElem?_eq_getElem hi2] at h1
    have e : xs[i].1 = .lit (.string Cal.nameList[i].data.toList) := by
      have := congrArg (fun l => l[i]?) hx'
      simp only [List.getElem?_map] at this
      rw [List.getElem?_eq_getElem hi2, List.getElem?_eq_getElem hi3] at this
      simpa using this
    obtain ⟨s, es, hy, ws⟩ := DataW.trod_string Tryz.underlying9 h1
    rw [hy] at e
    simp only [DataW.lit.injEq, Lit.string.injEq] at e
    have hs : s = Cal.nameList[i] := ByteArray.ext (Array.toList_inj.1 e)
    have hg : Cal.nameList.getD i ⟨#[]⟩ = Cal.nameList[i] := by rw [List.getD_eq_getElem?_getD, List.getElem?_eq_getElem hi3]; rfl
    rw [hg, ← hs]
    have e0 : ((cs.drop (i * 1)).take 1)[0]? = some (.string s) := by rw [es]; rfl
    rw [List.getElem?_take_of_lt (by omega), List.getElem?_drop] at e0
    simpa using e0
  have hk : ∀ i, i < 12 → nameCells.toList[i]? = some (.string (Cal.nameList.getD i ⟨#[]⟩)) := by
    intro i hi
    rcases (by omega : i = 0 ∨ i = 1 ∨ i = 2 ∨ i = 3 ∨ i = 4 ∨ i = 5 ∨ i = 6 ∨ i = 7 ∨ i = 8 ∨ i = 9 ∨ i = 10 ∨ i = 11) with rfl | rfl | rfl | rfl | rfl | rfl | rfl | rfl | rfl | rfl | rfl | rfl <;> rfl
  apply List.ext_getElem?
  intro j
  by_cases hj : j < 12
  · rw [hch j hj, hk j hj]
  · rw [List.getElem?_eq_none (by omega), List.getElem?_eq_none (by show nameCells.size ≤ j; have : nameCells.size = 12 := rfl; omega)]
theorem globs_of_laid {r : List (String × DataW Unit)} {W : World} (x y : String × DataW Unit) (h : laidMet Tryz.prog (x :: y :: ("internal/strconv.uint64pow10", Rows.laid_internal_strconv_uint64pow10) :: ("almanacker/keviah.types", Rows.laid_almanacker_keviah_types) :: ("almanacker/month.plain", Rows.laid_almanacker_month_plain) :: ("strconv.ErrRange", Rows.laid_strconv_ErrRange) :: ("strconv.ErrSyntax", Rows.laid_strconv_ErrSyntax) :: ("almanacker/name.names", Rows.laid_almanacker_name_names) :: r) W) (hsh : W.ShapedOpen Tryz.prog) : GlobN W ∧ GlobS W ∧ GlobT W := by
  have h3 := h.tail.tail
  have hT := globT_of_laid h3.tail
  rw [pow_data] at h3
  have h6 := h3.tail.tail.tail
  have h7 := h6.tail
  obtain ⟨ps, ⟨g', t', cs, fuel, p, q, hg', ht', hvar, hd, _, _⟩, _⟩ := h7.tail
  obtain rfl := Option.some.inj (gNames.symm.trans hg')
  obtain rfl := Option.some.inj (tNames.symm.trans ht')
  have hcs := cells_of_names hd names_data
  obtain ⟨a0, s0, hv0, -, -, -⟩ := laid_sentinel h6 gRng tRng Tryz.underlying119 row_es Tryz.underlying273 Tryz.underlying275 rfl rfl Tryz.underlying9 (by kernel_rfl) (by kernel_rfl)
  obtain ⟨a1, s1, hv1, -, -, -⟩ := laid_sentinel h7 gSyn tSyn Tryz.underlying119 row_es Tryz.underlying273 Tryz.underlying275 rfl rfl Tryz.underlying9 (by kernel_rfl) (by kernel_rfl)
  refine ⟨⟨holds_of_var gNames ?_, maxLen_of hsh⟩, ⟨Lib.tabIs_of_head gPow tPow Tryz.underlying246 Tryz.underlying193 (by kernel_rfl) (by kernel_rfl) h3, ⟨_, _, hv1⟩, ⟨_, _, hv0⟩⟩, hT⟩
  rw [hvar]
  congr 1
  exact Array.toList_inj.1 hcs
end Go.Proofs.YtflpddhoiafhcaaGreatDoor
end

section
/-
  DERIVED: THE SHELF's CONTRACTS AT THIS DUMP, IN PLAIN WORDS (tools/lay-plain.mjs out of 'YtflpddhoiafhcaaGreatDoorShlMul.lean', which tools/lay-shelf.mjs wrote): THE SAME DECLARATIONS UNDER THE SAME NAMES: 'import', 'namespace', 'open', 'def', 'theorem' AND NOTHING ELSE: no command of the shelf's: FOR A HAND-IN. Each laying: the table of numbers ('.._ren') and one theorem, a field a fact of the dump's own or the kernel's comparison; each contract: ONE APPLICATION.
-/
namespace Go.Proofs
open Go.Shelf
def Tryz.lays264_ren : Go.Shelf.Ren := ⟨fun | 264 => 216 | n => n, fun | 53 => 193 | 46 => 158 | n => n, fun | n => n⟩
theorem Tryz.lays264 : Go.Proofs.Lays.n264 Tryz.prog Tryz.lays264_ren := {
  mixed := by kernel_rfl
  f264 := Tryz.func216.trans (congrArg some (by kernel_rfl))
  t46 := Tryz.underlying158
  a46 := Tryz.isAgg158
  z46 := Tryz.sizeOf158
  v46 := Tryz.zeroValue158
  t53 := Tryz.underlying193
  a53 := Tryz.isAgg193
  z53 := Tryz.sizeOf193
  v53 := Tryz.zeroValue193 }
open Go.RowKit Go.Lib in
/-- math/bits.Mul64 by its contract. -/
theorem Tryz.bits_Mul64 (x y : Nat) (hx : x < 18446744073709551616) (hy : y < 18446744073709551616) (w : World) :
    Calls Tryz.prog 216 #[.int .u64 x, .int .u64 y] w fun e w' => e = .returned (.tuple #[.int .u64 ((x * y / 18446744073709551616 : Nat) : Int), .int .u64 ((x * y % 18446744073709551616 : Nat) : Int)]) ∧ w' = w := Any.bits_Mul64 Tryz.lays264 x y hx hy w
end Go.Proofs
end

section
/- The contract of the program's function behind the hole 'exact_Mul', by a walk over its text. -/
namespace Go.Proofs.YtflpddhoiafhcaaGreatDoor.H
open Go.RowKit Go.Proofs.YtflpddhoiafhcaaGreatDoorW.PrintWords Go.Proofs.YtflpddhoiafhcaaGreatDoorW.PrintLast Go.Proofs.YtflpddhoiafhcaaGreatDoorW.PrintMore
attribute [local go_sem] max2_int min2_int max_two min_two max_three min_three max_four min_four
set_option linter.unusedVariables false
set_option linter.unusedSimpArgs false
theorem exact_size_pos (n : Int) (h0 : ¬ n < 0) (h1 : n ≤ 1073741824) (w : World) :
    Calls Tryz.prog 276 #[.int .i64 n] w fun e w' => e = .returned (.int .u64 n) ∧ w = w' := by
  have hd : decide (n < 0) = false := by simp; omega
  go_enter Tryz.func276, Tryz.ntmps276
  go_wp2
  go_ret
  exact ⟨rfl, rfl⟩
theorem exact_size_neg (n : Int) (h0 : n < 0) (h1 : -1073741824 ≤ n) (w : World) :
    Calls Tryz.prog 276 #[.int .i64 n] w fun e w' => e = .returned (.int .u64 (-n)) ∧ w = w' := by
  have hd : decide (n < 0) = true := by simp; omega
  have hb : -n ≤ 1073741824 := by omega
  have hc : 0 < -n := by omega
  go_enter Tryz.func276, Tryz.ntmps276
  go_wp2
  go_ret
  refine ⟨?_, rfl⟩
  simp [IntKind.wrap, IntKind.bits, IntKind.signed]
  omega
/-- Of two numbers below 2 ^ 31: nothing high, and the product. -/
theorem exact_mul64 (x y p : Int) (hx0 : 0 ≤ x) (hx1 : x ≤ 1073741824) (hy0 : 0 ≤ y) (hy1 : y ≤ 1073741824) (hp : x * y = p) (w : World) :
    Calls Tryz.prog 216 #[.int .u64 x, .int .u64 y] w fun e w' => e = .returned (.tuple #[.int .u64 0, .int .u64 p]) ∧ w = w' := by
  have h := Tryz.bits_Mul64 x.toNat y.toNat (by omega) (by omega) w
  have hq : ((x.toNat * y.toNat : Nat) : Int) = p := by rw [← hp, Int.natCast_mul, Int.toNat_of_nonneg hx0, Int.toNat_of_nonneg hy0]
  have hb : x.toNat * y.toNat ≤ 1073741824 * 1073741824 := Nat.mul_le_mul (by omega) (by omega)
  rw [Int.toNat_of_nonneg hx0, Int.toNat_of_nonneg hy0] at h
  refine h.mono ?_
  rintro e w' ⟨rfl, rfl⟩
  refine ⟨?_, rfl⟩
  rw [Nat.div_eq_of_lt (by omega), Nat.mod_eq_of_lt (by omega), hq]
  rfl
theorem exact_prod_bd (x y : Int) (hx0 : 0 ≤ x) (hx1 : x ≤ 1073741824) (hy0 : 0 ≤ y) (hy1 : y ≤ 1073741824) : 0 ≤ x * y ∧ x * y ≤ 1152921504606846976 :=
  ⟨Int.mul_nonneg hx0 hy0, Int.le_trans (Int.mul_le_mul hx1 hy1 hy0 (by omega)) (by decide)⟩
def exact_Mul.f (a0 : Int) (a1 : Int) : Option (Int × Int) := if -1073741824 ≤ a0 ∧ a0 ≤ 1073741824 ∧ -1073741824 ≤ a1 ∧ a1 ≤ 1073741824 then some (a0 * a1, 0) else none
theorem exact_mul_all (a b p : Int) (ha0 : -1073741824 ≤ a) (ha1 : a ≤ 1073741824) (hb0 : -1073741824 ≤ b) (hb1 : b ≤ 1073741824) (hp : a * b = p) (w : World) :
    Calls Tryz.prog 259 #[.int .i64 a, .int .i64 b] w fun e w' => e = .returned (.tuple #[.int .i64 p, .int .i64 0]) ∧ w = w' := by
  by_cases ca : a < 0 <;> by_cases cb : b < 0
  · have bd := exact_prod_bd (-a) (-b) (by omega) (by omega) (by omega) (by omega)
    have hq : -a * -b = p := by rw [Int.neg_mul_neg]; exact hp
    rw [hq] at bd
    obtain ⟨bd0, bd1⟩ := bd
    have HQ := Aside0.mk hq
    have hda : decide (a < 0) = true := by simp; omega
    have hdb : decide (b < 0) = true := by simp; omega
    have hm : decide (9223372036854775807 < p) = false := by simp; omega
    clear hp hq
    go_enter Tryz.func259, Tryz.ntmps259
    go_wp2_with fail
    refine (exact_size_neg a (by omega) ha0 _).mono ?_; rintro e w' ⟨rfl, rfl⟩
    go_wp2_with fail
    refine (exact_size_neg b (by omega) hb0 _).mono ?_; rintro e w' ⟨rfl, rfl⟩
    go_wp2_with fail
    refine (exact_mul64 (-a) (-b) p (by omega) (by omega) (by omega) (by omega) HQ.out _).mono ?_; rintro e w' ⟨rfl, rfl⟩
    go_wp2
    go_ret2
    exact ⟨rfl, rfl⟩
  · have bd := exact_prod_bd (-a) b (by omega) (by omega) (by omega) (by omega)
    obtain ⟨q, hq⟩ : ∃ q, -a * b = q := ⟨_, rfl⟩
    obtain rfl : p = -q := by rw [← hp, ← hq, Int.neg_mul, Int.neg_neg]
    rw [hq] at bd
    obtain ⟨bd0, bd1⟩ := bd
    have HQ := Aside0.mk hq
    have hda : decide (a < 0) = true := by simp; omega
    have hdb : decide (b < 0) = false := by simp; omega
    have hm : decide (9223372036854775808 < q) = false := by simp; omega
    clear hp hq
    go_enter Tryz.func259, Tryz.ntmps259
    go_wp2_with fail
    refine (exact_size_neg a (by omega) ha0 _).mono ?_; rintro e w' ⟨rfl, rfl⟩
    go_wp2_with fail
    refine (exact_size_pos b (by omega) hb1 _).mono ?_; rintro e w' ⟨rfl, rfl⟩
    go_wp2_with fail
    refine (exact_mul64 (-a) b q (by omega) (by omega) (by omega) (by omega) HQ.out _).mono ?_; rintro e w' ⟨rfl, rfl⟩
    go_wp2
    go_ret2
    refine ⟨?_, rfl⟩
    simp [IntKind.wrap, IntKind.bits, IntKind.signed]
    unfold wrap64
    omega
  · have bd := exact_prod_bd a (-b) (by omega) (by omega) (by omega) (by omega)
    obtain ⟨q, hq⟩ : ∃ q, a * -b = q := ⟨_, rfl⟩
    obtain rfl : p = -q := by rw [← hp, ← hq, Int.mul_neg, Int.neg_neg]
    rw [hq] at bd
    obtain ⟨bd0, bd1⟩ := bd
    have HQ := Aside0.mk hq
    have hda : decide (a < 0) = false := by simp; omega
    have hdb : decide (b < 0) = true := by simp; omega
    have hm : decide (9223372036854775808 < q) = false := by simp; omega
    clear hp hq
    go_enter Tryz.func259, Tryz.ntmps259
    go_wp2_with fail
    refine (exact_size_pos a (by omega) ha1 _).mono ?_; rintro e w' ⟨rfl, rfl⟩
    go_wp2_with fail
    refine (exact_size_neg b (by omega) hb0 _).mono ?_; rintro e w' ⟨rfl, rfl⟩
    go_wp2_with fail
    refine (exact_mul64 a (-b) q (by omega) (by omega) (by omega) (by omega) HQ.out _).mono ?_; rintro e w' ⟨rfl, rfl⟩
    go_wp2
    go_ret2
    refine ⟨?_, rfl⟩
    simp [IntKind.wrap, IntKind.bits, IntKind.signed]
    unfold wrap64
    omega
  · have bd := exact_prod_bd a b (by omega) (by omega) (by omega) (by omega)
    have HQ := Aside0.mk hp
    rw [hp] at bd
    obtain ⟨bd0, bd1⟩ := bd
    have hda : decide (a < 0) = false := by simp; omega
    have hdb : decide (b < 0) = false := by simp; omega
    have hm : decide (9223372036854775807 < p) = false := by simp; omega
    clear hp
    go_enter Tryz.func259, Tryz.ntmps259
    go_wp2_with fail
    refine (exact_size_pos a (by omega) ha1 _).mono ?_; rintro e w' ⟨rfl, rfl⟩
    go_wp2_with fail
    refine (exact_size_pos b (by omega) hb1 _).mono ?_; rintro e w' ⟨rfl, rfl⟩
    go_wp2_with fail
    refine (exact_mul64 a b p (by omega) (by omega) (by omega) (by omega) HQ.out _).mono ?_; rintro e w' ⟨rfl, rfl⟩
    go_wp2
    go_ret2
    exact ⟨rfl, rfl⟩
theorem exact_Mul.calls (a0 : Int) (a1 : Int) (r1 : Int) (r2 : Int) (w : World) (h : exact_Mul.f a0 a1 = some (r1, r2)) :
    Calls Tryz.prog 259 #[.int .i64 a0, .int .i64 a1] w fun e w' => e = .returned (.tuple #[.int .i64 r1, .int .i64 r2]) ∧ Drawn0 w w' := by
  unfold exact_Mul.f at h
  split at h
  · rename_i hc
    simp only [Option.some.injEq, Prod.mk.injEq] at h
    obtain ⟨h1, h2⟩ := h
    subst h2
    exact (exact_mul_all a0 a1 r1 hc.1 hc.2.1 hc.2.2.1 hc.2.2.2 h1 w).mono fun e w' ⟨he, hw⟩ => ⟨he, hw ▸ Drawn0.refl _⟩
  · cases h
end Go.Proofs.YtflpddhoiafhcaaGreatDoor.H
end

section
/-
  DERIVED: THE SHELF's CONTRACTS AT THIS DUMP, IN PLAIN WORDS (tools/lay-plain.mjs out of 'YtflpddhoiafhcaaGreatDoorShlKev.lean', which tools/lay-shelf.mjs wrote): THE SAME DECLARATIONS UNDER THE SAME NAMES: 'import', 'namespace', 'open', 'def', 'theorem' AND NOTHING ELSE: no command of the shelf's: FOR A HAND-IN. Each laying: the table of numbers ('.._ren') and one theorem, a field a fact of the dump's own or the kernel's comparison; each contract: ONE APPLICATION.
-/
namespace Go.Proofs
open Go.Shelf
def Tryz.indexKev_ren : Go.Shelf.Ren := ⟨fun | 6 => 232 | n => n, fun | 22 => 234 | 24 => 93 | 3 => 3 | 0 => 0 | 4 => 4 | n => n, fun | n => n⟩
theorem Tryz.indexKev : Go.Proofs.SlLaysQ.n6 Tryz.prog Tryz.indexKev_ren := {
  mixed := by kernel_rfl
  f6 := ⟨Tryz.f232.name, by decide, Tryz.func232.trans (congrArg some (by kernel_rfl))⟩
  t0 := Tryz.underlying0
  a0 := Tryz.isAgg0
  z0 := Tryz.sizeOf0
  v0 := Tryz.zeroValue0
  t3 := Tryz.underlying3
  a3 := Tryz.isAgg3
  z3 := Tryz.sizeOf3
  v3 := Tryz.zeroValue3
  t4 := Tryz.underlying4
  a4 := Tryz.isAgg4
  z4 := Tryz.sizeOf4
  v4 := Tryz.zeroValue4
  t22 := Tryz.underlying234
  a22 := Tryz.isAgg234
  z22 := Tryz.sizeOf234
  v22 := Tryz.zeroValue234 }
end Go.Proofs
end

section
/- The contract of the program's function behind the hole 'month_of', by a walk over its text. -/
namespace Go.Proofs.YtflpddhoiafhcaaGreatDoor.H
open Go.RowKit Go.Proofs.YtflpddhoiafhcaaGreatDoorW.PrintWords Go.Proofs.YtflpddhoiafhcaaGreatDoorW.PrintLast Go.Proofs.YtflpddhoiafhcaaGreatDoorW.PrintMore
attribute [local go_sem] max2_int min2_int max_two min_two max_three min_three max_four min_four
set_option linter.unusedVariables false
set_option linter.unusedSimpArgs false
/-- The model's '==' of two types. -/
theorem kev_eq : EqlAt Tryz.prog 93 (fun x => .agg (encK x).toArray) Cal.tyEq := by
  refine ⟨fun x y w => ?_, GuardAt.agg _ (by kernel_rfl)⟩
  have u3 := Tryz.underlying3
  have a3 := Tryz.isAgg3
  have z3 := Tryz.sizeOf3
  have u4 := Tryz.underlying4
  have a4 := Tryz.isAgg4
  have z4 := Tryz.sizeOf4
  have hS : Tryz.prog.underlying 93 = some (.struct (Tryz.prog.fieldsOf 93)) := by kernel_rfl
  have hp : Tryz.prog.stoodInHeld 93 = false := by kernel_rfl
  simp only [encK, Cal.tyEq]
  rw [run_eql_struct, show (10000 : Nat) = 9999 + 1 from rfl, run_equalIn_agg w 9999 93 _ _ hS hp]
  simp only [Program.fieldsOf, Tryz.underlying93]
  go_simp
  obtain ⟨x1, x2, x3⟩ := x
  obtain ⟨y1, y2, y3⟩ := y
  by_cases h1 : x1 = y1 <;> by_cases h2 : x2 = y2 <;> cases x3 <;> cases y3 <;> simp [h1, h2]
theorem idxBy_from (x : Int × Int × Bool) : ∀ (l : List (Int × Int × Bool)) (i : Nat), Go.Lib.idxByFrom Cal.tyEq x l i = if Cal.idxFrom x l ((i : Int) + 1) = 0 then -1 else Cal.idxFrom x l ((i : Int) + 1) - 1
  | [], i => by simp [Go.Lib.idxByFrom, Cal.idxFrom]
  | y :: r, i => by
    unfold Go.Lib.idxByFrom Cal.idxFrom
    cases h : Cal.tyEq x y
    · simp only [Bool.false_eq_true, if_false]
      have := idxBy_from x r (i + 1)
      rw [this]
      rfl
    · simp only [if_true]
      rw [if_neg (by omega)]
      omega
theorem keviah_index (b k : Int) (l : Bool) (w : World) (HG : GlobT w) :
    Calls Tryz.prog 232 #[.slice (some ⟨3, 0, none⟩) 14 14, .agg #[.int .i64 b, .int .i64 k, .bool l]] w
      fun e w' => e = .returned (.int .i64 (Cal.tyNum b k l - 1)) ∧ Below w.heap.size w w' := by
  have h := AnyQ.slices_Index Tryz.indexKev 3 Tryz.isAgg93 Tryz.sizeOf93 encK (fun _ => rfl) Cal.tyEq kev_eq 3 0 14 14 Cal.tyList (b, k, l) w (by decide) (by decide) HG.typesAt
  refine h.mono ?_
  rintro e w' ⟨rfl, q, rfl⟩
  refine ⟨?_, pw_below_drewN ((Below.refl _ _).alloc (Nat.le_refl _) _) q⟩
  have e1 : Go.Lib.idxBy Cal.tyEq (List.take 14 Cal.tyList) (b, k, l) = Cal.tyNum b k l - 1 := by
    rw [show List.take 14 Cal.tyList = Cal.tyList from rfl, Go.Lib.idxBy, idxBy_from]
    show (if Cal.tyNum b k l = 0 then -1 else Cal.tyNum b k l - 1) = _
    split <;> omega
  rw [e1]
theorem ty_bounds (b k : Int) (l : Bool) : 0 ≤ Cal.tyNum b k l ∧ Cal.tyNum b k l ≤ 14 := by
  simp only [Cal.tyNum, Cal.tyList, Cal.idxFrom]
  repeat' split
  all_goals omega
/-- What a walk holds of its world: elder memory stands; the variables read as laid; a block of three cells. -/
structure KBox (w : World) (g : Nat) (b k : Int) (l : Bool) (W : World) : Prop where
  below : Below w.heap.size w W
  ge : w.heap.size ≤ g
  glob : GlobT W
  c0 : W.cell? ⟨g, 0, none⟩ = some (.int .i64 b)
  c1 : W.cell? ⟨g, 1, none⟩ = some (.int .i64 k)
  c2 : W.cell? ⟨g, 2, none⟩ = some (.bool l)
theorem KBox.step {w : World} {g : Nat} {b k : Int} {l : Bool} {W W' : World} (h : KBox w g b k l W) (hb : Below W.heap.size W W') : KBox w g b k l W' :=
  ⟨h.below.trans (hb.mono h.below.size), h.ge, h.glob.below hb, keep_cell hb h.c0, keep_cell hb h.c1, keep_cell hb h.c2⟩
theorem KBox.drew {w : World} {g : Nat} {b k : Int} {l : Bool} {W : World} (h : KBox w g b k l W) : KBox w g b k l W.drew := h.step (below_drew (Below.refl _ _))
theorem KBox.begin {w : World} (HG : GlobT w) (b k : Int) (l : Bool) : KBox w w.heap.size b k l (w.alloc (.cells #[.int .i64 b, .int .i64 k, .bool l] 93)) := by
  have hb : Below w.heap.size w (w.alloc (.cells #[.int .i64 b, .int .i64 k, .bool l] 93)) := (Below.refl _ _).alloc (Nat.le_refl _) _
  refine ⟨hb, Nat.le_refl _, HG.below hb, ?_, ?_, ?_⟩ <;> (rw [World.cell?_alloc_at _ _ _ _ (by simp)]; rfl)
theorem ret_i64 {a b : Int} (h : a = b) : Ending.returned (.int .i64 a) = .returned (.int .i64 b) := by rw [h]
theorem i64_plain {n : Int} (h0 : 0 ≤ n) (h1 : n ≤ 14) : IntKind.i64.wrap n = n := IntWalk.i64_in n (by omega)
theorem keviah_number (b k n : Int) (l : Bool) (hn : Cal.tyNum b k l = n) (w : World) (HG : GlobT w) :
    Calls Tryz.prog 184 #[.agg #[.int .i64 b, .int .i64 k, .bool l]] w fun e w' => e = .returned (.int .i64 n) ∧ Below w.heap.size w w' := by
  obtain ⟨hb0, hb1⟩ := ty_bounds b k l
  rw [hn] at hb0 hb1
  have hcon : ∀ W, KBox w w.heap.size b k l W → Calls Tryz.prog 232 #[.slice (some ⟨3, 0, none⟩) 14 14, .agg #[.int .i64 b, .int .i64 k, .bool l]] W
      fun e w' => e = .returned (.int .i64 (n - 1)) ∧ Below W.heap.size W w' := fun W hW => by
    have := keviah_index b k l W hW.glob; rwa [hn] at this
  have HC := Aside0.mk hcon
  have HK := Aside0.mk (KBox.begin HG b k l)
  clear hcon hn HG
  go_enter Tryz.func184, Tryz.ntmps184
  go_wp2_with fail
  go_region_held3 (fun W => KBox w w.heap.size b k l W ∧ W.cell? ⟨w.heap.size, 0, none⟩ = some (.int .i64 b) ∧ W.cell? ⟨w.heap.size, 1, none⟩ = some (.int .i64 k) ∧ W.cell? ⟨w.heap.size, 2, none⟩ = some (.bool l))
    (first | (have hz_ := HK.out.drew; exact ⟨hz_, hz_.c0, hz_.c1, hz_.c2⟩) | (have hz_ := KBox.step (And.left (by assumption)) hb; exact ⟨hz_, hz_.c0, hz_.c1, hz_.c2⟩))
    (first | (go_at_call 232; refine (HC.out _ (And.left (by assumption))).mono ?_; rintro e w' ⟨rfl, hb⟩))
  have hB := Aside0.mk (And.left (‹KBox w w.heap.size b k l _ ∧ _›)).below
  go_wp2
  go_ret
  exact ⟨ret_i64 (i64_plain hb0 hb1), hB.out⟩
/-- A month is put into a table that lies in block g. -/
theorem table_add (g n : Nat) (d : Int) (cs : Array Value) (w : World) (hn : n < 13) (hs : cs.size = 14) (hc : cs[13]? = some (.int .i64 n)) (hg : w.heap[g]? = some (.cells cs 153 (0, 0))) :
    Calls Tryz.prog 185 #[.pointer (some ⟨g, 0, none⟩), .int .i64 d] w
      fun e w' => e = .returned (.tuple #[]) ∧ w'.heap[g]? = some (.cells ((cs.setIfInBounds n (.int .i64 d)).setIfInBounds 13 (.int .i64 (n + 1))) 153 (0, 0)) ∧ Below g w w' := by
  have h0 : (0 : Int) ≤ n := by omega
  have h1 : (n : Int) < 13 := by omega
  have c1 : w.cell? ⟨g, 13, none⟩ = some (.int .i64 n) := (blk_cell hg 13).trans hc
  obtain ⟨v, hv⟩ : ∃ v, cs[n]? = some v := ⟨_, Array.getElem?_eq_getElem (by omega)⟩
  have c2 : w.cell? ⟨g, n, none⟩ = some v := (blk_cell hg n).trans hv
  have f2 : w.frozen? ⟨g, n, none⟩ = false := blk_frozen hg n
  have hg1 : (w.setCell ⟨g, n, none⟩ (.int .i64 d)).heap[g]? = some (.cells (cs.setIfInBounds n (.int .i64 d)) 153 (0, 0)) := blk_set hg n _
  have c3 : (w.setCell ⟨g, n, none⟩ (.int .i64 d)).cell? ⟨g, 13, none⟩ = some (.int .i64 n) := (blk_cell hg1 13).trans (by rw [Array.getElem?_setIfInBounds_ne (by omega)]; exact hc)
  have f3 : (w.setCell ⟨g, n, none⟩ (.int .i64 d)).frozen? ⟨g, 13, none⟩ = false := blk_frozen hg1 13
  have hg2 : ((w.setCell ⟨g, n, none⟩ (.int .i64 d)).setCell ⟨g, 13, none⟩ (.int .i64 (n + 1))).heap[g]? = some (.cells ((cs.setIfInBounds n (.int .i64 d)).setIfInBounds 13 (.int .i64 (n + 1))) 153 (0, 0)) := blk_set hg1 13 _
  have HG2 := Aside0.mk hg2
  clear hc hv hg hg1 hg2 hs
  go_enter Tryz.func185, Tryz.ntmps185
  go_wp2
  go_region
  go_wp2
  go_end0
  exact ⟨rfl, HG2.out, (((Below.refl g w).setCell (p := ⟨g, n, none⟩) (Nat.le_refl g) _).drew).setCell (p := ⟨g, 13, none⟩) (Nat.le_refl g) _⟩
/-- The cells of a table that holds these months. -/
def tcells (ms : List Int) : Array Value := ((ms ++ List.replicate (13 - ms.length) 0).map (fun n => Value.int .i64 n) ++ [.int .i64 ms.length]).toArray
theorem tcells_size (ms : List Int) (h : ms.length ≤ 13) : (tcells ms).size = 14 := by simp [tcells]; omega
theorem tcells_one (ms : List Int) : (tcells ms).all (·.oneCell') = true := by
  rw [Array.all_eq_true_iff_forall_mem]
  intro v hv
  simp only [tcells, List.mem_toArray, List.mem_append, List.mem_map, List.mem_singleton] at hv
  rcases hv with ⟨n, _, rfl⟩ | rfl <;> rfl
theorem tcells_last (ms : List Int) (h : ms.length ≤ 13) : (tcells ms)[13]? = some (.int .i64 ms.length) := by
  simp only [tcells, List.getElem?_toArray]
  rw [List.getElem?_append_right (by simp; omega)]
  have e : ((ms ++ List.replicate (13 - ms.length) 0).map (fun n => Value.int .i64 n)).length = 13 := by simp; omega
  rw [e]
  rfl
theorem tcells_snoc (ms : List Int) (d : Int) (h : ms.length < 13) :
    ((tcells ms).setIfInBounds ms.length (.int .i64 d)).setIfInBounds 13 (.int .i64 (ms.length + 1)) = tcells (ms ++ [d]) := by
  apply Array.ext_getElem?
  intro i
  have hs := tcells_size ms (by omega)
  by_cases h13 : i = 13
  · subst h13
    rw [Array.getElem?_setIfInBounds_self_of_lt (by rw [Array.size_setIfInBounds]; omega), tcells_last _ (by simp; omega)]
    simp
  · rw [Array.getElem?_setIfInBounds_ne (by omega)]
    by_cases hi : i = ms.length
    · subst hi
      rw [Array.getElem?_setIfInBounds_self_of_lt (by omega)]
      simp only [tcells, List.getElem?_toArray]
      rw [List.getElem?_append_left (by simp only [List.length_map, List.length_append, List.length_replicate, List.length_cons, List.length_nil]; omega)]
      simp
    · rw [Array.getElem?_setIfInBounds_ne (by omega)]
      simp only [tcells, List.getElem?_toArray]
      by_cases hl : i < 13
      · rw [List.getElem?_append_left (by simp; omega), List.getElem?_append_left (by simp only [List.length_map, List.length_append, List.length_replicate, List.length_cons, List.length_nil]; omega)]
        rw [List.getElem?_map, List.getElem?_map]
        congr 1
        by_cases hm : i < ms.length
        · rw [List.getElem?_append_left hm, List.append_assoc, List.getElem?_append_left hm]
        · rw [List.getElem?_append_right (by omega), List.getElem?_append_right (by simp; omega)]
          simp only [List.length_append, List.length_cons, List.length_nil]
          rw [List.getElem?_replicate, List.getElem?_replicate, if_pos (by omega), if_pos (by omega)]
      · rw [List.getElem?_eq_none (by simp; omega), List.getElem?_eq_none (by simp; omega)]
theorem table_add_list (g : Nat) (d : Int) (ms : List Int) (w : World) (hn : ms.length < 13) (hg : w.heap[g]? = some (.cells (tcells ms) 153 (0, 0))) :
    Calls Tryz.prog 185 #[.pointer (some ⟨g, 0, none⟩), .int .i64 d] w
      fun e w' => e = .returned (.tuple #[]) ∧ w'.heap[g]? = some (.cells (tcells (ms ++ [d])) 153 (0, 0)) ∧ Below g w w' := by
  refine (table_add g ms.length d (tcells ms) w hn (tcells_size ms (by omega)) (tcells_last ms (by omega)) hg).mono ?_
  rintro e w' ⟨he, h1, h2⟩
  exact ⟨he, (by rw [tcells_snoc ms d hn] at h1; exact h1), h2⟩
/-- An element of the months' table. -/
theorem plain_at (i : Nat) (h : i < 12) (w : World) : (Instr.index 183 (.agg plainCells) (.int .i64 i)).run Tryz.prog w = .ok (.int .i64 (Cal.plainList.getD i 0)) w := by
  rcases (by omega : i = 0 ∨ i = 1 ∨ i = 2 ∨ i = 3 ∨ i = 4 ∨ i = 5 ∨ i = 6 ∨ i = 7 ∨ i = 8 ∨ i = 9 ∨ i = 10 ∨ i = 11) with rfl | rfl | rfl | rfl | rfl | rfl | rfl | rfl | rfl | rfl | rfl | rfl <;> kernel_rfl
theorem plain_bd (i : Nat) (h : i < 12) : 29 ≤ Cal.plainList.getD i 0 ∧ Cal.plainList.getD i 0 ≤ 30 := by
  rcases (by omega : i = 0 ∨ i = 1 ∨ i = 2 ∨ i = 3 ∨ i = 4 ∨ i = 5 ∨ i = 6 ∨ i = 7 ∨ i = 8 ∨ i = 9 ∨ i = 10 ∨ i = 11) with rfl | rfl | rfl | rfl | rfl | rfl | rfl | rfl | rfl | rfl | rfl | rfl <;> simp [Cal.plainList]
theorem pre_lt (k : Int) (l : Bool) (i : Nat) (h : i < 12) : (Cal.pre k l i).length < 13 := by
  have := Cal.pre_len k l i
  split at this <;> omega
theorem pre_lt5 (k : Int) (i : Nat) (h : i = 5) : (Cal.pre k true i ++ [30]).length < 13 := by
  have := Cal.pre_len k true i
  rw [List.length_append, List.length_singleton]
  split at this <;> omega
theorem pre_five (k d : Int) (i : Nat) (h : i = 5) (hd : Cal.plainList.getD i 0 = d) : Cal.pre k true (i + 1) = Cal.pre k true i ++ [30] ++ [d] := by
  subst h
  rw [← hd]
  rfl
theorem pre_else (k d : Int) (l : Bool) (i : Nat) (h5 : ¬ (i = 5 ∧ l = true)) (h1 : ¬ (i = 1 ∧ k = 2)) (h2 : ¬ (i = 2 ∧ k = 0)) (hd : Cal.plainList.getD i 0 = d) : Cal.pre k l (i + 1) = Cal.pre k l i ++ [d] := by
  rw [Cal.pre, if_neg h5, if_neg h1, if_neg h2, hd, List.append_nil]
theorem pre_one (k d : Int) (l : Bool) (i : Nat) (h1 : i = 1) (hk : k = 2) (hd : Cal.plainList.getD i 0 = d) : Cal.pre k l (i + 1) = Cal.pre k l i ++ [d + 1] := by
  subst h1 hk
  rw [← hd]
  simp [Cal.pre, Cal.plainList]
theorem pre_two (k d : Int) (l : Bool) (i : Nat) (h1 : i = 2) (hk : k = 0) (hd : Cal.plainList.getD i 0 = d) : Cal.pre k l (i + 1) = Cal.pre k l i ++ [d - 1] := by
  subst h1 hk
  rw [← hd]
  simp [Cal.pre, Cal.plainList]
/-- What is held of the world behind the first call. -/
structure OfAt (w : World) (b k : Int) (l : Bool) (W : World) : Prop where
  below : Below w.heap.size w W
  bx : W.heap[w.heap.size]? = some (.cells #[.int .i64 b, .int .i64 k, .bool l] 93 (0, 0))
  out : W.heap[w.heap.size + 1]? = some (.cells (tcells []) 153 (0, 0))
theorem OfAt.step {w : World} {b k : Int} {l : Bool} {W W' : World} {B : Nat} (h : OfAt w b k l W) (hb : Below B W W') (hB : w.heap.size + 2 ≤ B) : OfAt w b k l W' :=
  ⟨h.below.trans (hb.mono (by omega)), (hb.block _ (by omega)).trans h.bx, (hb.block _ (by omega)).trans h.out⟩
theorem OfAt.size {w : World} {b k : Int} {l : Bool} {W : World} (h : OfAt w b k l W) : w.heap.size + 2 ≤ W.heap.size := (Array.getElem?_eq_some_iff.1 h.out).1
theorem OfAt.begin (w : World) (b k : Int) (l : Bool) :
    OfAt w b k l ((w.alloc (.cells #[.int .i64 b, .int .i64 k, .bool l] 93)).alloc (.cells #[.int .i64 0, .int .i64 0, .int .i64 0, .int .i64 0, .int .i64 0, .int .i64 0, .int .i64 0, .int .i64 0, .int .i64 0, .int .i64 0, .int .i64 0, .int .i64 0, .int .i64 0, .int .i64 0] 153)) := by
  refine ⟨((Below.refl _ _).alloc (Nat.le_refl _) _).alloc (by simp) _, ?_, ?_⟩
  · rw [Below.heap_alloc _ _ _ (by simp)]; exact heap_alloc_new w _
  · have := heap_alloc_new (w.alloc (.cells #[.int .i64 b, .int .i64 k, .bool l] 93)) (.cells #[.int .i64 0, .int .i64 0, .int .i64 0, .int .i64 0, .int .i64 0, .int .i64 0, .int .i64 0, .int .i64 0, .int .i64 0, .int .i64 0, .int .i64 0, .int .i64 0, .int .i64 0, .int .i64 0] 153)
    rw [World.size_alloc] at this
    exact this
set_option maxHeartbeats 4000000 in
set_option maxRecDepth 100000 in
theorem month_of (b k : Int) (l : Bool) (w : World) (HG : GlobT w) :
    Calls Tryz.prog 133 #[.agg #[.int .i64 b, .int .i64 k, .bool l]] w fun e w' => e = .returned (.agg (tcells (Cal.months b k l))) ∧ Below w.heap.size w w' := by
  have HA := Aside0.mk (OfAt.begin w b k l)
  by_cases hz : Cal.tyNum b k l = 0
  · have hm : Cal.months b k l = [] := by simp [Cal.months, hz]
    rw [hm]
    have HN := Aside0.mk hz
    have HGG := Aside0.mk HG
    clear hz hm HG
    go_enter Tryz.func133, Tryz.ntmps133
    go_wp2_with fail
    refine (keviah_number b k 0 l HN.out _ (HGG.out.below HA.out.below)).mono ?_
    rintro e W1 ⟨rfl, hb⟩
    have H1 := Aside0.mk (HA.out.step hb (Nat.le_of_eq (by simp)))
    clear hb HA
    go_wp2_with (first | ((refine wpList_store_row rfl 153 (.tmp 2) (.tmp 9) rfl (w.heap.size + 1) (tcells []) rfl (by rfl) 153 _ H1.out.out (by kernel_rfl) (by rfl) (tcells_one []) ?_)))
    refine bodyPost_ret (results_cell_row rfl _ _ (w.heap.size + 1) 153 (tcells []) (0, 0) _ rfl (setRow_heap _ _ _ _ _ _ H1.out.out) Tryz.underlying153 rfl (by kernel_rfl)) rfl ?_
    exact ⟨rfl, below_setRow H1.out.below (by omega) _⟩
  · have hm : Cal.months b k l = Cal.pre k l 12 := by rw [Cal.pre_all]; simp [Cal.months, hz]
    rw [hm]
    have ⟨hb0, hb1⟩ := ty_bounds b k l
    obtain ⟨n, hn⟩ : ∃ n, Cal.tyNum b k l = n := ⟨_, rfl⟩
    rw [hn] at hz hb0 hb1
    have hz1 : (n == 0) = false := by simpa using hz
    have HN := Aside0.mk hn
    have HGG := Aside0.mk HG
    clear hz hm HG hn
    go_enter Tryz.func133, Tryz.ntmps133
    go_wp2_with fail
    refine (keviah_number b k n l HN.out _ (HGG.out.below HA.out.below)).mono ?_
    rintro e W1 ⟨rfl, hb⟩
    have H1 := Aside0.mk (HA.out.step hb (Nat.le_of_eq (by simp)))
    have H2 := Aside0.mk (H1.out.step ((Below.refl W1.heap.size W1).alloc (Nat.le_refl _) (.cells #[.int .i64 0, .int .i64 0, .int .i64 0, .int .i64 0, .int .i64 0, .int .i64 0, .int .i64 0, .int .i64 0, .int .i64 0, .int .i64 0, .int .i64 0, .int .i64 0, .int .i64 0, .int .i64 0] 153)) H1.out.size)
    have H3 := Aside0.mk (show (W1.alloc (.cells #[.int .i64 0, .int .i64 0, .int .i64 0, .int .i64 0, .int .i64 0, .int .i64 0, .int .i64 0, .int .i64 0, .int .i64 0, .int .i64 0, .int .i64 0, .int .i64 0, .int .i64 0, .int .i64 0] 153)).heap[W1.heap.size]? = some (.cells (tcells []) 153 (0, 0)) from heap_alloc_new W1 _)
    have HS := Aside0.mk H1.out.size
    obtain ⟨t3, fr3, hp3⟩ := (HGG.out.below H2.out.below).plain
    have HP := Aside0.mk hp3
    clear hp3
    clear hb HA
    go_wp2_with (first | (refine wpList_load_row rfl 183 _ rfl 2 rfl t3 plainCells fr3 _ HP.out Tryz.underlying183 rfl (by kernel_rfl) ?_))
    go_loopw [11] (fun s11 wr => ∃ i : Nat, i ≤ 12 ∧ s11 = .int .i64 i ∧ Aside0 (OfAt w b k l wr) ∧ Aside0 (wr.heap[W1.heap.size]? = some (.cells (tcells (Cal.pre k l i)) 153 (0, 0)))) (fun s11 _ => 12 - (intOf s11).toNat)
    case atStart => exact ⟨0, by omega, rfl, H2, H3⟩
    case round =>
      obtain ⟨i, hi, rfl, HO, HT⟩ := hrel
      by_cases hlt : i < 12
      · obtain ⟨d, hd⟩ : ∃ d, Cal.plainList.getD i 0 = d := ⟨_, rfl⟩
        have hx : ∀ w, (Instr.index 183 (.agg plainCells) (.int .i64 i)).run Tryz.prog w = .ok (.int .i64 d) w := fun w => by rw [← hd]; exact plain_at i hlt w
        have hdb : 29 ≤ d ∧ d ≤ 30 := by rw [← hd]; exact plain_bd i hlt
        obtain ⟨hd0, hd1⟩ := hdb
        have HD := Aside0.mk hd
        have c1 : wr.cell? ⟨w.heap.size, 1, none⟩ = some (.int .i64 k) := (blk_cell HO.out.bx 1).trans rfl
        have c2 : wr.cell? ⟨w.heap.size, 2, none⟩ = some (.bool l) := (blk_cell HO.out.bx 2).trans rfl
        have hltz : (i : Int) < 12 := by omega
        have HLT := Aside0.mk hlt
        clear hd
        have hcall : ∀ (m : Int) (ms : List Int) (W : World), ms.length < 13 → W.heap[W1.heap.size]? = some (.cells (tcells ms) 153 (0, 0)) →
            Calls Tryz.prog 185 #[.pointer (some ⟨W1.heap.size, 0, none⟩), .int .i64 m] W
              fun e w' => e = .returned (.tuple #[]) ∧ w'.heap[W1.heap.size]? = some (.cells (tcells (ms ++ [m])) 153 (0, 0)) ∧ Below W1.heap.size W w' :=
          fun m ms W h1 h2 => table_add_list W1.heap.size m ms W h1 h2
        have HC := Aside0.mk hcall
        clear hcall
        by_cases h5 : i = 5
        · have e5 : ((i : Int) == 5) = true := by simp; omega
          have e1 : ((i : Int) == 1) = false := by simp; omega
          have e2 : ((i : Int) == 2) = false := by simp; omega
          have H5 := Aside0.mk h5
          clear h5
          cases l with
          | true =>
            go_wp2_with fail
            refine (HC.out 30 (Cal.pre k true i) _ (pre_lt _ _ _ HLT.out) HT.out).mono ?_
            rintro e w2 ⟨rfl, ht2, hb2⟩
            have HT2 := Aside0.mk ht2
            have HO2 := Aside0.mk (HO.out.step hb2 HS.out)
            clear ht2 hb2
            go_wp2_with fail
            refine (HC.out d (Cal.pre k true i ++ [30]) _ (pre_lt5 _ _ H5.out) HT2.out).mono ?_
            rintro e w3 ⟨rfl, ht3, hb3⟩
            have HT3 := Aside0.mk ht3
            have HO3 := Aside0.mk (HO2.out.step hb3 HS.out)
            clear ht3 hb3
            go_wp2
            go_roundw
            case measure => simp [intOf]; omega
            case rel => exact ⟨i + 1, by omega, by go_num, HO3, ⟨by rw [pre_five k d i H5.out HD.out]; exact HT3.out⟩⟩
          | false =>
            go_wp2_with fail
            refine (HC.out d (Cal.pre k false i) _ (pre_lt _ _ _ HLT.out) HT.out).mono ?_
            rintro e w3 ⟨rfl, ht3, hb3⟩
            have HT3 := Aside0.mk ht3
            have HO3 := Aside0.mk (HO.out.step hb3 HS.out)
            clear ht3 hb3
            go_wp2
            go_roundw
            case measure => simp [intOf]; omega
            case rel => exact ⟨i + 1, by omega, by go_num, HO3, ⟨by rw [pre_else k d false i (by simp) (by have := H5.out; omega) (by have := H5.out; omega) HD.out]; exact HT3.out⟩⟩
        · have e5 : ((i : Int) == 5) = false := by simp; omega
          have H5 := Aside0.mk h5
          clear h5
          by_cases h1 : i = 1
          · have e1 : ((i : Int) == 1) = true := by simp; omega
            have e2 : ((i : Int) == 2) = false := by simp; omega
            have H1i := Aside0.mk h1
            clear h1
            by_cases hk : k = 2
            · have ek : (k == 2) = true := by simp; omega
              have HK := Aside0.mk hk
              clear hk
              go_wp2_with fail
              refine (HC.out (d + 1) (Cal.pre k l i) _ (pre_lt _ _ _ HLT.out) HT.out).mono ?_
              rintro e w3 ⟨rfl, ht3, hb3⟩
              have HT3 := Aside0.mk ht3
              have HO3 := Aside0.mk (HO.out.step hb3 HS.out)
              clear ht3 hb3
              go_wp2
              go_roundw
              case measure => simp [intOf]; omega
              case rel => exact ⟨i + 1, by omega, by go_num, HO3, ⟨by rw [pre_one k d l i H1i.out HK.out HD.out]; exact HT3.out⟩⟩
            · have ek : (k == 2) = false := by simp; omega
              have HK := Aside0.mk hk
              clear hk
              go_wp2_with fail
              refine (HC.out d (Cal.pre k l i) _ (pre_lt _ _ _ HLT.out) HT.out).mono ?_
              rintro e w3 ⟨rfl, ht3, hb3⟩
              have HT3 := Aside0.mk ht3
              have HO3 := Aside0.mk (HO.out.step hb3 HS.out)
              clear ht3 hb3
              go_wp2
              go_roundw
              case measure => simp [intOf]; omega
              case rel => exact ⟨i + 1, by omega, by go_num, HO3, ⟨by rw [pre_else k d l i (fun h => H5.out h.1) (fun h => HK.out h.2) (by have := H1i.out; omega) HD.out]; exact HT3.out⟩⟩
          · have e1 : ((i : Int) == 1) = false := by simp; omega
            have H1i := Aside0.mk h1
            clear h1
            by_cases h2 : i = 2
            · have e2 : ((i : Int) == 2) = true := by simp; omega
              have H2i := Aside0.mk h2
              clear h2
              by_cases hk : k = 0
              · have ek : (k == 0) = true := by simp; omega
                have HK := Aside0.mk hk
                clear hk
                go_wp2_with fail
                refine (HC.out (d - 1) (Cal.pre k l i) _ (pre_lt _ _ _ HLT.out) HT.out).mono ?_
                rintro e w3 ⟨rfl, ht3, hb3⟩
                have HT3 := Aside0.mk ht3
                have HO3 := Aside0.mk (HO.out.step hb3 HS.out)
                clear ht3 hb3
                go_wp2
                go_roundw
                case measure => simp [intOf]; omega
                case rel => exact ⟨i + 1, by omega, by go_num, HO3, ⟨by rw [pre_two k d l i H2i.out HK.out HD.out]; exact HT3.out⟩⟩
              · have ek : (k == 0) = false := by simp; omega
                have HK := Aside0.mk hk
                clear hk
                go_wp2_with fail
                refine (HC.out d (Cal.pre k l i) _ (pre_lt _ _ _ HLT.out) HT.out).mono ?_
                rintro e w3 ⟨rfl, ht3, hb3⟩
                have HT3 := Aside0.mk ht3
                have HO3 := Aside0.mk (HO.out.step hb3 HS.out)
                clear ht3 hb3
                go_wp2
                go_roundw
                case measure => simp [intOf]; omega
                case rel => exact ⟨i + 1, by omega, by go_num, HO3, ⟨by rw [pre_else k d l i (fun h => H5.out h.1) (fun h => H1i.out h.1) (fun h => HK.out h.2) HD.out]; exact HT3.out⟩⟩
            · have e2 : ((i : Int) == 2) = false := by simp; omega
              have H2i := Aside0.mk h2
              clear h2
              go_wp2_with fail
              refine (HC.out d (Cal.pre k l i) _ (pre_lt _ _ _ HLT.out) HT.out).mono ?_
              rintro e w3 ⟨rfl, ht3, hb3⟩
              have HT3 := Aside0.mk ht3
              have HO3 := Aside0.mk (HO.out.step hb3 HS.out)
              clear ht3 hb3
              go_wp2
              go_roundw
              case measure => simp [intOf]; omega
              case rel => exact ⟨i + 1, by omega, by go_num, HO3, ⟨by rw [pre_else k d l i (fun h => H5.out h.1) (fun h => H1i.out h.1) (fun h => H2i.out h.1) HD.out]; exact HT3.out⟩⟩
      · obtain rfl : i = 12 := by omega
        have hlen : (Cal.pre k l 12).length ≤ 13 := by have := Cal.pre_len k l 12; split at this <;> omega
        have hs14 := tcells_size _ hlen
        obtain ⟨cs, hcs⟩ : ∃ cs, tcells (Cal.pre k l 12) = cs := ⟨_, rfl⟩
        have hone : cs.all (·.oneCell') = true := by rw [← hcs]; exact tcells_one _
        have HT2 : Aside0 (wr.heap[W1.heap.size]? = some (.cells cs 153 (0, 0))) := ⟨by rw [← hcs]; exact HT.out⟩
        rw [hcs] at hs14
        have HS14 := Aside0.mk hs14
        have HCS := Aside0.mk hcs
        have HONE := Aside0.mk hone
        have hi14 : (Tryz.prog.info? 153).map (·.size) = some 14 := by kernel_rfl
        have HI := Aside0.mk (show (Tryz.prog.info? 153).map (·.size) = some cs.size by rw [hs14]; exact hi14)
        clear hlen hs14 hcs hone hi14
        go_wp2_with (first | (refine wpList_load_row rfl 153 (.tmp 3) rfl W1.heap.size rfl 153 cs (0, 0) _ HT2.out Tryz.underlying153 rfl HI.out ?_) | (refine wpList_store_row rfl 153 (.tmp 2) (.tmp 45) rfl (w.heap.size + 1) cs rfl (by rfl) 153 _ HO.out.out HI.out (by rw [HS14.out]; rfl) HONE.out ?_))
        refine bodyPost_ret (results_cell_row rfl _ _ (w.heap.size + 1) 153 cs (0, 0) _ rfl (setRow_heap _ _ _ _ _ _ HO.out.out) Tryz.underlying153 rfl HI.out) rfl ?_
        exact ⟨by rw [HCS.out], below_setRow HO.out.below (by omega) _⟩
end Go.Proofs.YtflpddhoiafhcaaGreatDoor.H
end

section
/- The contract of the program's function behind the hole 'month_Days', by a walk over its text. -/
namespace Go.Proofs.YtflpddhoiafhcaaGreatDoor.H
open Go.RowKit Go.Proofs.YtflpddhoiafhcaaGreatDoorW.PrintWords Go.Proofs.YtflpddhoiafhcaaGreatDoorW.PrintLast Go.Proofs.YtflpddhoiafhcaaGreatDoorW.PrintMore
attribute [local go_sem] max2_int min2_int max_two min_two max_three min_three max_four min_four
set_option linter.unusedVariables false
set_option linter.unusedSimpArgs false
theorem table_has (cs : Array Value) (n m : Int) (r : Bool) (hr : decide (0 < m ∧ m ≤ n) = r) (hc : cs[13]? = some (.int .i64 n)) (w : World) :
    Calls Tryz.prog 134 #[.agg cs, .int .i64 m] w fun e w' => e = .returned (.bool r) ∧ Below w.heap.size w w' := by
  have hg := heap_alloc_new w (.cells cs 153)
  have c1 : (w.alloc (.cells cs 153)).cell? ⟨w.heap.size, 13, none⟩ = some (.int .i64 n) := (blk_cell hg 13).trans hc
  clear hg hc
  by_cases h0 : 0 < m
  · have e0 : decide (0 < m) = true := by simp; omega
    by_cases h1 : m ≤ n
    · have e1 : decide (m ≤ n) = true := by simp; omega
      obtain rfl : r = true := by rw [← hr]; simp; omega
      clear hr
      go_enter Tryz.func134, Tryz.ntmps134
      go_wp2
      go_ret
      exact ⟨rfl, (Below.refl _ _).alloc (Nat.le_refl _) _⟩
    · have e1 : decide (m ≤ n) = false := by simp; omega
      obtain rfl : r = false := by rw [← hr]; simp; omega
      clear hr
      go_enter Tryz.func134, Tryz.ntmps134
      go_wp2
      go_ret
      exact ⟨rfl, (Below.refl _ _).alloc (Nat.le_refl _) _⟩
  · have e0 : decide (0 < m) = false := by simp; omega
    obtain rfl : r = false := by rw [← hr]; simp; omega
    clear hr
    go_enter Tryz.func134, Tryz.ntmps134
    go_wp2
    go_ret
    exact ⟨rfl, (Below.refl _ _).alloc (Nat.le_refl _) _⟩
theorem months_len (b k : Int) (l : Bool) : (Cal.months b k l).length ≤ 13 := by
  unfold Cal.months Cal.lens
  split <;> simp
  split <;> simp
theorem tcells_at (ms : List Int) (h : ms.length ≤ 13) (i : Nat) (hi : i < 13) : (tcells ms)[i]? = some (.int .i64 (ms.getD i 0)) := by
  simp only [tcells, List.getElem?_toArray]
  rw [List.getElem?_append_left (by simp; omega), List.getElem?_map]
  by_cases hm : i < ms.length
  · rw [List.getElem?_append_left hm, List.getElem?_eq_getElem hm]; simp [hm]
  · rw [List.getElem?_append_right (by omega), List.getElem?_replicate, if_pos (by omega)]
    simp [List.getElem?_eq_none (Nat.le_of_not_lt hm)]
def month_Days.f (a0_0 : Int) (a0_1 : Int) (a0_2 : Bool) (a1 : Int) : Option (Int) := if -9223372036854775808 ≤ a1 ∧ a1 ≤ 9223372036854775807 then some (Cal.mdays a0_0 a0_1 a0_2 a1) else none
/-- A table's cells, as the walks take them. -/
structure Tab (ms : List Int) (cs : Array Value) : Prop where
  size : cs.size = 14
  one : cs.all (·.oneCell') = true
  last : cs[13]? = some (.int .i64 ms.length)
  info : (Tryz.prog.info? 153).map (·.size) = some cs.size
  at_ : ∀ i, i < 13 → cs[i]? = some (.int .i64 (ms.getD i 0))
theorem Tab.of (ms : List Int) (h : ms.length ≤ 13) : Tab ms (tcells ms) :=
  ⟨tcells_size ms h, tcells_one ms, tcells_last ms h, by rw [tcells_size ms h]; kernel_rfl, tcells_at ms h⟩
/-- The world behind the call of 'of': its table laid in a block. -/
structure TabAt (w : World) (g : Nat) (cs : Array Value) (W : World) : Prop where
  below : Below w.heap.size w W
  ge : w.heap.size ≤ g
  tab : W.heap[g]? = some (.cells cs 153 (0, 0))
theorem TabAt.step {w : World} {g : Nat} {cs : Array Value} {W W' : World} (h : TabAt w g cs W) (hb : Below W.heap.size W W') : TabAt w g cs W' :=
  ⟨h.below.trans (hb.mono h.below.size), h.ge, (hb.block g (blk_lt h.tab)).trans h.tab⟩
theorem TabAt.begin {w W1 : World} (cs : Array Value) (hb : Below w.heap.size w W1) :
    TabAt w W1.heap.size cs ((W1.alloc (.cells #[.int .i64 0, .int .i64 0, .int .i64 0, .int .i64 0, .int .i64 0, .int .i64 0, .int .i64 0, .int .i64 0, .int .i64 0, .int .i64 0, .int .i64 0, .int .i64 0, .int .i64 0, .int .i64 0] 153)).setRow W1.heap.size cs) :=
  ⟨below_setRow (hb.alloc hb.size _) hb.size _, hb.size, setRow_heap _ _ _ _ _ _ (heap_alloc_new W1 _)⟩
theorem days_of (b k m r : Int) (l : Bool) (hm1 : -9223372036854775808 ≤ m) (hm2 : m ≤ 9223372036854775807) (hr : Cal.mdays b k l m = r) (w : World) (HG : GlobT w) :
    Calls Tryz.prog 102 #[.agg #[.int .i64 b, .int .i64 k, .bool l], .int .i64 m] w fun e w' => e = .returned (.int .i64 r) ∧ Below w.heap.size w w' := by
  have HK := Aside0.mk (KBox.begin HG b k l)
  have hml := months_len b k l
  have hof := fun W h => month_of b k l W h
  unfold Cal.mdays at hr
  generalize Cal.months b k l = ms at hml hof hr
  have hT := Tab.of ms hml
  generalize tcells ms = cs at hT hof
  have HT := Aside0.mk hT
  have HOF := Aside0.mk hof
  have HR := Aside0.mk hr
  have HL := Aside0.mk hml
  clear hml hof hT hr HG
  by_cases hc : 0 < m ∧ m ≤ (ms.length : Int)
  · obtain ⟨i, rfl⟩ : ∃ i : Nat, m = i + 1 := ⟨(m - 1).toNat, by omega⟩
    have HC := Aside0.mk hc
    have hi13 : (i : Int) < 13 := by have := HL.out; omega
    have hi0 : (0 : Int) ≤ i := by omega
    clear hc
    go_enter Tryz.func102, Tryz.ntmps102
    go_wp2_with fail
    refine (HOF.out _ HK.out.glob).mono ?_
    rintro e W1 ⟨rfl, hb⟩
    have HA := Aside0.mk (TabAt.begin cs (HK.out.step hb).below)
    clear hb
    go_wp2_with (first | (refine wpList_store_row rfl 153 (.tmp 5) (.tmp 7) rfl W1.heap.size cs rfl rfl 153 _ (heap_alloc_new W1 _) HT.out.info (by rw [HT.out.size]; rfl) HT.out.one ?_; generalize e2 : (W1.alloc (.cells #[.int .i64 0, .int .i64 0, .int .i64 0, .int .i64 0, .int .i64 0, .int .i64 0, .int .i64 0, .int .i64 0, .int .i64 0, .int .i64 0, .int .i64 0, .int .i64 0, .int .i64 0, .int .i64 0] 153)).setRow W1.heap.size cs = W2 at HA ⊢; clear e2) | (refine wpList_load_row rfl 153 (.tmp 5) rfl W1.heap.size rfl 153 cs (0, 0) _ HA.out.tab Tryz.underlying153 rfl HT.out.info ?_))
    refine (table_has cs ms.length (i + 1) true (by simpa using HC.out) HT.out.last _).mono ?_
    rintro e W3 ⟨rfl, hb⟩
    have HA3 := Aside0.mk (HA.out.step hb)
    have c : W3.cell? ⟨W1.heap.size, i, none⟩ = some (.int .i64 r) := by
      rw [blk_cell HA3.out.tab, HT.out.at_ i (by omega), ← HR.out, if_pos HC.out, show ((i : Int) + 1 - 1).toNat = i by omega]
    clear hb
    go_wp2
    go_ret
    exact ⟨rfl, HA3.out.below⟩
  · have HC := Aside0.mk hc
    obtain rfl : r = 0 := by rw [← HR.out, if_neg HC.out]
    clear hc
    go_enter Tryz.func102, Tryz.ntmps102
    go_wp2_with fail
    refine (HOF.out _ HK.out.glob).mono ?_
    rintro e W1 ⟨rfl, hb⟩
    have HA := Aside0.mk (TabAt.begin cs (HK.out.step hb).below)
    clear hb
    go_wp2_with (first | (refine wpList_store_row rfl 153 (.tmp 5) (.tmp 7) rfl W1.heap.size cs rfl rfl 153 _ (heap_alloc_new W1 _) HT.out.info (by rw [HT.out.size]; rfl) HT.out.one ?_; generalize e2 : (W1.alloc (.cells #[.int .i64 0, .int .i64 0, .int .i64 0, .int .i64 0, .int .i64 0, .int .i64 0, .int .i64 0, .int .i64 0, .int .i64 0, .int .i64 0, .int .i64 0, .int .i64 0, .int .i64 0, .int .i64 0] 153)).setRow W1.heap.size cs = W2 at HA ⊢; clear e2) | (refine wpList_load_row rfl 153 (.tmp 5) rfl W1.heap.size rfl 153 cs (0, 0) _ HA.out.tab Tryz.underlying153 rfl HT.out.info ?_))
    refine (table_has cs ms.length m false (by simpa using HC.out) HT.out.last _).mono ?_
    rintro e W3 ⟨rfl, hb⟩
    have HA3 := Aside0.mk (HA.out.step hb)
    clear hb
    go_wp2
    go_ret
    exact ⟨rfl, HA3.out.below⟩
theorem month_Days.calls (a0_0 : Int) (a0_1 : Int) (a0_2 : Bool) (a1 : Int) (r : Int) (w : World) (HG : GlobT w) (h : month_Days.f a0_0 a0_1 a0_2 a1 = some r) :
    Calls Tryz.prog 102 #[.agg #[.int .i64 a0_0, .int .i64 a0_1, .bool a0_2], .int .i64 a1] w fun e w' => e = .returned (.int .i64 r) ∧ Below w.heap.size w w' := by
  unfold month_Days.f at h
  split at h
  · rename_i hc
    exact days_of a0_0 a0_1 a1 r a0_2 hc.1 hc.2 (Option.some.inj h) w HG
  · cases h
end Go.Proofs.YtflpddhoiafhcaaGreatDoor.H
end

section
/- The contract of the program's function behind the hole 'month_Ahead', by a walk over its text. -/
namespace Go.Proofs.YtflpddhoiafhcaaGreatDoor.H
open Go.RowKit Go.Proofs.YtflpddhoiafhcaaGreatDoorW.PrintWords Go.Proofs.YtflpddhoiafhcaaGreatDoorW.PrintLast Go.Proofs.YtflpddhoiafhcaaGreatDoorW.PrintMore
attribute [local go_sem] max2_int min2_int max_two min_two max_three min_three max_four min_four
set_option linter.unusedVariables false
set_option linter.unusedSimpArgs false
end Go.Proofs.YtflpddhoiafhcaaGreatDoor.H
end

section
/- The contract of the program's function behind the hole 'month_Find', by a walk over its text. -/
namespace Go.Proofs.YtflpddhoiafhcaaGreatDoor.H
open Go.RowKit Go.Proofs.YtflpddhoiafhcaaGreatDoorW.PrintWords Go.Proofs.YtflpddhoiafhcaaGreatDoorW.PrintLast Go.Proofs.YtflpddhoiafhcaaGreatDoorW.PrintMore
attribute [local go_sem] max2_int min2_int max_two min_two max_three min_three max_four min_four
set_option linter.unusedVariables false
set_option linter.unusedSimpArgs false
end Go.Proofs.YtflpddhoiafhcaaGreatDoor.H
end

section
/- Events in order: by days, then by kinds. The one order of a list; plain, no program in sight. -/
namespace Go.Proofs.YtflpddhoiafhcaaGreatDoor.Cal

end Go.Proofs.YtflpddhoiafhcaaGreatDoor.Cal
end

section
/-
  DERIVED: THE SHELF's CONTRACTS AT THIS DUMP, IN PLAIN WORDS (tools/lay-plain.mjs out of 'YtflpddhoiafhcaaGreatDoorShlSort.lean', which tools/lay-shelf.mjs wrote): THE SAME DECLARATIONS UNDER THE SAME NAMES: 'import', 'namespace', 'open', 'def', 'theorem' AND NOTHING ELSE: no command of the shelf's: FOR A HAND-IN. Each laying: the table of numbers ('.._ren') and one theorem, a field a fact of the dump's own or the kernel's comparison; each contract: ONE APPLICATION.
-/
namespace Go.Proofs
open Go.Shelf
end Go.Proofs
end

section
/- The contract of the program's function behind the hole 'ev_sort', by a walk over its text. -/
namespace Go.Proofs.YtflpddhoiafhcaaGreatDoor.H
open Go.RowKit Go.Proofs.YtflpddhoiafhcaaGreatDoorW.PrintWords Go.Proofs.YtflpddhoiafhcaaGreatDoorW.PrintLast Go.Proofs.YtflpddhoiafhcaaGreatDoorW.PrintMore
attribute [local go_sem] max2_int min2_int max_two min_two max_three min_three max_four min_four
set_option linter.unusedVariables false
set_option linter.unusedSimpArgs false
end Go.Proofs.YtflpddhoiafhcaaGreatDoor.H
end

section
/-
  DERIVED: THE SHELF's CONTRACTS AT THIS DUMP, IN PLAIN WORDS (tools/lay-plain.mjs out of 'YtflpddhoiafhcaaGreatDoorShlBits.lean', which tools/lay-shelf.mjs wrote): THE SAME DECLARATIONS UNDER THE SAME NAMES: 'import', 'namespace', 'open', 'def', 'theorem' AND NOTHING ELSE: no command of the shelf's: FOR A HAND-IN. Each laying: the table of numbers ('.._ren') and one theorem, a field a fact of the dump's own or the kernel's comparison; each contract: ONE APPLICATION.
-/
namespace Go.Proofs
open Go.Shelf
end Go.Proofs
end

section
/-
  DERIVED: THE SHELF's CONTRACTS AT THIS DUMP, IN PLAIN WORDS (tools/lay-plain.mjs out of 'YtflpddhoiafhcaaGreatDoorShlStr.lean', which tools/lay-shelf.mjs wrote): THE SAME DECLARATIONS UNDER THE SAME NAMES: 'import', 'namespace', 'open', 'def', 'theorem' AND NOTHING ELSE: no command of the shelf's: FOR A HAND-IN. Each laying: the table of numbers ('.._ren') and one theorem, a field a fact of the dump's own or the kernel's comparison; each contract: ONE APPLICATION.
-/
namespace Go.Proofs
open Go.Shelf
def Tryz.laysM171_ren : Go.Shelf.Ren := ⟨fun | 171 => 52 | 243 => 109 | 246 => 155 | 283 => 202 | 284 => 203 | 285 => 204 | 286 => 205 | 129 => 195 | 317 => 241 | 318 => 242 | 319 => 243 | 320 => 244 | 337 => 261 | 338 => 262 | n => n, fun | 3 => 3 | 9 => 9 | 2 => 2 | 4 => 4 | 171 => 197 | 0 => 0 | 53 => 193 | 37 => 114 | 5 => 5 | 173 => 199 | 212 => 246 | 51 => 129 | 20 => 20 | 213 => 247 | 46 => 158 | 232 => 290 | 233 => 291 | n => n, fun | 17 => 4 | 18 => 9 | 19 => 10 | n => n⟩
theorem Tryz.laysM171 : Go.Proofs.LaysM.n171 Tryz.prog Tryz.laysM171_ren := {
  mixed := by kernel_rfl
  f129 := Tryz.func195.trans (congrArg some (by kernel_rfl))
  f171 := Tryz.func52.trans (congrArg some (by kernel_rfl))
  f243 := Tryz.func109.trans (congrArg some (by kernel_rfl))
  f246 := Tryz.func155.trans (congrArg some (by kernel_rfl))
  f283 := Tryz.func202.trans (congrArg some (by kernel_rfl))
  f284 := Tryz.func203.trans (congrArg some (by kernel_rfl))
  f285 := Tryz.func204.trans (congrArg some (by kernel_rfl))
  f286 := Tryz.func205.trans (congrArg some (by kernel_rfl))
  f317 := Tryz.func241.trans (congrArg some (by kernel_rfl))
  f318 := Tryz.func242.trans (congrArg some (by kernel_rfl))
  f319 := Tryz.func243.trans (congrArg some (by kernel_rfl))
  f320 := Tryz.func244.trans (congrArg some (by kernel_rfl))
  f337 := Tryz.func261.trans (congrArg some (by kernel_rfl))
  f338 := Tryz.func262.trans (congrArg some (by kernel_rfl))
  t0 := Tryz.underlying0
  a0 := Tryz.isAgg0
  z0 := Tryz.sizeOf0
  v0 := Tryz.zeroValue0
  t2 := Tryz.underlying2
  a2 := Tryz.isAgg2
  z2 := Tryz.sizeOf2
  v2 := Tryz.zeroValue2
  t3 := Tryz.underlying3
  a3 := Tryz.isAgg3
  z3 := Tryz.sizeOf3
  v3 := Tryz.zeroValue3
  t4 := Tryz.underlying4
  a4 := Tryz.isAgg4
  z4 := Tryz.sizeOf4
  v4 := Tryz.zeroValue4
  t5 := Tryz.underlying5
  a5 := Tryz.isAgg5
  z5 := Tryz.sizeOf5
  v5 := Tryz.zeroValue5
  t9 := Tryz.underlying9
  a9 := Tryz.isAgg9
  z9 := Tryz.sizeOf9
  v9 := Tryz.zeroValue9
  t20 := Tryz.underlying20
  a20 := Tryz.isAgg20
  z20 := Tryz.sizeOf20
  v20 := Tryz.zeroValue20
  t37 := Tryz.underlying114
  a37 := Tryz.isAgg114
  z37 := Tryz.sizeOf114
  v37 := Tryz.zeroValue114
  t46 := Tryz.underlying158
  a46 := Tryz.isAgg158
  z46 := Tryz.sizeOf158
  v46 := Tryz.zeroValue158
  t51 := Tryz.underlying129
  a51 := Tryz.isAgg129
  z51 := Tryz.sizeOf129
  v51 := Tryz.zeroValue129
  t53 := Tryz.underlying193
  a53 := Tryz.isAgg193
  z53 := Tryz.sizeOf193
  v53 := Tryz.zeroValue193
  t171 := Tryz.underlying197
  a171 := Tryz.isAgg197
  z171 := Tryz.sizeOf197
  v171 := Tryz.zeroValue197
  t173 := Tryz.underlying199
  a173 := Tryz.isAgg199
  z173 := Tryz.sizeOf199
  v173 := Tryz.zeroValue199
  t212 := Tryz.underlying246
  a212 := Tryz.isAgg246
  z212 := Tryz.sizeOf246
  v212 := Tryz.zeroValue246
  t213 := Tryz.underlying247
  a213 := Tryz.isAgg247
  z213 := Tryz.sizeOf247
  t232 := Tryz.underlying290
  a232 := Tryz.isAgg290
  z232 := Tryz.sizeOf290
  v232 := Tryz.zeroValue290
  t233 := Tryz.underlying291
  a233 := Tryz.isAgg291
  z233 := Tryz.sizeOf291
  v233 := Tryz.zeroValue291
  g17 := by kernel_rfl
  g18 := by kernel_rfl
  g19 := by kernel_rfl
  i0 := by kernel_rfl
  i2 := by kernel_rfl
  i3 := by kernel_rfl
  i4 := by kernel_rfl
  i5 := by kernel_rfl
  i9 := by kernel_rfl
  i20 := by kernel_rfl
  i37 := by kernel_rfl
  i46 := by kernel_rfl
  i51 := by kernel_rfl
  i53 := by kernel_rfl
  i171 := by kernel_rfl
  i173 := by kernel_rfl
  i212 := by kernel_rfl
  i232 := by kernel_rfl
  i233 := by kernel_rfl
  m17 := by kernel_rfl
  m18 := by kernel_rfl
  m19 := by kernel_rfl }
open Go.RowKit Go.Sort Go.Lib in
/-- strconv.Itoa: "Itoa is equivalent to FormatInt(int64(i), 10).": i's DECIMAL NUMERAL ('Lib.itoa': a '-' where i is negative, then the digits), FOR EVERY int. The world behind the call: the world before it, new blocks behind the heap (the library's 'var a [24]byte'), draws. (LAID: no walk: one application.) -/
theorem Tryz.strconv_Itoa (n : Int) (h0 : -9223372036854775808 ≤ n) (h1 : n ≤ 9223372036854775807) (w : World) (htab : Lib.TabIs Tryz.prog w "internal/strconv.uint64pow10" .u64 Lib.pow10Tab) :
    Calls Tryz.prog 52 #[.int .i64 n] w fun e w' => e = .returned (.string ⟨(Lib.itoa n).toArray⟩) ∧ ∃ k os, w' = grow (w.drewN k) os := Any.strconv_Itoa Tryz.laysM171 n h0 h1 w htab
def Tryz.laysC172_ren : Go.Shelf.Ren := ⟨fun | 172 => 112 | 244 => 157 | 245 => 158 | 247 => 210 | 279 => 211 | 280 => 212 | 281 => 213 | 282 => 214 | 287 => 247 | 316 => 248 | 171 => 52 | 205 => 249 | 321 => 263 | 322 => 264 | 243 => 109 | 246 => 155 | 283 => 202 | 284 => 203 | 285 => 204 | 286 => 205 | 129 => 195 | 317 => 241 | 318 => 242 | 319 => 243 | 320 => 244 | 337 => 261 | 338 => 262 | n => n, fun | 9 => 9 | 3 => 3 | 75 => 119 | 76 => 120 | 4 => 4 | 5 => 5 | 167 => 201 | 37 => 114 | 0 => 0 | 85 => 202 | 2 => 2 | 168 => 204 | 53 => 193 | 175 => 249 | 46 => 158 | 210 => 252 | 127 => 165 | 145 => 275 | 143 => 273 | 21 => 21 | 171 => 197 | 173 => 199 | 212 => 246 | 51 => 129 | 20 => 20 | 213 => 247 | 232 => 290 | 233 => 291 | 80 => 122 | n => n, fun | 15 => 5 | 16 => 6 | 17 => 4 | 18 => 9 | 19 => 10 | n => n⟩
theorem Tryz.laysC172 : Go.Proofs.LaysC.n172 Tryz.prog Tryz.laysC172_ren := {
  mixed := by kernel_rfl
  f129 := Tryz.func195.trans (congrArg some (by kernel_rfl))
  f171 := Tryz.func52.trans (congrArg some (by kernel_rfl))
  f172 := Tryz.func112.trans (congrArg some (by kernel_rfl))
  f205 := Tryz.func249.trans (congrArg some (by kernel_rfl))
  f243 := Tryz.func109.trans (congrArg some (by kernel_rfl))
  f244 := Tryz.func157.trans (congrArg some (by kernel_rfl))
  f245 := Tryz.func158.trans (congrArg some (by kernel_rfl))
  f246 := Tryz.func155.trans (congrArg some (by kernel_rfl))
  f247 := Tryz.func210.trans (congrArg some (by kernel_rfl))
  f279 := Tryz.func211.trans (congrArg some (by kernel_rfl))
  f280 := Tryz.func212.trans (congrArg some (by kernel_rfl))
  f281 := Tryz.func213.trans (congrArg some (by kernel_rfl))
  f282 := Tryz.func214.trans (congrArg some (by kernel_rfl))
  f283 := Tryz.func202.trans (congrArg some (by kernel_rfl))
  f284 := Tryz.func203.trans (congrArg some (by kernel_rfl))
  f285 := Tryz.func204.trans (congrArg some (by kernel_rfl))
  f286 := Tryz.func205.trans (congrArg some (by kernel_rfl))
  f287 := Tryz.func247.trans (congrArg some (by kernel_rfl))
  f316 := Tryz.func248.trans (congrArg some (by kernel_rfl))
  f317 := Tryz.func241.trans (congrArg some (by kernel_rfl))
  f318 := Tryz.func242.trans (congrArg some (by kernel_rfl))
  f319 := Tryz.func243.trans (congrArg some (by kernel_rfl))
  f320 := Tryz.func244.trans (congrArg some (by kernel_rfl))
  f321 := Tryz.func263.trans (congrArg some (by kernel_rfl))
  f322 := Tryz.func264.trans (congrArg some (by kernel_rfl))
  f337 := Tryz.func261.trans (congrArg some (by kernel_rfl))
  f338 := Tryz.func262.trans (congrArg some (by kernel_rfl))
  t0 := Tryz.underlying0
  a0 := Tryz.isAgg0
  z0 := Tryz.sizeOf0
  v0 := Tryz.zeroValue0
  t2 := Tryz.underlying2
  a2 := Tryz.isAgg2
  z2 := Tryz.sizeOf2
  v2 := Tryz.zeroValue2
  t3 := Tryz.underlying3
  a3 := Tryz.isAgg3
  z3 := Tryz.sizeOf3
  v3 := Tryz.zeroValue3
  t4 := Tryz.underlying4
  a4 := Tryz.isAgg4
  z4 := Tryz.sizeOf4
  v4 := Tryz.zeroValue4
  t5 := Tryz.underlying5
  a5 := Tryz.isAgg5
  z5 := Tryz.sizeOf5
  v5 := Tryz.zeroValue5
  t9 := Tryz.underlying9
  a9 := Tryz.isAgg9
  z9 := Tryz.sizeOf9
  v9 := Tryz.zeroValue9
  t20 := Tryz.underlying20
  a20 := Tryz.isAgg20
  z20 := Tryz.sizeOf20
  v20 := Tryz.zeroValue20
  t21 := Tryz.underlying21
  a21 := Tryz.isAgg21
  z21 := Tryz.sizeOf21
  v21 := Tryz.zeroValue21
  t37 := Tryz.underlying114
  a37 := Tryz.isAgg114
  z37 := Tryz.sizeOf114
  v37 := Tryz.zeroValue114
  t46 := Tryz.underlying158
  a46 := Tryz.isAgg158
  z46 := Tryz.sizeOf158
  v46 := Tryz.zeroValue158
  t51 := Tryz.underlying129
  a51 := Tryz.isAgg129
  z51 := Tryz.sizeOf129
  v51 := Tryz.zeroValue129
  t53 := Tryz.underlying193
  a53 := Tryz.isAgg193
  z53 := Tryz.sizeOf193
  v53 := Tryz.zeroValue193
  t75 := Tryz.underlying119
  a75 := Tryz.isAgg119
  z75 := Tryz.sizeOf119
  v75 := Tryz.zeroValue119
  t76 := Tryz.underlying120
  a76 := Tryz.isAgg120
  z76 := Tryz.sizeOf120
  v76 := Tryz.zeroValue120
  t85 := Tryz.underlying202
  a85 := Tryz.isAgg202
  z85 := Tryz.sizeOf202
  v85 := Tryz.zeroValue202
  t127 := Tryz.underlying165
  a127 := Tryz.isAgg165
  z127 := Tryz.sizeOf165
  v127 := Tryz.zeroValue165
  t143 := Tryz.underlying273
  a143 := Tryz.isAgg273
  z143 := Tryz.sizeOf273
  v143 := Tryz.zeroValue273
  t145 := Tryz.underlying275
  a145 := Tryz.isAgg275
  z145 := Tryz.sizeOf275
  v145 := Tryz.zeroValue275
  t167 := Tryz.underlying201
  a167 := Tryz.isAgg201
  z167 := Tryz.sizeOf201
  v167 := Tryz.zeroValue201
  t168 := Tryz.underlying204
  a168 := Tryz.isAgg204
  z168 := Tryz.sizeOf204
  v168 := Tryz.zeroValue204
  t171 := Tryz.underlying197
  a171 := Tryz.isAgg197
  z171 := Tryz.sizeOf197
  v171 := Tryz.zeroValue197
  t173 := Tryz.underlying199
  a173 := Tryz.isAgg199
  z173 := Tryz.sizeOf199
  v173 := Tryz.zeroValue199
  t175 := Tryz.underlying249
  a175 := Tryz.isAgg249
  z175 := Tryz.sizeOf249
  v175 := Tryz.zeroValue249
  t210 := Tryz.underlying252
  a210 := Tryz.isAgg252
  z210 := Tryz.sizeOf252
  v210 := Tryz.zeroValue252
  t212 := Tryz.underlying246
  a212 := Tryz.isAgg246
  z212 := Tryz.sizeOf246
  v212 := Tryz.zeroValue246
  t213 := Tryz.underlying247
  a213 := Tryz.isAgg247
  z213 := Tryz.sizeOf247
  t232 := Tryz.underlying290
  a232 := Tryz.isAgg290
  z232 := Tryz.sizeOf290
  v232 := Tryz.zeroValue290
  t233 := Tryz.underlying291
  a233 := Tryz.isAgg291
  z233 := Tryz.sizeOf291
  v233 := Tryz.zeroValue291
  g15 := by kernel_rfl
  g16 := by kernel_rfl
  g17 := by kernel_rfl
  g18 := by kernel_rfl
  g19 := by kernel_rfl
  t80 := Tryz.underlying122
  a80 := Tryz.isAgg122
  z80 := Tryz.sizeOf122
  v80 := Tryz.zeroValue122
  i0 := by kernel_rfl
  i2 := by kernel_rfl
  i3 := by kernel_rfl
  i4 := by kernel_rfl
  i5 := by kernel_rfl
  i9 := by kernel_rfl
  i20 := by kernel_rfl
  i21 := by kernel_rfl
  i37 := by kernel_rfl
  i46 := by kernel_rfl
  i51 := by kernel_rfl
  i53 := by kernel_rfl
  i75 := by kernel_rfl
  i76 := by kernel_rfl
  i80 := by kernel_rfl
  i85 := by kernel_rfl
  i127 := by kernel_rfl
  i143 := by kernel_rfl
  i145 := by kernel_rfl
  i167 := by kernel_rfl
  i168 := by kernel_rfl
  i171 := by kernel_rfl
  i173 := by kernel_rfl
  i175 := by kernel_rfl
  i210 := by kernel_rfl
  i212 := by kernel_rfl
  i232 := by kernel_rfl
  i233 := by kernel_rfl
  m15 := by kernel_rfl
  m16 := by kernel_rfl
  m17 := by kernel_rfl
  m18 := by kernel_rfl
  m19 := by kernel_rfl
  c0 := by kernel_rfl
  c2 := by kernel_rfl
  c3 := by kernel_rfl
  c4 := by kernel_rfl
  c5 := by kernel_rfl
  c9 := by kernel_rfl
  c20 := by kernel_rfl
  c21 := by kernel_rfl
  c37 := by kernel_rfl
  c46 := by kernel_rfl
  c51 := by kernel_rfl
  c53 := by kernel_rfl
  c75 := by kernel_rfl
  c76 := by kernel_rfl
  c80 := by kernel_rfl
  c85 := by kernel_rfl
  c127 := by kernel_rfl
  c143 := by kernel_rfl
  c145 := by kernel_rfl
  c167 := by kernel_rfl
  c168 := by kernel_rfl
  c171 := by kernel_rfl
  c173 := by kernel_rfl
  c175 := by kernel_rfl
  c210 := by kernel_rfl
  c212 := by kernel_rfl
  c213 := by kernel_rfl
  c232 := by kernel_rfl
  c233 := by kernel_rfl }
open Go.RowKit in
/-- strconv.Atoi, AT EVERY STRING THAT SPELLS AN int ('Lib.atoiAll .. = .ok v'; of whatever length: leading zeros count): v, AND NO ERROR. The world: as it was, or with the one new row that '[]byte(..)' lays. (LAID: no walk: one application.) -/
theorem Tryz.strconv_Atoi_ok (s : ByteArray) (hmax : s.size ≤ 9223372036854775806) (v : Int) (h : Lib.atoiAll s.data.toList = .ok v) (w : World) :
    Calls Tryz.prog 112 #[.string s] w fun e w' => e = .returned (.tuple #[.int .i64 v, .nilIface]) ∧ (w' = w ∨ ∃ t, w' = Lib.bytesWorld w 5 t) := Any.strconv_Atoi_ok Tryz.laysC172 s hmax v h w
open Go.RowKit in
theorem Tryz.strconv_Atoi_syntax_var (s : ByteArray) (hlim : s.size ≤ 281474976710656) (h1 : ∀ v, Lib.atoiAll s.data.toList ≠ .ok v) (h2 : Lib.atoiAll s.data.toList ≠ .range) (tp : TypeId) (p : Value) (w : World) (hvar : w.var? Tryz.prog "strconv.ErrSyntax" = some #[.iface tp p]) :
    Calls Tryz.prog 112 #[.string s] w fun e w' => ∃ N, e = .returned (.tuple #[.int .i64 0, .iface 204 (.pointer (some ⟨N, 0, none⟩))]) ∧ w.heap.size ≤ N ∧ w'.heap[N]? = some (.cells #[.string ⟨#[65, 116, 111, 105]⟩, .string s, .iface tp p] 252 (0, 0)) ∧ Below w.heap.size w w' := Any.strconv_Atoi_syntax_var Tryz.laysC172 s hlim (by rcases hx : Lib.atoiAll s.data.toList with v | _ | _ <;> first | rfl | exact absurd hx (h1 _) | exact absurd hx h2) tp p w hvar
open Go.RowKit in
theorem Tryz.strconv_Atoi_range_var (s : ByteArray) (hlim : s.size ≤ 281474976710656) (h : Lib.atoiAll s.data.toList = .range) (tp : TypeId) (p : Value) (w : World) (hvar : w.var? Tryz.prog "strconv.ErrRange" = some #[.iface tp p]) :
    Calls Tryz.prog 112 #[.string s] w fun e w' => ∃ N, e = .returned (.tuple #[.int .i64 (Lib.atoiSat s.data.toList), .iface 204 (.pointer (some ⟨N, 0, none⟩))]) ∧ w.heap.size ≤ N ∧ w'.heap[N]? = some (.cells #[.string ⟨#[65, 116, 111, 105]⟩, .string s, .iface tp p] 252 (0, 0)) ∧ Below w.heap.size w w' := Any.strconv_Atoi_range_var Tryz.laysC172 s hlim h tp p w hvar
end Go.Proofs
end

section
/- The contract of the program's function behind the hole 'name_number', by a walk over its text. -/
namespace Go.Proofs.YtflpddhoiafhcaaGreatDoor.H
open Go.RowKit Go.Proofs.YtflpddhoiafhcaaGreatDoorW.PrintWords Go.Proofs.YtflpddhoiafhcaaGreatDoorW.PrintLast Go.Proofs.YtflpddhoiafhcaaGreatDoorW.PrintMore
attribute [local go_sem] max2_int min2_int max_two min_two max_three min_three max_four min_four
set_option linter.unusedVariables false
set_option linter.unusedSimpArgs false
/-- The number that a text of so many digits at most writes, as it is printed; or none. -/
def numOf (s : ByteArray) (most : Int) : Option Int := match Lib.atoiAll s.data.toList with | .ok n => if 0 < n ∧ (s.size : Int) ≤ most ∧ (⟨(Lib.itoa n).toArray⟩ : ByteArray) = s then some n else none | _ => none
def numIs (s : ByteArray) (most n : Int) (b : Bool) : Prop := match numOf s most with | some v => n = v ∧ b = true | none => b = false
theorem atoi_ok (s : ByteArray) (hs : s.size ≤ 281474976710656) (n : Int) (hx : Lib.atoiAll s.data.toList = .ok n) (W : World) : Calls Tryz.prog 112 #[.string s] W fun e w' => e = .returned (.tuple #[.int .i64 n, .nilIface]) ∧ Below W.heap.size W w' := by
  refine (Tryz.strconv_Atoi_ok s (by omega) n hx W).mono ?_
  rintro e w' ⟨rfl, rfl | ⟨t, rfl⟩⟩
  · exact ⟨rfl, Below.refl _ _⟩
  · exact ⟨rfl, Lib.bytesWorld_below _ _ _⟩
theorem atoi_no (s : ByteArray) (hs : s.size ≤ 281474976710656) (hx : ∀ n, Lib.atoiAll s.data.toList ≠ .ok n) (W : World) (hW : GlobS W) : Calls Tryz.prog 112 #[.string s] W fun e w' => ∃ n N, e = .returned (.tuple #[.int .i64 n, .iface 204 (.pointer (some ⟨N, 0, none⟩))]) ∧ Below W.heap.size W w' := by
  obtain ⟨-, ⟨t2, p2, h2⟩, ⟨t3, p3, h3⟩⟩ := hW
  rcases hy : Lib.atoiAll s.data.toList with n | _ | _
  · exact absurd hy (hx n)
  · refine (Tryz.strconv_Atoi_syntax_var s hs hx (fun h => by rw [hy] at h; cases h) t2 p2 W h2).mono ?_
    rintro e w' ⟨N, rfl, _, _, hb⟩
    exact ⟨_, N, rfl, hb⟩
  · refine (Tryz.strconv_Atoi_range_var s hs hy t3 p3 W h3).mono ?_
    rintro e w' ⟨N, rfl, _, _, hb⟩
    exact ⟨_, N, rfl, hb⟩
theorem grown_below' (w : World) (k : Nat) (os : Array Obj) : Below w.heap.size w (Go.Sort.grow (w.drewN k) os) := Lib.below_grow _ w (Nat.le_refl _) k os
theorem itoa_of (n : Int) (h0 : -9223372036854775808 ≤ n) (h1 : n ≤ 9223372036854775807) (W : World) (hW : GlobS W) : Calls Tryz.prog 52 #[.int .i64 n] W fun e w' => e = .returned (.string ⟨(Lib.itoa n).toArray⟩) ∧ Below W.heap.size W w' := by
  refine (Tryz.strconv_Itoa n h0 h1 W hW.tab).mono ?_
  rintro e w' ⟨rfl, k, os, rfl⟩
  exact ⟨rfl, grown_below' _ _ _⟩
set_option maxHeartbeats 4000000 in
set_option maxRecDepth 100000 in
theorem name_number (s : ByteArray) (hs : s.size ≤ 100000) (most : Int) (w : World) (HG : GlobS w) : Calls Tryz.prog 56 #[.string s, .int .i64 most] w fun e w' => ∃ n b, e = .returned (.tuple #[.int .i64 n, .bool b]) ∧ numIs s most n b ∧ Below w.heap.size w w' := by
  by_cases hok : ∃ n, Lib.atoiAll s.data.toList = .ok n
  · obtain ⟨n, hn⟩ := hok
    obtain ⟨n0, n1⟩ := Lib.atoiAll_bounds hn
    have HN : ∀ b, (0 < n ∧ (s.size : Int) ≤ most ∧ (⟨(Lib.itoa n).toArray⟩ : ByteArray) = s ↔ b = true) → numIs s most n b := fun b hb => by
      unfold numIs numOf
      rw [hn]
      simp only
      cases b with
      | true => rw [if_pos (hb.2 rfl)]; exact ⟨rfl, rfl⟩
      | false => rw [if_neg (fun c => by cases hb.1 c)]
    have HA : Aside0 (∀ W, Calls Tryz.prog 112 #[.string s] W fun e w' => e = .returned (.tuple #[.int .i64 n, .nilIface]) ∧ Below W.heap.size W w') := ⟨fun W => atoi_ok s (by omega) n hn W⟩
    have HI : Aside0 (∀ W, GlobS W → Calls Tryz.prog 52 #[.int .i64 n] W fun e w' => e = .returned (.string ⟨(Lib.itoa n).toArray⟩) ∧ Below W.heap.size W w') := ⟨fun W hW => itoa_of n n0 n1 W hW⟩
    have HGS := Aside0.mk HG
    clear HG hn
    by_cases hp : 0 < n
    · have b1 : decide (n > 0) = true := decide_eq_true hp
      by_cases hm : (s.size : Int) ≤ most
      · have b2 : decide ((s.size : Int) ≤ most) = true := decide_eq_true hm
        generalize ht : (⟨(Lib.itoa n).toArray⟩ : ByteArray) = t at HI
        by_cases he : t = s
        · have HE := Aside0.mk (HN true ⟨fun _ => rfl, fun _ => ⟨hp, hm, ht.trans he⟩⟩)
          clear hp hm ht HN
          subst he
          go_enter Tryz.func56, Tryz.ntmps56
          go_wp2_with fail
          refine (HA.out _).mono ?_
          rintro e W1 ⟨rfl, hb1⟩
          have HB1 := Aside0.mk hb1
          have HG1 := Aside0.mk (HGS.out.below hb1)
          clear hb1
          go_wp2_with fail
          refine (HI.out _ HG1.out).mono ?_
          rintro e W2 ⟨rfl, hb2⟩
          have HB2 := Aside0.mk (HB1.out.trans (hb2.mono HB1.out.size))
          clear hb2
          go_wp2_with fail
          go_ret2
          exact ⟨n, true, rfl, HE.out, HB2.out⟩
        · have HE := Aside0.mk (HN false ⟨fun c => absurd (ht.symm.trans c.2.2) he, fun c => by cases c⟩)
          have hte : (t.toList == s.toList) = false := by
            rw [beq_eq_false_iff_ne]; intro h; refine he (ByteArray.ext ?_)
            rw [Lib.toList_data, Lib.toList_data] at h
            exact Array.toList_inj.1 h
          clear hp hm ht he HN
          go_enter Tryz.func56, Tryz.ntmps56
          go_wp2_with fail
          refine (HA.out _).mono ?_
          rintro e W1 ⟨rfl, hb1⟩
          have HB1 := Aside0.mk hb1
          have HG1 := Aside0.mk (HGS.out.below hb1)
          clear hb1
          go_wp2_with fail
          refine (HI.out _ HG1.out).mono ?_
          rintro e W2 ⟨rfl, hb2⟩
          have HB2 := Aside0.mk (HB1.out.trans (hb2.mono HB1.out.size))
          clear hb2
          go_wp2_with fail
          go_ret2
          exact ⟨n, false, rfl, HE.out, HB2.out⟩
      · have b2 : decide ((s.size : Int) ≤ most) = false := decide_eq_false hm
        have HE := Aside0.mk (HN false ⟨fun c => absurd c.2.1 hm, fun c => by cases c⟩)
        clear hp hm HN
        go_enter Tryz.func56, Tryz.ntmps56
        go_wp2_with fail
        refine (HA.out _).mono ?_
        rintro e W1 ⟨rfl, hb1⟩
        have HB1 := Aside0.mk hb1
        clear hb1
        go_wp2_with fail
        go_ret2
        exact ⟨n, false, rfl, HE.out, HB1.out⟩
    · have b1 : decide (n > 0) = false := decide_eq_false hp
      have HE := Aside0.mk (HN false ⟨fun c => absurd c.1 hp, fun c => by cases c⟩)
      clear hp HN
      go_enter Tryz.func56, Tryz.ntmps56
      go_wp2_with fail
      refine (HA.out _).mono ?_
      rintro e W1 ⟨rfl, hb1⟩
      have HB1 := Aside0.mk hb1
      clear hb1
      go_wp2_with fail
      go_ret2
      exact ⟨n, false, rfl, HE.out, HB1.out⟩
  · have HA := Aside0.mk (atoi_no s (by omega) (fun n h => hok ⟨n, h⟩) w HG)
    have HE := Aside0.mk (show ∀ n : Int, numIs s most n false by
      intro n
      unfold numIs numOf
      rcases hy : Lib.atoiAll s.data.toList with m | _ | _
      · exact absurd ⟨m, hy⟩ hok
      · rfl
      · rfl)
    clear hok HG
    go_enter Tryz.func56, Tryz.ntmps56
    go_wp2_with fail
    refine HA.out.mono ?_
    rintro e W1 ⟨n, N, rfl, hb1⟩
    have HB1 := Aside0.mk hb1
    clear hb1
    go_wp2_with fail
    go_ret2
    exact ⟨n, false, rfl, HE.out n, HB1.out⟩
end Go.Proofs.YtflpddhoiafhcaaGreatDoor.H
end

section
/-
  DERIVED: THE SHELF's CONTRACTS AT THIS DUMP, IN PLAIN WORDS (tools/lay-plain.mjs out of 'YtflpddhoiafhcaaGreatDoorShlName.lean', which tools/lay-shelf.mjs wrote): THE SAME DECLARATIONS UNDER THE SAME NAMES: 'import', 'namespace', 'open', 'def', 'theorem' AND NOTHING ELSE: no command of the shelf's: FOR A HAND-IN. Each laying: the table of numbers ('.._ren') and one theorem, a field a fact of the dump's own or the kernel's comparison; each contract: ONE APPLICATION.
-/
namespace Go.Proofs
open Go.Shelf
def Tryz.lays156_ren : Go.Shelf.Ren := ⟨fun | 156 => 51 | 165 => 106 | 166 => 107 | 169 => 108 | 240 => 153 | 241 => 154 | 276 => 200 | 277 => 201 | n => n, fun | 31 => 65 | 9 => 9 | 3 => 3 | 4 => 4 | 0 => 0 | 20 => 20 | 72 => 116 | 76 => 120 | 70 => 113 | 37 => 114 | 75 => 119 | 127 => 165 | 164 => 194 | 5 => 5 | 80 => 122 | n => n, fun | n => n⟩
theorem Tryz.lays156 : Go.Proofs.Lays.n156 Tryz.prog Tryz.lays156_ren := {
  mixed := by kernel_rfl
  f156 := Tryz.func51.trans (congrArg some (by kernel_rfl))
  f165 := Tryz.func106.trans (congrArg some (by kernel_rfl))
  f166 := Tryz.func107.trans (congrArg some (by kernel_rfl))
  f169 := Tryz.func108.trans (congrArg some (by kernel_rfl))
  f240 := Tryz.func153.trans (congrArg some (by kernel_rfl))
  f241 := Tryz.func154.trans (congrArg some (by kernel_rfl))
  f276 := Tryz.func200.trans (congrArg some (by kernel_rfl))
  f277 := Tryz.func201.trans (congrArg some (by kernel_rfl))
  t0 := Tryz.underlying0
  a0 := Tryz.isAgg0
  z0 := Tryz.sizeOf0
  v0 := Tryz.zeroValue0
  t3 := Tryz.underlying3
  a3 := Tryz.isAgg3
  z3 := Tryz.sizeOf3
  v3 := Tryz.zeroValue3
  t4 := Tryz.underlying4
  a4 := Tryz.isAgg4
  z4 := Tryz.sizeOf4
  v4 := Tryz.zeroValue4
  t9 := Tryz.underlying9
  a9 := Tryz.isAgg9
  z9 := Tryz.sizeOf9
  v9 := Tryz.zeroValue9
  t20 := Tryz.underlying20
  a20 := Tryz.isAgg20
  z20 := Tryz.sizeOf20
  v20 := Tryz.zeroValue20
  t31 := Tryz.underlying65
  a31 := Tryz.isAgg65
  z31 := Tryz.sizeOf65
  v31 := Tryz.zeroValue65
  t37 := Tryz.underlying114
  a37 := Tryz.isAgg114
  z37 := Tryz.sizeOf114
  v37 := Tryz.zeroValue114
  t70 := Tryz.underlying113
  a70 := Tryz.isAgg113
  z70 := Tryz.sizeOf113
  v70 := Tryz.zeroValue113
  t72 := Tryz.underlying116
  a72 := Tryz.isAgg116
  z72 := Tryz.sizeOf116
  v72 := Tryz.zeroValue116
  t75 := Tryz.underlying119
  a75 := Tryz.isAgg119
  z75 := Tryz.sizeOf119
  v75 := Tryz.zeroValue119
  t76 := Tryz.underlying120
  a76 := Tryz.isAgg120
  z76 := Tryz.sizeOf120
  v76 := Tryz.zeroValue120
  t127 := Tryz.underlying165
  a127 := Tryz.isAgg165
  z127 := Tryz.sizeOf165
  v127 := Tryz.zeroValue165
  t164 := Tryz.underlying194
  a164 := Tryz.isAgg194
  z164 := Tryz.sizeOf194
  v164 := Tryz.zeroValue194 }
theorem Tryz.Builder_Extra_156 : Builder.Extra Tryz.prog Tryz.lays156_ren := {
  sizeBuilder := by kernel_rfl
  liesBuilder := by kernel_rfl
  t5 := Tryz.underlying5
  a5 := Tryz.isAgg5
  z5 := Tryz.sizeOf5
  v5 := Tryz.zeroValue5
  infoByte := by kernel_rfl
  cellsByte := by kernel_rfl
  sizeByte := by kernel_rfl
  neB5 := by decide }
open Go.RowKit in
/-- strings.Join: "Join concatenates the elements of its first argument to create a single string. The separator string sep is placed between elements in the resulting string.": HOWEVER MANY ELEMENTS. Below the heap's end the world is as it was. (LAID: no walk: one application.) -/
theorem Tryz.strings_Join (bk o c : Nat) (xs : List ByteArray) (sep : ByteArray) (w : World) (hcells : ∀ (j : Nat) x, xs[j]? = some x → w.cell? ⟨bk, o + j, none⟩ = some (.string x)) (hbk : bk < w.heap.size) (hN : xs.length ≤ 140737488355328) (hcap : xs.length ≤ c) (hlen : (Lib.join (xs.map (·.data.toList)) sep.data.toList).length ≤ 140737488355328) :
    Calls Tryz.prog 51 #[.slice (some ⟨bk, o, none⟩) xs.length c, .string sep] w fun e w' => e = .returned (.string ⟨(Lib.join (xs.map (·.data.toList)) sep.data.toList).toArray⟩) ∧ Below w.heap.size w w' := Any.strings_Join Tryz.lays156 Tryz.Builder_Extra_156 bk o c xs sep w hcells hbk hN hcap hlen
def Tryz.lays145_ren : Go.Shelf.Ren := ⟨fun | 145 => 54 | 220 => 110 | 219 => 156 | 217 => 206 | 225 => 207 | 224 => 208 | 267 => 209 | 266 => 245 | 314 => 246 | n => n, fun | 9 => 9 | 4 => 4 | 59 => 69 | 3 => 3 | 5 => 5 | 46 => 158 | 146 => 207 | 51 => 129 | n => n, fun | 1 => 1 | n => n⟩
theorem Tryz.lays145 : Go.Proofs.Lays.n145 Tryz.prog Tryz.lays145_ren := {
  mixed := by kernel_rfl
  f145 := Tryz.func54.trans (congrArg some (by kernel_rfl))
  f217 := Tryz.func206.trans (congrArg some (by kernel_rfl))
  f219 := Tryz.func156.trans (congrArg some (by kernel_rfl))
  f220 := Tryz.func110.trans (congrArg some (by kernel_rfl))
  f224 := Tryz.func208.trans (congrArg some (by kernel_rfl))
  f225 := Tryz.func207.trans (congrArg some (by kernel_rfl))
  f266 := Tryz.func245.trans (congrArg some (by kernel_rfl))
  f267 := Tryz.func209.trans (congrArg some (by kernel_rfl))
  f314 := Tryz.func246.trans (congrArg some (by kernel_rfl))
  t3 := Tryz.underlying3
  a3 := Tryz.isAgg3
  z3 := Tryz.sizeOf3
  v3 := Tryz.zeroValue3
  t4 := Tryz.underlying4
  a4 := Tryz.isAgg4
  z4 := Tryz.sizeOf4
  v4 := Tryz.zeroValue4
  t5 := Tryz.underlying5
  a5 := Tryz.isAgg5
  z5 := Tryz.sizeOf5
  v5 := Tryz.zeroValue5
  t9 := Tryz.underlying9
  a9 := Tryz.isAgg9
  z9 := Tryz.sizeOf9
  v9 := Tryz.zeroValue9
  t46 := Tryz.underlying158
  a46 := Tryz.isAgg158
  z46 := Tryz.sizeOf158
  v46 := Tryz.zeroValue158
  t51 := Tryz.underlying129
  a51 := Tryz.isAgg129
  z51 := Tryz.sizeOf129
  v51 := Tryz.zeroValue129
  t59 := Tryz.underlying69
  a59 := Tryz.isAgg69
  z59 := Tryz.sizeOf69
  v59 := Tryz.zeroValue69
  t146 := Tryz.underlying207
  a146 := Tryz.isAgg207
  z146 := Tryz.sizeOf207
  v146 := Tryz.zeroValue207
  g1 := by kernel_rfl }
open Go.RowKit Go.Lib in
/-- strings.Cut: "Cut slices s around the first instance of sep, returning the text before and after sep. The found result reports whether sep appears in s. If sep does not appear in s, cut returns s, "", false.": IT RETURNS 'Lib.cut s sep'; the world is as it was but for the count of draws. (LAID: no walk: one application.) -/
theorem Tryz.strings_Cut (s sep : ByteArray) (m : Int) (w : World) (hs : s.size < 4294967281) (hm : w.cell? ⟨1, 0, none⟩ = some (.int .i64 m)) :
    Calls Tryz.prog 54 #[.string s, .string sep] w fun e w' => e = .returned (.tuple #[.string ⟨(Lib.cut s.data.toList sep.data.toList).1.toArray⟩, .string ⟨(Lib.cut s.data.toList sep.data.toList).2.1.toArray⟩, .bool (Lib.cut s.data.toList sep.data.toList).2.2]) ∧ ∃ n, w' = w.drewN n := Any.strings_Cut Tryz.lays145 s sep m w hs hm
def Tryz.lays149_ren : Go.Shelf.Ren := ⟨fun | 149 => 55 | 222 => 111 | n => n, fun | 9 => 9 | 5 => 5 | 3 => 3 | 4 => 4 | n => n, fun | n => n⟩
theorem Tryz.lays149 : Go.Proofs.Lays.n149 Tryz.prog Tryz.lays149_ren := {
  mixed := by kernel_rfl
  f149 := Tryz.func55.trans (congrArg some (by kernel_rfl))
  f222 := Tryz.func111.trans (congrArg some (by kernel_rfl))
  t3 := Tryz.underlying3
  a3 := Tryz.isAgg3
  z3 := Tryz.sizeOf3
  v3 := Tryz.zeroValue3
  t4 := Tryz.underlying4
  a4 := Tryz.isAgg4
  z4 := Tryz.sizeOf4
  v4 := Tryz.zeroValue4
  t5 := Tryz.underlying5
  a5 := Tryz.isAgg5
  z5 := Tryz.sizeOf5
  v5 := Tryz.zeroValue5
  t9 := Tryz.underlying9
  a9 := Tryz.isAgg9
  z9 := Tryz.sizeOf9
  v9 := Tryz.zeroValue9 }
open Go.RowKit Go.Lib in
/-- strings.LastIndexByte: "LastIndexByte returns the index of the last instance of c in s, or -1 if c is not present in s." (LAID: no walk: one application.) -/
theorem Tryz.strings_LastIndexByte (s : ByteArray) (c : Int) (hs : s.size < 4611686018427387904) (w : World) :
    Calls Tryz.prog 55 #[.string s, .int .u8 c] w fun e w' => e = .returned (.int .i64 (Lib.lastIndexByte s c)) ∧ w' = w := Any.strings_LastIndexByte Tryz.lays149 s c hs w
end Go.Proofs
end

section
/- A map of names, as name.codes lays it: what it holds, a new name put in, a name looked up. -/
namespace Go.Proofs.YtflpddhoiafhcaaGreatDoor
open Go.RowKit Go.Proofs.YtflpddhoiafhcaaGreatDoorW.PrintWords
def encN (x : ByteArray × Int × Bool) : Value × Value := (.string x.1, .agg #[.int .i64 x.2.1, .bool x.2.2])
/-- Block g is a map that holds these names, in this order. -/
structure NMap (w : World) (g : Nat) (m : List (ByteArray × Int × Bool)) : Prop where
  holds : ∃ es clock, w.heap[g]? = some (.map es clock) ∧ es.toList.map (fun e => (e.key, e.val)) = m.map encN
theorem NMap.lt {w : World} {g : Nat} {m : List (ByteArray × Int × Bool)} (h : NMap w g m) : g < w.heap.size := by
  obtain ⟨es, clock, hb, _⟩ := h.holds
  exact (Array.getElem?_eq_some_iff.1 hb).1
theorem NMap.below {w w' : World} {g : Nat} {m : List (ByteArray × Int × Bool)} (h : NMap w g m) (hb : Below w.heap.size w w') : NMap w' g m := by
  obtain ⟨es, clock, h1, h2⟩ := h.holds
  exact ⟨es, clock, (hb.block g h.lt).trans h1, h2⟩
theorem NMap.made (w : World) : NMap (w.alloc (.map #[] 0)) w.heap.size [] := ⟨#[], 0, heap_alloc_new w _, rfl⟩
theorem bytes_ne {a b : ByteArray} (h : a ≠ b) : (a == b) = false := by
  cases hb : (a == b)
  · rfl
  · exfalso
    apply h
    cases a
    rename_i x
    cases b
    rename_i y
    have h2 : (x == y) = true := hb
    rw [eq_of_beq h2]
theorem bytes_self (a : ByteArray) : (a == a) = true := by
  cases a
  rename_i d
  show (d == d) = true
  simp
theorem find_no (s : ByteArray) : ∀ (es : List MapEntry) (m : List (ByteArray × Int × Bool)) (i : Nat), es.map (fun e => (e.key, e.val)) = m.map encN → (∀ x ∈ m, x.1 ≠ s) → Instr.findNow .string (.string s) es i = some none
  | [], m, i, h, hn => by simp [Instr.findNow]
  | e :: es, [], i, h, hn => by simp at h
  | e :: es, x :: m, i, h, hn => by
    simp only [List.map_cons, List.cons.injEq, encN, Prod.mk.injEq] at h
    obtain ⟨⟨hk, hv⟩, ht⟩ := h
    have hne : s ≠ x.1 := fun c => hn x (by simp) c.symm
    have hsame : Instr.sameNow .string (.string s) (.string x.1) = some false := by
      simp [Instr.sameNow, bytes_ne hne]
    rw [Instr.findNow, hk, hsame]
    exact find_no s es m (i + 1) ht (fun y hy => hn y (by simp [hy]))
theorem find_yes (s : ByteArray) (n : Int) (l : Bool) : ∀ (es : List MapEntry) (m : List (ByteArray × Int × Bool)) (i : Nat), es.map (fun e => (e.key, e.val)) = m.map encN → (m.find? fun x => x.1 = s) = some (s, n, l) → ∃ j, Instr.findNow .string (.string s) es i = some (some (j, .agg #[.int .i64 n, .bool l]))
  | [], m, i, h, hn => by
    have : m = [] := by cases m <;> simp_all
    subst this
    simp at hn
  | e :: es, [], i, h, hn => by simp at h
  | e :: es, x :: m, i, h, hn => by
    simp only [List.map_cons, List.cons.injEq, encN, Prod.mk.injEq] at h
    obtain ⟨⟨hk, hv⟩, ht⟩ := h
    by_cases c : x.1 = s
    · rw [List.find?_cons_of_pos (by simpa using c)] at hn
      have hx := Option.some.inj hn
      subst hx
      refine ⟨i, ?_⟩
      have hsame : Instr.sameNow .string (.string s) (.string s) = some true := by simp [Instr.sameNow, bytes_self]
      rw [Instr.findNow, hk, hsame, hv]
    · rw [List.find?_cons_of_neg (by simpa using c)] at hn
      obtain ⟨j, hj⟩ := find_yes s n l es m (i + 1) ht hn
      have hne : s ≠ x.1 := fun d => c d.symm
      have hsame : Instr.sameNow .string (.string s) (.string x.1) = some false := by simp [Instr.sameNow, bytes_ne hne]
      exact ⟨j, by rw [Instr.findNow, hk, hsame]; exact hj⟩
theorem mk_under : Tryz.prog.underlying 75 = some (.map 9 32) := by kernel_rfl
theorem ms_under : Tryz.prog.underlying 9 = some .string := by kernel_rfl
theorem key_ok (s : ByteArray) (b : Bool) (w : World) : (Instr.checkKey b 10000 9 (.string s)).run Tryz.prog w = .ok () w := MapKept.run_checkKey (k := .string s) ms_under (by simp [MapKept.IsKey]) b 9999
/-- A new name. -/
theorem NMap.update {w : World} {g : Nat} {m : List (ByteArray × Int × Bool)} (h : NMap w g m) (s : ByteArray) (n : Int) (l : Bool) (hn : ∀ x ∈ m, x.1 ≠ s) :
    ∃ w', (Instr.mapUpdate 75 (.map (some g)) (.string s) (.agg #[.int .i64 n, .bool l])).run Tryz.prog w = .ok () w' ∧ NMap w' g (m ++ [(s, n, l)]) ∧ ∀ (B : Nat) (w0 : World), B ≤ g → Below B w0 w → Below B w0 w' := by
  have hlt := h.lt
  obtain ⟨es, clock, hb, he⟩ := h.holds
  have hf := find_no s es.toList m 0 he hn
  refine ⟨_, by simp [Instr.mapUpdate, run_underlying mk_under, MapKept.run_getObj_map hb, key_ok, MapKept.run_findKey ms_under hf, MapKept.run_setObj_map _ hb, Result.andThen]; rfl, ⟨es.push ⟨.string s, .agg #[.int .i64 n, .bool l], clock⟩, clock + 1, ?_, ?_⟩, fun B w0 hB hw => ?_⟩
  · show (w.heap.setIfInBounds g _)[g]? = _
    rw [Array.getElem?_setIfInBounds_self_of_lt hlt]
  · rw [Array.toList_push, List.map_append, List.map_append, he]; rfl
  · refine ⟨hw.os, hw.tape, hw.output, ?_, fun k hk => ?_⟩
    · show w0.heap.size ≤ (w.heap.setIfInBounds g _).size
      rw [Array.size_setIfInBounds]; exact hw.size
    · show (w.heap.setIfInBounds g _)[k]? = _
      rw [Array.getElem?_setIfInBounds_ne (by omega)]
      exact hw.block k hk
/-- What a name leads to. -/
def codeIn (m : List (ByteArray × Int × Bool)) (s : ByteArray) : Int × Bool × Bool := match m.find? fun x => x.1 = s with | some x => (x.2.1, x.2.2, true) | none => (0, false, false)
theorem NMap.lookup {w : World} {g : Nat} {m : List (ByteArray × Int × Bool)} (h : NMap w g m) (s : ByteArray) :
    (Instr.lookup 75 (.map (some g)) (.string s) true).run Tryz.prog w = .ok (.tuple #[.agg #[.int .i64 (codeIn m s).1, .bool (codeIn m s).2.1], .bool (codeIn m s).2.2]) w := by
  obtain ⟨es, clock, hb, he⟩ := h.holds
  have hz : (zeroValue 32).run Tryz.prog w = .ok (.agg #[.int .i64 0, .bool false]) w := by kernel_rfl
  unfold codeIn
  cases hm : m.find? fun x => x.1 = s with
  | none =>
    have hn : ∀ x ∈ m, x.1 ≠ s := fun x hx => by simpa using List.find?_eq_none.1 hm x hx
    have hf := find_no s es.toList m 0 he hn
    simp [Instr.lookup, run_underlying mk_under, MapKept.run_getObj_map hb, key_ok, MapKept.run_findKey ms_under hf, hz, Result.andThen]
  | some x =>
    have hx : x.1 = s := by simpa using List.find?_some hm
    obtain ⟨x1, x2, x3⟩ := x
    simp only at hx
    subst hx
    obtain ⟨j, hf⟩ := find_yes x1 x2 x3 es.toList m 0 he hm
    simp [Instr.lookup, run_underlying mk_under, MapKept.run_getObj_map hb, key_ok, MapKept.run_findKey ms_under hf, Result.andThen]
end Go.Proofs.YtflpddhoiafhcaaGreatDoor
end

section
/- The contract of the program's function behind the hole 'name_codes', by a walk over its text. -/
namespace Go.Proofs.YtflpddhoiafhcaaGreatDoor.H
open Go.RowKit Go.Proofs.YtflpddhoiafhcaaGreatDoorW.PrintWords Go.Proofs.YtflpddhoiafhcaaGreatDoorW.PrintLast Go.Proofs.YtflpddhoiafhcaaGreatDoorW.PrintMore
attribute [local go_sem] max2_int min2_int max_two min_two max_three min_three max_four min_four
set_option linter.unusedVariables false
set_option linter.unusedSimpArgs false
/-- The names of the codes up to a number, as name.codes lays them. -/
def codesTo (i : Nat) : List (ByteArray × Int × Bool) := [(Cal.adar1, 5, true), (Cal.adar2, 6, false)] ++ (List.range i).map fun (j : Nat) => (Cal.nameAt (j : Int), (j : Int) + 1, false)
theorem codesTo_succ (i : Nat) : codesTo (i + 1) = codesTo i ++ [(Cal.nameAt (i : Int), (i : Int) + 1, false)] := by
  unfold codesTo
  rw [List.range_succ, List.map_append, ← List.append_assoc]
  rfl
theorem codesTo_new (i : Nat) (h : i < 12) : ∀ x ∈ codesTo i, x.1 ≠ Cal.nameAt (i : Int) := by
  rcases (by omega : i = 0 ∨ i = 1 ∨ i = 2 ∨ i = 3 ∨ i = 4 ∨ i = 5 ∨ i = 6 ∨ i = 7 ∨ i = 8 ∨ i = 9 ∨ i = 10 ∨ i = 11) with rfl | rfl | rfl | rfl | rfl | rfl | rfl | rfl | rfl | rfl | rfl | rfl <;> decide +kernel
theorem name_index (i : Nat) (h : i < 12) (w : World) : (Instr.index 64 (.agg nameCells) (.int .i64 i)).run Tryz.prog w = .ok (.string (Cal.nameAt (i : Int))) w := by
  rcases (by omega : i = 0 ∨ i = 1 ∨ i = 2 ∨ i = 3 ∨ i = 4 ∨ i = 5 ∨ i = 6 ∨ i = 7 ∨ i = 8 ∨ i = 9 ∨ i = 10 ∨ i = 11) with rfl | rfl | rfl | rfl | rfl | rfl | rfl | rfl | rfl | rfl | rfl | rfl <;> kernel_rfl
set_option maxHeartbeats 4000000 in
set_option maxRecDepth 100000 in
theorem name_codes (w : World) (HG : GlobN w) : Calls Tryz.prog 57 #[] w fun e w' => e = .returned (.map (some w.heap.size)) ∧ NMap w' w.heap.size (codesTo 12) ∧ Below w.heap.size w w' := by
  obtain ⟨w2, hr2, hm2, hb2⟩ := (NMap.made w).update Cal.adar1 5 true (by simp)
  obtain ⟨w3, hr3, hm3, hb3⟩ := hm2.update Cal.adar2 6 false (by decide +kernel)
  have HM3 : Aside0 (NMap w3 w.heap.size (codesTo 0)) := ⟨hm3⟩
  have hbw := hb3 w.heap.size w (Nat.le_refl _) (hb2 w.heap.size w (Nat.le_refl _) (below_alloc (Below.refl w.heap.size w) _))
  have HB3 := Aside0.mk hbw
  obtain ⟨t3, fr3, hp3⟩ := (HG.below hbw).names
  have HP := Aside0.mk hp3
  have hmm := @run_makeMap Tryz.prog
  unfold Cal.adar1 at hr2
  unfold Cal.adar2 at hr3
  clear hm2 hb2 hm3 hb3 hbw hp3 HG
  go_enter Tryz.func57, Tryz.ntmps57
  go_wp2_with (first | (refine wpList_load_row rfl 64 _ rfl 0 rfl t3 nameCells fr3 _ HP.out Tryz.underlying64 rfl (by kernel_rfl) ?_))
  clear hr2 hr3 hmm
  go_loopw [9] (fun s9 wr => ∃ i : Nat, i ≤ 12 ∧ s9 = .int .i64 i ∧ Aside0 (NMap wr w.heap.size (codesTo i)) ∧ Aside0 (Below w.heap.size w wr)) (fun s9 _ => 12 - (intOf s9).toNat)
  case atStart => exact ⟨0, by omega, rfl, HM3, HB3⟩
  case round =>
    obtain ⟨i, hi, rfl, HM, HB⟩ := hrel
    by_cases hlt : i < 12
    · obtain ⟨s, hs⟩ : ∃ s, Cal.nameAt (i : Int) = s := ⟨_, rfl⟩
      have hx : ∀ w, (Instr.index 64 (.agg nameCells) (.int .i64 i)).run Tryz.prog w = .ok (.string s) w := fun w => by rw [← hs]; exact name_index i hlt w
      obtain ⟨w4, hr4, hm4, hb4⟩ := HM.out.update s ((i : Int) + 1) false (by rw [← hs]; exact codesTo_new i hlt)
      have HM4 : Aside0 (NMap w4 w.heap.size (codesTo (i + 1))) := ⟨by rw [codesTo_succ, hs]; exact hm4⟩
      have HB4 := Aside0.mk (hb4 _ _ (Nat.le_refl _) HB.out)
      have hltz : (i : Int) < 12 := by omega
      have hw : wrap64 ((i : Int) + 1) = (i : Int) + 1 := by unfold wrap64; omega
      clear hm4 hb4 hs HM
      go_wp2_with fail
      exact ⟨⟨i + 1, by omega, by go_num, HM4, HB4⟩, by simp [intOf]; omega⟩
    · obtain rfl : i = 12 := by omega
      go_wp2_with fail
      go_ret
      exact ⟨rfl, HM.out, HB.out⟩
end Go.Proofs.YtflpddhoiafhcaaGreatDoor.H
end

section
-- Written by wip/hprint.py of this repo (holes typed by hand, all else by a program) over the seat YtflpddhoiafhcaaGreatDoor.
namespace Go.Proofs.YtflpddhoiafhcaaGreatDoor.R
open Go.Proofs.YtflpddhoiafhcaaGreatDoor.H
open Go.RowKit Go.Proofs.YtflpddhoiafhcaaGreatDoorW.PrintWords Go.Proofs.YtflpddhoiafhcaaGreatDoorW.PrintLast Go.Proofs.YtflpddhoiafhcaaGreatDoorW.PrintMore
attribute [local go_sem] max2_int min2_int max_two min_two max_three min_three max_four min_four   -- for this text's walks alone
set_option linter.unusedVariables false
set_option linter.unusedSimpArgs false

def errW : Option Int → Value
  | none => .nilIface
  | some c => .iface 0 (.int .i64 c)
theorem errW_none : errW none = .nilIface := rfl
theorem errW_some (c : Int) : errW (some c) = .iface 0 (.int .i64 c) := rfl

theorem info3 : (Tryz.prog.info? 3).map (fun i => (i.zero, i.size, i.bytes)) = some (some (.int .i64 0), 1, 8) := by kernel_rfl
theorem info32 : (Tryz.prog.info? 32).map (fun i => (i.zero, i.size, i.bytes)) = some (some (.agg #[(.int .i64 0), (.bool false)]), 2, 16) := by kernel_rfl
-- the values' own types

structure S32 where
  f0 : Int
  f1 : Bool
def z32 : S32 := ⟨(0 : Int), false⟩
def k32 : Kd S32 := Kd.iso (Kd.pair (Kd.int .i64) Kd.bool) (fun x : S32 => (x.f0, x.f1))
theorem k32_open {w : World} {x : S32} {cs : List Value} (h : k32.K w x cs) : cs = [.int .i64 x.f0, .bool x.f1] := by
  obtain ⟨_, _, rfl, rfl, rfl⟩ := h
  exact rfl
theorem k32_mkM (w : World) (base : Nat) (ok : Nat → Prop) (x : S32)  : k32.M w base ok x [.int .i64 x.f0, .bool x.f1] := ⟨[.int .i64 x.f0], [.bool x.f1], rfl, rfl, rfl⟩
def rd_T32 (xs : List S32) (i : Int) : S32 := xs.getD i.toNat z32
theorem at_T32 {w : World} {A : Option Addr} {n : Nat} {xs : List S32} (h : Kd.C k32 w A n xs) (i : Int) (h0 : 0 ≤ i) (h1 : i < n) : ∃ ad , A = some ad ∧ w.cell? (ad.add (i.toNat * 2)) = some (.int .i64 (rd_T32 xs i).f0) ∧ w.cell? ⟨(ad.add (i.toNat * 2)).block, (ad.add (i.toNat * 2)).off + 1, none⟩ = some (.bool (rd_T32 xs i).f1) := by
  obtain ⟨ad, c, e, _, hK, hc0⟩ := Kd.C_get h z32 i h0 h1
  have hc : ∀ j u, c[j]? = some u → w.cell? (ad.add (i.toNat * 2 + j)) = some u := hc0
  obtain rfl := k32_open hK
  exact ⟨ad, e, hc 0 _ rfl, by rw [← add_field _ _ 1 (by omega)]; exact hc 1 _ rfl⟩

end Go.Proofs.YtflpddhoiafhcaaGreatDoor.R
end

section
-- Written by wip/hprint.py of this repo (holes typed by hand, all else by a program) over the seat YtflpddhoiafhcaaGreatDoor.
namespace Go.Proofs.YtflpddhoiafhcaaGreatDoor.R
open Go.Proofs.YtflpddhoiafhcaaGreatDoor.H
open Go.RowKit Go.Proofs.YtflpddhoiafhcaaGreatDoorW.PrintWords Go.Proofs.YtflpddhoiafhcaaGreatDoorW.PrintLast Go.Proofs.YtflpddhoiafhcaaGreatDoorW.PrintMore
attribute [local go_sem] max2_int min2_int max_two min_two max_three min_three max_four min_four   -- for this text's walks alone
set_option linter.unusedVariables false
set_option linter.unusedSimpArgs false

theorem eqA32 (d : Nat) (w : World) (x0 y0 : Int) (x1 y1 : Bool) :
    (Op.equalIn (d + 2) 32 (.agg #[.int .i64 x0, .bool x1]) (.agg #[.int .i64 y0, .bool y1])).run Tryz.prog w = .ok (x0 == y0 && (x1 == y1)) w := by
  refine eqA_of Tryz.underlying32 (by kernel_rfl) ?_
  refine eqf_cons (by rfl) (by go_simp; rfl) (by go_simp; rfl) (by go_simp) ?_
  exact eqf_last (by rfl) (by go_simp; rfl) (by go_simp; rfl) (by go_simp)
end Go.Proofs.YtflpddhoiafhcaaGreatDoor.R
end

section
-- Written by wip/hprint.py of this repo (holes typed by hand, all else by a program) over the seat YtflpddhoiafhcaaGreatDoor.
namespace Go.Proofs.YtflpddhoiafhcaaGreatDoor.R
open Go.Proofs.YtflpddhoiafhcaaGreatDoor.H
open Go.RowKit Go.Proofs.YtflpddhoiafhcaaGreatDoorW.PrintWords Go.Proofs.YtflpddhoiafhcaaGreatDoorW.PrintLast Go.Proofs.YtflpddhoiafhcaaGreatDoorW.PrintMore
attribute [local go_sem] max2_int min2_int max_two min_two max_three min_three max_four min_four   -- for this text's walks alone
set_option linter.unusedVariables false
set_option linter.unusedSimpArgs false

theorem eqA34 (d : Nat) (w : World) (x0 y0 : Int) (x1 y1 : Int) (x2 y2 : Bool) (x3 y3 : Int) :
    (Op.equalIn (d + 3) 34 (.agg #[.int .i64 x0, .int .i64 x1, .bool x2, .int .i64 x3]) (.agg #[.int .i64 y0, .int .i64 y1, .bool y2, .int .i64 y3])).run Tryz.prog w = .ok (x0 == y0 && ((x1 == y1 && (x2 == y2)) && (x3 == y3))) w := by
  refine eqA_of Tryz.underlying34 (by kernel_rfl) ?_
  refine eqf_cons (by rfl) (by go_simp; rfl) (by go_simp; rfl) (by go_simp) ?_
  refine eqf_cons (by rfl) (by go_simp) (by go_simp) (eqA32 (d + 0) w _ _ _ _) ?_
  exact eqf_last (by rfl) (by go_simp; rfl) (by go_simp; rfl) (by go_simp)
end Go.Proofs.YtflpddhoiafhcaaGreatDoor.R
end

section
-- Written by wip/hprint.py of this repo (holes typed by hand, all else by a program) over the seat YtflpddhoiafhcaaGreatDoor.
namespace Go.Proofs.YtflpddhoiafhcaaGreatDoor.R
open Go.Proofs.YtflpddhoiafhcaaGreatDoor.H
open Go.RowKit Go.Proofs.YtflpddhoiafhcaaGreatDoorW.PrintWords Go.Proofs.YtflpddhoiafhcaaGreatDoorW.PrintLast Go.Proofs.YtflpddhoiafhcaaGreatDoorW.PrintMore
attribute [local go_sem] max2_int min2_int max_two min_two max_three min_three max_four min_four   -- for this text's walks alone
set_option linter.unusedVariables false
set_option linter.unusedSimpArgs false

def cycle_check.f (a0 : Int) : Option (Int) := if a0 < 0 then (some 2) else (if a0 > 10001 then (some 2) else (some 0))
set_option maxHeartbeats 8000000 in
set_option maxRecDepth 100000 in
theorem cycle_check.calls (a0 : Int) (r : Int) (w : World) (h : cycle_check.f a0 = some r) :
    Calls Tryz.prog 150 #[.int .i64 a0] w fun e w' => e = .returned (.int .i64 r) ∧ Drawn0 w w' := by
  have H : (if a0 < 0 then (some 2) else (if a0 > 10001 then (some 2) else (some 0))) = some r := h
  clear h
  by_cases c2 : a0 < 0
  · rw [if_pos c2] at H
    have c2b0 : decide (a0 < 0) = true := decide_eq_true c2
    clear c2
    obtain rfl := Option.some.inj H
    go_enter Tryz.func150, Tryz.ntmps150
    go_wp2
    go_ret
    exact ⟨by first | rfl | (simp; done) | (simp [*]; done), by repeat (first | exact Drawn0.refl _ | apply Drawn0.step)⟩
  · rw [if_neg c2] at H
    have c2b0 : decide (a0 < 0) = false := decide_eq_false c2
    clear c2
    by_cases c3 : a0 > 10001
    · rw [if_pos c3] at H
      have c3b0 : decide (10001 < a0) = true := decide_eq_true c3
      clear c3
      obtain rfl := Option.some.inj H
      go_enter Tryz.func150, Tryz.ntmps150
      go_wp2
      go_ret
      exact ⟨by first | rfl | (simp; done) | (simp [*]; done), by repeat (first | exact Drawn0.refl _ | apply Drawn0.step)⟩
    · rw [if_neg c3] at H
      have c3b0 : decide (10001 < a0) = false := decide_eq_false c3
      clear c3
      obtain rfl := Option.some.inj H
      go_enter Tryz.func150, Tryz.ntmps150
      go_wp2
      go_ret
      exact ⟨by first | rfl | (simp; done) | (simp [*]; done), by repeat (first | exact Drawn0.refl _ | apply Drawn0.step)⟩

def cycle_Leap.f (a0 : Int) : Option (Bool × Int) := (cycle_check.f a0).bind fun t101 => (if t101 = 0 then (if (Int.tmod a0 19) = 0 then (some (true, 0)) else (if (Int.tmod a0 19) = 3 then (some (true, 0)) else (if (Int.tmod a0 19) = 6 then (some (true, 0)) else (if (Int.tmod a0 19) = 8 then (some (true, 0)) else (if (Int.tmod a0 19) = 11 then (some (true, 0)) else (if (Int.tmod a0 19) = 14 then (some (true, 0)) else (if (Int.tmod a0 19) = 17 then (some (true, 0)) else (some (false, 0))))))))) else (some (false, t101)))
set_option maxHeartbeats 8000000 in
set_option maxRecDepth 100000 in
theorem cycle_Leap.calls (a0 : Int) (r1 : Bool) (r2 : Int) (w : World) (h : cycle_Leap.f a0 = some (r1, r2)) :
  Calls Tryz.prog 103 #[.int .i64 a0] w fun e w' => e = .returned (.tuple #[.bool r1, .int .i64 r2]) ∧ Drawn0 w w' := by
 have H : ((cycle_check.f a0).bind fun t101=>(if t101 = 0 then (if (Int.tmod a0 19) = 0 then (some (true,0)) else (if (Int.tmod a0 19) = 3 then (some (true,0)) else (if (Int.tmod a0 19) = 6 then (some (true,0)) else (if (Int.tmod a0 19) = 8 then (some (true,0)) else (if (Int.tmod a0 19) = 11 then (some (true,0)) else (if (Int.tmod a0 19) = 14 then (some (true,0)) else (if (Int.tmod a0 19) = 17 then (some (true,0)) else (some (false,0))))))))) else (some (false,t101)))) = some (r1,r2):=h
 clear h
 replace H := zz14.mp H
 obtain ⟨t101, A20, H⟩ := H
 replace H : (if t101 = 0 then (if (Int.tmod a0 19) = 0 then (some (true,0)) else (if (Int.tmod a0 19) = 3 then (some (true,0)) else (if (Int.tmod a0 19) = 6 then (some (true,0)) else (if (Int.tmod a0 19) = 8 then (some (true,0)) else (if (Int.tmod a0 19) = 11 then (some (true,0)) else (if (Int.tmod a0 19) = 14 then (some (true,0)) else (if (Int.tmod a0 19) = 17 then (some (true,0)) else (some (false,0))))))))) else (some (false,t101))) = some (r1,r2):=H
 have A2 := zz00 A20
 clear A20
 by_cases c3 : t101 = 0
 ·
  rw [if_pos c3] at H
  have c3b0 : (t101 == 0) = true := zz29.mpr c3
  have c3b1 : (t101 != 0) = false := zz26.mpr c3
  clear c3
  by_cases c4 : (Int.tmod a0 19) = 0
  ·
   rw [if_pos c4] at H
   have c4b0 : ((Int.tmod a0 19) == 0) = true := zz29.mpr c4
   have c4b1 : ((Int.tmod a0 19) != 0) = false := zz26.mpr c4
   clear c4
   simp only [zz15, zz16] at H
   obtain ⟨rfl, rfl⟩ := H
   go_enter Tryz.func103, Tryz.ntmps103
   go_wp2_with (first|((with_reducible refine zz23 (f:=150) rfl ?_);refine zz25 (some 6) rfl rfl Tryz.func150 (by kernel_rfl) rfl #[.int .i64 a0] rfl (by (try simp only [List.map_toArray,List.map_cons,List.map_nil]);first|done|rfl|(simp only [List.length_drop,List.length_take];rfl)) ?_;(with_reducible refine (cycle_check.calls a0 t101 _ A2.out).mono ?_);rintro e w' ⟨rfl,⟨nd,rfl⟩⟩;refine ⟨_,rfl,?_⟩))
   go_ret2
   exact ⟨by first | rfl | (simp; done) | (simp [*]; done), by repeat (first | exact Drawn0.refl _ | apply Drawn0.step)⟩
  ·
   rw [if_neg c4] at H
   have c4b0 : ((Int.tmod a0 19) == 0) = false := zz27.mpr c4
   have c4b1 : ((Int.tmod a0 19) != 0) = true := zz28.mpr c4
   by_cases c5 : (Int.tmod a0 19) = 3
   ·
    rw [if_pos c5] at H
    have c5b0 : ((Int.tmod a0 19) == 3) = true := zz29.mpr c5
    have c5b1 : ((Int.tmod a0 19) != 3) = false := zz26.mpr c5
    clear c5
    simp only [zz15, zz16] at H
    obtain ⟨rfl, rfl⟩ := H
    go_enter Tryz.func103, Tryz.ntmps103
    go_wp2_with (first|((with_reducible refine zz23 (f:=150) rfl ?_);refine zz25 (some 6) rfl rfl Tryz.func150 (by kernel_rfl) rfl #[.int .i64 a0] rfl (by (try simp only [List.map_toArray,List.map_cons,List.map_nil]);first|done|rfl|(simp only [List.length_drop,List.length_take];rfl)) ?_;(with_reducible refine (cycle_check.calls a0 t101 _ A2.out).mono ?_);rintro e w' ⟨rfl,⟨nd,rfl⟩⟩;refine ⟨_,rfl,?_⟩))
    go_ret2
    exact ⟨by first | rfl | (simp; done) | (simp [*]; done), by repeat (first | exact Drawn0.refl _ | apply Drawn0.step)⟩
   ·
    rw [if_neg c5] at H
    have c5b0 : ((Int.tmod a0 19) == 3) = false := zz27.mpr c5
    have c5b1 : ((Int.tmod a0 19) != 3) = true := zz28.mpr c5
    by_cases c6 : (Int.tmod a0 19) = 6
    ·
     rw [if_pos c6] at H
     have c6b0 : ((Int.tmod a0 19) == 6) = true := zz29.mpr c6
     have c6b1 : ((Int.tmod a0 19) != 6) = false := zz26.mpr c6
     clear c6
     simp only [zz15, zz16] at H
     obtain ⟨rfl, rfl⟩ := H
     go_enter Tryz.func103, Tryz.ntmps103
     go_wp2_with (first|((with_reducible refine zz23 (f:=150) rfl ?_);refine zz25 (some 6) rfl rfl Tryz.func150 (by kernel_rfl) rfl #[.int .i64 a0] rfl (by (try simp only [List.map_toArray,List.map_cons,List.map_nil]);first|done|rfl|(simp only [List.length_drop,List.length_take];rfl)) ?_;(with_reducible refine (cycle_check.calls a0 t101 _ A2.out).mono ?_);rintro e w' ⟨rfl,⟨nd,rfl⟩⟩;refine ⟨_,rfl,?_⟩))
     go_ret2
     exact ⟨by first | rfl | (simp; done) | (simp [*]; done), by repeat (first | exact Drawn0.refl _ | apply Drawn0.step)⟩
    ·
     rw [if_neg c6] at H
     have c6b0 : ((Int.tmod a0 19) == 6) = false := zz27.mpr c6
     have c6b1 : ((Int.tmod a0 19) != 6) = true := zz28.mpr c6
     by_cases c7 : (Int.tmod a0 19) = 8
     ·
      rw [if_pos c7] at H
      have c7b0 : ((Int.tmod a0 19) == 8) = true := zz29.mpr c7
      have c7b1 : ((Int.tmod a0 19) != 8) = false := zz26.mpr c7
      clear c7
      simp only [zz15, zz16] at H
      obtain ⟨rfl, rfl⟩ := H
      go_enter Tryz.func103, Tryz.ntmps103
      go_wp2_with (first|((with_reducible refine zz23 (f:=150) rfl ?_);refine zz25 (some 6) rfl rfl Tryz.func150 (by kernel_rfl) rfl #[.int .i64 a0] rfl (by (try simp only [List.map_toArray,List.map_cons,List.map_nil]);first|done|rfl|(simp only [List.length_drop,List.length_take];rfl)) ?_;(with_reducible refine (cycle_check.calls a0 t101 _ A2.out).mono ?_);rintro e w' ⟨rfl,⟨nd,rfl⟩⟩;refine ⟨_,rfl,?_⟩))
      go_ret2
      exact ⟨by first | rfl | (simp; done) | (simp [*]; done), by repeat (first | exact Drawn0.refl _ | apply Drawn0.step)⟩
     ·
      rw [if_neg c7] at H
      have c7b0 : ((Int.tmod a0 19) == 8) = false := zz27.mpr c7
      have c7b1 : ((Int.tmod a0 19) != 8) = true := zz28.mpr c7
      by_cases c8 : (Int.tmod a0 19) = 11
      ·
       rw [if_pos c8] at H
       have c8b0 : ((Int.tmod a0 19) == 11) = true := zz29.mpr c8
       have c8b1 : ((Int.tmod a0 19) != 11) = false := zz26.mpr c8
       clear c8
       simp only [zz15, zz16] at H
       obtain ⟨rfl, rfl⟩ := H
       go_enter Tryz.func103, Tryz.ntmps103
       go_wp2_with (first|((with_reducible refine zz23 (f:=150) rfl ?_);refine zz25 (some 6) rfl rfl Tryz.func150 (by kernel_rfl) rfl #[.int .i64 a0] rfl (by (try simp only [List.map_toArray,List.map_cons,List.map_nil]);first|done|rfl|(simp only [List.length_drop,List.length_take];rfl)) ?_;(with_reducible refine (cycle_check.calls a0 t101 _ A2.out).mono ?_);rintro e w' ⟨rfl,⟨nd,rfl⟩⟩;refine ⟨_,rfl,?_⟩))
       go_ret2
       exact ⟨by first | rfl | (simp; done) | (simp [*]; done), by repeat (first | exact Drawn0.refl _ | apply Drawn0.step)⟩
      ·
       rw [if_neg c8] at H
       have c8b0 : ((Int.tmod a0 19) == 11) = false := zz27.mpr c8
       have c8b1 : ((Int.tmod a0 19) != 11) = true := zz28.mpr c8
       by_cases c9 : (Int.tmod a0 19) = 14
       ·
        rw [if_pos c9] at H
        have c9b0 : ((Int.tmod a0 19) == 14) = true := zz29.mpr c9
        have c9b1 : ((Int.tmod a0 19) != 14) = false := zz26.mpr c9
        clear c9
        simp only [zz15, zz16] at H
        obtain ⟨rfl, rfl⟩ := H
        go_enter Tryz.func103, Tryz.ntmps103
        go_wp2_with (first|((with_reducible refine zz23 (f:=150) rfl ?_);refine zz25 (some 6) rfl rfl Tryz.func150 (by kernel_rfl) rfl #[.int .i64 a0] rfl (by (try simp only [List.map_toArray,List.map_cons,List.map_nil]);first|done|rfl|(simp only [List.length_drop,List.length_take];rfl)) ?_;(with_reducible refine (cycle_check.calls a0 t101 _ A2.out).mono ?_);rintro e w' ⟨rfl,⟨nd,rfl⟩⟩;refine ⟨_,rfl,?_⟩))
        go_ret2
        exact ⟨by first | rfl | (simp; done) | (simp [*]; done), by repeat (first | exact Drawn0.refl _ | apply Drawn0.step)⟩
       ·
        rw [if_neg c9] at H
        have c9b0 : ((Int.tmod a0 19) == 14) = false := zz27.mpr c9
        have c9b1 : ((Int.tmod a0 19) != 14) = true := zz28.mpr c9
        by_cases c10 : (Int.tmod a0 19) = 17
        ·
         rw [if_pos c10] at H
         have c10b0 : ((Int.tmod a0 19) == 17) = true := zz29.mpr c10
         have c10b1 : ((Int.tmod a0 19) != 17) = false := zz26.mpr c10
         clear c10
         simp only [zz15, zz16] at H
         obtain ⟨rfl, rfl⟩ := H
         go_enter Tryz.func103, Tryz.ntmps103
         go_wp2_with (first|((with_reducible refine zz23 (f:=150) rfl ?_);refine zz25 (some 6) rfl rfl Tryz.func150 (by kernel_rfl) rfl #[.int .i64 a0] rfl (by (try simp only [List.map_toArray,List.map_cons,List.map_nil]);first|done|rfl|(simp only [List.length_drop,List.length_take];rfl)) ?_;(with_reducible refine (cycle_check.calls a0 t101 _ A2.out).mono ?_);rintro e w' ⟨rfl,⟨nd,rfl⟩⟩;refine ⟨_,rfl,?_⟩))
         go_ret2
         exact ⟨by first | rfl | (simp; done) | (simp [*]; done), by repeat (first | exact Drawn0.refl _ | apply Drawn0.step)⟩
        ·
         rw [if_neg c10] at H
         have c10b0 : ((Int.tmod a0 19) == 17) = false := zz27.mpr c10
         have c10b1 : ((Int.tmod a0 19) != 17) = true := zz28.mpr c10
         simp only [zz15, zz16] at H
         obtain ⟨rfl, rfl⟩ := H
         go_enter Tryz.func103, Tryz.ntmps103
         go_wp2_with (first|((with_reducible refine zz23 (f:=150) rfl ?_);refine zz25 (some 6) rfl rfl Tryz.func150 (by kernel_rfl) rfl #[.int .i64 a0] rfl (by (try simp only [List.map_toArray,List.map_cons,List.map_nil]);first|done|rfl|(simp only [List.length_drop,List.length_take];rfl)) ?_;(with_reducible refine (cycle_check.calls a0 t101 _ A2.out).mono ?_);rintro e w' ⟨rfl,⟨nd,rfl⟩⟩;refine ⟨_,rfl,?_⟩))
         go_ret2
         exact ⟨by first | rfl | (simp; done) | (simp [*]; done), by repeat (first | exact Drawn0.refl _ | apply Drawn0.step)⟩
 ·
  rw [if_neg c3] at H
  have c3b0 : (t101 == 0) = false := zz27.mpr c3
  have c3b1 : (t101 != 0) = true := zz28.mpr c3
  simp only [zz15, zz16] at H
  obtain ⟨rfl, rfl⟩ := H
  go_enter Tryz.func103, Tryz.ntmps103
  go_wp2_with (first|((with_reducible refine zz23 (f:=150) rfl ?_);refine zz25 (some 6) rfl rfl Tryz.func150 (by kernel_rfl) rfl #[.int .i64 a0] rfl (by (try simp only [List.map_toArray,List.map_cons,List.map_nil]);first|done|rfl|(simp only [List.length_drop,List.length_take];rfl)) ?_;(with_reducible refine (cycle_check.calls a0 t101 _ A2.out).mono ?_);rintro e w' ⟨rfl,⟨nd,rfl⟩⟩;refine ⟨_,rfl,?_⟩))
  go_ret2
  exact ⟨by first | rfl | (simp; done) | (simp [*]; done), by repeat (first | exact Drawn0.refl _ | apply Drawn0.step)⟩

def cycle_In.f (a0 : Int) : Option (Int × Int) := (cycle_Leap.f a0).bind fun bt102 => (if bt102.2 = 0 then (if bt102.1 = true then (some (13, 0)) else (some (12, 0))) else (some (0, bt102.2)))
set_option maxHeartbeats 8000000 in
set_option maxRecDepth 100000 in
theorem cycle_In.calls (a0 : Int) (r1 : Int) (r2 : Int) (w : World) (h : cycle_In.f a0 = some (r1, r2)) :
  Calls Tryz.prog 180 #[.int .i64 a0] w fun e w' => e = .returned (.tuple #[.int .i64 r1, .int .i64 r2]) ∧ Drawn0 w w' := by
 have H : ((cycle_Leap.f a0).bind fun bt102 => (if bt102.2 = 0 then (if bt102.1 = true then (some (13, 0)) else (some (12, 0))) else (some (0, bt102.2)))) = some (r1, r2) := h
 clear h
 replace H := zz14.mp H
 obtain ⟨⟨t102, t103⟩, A20, H⟩ := H
 replace H : (if t103 = 0 then (if t102 = true then (some (13, 0)) else (some (12, 0))) else (some (0, t103))) = some (r1, r2) := H
 have A2 := zz00 A20
 clear A20
 by_cases c3 : t103 = 0
 ·
  rw [if_pos c3] at H
  have c3b0 : (t103 == 0) = true := zz29.mpr c3
  have c3b1 : (t103 != 0) = false := zz26.mpr c3
  clear c3
  by_cases c4 : t102 = true
  ·
   subst c4
   have H1 : (some (13, 0)) = some (r1, r2) := by rw [if_pos rfl] at H; exact H
   clear H
   have H := H1
   clear H1
   simp only [zz15, zz16] at H
   obtain ⟨rfl, rfl⟩ := H
   go_enter Tryz.func180, Tryz.ntmps180
   go_wp2_with (first|((with_reducible refine zz23 (f:=103) rfl ?_);refine zz25 (some 8) rfl rfl Tryz.func103 (by kernel_rfl) rfl #[.int .i64 a0] rfl (by (try simp only [List.map_toArray,List.map_cons,List.map_nil]);first|done|rfl|(simp only [List.length_drop,List.length_take];rfl)) ?_;(with_reducible refine (cycle_Leap.calls a0 true t103 _ A2.out).mono ?_);rintro e w' ⟨rfl,⟨nd,rfl⟩⟩;refine ⟨_,rfl,?_⟩))
   go_ret2
   exact ⟨by first | rfl | (simp; done) | (simp [*]; done), by repeat (first | exact Drawn0.refl _ | apply Drawn0.step)⟩
  ·
   replace c4 := zz32.mpr c4
   subst c4
   have H1 : (some (12, 0)) = some (r1, r2) := by rw [if_neg (show ¬ (false = true) by decide)] at H; exact H
   clear H
   have H := H1
   clear H1
   simp only [zz15, zz16] at H
   obtain ⟨rfl, rfl⟩ := H
   go_enter Tryz.func180, Tryz.ntmps180
   go_wp2_with (first|((with_reducible refine zz23 (f:=103) rfl ?_);refine zz25 (some 8) rfl rfl Tryz.func103 (by kernel_rfl) rfl #[.int .i64 a0] rfl (by (try simp only [List.map_toArray,List.map_cons,List.map_nil]);first|done|rfl|(simp only [List.length_drop,List.length_take];rfl)) ?_;(with_reducible refine (cycle_Leap.calls a0 false t103 _ A2.out).mono ?_);rintro e w' ⟨rfl,⟨nd,rfl⟩⟩;refine ⟨_,rfl,?_⟩))
   go_ret2
   exact ⟨by first | rfl | (simp; done) | (simp [*]; done), by repeat (first | exact Drawn0.refl _ | apply Drawn0.step)⟩
 ·
  rw [if_neg c3] at H
  have c3b0 : (t103 == 0) = false := zz27.mpr c3
  have c3b1 : (t103 != 0) = true := zz28.mpr c3
  simp only [zz15, zz16] at H
  obtain ⟨rfl, rfl⟩ := H
  go_enter Tryz.func180, Tryz.ntmps180
  go_wp2_with (first|((with_reducible refine zz23 (f:=103) rfl ?_);refine zz25 (some 8) rfl rfl Tryz.func103 (by kernel_rfl) rfl #[.int .i64 a0] rfl (by (try simp only [List.map_toArray,List.map_cons,List.map_nil]);first|done|rfl|(simp only [List.length_drop,List.length_take];rfl)) ?_;(with_reducible refine (cycle_Leap.calls a0 t102 t103 _ A2.out).mono ?_);rintro e w' ⟨rfl,⟨nd,rfl⟩⟩;refine ⟨_,rfl,?_⟩))
  go_ret2
  exact ⟨by first | rfl | (simp; done) | (simp [*]; done), by repeat (first | exact Drawn0.refl _ | apply Drawn0.step)⟩

def exact_both.f (a0 : Int) (a1 : Int) : Option (Int × Int) := if a1 = 0 then (none) else (if (Int.tmod a0 a1) < 0 then (some (wrap64 ((wrap64 (Int.tdiv a0 a1)) - 1), wrap64 ((Int.tmod a0 a1) + a1))) else (some (wrap64 (Int.tdiv a0 a1), Int.tmod a0 a1)))
set_option maxHeartbeats 8000000 in
set_option maxRecDepth 100000 in
theorem exact_both.calls (a0 : Int) (a1 : Int) (r1 : Int) (r2 : Int) (w : World) (h : exact_both.f a0 a1 = some (r1, r2)) :
    Calls Tryz.prog 229 #[.int .i64 a0, .int .i64 a1] w fun e w' => e = .returned (.tuple #[.int .i64 r1, .int .i64 r2]) ∧ Drawn0 w w' := by
  have H : (if a1 = 0 then (none) else (if (Int.tmod a0 a1) < 0 then (some (wrap64 ((wrap64 (Int.tdiv a0 a1)) - 1),wrap64 ((Int.tmod a0 a1) + a1))) else (some (wrap64 (Int.tdiv a0 a1),Int.tmod a0 a1)))) = some (r1,r2):=h
  clear h
  by_cases c3 : a1 = 0
  · rw [if_pos c3] at H
    exact absurd H (by simp)
  · rw [if_neg c3] at H
    have c3b0 : (a1 == 0) = false := zz27.mpr c3
    have c3b1 : (a1 != 0) = true := zz28.mpr c3
    by_cases c4 : (Int.tmod a0 a1) < 0
    · rw [if_pos c4] at H
      have c4b0 : decide ((Int.tmod a0 a1) < 0) = true := decide_eq_true c4
      clear c4
      simp only [zz15, zz16] at H
      obtain ⟨rfl, rfl⟩ := H
      go_enter Tryz.func229, Tryz.ntmps229
      go_wp2
      repeat (go_quiet (fail); try go_wp2)
      go_ret2
      exact ⟨by first | rfl | (simp; done) | (simp [*]; done), by repeat (first | exact Drawn0.refl _ | apply Drawn0.step)⟩
    · rw [if_neg c4] at H
      have c4b0 : decide ((Int.tmod a0 a1) < 0) = false := decide_eq_false c4
      clear c4
      simp only [zz15, zz16] at H
      obtain ⟨rfl, rfl⟩ := H
      go_enter Tryz.func229, Tryz.ntmps229
      go_wp2
      repeat (go_quiet (fail); try go_wp2)
      go_ret2
      exact ⟨by first | rfl | (simp; done) | (simp [*]; done), by repeat (first | exact Drawn0.refl _ | apply Drawn0.step)⟩

def exact_Div.f (a0 : Int) (a1 : Int) : Option (Int × Int) := if a1 < 1 then (some (0, 1)) else ((exact_both.f a0 a1).bind fun bt104 => (some (bt104.1, 0)))
set_option maxHeartbeats 8000000 in
set_option maxRecDepth 100000 in
theorem exact_Div.calls (a0 : Int) (a1 : Int) (r1 : Int) (r2 : Int) (w : World) (h : exact_Div.f a0 a1 = some (r1, r2)) :
  Calls Tryz.prog 217 #[.int .i64 a0, .int .i64 a1] w fun e w' => e = .returned (.tuple #[.int .i64 r1, .int .i64 r2]) ∧ Drawn0 w w' := by
 have H : (if a1 < 1 then (some (0, 1)) else ((exact_both.f a0 a1).bind fun bt104 => (some (bt104.1, 0)))) = some (r1, r2) := h
 clear h
 by_cases c3 : a1 < 1
 ·
  rw [if_pos c3] at H
  have c3b0 : decide (a1 < 1) = true := decide_eq_true c3
  clear c3
  simp only [zz15, zz16] at H
  obtain ⟨rfl, rfl⟩ := H
  go_enter Tryz.func217, Tryz.ntmps217
  go_wp2
  go_ret2
  exact ⟨by first | rfl | (simp; done) | (simp [*]; done), by repeat (first | exact Drawn0.refl _ | apply Drawn0.step)⟩
 ·
  rw [if_neg c3] at H
  have c3b0 : decide (a1 < 1) = false := decide_eq_false c3
  clear c3
  replace H := zz14.mp H
  obtain ⟨⟨t104, t105⟩, A40, H⟩ := H
  replace H : (some (t104, 0)) = some (r1, r2) := H
  have A4 := zz00 A40
  clear A40
  simp only [zz15, zz16] at H
  obtain ⟨rfl, rfl⟩ := H
  go_enter Tryz.func217, Tryz.ntmps217
  go_wp2_with (first|((with_reducible refine zz23 (f:=229) rfl ?_);refine zz25 (some 13) rfl rfl Tryz.func229 (by kernel_rfl) rfl #[.int .i64 a0,.int .i64 a1] rfl (by (try simp only [List.map_toArray,List.map_cons,List.map_nil]);first|done|rfl|(simp only [List.length_drop,List.length_take];rfl)) ?_;(with_reducible refine (exact_both.calls a0 a1 t104 t105 _ A4.out).mono ?_);rintro e w' ⟨rfl,⟨nd,rfl⟩⟩;refine ⟨_,rfl,?_⟩))
  go_ret2
  exact ⟨by first | rfl | (simp; done) | (simp [*]; done), by repeat (first | exact Drawn0.refl _ | apply Drawn0.step)⟩

def cycle_Before.f (a0 : Int) : Option (Int × Int) := (cycle_check.f a0).bind fun t106 => (if t106 = 0 then ((exact_Div.f (wrap64 ((wrap64 (235 * (wrap64 (a0 - 1)))) + 1)) 19).bind fun bt107 => (some (bt107.1, bt107.2))) else (some (0, t106)))
set_option maxHeartbeats 8000000 in
set_option maxRecDepth 100000 in
theorem cycle_Before.calls (a0 : Int) (r1 : Int) (r2 : Int) (w : World) (h : cycle_Before.f a0 = some (r1, r2)) :
  Calls Tryz.prog 181 #[.int .i64 a0] w fun e w' => e = .returned (.tuple #[.int .i64 r1, .int .i64 r2]) ∧ Drawn0 w w' := by
 have H : ((cycle_check.f a0).bind fun t106=>(if t106 = 0 then ((exact_Div.f (wrap64 ((wrap64 (235 * (wrap64 (a0 - 1)))) + 1)) 19).bind fun bt107=>(some (bt107.1,bt107.2))) else (some (0,t106)))) = some (r1,r2):=h
 clear h
 replace H := zz14.mp H
 obtain ⟨t106, A20, H⟩ := H
 replace H : (if t106 = 0 then ((exact_Div.f (wrap64 ((wrap64 (235 * (wrap64 (a0 - 1)))) + 1)) 19).bind fun bt107 => (some (bt107.1, bt107.2))) else (some (0, t106))) = some (r1, r2) := H
 have A2 := zz00 A20
 clear A20
 by_cases c3 : t106 = 0
 ·
  rw [if_pos c3] at H
  have c3b0 : (t106 == 0) = true := zz29.mpr c3
  have c3b1 : (t106 != 0) = false := zz26.mpr c3
  clear c3
  replace H := zz14.mp H
  obtain ⟨⟨t107, t108⟩, A40, H⟩ := H
  replace H : (some (t107, t108)) = some (r1, r2) := H
  have A4 := zz00 A40
  clear A40
  simp only [zz15, zz16] at H
  obtain ⟨rfl, rfl⟩ := H
  go_enter Tryz.func181, Tryz.ntmps181
  go_wp2_with (first|((with_reducible refine zz23 (f:=150) rfl ?_);refine zz25 (some 6) rfl rfl Tryz.func150 (by kernel_rfl) rfl #[.int .i64 a0] rfl (by (try simp only [List.map_toArray,List.map_cons,List.map_nil]);first|done|rfl|(simp only [List.length_drop,List.length_take];rfl)) ?_;(with_reducible refine (cycle_check.calls a0 t106 _ A2.out).mono ?_);rintro e w' ⟨rfl,⟨nd,rfl⟩⟩;refine ⟨_,rfl,?_⟩)|((with_reducible refine zz23 (f:=217) rfl ?_);refine zz25 (some 14) rfl rfl Tryz.func217 (by kernel_rfl) rfl #[.int .i64 (wrap64 ((wrap64 (235 * (wrap64 (a0 - 1)))) + 1)),.int .i64 19] rfl (by (try simp only [List.map_toArray,List.map_cons,List.map_nil]);first|done|rfl|(simp only [List.length_drop,List.length_take];rfl)) ?_;(with_reducible refine (exact_Div.calls (wrap64 ((wrap64 (235 * (wrap64 (a0 - 1)))) + 1)) 19 t107 t108 _ A4.out).mono ?_);rintro e w' ⟨rfl,⟨nd,rfl⟩⟩;refine ⟨_,rfl,?_⟩))
  go_ret2
  exact ⟨by first | rfl | (simp; done) | (simp [*]; done), by repeat (first | exact Drawn0.refl _ | apply Drawn0.step)⟩
 ·
  rw [if_neg c3] at H
  have c3b0 : (t106 == 0) = false := zz27.mpr c3
  have c3b1 : (t106 != 0) = true := zz28.mpr c3
  simp only [zz15, zz16] at H
  obtain ⟨rfl, rfl⟩ := H
  go_enter Tryz.func181, Tryz.ntmps181
  go_wp2_with (first|((with_reducible refine zz23 (f:=150) rfl ?_);refine zz25 (some 6) rfl rfl Tryz.func150 (by kernel_rfl) rfl #[.int .i64 a0] rfl (by (try simp only [List.map_toArray,List.map_cons,List.map_nil]);first|done|rfl|(simp only [List.length_drop,List.length_take];rfl)) ?_;(with_reducible refine (cycle_check.calls a0 t106 _ A2.out).mono ?_);rintro e w' ⟨rfl,⟨nd,rfl⟩⟩;refine ⟨_,rfl,?_⟩))
  go_ret2
  exact ⟨by first | rfl | (simp; done) | (simp [*]; done), by repeat (first | exact Drawn0.refl _ | apply Drawn0.step)⟩

def halak_Moons.f (a0 : Int) : Option (Int × Int) := (exact_Mul.f a0 765433).bind fun bt109 => (some (bt109.1, bt109.2))
set_option maxHeartbeats 8000000 in
set_option maxRecDepth 100000 in
theorem halak_Moons.calls (a0 : Int) (r1 : Int) (r2 : Int) (w : World) (h : halak_Moons.f a0 = some (r1, r2)) :
  Calls Tryz.prog 230 #[.int .i64 a0] w fun e w' => e = .returned (.tuple #[.int .i64 r1, .int .i64 r2]) ∧ Drawn0 w w' := by
 have H : ((exact_Mul.f a0 765433).bind fun bt109 => (some (bt109.1, bt109.2))) = some (r1, r2) := h
 clear h
 replace H := zz14.mp H
 obtain ⟨⟨t109, t110⟩, A20, H⟩ := H
 replace H : (some (t109, t110)) = some (r1, r2) := H
 have A2 := zz00 A20
 clear A20
 simp only [zz15, zz16] at H
 obtain ⟨rfl, rfl⟩ := H
 go_enter Tryz.func230, Tryz.ntmps230
 go_wp2_with (first|((with_reducible refine zz23 (f:=259) rfl ?_);refine zz25 (some 5) rfl rfl Tryz.func259 (by kernel_rfl) rfl #[.int .i64 a0,.int .i64 765433] rfl (by (try simp only [List.map_toArray,List.map_cons,List.map_nil]);first|done|rfl|(simp only [List.length_drop,List.length_take];rfl)) ?_;(with_reducible refine (exact_Mul.calls a0 765433 t109 t110 _ A2.out).mono ?_);rintro e w' ⟨rfl,⟨nd,rfl⟩⟩;refine ⟨_,rfl,?_⟩))
 go_ret2
 exact ⟨by first | rfl | (simp; done) | (simp [*]; done), by repeat (first | exact Drawn0.refl _ | apply Drawn0.step)⟩

def exact_Mod.f (a0 : Int) (a1 : Int) : Option (Int × Int) := if a1 < 1 then (some (0, 1)) else ((exact_both.f a0 a1).bind fun bt111 => (some (bt111.2, 0)))
set_option maxHeartbeats 8000000 in
set_option maxRecDepth 100000 in
theorem exact_Mod.calls (a0 : Int) (a1 : Int) (r1 : Int) (r2 : Int) (w : World) (h : exact_Mod.f a0 a1 = some (r1, r2)) :
  Calls Tryz.prog 179 #[.int .i64 a0, .int .i64 a1] w fun e w' => e = .returned (.tuple #[.int .i64 r1, .int .i64 r2]) ∧ Drawn0 w w' := by
 have H : (if a1 < 1 then (some (0, 1)) else ((exact_both.f a0 a1).bind fun bt111 => (some (bt111.2, 0)))) = some (r1, r2) := h
 clear h
 by_cases c3 : a1 < 1
 ·
  rw [if_pos c3] at H
  have c3b0 : decide (a1 < 1) = true := decide_eq_true c3
  clear c3
  simp only [zz15, zz16] at H
  obtain ⟨rfl, rfl⟩ := H
  go_enter Tryz.func179, Tryz.ntmps179
  go_wp2
  go_ret2
  exact ⟨by first | rfl | (simp; done) | (simp [*]; done), by repeat (first | exact Drawn0.refl _ | apply Drawn0.step)⟩
 ·
  rw [if_neg c3] at H
  have c3b0 : decide (a1 < 1) = false := decide_eq_false c3
  clear c3
  replace H := zz14.mp H
  obtain ⟨⟨t111, t112⟩, A40, H⟩ := H
  replace H : (some (t112, 0)) = some (r1, r2) := H
  have A4 := zz00 A40
  clear A40
  simp only [zz15, zz16] at H
  obtain ⟨rfl, rfl⟩ := H
  go_enter Tryz.func179, Tryz.ntmps179
  go_wp2_with (first|((with_reducible refine zz23 (f:=229) rfl ?_);refine zz25 (some 13) rfl rfl Tryz.func229 (by kernel_rfl) rfl #[.int .i64 a0,.int .i64 a1] rfl (by (try simp only [List.map_toArray,List.map_cons,List.map_nil]);first|done|rfl|(simp only [List.length_drop,List.length_take];rfl)) ?_;(with_reducible refine (exact_both.calls a0 a1 t111 t112 _ A4.out).mono ?_);rintro e w' ⟨rfl,⟨nd,rfl⟩⟩;refine ⟨_,rfl,?_⟩))
  go_ret2
  exact ⟨by first | rfl | (simp; done) | (simp [*]; done), by repeat (first | exact Drawn0.refl _ | apply Drawn0.step)⟩

def halak_Split.f (a0 : Int) : Option (Int × Int) := (exact_Div.f a0 25920).bind fun bt114 => ((exact_Mod.f a0 25920).bind fun bt116 => (some (bt114.1, bt116.1)))
set_option maxHeartbeats 8000000 in
set_option maxRecDepth 100000 in
theorem halak_Split.calls (a0 : Int) (r1 : Int) (r2 : Int) (w : World) (h : halak_Split.f a0 = some (r1, r2)) :
  Calls Tryz.prog 231 #[.int .i64 a0] w fun e w' => e = .returned (.agg #[.int .i64 r1, .int .i64 r2]) ∧ Below w.heap.size w w' := by
 have hu147 := Tryz.underlying147
 have HB := zz00 (Below.refl w.heap.size w)
 have H : ((exact_Div.f a0 25920).bind fun bt114 => ((exact_Mod.f a0 25920).bind fun bt116 => (some (bt114.1, bt116.1)))) = some (r1, r2) := h
 clear h
 replace H := zz14.mp H
 obtain ⟨⟨t114, t115⟩, A20, H⟩ := H
 replace H : ((exact_Mod.f a0 25920).bind fun bt116 => (some (t114, bt116.1))) = some (r1, r2) := H
 have A2 := zz00 A20
 clear A20
 replace H := zz14.mp H
 obtain ⟨⟨t116, t117⟩, A30, H⟩ := H
 replace H : (some (t114, t116)) = some (r1, r2) := H
 have A3 := zz00 A30
 clear A30
 simp only [zz15, zz16] at H
 obtain ⟨rfl, rfl⟩ := H
 go_enter Tryz.func231, Tryz.ntmps231
 go_wp2_with (first|((with_reducible refine zz24 (N:=2) rfl ?_);refine zz30 ?hg (N:=2) ?hd (cs:=#[.int .i64 0,.int .i64 0]) (t:=147) ?hr ?_;(case hd=>rfl);(case hg=>rfl);(case hr=>first|(go_simp;done)|(go_simp;rfl));intro gb113 hg w4 hbox hb;have n0_:=zz00 (zz21 (by repeat (first|(with_reducible first|exact HB.out|apply zz03|apply zz01|apply zz02)|exact HB.out)) hb);have n1_:=zz00 (hbox);have n2_:=zz00 ((by rw [hg];exact (zz22 (by repeat (first|(with_reducible first|exact HB.out|apply zz03|apply zz01|apply zz02)|exact HB.out))) : w.heap.size ≤ gb113));have n3_:=zz00 ((by rw [hg];exact (zz22 (by repeat (first|(with_reducible first|exact HB.out|apply zz03|apply zz01|apply zz02)|exact HB.out))) : w.heap.size ≤ gb113));clear HB;have HB:=n0_;have BK113:=n1_;have GW113:=n2_;have GE113:=n3_;clear n0_ n1_ n2_ n3_;clear hb hbox hg)|((with_reducible refine zz23 (f:=217) rfl ?_);refine zz25 (some 9) rfl rfl Tryz.func217 (by kernel_rfl) rfl #[.int .i64 a0,.int .i64 25920] rfl (by (try simp only [List.map_toArray,List.map_cons,List.map_nil]);first|done|rfl|(simp only [List.length_drop,List.length_take];rfl)) ?_;(with_reducible refine (exact_Div.calls a0 25920 t114 t115 _ A2.out).mono ?_);rintro e w' ⟨rfl,⟨nd,rfl⟩⟩;refine ⟨_,rfl,?_⟩;(try (rw [drewN_self w4];generalize hq_ : World.drewN w4 _ = w4;have n0_ : Aside0 (w4.heap[gb113]? = some (.cells #[.int .i64 0,.int .i64 0] 147 (0,0))):=⟨by rw [← hq_];exact (by (with_reducible repeat (first|refine zz07 ?_ _|refine zz09 ?_|refine zz08 ?_ _));exact BK113.out)⟩;have n1_ : Aside0 (Below w.heap.size w w4):=⟨by rw [← hq_];exact (by repeat (first|(with_reducible first|exact HB.out|apply zz03|apply zz01|apply zz02|refine zz10 ?_ GE113.out)|exact HB.out))⟩;clear BK113 HB hq_;have BK113:=n0_;have HB:=n1_;clear n0_ n1_)))|((with_reducible refine zz23 (f:=179) rfl ?_);refine zz25 (some 14) rfl rfl Tryz.func179 (by kernel_rfl) rfl #[.int .i64 a0,.int .i64 25920] rfl (by (try simp only [List.map_toArray,List.map_cons,List.map_nil]);first|done|rfl|(simp only [List.length_drop,List.length_take];rfl)) ?_;(with_reducible refine (exact_Mod.calls a0 25920 t116 t117 _ A3.out).mono ?_);rintro e w' ⟨rfl,⟨nd,rfl⟩⟩;refine ⟨_,rfl,?_⟩;(try (rw [drewN_self w4];generalize hq_ : World.drewN w4 _ = w4;have n0_ : Aside0 (w4.heap[gb113]? = some (.cells #[.int .i64 0,.int .i64 0] 147 (0,0))):=⟨by rw [← hq_];exact (by (with_reducible repeat (first|refine zz07 ?_ _|refine zz09 ?_|refine zz08 ?_ _));exact BK113.out)⟩;have n1_ : Aside0 (Below w.heap.size w w4):=⟨by rw [← hq_];exact (by repeat (first|(with_reducible first|exact HB.out|apply zz03|apply zz01|apply zz02|refine zz10 ?_ GE113.out)|exact HB.out))⟩;clear BK113 HB hq_;have BK113:=n0_;have HB:=n1_;clear n0_ n1_));have hcz5_0 : w4.cell? ⟨gb113,0,none⟩ = some (.int .i64 0):=(zz18 BK113.out 0).trans rfl;have hcz5_1 : w4.cell? ⟨gb113,1,none⟩ = some (.int .i64 0):=(zz18 BK113.out 1).trans rfl;have hfz5_0:=zz17 BK113.out 0;have hfz5_1:=zz17 BK113.out 1))
 refine bodyPost_ret (results_cell_row rfl _ _ gb113 147 #[.int .i64 t114,.int .i64 t116] (0,0) _ rfl (by (with_reducible repeat (first|refine zz07 ?_ _|refine zz09 ?_|refine zz08 ?_ _));refine zz35 (cs:=#[.int .i64 t114,.int .i64 0]) ?_ 1 _ rfl;(with_reducible repeat (first|refine zz07 ?_ _|refine zz09 ?_|refine zz08 ?_ _));refine zz35 (cs:=#[.int .i64 0,.int .i64 0]) ?_ 0 _ rfl;(with_reducible repeat (first|refine zz07 ?_ _|refine zz09 ?_|refine zz08 ?_ _));exact BK113.out) Tryz.underlying147 rfl (by kernel_rfl)) rfl ?_
 exact ⟨by first|rfl|(simp [errW_none,errW_some] <;> rfl)|(simp [*,errW_none,errW_some] <;> rfl),by repeat (first|(with_reducible first|exact HB.out|apply zz03|apply zz01|apply zz02|refine zz10 ?_ GE113.out)|exact HB.out)⟩

def molad_Moon.j0 : Nat → Int → Bool → Option (Int × Int × Int)
  | 0, _, _ => none
  | k + 1, x0, x12 => if x12 = true then (some (0, 0, 2)) else ((halak_Moons.f x0).bind fun bt119 => (if bt119.2 = 0 then ((halak_Split.f (wrap64 (bt119.1 + 5604))).bind fun bt121 => (some (wrap64 (bt121.1 + (-1373427)), bt121.2, 0))) else (some (0, 0, bt119.2))))
def molad_Moon.f (k : Nat) (a0 : Int) : Option (Int × Int × Int) := if a0 < (-200000) then (molad_Moon.j0 k a0 true) else (molad_Moon.j0 k a0 (decide (a0 > 200000)))
set_option maxHeartbeats 8000000 in
set_option maxRecDepth 100000 in
theorem molad_Moon.calls (k : Nat) (a0 : Int) (r1 : Int) (r2 : Int) (r3 : Int) (w : World) (h : molad_Moon.f k a0 = some (r1, r2, r3)) :
  Calls Tryz.prog 182 #[.int .i64 a0] w fun e w' => e = .returned (.tuple #[.agg #[.int .i64 r1, .int .i64 r2], .int .i64 r3]) ∧ Below w.heap.size w w' := by
 have hu147 := Tryz.underlying147
 have HB := zz00 (Below.refl w.heap.size w)
 have H : (if a0 < (-200000) then (molad_Moon.j0 k a0 true) else (molad_Moon.j0 k a0 (decide (a0 > 200000)))) = some (r1, r2, r3) := h
 clear h
 have HC2 := zz00 H
 clear H
 go_enter Tryz.func182, Tryz.ntmps182
 go_upto_region 1 with (first|((with_reducible refine zz24 (N:=2) rfl ?_);refine zz30 ?hg (N:=2) ?hd (cs:=#[.int .i64 0,.int .i64 0]) (t:=147) ?hr ?_;(case hd=>rfl);(case hg=>rfl);(case hr=>first|(go_simp;done)|(go_simp;rfl));intro gb118 hg w3 hbox hb;have n0_:=zz00 (zz21 (by repeat (first|(with_reducible first|exact HB.out|apply zz03|apply zz01|apply zz02)|exact HB.out)) hb);have n1_:=zz00 (hbox);have n2_:=zz00 ((by rw [hg];exact (zz22 (by repeat (first|(with_reducible first|exact HB.out|apply zz03|apply zz01|apply zz02)|exact HB.out))) : w.heap.size ≤ gb118));have n3_:=zz00 ((by rw [hg];exact (zz22 (by repeat (first|(with_reducible first|exact HB.out|apply zz03|apply zz01|apply zz02)|exact HB.out))) : w.heap.size ≤ gb118));clear HB;have HB:=n0_;have BK118:=n1_;have GW118:=n2_;have GE118:=n3_;clear n0_ n1_ n2_ n3_;clear hb hbox hg))
 (try simp only [Act.put, zz11, zz12, zz13])
 go_cut [12] (fun v12 wc=>∃ (kq : Nat) (x12_1 : Bool),v12 = .bool x12_1 ∧ Aside0 (molad_Moon.j0 kq a0 x12_1 = some (r1,r2,r3)) ∧ Aside0 (kq ≤ k) ∧ Aside0 (wc.heap[gb118]? = some (.cells #[.int .i64 0,.int .i64 0] 147 (0,0))) ∧ Aside0 (Below w.heap.size w wc))
 case first =>
  have H := HC2.out
  clear HC2
  by_cases c4 : a0 < (-200000)
  ·
   rw [if_pos c4] at H
   have c4b0 : decide (a0 < (-200000)) = true := decide_eq_true c4
   clear c4
   (first | rw [c4b0] | (simp only [i64_w, i32_w]; rw [c4b0]) | skip)
   have H' := zz00 H
   clear H
   go_wp2
   go_meet
   case rel=>exact ⟨_,(true),(by first|rfl|(simp;done)|(simp [*];done)),H',⟨by first|omega|exact Nat.le_refl _⟩,⟨by (with_reducible repeat (first|refine zz07 ?_ _|refine zz09 ?_|refine zz08 ?_ _));exact BK118.out⟩,⟨by repeat (first|(with_reducible first|exact HB.out|apply zz03|apply zz01|apply zz02|refine zz10 ?_ GE118.out)|exact HB.out)⟩⟩
  ·
   rw [if_neg c4] at H
   have c4b0 : decide (a0 < (-200000)) = false := decide_eq_false c4
   clear c4
   (first | rw [c4b0] | (simp only [i64_w, i32_w]; rw [c4b0]) | skip)
   have H' := zz00 H
   clear H
   go_wp2
   go_meet
   case rel=>exact ⟨_,(decide (a0 > 200000)),(by first|rfl|(simp;done)|(simp [*];done)),H',⟨by first|omega|exact Nat.le_refl _⟩,⟨by (with_reducible repeat (first|refine zz07 ?_ _|refine zz09 ?_|refine zz08 ?_ _));exact BK118.out⟩,⟨by repeat (first|(with_reducible first|exact HB.out|apply zz03|apply zz01|apply zz02|refine zz10 ?_ GE118.out)|exact HB.out)⟩⟩
 case rest =>
  clear HC2
  try clear c1
  try clear p2
  try clear c4
  try clear c4b0
  obtain ⟨kq, x12_1, rfl, HA, HJ1, BK118, HB⟩ := hcut
  cases kq with
  | zero => exact absurd HA.out (by simp [molad_Moon.j0])
  | succ kj1 =>
   have H := HA.out
   clear HA
   simp only [molad_Moon.j0] at H
   by_cases c5 : x12_1 = true
   ·
    subst c5
    have H1 : (some (0, 0, 2)) = some (r1, r2, r3) := by rw [if_pos rfl] at H; exact H
    clear H
    have H := H1
    clear H1
    simp only [zz15, zz16] at H
    obtain ⟨rfl, rfl, rfl⟩ := H
    have hcz6_0 : wc.cell? ⟨gb118, 0, none⟩ = some (.int .i64 0) := (zz18 BK118.out 0).trans rfl
    have hcz6_1 : wc.cell? ⟨gb118, 1, none⟩ = some (.int .i64 0) := (zz18 BK118.out 1).trans rfl
    have hfz6_0 := zz17 BK118.out 0
    have hfz6_1 := zz17 BK118.out 1
    go_wp2
    refine bodyPost_ret (results_ct rfl _ _ gb118 147 #[.int .i64 0,.int .i64 0] (0,0) _ rfl (by (with_reducible repeat (first|refine zz07 ?_ _|refine zz09 ?_|refine zz08 ?_ _));refine zz35 (cs:=#[.int .i64 0,.int .i64 0]) ?_ 1 _ rfl;(with_reducible repeat (first|refine zz07 ?_ _|refine zz09 ?_|refine zz08 ?_ _));refine zz35 (cs:=#[.int .i64 0,.int .i64 0]) ?_ 0 _ rfl;(with_reducible repeat (first|refine zz07 ?_ _|refine zz09 ?_|refine zz08 ?_ _));exact BK118.out) Tryz.underlying147 rfl (by kernel_rfl)) rfl ?_
    exact ⟨by first|rfl|(simp [errW_none,errW_some] <;> rfl)|(simp [*,errW_none,errW_some] <;> rfl),by repeat (first|(with_reducible first|exact HB.out|apply zz03|apply zz01|apply zz02|refine zz10 ?_ GE118.out)|exact HB.out)⟩
   ·
    replace c5 := zz32.mpr c5
    subst c5
    have H1 : ((halak_Moons.f a0).bind fun bt119=>(if bt119.2 = 0 then ((halak_Split.f (wrap64 (bt119.1 + 5604))).bind fun bt121=>(some (wrap64 (bt121.1 + (-1373427)),bt121.2,0))) else (some (0,0,bt119.2)))) = some (r1,r2,r3):=by rw [if_neg (show ¬ (false = true) by decide)] at H;exact H
    clear H
    have H := H1
    clear H1
    replace H := zz14.mp H
    obtain ⟨⟨t119, t120⟩, A70, H⟩ := H
    replace H : (if t120 = 0 then ((halak_Split.f (wrap64 (t119 + 5604))).bind fun bt121 => (some (wrap64 (bt121.1 + (-1373427)), bt121.2, 0))) else (some (0, 0, t120))) = some (r1, r2, r3) := H
    have A7 := zz00 A70
    clear A70
    by_cases c8 : t120 = 0
    ·
     rw [if_pos c8] at H
     have c8b0 : (t120 == 0) = true := zz29.mpr c8
     have c8b1 : (t120 != 0) = false := zz26.mpr c8
     clear c8
     replace H := zz14.mp H
     obtain ⟨⟨t121, t122⟩, A90, H⟩ := H
     replace H : (some (wrap64 (t121 + (-1373427)), t122, 0)) = some (r1, r2, r3) := H
     have A9 := zz00 A90
     clear A90
     simp only [zz15, zz16] at H
     obtain ⟨rfl, rfl, rfl⟩ := H
     go_wp2_with (first|((with_reducible refine zz23 (f:=230) rfl ?_);refine zz25 (some 16) rfl rfl Tryz.func230 (by kernel_rfl) rfl #[.int .i64 a0] rfl (by (try simp only [List.map_toArray,List.map_cons,List.map_nil]);first|done|rfl|(simp only [List.length_drop,List.length_take];rfl)) ?_;(with_reducible refine (halak_Moons.calls a0 t119 t120 _ A7.out).mono ?_);rintro e w' ⟨rfl,⟨nd,rfl⟩⟩;refine ⟨_,rfl,?_⟩;(try (rw [drewN_self wc];generalize hq_ : World.drewN wc _ = wc;have n0_ : Aside0 (wc.heap[gb118]? = some (.cells #[.int .i64 0,.int .i64 0] 147 (0,0))):=⟨by rw [← hq_];exact (by (with_reducible repeat (first|refine zz07 ?_ _|refine zz09 ?_|refine zz08 ?_ _));exact BK118.out)⟩;have n1_ : Aside0 (Below w.heap.size w wc):=⟨by rw [← hq_];exact (by repeat (first|(with_reducible first|exact HB.out|apply zz03|apply zz01|apply zz02|refine zz10 ?_ GE118.out)|exact HB.out))⟩;clear BK118 HB hq_;have BK118:=n0_;have HB:=n1_;clear n0_ n1_)))|((with_reducible refine zz23 (f:=231) rfl ?_);refine zz25 (some 25) rfl rfl Tryz.func231 (by kernel_rfl) rfl #[.int .i64 (wrap64 (t119 + 5604))] rfl (by (try simp only [List.map_toArray,List.map_cons,List.map_nil]);first|done|rfl|(simp only [List.length_drop,List.length_take];rfl)) ?_;(with_reducible refine (halak_Split.calls (wrap64 (t119 + 5604)) t121 t122 _ A9.out).mono ?_);rintro e w10 ⟨rfl,hb⟩;refine ⟨_,rfl,?_⟩;have n0_:=zz00 (zz34 (g:=gb118) (o:=.cells #[.int .i64 0,.int .i64 0] 147 (0,0)) (by (with_reducible repeat (first|refine zz07 ?_ _|refine zz09 ?_|refine zz08 ?_ _));exact BK118.out) hb);have n1_:=zz00 (zz21 (by repeat (first|(with_reducible first|exact HB.out|apply zz03|apply zz01|apply zz02|refine zz10 ?_ GE118.out)|exact HB.out)) hb);clear BK118;clear HB;have BK118:=n0_;have HB:=n1_;clear n0_ n1_;(try clear hb);(try clear hb2);(try clear hk);(try clear hi))|((with_reducible refine zz24 (N:=6) rfl ?_);refine zz30 ?hg (N:=6) ?hd (cs:=#[.int .i64 0,.int .i64 0]) (t:=147) ?hr ?_;(case hd=>rfl);(case hg=>rfl);(case hr=>first|(go_simp;done)|(go_simp;rfl));intro gb123 hg w11 hbox hb;have n0_:=zz00 (zz34 (g:=gb118) (o:=.cells #[.int .i64 0,.int .i64 0] 147 (0,0)) (by (with_reducible repeat (first|refine zz07 ?_ _|refine zz09 ?_|refine zz08 ?_ _));exact BK118.out) hb);have n1_:=zz00 (zz21 (by repeat (first|(with_reducible first|exact HB.out|apply zz03|apply zz01|apply zz02|refine zz10 ?_ GE118.out)|exact HB.out)) hb);have n2_:=zz00 (hbox);have n3_:=zz00 ((by rw [hg];exact (zz22 (by repeat (first|(with_reducible first|exact HB.out|apply zz03|apply zz01|apply zz02|refine zz10 ?_ GE118.out)|exact HB.out))) : w.heap.size ≤ gb123));have n4_:=zz00 ((by rw [hg];exact (zz22 (by repeat (first|(with_reducible first|exact HB.out|apply zz03|apply zz01|apply zz02|refine zz10 ?_ GE118.out)|exact HB.out))) : w.heap.size ≤ gb123));have n5_:=zz00 ((by rw [hg];exact Nat.ne_of_lt (blk_lt (g:=gb118) (o:=.cells #[.int .i64 0,.int .i64 0] 147 (0,0)) (by (with_reducible repeat (first|refine zz07 ?_ _|refine zz09 ?_|refine zz08 ?_ _));exact BK118.out)) : gb118 ≠ gb123));have n6_:=zz00 ((by rw [hg];exact Nat.ne_of_gt (blk_lt (g:=gb118) (o:=.cells #[.int .i64 0,.int .i64 0] 147 (0,0)) (by (with_reducible repeat (first|refine zz07 ?_ _|refine zz09 ?_|refine zz08 ?_ _));exact BK118.out)) : gb123 ≠ gb118));clear BK118;clear HB;have BK118:=n0_;have HB:=n1_;have BK123:=n2_;have GW123:=n3_;have GE123:=n4_;have NB118_123:=n5_;have NB123_118:=n6_;clear n0_ n1_ n2_ n3_ n4_ n5_ n6_;clear hb hbox hg;have hnb12:=NB123_118.out;have hnc12:=NB118_123.out;have hcz13_0 : w11.cell? ⟨gb123,0,none⟩ = some (.int .i64 0):=(zz18 BK123.out 0).trans rfl;have hcz13_1 : w11.cell? ⟨gb123,1,none⟩ = some (.int .i64 0):=(zz18 BK123.out 1).trans rfl;have hfz13_0:=zz17 BK123.out 0;have hfz13_1:=zz17 BK123.out 1;have hcz14_0 : w11.cell? ⟨gb118,0,none⟩ = some (.int .i64 0):=(zz18 BK118.out 0).trans rfl;have hcz14_1 : w11.cell? ⟨gb118,1,none⟩ = some (.int .i64 0):=(zz18 BK118.out 1).trans rfl;have hfz14_0:=zz17 BK118.out 0;have hfz14_1:=zz17 BK118.out 1))
     refine bodyPost_ret (results_ct rfl _ _ gb118 147 #[.int .i64 (wrap64 (t121 + (-1373427))),.int .i64 t122] (0,0) _ rfl (by (with_reducible repeat (first|refine zz07 ?_ _|refine zz09 ?_|refine zz08 ?_ _));refine zz35 (cs:=#[.int .i64 (wrap64 (t121 + (-1373427))),.int .i64 0]) ?_ 1 _ rfl;(with_reducible repeat (first|refine zz07 ?_ _|refine zz09 ?_|refine zz08 ?_ _));refine zz35 (cs:=#[.int .i64 0,.int .i64 0]) ?_ 0 _ rfl;(with_reducible repeat (first|refine zz07 ?_ _|refine zz09 ?_|refine zz08 ?_ _));refine zz33 ?_ NB118_123.out _;(with_reducible repeat (first|refine zz07 ?_ _|refine zz09 ?_|refine zz08 ?_ _));refine zz33 ?_ NB118_123.out _;(with_reducible repeat (first|refine zz07 ?_ _|refine zz09 ?_|refine zz08 ?_ _));refine zz33 ?_ NB118_123.out _;(with_reducible repeat (first|refine zz07 ?_ _|refine zz09 ?_|refine zz08 ?_ _));exact BK118.out) Tryz.underlying147 rfl (by kernel_rfl)) rfl ?_
     exact ⟨by first|rfl|(simp [errW_none,errW_some] <;> rfl)|(simp [*,errW_none,errW_some] <;> rfl),by repeat (first|(with_reducible first|exact HB.out|apply zz03|apply zz01|apply zz02|refine zz10 ?_ GE118.out|refine zz10 ?_ GE123.out)|exact HB.out)⟩
    ·
     rw [if_neg c8] at H
     have c8b0 : (t120 == 0) = false := zz27.mpr c8
     have c8b1 : (t120 != 0) = true := zz28.mpr c8
     simp only [zz15, zz16] at H
     obtain ⟨rfl, rfl, rfl⟩ := H
     go_wp2_with (first|((with_reducible refine zz23 (f:=230) rfl ?_);refine zz25 (some 16) rfl rfl Tryz.func230 (by kernel_rfl) rfl #[.int .i64 a0] rfl (by (try simp only [List.map_toArray,List.map_cons,List.map_nil]);first|done|rfl|(simp only [List.length_drop,List.length_take];rfl)) ?_;(with_reducible refine (halak_Moons.calls a0 t119 t120 _ A7.out).mono ?_);rintro e w' ⟨rfl,⟨nd,rfl⟩⟩;refine ⟨_,rfl,?_⟩;(try (rw [drewN_self wc];generalize hq_ : World.drewN wc _ = wc;have n0_ : Aside0 (wc.heap[gb118]? = some (.cells #[.int .i64 0,.int .i64 0] 147 (0,0))):=⟨by rw [← hq_];exact (by (with_reducible repeat (first|refine zz07 ?_ _|refine zz09 ?_|refine zz08 ?_ _));exact BK118.out)⟩;have n1_ : Aside0 (Below w.heap.size w wc):=⟨by rw [← hq_];exact (by repeat (first|(with_reducible first|exact HB.out|apply zz03|apply zz01|apply zz02|refine zz10 ?_ GE118.out)|exact HB.out))⟩;clear BK118 HB hq_;have BK118:=n0_;have HB:=n1_;clear n0_ n1_));have hcz15_0 : wc.cell? ⟨gb118,0,none⟩ = some (.int .i64 0):=(zz18 BK118.out 0).trans rfl;have hcz15_1 : wc.cell? ⟨gb118,1,none⟩ = some (.int .i64 0):=(zz18 BK118.out 1).trans rfl;have hfz15_0:=zz17 BK118.out 0;have hfz15_1:=zz17 BK118.out 1))
     refine bodyPost_ret (results_ct rfl _ _ gb118 147 #[.int .i64 0,.int .i64 0] (0,0) _ rfl (by (with_reducible repeat (first|refine zz07 ?_ _|refine zz09 ?_|refine zz08 ?_ _));refine zz35 (cs:=#[.int .i64 0,.int .i64 0]) ?_ 1 _ rfl;(with_reducible repeat (first|refine zz07 ?_ _|refine zz09 ?_|refine zz08 ?_ _));refine zz35 (cs:=#[.int .i64 0,.int .i64 0]) ?_ 0 _ rfl;(with_reducible repeat (first|refine zz07 ?_ _|refine zz09 ?_|refine zz08 ?_ _));exact BK118.out) Tryz.underlying147 rfl (by kernel_rfl)) rfl ?_
     exact ⟨by first|rfl|(simp [errW_none,errW_some] <;> rfl)|(simp [*,errW_none,errW_some] <;> rfl),by repeat (first|(with_reducible first|exact HB.out|apply zz03|apply zz01|apply zz02|refine zz10 ?_ GE118.out)|exact HB.out)⟩

def molad_Of.j0 : Nat → Int → Int → Bool → Option (Int × Int × Int)
  | 0, _, _, _ => none
  | k + 1, x0, x1, x24 => if x24 = true then (some (0, 0, 3)) else ((cycle_Before.f x0).bind fun bt127 => (if bt127.2 = 0 then ((molad_Moon.f k (wrap64 ((wrap64 (bt127.1 + x1)) - 1))).bind fun bt129 => (some (bt129.1, bt129.2.1, bt129.2.2))) else (some (0, 0, bt127.2))))
def molad_Of.f (k : Nat) (a0 : Int) (a1 : Int) : Option (Int × Int × Int) := (cycle_In.f a0).bind fun bt125 => (if bt125.2 = 0 then (if a1 < 1 then (molad_Of.j0 k a0 a1 true) else (molad_Of.j0 k a0 a1 (decide (a1 > bt125.1)))) else (some (0, 0, bt125.2)))
set_option maxHeartbeats 8000000 in
set_option maxRecDepth 100000 in
theorem molad_Of.calls (k : Nat) (a0 : Int) (a1 : Int) (r1 : Int) (r2 : Int) (r3 : Int) (w : World) (h : molad_Of.f k a0 a1 = some (r1, r2, r3)) :
  Calls Tryz.prog 131 #[.int .i64 a0, .int .i64 a1] w fun e w' => e = .returned (.tuple #[.agg #[.int .i64 r1, .int .i64 r2], .int .i64 r3]) ∧ Below w.heap.size w w' := by
 have hu147 := Tryz.underlying147
 have HB := zz00 (Below.refl w.heap.size w)
 have H : ((cycle_In.f a0).bind fun bt125=>(if bt125.2 = 0 then (if a1 < 1 then (molad_Of.j0 k a0 a1 true) else (molad_Of.j0 k a0 a1 (decide (a1 > bt125.1)))) else (some (0,0,bt125.2)))) = some (r1,r2,r3):=h
 clear h
 replace H := zz14.mp H
 obtain ⟨⟨t125, t126⟩, A30, H⟩ := H
 replace H : (if t126 = 0 then (if a1 < 1 then (molad_Of.j0 k a0 a1 true) else (molad_Of.j0 k a0 a1 (decide (a1 > t125)))) else (some (0, 0, t126))) = some (r1, r2, r3) := H
 have A3 := zz00 A30
 clear A30
 by_cases c4 : t126 = 0
 ·
  rw [if_pos c4] at H
  have c4b0 : (t126 == 0) = true := zz29.mpr c4
  have c4b1 : (t126 != 0) = false := zz26.mpr c4
  clear c4
  have HC5 := zz00 H
  clear H
  go_enter Tryz.func131, Tryz.ntmps131
  go_upto_region 4 with (first|((with_reducible refine zz24 (N:=4) rfl ?_);refine zz30 ?hg (N:=4) ?hd (cs:=#[.int .i64 0,.int .i64 0]) (t:=147) ?hr ?_;(case hd=>rfl);(case hg=>rfl);(case hr=>first|(go_simp;done)|(go_simp;rfl));intro gb124 hg w6 hbox hb;have n0_:=zz00 (zz21 (by repeat (first|(with_reducible first|exact HB.out|apply zz03|apply zz01|apply zz02)|exact HB.out)) hb);have n1_:=zz00 (hbox);have n2_:=zz00 ((by rw [hg];exact (zz22 (by repeat (first|(with_reducible first|exact HB.out|apply zz03|apply zz01|apply zz02)|exact HB.out))) : w.heap.size ≤ gb124));have n3_:=zz00 ((by rw [hg];exact (zz22 (by repeat (first|(with_reducible first|exact HB.out|apply zz03|apply zz01|apply zz02)|exact HB.out))) : w.heap.size ≤ gb124));clear HB;have HB:=n0_;have BK124:=n1_;have GW124:=n2_;have GE124:=n3_;clear n0_ n1_ n2_ n3_;clear hb hbox hg)|((with_reducible refine zz23 (f:=180) rfl ?_);refine zz25 (some 11) rfl rfl Tryz.func180 (by kernel_rfl) rfl #[.int .i64 a0] rfl (by (try simp only [List.map_toArray,List.map_cons,List.map_nil]);first|done|rfl|(simp only [List.length_drop,List.length_take];rfl)) ?_;(with_reducible refine (cycle_In.calls a0 t125 t126 _ A3.out).mono ?_);rintro e w' ⟨rfl,⟨nd,rfl⟩⟩;refine ⟨_,rfl,?_⟩))
  (try simp only [Act.put, zz11, zz12, zz13])
  go_cut [24] (fun v24 wc=>∃ (kq : Nat) (x24_4 : Bool),v24 = .bool x24_4 ∧ Aside0 (molad_Of.j0 kq a0 a1 x24_4 = some (r1,r2,r3)) ∧ Aside0 (kq ≤ k) ∧ Aside0 (wc.heap[gb124]? = some (.cells #[.int .i64 0,.int .i64 0] 147 (0,0))) ∧ Aside0 (Below w.heap.size w wc))
  case first =>
   have H := HC5.out
   clear HC5
   by_cases c7 : a1 < 1
   ·
    rw [if_pos c7] at H
    have c7b0 : decide (a1 < 1) = true := decide_eq_true c7
    clear c7
    (first | rw [c7b0] | (simp only [i64_w, i32_w]; rw [c7b0]) | skip)
    have H' := zz00 H
    clear H
    go_wp2
    go_meet
    case rel=>exact ⟨_,(true),(by first|rfl|(simp;done)|(simp [*];done)),H',⟨by first|omega|exact Nat.le_refl _⟩,⟨by (with_reducible repeat (first|refine zz07 ?_ _|refine zz09 ?_|refine zz08 ?_ _));exact BK124.out⟩,⟨by repeat (first|(with_reducible first|exact HB.out|apply zz03|apply zz01|apply zz02|refine zz10 ?_ GE124.out)|exact HB.out)⟩⟩
   ·
    rw [if_neg c7] at H
    have c7b0 : decide (a1 < 1) = false := decide_eq_false c7
    clear c7
    (first | rw [c7b0] | (simp only [i64_w, i32_w]; rw [c7b0]) | skip)
    have H' := zz00 H
    clear H
    go_wp2
    go_meet
    case rel=>exact ⟨_,(decide (a1 > t125)),(by first|rfl|(simp;done)|(simp [*];done)),H',⟨by first|omega|exact Nat.le_refl _⟩,⟨by (with_reducible repeat (first|refine zz07 ?_ _|refine zz09 ?_|refine zz08 ?_ _));exact BK124.out⟩,⟨by repeat (first|(with_reducible first|exact HB.out|apply zz03|apply zz01|apply zz02|refine zz10 ?_ GE124.out)|exact HB.out)⟩⟩
  case rest =>
   clear HC5
   try clear c1
   try clear p2
   try clear c4
   try clear c4b0
   try clear c4b1
   try clear c7
   try clear c7b0
   obtain ⟨kq, x24_4, rfl, HA, HJ4, BK124, HB⟩ := hcut
   cases kq with
   | zero => exact absurd HA.out (by simp [molad_Of.j0])
   | succ kj4 =>
    have H := HA.out
    clear HA
    simp only [molad_Of.j0] at H
    by_cases c8 : x24_4 = true
    ·
     subst c8
     have H1 : (some (0, 0, 3)) = some (r1, r2, r3) := by rw [if_pos rfl] at H; exact H
     clear H
     have H := H1
     clear H1
     simp only [zz15, zz16] at H
     obtain ⟨rfl, rfl, rfl⟩ := H
     have hcz9_0 : wc.cell? ⟨gb124, 0, none⟩ = some (.int .i64 0) := (zz18 BK124.out 0).trans rfl
     have hcz9_1 : wc.cell? ⟨gb124, 1, none⟩ = some (.int .i64 0) := (zz18 BK124.out 1).trans rfl
     have hfz9_0 := zz17 BK124.out 0
     have hfz9_1 := zz17 BK124.out 1
     go_wp2
     refine bodyPost_ret (results_ct rfl _ _ gb124 147 #[.int .i64 0,.int .i64 0] (0,0) _ rfl (by (with_reducible repeat (first|refine zz07 ?_ _|refine zz09 ?_|refine zz08 ?_ _));refine zz35 (cs:=#[.int .i64 0,.int .i64 0]) ?_ 1 _ rfl;(with_reducible repeat (first|refine zz07 ?_ _|refine zz09 ?_|refine zz08 ?_ _));refine zz35 (cs:=#[.int .i64 0,.int .i64 0]) ?_ 0 _ rfl;(with_reducible repeat (first|refine zz07 ?_ _|refine zz09 ?_|refine zz08 ?_ _));exact BK124.out) Tryz.underlying147 rfl (by kernel_rfl)) rfl ?_
     exact ⟨by first|rfl|(simp [errW_none,errW_some] <;> rfl)|(simp [*,errW_none,errW_some] <;> rfl),by repeat (first|(with_reducible first|exact HB.out|apply zz03|apply zz01|apply zz02|refine zz10 ?_ GE124.out)|exact HB.out)⟩
    ·
     replace c8 := zz32.mpr c8
     subst c8
     have H1 : ((cycle_Before.f a0).bind fun bt127=>(if bt127.2 = 0 then ((molad_Moon.f kj4 (wrap64 ((wrap64 (bt127.1 + a1)) - 1))).bind fun bt129=>(some (bt129.1,bt129.2.1,bt129.2.2))) else (some (0,0,bt127.2)))) = some (r1,r2,r3):=by rw [if_neg (show ¬ (false = true) by decide)] at H;exact H
     clear H
     have H := H1
     clear H1
     replace H := zz14.mp H
     obtain ⟨⟨t127, t128⟩, A100, H⟩ := H
     replace H : (if t128 = 0 then ((molad_Moon.f kj4 (wrap64 ((wrap64 (t127 + a1)) - 1))).bind fun bt129 => (some (bt129.1, bt129.2.1, bt129.2.2))) else (some (0, 0, t128))) = some (r1, r2, r3) := H
     have A10 := zz00 A100
     clear A100
     by_cases c11 : t128 = 0
     ·
      rw [if_pos c11] at H
      have c11b0 : (t128 == 0) = true := zz29.mpr c11
      have c11b1 : (t128 != 0) = false := zz26.mpr c11
      clear c11
      replace H := zz14.mp H
      obtain ⟨⟨t129, t130, t131⟩, A120, H⟩ := H
      replace H : (some (t129, t130, t131)) = some (r1, r2, r3) := H
      have A12 := zz00 A120
      clear A120
      simp only [zz15, zz16] at H
      obtain ⟨rfl, rfl, rfl⟩ := H
      go_wp2_with (first|((with_reducible refine zz23 (f:=181) rfl ?_);refine zz25 (some 28) rfl rfl Tryz.func181 (by kernel_rfl) rfl #[.int .i64 a0] rfl (by (try simp only [List.map_toArray,List.map_cons,List.map_nil]);first|done|rfl|(simp only [List.length_drop,List.length_take];rfl)) ?_;(with_reducible refine (cycle_Before.calls a0 t127 t128 _ A10.out).mono ?_);rintro e w' ⟨rfl,⟨nd,rfl⟩⟩;refine ⟨_,rfl,?_⟩;(try (rw [drewN_self wc];generalize hq_ : World.drewN wc _ = wc;have n0_ : Aside0 (wc.heap[gb124]? = some (.cells #[.int .i64 0,.int .i64 0] 147 (0,0))):=⟨by rw [← hq_];exact (by (with_reducible repeat (first|refine zz07 ?_ _|refine zz09 ?_|refine zz08 ?_ _));exact BK124.out)⟩;have n1_ : Aside0 (Below w.heap.size w wc):=⟨by rw [← hq_];exact (by repeat (first|(with_reducible first|exact HB.out|apply zz03|apply zz01|apply zz02|refine zz10 ?_ GE124.out)|exact HB.out))⟩;clear BK124 HB hq_;have BK124:=n0_;have HB:=n1_;clear n0_ n1_)))|((with_reducible refine zz23 (f:=182) rfl ?_);refine zz25 (some 39) rfl rfl Tryz.func182 (by kernel_rfl) rfl #[.int .i64 (wrap64 ((wrap64 (t127 + a1)) - 1))] rfl (by (try simp only [List.map_toArray,List.map_cons,List.map_nil]);first|done|rfl|(simp only [List.length_drop,List.length_take];rfl)) ?_;(with_reducible refine (molad_Moon.calls kj4 (wrap64 ((wrap64 (t127 + a1)) - 1)) t129 t130 t131 _ A12.out).mono ?_);rintro e w13 ⟨rfl,hb⟩;refine ⟨_,rfl,?_⟩;have n0_:=zz00 (zz34 (g:=gb124) (o:=.cells #[.int .i64 0,.int .i64 0] 147 (0,0)) (by (with_reducible repeat (first|refine zz07 ?_ _|refine zz09 ?_|refine zz08 ?_ _));exact BK124.out) hb);have n1_:=zz00 (zz21 (by repeat (first|(with_reducible first|exact HB.out|apply zz03|apply zz01|apply zz02|refine zz10 ?_ GE124.out)|exact HB.out)) hb);clear BK124;clear HB;have BK124:=n0_;have HB:=n1_;clear n0_ n1_;(try clear hb);(try clear hb2);(try clear hk);(try clear hi);have hcz14_0 : w13.cell? ⟨gb124,0,none⟩ = some (.int .i64 0):=(zz18 BK124.out 0).trans rfl;have hcz14_1 : w13.cell? ⟨gb124,1,none⟩ = some (.int .i64 0):=(zz18 BK124.out 1).trans rfl;have hfz14_0:=zz17 BK124.out 0;have hfz14_1:=zz17 BK124.out 1))
      refine bodyPost_ret (results_ct rfl _ _ gb124 147 #[.int .i64 t129,.int .i64 t130] (0,0) _ rfl (by (with_reducible repeat (first|refine zz07 ?_ _|refine zz09 ?_|refine zz08 ?_ _));refine zz35 (cs:=#[.int .i64 t129,.int .i64 0]) ?_ 1 _ rfl;(with_reducible repeat (first|refine zz07 ?_ _|refine zz09 ?_|refine zz08 ?_ _));refine zz35 (cs:=#[.int .i64 0,.int .i64 0]) ?_ 0 _ rfl;(with_reducible repeat (first|refine zz07 ?_ _|refine zz09 ?_|refine zz08 ?_ _));exact BK124.out) Tryz.underlying147 rfl (by kernel_rfl)) rfl ?_
      exact ⟨by first|rfl|(simp [errW_none,errW_some] <;> rfl)|(simp [*,errW_none,errW_some] <;> rfl),by repeat (first|(with_reducible first|exact HB.out|apply zz03|apply zz01|apply zz02|refine zz10 ?_ GE124.out)|exact HB.out)⟩
     ·
      rw [if_neg c11] at H
      have c11b0 : (t128 == 0) = false := zz27.mpr c11
      have c11b1 : (t128 != 0) = true := zz28.mpr c11
      simp only [zz15, zz16] at H
      obtain ⟨rfl, rfl, rfl⟩ := H
      go_wp2_with (first|((with_reducible refine zz23 (f:=181) rfl ?_);refine zz25 (some 28) rfl rfl Tryz.func181 (by kernel_rfl) rfl #[.int .i64 a0] rfl (by (try simp only [List.map_toArray,List.map_cons,List.map_nil]);first|done|rfl|(simp only [List.length_drop,List.length_take];rfl)) ?_;(with_reducible refine (cycle_Before.calls a0 t127 t128 _ A10.out).mono ?_);rintro e w' ⟨rfl,⟨nd,rfl⟩⟩;refine ⟨_,rfl,?_⟩;(try (rw [drewN_self wc];generalize hq_ : World.drewN wc _ = wc;have n0_ : Aside0 (wc.heap[gb124]? = some (.cells #[.int .i64 0,.int .i64 0] 147 (0,0))):=⟨by rw [← hq_];exact (by (with_reducible repeat (first|refine zz07 ?_ _|refine zz09 ?_|refine zz08 ?_ _));exact BK124.out)⟩;have n1_ : Aside0 (Below w.heap.size w wc):=⟨by rw [← hq_];exact (by repeat (first|(with_reducible first|exact HB.out|apply zz03|apply zz01|apply zz02|refine zz10 ?_ GE124.out)|exact HB.out))⟩;clear BK124 HB hq_;have BK124:=n0_;have HB:=n1_;clear n0_ n1_));have hcz15_0 : wc.cell? ⟨gb124,0,none⟩ = some (.int .i64 0):=(zz18 BK124.out 0).trans rfl;have hcz15_1 : wc.cell? ⟨gb124,1,none⟩ = some (.int .i64 0):=(zz18 BK124.out 1).trans rfl;have hfz15_0:=zz17 BK124.out 0;have hfz15_1:=zz17 BK124.out 1))
      refine bodyPost_ret (results_ct rfl _ _ gb124 147 #[.int .i64 0,.int .i64 0] (0,0) _ rfl (by (with_reducible repeat (first|refine zz07 ?_ _|refine zz09 ?_|refine zz08 ?_ _));refine zz35 (cs:=#[.int .i64 0,.int .i64 0]) ?_ 1 _ rfl;(with_reducible repeat (first|refine zz07 ?_ _|refine zz09 ?_|refine zz08 ?_ _));refine zz35 (cs:=#[.int .i64 0,.int .i64 0]) ?_ 0 _ rfl;(with_reducible repeat (first|refine zz07 ?_ _|refine zz09 ?_|refine zz08 ?_ _));exact BK124.out) Tryz.underlying147 rfl (by kernel_rfl)) rfl ?_
      exact ⟨by first|rfl|(simp [errW_none,errW_some] <;> rfl)|(simp [*,errW_none,errW_some] <;> rfl),by repeat (first|(with_reducible first|exact HB.out|apply zz03|apply zz01|apply zz02|refine zz10 ?_ GE124.out)|exact HB.out)⟩
 ·
  rw [if_neg c4] at H
  have c4b0 : (t126 == 0) = false := zz27.mpr c4
  have c4b1 : (t126 != 0) = true := zz28.mpr c4
  simp only [zz15, zz16] at H
  obtain ⟨rfl, rfl, rfl⟩ := H
  go_enter Tryz.func131, Tryz.ntmps131
  go_wp2_with (first|((with_reducible refine zz24 (N:=4) rfl ?_);refine zz30 ?hg (N:=4) ?hd (cs:=#[.int .i64 0,.int .i64 0]) (t:=147) ?hr ?_;(case hd=>rfl);(case hg=>rfl);(case hr=>first|(go_simp;done)|(go_simp;rfl));intro gb124 hg w16 hbox hb;have n0_:=zz00 (zz21 (by repeat (first|(with_reducible first|exact HB.out|apply zz03|apply zz01|apply zz02)|exact HB.out)) hb);have n1_:=zz00 (hbox);have n2_:=zz00 ((by rw [hg];exact (zz22 (by repeat (first|(with_reducible first|exact HB.out|apply zz03|apply zz01|apply zz02)|exact HB.out))) : w.heap.size ≤ gb124));have n3_:=zz00 ((by rw [hg];exact (zz22 (by repeat (first|(with_reducible first|exact HB.out|apply zz03|apply zz01|apply zz02)|exact HB.out))) : w.heap.size ≤ gb124));clear HB;have HB:=n0_;have BK124:=n1_;have GW124:=n2_;have GE124:=n3_;clear n0_ n1_ n2_ n3_;clear hb hbox hg)|((with_reducible refine zz23 (f:=180) rfl ?_);refine zz25 (some 11) rfl rfl Tryz.func180 (by kernel_rfl) rfl #[.int .i64 a0] rfl (by (try simp only [List.map_toArray,List.map_cons,List.map_nil]);first|done|rfl|(simp only [List.length_drop,List.length_take];rfl)) ?_;(with_reducible refine (cycle_In.calls a0 t125 t126 _ A3.out).mono ?_);rintro e w' ⟨rfl,⟨nd,rfl⟩⟩;refine ⟨_,rfl,?_⟩;(try (rw [drewN_self w16];generalize hq_ : World.drewN w16 _ = w16;have n0_ : Aside0 (w16.heap[gb124]? = some (.cells #[.int .i64 0,.int .i64 0] 147 (0,0))):=⟨by rw [← hq_];exact (by (with_reducible repeat (first|refine zz07 ?_ _|refine zz09 ?_|refine zz08 ?_ _));exact BK124.out)⟩;have n1_ : Aside0 (Below w.heap.size w w16):=⟨by rw [← hq_];exact (by repeat (first|(with_reducible first|exact HB.out|apply zz03|apply zz01|apply zz02|refine zz10 ?_ GE124.out)|exact HB.out))⟩;clear BK124 HB hq_;have BK124:=n0_;have HB:=n1_;clear n0_ n1_));have hcz17_0 : w16.cell? ⟨gb124,0,none⟩ = some (.int .i64 0):=(zz18 BK124.out 0).trans rfl;have hcz17_1 : w16.cell? ⟨gb124,1,none⟩ = some (.int .i64 0):=(zz18 BK124.out 1).trans rfl;have hfz17_0:=zz17 BK124.out 0;have hfz17_1:=zz17 BK124.out 1))
  refine bodyPost_ret (results_ct rfl _ _ gb124 147 #[.int .i64 0,.int .i64 0] (0,0) _ rfl (by (with_reducible repeat (first|refine zz07 ?_ _|refine zz09 ?_|refine zz08 ?_ _));refine zz35 (cs:=#[.int .i64 0,.int .i64 0]) ?_ 1 _ rfl;(with_reducible repeat (first|refine zz07 ?_ _|refine zz09 ?_|refine zz08 ?_ _));refine zz35 (cs:=#[.int .i64 0,.int .i64 0]) ?_ 0 _ rfl;(with_reducible repeat (first|refine zz07 ?_ _|refine zz09 ?_|refine zz08 ?_ _));exact BK124.out) Tryz.underlying147 rfl (by kernel_rfl)) rfl ?_
  exact ⟨by first|rfl|(simp [errW_none,errW_some] <;> rfl)|(simp [*,errW_none,errW_some] <;> rfl),by repeat (first|(with_reducible first|exact HB.out|apply zz03|apply zz01|apply zz02|refine zz10 ?_ GE124.out)|exact HB.out)⟩

end Go.Proofs.YtflpddhoiafhcaaGreatDoor.R
end
