/- Texts of the proof of 'NameMonths', joined by a program (part 2): contracts of functions, plain laws. -/
import Derived.Test.YtflpddhoiafhcaaDoorProg
import Derived.Below
import Derived.Deep.Draws
import Derived.WalkKit
import Derived.Laws.Rows
import Derived.Test.YtflpddhoiafhcaaDoorJNameMonths1
import Derived.Test.YtflpddhoiafhcaaDoorRows
import Derived.Stop.Joined
import Derived.Stop.LaidErr
import Derived.Lib.LaidTab
import Derived.MakeChecks
import Derived.LaidMore
import Derived.OpenShut
import Derived.ChangeSame
import Derived.Deep.Strs
import Derived.WalkSmall
import Derived.Lib.SmallJoins
import Derived.Lib.ItoaMem
import Derived.KernelRfl
import Derived.ProofKit
import Derived.Shelf.Vars
import Derived.ChangeOld
import Derived.SevenTiedAt
import Derived.Shelf.Bits.Mul64
import Derived.OwnWalk
import Derived.Tactics
import Derived.RowKit3
import Derived.Deep.LoopGhost
import Derived.Deep.QuietTactic
import Derived.BigQuiet
import Derived.WideLaws
import Derived.Deep.DeepCutAuto
import Derived.Deep.CutBlock
import Derived.Deep.RegionHeld3
import Derived.OrdersHeld
import Derived.Outline
import Derived.Shelf.SlicesQ.Index
import Derived.Laws.StructEq
import Derived.IntWalk
import Derived.RegionTactic
import Derived.ChangeAlike
import Derived.Laws.Tables
import Derived.Laws.CopyOwn
import Derived.Shelf.SlSortCmp.WholeK
import Derived.Shelf.SlicesE.Clone
import Derived.Shelf.SlicesG.Cmp
import Derived.Shelf.Strings.Builder1
import Derived.Shelf.Strings.Builder2
import Derived.Shelf.Strings.OnBuilder
import Derived.Shelf.Small.Bits
import Derived.Shelf.Small.Wraps
import Derived.Shelf.Strings.BuilderF
import Derived.Shelf.Strings.Builder2Cap
import Derived.Shelf.Strconv.Atoi
import Derived.Shelf.Strconv.Itoa0
import Derived.Shelf.Strconv.Itoa1
import Derived.Shelf.LaysM
import Derived.Shelf.Strconv.Itoa2
import Derived.Shelf.Strconv.Itoa3
import Derived.Shelf.Strconv.AtoiErrFast
import Derived.Shelf.Strconv.ParseIntEmpty
import Derived.Shelf.Strconv.AtoiFail
import Derived.Shelf.Strconv.Clone
import Derived.Shelf.Strconv.SyntaxError
import Derived.Shelf.LaysC
import Derived.Shelf.Strconv.ToError
import Derived.Shelf.Strconv.Lower
import Derived.Shelf.Strconv.ParseUint10
import Derived.Shelf.Strconv.ParseUint10Empty
import Derived.Shelf.Strconv.ParseUint10Any
import Derived.Shelf.Strconv.ParseInt10
import Derived.Shelf.Strconv.AtoiLong
import Derived.Shelf.Strconv.AtoiInnerAll
import Derived.Shelf.Strconv.RangeError
import Derived.Shelf.Strconv.ToErrorRange
import Derived.Shelf.Strconv.AtoiAll
import Derived.Shelf.Strconv.ErrVarAll
import Derived.Shelf.Strconv.ParseUintEmpty
import Derived.Shelf.Strings.Search1
import Derived.Shelf.Strings.Search2
import Derived.Shelf.Strings.Cut
import Derived.Shelf.Strings.Shaped
import Derived.Shelf.Strings.LastIndex
import Derived.Shelf.Strings.Prefix
import Derived.Shelf.Slices.SearchI
import Derived.Lib.AtoiAllCases
import Derived.Lib.AppendIntMem
import Derived.Shelf.Strings.BuilderK
import Derived.Shelf.Strconv.ParseUint10b64
import Derived.Shelf.Strconv.ParseUint10b32
import Derived.Shelf.Strconv.ParseUint10b16
import Derived.Shelf.Strconv.ParseUint10b8
import Derived.MapKept
import Derived.WideMake
import Derived.Carry
import Derived.Deep.AppendLies
import Derived.Maps.AppendAt
import Derived.Laws.BytesArg
import Derived.Laws.MakeOwn
import Derived.Laws.OwnMore
import Derived.Deep.OwnRows
import Derived.Lib.ConvBytes
import Derived.Laws.Slices
import Derived.Lib.AppendStr
import Derived.ArgAppend
import Derived.Laws.IdiomCopy
import Derived.Laws.BitsLemmas
import Derived.RowKit
import Derived.Sort.OwnSortedInts
set_option linter.unusedVariables false
set_option linter.unusedSimpArgs false
set_option linter.unusedSectionVars false
section
/- The plain mathematics of the fixed Hebrew calendar: first days of years, their types; what is asked of the years 1 to 9999 is reckoned by the kernel once. No program in sight. -/
namespace Go.Proofs.YtflpddhoiafhcaaDoor.Cal

def leap (y : Int) : Bool := decide ((7 * y + 1) % 19 < 7)
def before (y : Int) : Int := (235 * y - 234) / 19
def md (y : Int) : Int := (5604 + 765433 * before y) / 25920 - 1373427
def mp (y : Int) : Int := (5604 + 765433 * before y) % 25920
/-- 1 where the new moon puts the year off. -/
def off (w p : Int) (lp after : Bool) : Int :=
  if p ≥ 19440 then 1 else if lp = false ∧ w = 2 ∧ p ≥ 9924 then 1 else if after = true ∧ w = 1 ∧ p ≥ 16789 then 1 else 0
def delay (d p : Int) (lp after : Bool) : Int :=
  if (d % 7 + off (d % 7) p lp after) % 7 = 0 ∨ (d % 7 + off (d % 7) p lp after) % 7 = 3 ∨ (d % 7 + off (d % 7) p lp after) % 7 = 5
  then off (d % 7) p lp after + 1 else off (d % 7) p lp after
/-- A year's first day. -/
def first (y : Int) : Int := md y + delay (md y) (mp y) (leap y) (leap (y - 1))

def leapN (y : Nat) : Bool := Nat.blt ((7 * y + 1) % 19) 7
def pN (y : Nat) : Nat := 5604 + 765433 * ((235 * y - 234) / 19)
def offN (w p : Nat) (lp after : Bool) : Nat :=
  bif Nat.ble 19440 p then 1 else bif !lp && (Nat.beq w 2 && Nat.ble 9924 p) then 1 else bif after && (Nat.beq w 1 && Nat.ble 16789 p) then 1 else 0
def badN (w : Nat) : Bool := Nat.beq w 0 || (Nat.beq w 3 || Nat.beq w 5)
def plusN (w n : Nat) : Nat := bif badN ((w + n) % 7) then n + 1 else n
/-- A year's first day, counted from 1373428 days ahead of day 0. -/
def fN (y : Nat) : Nat := pN y / 25920 + 1 + plusN ((pN y / 25920 + 1) % 7) (offN ((pN y / 25920 + 1) % 7) (pN y % 25920) (leapN y) (leapN (y - 1)))
/-- The fourteen types: the weekday on which the year begins, its length, whether it is a leap year. -/
def typeN (w l : Nat) (lp : Bool) : Nat :=
  bif lp then
    (bif Nat.beq w 1 then (bif Nat.beq l 383 then 8 else bif Nat.beq l 385 then 9 else 0) else bif Nat.beq w 2 then (bif Nat.beq l 384 then 10 else 0) else
     bif Nat.beq w 4 then (bif Nat.beq l 383 then 11 else bif Nat.beq l 385 then 12 else 0) else bif Nat.beq w 6 then (bif Nat.beq l 383 then 13 else bif Nat.beq l 385 then 14 else 0) else 0)
  else
    (bif Nat.beq w 1 then (bif Nat.beq l 353 then 1 else bif Nat.beq l 355 then 2 else 0) else bif Nat.beq w 2 then (bif Nat.beq l 354 then 3 else 0) else
     bif Nat.beq w 4 then (bif Nat.beq l 354 then 4 else bif Nat.beq l 355 then 5 else 0) else bif Nat.beq w 6 then (bif Nat.beq l 353 then 6 else bif Nat.beq l 355 then 7 else 0) else 0)
def tyN (y : Nat) : Nat := typeN (fN y % 7) (fN (y + 1) - fN y) (leapN y)
def okN (y : Nat) : Bool := Nat.beq y 0 || (Nat.blt 9999 y || Nat.blt 0 (tyN y))
def allN : Nat → Nat → Bool
  | 0, lo => okN lo
  | k + 1, lo => allN k lo && allN k (lo + 2 ^ k)
theorem allN_of : ∀ (k lo y : Nat), allN k lo = true → lo ≤ y → y < lo + 2 ^ k → okN y = true := by
  intro k
  induction k with
  | zero => intro lo y h h0 h1; obtain rfl : y = lo := by simp at h1; omega
            exact h
  | succ k ih =>
    intro lo y h h0 h1
    simp only [allN, Bool.and_eq_true] at h
    rw [Nat.pow_succ] at h1
    by_cases c : y < lo + 2 ^ k
    · exact ih lo y h.1 h0 c
    · exact ih (lo + 2 ^ k) y h.2 (by omega) (by omega)
theorem all_years : allN 14 0 = true := by decide +kernel
theorem ty_pos (y : Nat) (h0 : 1 ≤ y) (h1 : y ≤ 9999) : 0 < tyN y := by
  have h := allN_of 14 0 y all_years (by omega) (by omega)
  simp only [okN, Bool.or_eq_true, Nat.beq_eq, Nat.blt, Nat.ble_eq] at h
  omega
end Go.Proofs.YtflpddhoiafhcaaDoor.Cal
end

section
/- The fourteen types of years, their months' lengths, and what is asked of them: plain, no program in sight. -/
namespace Go.Proofs.YtflpddhoiafhcaaDoor.Cal

/-- The fourteen types in their order: the weekday on which the year begins, its kind, whether it is a leap year. -/
def tyList : List (Int × Int × Bool) :=
  [(1, 0, false), (1, 2, false), (2, 1, false), (4, 1, false), (4, 2, false), (6, 0, false), (6, 2, false),
   (1, 0, true), (1, 2, true), (2, 1, true), (4, 0, true), (4, 2, true), (6, 0, true), (6, 2, true)]
def tyEq (x y : Int × Int × Bool) : Bool := x.1 == y.1 && (x.2.1 == y.2.1 && (x.2.2 == y.2.2))
/-- The place of a type among others, from a number on; 0: it is none of them. -/
def idxFrom (x : Int × Int × Bool) : List (Int × Int × Bool) → Int → Int
  | [], _ => 0
  | y :: r, i => if tyEq x y then i else idxFrom x r (i + 1)
/-- A type's number: 1 to 14; 0: it is none. -/
def tyNum (b k : Int) (l : Bool) : Int := idxFrom (b, k, l) tyList 1
def plainList : List Int := [30, 29, 30, 29, 30, 29, 30, 29, 30, 29, 30, 29]
/-- The months' lengths of a kind. -/
def lens (k : Int) (l : Bool) : List Int :=
  [30, if k = 2 then 30 else 29, if k = 0 then 29 else 30, 29, 30] ++ (if l = true then [30] else []) ++ [29, 30, 29, 30, 29, 30, 29]
/-- The months that are laid in the first rounds, so many. -/
def pre (k : Int) (l : Bool) : Nat → List Int
  | 0 => []
  | i + 1 => pre k l i ++ (if i = 5 ∧ l = true then [30] else []) ++ [if i = 1 ∧ k = 2 then 30 else if i = 2 ∧ k = 0 then 29 else plainList.getD i 0]
theorem pre_len (k : Int) (l : Bool) : ∀ i, i ≤ (pre k l i).length ∧ (pre k l i).length ≤ i + (if 5 < i then 1 else 0)
  | 0 => by simp [pre]
  | i + 1 => by
    have h := pre_len k l i
    simp only [pre, List.length_append, List.length_cons, List.length_nil]
    by_cases c : i = 5 ∧ l = true
    · obtain ⟨rfl, _⟩ := c
      rw [if_pos ⟨rfl, ‹_›⟩]
      simp at h ⊢
      omega
    · rw [if_neg c]
      by_cases d : 5 < i
      · rw [if_pos d] at h; rw [if_pos (by omega)]; simp; omega
      · rw [if_neg d] at h; simp; split <;> omega
theorem pre_all (k : Int) (l : Bool) : pre k l 12 = lens k l := by
  simp only [pre, lens, plainList]
  cases l <;> by_cases h2 : k = 2 <;> by_cases h0 : k = 0 <;> simp_all
/-- The months of a type; none, if there is no such type. -/
def months (b k : Int) (l : Bool) : List Int := if tyNum b k l = 0 then [] else lens k l
def mdays (b k : Int) (l : Bool) (m : Int) : Int := if 0 < m ∧ m ≤ (months b k l).length then (months b k l).getD (m - 1).toNat 0 else 0
end Go.Proofs.YtflpddhoiafhcaaDoor.Cal
end

section
/- What the package-level variables of the calendar hold: a world in which they read as their text lays them, and that a call which leaves elder memory alone keeps this. -/
namespace Go.Proofs.YtflpddhoiafhcaaDoor
open Go.RowKit Go.Proofs.YtflpddhoiafhcaaDoorW.PrintWords
/-- A type's three cells. -/
def encK (x : Int × Int × Bool) : List Value := [.int .i64 x.1, .int .i64 x.2.1, .bool x.2.2]
def tyCells : Array Value := ((Cal.tyList.map encK).flatten).toArray
def plainCells : Array Value := (Cal.plainList.map fun n => Value.int .i64 n).toArray
/-- What a package-level variable's block holds. -/
def Holds (g : Nat) (cs : Array Value) (w : World) : Prop := ∃ t fr, w.heap[g]? = some (.cells cs t fr)
theorem Holds.below {g : Nat} {cs : Array Value} {w w' : World} (h : Holds g cs w) (hb : Below w.heap.size w w') : Holds g cs w' := by
  obtain ⟨t, fr, e⟩ := h
  exact ⟨t, fr, (hb.block g (Array.getElem?_eq_some_iff.1 e).1).trans e⟩
theorem Holds.cell {g : Nat} {cs : Array Value} {w : World} (h : Holds g cs w) (i : Nat) : w.cell? ⟨g, i, none⟩ = cs[i]? := by
  obtain ⟨t, fr, e⟩ := h
  exact cell_of_row w g i cs t fr e
/-- The types and the months. -/
structure GlobT (w : World) : Prop where
  types : Holds 6 tyCells w
  plain : Holds 3 plainCells w
theorem keep_cell {w w' : World} (h : Below w.heap.size w w') {a : Addr} {v : Value} (hc : w.cell? a = some v) : w'.cell? a = some v :=
  (h.cell (World.block_lt_of_cell? w a hc)).trans hc
theorem GlobT.below {w w' : World} (g : GlobT w) (h : Below w.heap.size w w') : GlobT w' := ⟨g.types.below h, g.plain.below h⟩
theorem GlobT.drawn {w w' : World} (g : GlobT w) (h : Drawn0 w w') : GlobT w' := g.below h.below
theorem GlobT.typesAt {w : World} (g : GlobT w) : ∀ j, j < Cal.tyList.length → ∀ i v, (encK Cal.tyList[j]!)[i]? = some v → w.cell? ⟨6, 0 + j * 3 + i, none⟩ = some v := by
  intro j hj i v hv
  rw [g.types.cell]
  have h2 : i < 3 := by
    have := (List.getElem?_eq_some_iff.1 hv).1
    simpa [encK] using this
  have hj' : j < 14 := hj
  rw [← hv]
  have key : ∀ j, j < 14 → ∀ i, i < 3 → tyCells[0 + j * 3 + i]? = (encK Cal.tyList[j]!)[i]? := by
    intro j hj i hi
    rcases (by omega : i = 0 ∨ i = 1 ∨ i = 2) with rfl | rfl | rfl <;>
    rcases (by omega : j = 0 ∨ j = 1 ∨ j = 2 ∨ j = 3 ∨ j = 4 ∨ j = 5 ∨ j = 6 ∨ j = 7 ∨ j = 8 ∨ j = 9 ∨ j = 10 ∨ j = 11 ∨ j = 12 ∨ j = 13) with rfl | rfl | rfl | rfl | rfl | rfl | rfl | rfl | rfl | rfl | rfl | rfl | rfl | rfl <;> rfl
  exact key j hj' i h2
end Go.Proofs.YtflpddhoiafhcaaDoor
end

section
/- What the row's listed variables give the walks: the fourteen types and the months. -/
namespace Go.Proofs.YtflpddhoiafhcaaDoor
open Go.RowKit Go.ChangeShapes
theorem gTypes : Tryd.prog.globalNamed "almanacker/keviah.types" = some 6 := by kernel_rfl
theorem gPlain : Tryd.prog.globalNamed "almanacker/month.plain" = some 3 := by kernel_rfl
theorem tTypes : (Tryd.prog.globals[6]?).map (·.type) = some 205 := by kernel_rfl
theorem tPlain : (Tryd.prog.globals[3]?).map (·.type) = some 184 := by kernel_rfl
theorem plain_data : (Rows.laid_almanacker_month_plain : DataW Unit) = Lib.tabData .i64 Cal.plainList := by kernel_rfl
def kevData (x : Int × Int × Bool) : DataW Unit := .agg [.lit (.int .i64 x.1), .lit (.int .i64 x.2.1), .lit (.bool x.2.2)]
theorem types_data : (Rows.laid_almanacker_keviah_types : DataW Unit) = .agg (Cal.tyList.map kevData) := by kernel_rfl
theorem ck3 : Tryd.prog.cellsOf 111 = 3 := by kernel_rfl
theorem ck42 : Tryd.prog.cellsOf 205 = 42 := by kernel_rfl
theorem ci1 : Tryd.prog.cellsOf 3 = 1 := by kernel_rfl
theorem cb1 : Tryd.prog.cellsOf 4 = 1 := by kernel_rfl
theorem holds_of_var {W : World} {n : String} {g : Nat} {cs : Array Value} (hg : Tryd.prog.globalNamed n = some g) (h : W.var? Tryd.prog n = some cs) : Holds g cs W := by
  unfold World.var? at h
  rw [hg] at h
  simp only [Option.bind_some] at h
  split at h
  · rename_i c t fr hh
    obtain rfl := Option.some.inj h
    exact ⟨t, fr, hh⟩
  · cases h
set_option maxRecDepth 100000 in
theorem kev_cells {enc : TypeId × Value → Unit} {w : World} {base : Nat} {spare : Nat → Bool} {held : Bool} {k : Nat} {cs : List Value} {y : DataW Unit × List MemPlace} (x : Int × Int × Bool)
    (hl : cs.length = 3) (h : DataW.trod enc Tryd.prog w base spare held k 111 cs = some y) (hy : y.1 = kevData x) : cs = encK x := by
  obtain ⟨a, b, c, rfl⟩ : ∃ a b c, cs = [a, b, c] := by
    match cs, hl with
    | [a, b, c], _ => exact ⟨a, b, c, rfl⟩
  obtain ⟨y0, y1, y2, n, rfl, _, h0, h1, h2⟩ := Go.Deep.trod_struct3 Tryd.underlying111 h
  obtain ⟨n0, e0, rfl, _⟩ := DataW.trod_int Tryd.underlying3 h0
  obtain ⟨n1, e1, rfl, _⟩ := DataW.trod_int Tryd.underlying3 h1
  obtain ⟨b2, e2, rfl⟩ := DataW.trod_bool Tryd.underlying4 h2
  simp [ci1, cb1] at e0 e1 e2
  simp [kevData] at hy
  obtain ⟨p, q, r⟩ := x
  simp at hy
  obtain ⟨rfl, rfl, rfl⟩ := hy
  subst e0 e1 e2
  rfl
set_option maxRecDepth 100000 in
theorem cells_of_types {enc : TypeId × Value → Unit} {w : World} {base : Nat} {spare : Nat → Bool} {held : Bool} {k : Nat} {cs : List Value} {x : DataW Unit × List MemPlace}
    (h : DataW.trod enc Tryd.prog w base spare held k 205 cs = some x) (hx : x.1 = .agg (Cal.tyList.map kevData)) : cs = tyCells.toList := by
  obtain ⟨xs, m, rfl, rfl, hlen, hn, hel⟩ := DataW.trod_array Tryd.underlying205 h
  rw [ck42] at hlen
  have hx' : xs.map (·.1) = Cal.tyList.map kevData := by simpa using hx
  have hch : ∀ i, i < 14 → (cs.drop (i * 3)).take 3 = encK Cal.tyList[i]! := by
    intro i hi
    have h1 := hel i hi
    rw [ck3] at h1
    have hi2 : i < xs.length := by omega
    rw [List.getElem?_eq_getElem hi2] at h1
    have e : xs[i].1 = kevData Cal.tyList[i]! := by
      have := congrArg (fun l => l[i]?) hx'
      simp only [List.getElem?_map] at this
      rw [List.getElem?_eq_getElem hi2, List.getElem?_eq_getElem (show i < Cal.tyList.length from hi)] at this
      have e2 : Cal.tyList[i]! = Cal.tyList[i]'(show i < Cal.tyList.length from hi) := getElem!_pos _ _ _
      rw [e2]
      simpa using this
    exact kev_cells _ (by rw [List.length_take, List.length_drop]; omega) h1 e
  have hk : ∀ i, i < 14 → (tyCells.toList.drop (i * 3)).take 3 = encK Cal.tyList[i]! := by
    intro i hi
    rcases (by omega : i = 0 ∨ i = 1 ∨ i = 2 ∨ i = 3 ∨ i = 4 ∨ i = 5 ∨ i = 6 ∨ i = 7 ∨ i = 8 ∨ i = 9 ∨ i = 10 ∨ i = 11 ∨ i = 12 ∨ i = 13) with rfl | rfl | rfl | rfl | rfl | rfl | rfl | rfl | rfl | rfl | rfl | rfl | rfl | rfl <;> rfl
  apply List.ext_getElem?
  intro j
  by_cases hj : j < 42
  · have e1 : ∀ l : List Value, l[j]? = ((l.drop (j / 3 * 3)).take 3)[j % 3]? := by
      intro l
      rw [List.getElem?_take_of_lt (by omega), List.getElem?_drop]
      congr 1
      omega
    rw [e1 cs, e1 tyCells.toList, hch _ (by omega), hk _ (by omega)]
  · rw [List.getElem?_eq_none (by omega), List.getElem?_eq_none (by show tyCells.size ≤ j; have : tyCells.size = 42 := rfl; omega)]
theorem globT_of_laid {r : List (String × DataW Unit)} {W : World} (h : laidMet Tryd.prog (("almanacker/keviah.types", Rows.laid_almanacker_keviah_types) :: ("almanacker/month.plain", Rows.laid_almanacker_month_plain) :: r) W) : GlobT W := by
  have h2 := h.tail
  rw [plain_data] at h2
  have hp : W.var? Tryd.prog "almanacker/month.plain" = some plainCells := Lib.tabIs_of_head gPlain tPlain Tryd.underlying184 Tryd.underlying3 (by kernel_rfl) (by kernel_rfl) h2
  obtain ⟨ps, ⟨g', t', cs, fuel, p, q, hg', ht', hvar, hd, _, _⟩, _⟩ := h
  obtain rfl := Option.some.inj (gTypes.symm.trans hg')
  obtain rfl := Option.some.inj (tTypes.symm.trans ht')
  have hcs := cells_of_types hd types_data
  refine ⟨holds_of_var gTypes ?_, holds_of_var gPlain hp⟩
  rw [hvar]
  congr 1
  exact Array.toList_inj.1 hcs
end Go.Proofs.YtflpddhoiafhcaaDoor
end

section
/- What the library's variables hold that strconv reads: a world in which they read as their text lays them, and that a call which leaves elder memory alone keeps this. -/
namespace Go.Proofs.YtflpddhoiafhcaaDoor
open Go.RowKit Go.Proofs.YtflpddhoiafhcaaDoorW.PrintWords
theorem gPow : Tryd.prog.globalNamed "internal/strconv.uint64pow10" = some 5 := by kernel_rfl
theorem gSyn : Tryd.prog.globalNamed "strconv.ErrSyntax" = some 1 := by kernel_rfl
theorem gRng : Tryd.prog.globalNamed "strconv.ErrRange" = some 2 := by kernel_rfl
/-- strconv's table and its two errors. -/
structure GlobS (w : World) : Prop where
  tab : Lib.TabIs Tryd.prog w "internal/strconv.uint64pow10" .u64 Lib.pow10Tab
  syn : ∃ tp p, w.var? Tryd.prog "strconv.ErrSyntax" = some #[.iface tp p]
  rng : ∃ tp p, w.var? Tryd.prog "strconv.ErrRange" = some #[.iface tp p]
theorem GlobS.below {w w' : World} (g : GlobS w) (h : Below w.heap.size w w') : GlobS w' := by
  obtain ⟨h1, ⟨t2, p2, h2⟩, ⟨t3, p3, h3⟩⟩ := g
  exact ⟨Joins.var_stays gPow h1 h (Nat.le_refl _), ⟨t2, p2, Joins.var_stays gSyn h2 h (Nat.le_refl _)⟩, ⟨t3, p3, Joins.var_stays gRng h3 h (Nat.le_refl _)⟩⟩
theorem GlobS.drawn {w w' : World} (g : GlobS w) (h : Drawn0 w w') : GlobS w' := g.below h.below
end Go.Proofs.YtflpddhoiafhcaaDoor
end

section
/- What the row's listed variables give the walks: strconv's table and its two errors. -/
namespace Go.Proofs.YtflpddhoiafhcaaDoor
open Go.RowKit Go.ChangeShapes
theorem tPow : (Tryd.prog.globals[5]?).map (·.type) = some 196 := by kernel_rfl
theorem tSyn : (Tryd.prog.globals[1]?).map (·.type) = some 68 := by kernel_rfl
theorem tRng : (Tryd.prog.globals[2]?).map (·.type) = some 68 := by kernel_rfl
theorem star_es : "*" ++ "errors.errorString" = "*errors.errorString" := by decide
theorem row_es (u : TypeId) (h : Tryd.prog.typeName? 3 u = some "*errors.errorString") : u = 200 :=
  typeName_ptr_named (nm := "errors.errorString") (by rw [star_es]; kernel_rfl) (by kernel_rfl) (by decide) u (by rw [star_es]; exact h)
theorem pow_data : (Rows.laid_internal_strconv_uint64pow10 : DataW Unit) = Lib.tabData .u64 Lib.pow10Tab := by kernel_rfl
end Go.Proofs.YtflpddhoiafhcaaDoor
end

section
/- The months' names: what the package-level variable holds that name.Month and name.codes read; and which name a code has. -/
namespace Go.Proofs.YtflpddhoiafhcaaDoor
open Go.RowKit Go.Proofs.YtflpddhoiafhcaaDoorW.PrintWords
namespace Cal
def nameList : List ByteArray := [⟨#[84, 105, 115, 104, 114, 105]⟩, ⟨#[72, 101, 115, 104, 118, 97, 110]⟩, ⟨#[75, 105, 115, 108, 101, 118]⟩, ⟨#[84, 101, 118, 101, 116]⟩, ⟨#[83, 104, 101, 118, 97, 116]⟩, ⟨#[65, 100, 97, 114]⟩,
  ⟨#[78, 105, 115, 97, 110]⟩, ⟨#[73, 121, 97, 114]⟩, ⟨#[83, 105, 118, 97, 110]⟩, ⟨#[84, 97, 109, 109, 117, 122]⟩, ⟨#[65, 118]⟩, ⟨#[69, 108, 117, 108]⟩]
def adar1 : ByteArray := ⟨#[65, 100, 97, 114, 32, 73]⟩
def adar2 : ByteArray := ⟨#[65, 100, 97, 114, 32, 73, 73]⟩
/-- The name of a code from 1 to 12 (counted from 0 on). -/
def nameAt (i : Int) : ByteArray := nameList.getD i.toNat ⟨#[]⟩
end Cal
def nameCells : Array Value := (Cal.nameList.map Value.string).toArray
/-- The names. -/
structure GlobN (w : World) : Prop where
  names : Holds 0 nameCells w
  maxLen : ∃ m, w.cell? ⟨4, 0, none⟩ = some (.int .i64 m)
theorem GlobN.below {w w' : World} (g : GlobN w) (h : Below w.heap.size w w') : GlobN w' := ⟨g.names.below h, g.maxLen.imp fun _ hm => keep_cell h hm⟩
theorem GlobN.drawn {w w' : World} (g : GlobN w) (h : Drawn0 w w') : GlobN w' := g.below h.below
theorem GlobN.at_ {w : World} (g : GlobN w) (i : Int) (h0 : 0 ≤ i) (h1 : i < 12) : w.cell? ⟨0, i.toNat, none⟩ = some (.string (Cal.nameAt i)) := by
  rw [g.names.cell]
  have key : ∀ j, j < 12 → nameCells[j]? = some (.string (Cal.nameList.getD j ⟨#[]⟩)) := by
    intro j hj
    rcases (by omega : j = 0 ∨ j = 1 ∨ j = 2 ∨ j = 3 ∨ j = 4 ∨ j = 5 ∨ j = 6 ∨ j = 7 ∨ j = 8 ∨ j = 9 ∨ j = 10 ∨ j = 11) with rfl | rfl | rfl | rfl | rfl | rfl | rfl | rfl | rfl | rfl | rfl | rfl <;> rfl
  exact key _ (by omega)
theorem GlobN.adar {w : World} (g : GlobN w) : w.cell? ⟨0, 5, none⟩ = some (.string (Cal.nameAt 5)) := g.at_ 5 (by decide) (by decide)
end Go.Proofs.YtflpddhoiafhcaaDoor
end

section
/- A row's contract that is handed the listed variables' condition and the world's shape (for internal/bytealg.MaxLen, which holds some number by its shape). -/
namespace Go.Proofs.YtflpddhoiafhcaaDoor
open Go.RowKit Go.ChangeShapes
theorem maxLen_of {W : World} (h : W.ShapedOpen Tryd.prog) : ∃ m, W.cell? ⟨4, 0, none⟩ = some (.int .i64 m) := by
  exact cell_of_shapedOpen_int (t := 3) (zero := #[.int .i64 0]) h (by decide +kernel) (by kernel_rfl) rfl (by kernel_rfl) (by kernel_rfl) Tryd.underlying3
variable {H : Type} {enc : TypeId × Value → H}
theorem returns_and_shaped {a : Assume} {C : Checked} {os : Os} {f : FuncId} {fn : Func} {s : ChangeSpec} {conds : List PathCond} {apart fresh handsOn again : Bool} {X : World → Array Value → Prop}
    (hX : ∀ (w w' : World) (args : Array Value), w.heap = w'.heap → X w args → X w' args)
    (own : ownKnob C.prog.godebug = none) (started : os.Started) (noInit : C.prog.inits.idxOf? f = none) (hfn : C.prog.funcs[f]? = some fn)
    (witness : ∃ (w : World) (tape : Tape) (i : Input), w.os = os ∧ (w.forCall tape i).Shaped C.prog ∧ i.vars = [] ∧ Input.okWide C.prog (w.forCall tape i) .any w.heap.size f i ∧
      ((s.pre enc C.prog fn conds apart (w.forCall tape i).memory i.args ∧ X (w.forCall tape i).memory i.args) ∧ sizedMet enc C.prog fn (OpenSpec.ofChange s) apart (w.forCall tape i).memory i.args) ∧ a.holds C.prog (lone (Frame.enter C.prog f i.args .normal) [] (w.forCall tape i)))
    (contract : ∀ (W : World) (base : Nat) (args : Array Value) (ds gs : List (DataW H)) (before : List MemPlace),
      (∀ (j : Nat) t v, fn.params[j]? = some t → args[j]? = some v → Value.okWide C.prog W .any base t v) →
      DataW.Whole enc C.prog fn.params.toList s.vars apart W args.toList ds gs before → X W args → W.ShapedOpen C.prog →
      Calls C.prog f args W fun e W' => ∃ v, e = .returned v ∧ s.post enc C.prog fn apart fresh handsOn again W args v W') :
    ReturnsInHanded a C os f .any (fun w args => (s.pre enc C.prog fn conds apart w args ∧ X w args) ∧ sizedMet enc C.prog fn (OpenSpec.ofChange s) apart w args) (s.post enc C.prog fn apart fresh handsOn again) := by
  refine returnsInHanded_of_calls own started noInit witness fun w tape i _ hsh _ hok hpre _ => ?_
  obtain ⟨_, _, _, fn', hfn', _, _, _, _, hval⟩ := hok
  have e : fn' = fn := Option.some.inj (hfn'.symm.trans hfn)
  subst e
  obtain ⟨⟨⟨ds, gs, before, hw, hc⟩, hx⟩, hz⟩ := hpre
  refine (contract (w.forCall tape i) w.heap.size i.args ds gs before hval (DataW.Whole.of_heap (w' := w.forCall tape i) (by rfl) hw) (hX _ _ _ (by rfl) hx) hsh).mono fun e W' ⟨v, he, hp⟩ => ?_
  subst he
  exact ChangeSpec.post_blind hp
end Go.Proofs.YtflpddhoiafhcaaDoor
end

section
/- What the row's listed variables give the walks of names: the calendar's tables, strconv's, the names. -/
namespace Go.Proofs.YtflpddhoiafhcaaDoor
open Go.RowKit Go.ChangeShapes
theorem gNames : Tryd.prog.globalNamed "almanacker/name.names" = some 0 := by kernel_rfl
theorem tNames : (Tryd.prog.globals[0]?).map (·.type) = some 106 := by kernel_rfl
theorem names_data : (Rows.laid_almanacker_name_names : DataW Unit) = .agg (Cal.nameList.map fun b => .lit (.string b.data.toList)) := by kernel_rfl
theorem cn12 : Tryd.prog.cellsOf 106 = 12 := by kernel_rfl
theorem cn1 : Tryd.prog.cellsOf 9 = 1 := by kernel_rfl
set_option maxRecDepth 100000 in
theorem cells_of_names {enc : TypeId × Value → Unit} {w : World} {base : Nat} {spare : Nat → Bool} {held : Bool} {k : Nat} {cs : List Value} {x : DataW Unit × List MemPlace}
    (h : DataW.trod enc Tryd.prog w base spare held k 106 cs = some x) (hx : x.1 = .agg (Cal.nameList.map fun b => .lit (.string b.data.toList))) : cs = nameCells.toList := by
  obtain ⟨xs, m, rfl, rfl, hlen, hn, hel⟩ := DataW.trod_array Tryd.underlying106 h
  rw [cn12] at hlen
  have hx' : xs.map (·.1) = Cal.nameList.map fun b => .lit (.string b.data.toList) := by simpa using hx
  have hch : ∀ i, i < 12 → cs[i]? = some (.string (Cal.nameList.getD i ⟨#[]⟩)) := by
    intro i hi
    have h1 := hel i hi
    rw [cn1] at h1
    have hi2 : i < xs.length := by omega
    have hi3 : i < Cal.nameList.length := hi
    rw [List.getElem?_eq_getElem hi2] at h1
    have e : xs[i].1 = .lit (.string Cal.nameList[i].data.toList) := by
      have := congrArg (fun l => l[i]?) hx'
      simp only [List.getElem?_map] at this
      rw [List.getElem?_eq_getElem hi2, List.getElem?_eq_getElem hi3] at this
      simpa using this
    obtain ⟨s, es, hy, ws⟩ := DataW.trod_string Tryd.underlying9 h1
    rw [hy] at e
    simp only [DataW.lit.injEq, Lit.string.injEq] at e
    have hs : s = Cal.nameList[i] := ByteArray.ext (Array.toList_inj.1 e)
    have hg : Cal.nameList.getD i ⟨#[]⟩ = Cal.nameList[i] := by rw [List.getD_eq_getElem?_getD, List.getElem?_eq_getElem hi3]; rfl
    rw [hg, ← hs]
    have e0 : ((cs.drop (i * 1)).take 1)[0]? = some (.string s) := by rw [es]; rfl
    rw [List.getElem?_take_of_lt (by omega), List.getElem?_drop] at e0
    simpa using e0
  have hk : ∀ i, i < 12 → nameCells.toList[i]? = some (.string (Cal.nameList.getD i ⟨#[]⟩)) := by
    intro i hi
    rcases (by omega : i = 0 ∨ i = 1 ∨ i = 2 ∨ i = 3 ∨ i = 4 ∨ i = 5 ∨ i = 6 ∨ i = 7 ∨ i = 8 ∨ i = 9 ∨ i = 10 ∨ i = 11) with rfl | rfl | rfl | rfl | rfl | rfl | rfl | rfl | rfl | rfl | rfl | rfl <;> rfl
  apply List.ext_getElem?
  intro j
  by_cases hj : j < 12
  · rw [hch j hj, hk j hj]
  · rw [List.getElem?_eq_none (by omega), List.getElem?_eq_none (by show nameCells.size ≤ j; have : nameCells.size = 12 := rfl; omega)]
theorem globs_of_laid {r : List (String × DataW Unit)} {W : World} (x y : String × DataW Unit) (h : laidMet Tryd.prog (x :: y :: ("internal/strconv.uint64pow10", Rows.laid_internal_strconv_uint64pow10) :: ("almanacker/keviah.types", Rows.laid_almanacker_keviah_types) :: ("almanacker/month.plain", Rows.laid_almanacker_month_plain) :: ("strconv.ErrRange", Rows.laid_strconv_ErrRange) :: ("strconv.ErrSyntax", Rows.laid_strconv_ErrSyntax) :: ("almanacker/name.names", Rows.laid_almanacker_name_names) :: r) W) (hsh : W.ShapedOpen Tryd.prog) : GlobN W ∧ GlobS W ∧ GlobT W := by
  have h3 := h.tail.tail
  have hT := globT_of_laid h3.tail
  rw [pow_data] at h3
  have h6 := h3.tail.tail.tail
  have h7 := h6.tail
  obtain ⟨ps, ⟨g', t', cs, fuel, p, q, hg', ht', hvar, hd, _, _⟩, _⟩ := h7.tail
  obtain rfl := Option.some.inj (gNames.symm.trans hg')
  obtain rfl := Option.some.inj (tNames.symm.trans ht')
  have hcs := cells_of_names hd names_data
  obtain ⟨a0, s0, hv0, -, -, -⟩ := laid_sentinel h6 gRng tRng Tryd.underlying68 row_es Tryd.underlying200 Tryd.underlying202 rfl rfl Tryd.underlying9 (by kernel_rfl) (by kernel_rfl)
  obtain ⟨a1, s1, hv1, -, -, -⟩ := laid_sentinel h7 gSyn tSyn Tryd.underlying68 row_es Tryd.underlying200 Tryd.underlying202 rfl rfl Tryd.underlying9 (by kernel_rfl) (by kernel_rfl)
  refine ⟨⟨holds_of_var gNames ?_, maxLen_of hsh⟩, ⟨Lib.tabIs_of_head gPow tPow Tryd.underlying196 Tryd.underlying164 (by kernel_rfl) (by kernel_rfl) h3, ⟨_, _, hv1⟩, ⟨_, _, hv0⟩⟩, hT⟩
  rw [hvar]
  congr 1
  exact Array.toList_inj.1 hcs
end Go.Proofs.YtflpddhoiafhcaaDoor
end

section
/-
  DERIVED: THE SHELF's CONTRACTS AT THIS DUMP, IN PLAIN WORDS (tools/lay-plain.mjs out of 'YtflpddhoiafhcaaDoorShlMul.lean', which tools/lay-shelf.mjs wrote): THE SAME DECLARATIONS UNDER THE SAME NAMES: 'import', 'namespace', 'open', 'def', 'theorem' AND NOTHING ELSE: no command of the shelf's: FOR A HAND-IN. Each laying: the table of numbers ('.._ren') and one theorem, a field a fact of the dump's own or the kernel's comparison; each contract: ONE APPLICATION.
-/
namespace Go.Proofs
open Go.Shelf
def Tryd.lays264_ren : Go.Shelf.Ren := ⟨fun | 264 => 200 | n => n, fun | 53 => 164 | 46 => 122 | n => n, fun | n => n⟩
theorem Tryd.lays264 : Go.Proofs.Lays.n264 Tryd.prog Tryd.lays264_ren := {
  mixed := by kernel_rfl
  f264 := Tryd.func200.trans (congrArg some (by kernel_rfl))
  t46 := Tryd.underlying122
  a46 := Tryd.isAgg122
  z46 := Tryd.sizeOf122
  v46 := Tryd.zeroValue122
  t53 := Tryd.underlying164
  a53 := Tryd.isAgg164
  z53 := Tryd.sizeOf164
  v53 := Tryd.zeroValue164 }
open Go.RowKit Go.Lib in
/-- math/bits.Mul64 by its contract. -/
theorem Tryd.bits_Mul64 (x y : Nat) (hx : x < 18446744073709551616) (hy : y < 18446744073709551616) (w : World) :
    Calls Tryd.prog 200 #[.int .u64 x, .int .u64 y] w fun e w' => e = .returned (.tuple #[.int .u64 ((x * y / 18446744073709551616 : Nat) : Int), .int .u64 ((x * y % 18446744073709551616 : Nat) : Int)]) ∧ w' = w := Any.bits_Mul64 Tryd.lays264 x y hx hy w
end Go.Proofs
end

section
/- The contract of the program's function behind the hole 'exact_Mul', by a walk over its text. -/
namespace Go.Proofs.YtflpddhoiafhcaaDoor.H
open Go.RowKit Go.Proofs.YtflpddhoiafhcaaDoorW.PrintWords Go.Proofs.YtflpddhoiafhcaaDoorW.PrintLast Go.Proofs.YtflpddhoiafhcaaDoorW.PrintMore
attribute [local go_sem] max2_int min2_int max_two min_two max_three min_three max_four min_four
set_option linter.unusedVariables false
set_option linter.unusedSimpArgs false
theorem exact_size_pos (n : Int) (h0 : ¬ n < 0) (h1 : n ≤ 1073741824) (w : World) :
    Calls Tryd.prog 201 #[.int .i64 n] w fun e w' => e = .returned (.int .u64 n) ∧ w = w' := by
  have hd : decide (n < 0) = false := by simp; omega
  go_enter Tryd.func201, Tryd.ntmps201
  go_wp2
  go_ret
  exact ⟨rfl, rfl⟩
theorem exact_size_neg (n : Int) (h0 : n < 0) (h1 : -1073741824 ≤ n) (w : World) :
    Calls Tryd.prog 201 #[.int .i64 n] w fun e w' => e = .returned (.int .u64 (-n)) ∧ w = w' := by
  have hd : decide (n < 0) = true := by simp; omega
  have hb : -n ≤ 1073741824 := by omega
  have hc : 0 < -n := by omega
  go_enter Tryd.func201, Tryd.ntmps201
  go_wp2
  go_ret
  refine ⟨?_, rfl⟩
  simp [IntKind.wrap, IntKind.bits, IntKind.signed]
  omega
/-- Of two numbers below 2 ^ 31: nothing high, and the product. -/
theorem exact_mul64 (x y p : Int) (hx0 : 0 ≤ x) (hx1 : x ≤ 1073741824) (hy0 : 0 ≤ y) (hy1 : y ≤ 1073741824) (hp : x * y = p) (w : World) :
    Calls Tryd.prog 200 #[.int .u64 x, .int .u64 y] w fun e w' => e = .returned (.tuple #[.int .u64 0, .int .u64 p]) ∧ w = w' := by
  have h := Tryd.bits_Mul64 x.toNat y.toNat (by omega) (by omega) w
  have hq : ((x.toNat * y.toNat : Nat) : Int) = p := by rw [← hp, Int.natCast_mul, Int.toNat_of_nonneg hx0, Int.toNat_of_nonneg hy0]
  have hb : x.toNat * y.toNat ≤ 1073741824 * 1073741824 := Nat.mul_le_mul (by omega) (by omega)
  rw [Int.toNat_of_nonneg hx0, Int.toNat_of_nonneg hy0] at h
  refine h.mono ?_
  rintro e w' ⟨rfl, rfl⟩
  refine ⟨?_, rfl⟩
  rw [Nat.div_eq_of_lt (by omega), Nat.mod_eq_of_lt (by omega), hq]
  rfl
theorem exact_prod_bd (x y : Int) (hx0 : 0 ≤ x) (hx1 : x ≤ 1073741824) (hy0 : 0 ≤ y) (hy1 : y ≤ 1073741824) : 0 ≤ x * y ∧ x * y ≤ 1152921504606846976 :=
  ⟨Int.mul_nonneg hx0 hy0, Int.le_trans (Int.mul_le_mul hx1 hy1 hy0 (by omega)) (by decide)⟩
def exact_Mul.f (a0 : Int) (a1 : Int) : Option (Int × Int) := if -1073741824 ≤ a0 ∧ a0 ≤ 1073741824 ∧ -1073741824 ≤ a1 ∧ a1 ≤ 1073741824 then some (a0 * a1, 0) else none
theorem exact_mul_all (a b p : Int) (ha0 : -1073741824 ≤ a) (ha1 : a ≤ 1073741824) (hb0 : -1073741824 ≤ b) (hb1 : b ≤ 1073741824) (hp : a * b = p) (w : World) :
    Calls Tryd.prog 196 #[.int .i64 a, .int .i64 b] w fun e w' => e = .returned (.tuple #[.int .i64 p, .int .i64 0]) ∧ w = w' := by
  by_cases ca : a < 0 <;> by_cases cb : b < 0
  · have bd := exact_prod_bd (-a) (-b) (by omega) (by omega) (by omega) (by omega)
    have hq : -a * -b = p := by rw [Int.neg_mul_neg]; exact hp
    rw [hq] at bd
    obtain ⟨bd0, bd1⟩ := bd
    have HQ := Aside0.mk hq
    have hda : decide (a < 0) = true := by simp; omega
    have hdb : decide (b < 0) = true := by simp; omega
    have hm : decide (9223372036854775807 < p) = false := by simp; omega
    clear hp hq
    go_enter Tryd.func196, Tryd.ntmps196
    go_wp2_with fail
    refine (exact_size_neg a (by omega) ha0 _).mono ?_; rintro e w' ⟨rfl, rfl⟩
    go_wp2_with fail
    refine (exact_size_neg b (by omega) hb0 _).mono ?_; rintro e w' ⟨rfl, rfl⟩
    go_wp2_with fail
    refine (exact_mul64 (-a) (-b) p (by omega) (by omega) (by omega) (by omega) HQ.out _).mono ?_; rintro e w' ⟨rfl, rfl⟩
    go_wp2
    go_ret2
    exact ⟨rfl, rfl⟩
  · have bd := exact_prod_bd (-a) b (by omega) (by omega) (by omega) (by omega)
    obtain ⟨q, hq⟩ : ∃ q, -a * b = q := ⟨_, rfl⟩
    obtain rfl : p = -q := by rw [← hp, ← hq, Int.neg_mul, Int.neg_neg]
    rw [hq] at bd
    obtain ⟨bd0, bd1⟩ := bd
    have HQ := Aside0.mk hq
    have hda : decide (a < 0) = true := by simp; omega
    have hdb : decide (b < 0) = false := by simp; omega
    have hm : decide (9223372036854775808 < q) = false := by simp; omega
    clear hp hq
    go_enter Tryd.func196, Tryd.ntmps196
    go_wp2_with fail
    refine (exact_size_neg a (by omega) ha0 _).mono ?_; rintro e w' ⟨rfl, rfl⟩
    go_wp2_with fail
    refine (exact_size_pos b (by omega) hb1 _).mono ?_; rintro e w' ⟨rfl, rfl⟩
    go_wp2_with fail
    refine (exact_mul64 (-a) b q (by omega) (by omega) (by omega) (by omega) HQ.out _).mono ?_; rintro e w' ⟨rfl, rfl⟩
    go_wp2
    go_ret2
    refine ⟨?_, rfl⟩
    simp [IntKind.wrap, IntKind.bits, IntKind.signed]
    unfold wrap64
    omega
  · have bd := exact_prod_bd a (-b) (by omega) (by omega) (by omega) (by omega)
    obtain ⟨q, hq⟩ : ∃ q, a * -b = q := ⟨_, rfl⟩
    obtain rfl : p = -q := by rw [← hp, ← hq, Int.mul_neg, Int.neg_neg]
    rw [hq] at bd
    obtain ⟨bd0, bd1⟩ := bd
    have HQ := Aside0.mk hq
    have hda : decide (a < 0) = false := by simp; omega
    have hdb : decide (b < 0) = true := by simp; omega
    have hm : decide (9223372036854775808 < q) = false := by simp; omega
    clear hp hq
    go_enter Tryd.func196, Tryd.ntmps196
    go_wp2_with fail
    refine (exact_size_pos a (by omega) ha1 _).mono ?_; rintro e w' ⟨rfl, rfl⟩
    go_wp2_with fail
    refine (exact_size_neg b (by omega) hb0 _).mono ?_; rintro e w' ⟨rfl, rfl⟩
    go_wp2_with fail
    refine (exact_mul64 a (-b) q (by omega) (by omega) (by omega) (by omega) HQ.out _).mono ?_; rintro e w' ⟨rfl, rfl⟩
    go_wp2
    go_ret2
    refine ⟨?_, rfl⟩
    simp [IntKind.wrap, IntKind.bits, IntKind.signed]
    unfold wrap64
    omega
  · have bd := exact_prod_bd a b (by omega) (by omega) (by omega) (by omega)
    have HQ := Aside0.mk hp
    rw [hp] at bd
    obtain ⟨bd0, bd1⟩ := bd
    have hda : decide (a < 0) = false := by simp; omega
    have hdb : decide (b < 0) = false := by simp; omega
    have hm : decide (9223372036854775807 < p) = false := by simp; omega
    clear hp
    go_enter Tryd.func196, Tryd.ntmps196
    go_wp2_with fail
    refine (exact_size_pos a (by omega) ha1 _).mono ?_; rintro e w' ⟨rfl, rfl⟩
    go_wp2_with fail
    refine (exact_size_pos b (by omega) hb1 _).mono ?_; rintro e w' ⟨rfl, rfl⟩
    go_wp2_with fail
    refine (exact_mul64 a b p (by omega) (by omega) (by omega) (by omega) HQ.out _).mono ?_; rintro e w' ⟨rfl, rfl⟩
    go_wp2
    go_ret2
    exact ⟨rfl, rfl⟩
theorem exact_Mul.calls (a0 : Int) (a1 : Int) (r1 : Int) (r2 : Int) (w : World) (h : exact_Mul.f a0 a1 = some (r1, r2)) :
    Calls Tryd.prog 196 #[.int .i64 a0, .int .i64 a1] w fun e w' => e = .returned (.tuple #[.int .i64 r1, .int .i64 r2]) ∧ Drawn0 w w' := by
  unfold exact_Mul.f at h
  split at h
  · rename_i hc
    simp only [Option.some.injEq, Prod.mk.injEq] at h
    obtain ⟨h1, h2⟩ := h
    subst h2
    exact (exact_mul_all a0 a1 r1 hc.1 hc.2.1 hc.2.2.1 hc.2.2.2 h1 w).mono fun e w' ⟨he, hw⟩ => ⟨he, hw ▸ Drawn0.refl _⟩
  · cases h
end Go.Proofs.YtflpddhoiafhcaaDoor.H
end

section
/-
  DERIVED: THE SHELF's CONTRACTS AT THIS DUMP, IN PLAIN WORDS (tools/lay-plain.mjs out of 'YtflpddhoiafhcaaDoorShlKev.lean', which tools/lay-shelf.mjs wrote): THE SAME DECLARATIONS UNDER THE SAME NAMES: 'import', 'namespace', 'open', 'def', 'theorem' AND NOTHING ELSE: no command of the shelf's: FOR A HAND-IN. Each laying: the table of numbers ('.._ren') and one theorem, a field a fact of the dump's own or the kernel's comparison; each contract: ONE APPLICATION.
-/
namespace Go.Proofs
open Go.Shelf
def Tryd.indexKev_ren : Go.Shelf.Ren := ⟨fun | 6 => 184 | n => n, fun | 22 => 204 | 24 => 111 | 3 => 3 | 0 => 0 | 4 => 4 | n => n, fun | n => n⟩
theorem Tryd.indexKev : Go.Proofs.SlLaysQ.n6 Tryd.prog Tryd.indexKev_ren := {
  mixed := by kernel_rfl
  f6 := ⟨Tryd.f184.name, by decide, Tryd.func184.trans (congrArg some (by kernel_rfl))⟩
  t0 := Tryd.underlying0
  a0 := Tryd.isAgg0
  z0 := Tryd.sizeOf0
  v0 := Tryd.zeroValue0
  t3 := Tryd.underlying3
  a3 := Tryd.isAgg3
  z3 := Tryd.sizeOf3
  v3 := Tryd.zeroValue3
  t4 := Tryd.underlying4
  a4 := Tryd.isAgg4
  z4 := Tryd.sizeOf4
  v4 := Tryd.zeroValue4
  t22 := Tryd.underlying204
  a22 := Tryd.isAgg204
  z22 := Tryd.sizeOf204
  v22 := Tryd.zeroValue204 }
end Go.Proofs
end

section
/- The contract of the program's function behind the hole 'month_of', by a walk over its text. -/
namespace Go.Proofs.YtflpddhoiafhcaaDoor.H
open Go.RowKit Go.Proofs.YtflpddhoiafhcaaDoorW.PrintWords Go.Proofs.YtflpddhoiafhcaaDoorW.PrintLast Go.Proofs.YtflpddhoiafhcaaDoorW.PrintMore
attribute [local go_sem] max2_int min2_int max_two min_two max_three min_three max_four min_four
set_option linter.unusedVariables false
set_option linter.unusedSimpArgs false
/-- The model's '==' of two types. -/
theorem kev_eq : EqlAt Tryd.prog 111 (fun x => .agg (encK x).toArray) Cal.tyEq := by
  refine ⟨fun x y w => ?_, GuardAt.agg _ (by kernel_rfl)⟩
  have u3 := Tryd.underlying3
  have a3 := Tryd.isAgg3
  have z3 := Tryd.sizeOf3
  have u4 := Tryd.underlying4
  have a4 := Tryd.isAgg4
  have z4 := Tryd.sizeOf4
  have hS : Tryd.prog.underlying 111 = some (.struct (Tryd.prog.fieldsOf 111)) := by kernel_rfl
  have hp : Tryd.prog.stoodInHeld 111 = false := by kernel_rfl
  simp only [encK, Cal.tyEq]
  rw [run_eql_struct, show (10000 : Nat) = 9999 + 1 from rfl, run_equalIn_agg w 9999 111 _ _ hS hp]
  simp only [Program.fieldsOf, Tryd.underlying111]
  go_simp
  obtain ⟨x1, x2, x3⟩ := x
  obtain ⟨y1, y2, y3⟩ := y
  by_cases h1 : x1 = y1 <;> by_cases h2 : x2 = y2 <;> cases x3 <;> cases y3 <;> simp [h1, h2]
theorem idxBy_from (x : Int × Int × Bool) : ∀ (l : List (Int × Int × Bool)) (i : Nat), Go.Lib.idxByFrom Cal.tyEq x l i = if Cal.idxFrom x l ((i : Int) + 1) = 0 then -1 else Cal.idxFrom x l ((i : Int) + 1) - 1
  | [], i => by simp [Go.Lib.idxByFrom, Cal.idxFrom]
  | y :: r, i => by
    unfold Go.Lib.idxByFrom Cal.idxFrom
    cases h : Cal.tyEq x y
    · simp only [Bool.false_eq_true, if_false]
      have := idxBy_from x r (i + 1)
      rw [this]
      rfl
    · simp only [if_true]
      rw [if_neg (by omega)]
      omega
theorem keviah_index (b k : Int) (l : Bool) (w : World) (HG : GlobT w) :
    Calls Tryd.prog 184 #[.slice (some ⟨6, 0, none⟩) 14 14, .agg #[.int .i64 b, .int .i64 k, .bool l]] w
      fun e w' => e = .returned (.int .i64 (Cal.tyNum b k l - 1)) ∧ Below w.heap.size w w' := by
  have h := AnyQ.slices_Index Tryd.indexKev 3 Tryd.isAgg111 Tryd.sizeOf111 encK (fun _ => rfl) Cal.tyEq kev_eq 6 0 14 14 Cal.tyList (b, k, l) w (by decide) (by decide) HG.typesAt
  refine h.mono ?_
  rintro e w' ⟨rfl, q, rfl⟩
  refine ⟨?_, pw_below_drewN ((Below.refl _ _).alloc (Nat.le_refl _) _) q⟩
  have e1 : Go.Lib.idxBy Cal.tyEq (List.take 14 Cal.tyList) (b, k, l) = Cal.tyNum b k l - 1 := by
    rw [show List.take 14 Cal.tyList = Cal.tyList from rfl, Go.Lib.idxBy, idxBy_from]
    show (if Cal.tyNum b k l = 0 then -1 else Cal.tyNum b k l - 1) = _
    split <;> omega
  rw [e1]
theorem ty_bounds (b k : Int) (l : Bool) : 0 ≤ Cal.tyNum b k l ∧ Cal.tyNum b k l ≤ 14 := by
  simp only [Cal.tyNum, Cal.tyList, Cal.idxFrom]
  repeat' split
  all_goals omega
/-- What a walk holds of its world: elder memory stands; the variables read as laid; a block of three cells. -/
structure KBox (w : World) (g : Nat) (b k : Int) (l : Bool) (W : World) : Prop where
  below : Below w.heap.size w W
  ge : w.heap.size ≤ g
  glob : GlobT W
  c0 : W.cell? ⟨g, 0, none⟩ = some (.int .i64 b)
  c1 : W.cell? ⟨g, 1, none⟩ = some (.int .i64 k)
  c2 : W.cell? ⟨g, 2, none⟩ = some (.bool l)
theorem KBox.step {w : World} {g : Nat} {b k : Int} {l : Bool} {W W' : World} (h : KBox w g b k l W) (hb : Below W.heap.size W W') : KBox w g b k l W' :=
  ⟨h.below.trans (hb.mono h.below.size), h.ge, h.glob.below hb, keep_cell hb h.c0, keep_cell hb h.c1, keep_cell hb h.c2⟩
theorem KBox.drew {w : World} {g : Nat} {b k : Int} {l : Bool} {W : World} (h : KBox w g b k l W) : KBox w g b k l W.drew := h.step (below_drew (Below.refl _ _))
theorem KBox.begin {w : World} (HG : GlobT w) (b k : Int) (l : Bool) : KBox w w.heap.size b k l (w.alloc (.cells #[.int .i64 b, .int .i64 k, .bool l] 111)) := by
  have hb : Below w.heap.size w (w.alloc (.cells #[.int .i64 b, .int .i64 k, .bool l] 111)) := (Below.refl _ _).alloc (Nat.le_refl _) _
  refine ⟨hb, Nat.le_refl _, HG.below hb, ?_, ?_, ?_⟩ <;> (rw [World.cell?_alloc_at _ _ _ _ (by simp)]; rfl)
theorem ret_i64 {a b : Int} (h : a = b) : Ending.returned (.int .i64 a) = .returned (.int .i64 b) := by rw [h]
theorem i64_plain {n : Int} (h0 : 0 ≤ n) (h1 : n ≤ 14) : IntKind.i64.wrap n = n := IntWalk.i64_in n (by omega)
theorem keviah_number (b k n : Int) (l : Bool) (hn : Cal.tyNum b k l = n) (w : World) (HG : GlobT w) :
    Calls Tryd.prog 161 #[.agg #[.int .i64 b, .int .i64 k, .bool l]] w fun e w' => e = .returned (.int .i64 n) ∧ Below w.heap.size w w' := by
  obtain ⟨hb0, hb1⟩ := ty_bounds b k l
  rw [hn] at hb0 hb1
  have hcon : ∀ W, KBox w w.heap.size b k l W → Calls Tryd.prog 184 #[.slice (some ⟨6, 0, none⟩) 14 14, .agg #[.int .i64 b, .int .i64 k, .bool l]] W
      fun e w' => e = .returned (.int .i64 (n - 1)) ∧ Below W.heap.size W w' := fun W hW => by
    have := keviah_index b k l W hW.glob; rwa [hn] at this
  have HC := Aside0.mk hcon
  have HK := Aside0.mk (KBox.begin HG b k l)
  clear hcon hn HG
  go_enter Tryd.func161, Tryd.ntmps161
  go_wp2_with fail
  go_region_held3 (fun W => KBox w w.heap.size b k l W ∧ W.cell? ⟨w.heap.size, 0, none⟩ = some (.int .i64 b) ∧ W.cell? ⟨w.heap.size, 1, none⟩ = some (.int .i64 k) ∧ W.cell? ⟨w.heap.size, 2, none⟩ = some (.bool l))
    (first | (have hz_ := HK.out.drew; exact ⟨hz_, hz_.c0, hz_.c1, hz_.c2⟩) | (have hz_ := KBox.step (And.left (by assumption)) hb; exact ⟨hz_, hz_.c0, hz_.c1, hz_.c2⟩))
    (first | (go_at_call 184; refine (HC.out _ (And.left (by assumption))).mono ?_; rintro e w' ⟨rfl, hb⟩))
  have hB := Aside0.mk (And.left (‹KBox w w.heap.size b k l _ ∧ _›)).below
  go_wp2
  go_ret
  exact ⟨ret_i64 (i64_plain hb0 hb1), hB.out⟩
/-- A month is put into a table that lies in block g. -/
theorem table_add (g n : Nat) (d : Int) (cs : Array Value) (w : World) (hn : n < 13) (hs : cs.size = 14) (hc : cs[13]? = some (.int .i64 n)) (hg : w.heap[g]? = some (.cells cs 149 (0, 0))) :
    Calls Tryd.prog 162 #[.pointer (some ⟨g, 0, none⟩), .int .i64 d] w
      fun e w' => e = .returned (.tuple #[]) ∧ w'.heap[g]? = some (.cells ((cs.setIfInBounds n (.int .i64 d)).setIfInBounds 13 (.int .i64 (n + 1))) 149 (0, 0)) ∧ Below g w w' := by
  have h0 : (0 : Int) ≤ n := by omega
  have h1 : (n : Int) < 13 := by omega
  have c1 : w.cell? ⟨g, 13, none⟩ = some (.int .i64 n) := (blk_cell hg 13).trans hc
  obtain ⟨v, hv⟩ : ∃ v, cs[n]? = some v := ⟨_, Array.getElem?_eq_getElem (by omega)⟩
  have c2 : w.cell? ⟨g, n, none⟩ = some v := (blk_cell hg n).trans hv
  have f2 : w.frozen? ⟨g, n, none⟩ = false := blk_frozen hg n
  have hg1 : (w.setCell ⟨g, n, none⟩ (.int .i64 d)).heap[g]? = some (.cells (cs.setIfInBounds n (.int .i64 d)) 149 (0, 0)) := blk_set hg n _
  have c3 : (w.setCell ⟨g, n, none⟩ (.int .i64 d)).cell? ⟨g, 13, none⟩ = some (.int .i64 n) := (blk_cell hg1 13).trans (by rw [Array.getElem?_setIfInBounds_ne (by omega)]; exact hc)
  have f3 : (w.setCell ⟨g, n, none⟩ (.int .i64 d)).frozen? ⟨g, 13, none⟩ = false := blk_frozen hg1 13
  have hg2 : ((w.setCell ⟨g, n, none⟩ (.int .i64 d)).setCell ⟨g, 13, none⟩ (.int .i64 (n + 1))).heap[g]? = some (.cells ((cs.setIfInBounds n (.int .i64 d)).setIfInBounds 13 (.int .i64 (n + 1))) 149 (0, 0)) := blk_set hg1 13 _
  have HG2 := Aside0.mk hg2
  clear hc hv hg hg1 hg2 hs
  go_enter Tryd.func162, Tryd.ntmps162
  go_wp2
  go_region
  go_wp2
  go_end0
  exact ⟨rfl, HG2.out, (((Below.refl g w).setCell (p := ⟨g, n, none⟩) (Nat.le_refl g) _).drew).setCell (p := ⟨g, 13, none⟩) (Nat.le_refl g) _⟩
/-- The cells of a table that holds these months. -/
def tcells (ms : List Int) : Array Value := ((ms ++ List.replicate (13 - ms.length) 0).map (fun n => Value.int .i64 n) ++ [.int .i64 ms.length]).toArray
theorem tcells_size (ms : List Int) (h : ms.length ≤ 13) : (tcells ms).size = 14 := by simp [tcells]; omega
theorem tcells_one (ms : List Int) : (tcells ms).all (·.oneCell') = true := by
  rw [Array.all_eq_true_iff_forall_mem]
  intro v hv
  simp only [tcells, List.mem_toArray, List.mem_append, List.mem_map, List.mem_singleton] at hv
  rcases hv with ⟨n, _, rfl⟩ | rfl <;> rfl
theorem tcells_last (ms : List Int) (h : ms.length ≤ 13) : (tcells ms)[13]? = some (.int .i64 ms.length) := by
  simp only [tcells, List.getElem?_toArray]
  rw [List.getElem?_append_right (by simp; omega)]
  have e : ((ms ++ List.replicate (13 - ms.length) 0).map (fun n => Value.int .i64 n)).length = 13 := by simp; omega
  rw [e]
  rfl
theorem tcells_snoc (ms : List Int) (d : Int) (h : ms.length < 13) :
    ((tcells ms).setIfInBounds ms.length (.int .i64 d)).setIfInBounds 13 (.int .i64 (ms.length + 1)) = tcells (ms ++ [d]) := by
  apply Array.ext_getElem?
  intro i
  have hs := tcells_size ms (by omega)
  by_cases h13 : i = 13
  · subst h13
    rw [Array.getElem?_setIfInBounds_self_of_lt (by rw [Array.size_setIfInBounds]; omega), tcells_last _ (by simp; omega)]
    simp
  · rw [Array.getElem?_setIfInBounds_ne (by omega)]
    by_cases hi : i = ms.length
    · subst hi
      rw [Array.getElem?_setIfInBounds_self_of_lt (by omega)]
      simp only [tcells, List.getElem?_toArray]
      rw [List.getElem?_append_left (by simp only [List.length_map, List.length_append, List.length_replicate, List.length_cons, List.length_nil]; omega)]
      simp
    · rw [Array.getElem?_setIfInBounds_ne (by omega)]
      simp only [tcells, List.getElem?_toArray]
      by_cases hl : i < 13
      · rw [List.getElem?_append_left (by simp; omega), List.getElem?_append_left (by simp only [List.length_map, List.length_append, List.length_replicate, List.length_cons, List.length_nil]; omega)]
        rw [List.getElem?_map, List.getElem?_map]
        congr 1
        by_cases hm : i < ms.length
        · rw [List.getElem?_append_left hm, List.append_assoc, List.getElem?_append_left hm]
        · rw [List.getElem?_append_right (by omega), List.getElem?_append_right (by simp; omega)]
          simp only [List.length_append, List.length_cons, List.length_nil]
          rw [List.getElem?_replicate, List.getElem?_replicate, if_pos (by omega), if_pos (by omega)]
      · rw [List.getElem?_eq_none (by simp; omega), List.getElem?_eq_none (by simp; omega)]
theorem table_add_list (g : Nat) (d : Int) (ms : List Int) (w : World) (hn : ms.length < 13) (hg : w.heap[g]? = some (.cells (tcells ms) 149 (0, 0))) :
    Calls Tryd.prog 162 #[.pointer (some ⟨g, 0, none⟩), .int .i64 d] w
      fun e w' => e = .returned (.tuple #[]) ∧ w'.heap[g]? = some (.cells (tcells (ms ++ [d])) 149 (0, 0)) ∧ Below g w w' := by
  refine (table_add g ms.length d (tcells ms) w hn (tcells_size ms (by omega)) (tcells_last ms (by omega)) hg).mono ?_
  rintro e w' ⟨he, h1, h2⟩
  exact ⟨he, (by rw [tcells_snoc ms d hn] at h1; exact h1), h2⟩
/-- An element of the months' table. -/
theorem plain_at (i : Nat) (h : i < 12) (w : World) : (Instr.index 184 (.agg plainCells) (.int .i64 i)).run Tryd.prog w = .ok (.int .i64 (Cal.plainList.getD i 0)) w := by
  rcases (by omega : i = 0 ∨ i = 1 ∨ i = 2 ∨ i = 3 ∨ i = 4 ∨ i = 5 ∨ i = 6 ∨ i = 7 ∨ i = 8 ∨ i = 9 ∨ i = 10 ∨ i = 11) with rfl | rfl | rfl | rfl | rfl | rfl | rfl | rfl | rfl | rfl | rfl | rfl <;> kernel_rfl
theorem plain_bd (i : Nat) (h : i < 12) : 29 ≤ Cal.plainList.getD i 0 ∧ Cal.plainList.getD i 0 ≤ 30 := by
  rcases (by omega : i = 0 ∨ i = 1 ∨ i = 2 ∨ i = 3 ∨ i = 4 ∨ i = 5 ∨ i = 6 ∨ i = 7 ∨ i = 8 ∨ i = 9 ∨ i = 10 ∨ i = 11) with rfl | rfl | rfl | rfl | rfl | rfl | rfl | rfl | rfl | rfl | rfl | rfl <;> simp [Cal.plainList]
theorem pre_lt (k : Int) (l : Bool) (i : Nat) (h : i < 12) : (Cal.pre k l i).length < 13 := by
  have := Cal.pre_len k l i
  split at this <;> omega
theorem pre_lt5 (k : Int) (i : Nat) (h : i = 5) : (Cal.pre k true i ++ [30]).length < 13 := by
  have := Cal.pre_len k true i
  rw [List.length_append, List.length_singleton]
  split at this <;> omega
theorem pre_five (k d : Int) (i : Nat) (h : i = 5) (hd : Cal.plainList.getD i 0 = d) : Cal.pre k true (i + 1) = Cal.pre k true i ++ [30] ++ [d] := by
  subst h
  rw [← hd]
  rfl
theorem pre_else (k d : Int) (l : Bool) (i : Nat) (h5 : ¬ (i = 5 ∧ l = true)) (h1 : ¬ (i = 1 ∧ k = 2)) (h2 : ¬ (i = 2 ∧ k = 0)) (hd : Cal.plainList.getD i 0 = d) : Cal.pre k l (i + 1) = Cal.pre k l i ++ [d] := by
  rw [Cal.pre, if_neg h5, if_neg h1, if_neg h2, hd, List.append_nil]
theorem pre_one (k d : Int) (l : Bool) (i : Nat) (h1 : i = 1) (hk : k = 2) (hd : Cal.plainList.getD i 0 = d) : Cal.pre k l (i + 1) = Cal.pre k l i ++ [d + 1] := by
  subst h1 hk
  rw [← hd]
  simp [Cal.pre, Cal.plainList]
theorem pre_two (k d : Int) (l : Bool) (i : Nat) (h1 : i = 2) (hk : k = 0) (hd : Cal.plainList.getD i 0 = d) : Cal.pre k l (i + 1) = Cal.pre k l i ++ [d - 1] := by
  subst h1 hk
  rw [← hd]
  simp [Cal.pre, Cal.plainList]
/-- What is held of the world behind the first call. -/
structure OfAt (w : World) (b k : Int) (l : Bool) (W : World) : Prop where
  below : Below w.heap.size w W
  bx : W.heap[w.heap.size]? = some (.cells #[.int .i64 b, .int .i64 k, .bool l] 111 (0, 0))
  out : W.heap[w.heap.size + 1]? = some (.cells (tcells []) 149 (0, 0))
theorem OfAt.step {w : World} {b k : Int} {l : Bool} {W W' : World} {B : Nat} (h : OfAt w b k l W) (hb : Below B W W') (hB : w.heap.size + 2 ≤ B) : OfAt w b k l W' :=
  ⟨h.below.trans (hb.mono (by omega)), (hb.block _ (by omega)).trans h.bx, (hb.block _ (by omega)).trans h.out⟩
theorem OfAt.size {w : World} {b k : Int} {l : Bool} {W : World} (h : OfAt w b k l W) : w.heap.size + 2 ≤ W.heap.size := (Array.getElem?_eq_some_iff.1 h.out).1
theorem OfAt.begin (w : World) (b k : Int) (l : Bool) :
    OfAt w b k l ((w.alloc (.cells #[.int .i64 b, .int .i64 k, .bool l] 111)).alloc (.cells #[.int .i64 0, .int .i64 0, .int .i64 0, .int .i64 0, .int .i64 0, .int .i64 0, .int .i64 0, .int .i64 0, .int .i64 0, .int .i64 0, .int .i64 0, .int .i64 0, .int .i64 0, .int .i64 0] 149)) := by
  refine ⟨((Below.refl _ _).alloc (Nat.le_refl _) _).alloc (by simp) _, ?_, ?_⟩
  · rw [Below.heap_alloc _ _ _ (by simp)]; exact heap_alloc_new w _
  · have := heap_alloc_new (w.alloc (.cells #[.int .i64 b, .int .i64 k, .bool l] 111)) (.cells #[.int .i64 0, .int .i64 0, .int .i64 0, .int .i64 0, .int .i64 0, .int .i64 0, .int .i64 0, .int .i64 0, .int .i64 0, .int .i64 0, .int .i64 0, .int .i64 0, .int .i64 0, .int .i64 0] 149)
    rw [World.size_alloc] at this
    exact this
set_option maxHeartbeats 4000000 in
set_option maxRecDepth 100000 in
theorem month_of (b k : Int) (l : Bool) (w : World) (HG : GlobT w) :
    Calls Tryd.prog 120 #[.agg #[.int .i64 b, .int .i64 k, .bool l]] w fun e w' => e = .returned (.agg (tcells (Cal.months b k l))) ∧ Below w.heap.size w w' := by
  have HA := Aside0.mk (OfAt.begin w b k l)
  by_cases hz : Cal.tyNum b k l = 0
  · have hm : Cal.months b k l = [] := by simp [Cal.months, hz]
    rw [hm]
    have HN := Aside0.mk hz
    have HGG := Aside0.mk HG
    clear hz hm HG
    go_enter Tryd.func120, Tryd.ntmps120
    go_wp2_with fail
    refine (keviah_number b k 0 l HN.out _ (HGG.out.below HA.out.below)).mono ?_
    rintro e W1 ⟨rfl, hb⟩
    have H1 := Aside0.mk (HA.out.step hb (Nat.le_of_eq (by simp)))
    clear hb HA
    go_wp2_with (first | ((refine wpList_store_row rfl 149 (.tmp 2) (.tmp 9) rfl (w.heap.size + 1) (tcells []) rfl (by rfl) 149 _ H1.out.out (by kernel_rfl) (by rfl) (tcells_one []) ?_)))
    refine bodyPost_ret (results_cell_row rfl _ _ (w.heap.size + 1) 149 (tcells []) (0, 0) _ rfl (setRow_heap _ _ _ _ _ _ H1.out.out) Tryd.underlying149 rfl (by kernel_rfl)) rfl ?_
    exact ⟨rfl, below_setRow H1.out.below (by omega) _⟩
  · have hm : Cal.months b k l = Cal.pre k l 12 := by rw [Cal.pre_all]; simp [Cal.months, hz]
    rw [hm]
    have ⟨hb0, hb1⟩ := ty_bounds b k l
    obtain ⟨n, hn⟩ : ∃ n, Cal.tyNum b k l = n := ⟨_, rfl⟩
    rw [hn] at hz hb0 hb1
    have hz1 : (n == 0) = false := by simpa using hz
    have HN := Aside0.mk hn
    have HGG := Aside0.mk HG
    clear hz hm HG hn
    go_enter Tryd.func120, Tryd.ntmps120
    go_wp2_with fail
    refine (keviah_number b k n l HN.out _ (HGG.out.below HA.out.below)).mono ?_
    rintro e W1 ⟨rfl, hb⟩
    have H1 := Aside0.mk (HA.out.step hb (Nat.le_of_eq (by simp)))
    have H2 := Aside0.mk (H1.out.step ((Below.refl W1.heap.size W1).alloc (Nat.le_refl _) (.cells #[.int .i64 0, .int .i64 0, .int .i64 0, .int .i64 0, .int .i64 0, .int .i64 0, .int .i64 0, .int .i64 0, .int .i64 0, .int .i64 0, .int .i64 0, .int .i64 0, .int .i64 0, .int .i64 0] 149)) H1.out.size)
    have H3 := Aside0.mk (show (W1.alloc (.cells #[.int .i64 0, .int .i64 0, .int .i64 0, .int .i64 0, .int .i64 0, .int .i64 0, .int .i64 0, .int .i64 0, .int .i64 0, .int .i64 0, .int .i64 0, .int .i64 0, .int .i64 0, .int .i64 0] 149)).heap[W1.heap.size]? = some (.cells (tcells []) 149 (0, 0)) from heap_alloc_new W1 _)
    have HS := Aside0.mk H1.out.size
    obtain ⟨t3, fr3, hp3⟩ := (HGG.out.below H2.out.below).plain
    have HP := Aside0.mk hp3
    clear hp3
    clear hb HA
    go_wp2_with (first | (refine wpList_load_row rfl 184 _ rfl 3 rfl t3 plainCells fr3 _ HP.out Tryd.underlying184 rfl (by kernel_rfl) ?_))
    go_loopw [11] (fun s11 wr => ∃ i : Nat, i ≤ 12 ∧ s11 = .int .i64 i ∧ Aside0 (OfAt w b k l wr) ∧ Aside0 (wr.heap[W1.heap.size]? = some (.cells (tcells (Cal.pre k l i)) 149 (0, 0)))) (fun s11 _ => 12 - (intOf s11).toNat)
    case atStart => exact ⟨0, by omega, rfl, H2, H3⟩
    case round =>
      obtain ⟨i, hi, rfl, HO, HT⟩ := hrel
      by_cases hlt : i < 12
      · obtain ⟨d, hd⟩ : ∃ d, Cal.plainList.getD i 0 = d := ⟨_, rfl⟩
        have hx : ∀ w, (Instr.index 184 (.agg plainCells) (.int .i64 i)).run Tryd.prog w = .ok (.int .i64 d) w := fun w => by rw [← hd]; exact plain_at i hlt w
        have hdb : 29 ≤ d ∧ d ≤ 30 := by rw [← hd]; exact plain_bd i hlt
        obtain ⟨hd0, hd1⟩ := hdb
        have HD := Aside0.mk hd
        have c1 : wr.cell? ⟨w.heap.size, 1, none⟩ = some (.int .i64 k) := (blk_cell HO.out.bx 1).trans rfl
        have c2 : wr.cell? ⟨w.heap.size, 2, none⟩ = some (.bool l) := (blk_cell HO.out.bx 2).trans rfl
        have hltz : (i : Int) < 12 := by omega
        have HLT := Aside0.mk hlt
        clear hd
        have hcall : ∀ (m : Int) (ms : List Int) (W : World), ms.length < 13 → W.heap[W1.heap.size]? = some (.cells (tcells ms) 149 (0, 0)) →
            Calls Tryd.prog 162 #[.pointer (some ⟨W1.heap.size, 0, none⟩), .int .i64 m] W
              fun e w' => e = .returned (.tuple #[]) ∧ w'.heap[W1.heap.size]? = some (.cells (tcells (ms ++ [m])) 149 (0, 0)) ∧ Below W1.heap.size W w' :=
          fun m ms W h1 h2 => table_add_list W1.heap.size m ms W h1 h2
        have HC := Aside0.mk hcall
        clear hcall
        by_cases h5 : i = 5
        · have e5 : ((i : Int) == 5) = true := by simp; omega
          have e1 : ((i : Int) == 1) = false := by simp; omega
          have e2 : ((i : Int) == 2) = false := by simp; omega
          have H5 := Aside0.mk h5
          clear h5
          cases l with
          | true =>
            go_wp2_with fail
            refine (HC.out 30 (Cal.pre k true i) _ (pre_lt _ _ _ HLT.out) HT.out).mono ?_
            rintro e w2 ⟨rfl, ht2, hb2⟩
            have HT2 := Aside0.mk ht2
            have HO2 := Aside0.mk (HO.out.step hb2 HS.out)
            clear ht2 hb2
            go_wp2_with fail
            refine (HC.out d (Cal.pre k true i ++ [30]) _ (pre_lt5 _ _ H5.out) HT2.out).mono ?_
            rintro e w3 ⟨rfl, ht3, hb3⟩
            have HT3 := Aside0.mk ht3
            have HO3 := Aside0.mk (HO2.out.step hb3 HS.out)
            clear ht3 hb3
            go_wp2
            go_roundw
            case measure => simp [intOf]; omega
            case rel => exact ⟨i + 1, by omega, by go_num, HO3, ⟨by rw [pre_five k d i H5.out HD.out]; exact HT3.out⟩⟩
          | false =>
            go_wp2_with fail
            refine (HC.out d (Cal.pre k false i) _ (pre_lt _ _ _ HLT.out) HT.out).mono ?_
            rintro e w3 ⟨rfl, ht3, hb3⟩
            have HT3 := Aside0.mk ht3
            have HO3 := Aside0.mk (HO.out.step hb3 HS.out)
            clear ht3 hb3
            go_wp2
            go_roundw
            case measure => simp [intOf]; omega
            case rel => exact ⟨i + 1, by omega, by go_num, HO3, ⟨by rw [pre_else k d false i (by simp) (by have := H5.out; omega) (by have := H5.out; omega) HD.out]; exact HT3.out⟩⟩
        · have e5 : ((i : Int) == 5) = false := by simp; omega
          have H5 := Aside0.mk h5
          clear h5
          by_cases h1 : i = 1
          · have e1 : ((i : Int) == 1) = true := by simp; omega
            have e2 : ((i : Int) == 2) = false := by simp; omega
            have H1i := Aside0.mk h1
            clear h1
            by_cases hk : k = 2
            · have ek : (k == 2) = true := by simp; omega
              have HK := Aside0.mk hk
              clear hk
              go_wp2_with fail
              refine (HC.out (d + 1) (Cal.pre k l i) _ (pre_lt _ _ _ HLT.out) HT.out).mono ?_
              rintro e w3 ⟨rfl, ht3, hb3⟩
              have HT3 := Aside0.mk ht3
              have HO3 := Aside0.mk (HO.out.step hb3 HS.out)
              clear ht3 hb3
              go_wp2
              go_roundw
              case measure => simp [intOf]; omega
              case rel => exact ⟨i + 1, by omega, by go_num, HO3, ⟨by rw [pre_one k d l i H1i.out HK.out HD.out]; exact HT3.out⟩⟩
            · have ek : (k == 2) = false := by simp; omega
              have HK := Aside0.mk hk
              clear hk
              go_wp2_with fail
              refine (HC.out d (Cal.pre k l i) _ (pre_lt _ _ _ HLT.out) HT.out).mono ?_
              rintro e w3 ⟨rfl, ht3, hb3⟩
              have HT3 := Aside0.mk ht3
              have HO3 := Aside0.mk (HO.out.step hb3 HS.out)
              clear ht3 hb3
              go_wp2
              go_roundw
              case measure => simp [intOf]; omega
              case rel => exact ⟨i + 1, by omega, by go_num, HO3, ⟨by rw [pre_else k d l i (fun h => H5.out h.1) (fun h => HK.out h.2) (by have := H1i.out; omega) HD.out]; exact HT3.out⟩⟩
          · have e1 : ((i : Int) == 1) = false := by simp; omega
            have H1i := Aside0.mk h1
            clear h1
            by_cases h2 : i = 2
            · have e2 : ((i : Int) == 2) = true := by simp; omega
              have H2i := Aside0.mk h2
              clear h2
              by_cases hk : k = 0
              · have ek : (k == 0) = true := by simp; omega
                have HK := Aside0.mk hk
                clear hk
                go_wp2_with fail
                refine (HC.out (d - 1) (Cal.pre k l i) _ (pre_lt _ _ _ HLT.out) HT.out).mono ?_
                rintro e w3 ⟨rfl, ht3, hb3⟩
                have HT3 := Aside0.mk ht3
                have HO3 := Aside0.mk (HO.out.step hb3 HS.out)
                clear ht3 hb3
                go_wp2
                go_roundw
                case measure => simp [intOf]; omega
                case rel => exact ⟨i + 1, by omega, by go_num, HO3, ⟨by rw [pre_two k d l i H2i.out HK.out HD.out]; exact HT3.out⟩⟩
              · have ek : (k == 0) = false := by simp; omega
                have HK := Aside0.mk hk
                clear hk
                go_wp2_with fail
                refine (HC.out d (Cal.pre k l i) _ (pre_lt _ _ _ HLT.out) HT.out).mono ?_
                rintro e w3 ⟨rfl, ht3, hb3⟩
                have HT3 := Aside0.mk ht3
                have HO3 := Aside0.mk (HO.out.step hb3 HS.out)
                clear ht3 hb3
                go_wp2
                go_roundw
                case measure => simp [intOf]; omega
                case rel => exact ⟨i + 1, by omega, by go_num, HO3, ⟨by rw [pre_else k d l i (fun h => H5.out h.1) (fun h => H1i.out h.1) (fun h => HK.out h.2) HD.out]; exact HT3.out⟩⟩
            · have e2 : ((i : Int) == 2) = false := by simp; omega
              have H2i := Aside0.mk h2
              clear h2
              go_wp2_with fail
              refine (HC.out d (Cal.pre k l i) _ (pre_lt _ _ _ HLT.out) HT.out).mono ?_
              rintro e w3 ⟨rfl, ht3, hb3⟩
              have HT3 := Aside0.mk ht3
              have HO3 := Aside0.mk (HO.out.step hb3 HS.out)
              clear ht3 hb3
              go_wp2
              go_roundw
              case measure => simp [intOf]; omega
              case rel => exact ⟨i + 1, by omega, by go_num, HO3, ⟨by rw [pre_else k d l i (fun h => H5.out h.1) (fun h => H1i.out h.1) (fun h => H2i.out h.1) HD.out]; exact HT3.out⟩⟩
      · obtain rfl : i = 12 := by omega
        have hlen : (Cal.pre k l 12).length ≤ 13 := by have := Cal.pre_len k l 12; split at this <;> omega
        have hs14 := tcells_size _ hlen
        obtain ⟨cs, hcs⟩ : ∃ cs, tcells (Cal.pre k l 12) = cs := ⟨_, rfl⟩
        have hone : cs.all (·.oneCell') = true := by rw [← hcs]; exact tcells_one _
        have HT2 : Aside0 (wr.heap[W1.heap.size]? = some (.cells cs 149 (0, 0))) := ⟨by rw [← hcs]; exact HT.out⟩
        rw [hcs] at hs14
        have HS14 := Aside0.mk hs14
        have HCS := Aside0.mk hcs
        have HONE := Aside0.mk hone
        have hi14 : (Tryd.prog.info? 149).map (·.size) = some 14 := by kernel_rfl
        have HI := Aside0.mk (show (Tryd.prog.info? 149).map (·.size) = some cs.size by rw [hs14]; exact hi14)
        clear hlen hs14 hcs hone hi14
        go_wp2_with (first | (refine wpList_load_row rfl 149 (.tmp 3) rfl W1.heap.size rfl 149 cs (0, 0) _ HT2.out Tryd.underlying149 rfl HI.out ?_) | (refine wpList_store_row rfl 149 (.tmp 2) (.tmp 45) rfl (w.heap.size + 1) cs rfl (by rfl) 149 _ HO.out.out HI.out (by rw [HS14.out]; rfl) HONE.out ?_))
        refine bodyPost_ret (results_cell_row rfl _ _ (w.heap.size + 1) 149 cs (0, 0) _ rfl (setRow_heap _ _ _ _ _ _ HO.out.out) Tryd.underlying149 rfl HI.out) rfl ?_
        exact ⟨by rw [HCS.out], below_setRow HO.out.below (by omega) _⟩
end Go.Proofs.YtflpddhoiafhcaaDoor.H
end

section
/- The contract of the program's function behind the hole 'month_Days', by a walk over its text. -/
namespace Go.Proofs.YtflpddhoiafhcaaDoor.H
open Go.RowKit Go.Proofs.YtflpddhoiafhcaaDoorW.PrintWords Go.Proofs.YtflpddhoiafhcaaDoorW.PrintLast Go.Proofs.YtflpddhoiafhcaaDoorW.PrintMore
attribute [local go_sem] max2_int min2_int max_two min_two max_three min_three max_four min_four
set_option linter.unusedVariables false
set_option linter.unusedSimpArgs false
theorem table_has (cs : Array Value) (n m : Int) (r : Bool) (hr : decide (0 < m ∧ m ≤ n) = r) (hc : cs[13]? = some (.int .i64 n)) (w : World) :
    Calls Tryd.prog 121 #[.agg cs, .int .i64 m] w fun e w' => e = .returned (.bool r) ∧ Below w.heap.size w w' := by
  have hg := heap_alloc_new w (.cells cs 149)
  have c1 : (w.alloc (.cells cs 149)).cell? ⟨w.heap.size, 13, none⟩ = some (.int .i64 n) := (blk_cell hg 13).trans hc
  clear hg hc
  by_cases h0 : 0 < m
  · have e0 : decide (0 < m) = true := by simp; omega
    by_cases h1 : m ≤ n
    · have e1 : decide (m ≤ n) = true := by simp; omega
      obtain rfl : r = true := by rw [← hr]; simp; omega
      clear hr
      go_enter Tryd.func121, Tryd.ntmps121
      go_wp2
      go_ret
      exact ⟨rfl, (Below.refl _ _).alloc (Nat.le_refl _) _⟩
    · have e1 : decide (m ≤ n) = false := by simp; omega
      obtain rfl : r = false := by rw [← hr]; simp; omega
      clear hr
      go_enter Tryd.func121, Tryd.ntmps121
      go_wp2
      go_ret
      exact ⟨rfl, (Below.refl _ _).alloc (Nat.le_refl _) _⟩
  · have e0 : decide (0 < m) = false := by simp; omega
    obtain rfl : r = false := by rw [← hr]; simp; omega
    clear hr
    go_enter Tryd.func121, Tryd.ntmps121
    go_wp2
    go_ret
    exact ⟨rfl, (Below.refl _ _).alloc (Nat.le_refl _) _⟩
theorem months_len (b k : Int) (l : Bool) : (Cal.months b k l).length ≤ 13 := by
  unfold Cal.months Cal.lens
  split <;> simp
  split <;> simp
theorem tcells_at (ms : List Int) (h : ms.length ≤ 13) (i : Nat) (hi : i < 13) : (tcells ms)[i]? = some (.int .i64 (ms.getD i 0)) := by
  simp only [tcells, List.getElem?_toArray]
  rw [List.getElem?_append_left (by simp; omega), List.getElem?_map]
  by_cases hm : i < ms.length
  · rw [List.getElem?_append_left hm, List.getElem?_eq_getElem hm]; simp [hm]
  · rw [List.getElem?_append_right (by omega), List.getElem?_replicate, if_pos (by omega)]
    simp [List.getElem?_eq_none (Nat.le_of_not_lt hm)]
def month_Days.f (a0_0 : Int) (a0_1 : Int) (a0_2 : Bool) (a1 : Int) : Option (Int) := if -9223372036854775808 ≤ a1 ∧ a1 ≤ 9223372036854775807 then some (Cal.mdays a0_0 a0_1 a0_2 a1) else none
/-- A table's cells, as the walks take them. -/
structure Tab (ms : List Int) (cs : Array Value) : Prop where
  size : cs.size = 14
  one : cs.all (·.oneCell') = true
  last : cs[13]? = some (.int .i64 ms.length)
  info : (Tryd.prog.info? 149).map (·.size) = some cs.size
  at_ : ∀ i, i < 13 → cs[i]? = some (.int .i64 (ms.getD i 0))
theorem Tab.of (ms : List Int) (h : ms.length ≤ 13) : Tab ms (tcells ms) :=
  ⟨tcells_size ms h, tcells_one ms, tcells_last ms h, by rw [tcells_size ms h]; kernel_rfl, tcells_at ms h⟩
/-- The world behind the call of 'of': its table laid in a block. -/
structure TabAt (w : World) (g : Nat) (cs : Array Value) (W : World) : Prop where
  below : Below w.heap.size w W
  ge : w.heap.size ≤ g
  tab : W.heap[g]? = some (.cells cs 149 (0, 0))
theorem TabAt.step {w : World} {g : Nat} {cs : Array Value} {W W' : World} (h : TabAt w g cs W) (hb : Below W.heap.size W W') : TabAt w g cs W' :=
  ⟨h.below.trans (hb.mono h.below.size), h.ge, (hb.block g (blk_lt h.tab)).trans h.tab⟩
theorem TabAt.begin {w W1 : World} (cs : Array Value) (hb : Below w.heap.size w W1) :
    TabAt w W1.heap.size cs ((W1.alloc (.cells #[.int .i64 0, .int .i64 0, .int .i64 0, .int .i64 0, .int .i64 0, .int .i64 0, .int .i64 0, .int .i64 0, .int .i64 0, .int .i64 0, .int .i64 0, .int .i64 0, .int .i64 0, .int .i64 0] 149)).setRow W1.heap.size cs) :=
  ⟨below_setRow (hb.alloc hb.size _) hb.size _, hb.size, setRow_heap _ _ _ _ _ _ (heap_alloc_new W1 _)⟩
theorem days_of (b k m r : Int) (l : Bool) (hm1 : -9223372036854775808 ≤ m) (hm2 : m ≤ 9223372036854775807) (hr : Cal.mdays b k l m = r) (w : World) (HG : GlobT w) :
    Calls Tryd.prog 102 #[.agg #[.int .i64 b, .int .i64 k, .bool l], .int .i64 m] w fun e w' => e = .returned (.int .i64 r) ∧ Below w.heap.size w w' := by
  have HK := Aside0.mk (KBox.begin HG b k l)
  have hml := months_len b k l
  have hof := fun W h => month_of b k l W h
  unfold Cal.mdays at hr
  generalize Cal.months b k l = ms at hml hof hr
  have hT := Tab.of ms hml
  generalize tcells ms = cs at hT hof
  have HT := Aside0.mk hT
  have HOF := Aside0.mk hof
  have HR := Aside0.mk hr
  have HL := Aside0.mk hml
  clear hml hof hT hr HG
  by_cases hc : 0 < m ∧ m ≤ (ms.length : Int)
  · obtain ⟨i, rfl⟩ : ∃ i : Nat, m = i + 1 := ⟨(m - 1).toNat, by omega⟩
    have HC := Aside0.mk hc
    have hi13 : (i : Int) < 13 := by have := HL.out; omega
    have hi0 : (0 : Int) ≤ i := by omega
    clear hc
    go_enter Tryd.func102, Tryd.ntmps102
    go_wp2_with fail
    refine (HOF.out _ HK.out.glob).mono ?_
    rintro e W1 ⟨rfl, hb⟩
    have HA := Aside0.mk (TabAt.begin cs (HK.out.step hb).below)
    clear hb
    go_wp2_with (first | (refine wpList_store_row rfl 149 (.tmp 5) (.tmp 7) rfl W1.heap.size cs rfl rfl 149 _ (heap_alloc_new W1 _) HT.out.info (by rw [HT.out.size]; rfl) HT.out.one ?_; generalize e2 : (W1.alloc (.cells #[.int .i64 0, .int .i64 0, .int .i64 0, .int .i64 0, .int .i64 0, .int .i64 0, .int .i64 0, .int .i64 0, .int .i64 0, .int .i64 0, .int .i64 0, .int .i64 0, .int .i64 0, .int .i64 0] 149)).setRow W1.heap.size cs = W2 at HA ⊢; clear e2) | (refine wpList_load_row rfl 149 (.tmp 5) rfl W1.heap.size rfl 149 cs (0, 0) _ HA.out.tab Tryd.underlying149 rfl HT.out.info ?_))
    refine (table_has cs ms.length (i + 1) true (by simpa using HC.out) HT.out.last _).mono ?_
    rintro e W3 ⟨rfl, hb⟩
    have HA3 := Aside0.mk (HA.out.step hb)
    have c : W3.cell? ⟨W1.heap.size, i, none⟩ = some (.int .i64 r) := by
      rw [blk_cell HA3.out.tab, HT.out.at_ i (by omega), ← HR.out, if_pos HC.out, show ((i : Int) + 1 - 1).toNat = i by omega]
    clear hb
    go_wp2
    go_ret
    exact ⟨rfl, HA3.out.below⟩
  · have HC := Aside0.mk hc
    obtain rfl : r = 0 := by rw [← HR.out, if_neg HC.out]
    clear hc
    go_enter Tryd.func102, Tryd.ntmps102
    go_wp2_with fail
    refine (HOF.out _ HK.out.glob).mono ?_
    rintro e W1 ⟨rfl, hb⟩
    have HA := Aside0.mk (TabAt.begin cs (HK.out.step hb).below)
    clear hb
    go_wp2_with (first | (refine wpList_store_row rfl 149 (.tmp 5) (.tmp 7) rfl W1.heap.size cs rfl rfl 149 _ (heap_alloc_new W1 _) HT.out.info (by rw [HT.out.size]; rfl) HT.out.one ?_; generalize e2 : (W1.alloc (.cells #[.int .i64 0, .int .i64 0, .int .i64 0, .int .i64 0, .int .i64 0, .int .i64 0, .int .i64 0, .int .i64 0, .int .i64 0, .int .i64 0, .int .i64 0, .int .i64 0, .int .i64 0, .int .i64 0] 149)).setRow W1.heap.size cs = W2 at HA ⊢; clear e2) | (refine wpList_load_row rfl 149 (.tmp 5) rfl W1.heap.size rfl 149 cs (0, 0) _ HA.out.tab Tryd.underlying149 rfl HT.out.info ?_))
    refine (table_has cs ms.length m false (by simpa using HC.out) HT.out.last _).mono ?_
    rintro e W3 ⟨rfl, hb⟩
    have HA3 := Aside0.mk (HA.out.step hb)
    clear hb
    go_wp2
    go_ret
    exact ⟨rfl, HA3.out.below⟩
theorem month_Days.calls (a0_0 : Int) (a0_1 : Int) (a0_2 : Bool) (a1 : Int) (r : Int) (w : World) (HG : GlobT w) (h : month_Days.f a0_0 a0_1 a0_2 a1 = some r) :
    Calls Tryd.prog 102 #[.agg #[.int .i64 a0_0, .int .i64 a0_1, .bool a0_2], .int .i64 a1] w fun e w' => e = .returned (.int .i64 r) ∧ Below w.heap.size w w' := by
  unfold month_Days.f at h
  split at h
  · rename_i hc
    exact days_of a0_0 a0_1 a1 r a0_2 hc.1 hc.2 (Option.some.inj h) w HG
  · cases h
end Go.Proofs.YtflpddhoiafhcaaDoor.H
end

section
/- The contract of the program's function behind the hole 'month_Ahead', by a walk over its text. -/
namespace Go.Proofs.YtflpddhoiafhcaaDoor.H
open Go.RowKit Go.Proofs.YtflpddhoiafhcaaDoorW.PrintWords Go.Proofs.YtflpddhoiafhcaaDoorW.PrintLast Go.Proofs.YtflpddhoiafhcaaDoorW.PrintMore
attribute [local go_sem] max2_int min2_int max_two min_two max_three min_three max_four min_four
set_option linter.unusedVariables false
set_option linter.unusedSimpArgs false
end Go.Proofs.YtflpddhoiafhcaaDoor.H
end

section
/- The contract of the program's function behind the hole 'month_Find', by a walk over its text. -/
namespace Go.Proofs.YtflpddhoiafhcaaDoor.H
open Go.RowKit Go.Proofs.YtflpddhoiafhcaaDoorW.PrintWords Go.Proofs.YtflpddhoiafhcaaDoorW.PrintLast Go.Proofs.YtflpddhoiafhcaaDoorW.PrintMore
attribute [local go_sem] max2_int min2_int max_two min_two max_three min_three max_four min_four
set_option linter.unusedVariables false
set_option linter.unusedSimpArgs false
end Go.Proofs.YtflpddhoiafhcaaDoor.H
end

section
/- Events in order: by days, then by kinds. The one order of a list; plain, no program in sight. -/
namespace Go.Proofs.YtflpddhoiafhcaaDoor.Cal

end Go.Proofs.YtflpddhoiafhcaaDoor.Cal
end

section
/-
  DERIVED: THE SHELF's CONTRACTS AT THIS DUMP, IN PLAIN WORDS (tools/lay-plain.mjs out of 'YtflpddhoiafhcaaDoorShlSort.lean', which tools/lay-shelf.mjs wrote): THE SAME DECLARATIONS UNDER THE SAME NAMES: 'import', 'namespace', 'open', 'def', 'theorem' AND NOTHING ELSE: no command of the shelf's: FOR A HAND-IN. Each laying: the table of numbers ('.._ren') and one theorem, a field a fact of the dump's own or the kernel's comparison; each contract: ONE APPLICATION.
-/
namespace Go.Proofs
open Go.Shelf
end Go.Proofs
end

section
/- The contract of the program's function behind the hole 'ev_sort', by a walk over its text. -/
namespace Go.Proofs.YtflpddhoiafhcaaDoor.H
open Go.RowKit Go.Proofs.YtflpddhoiafhcaaDoorW.PrintWords Go.Proofs.YtflpddhoiafhcaaDoorW.PrintLast Go.Proofs.YtflpddhoiafhcaaDoorW.PrintMore
attribute [local go_sem] max2_int min2_int max_two min_two max_three min_three max_four min_four
set_option linter.unusedVariables false
set_option linter.unusedSimpArgs false
end Go.Proofs.YtflpddhoiafhcaaDoor.H
end

section
/-
  DERIVED: THE SHELF's CONTRACTS AT THIS DUMP, IN PLAIN WORDS (tools/lay-plain.mjs out of 'YtflpddhoiafhcaaDoorShlBits.lean', which tools/lay-shelf.mjs wrote): THE SAME DECLARATIONS UNDER THE SAME NAMES: 'import', 'namespace', 'open', 'def', 'theorem' AND NOTHING ELSE: no command of the shelf's: FOR A HAND-IN. Each laying: the table of numbers ('.._ren') and one theorem, a field a fact of the dump's own or the kernel's comparison; each contract: ONE APPLICATION.
-/
namespace Go.Proofs
open Go.Shelf
end Go.Proofs
end

section
/-
  DERIVED: THE SHELF's CONTRACTS AT THIS DUMP, IN PLAIN WORDS (tools/lay-plain.mjs out of 'YtflpddhoiafhcaaDoorShlStr.lean', which tools/lay-shelf.mjs wrote): THE SAME DECLARATIONS UNDER THE SAME NAMES: 'import', 'namespace', 'open', 'def', 'theorem' AND NOTHING ELSE: no command of the shelf's: FOR A HAND-IN. Each laying: the table of numbers ('.._ren') and one theorem, a field a fact of the dump's own or the kernel's comparison; each contract: ONE APPLICATION.
-/
namespace Go.Proofs
open Go.Shelf
def Tryd.laysM171_ren : Go.Shelf.Ren := ⟨fun | 171 => 47 | 243 => 79 | 246 => 110 | 283 => 150 | 284 => 151 | 285 => 152 | 286 => 153 | 129 => 138 | 317 => 175 | 318 => 176 | 319 => 177 | 320 => 178 | 337 => 194 | 338 => 195 | n => n, fun | 3 => 3 | 9 => 9 | 2 => 2 | 4 => 4 | 171 => 173 | 0 => 0 | 53 => 164 | 37 => 64 | 5 => 5 | 173 => 175 | 212 => 196 | 51 => 162 | 20 => 20 | 213 => 197 | 46 => 122 | 232 => 216 | 233 => 217 | n => n, fun | 17 => 5 | 18 => 7 | 19 => 8 | n => n⟩
theorem Tryd.laysM171 : Go.Proofs.LaysM.n171 Tryd.prog Tryd.laysM171_ren := {
  mixed := by kernel_rfl
  f129 := Tryd.func138.trans (congrArg some (by kernel_rfl))
  f171 := Tryd.func47.trans (congrArg some (by kernel_rfl))
  f243 := Tryd.func79.trans (congrArg some (by kernel_rfl))
  f246 := Tryd.func110.trans (congrArg some (by kernel_rfl))
  f283 := Tryd.func150.trans (congrArg some (by kernel_rfl))
  f284 := Tryd.func151.trans (congrArg some (by kernel_rfl))
  f285 := Tryd.func152.trans (congrArg some (by kernel_rfl))
  f286 := Tryd.func153.trans (congrArg some (by kernel_rfl))
  f317 := Tryd.func175.trans (congrArg some (by kernel_rfl))
  f318 := Tryd.func176.trans (congrArg some (by kernel_rfl))
  f319 := Tryd.func177.trans (congrArg some (by kernel_rfl))
  f320 := Tryd.func178.trans (congrArg some (by kernel_rfl))
  f337 := Tryd.func194.trans (congrArg some (by kernel_rfl))
  f338 := Tryd.func195.trans (congrArg some (by kernel_rfl))
  t0 := Tryd.underlying0
  a0 := Tryd.isAgg0
  z0 := Tryd.sizeOf0
  v0 := Tryd.zeroValue0
  t2 := Tryd.underlying2
  a2 := Tryd.isAgg2
  z2 := Tryd.sizeOf2
  v2 := Tryd.zeroValue2
  t3 := Tryd.underlying3
  a3 := Tryd.isAgg3
  z3 := Tryd.sizeOf3
  v3 := Tryd.zeroValue3
  t4 := Tryd.underlying4
  a4 := Tryd.isAgg4
  z4 := Tryd.sizeOf4
  v4 := Tryd.zeroValue4
  t5 := Tryd.underlying5
  a5 := Tryd.isAgg5
  z5 := Tryd.sizeOf5
  v5 := Tryd.zeroValue5
  t9 := Tryd.underlying9
  a9 := Tryd.isAgg9
  z9 := Tryd.sizeOf9
  v9 := Tryd.zeroValue9
  t20 := Tryd.underlying20
  a20 := Tryd.isAgg20
  z20 := Tryd.sizeOf20
  v20 := Tryd.zeroValue20
  t37 := Tryd.underlying64
  a37 := Tryd.isAgg64
  z37 := Tryd.sizeOf64
  v37 := Tryd.zeroValue64
  t46 := Tryd.underlying122
  a46 := Tryd.isAgg122
  z46 := Tryd.sizeOf122
  v46 := Tryd.zeroValue122
  t51 := Tryd.underlying162
  a51 := Tryd.isAgg162
  z51 := Tryd.sizeOf162
  v51 := Tryd.zeroValue162
  t53 := Tryd.underlying164
  a53 := Tryd.isAgg164
  z53 := Tryd.sizeOf164
  v53 := Tryd.zeroValue164
  t171 := Tryd.underlying173
  a171 := Tryd.isAgg173
  z171 := Tryd.sizeOf173
  v171 := Tryd.zeroValue173
  t173 := Tryd.underlying175
  a173 := Tryd.isAgg175
  z173 := Tryd.sizeOf175
  v173 := Tryd.zeroValue175
  t212 := Tryd.underlying196
  a212 := Tryd.isAgg196
  z212 := Tryd.sizeOf196
  v212 := Tryd.zeroValue196
  t213 := Tryd.underlying197
  a213 := Tryd.isAgg197
  z213 := Tryd.sizeOf197
  t232 := Tryd.underlying216
  a232 := Tryd.isAgg216
  z232 := Tryd.sizeOf216
  v232 := Tryd.zeroValue216
  t233 := Tryd.underlying217
  a233 := Tryd.isAgg217
  z233 := Tryd.sizeOf217
  v233 := Tryd.zeroValue217
  g17 := by kernel_rfl
  g18 := by kernel_rfl
  g19 := by kernel_rfl
  i0 := by kernel_rfl
  i2 := by kernel_rfl
  i3 := by kernel_rfl
  i4 := by kernel_rfl
  i5 := by kernel_rfl
  i9 := by kernel_rfl
  i20 := by kernel_rfl
  i37 := by kernel_rfl
  i46 := by kernel_rfl
  i51 := by kernel_rfl
  i53 := by kernel_rfl
  i171 := by kernel_rfl
  i173 := by kernel_rfl
  i212 := by kernel_rfl
  i232 := by kernel_rfl
  i233 := by kernel_rfl
  m17 := by kernel_rfl
  m18 := by kernel_rfl
  m19 := by kernel_rfl }
open Go.RowKit Go.Sort Go.Lib in
/-- strconv.Itoa: "Itoa is equivalent to FormatInt(int64(i), 10).": i's DECIMAL NUMERAL ('Lib.itoa': a '-' where i is negative, then the digits), FOR EVERY int. The world behind the call: the world before it, new blocks behind the heap (the library's 'var a [24]byte'), draws. (LAID: no walk: one application.) -/
theorem Tryd.strconv_Itoa (n : Int) (h0 : -9223372036854775808 ≤ n) (h1 : n ≤ 9223372036854775807) (w : World) (htab : Lib.TabIs Tryd.prog w "internal/strconv.uint64pow10" .u64 Lib.pow10Tab) :
    Calls Tryd.prog 47 #[.int .i64 n] w fun e w' => e = .returned (.string ⟨(Lib.itoa n).toArray⟩) ∧ ∃ k os, w' = grow (w.drewN k) os := Any.strconv_Itoa Tryd.laysM171 n h0 h1 w htab
def Tryd.laysC172_ren : Go.Shelf.Ren := ⟨fun | 172 => 50 | 244 => 82 | 245 => 83 | 247 => 113 | 279 => 114 | 280 => 115 | 281 => 116 | 282 => 117 | 287 => 154 | 316 => 155 | 171 => 47 | 205 => 156 | 321 => 179 | 322 => 180 | 243 => 79 | 246 => 110 | 283 => 150 | 284 => 151 | 285 => 152 | 286 => 153 | 129 => 138 | 317 => 175 | 318 => 176 | 319 => 177 | 320 => 178 | 337 => 194 | 338 => 195 | n => n, fun | 9 => 9 | 3 => 3 | 75 => 68 | 76 => 69 | 4 => 4 | 5 => 5 | 167 => 141 | 37 => 64 | 0 => 0 | 85 => 142 | 2 => 2 | 168 => 144 | 53 => 164 | 175 => 177 | 46 => 122 | 210 => 181 | 127 => 194 | 145 => 202 | 143 => 200 | 21 => 21 | 171 => 173 | 173 => 175 | 212 => 196 | 51 => 162 | 20 => 20 | 213 => 197 | 232 => 216 | 233 => 217 | 80 => 172 | n => n, fun | 15 => 1 | 16 => 2 | 17 => 5 | 18 => 7 | 19 => 8 | n => n⟩
theorem Tryd.laysC172 : Go.Proofs.LaysC.n172 Tryd.prog Tryd.laysC172_ren := {
  mixed := by kernel_rfl
  f129 := Tryd.func138.trans (congrArg some (by kernel_rfl))
  f171 := Tryd.func47.trans (congrArg some (by kernel_rfl))
  f172 := Tryd.func50.trans (congrArg some (by kernel_rfl))
  f205 := Tryd.func156.trans (congrArg some (by kernel_rfl))
  f243 := Tryd.func79.trans (congrArg some (by kernel_rfl))
  f244 := Tryd.func82.trans (congrArg some (by kernel_rfl))
  f245 := Tryd.func83.trans (congrArg some (by kernel_rfl))
  f246 := Tryd.func110.trans (congrArg some (by kernel_rfl))
  f247 := Tryd.func113.trans (congrArg some (by kernel_rfl))
  f279 := Tryd.func114.trans (congrArg some (by kernel_rfl))
  f280 := Tryd.func115.trans (congrArg some (by kernel_rfl))
  f281 := Tryd.func116.trans (congrArg some (by kernel_rfl))
  f282 := Tryd.func117.trans (congrArg some (by kernel_rfl))
  f283 := Tryd.func150.trans (congrArg some (by kernel_rfl))
  f284 := Tryd.func151.trans (congrArg some (by kernel_rfl))
  f285 := Tryd.func152.trans (congrArg some (by kernel_rfl))
  f286 := Tryd.func153.trans (congrArg some (by kernel_rfl))
  f287 := Tryd.func154.trans (congrArg some (by kernel_rfl))
  f316 := Tryd.func155.trans (congrArg some (by kernel_rfl))
  f317 := Tryd.func175.trans (congrArg some (by kernel_rfl))
  f318 := Tryd.func176.trans (congrArg some (by kernel_rfl))
  f319 := Tryd.func177.trans (congrArg some (by kernel_rfl))
  f320 := Tryd.func178.trans (congrArg some (by kernel_rfl))
  f321 := Tryd.func179.trans (congrArg some (by kernel_rfl))
  f322 := Tryd.func180.trans (congrArg some (by kernel_rfl))
  f337 := Tryd.func194.trans (congrArg some (by kernel_rfl))
  f338 := Tryd.func195.trans (congrArg some (by kernel_rfl))
  t0 := Tryd.underlying0
  a0 := Tryd.isAgg0
  z0 := Tryd.sizeOf0
  v0 := Tryd.zeroValue0
  t2 := Tryd.underlying2
  a2 := Tryd.isAgg2
  z2 := Tryd.sizeOf2
  v2 := Tryd.zeroValue2
  t3 := Tryd.underlying3
  a3 := Tryd.isAgg3
  z3 := Tryd.sizeOf3
  v3 := Tryd.zeroValue3
  t4 := Tryd.underlying4
  a4 := Tryd.isAgg4
  z4 := Tryd.sizeOf4
  v4 := Tryd.zeroValue4
  t5 := Tryd.underlying5
  a5 := Tryd.isAgg5
  z5 := Tryd.sizeOf5
  v5 := Tryd.zeroValue5
  t9 := Tryd.underlying9
  a9 := Tryd.isAgg9
  z9 := Tryd.sizeOf9
  v9 := Tryd.zeroValue9
  t20 := Tryd.underlying20
  a20 := Tryd.isAgg20
  z20 := Tryd.sizeOf20
  v20 := Tryd.zeroValue20
  t21 := Tryd.underlying21
  a21 := Tryd.isAgg21
  z21 := Tryd.sizeOf21
  v21 := Tryd.zeroValue21
  t37 := Tryd.underlying64
  a37 := Tryd.isAgg64
  z37 := Tryd.sizeOf64
  v37 := Tryd.zeroValue64
  t46 := Tryd.underlying122
  a46 := Tryd.isAgg122
  z46 := Tryd.sizeOf122
  v46 := Tryd.zeroValue122
  t51 := Tryd.underlying162
  a51 := Tryd.isAgg162
  z51 := Tryd.sizeOf162
  v51 := Tryd.zeroValue162
  t53 := Tryd.underlying164
  a53 := Tryd.isAgg164
  z53 := Tryd.sizeOf164
  v53 := Tryd.zeroValue164
  t75 := Tryd.underlying68
  a75 := Tryd.isAgg68
  z75 := Tryd.sizeOf68
  v75 := Tryd.zeroValue68
  t76 := Tryd.underlying69
  a76 := Tryd.isAgg69
  z76 := Tryd.sizeOf69
  v76 := Tryd.zeroValue69
  t85 := Tryd.underlying142
  a85 := Tryd.isAgg142
  z85 := Tryd.sizeOf142
  v85 := Tryd.zeroValue142
  t127 := Tryd.underlying194
  a127 := Tryd.isAgg194
  z127 := Tryd.sizeOf194
  v127 := Tryd.zeroValue194
  t143 := Tryd.underlying200
  a143 := Tryd.isAgg200
  z143 := Tryd.sizeOf200
  v143 := Tryd.zeroValue200
  t145 := Tryd.underlying202
  a145 := Tryd.isAgg202
  z145 := Tryd.sizeOf202
  v145 := Tryd.zeroValue202
  t167 := Tryd.underlying141
  a167 := Tryd.isAgg141
  z167 := Tryd.sizeOf141
  v167 := Tryd.zeroValue141
  t168 := Tryd.underlying144
  a168 := Tryd.isAgg144
  z168 := Tryd.sizeOf144
  v168 := Tryd.zeroValue144
  t171 := Tryd.underlying173
  a171 := Tryd.isAgg173
  z171 := Tryd.sizeOf173
  v171 := Tryd.zeroValue173
  t173 := Tryd.underlying175
  a173 := Tryd.isAgg175
  z173 := Tryd.sizeOf175
  v173 := Tryd.zeroValue175
  t175 := Tryd.underlying177
  a175 := Tryd.isAgg177
  z175 := Tryd.sizeOf177
  v175 := Tryd.zeroValue177
  t210 := Tryd.underlying181
  a210 := Tryd.isAgg181
  z210 := Tryd.sizeOf181
  v210 := Tryd.zeroValue181
  t212 := Tryd.underlying196
  a212 := Tryd.isAgg196
  z212 := Tryd.sizeOf196
  v212 := Tryd.zeroValue196
  t213 := Tryd.underlying197
  a213 := Tryd.isAgg197
  z213 := Tryd.sizeOf197
  t232 := Tryd.underlying216
  a232 := Tryd.isAgg216
  z232 := Tryd.sizeOf216
  v232 := Tryd.zeroValue216
  t233 := Tryd.underlying217
  a233 := Tryd.isAgg217
  z233 := Tryd.sizeOf217
  v233 := Tryd.zeroValue217
  g15 := by kernel_rfl
  g16 := by kernel_rfl
  g17 := by kernel_rfl
  g18 := by kernel_rfl
  g19 := by kernel_rfl
  t80 := Tryd.underlying172
  a80 := Tryd.isAgg172
  z80 := Tryd.sizeOf172
  v80 := Tryd.zeroValue172
  i0 := by kernel_rfl
  i2 := by kernel_rfl
  i3 := by kernel_rfl
  i4 := by kernel_rfl
  i5 := by kernel_rfl
  i9 := by kernel_rfl
  i20 := by kernel_rfl
  i21 := by kernel_rfl
  i37 := by kernel_rfl
  i46 := by kernel_rfl
  i51 := by kernel_rfl
  i53 := by kernel_rfl
  i75 := by kernel_rfl
  i76 := by kernel_rfl
  i80 := by kernel_rfl
  i85 := by kernel_rfl
  i127 := by kernel_rfl
  i143 := by kernel_rfl
  i145 := by kernel_rfl
  i167 := by kernel_rfl
  i168 := by kernel_rfl
  i171 := by kernel_rfl
  i173 := by kernel_rfl
  i175 := by kernel_rfl
  i210 := by kernel_rfl
  i212 := by kernel_rfl
  i232 := by kernel_rfl
  i233 := by kernel_rfl
  m15 := by kernel_rfl
  m16 := by kernel_rfl
  m17 := by kernel_rfl
  m18 := by kernel_rfl
  m19 := by kernel_rfl
  c0 := by kernel_rfl
  c2 := by kernel_rfl
  c3 := by kernel_rfl
  c4 := by kernel_rfl
  c5 := by kernel_rfl
  c9 := by kernel_rfl
  c20 := by kernel_rfl
  c21 := by kernel_rfl
  c37 := by kernel_rfl
  c46 := by kernel_rfl
  c51 := by kernel_rfl
  c53 := by kernel_rfl
  c75 := by kernel_rfl
  c76 := by kernel_rfl
  c80 := by kernel_rfl
  c85 := by kernel_rfl
  c127 := by kernel_rfl
  c143 := by kernel_rfl
  c145 := by kernel_rfl
  c167 := by kernel_rfl
  c168 := by kernel_rfl
  c171 := by kernel_rfl
  c173 := by kernel_rfl
  c175 := by kernel_rfl
  c210 := by kernel_rfl
  c212 := by kernel_rfl
  c213 := by kernel_rfl
  c232 := by kernel_rfl
  c233 := by kernel_rfl }
open Go.RowKit in
/-- strconv.Atoi, AT EVERY STRING THAT SPELLS AN int ('Lib.atoiAll .. = .ok v'; of whatever length: leading zeros count): v, AND NO ERROR. The world: as it was, or with the one new row that '[]byte(..)' lays. (LAID: no walk: one application.) -/
theorem Tryd.strconv_Atoi_ok (s : ByteArray) (hmax : s.size ≤ 9223372036854775806) (v : Int) (h : Lib.atoiAll s.data.toList = .ok v) (w : World) :
    Calls Tryd.prog 50 #[.string s] w fun e w' => e = .returned (.tuple #[.int .i64 v, .nilIface]) ∧ (w' = w ∨ ∃ t, w' = Lib.bytesWorld w 5 t) := Any.strconv_Atoi_ok Tryd.laysC172 s hmax v h w
open Go.RowKit in
theorem Tryd.strconv_Atoi_syntax_var (s : ByteArray) (hlim : s.size ≤ 281474976710656) (h1 : ∀ v, Lib.atoiAll s.data.toList ≠ .ok v) (h2 : Lib.atoiAll s.data.toList ≠ .range) (tp : TypeId) (p : Value) (w : World) (hvar : w.var? Tryd.prog "strconv.ErrSyntax" = some #[.iface tp p]) :
    Calls Tryd.prog 50 #[.string s] w fun e w' => ∃ N, e = .returned (.tuple #[.int .i64 0, .iface 144 (.pointer (some ⟨N, 0, none⟩))]) ∧ w.heap.size ≤ N ∧ w'.heap[N]? = some (.cells #[.string ⟨#[65, 116, 111, 105]⟩, .string s, .iface tp p] 181 (0, 0)) ∧ Below w.heap.size w w' := Any.strconv_Atoi_syntax_var Tryd.laysC172 s hlim (by rcases hx : Lib.atoiAll s.data.toList with v | _ | _ <;> first | rfl | exact absurd hx (h1 _) | exact absurd hx h2) tp p w hvar
open Go.RowKit in
theorem Tryd.strconv_Atoi_range_var (s : ByteArray) (hlim : s.size ≤ 281474976710656) (h : Lib.atoiAll s.data.toList = .range) (tp : TypeId) (p : Value) (w : World) (hvar : w.var? Tryd.prog "strconv.ErrRange" = some #[.iface tp p]) :
    Calls Tryd.prog 50 #[.string s] w fun e w' => ∃ N, e = .returned (.tuple #[.int .i64 (Lib.atoiSat s.data.toList), .iface 144 (.pointer (some ⟨N, 0, none⟩))]) ∧ w.heap.size ≤ N ∧ w'.heap[N]? = some (.cells #[.string ⟨#[65, 116, 111, 105]⟩, .string s, .iface tp p] 181 (0, 0)) ∧ Below w.heap.size w w' := Any.strconv_Atoi_range_var Tryd.laysC172 s hlim h tp p w hvar
end Go.Proofs
end

section
/- The contract of the program's function behind the hole 'name_number', by a walk over its text. -/
namespace Go.Proofs.YtflpddhoiafhcaaDoor.H
open Go.RowKit Go.Proofs.YtflpddhoiafhcaaDoorW.PrintWords Go.Proofs.YtflpddhoiafhcaaDoorW.PrintLast Go.Proofs.YtflpddhoiafhcaaDoorW.PrintMore
attribute [local go_sem] max2_int min2_int max_two min_two max_three min_three max_four min_four
set_option linter.unusedVariables false
set_option linter.unusedSimpArgs false
/-- The number that a text of so many digits at most writes, as it is printed; or none. -/
def numOf (s : ByteArray) (most : Int) : Option Int := match Lib.atoiAll s.data.toList with | .ok n => if 0 < n ∧ (s.size : Int) ≤ most ∧ (⟨(Lib.itoa n).toArray⟩ : ByteArray) = s then some n else none | _ => none
def numIs (s : ByteArray) (most n : Int) (b : Bool) : Prop := match numOf s most with | some v => n = v ∧ b = true | none => b = false
theorem atoi_ok (s : ByteArray) (hs : s.size ≤ 281474976710656) (n : Int) (hx : Lib.atoiAll s.data.toList = .ok n) (W : World) : Calls Tryd.prog 50 #[.string s] W fun e w' => e = .returned (.tuple #[.int .i64 n, .nilIface]) ∧ Below W.heap.size W w' := by
  refine (Tryd.strconv_Atoi_ok s (by omega) n hx W).mono ?_
  rintro e w' ⟨rfl, rfl | ⟨t, rfl⟩⟩
  · exact ⟨rfl, Below.refl _ _⟩
  · exact ⟨rfl, Lib.bytesWorld_below _ _ _⟩
theorem atoi_no (s : ByteArray) (hs : s.size ≤ 281474976710656) (hx : ∀ n, Lib.atoiAll s.data.toList ≠ .ok n) (W : World) (hW : GlobS W) : Calls Tryd.prog 50 #[.string s] W fun e w' => ∃ n N, e = .returned (.tuple #[.int .i64 n, .iface 144 (.pointer (some ⟨N, 0, none⟩))]) ∧ Below W.heap.size W w' := by
  obtain ⟨-, ⟨t2, p2, h2⟩, ⟨t3, p3, h3⟩⟩ := hW
  rcases hy : Lib.atoiAll s.data.toList with n | _ | _
  · exact absurd hy (hx n)
  · refine (Tryd.strconv_Atoi_syntax_var s hs hx (fun h => by rw [hy] at h; cases h) t2 p2 W h2).mono ?_
    rintro e w' ⟨N, rfl, _, _, hb⟩
    exact ⟨_, N, rfl, hb⟩
  · refine (Tryd.strconv_Atoi_range_var s hs hy t3 p3 W h3).mono ?_
    rintro e w' ⟨N, rfl, _, _, hb⟩
    exact ⟨_, N, rfl, hb⟩
theorem grown_below' (w : World) (k : Nat) (os : Array Obj) : Below w.heap.size w (Go.Sort.grow (w.drewN k) os) := Lib.below_grow _ w (Nat.le_refl _) k os
theorem itoa_of (n : Int) (h0 : -9223372036854775808 ≤ n) (h1 : n ≤ 9223372036854775807) (W : World) (hW : GlobS W) : Calls Tryd.prog 47 #[.int .i64 n] W fun e w' => e = .returned (.string ⟨(Lib.itoa n).toArray⟩) ∧ Below W.heap.size W w' := by
  refine (Tryd.strconv_Itoa n h0 h1 W hW.tab).mono ?_
  rintro e w' ⟨rfl, k, os, rfl⟩
  exact ⟨rfl, grown_below' _ _ _⟩
set_option maxHeartbeats 4000000 in
set_option maxRecDepth 100000 in
theorem name_number (s : ByteArray) (hs : s.size ≤ 100000) (most : Int) (w : World) (HG : GlobS w) : Calls Tryd.prog 106 #[.string s, .int .i64 most] w fun e w' => ∃ n b, e = .returned (.tuple #[.int .i64 n, .bool b]) ∧ numIs s most n b ∧ Below w.heap.size w w' := by
  by_cases hok : ∃ n, Lib.atoiAll s.data.toList = .ok n
  · obtain ⟨n, hn⟩ := hok
    obtain ⟨n0, n1⟩ := Lib.atoiAll_bounds hn
    have HN : ∀ b, (0 < n ∧ (s.size : Int) ≤ most ∧ (⟨(Lib.itoa n).toArray⟩ : ByteArray) = s ↔ b = true) → numIs s most n b := fun b hb => by
      unfold numIs numOf
      rw [hn]
      simp only
      cases b with
      | true => rw [if_pos (hb.2 rfl)]; exact ⟨rfl, rfl⟩
      | false => rw [if_neg (fun c => by cases hb.1 c)]
    have HA : Aside0 (∀ W, Calls Tryd.prog 50 #[.string s] W fun e w' => e = .returned (.tuple #[.int .i64 n, .nilIface]) ∧ Below W.heap.size W w') := ⟨fun W => atoi_ok s (by omega) n hn W⟩
    have HI : Aside0 (∀ W, GlobS W → Calls Tryd.prog 47 #[.int .i64 n] W fun e w' => e = .returned (.string ⟨(Lib.itoa n).toArray⟩) ∧ Below W.heap.size W w') := ⟨fun W hW => itoa_of n n0 n1 W hW⟩
    have HGS := Aside0.mk HG
    clear HG hn
    by_cases hp : 0 < n
    · have b1 : decide (n > 0) = true := decide_eq_true hp
      by_cases hm : (s.size : Int) ≤ most
      · have b2 : decide ((s.size : Int) ≤ most) = true := decide_eq_true hm
        generalize ht : (⟨(Lib.itoa n).toArray⟩ : ByteArray) = t at HI
        by_cases he : t = s
        · have HE := Aside0.mk (HN true ⟨fun _ => rfl, fun _ => ⟨hp, hm, ht.trans he⟩⟩)
          clear hp hm ht HN
          subst he
          go_enter Tryd.func106, Tryd.ntmps106
          go_wp2_with fail
          refine (HA.out _).mono ?_
          rintro e W1 ⟨rfl, hb1⟩
          have HB1 := Aside0.mk hb1
          have HG1 := Aside0.mk (HGS.out.below hb1)
          clear hb1
          go_wp2_with fail
          refine (HI.out _ HG1.out).mono ?_
          rintro e W2 ⟨rfl, hb2⟩
          have HB2 := Aside0.mk (HB1.out.trans (hb2.mono HB1.out.size))
          clear hb2
          go_wp2_with fail
          go_ret2
          exact ⟨n, true, rfl, HE.out, HB2.out⟩
        · have HE := Aside0.mk (HN false ⟨fun c => absurd (ht.symm.trans c.2.2) he, fun c => by cases c⟩)
          have hte : (t.toList == s.toList) = false := by
            rw [beq_eq_false_iff_ne]; intro h; refine he (ByteArray.ext ?_)
            rw [Lib.toList_data, Lib.toList_data] at h
            exact Array.toList_inj.1 h
          clear hp hm ht he HN
          go_enter Tryd.func106, Tryd.ntmps106
          go_wp2_with fail
          refine (HA.out _).mono ?_
          rintro e W1 ⟨rfl, hb1⟩
          have HB1 := Aside0.mk hb1
          have HG1 := Aside0.mk (HGS.out.below hb1)
          clear hb1
          go_wp2_with fail
          refine (HI.out _ HG1.out).mono ?_
          rintro e W2 ⟨rfl, hb2⟩
          have HB2 := Aside0.mk (HB1.out.trans (hb2.mono HB1.out.size))
          clear hb2
          go_wp2_with fail
          go_ret2
          exact ⟨n, false, rfl, HE.out, HB2.out⟩
      · have b2 : decide ((s.size : Int) ≤ most) = false := decide_eq_false hm
        have HE := Aside0.mk (HN false ⟨fun c => absurd c.2.1 hm, fun c => by cases c⟩)
        clear hp hm HN
        go_enter Tryd.func106, Tryd.ntmps106
        go_wp2_with fail
        refine (HA.out _).mono ?_
        rintro e W1 ⟨rfl, hb1⟩
        have HB1 := Aside0.mk hb1
        clear hb1
        go_wp2_with fail
        go_ret2
        exact ⟨n, false, rfl, HE.out, HB1.out⟩
    · have b1 : decide (n > 0) = false := decide_eq_false hp
      have HE := Aside0.mk (HN false ⟨fun c => absurd c.1 hp, fun c => by cases c⟩)
      clear hp HN
      go_enter Tryd.func106, Tryd.ntmps106
      go_wp2_with fail
      refine (HA.out _).mono ?_
      rintro e W1 ⟨rfl, hb1⟩
      have HB1 := Aside0.mk hb1
      clear hb1
      go_wp2_with fail
      go_ret2
      exact ⟨n, false, rfl, HE.out, HB1.out⟩
  · have HA := Aside0.mk (atoi_no s (by omega) (fun n h => hok ⟨n, h⟩) w HG)
    have HE := Aside0.mk (show ∀ n : Int, numIs s most n false by
      intro n
      unfold numIs numOf
      rcases hy : Lib.atoiAll s.data.toList with m | _ | _
      · exact absurd ⟨m, hy⟩ hok
      · rfl
      · rfl)
    clear hok HG
    go_enter Tryd.func106, Tryd.ntmps106
    go_wp2_with fail
    refine HA.out.mono ?_
    rintro e W1 ⟨n, N, rfl, hb1⟩
    have HB1 := Aside0.mk hb1
    clear hb1
    go_wp2_with fail
    go_ret2
    exact ⟨n, false, rfl, HE.out n, HB1.out⟩
end Go.Proofs.YtflpddhoiafhcaaDoor.H
end

section
/-
  DERIVED: THE SHELF's CONTRACTS AT THIS DUMP, IN PLAIN WORDS (tools/lay-plain.mjs out of 'YtflpddhoiafhcaaDoorShlName.lean', which tools/lay-shelf.mjs wrote): THE SAME DECLARATIONS UNDER THE SAME NAMES: 'import', 'namespace', 'open', 'def', 'theorem' AND NOTHING ELSE: no command of the shelf's: FOR A HAND-IN. Each laying: the table of numbers ('.._ren') and one theorem, a field a fact of the dump's own or the kernel's comparison; each contract: ONE APPLICATION.
-/
namespace Go.Proofs
open Go.Shelf
def Tryd.lays156_ren : Go.Shelf.Ren := ⟨fun | 156 => 109 | 165 => 147 | 166 => 148 | 169 => 149 | 240 => 173 | 241 => 174 | 276 => 192 | 277 => 193 | n => n, fun | 31 => 138 | 9 => 9 | 3 => 3 | 4 => 4 | 0 => 0 | 20 => 20 | 72 => 170 | 76 => 69 | 70 => 168 | 37 => 64 | 75 => 68 | 127 => 194 | 164 => 209 | 5 => 5 | 80 => 172 | n => n, fun | n => n⟩
theorem Tryd.lays156 : Go.Proofs.Lays.n156 Tryd.prog Tryd.lays156_ren := {
  mixed := by kernel_rfl
  f156 := Tryd.func109.trans (congrArg some (by kernel_rfl))
  f165 := Tryd.func147.trans (congrArg some (by kernel_rfl))
  f166 := Tryd.func148.trans (congrArg some (by kernel_rfl))
  f169 := Tryd.func149.trans (congrArg some (by kernel_rfl))
  f240 := Tryd.func173.trans (congrArg some (by kernel_rfl))
  f241 := Tryd.func174.trans (congrArg some (by kernel_rfl))
  f276 := Tryd.func192.trans (congrArg some (by kernel_rfl))
  f277 := Tryd.func193.trans (congrArg some (by kernel_rfl))
  t0 := Tryd.underlying0
  a0 := Tryd.isAgg0
  z0 := Tryd.sizeOf0
  v0 := Tryd.zeroValue0
  t3 := Tryd.underlying3
  a3 := Tryd.isAgg3
  z3 := Tryd.sizeOf3
  v3 := Tryd.zeroValue3
  t4 := Tryd.underlying4
  a4 := Tryd.isAgg4
  z4 := Tryd.sizeOf4
  v4 := Tryd.zeroValue4
  t9 := Tryd.underlying9
  a9 := Tryd.isAgg9
  z9 := Tryd.sizeOf9
  v9 := Tryd.zeroValue9
  t20 := Tryd.underlying20
  a20 := Tryd.isAgg20
  z20 := Tryd.sizeOf20
  v20 := Tryd.zeroValue20
  t31 := Tryd.underlying138
  a31 := Tryd.isAgg138
  z31 := Tryd.sizeOf138
  v31 := Tryd.zeroValue138
  t37 := Tryd.underlying64
  a37 := Tryd.isAgg64
  z37 := Tryd.sizeOf64
  v37 := Tryd.zeroValue64
  t70 := Tryd.underlying168
  a70 := Tryd.isAgg168
  z70 := Tryd.sizeOf168
  v70 := Tryd.zeroValue168
  t72 := Tryd.underlying170
  a72 := Tryd.isAgg170
  z72 := Tryd.sizeOf170
  v72 := Tryd.zeroValue170
  t75 := Tryd.underlying68
  a75 := Tryd.isAgg68
  z75 := Tryd.sizeOf68
  v75 := Tryd.zeroValue68
  t76 := Tryd.underlying69
  a76 := Tryd.isAgg69
  z76 := Tryd.sizeOf69
  v76 := Tryd.zeroValue69
  t127 := Tryd.underlying194
  a127 := Tryd.isAgg194
  z127 := Tryd.sizeOf194
  v127 := Tryd.zeroValue194
  t164 := Tryd.underlying209
  a164 := Tryd.isAgg209
  z164 := Tryd.sizeOf209
  v164 := Tryd.zeroValue209 }
theorem Tryd.Builder_Extra_156 : Builder.Extra Tryd.prog Tryd.lays156_ren := {
  sizeBuilder := by kernel_rfl
  liesBuilder := by kernel_rfl
  t5 := Tryd.underlying5
  a5 := Tryd.isAgg5
  z5 := Tryd.sizeOf5
  v5 := Tryd.zeroValue5
  infoByte := by kernel_rfl
  cellsByte := by kernel_rfl
  sizeByte := by kernel_rfl
  neB5 := by decide }
open Go.RowKit in
/-- strings.Join: "Join concatenates the elements of its first argument to create a single string. The separator string sep is placed between elements in the resulting string.": HOWEVER MANY ELEMENTS. Below the heap's end the world is as it was. (LAID: no walk: one application.) -/
theorem Tryd.strings_Join (bk o c : Nat) (xs : List ByteArray) (sep : ByteArray) (w : World) (hcells : ∀ (j : Nat) x, xs[j]? = some x → w.cell? ⟨bk, o + j, none⟩ = some (.string x)) (hbk : bk < w.heap.size) (hN : xs.length ≤ 140737488355328) (hcap : xs.length ≤ c) (hlen : (Lib.join (xs.map (·.data.toList)) sep.data.toList).length ≤ 140737488355328) :
    Calls Tryd.prog 109 #[.slice (some ⟨bk, o, none⟩) xs.length c, .string sep] w fun e w' => e = .returned (.string ⟨(Lib.join (xs.map (·.data.toList)) sep.data.toList).toArray⟩) ∧ Below w.heap.size w w' := Any.strings_Join Tryd.lays156 Tryd.Builder_Extra_156 bk o c xs sep w hcells hbk hN hcap hlen
def Tryd.lays145_ren : Go.Shelf.Ren := ⟨fun | 145 => 104 | 220 => 145 | 219 => 172 | 217 => 188 | 225 => 189 | 224 => 190 | 267 => 191 | 266 => 198 | 314 => 199 | n => n, fun | 9 => 9 | 4 => 4 | 59 => 130 | 3 => 3 | 5 => 5 | 46 => 122 | 146 => 214 | 51 => 162 | n => n, fun | 1 => 4 | n => n⟩
theorem Tryd.lays145 : Go.Proofs.Lays.n145 Tryd.prog Tryd.lays145_ren := {
  mixed := by kernel_rfl
  f145 := Tryd.func104.trans (congrArg some (by kernel_rfl))
  f217 := Tryd.func188.trans (congrArg some (by kernel_rfl))
  f219 := Tryd.func172.trans (congrArg some (by kernel_rfl))
  f220 := Tryd.func145.trans (congrArg some (by kernel_rfl))
  f224 := Tryd.func190.trans (congrArg some (by kernel_rfl))
  f225 := Tryd.func189.trans (congrArg some (by kernel_rfl))
  f266 := Tryd.func198.trans (congrArg some (by kernel_rfl))
  f267 := Tryd.func191.trans (congrArg some (by kernel_rfl))
  f314 := Tryd.func199.trans (congrArg some (by kernel_rfl))
  t3 := Tryd.underlying3
  a3 := Tryd.isAgg3
  z3 := Tryd.sizeOf3
  v3 := Tryd.zeroValue3
  t4 := Tryd.underlying4
  a4 := Tryd.isAgg4
  z4 := Tryd.sizeOf4
  v4 := Tryd.zeroValue4
  t5 := Tryd.underlying5
  a5 := Tryd.isAgg5
  z5 := Tryd.sizeOf5
  v5 := Tryd.zeroValue5
  t9 := Tryd.underlying9
  a9 := Tryd.isAgg9
  z9 := Tryd.sizeOf9
  v9 := Tryd.zeroValue9
  t46 := Tryd.underlying122
  a46 := Tryd.isAgg122
  z46 := Tryd.sizeOf122
  v46 := Tryd.zeroValue122
  t51 := Tryd.underlying162
  a51 := Tryd.isAgg162
  z51 := Tryd.sizeOf162
  v51 := Tryd.zeroValue162
  t59 := Tryd.underlying130
  a59 := Tryd.isAgg130
  z59 := Tryd.sizeOf130
  v59 := Tryd.zeroValue130
  t146 := Tryd.underlying214
  a146 := Tryd.isAgg214
  z146 := Tryd.sizeOf214
  v146 := Tryd.zeroValue214
  g1 := by kernel_rfl }
open Go.RowKit Go.Lib in
/-- strings.Cut: "Cut slices s around the first instance of sep, returning the text before and after sep. The found result reports whether sep appears in s. If sep does not appear in s, cut returns s, "", false.": IT RETURNS 'Lib.cut s sep'; the world is as it was but for the count of draws. (LAID: no walk: one application.) -/
theorem Tryd.strings_Cut (s sep : ByteArray) (m : Int) (w : World) (hs : s.size < 4294967281) (hm : w.cell? ⟨4, 0, none⟩ = some (.int .i64 m)) :
    Calls Tryd.prog 104 #[.string s, .string sep] w fun e w' => e = .returned (.tuple #[.string ⟨(Lib.cut s.data.toList sep.data.toList).1.toArray⟩, .string ⟨(Lib.cut s.data.toList sep.data.toList).2.1.toArray⟩, .bool (Lib.cut s.data.toList sep.data.toList).2.2]) ∧ ∃ n, w' = w.drewN n := Any.strings_Cut Tryd.lays145 s sep m w hs hm
def Tryd.lays149_ren : Go.Shelf.Ren := ⟨fun | 149 => 105 | 222 => 146 | n => n, fun | 9 => 9 | 5 => 5 | 3 => 3 | 4 => 4 | n => n, fun | n => n⟩
theorem Tryd.lays149 : Go.Proofs.Lays.n149 Tryd.prog Tryd.lays149_ren := {
  mixed := by kernel_rfl
  f149 := Tryd.func105.trans (congrArg some (by kernel_rfl))
  f222 := Tryd.func146.trans (congrArg some (by kernel_rfl))
  t3 := Tryd.underlying3
  a3 := Tryd.isAgg3
  z3 := Tryd.sizeOf3
  v3 := Tryd.zeroValue3
  t4 := Tryd.underlying4
  a4 := Tryd.isAgg4
  z4 := Tryd.sizeOf4
  v4 := Tryd.zeroValue4
  t5 := Tryd.underlying5
  a5 := Tryd.isAgg5
  z5 := Tryd.sizeOf5
  v5 := Tryd.zeroValue5
  t9 := Tryd.underlying9
  a9 := Tryd.isAgg9
  z9 := Tryd.sizeOf9
  v9 := Tryd.zeroValue9 }
open Go.RowKit Go.Lib in
/-- strings.LastIndexByte: "LastIndexByte returns the index of the last instance of c in s, or -1 if c is not present in s." (LAID: no walk: one application.) -/
theorem Tryd.strings_LastIndexByte (s : ByteArray) (c : Int) (hs : s.size < 4611686018427387904) (w : World) :
    Calls Tryd.prog 105 #[.string s, .int .u8 c] w fun e w' => e = .returned (.int .i64 (Lib.lastIndexByte s c)) ∧ w' = w := Any.strings_LastIndexByte Tryd.lays149 s c hs w
end Go.Proofs
end

section
/- A map of names, as name.codes lays it: what it holds, a new name put in, a name looked up. -/
namespace Go.Proofs.YtflpddhoiafhcaaDoor
open Go.RowKit Go.Proofs.YtflpddhoiafhcaaDoorW.PrintWords
def encN (x : ByteArray × Int × Bool) : Value × Value := (.string x.1, .agg #[.int .i64 x.2.1, .bool x.2.2])
/-- Block g is a map that holds these names, in this order. -/
structure NMap (w : World) (g : Nat) (m : List (ByteArray × Int × Bool)) : Prop where
  holds : ∃ es clock, w.heap[g]? = some (.map es clock) ∧ es.toList.map (fun e => (e.key, e.val)) = m.map encN
theorem NMap.lt {w : World} {g : Nat} {m : List (ByteArray × Int × Bool)} (h : NMap w g m) : g < w.heap.size := by
  obtain ⟨es, clock, hb, _⟩ := h.holds
  exact (Array.getElem?_eq_some_iff.1 hb).1
theorem NMap.below {w w' : World} {g : Nat} {m : List (ByteArray × Int × Bool)} (h : NMap w g m) (hb : Below w.heap.size w w') : NMap w' g m := by
  obtain ⟨es, clock, h1, h2⟩ := h.holds
  exact ⟨es, clock, (hb.block g h.lt).trans h1, h2⟩
theorem NMap.made (w : World) : NMap (w.alloc (.map #[] 0)) w.heap.size [] := ⟨#[], 0, heap_alloc_new w _, rfl⟩
theorem bytes_ne {a b : ByteArray} (h : a ≠ b) : (a == b) = false := by
  cases hb : (a == b)
  · rfl
  · exfalso
    apply h
    cases a
    rename_i x
    cases b
    rename_i y
    have h2 : (x == y) = true := hb
    rw [eq_of_beq h2]
theorem bytes_self (a : ByteArray) : (a == a) = true := by
  cases a
  rename_i d
  show (d == d) = true
  simp
theorem find_no (s : ByteArray) : ∀ (es : List MapEntry) (m : List (ByteArray × Int × Bool)) (i : Nat), es.map (fun e => (e.key, e.val)) = m.map encN → (∀ x ∈ m, x.1 ≠ s) → Instr.findNow .string (.string s) es i = some none
  | [], m, i, h, hn => by simp [Instr.findNow]
  | e :: es, [], i, h, hn => by simp at h
  | e :: es, x :: m, i, h, hn => by
    simp only [List.map_cons, List.cons.injEq, encN, Prod.mk.injEq] at h
    obtain ⟨⟨hk, hv⟩, ht⟩ := h
    have hne : s ≠ x.1 := fun c => hn x (by simp) c.symm
    have hsame : Instr.sameNow .string (.string s) (.string x.1) = some false := by
      simp [Instr.sameNow, bytes_ne hne]
    rw [Instr.findNow, hk, hsame]
    exact find_no s es m (i + 1) ht (fun y hy => hn y (by simp [hy]))
theorem find_yes (s : ByteArray) (n : Int) (l : Bool) : ∀ (es : List MapEntry) (m : List (ByteArray × Int × Bool)) (i : Nat), es.map (fun e => (e.key, e.val)) = m.map encN → (m.find? fun x => x.1 = s) = some (s, n, l) → ∃ j, Instr.findNow .string (.string s) es i = some (some (j, .agg #[.int .i64 n, .bool l]))
  | [], m, i, h, hn => by
    have : m = [] := by cases m <;> simp_all
    subst this
    simp at hn
  | e :: es, [], i, h, hn => by simp at h
  | e :: es, x :: m, i, h, hn => by
    simp only [List.map_cons, List.cons.injEq, encN, Prod.mk.injEq] at h
    obtain ⟨⟨hk, hv⟩, ht⟩ := h
    by_cases c : x.1 = s
    · rw [List.find?_cons_of_pos (by simpa using c)] at hn
      have hx := Option.some.inj hn
      subst hx
      refine ⟨i, ?_⟩
      have hsame : Instr.sameNow .string (.string s) (.string s) = some true := by simp [Instr.sameNow, bytes_self]
      rw [Instr.findNow, hk, hsame, hv]
    · rw [List.find?_cons_of_neg (by simpa using c)] at hn
      obtain ⟨j, hj⟩ := find_yes s n l es m (i + 1) ht hn
      have hne : s ≠ x.1 := fun d => c d.symm
      have hsame : Instr.sameNow .string (.string s) (.string x.1) = some false := by simp [Instr.sameNow, bytes_ne hne]
      exact ⟨j, by rw [Instr.findNow, hk, hsame]; exact hj⟩
theorem mk_under : Tryd.prog.underlying 134 = some (.map 9 23) := by kernel_rfl
theorem ms_under : Tryd.prog.underlying 9 = some .string := by kernel_rfl
theorem key_ok (s : ByteArray) (b : Bool) (w : World) : (Instr.checkKey b 10000 9 (.string s)).run Tryd.prog w = .ok () w := MapKept.run_checkKey (k := .string s) ms_under (by simp [MapKept.IsKey]) b 9999
/-- A new name. -/
theorem NMap.update {w : World} {g : Nat} {m : List (ByteArray × Int × Bool)} (h : NMap w g m) (s : ByteArray) (n : Int) (l : Bool) (hn : ∀ x ∈ m, x.1 ≠ s) :
    ∃ w', (Instr.mapUpdate 134 (.map (some g)) (.string s) (.agg #[.int .i64 n, .bool l])).run Tryd.prog w = .ok () w' ∧ NMap w' g (m ++ [(s, n, l)]) ∧ ∀ (B : Nat) (w0 : World), B ≤ g → Below B w0 w → Below B w0 w' := by
  have hlt := h.lt
  obtain ⟨es, clock, hb, he⟩ := h.holds
  have hf := find_no s es.toList m 0 he hn
  refine ⟨_, by simp [Instr.mapUpdate, run_underlying mk_under, MapKept.run_getObj_map hb, key_ok, MapKept.run_findKey ms_under hf, MapKept.run_setObj_map _ hb, Result.andThen]; rfl, ⟨es.push ⟨.string s, .agg #[.int .i64 n, .bool l], clock⟩, clock + 1, ?_, ?_⟩, fun B w0 hB hw => ?_⟩
  · show (w.heap.setIfInBounds g _)[g]? = _
    rw [Array.getElem?_setIfInBounds_self_of_lt hlt]
  · rw [Array.toList_push, List.map_append, List.map_append, he]; rfl
  · refine ⟨hw.os, hw.tape, hw.output, ?_, fun k hk => ?_⟩
    · show w0.heap.size ≤ (w.heap.setIfInBounds g _).size
      rw [Array.size_setIfInBounds]; exact hw.size
    · show (w.heap.setIfInBounds g _)[k]? = _
      rw [Array.getElem?_setIfInBounds_ne (by omega)]
      exact hw.block k hk
/-- What a name leads to. -/
def codeIn (m : List (ByteArray × Int × Bool)) (s : ByteArray) : Int × Bool × Bool := match m.find? fun x => x.1 = s with | some x => (x.2.1, x.2.2, true) | none => (0, false, false)
theorem NMap.lookup {w : World} {g : Nat} {m : List (ByteArray × Int × Bool)} (h : NMap w g m) (s : ByteArray) :
    (Instr.lookup 134 (.map (some g)) (.string s) true).run Tryd.prog w = .ok (.tuple #[.agg #[.int .i64 (codeIn m s).1, .bool (codeIn m s).2.1], .bool (codeIn m s).2.2]) w := by
  obtain ⟨es, clock, hb, he⟩ := h.holds
  have hz : (zeroValue 23).run Tryd.prog w = .ok (.agg #[.int .i64 0, .bool false]) w := by kernel_rfl
  unfold codeIn
  cases hm : m.find? fun x => x.1 = s with
  | none =>
    have hn : ∀ x ∈ m, x.1 ≠ s := fun x hx => by simpa using List.find?_eq_none.1 hm x hx
    have hf := find_no s es.toList m 0 he hn
    simp [Instr.lookup, run_underlying mk_under, MapKept.run_getObj_map hb, key_ok, MapKept.run_findKey ms_under hf, hz, Result.andThen]
  | some x =>
    have hx : x.1 = s := by simpa using List.find?_some hm
    obtain ⟨x1, x2, x3⟩ := x
    simp only at hx
    subst hx
    obtain ⟨j, hf⟩ := find_yes x1 x2 x3 es.toList m 0 he hm
    simp [Instr.lookup, run_underlying mk_under, MapKept.run_getObj_map hb, key_ok, MapKept.run_findKey ms_under hf, Result.andThen]
end Go.Proofs.YtflpddhoiafhcaaDoor
end

section
/- The contract of the program's function behind the hole 'name_codes', by a walk over its text. -/
namespace Go.Proofs.YtflpddhoiafhcaaDoor.H
open Go.RowKit Go.Proofs.YtflpddhoiafhcaaDoorW.PrintWords Go.Proofs.YtflpddhoiafhcaaDoorW.PrintLast Go.Proofs.YtflpddhoiafhcaaDoorW.PrintMore
attribute [local go_sem] max2_int min2_int max_two min_two max_three min_three max_four min_four
set_option linter.unusedVariables false
set_option linter.unusedSimpArgs false
/-- The names of the codes up to a number, as name.codes lays them. -/
def codesTo (i : Nat) : List (ByteArray × Int × Bool) := [(Cal.adar1, 5, true), (Cal.adar2, 6, false)] ++ (List.range i).map fun (j : Nat) => (Cal.nameAt (j : Int), (j : Int) + 1, false)
theorem codesTo_succ (i : Nat) : codesTo (i + 1) = codesTo i ++ [(Cal.nameAt (i : Int), (i : Int) + 1, false)] := by
  unfold codesTo
  rw [List.range_succ, List.map_append, ← List.append_assoc]
  rfl
theorem codesTo_new (i : Nat) (h : i < 12) : ∀ x ∈ codesTo i, x.1 ≠ Cal.nameAt (i : Int) := by
  rcases (by omega : i = 0 ∨ i = 1 ∨ i = 2 ∨ i = 3 ∨ i = 4 ∨ i = 5 ∨ i = 6 ∨ i = 7 ∨ i = 8 ∨ i = 9 ∨ i = 10 ∨ i = 11) with rfl | rfl | rfl | rfl | rfl | rfl | rfl | rfl | rfl | rfl | rfl | rfl <;> decide +kernel
theorem name_index (i : Nat) (h : i < 12) (w : World) : (Instr.index 106 (.agg nameCells) (.int .i64 i)).run Tryd.prog w = .ok (.string (Cal.nameAt (i : Int))) w := by
  rcases (by omega : i = 0 ∨ i = 1 ∨ i = 2 ∨ i = 3 ∨ i = 4 ∨ i = 5 ∨ i = 6 ∨ i = 7 ∨ i = 8 ∨ i = 9 ∨ i = 10 ∨ i = 11) with rfl | rfl | rfl | rfl | rfl | rfl | rfl | rfl | rfl | rfl | rfl | rfl <;> kernel_rfl
set_option maxHeartbeats 4000000 in
set_option maxRecDepth 100000 in
theorem name_codes (w : World) (HG : GlobN w) : Calls Tryd.prog 107 #[] w fun e w' => e = .returned (.map (some w.heap.size)) ∧ NMap w' w.heap.size (codesTo 12) ∧ Below w.heap.size w w' := by
  obtain ⟨w2, hr2, hm2, hb2⟩ := (NMap.made w).update Cal.adar1 5 true (by simp)
  obtain ⟨w3, hr3, hm3, hb3⟩ := hm2.update Cal.adar2 6 false (by decide +kernel)
  have HM3 : Aside0 (NMap w3 w.heap.size (codesTo 0)) := ⟨hm3⟩
  have hbw := hb3 w.heap.size w (Nat.le_refl _) (hb2 w.heap.size w (Nat.le_refl _) (below_alloc (Below.refl w.heap.size w) _))
  have HB3 := Aside0.mk hbw
  obtain ⟨t3, fr3, hp3⟩ := (HG.below hbw).names
  have HP := Aside0.mk hp3
  have hmm := @run_makeMap Tryd.prog
  unfold Cal.adar1 at hr2
  unfold Cal.adar2 at hr3
  clear hm2 hb2 hm3 hb3 hbw hp3 HG
  go_enter Tryd.func107, Tryd.ntmps107
  go_wp2_with (first | (refine wpList_load_row rfl 106 _ rfl 0 rfl t3 nameCells fr3 _ HP.out Tryd.underlying106 rfl (by kernel_rfl) ?_))
  clear hr2 hr3 hmm
  go_loopw [9] (fun s9 wr => ∃ i : Nat, i ≤ 12 ∧ s9 = .int .i64 i ∧ Aside0 (NMap wr w.heap.size (codesTo i)) ∧ Aside0 (Below w.heap.size w wr)) (fun s9 _ => 12 - (intOf s9).toNat)
  case atStart => exact ⟨0, by omega, rfl, HM3, HB3⟩
  case round =>
    obtain ⟨i, hi, rfl, HM, HB⟩ := hrel
    by_cases hlt : i < 12
    · obtain ⟨s, hs⟩ : ∃ s, Cal.nameAt (i : Int) = s := ⟨_, rfl⟩
      have hx : ∀ w, (Instr.index 106 (.agg nameCells) (.int .i64 i)).run Tryd.prog w = .ok (.string s) w := fun w => by rw [← hs]; exact name_index i hlt w
      obtain ⟨w4, hr4, hm4, hb4⟩ := HM.out.update s ((i : Int) + 1) false (by rw [← hs]; exact codesTo_new i hlt)
      have HM4 : Aside0 (NMap w4 w.heap.size (codesTo (i + 1))) := ⟨by rw [codesTo_succ, hs]; exact hm4⟩
      have HB4 := Aside0.mk (hb4 _ _ (Nat.le_refl _) HB.out)
      have hltz : (i : Int) < 12 := by omega
      have hw : wrap64 ((i : Int) + 1) = (i : Int) + 1 := by unfold wrap64; omega
      clear hm4 hb4 hs HM
      go_wp2_with fail
      trace_state
      exact ⟨⟨i + 1, by omega, by go_num, HM4, HB4⟩, by simp [intOf]; omega⟩
    · obtain rfl : i = 12 := by omega
      go_wp2_with fail
      go_ret
      exact ⟨rfl, HM.out, HB.out⟩
end Go.Proofs.YtflpddhoiafhcaaDoor.H
end

section
-- Written by wip/hprint.py of this repo (holes typed by hand, all else by a program) over the seat YtflpddhoiafhcaaDoor.
namespace Go.Proofs.YtflpddhoiafhcaaDoor.N
open Go.Proofs.YtflpddhoiafhcaaDoor.H
open Go.RowKit Go.Proofs.YtflpddhoiafhcaaDoorW.PrintWords Go.Proofs.YtflpddhoiafhcaaDoorW.PrintLast Go.Proofs.YtflpddhoiafhcaaDoorW.PrintMore
attribute [local go_sem] max2_int min2_int max_two min_two max_three min_three max_four min_four   -- for this text's walks alone
set_option linter.unusedVariables false
set_option linter.unusedSimpArgs false

def errW : Option Int → Value
  | none => .nilIface
  | some c => .iface 0 (.int .i64 c)
theorem errW_none : errW none = .nilIface := rfl
theorem errW_some (c : Int) : errW (some c) = .iface 0 (.int .i64 c) := rfl

-- the values' own types

end Go.Proofs.YtflpddhoiafhcaaDoor.N
end

section
-- Written by wip/hprint.py of this repo (holes typed by hand, all else by a program) over the seat YtflpddhoiafhcaaDoor.
namespace Go.Proofs.YtflpddhoiafhcaaDoor.N
open Go.Proofs.YtflpddhoiafhcaaDoor.H
open Go.RowKit Go.Proofs.YtflpddhoiafhcaaDoorW.PrintWords Go.Proofs.YtflpddhoiafhcaaDoorW.PrintLast Go.Proofs.YtflpddhoiafhcaaDoorW.PrintMore
attribute [local go_sem] max2_int min2_int max_two min_two max_three min_three max_four min_four   -- for this text's walks alone
set_option linter.unusedVariables false
set_option linter.unusedSimpArgs false

def code_Right.f (a0_0 : Int) (a0_1 : Bool) : Option (Bool) := if a0_0 > 0 then (if a0_0 ≤ 12 then (if a0_0 = 5 then (some true) else (some (!a0_1))) else (some false)) else (some false)
set_option maxHeartbeats 8000000 in
set_option maxRecDepth 100000 in
theorem code_Right.calls (a0_0 : Int) (a0_1 : Bool) (r : Bool) (w : World) (h : code_Right.f a0_0 a0_1 = some r) :
    Calls Tryd.prog 18 #[.agg #[.int .i64 a0_0, .bool a0_1]] w fun e w' => e = .returned (.bool r) ∧ Below w.heap.size w w' := by
  have hu23 := Tryd.underlying23
  have HB := Aside0.mk (Below.refl w.heap.size w)
  have H : (if a0_0 > 0 then (if a0_0 ≤ 12 then (if a0_0 = 5 then (some true) else (some (!a0_1))) else (some false)) else (some false)) = some r := h
  clear h
  by_cases c2 : a0_0 > 0
  · rw [if_pos c2] at H
    have c2b0 : decide (0 < a0_0) = true := decide_eq_true c2
    clear c2
    by_cases c3 : a0_0 ≤ 12
    · rw [if_pos c3] at H
      have c3b0 : decide (a0_0 ≤ 12) = true := decide_eq_true c3
      clear c3
      by_cases c4 : a0_0 = 5
      · rw [if_pos c4] at H
        have c4b0 : (a0_0 == 5) = true := beq_iff_eq.mpr c4
        have c4b1 : (a0_0 != 5) = false := bne_eq_false_iff_eq.mpr c4
        clear c4
        obtain rfl := Option.some.inj H
        go_enter Tryd.func18, Tryd.ntmps18
        go_wp2_with (first | ((with_reducible refine gate_dst (N := 1) rfl ?_); refine box_event ?hg (N := 1) ?hd (cs := #[.int .i64 a0_0, .bool a0_1]) (t := 23) ?hr ?_; (case hd => rfl); (case hg => rfl); (case hr => first | (go_simp; done) | (go_simp; rfl)); intro gb101 hg w5 hbox hb; have n0_ := Aside0.mk (below_step (by repeat (first | (with_reducible first | exact HB.out | apply below_alloc | apply pw_below_drewN | apply below_drew1) | exact HB.out)) hb); have n1_ := Aside0.mk (hbox); have n2_ := Aside0.mk ((by rw [hg]; exact (below_size (by repeat (first | (with_reducible first | exact HB.out | apply below_alloc | apply pw_below_drewN | apply below_drew1) | exact HB.out))) : w.heap.size ≤ gb101)); have n3_ := Aside0.mk ((by rw [hg]; exact (below_size (by repeat (first | (with_reducible first | exact HB.out | apply below_alloc | apply pw_below_drewN | apply below_drew1) | exact HB.out))) : w.heap.size ≤ gb101)); clear HB; have HB := n0_; have BK101 := n1_; have GW101 := n2_; have GE101 := n3_; clear n0_ n1_ n2_ n3_; clear hb hbox hg; have hcz6_0 : w5.cell? ⟨gb101, 0, none⟩ = some (.int .i64 a0_0) := (blk_cell BK101.out 0).trans rfl; have hcz6_1 : w5.cell? ⟨gb101, 1, none⟩ = some (.bool a0_1) := (blk_cell BK101.out 1).trans rfl; have hfz6_0 := blk_frozen BK101.out 0; have hfz6_1 := blk_frozen BK101.out 1))
        go_ret
        exact ⟨by first | rfl | (simp [errW_none, errW_some] <;> rfl) | (simp [*, errW_none, errW_some] <;> rfl), by repeat (first | (with_reducible first | exact HB.out | apply below_alloc | apply pw_below_drewN | apply below_drew1 | refine below_set ?_ GE101.out) | exact HB.out)⟩
      · rw [if_neg c4] at H
        have c4b0 : (a0_0 == 5) = false := beq_eq_false_iff_ne.mpr c4
        have c4b1 : (a0_0 != 5) = true := bne_iff_ne.mpr c4
        obtain rfl := Option.some.inj H
        go_enter Tryd.func18, Tryd.ntmps18
        go_wp2_with (first | ((with_reducible refine gate_dst (N := 1) rfl ?_); refine box_event ?hg (N := 1) ?hd (cs := #[.int .i64 a0_0, .bool a0_1]) (t := 23) ?hr ?_; (case hd => rfl); (case hg => rfl); (case hr => first | (go_simp; done) | (go_simp; rfl)); intro gb101 hg w7 hbox hb; have n0_ := Aside0.mk (below_step (by repeat (first | (with_reducible first | exact HB.out | apply below_alloc | apply pw_below_drewN | apply below_drew1) | exact HB.out)) hb); have n1_ := Aside0.mk (hbox); have n2_ := Aside0.mk ((by rw [hg]; exact (below_size (by repeat (first | (with_reducible first | exact HB.out | apply below_alloc | apply pw_below_drewN | apply below_drew1) | exact HB.out))) : w.heap.size ≤ gb101)); have n3_ := Aside0.mk ((by rw [hg]; exact (below_size (by repeat (first | (with_reducible first | exact HB.out | apply below_alloc | apply pw_below_drewN | apply below_drew1) | exact HB.out))) : w.heap.size ≤ gb101)); clear HB; have HB := n0_; have BK101 := n1_; have GW101 := n2_; have GE101 := n3_; clear n0_ n1_ n2_ n3_; clear hb hbox hg; have hcz8_0 : w7.cell? ⟨gb101, 0, none⟩ = some (.int .i64 a0_0) := (blk_cell BK101.out 0).trans rfl; have hcz8_1 : w7.cell? ⟨gb101, 1, none⟩ = some (.bool a0_1) := (blk_cell BK101.out 1).trans rfl; have hfz8_0 := blk_frozen BK101.out 0; have hfz8_1 := blk_frozen BK101.out 1))
        go_ret
        exact ⟨by first | rfl | (simp [errW_none, errW_some] <;> rfl) | (simp [*, errW_none, errW_some] <;> rfl), by repeat (first | (with_reducible first | exact HB.out | apply below_alloc | apply pw_below_drewN | apply below_drew1 | refine below_set ?_ GE101.out) | exact HB.out)⟩
    · rw [if_neg c3] at H
      have c3b0 : decide (a0_0 ≤ 12) = false := decide_eq_false c3
      clear c3
      obtain rfl := Option.some.inj H
      go_enter Tryd.func18, Tryd.ntmps18
      go_wp2_with (first | ((with_reducible refine gate_dst (N := 1) rfl ?_); refine box_event ?hg (N := 1) ?hd (cs := #[.int .i64 a0_0, .bool a0_1]) (t := 23) ?hr ?_; (case hd => rfl); (case hg => rfl); (case hr => first | (go_simp; done) | (go_simp; rfl)); intro gb101 hg w9 hbox hb; have n0_ := Aside0.mk (below_step (by repeat (first | (with_reducible first | exact HB.out | apply below_alloc | apply pw_below_drewN | apply below_drew1) | exact HB.out)) hb); have n1_ := Aside0.mk (hbox); have n2_ := Aside0.mk ((by rw [hg]; exact (below_size (by repeat (first | (with_reducible first | exact HB.out | apply below_alloc | apply pw_below_drewN | apply below_drew1) | exact HB.out))) : w.heap.size ≤ gb101)); have n3_ := Aside0.mk ((by rw [hg]; exact (below_size (by repeat (first | (with_reducible first | exact HB.out | apply below_alloc | apply pw_below_drewN | apply below_drew1) | exact HB.out))) : w.heap.size ≤ gb101)); clear HB; have HB := n0_; have BK101 := n1_; have GW101 := n2_; have GE101 := n3_; clear n0_ n1_ n2_ n3_; clear hb hbox hg; have hcz10_0 : w9.cell? ⟨gb101, 0, none⟩ = some (.int .i64 a0_0) := (blk_cell BK101.out 0).trans rfl; have hcz10_1 : w9.cell? ⟨gb101, 1, none⟩ = some (.bool a0_1) := (blk_cell BK101.out 1).trans rfl; have hfz10_0 := blk_frozen BK101.out 0; have hfz10_1 := blk_frozen BK101.out 1))
      go_ret
      exact ⟨by first | rfl | (simp [errW_none, errW_some] <;> rfl) | (simp [*, errW_none, errW_some] <;> rfl), by repeat (first | (with_reducible first | exact HB.out | apply below_alloc | apply pw_below_drewN | apply below_drew1 | refine below_set ?_ GE101.out) | exact HB.out)⟩
  · rw [if_neg c2] at H
    have c2b0 : decide (0 < a0_0) = false := decide_eq_false c2
    clear c2
    obtain rfl := Option.some.inj H
    go_enter Tryd.func18, Tryd.ntmps18
    go_wp2_with (first | ((with_reducible refine gate_dst (N := 1) rfl ?_); refine box_event ?hg (N := 1) ?hd (cs := #[.int .i64 a0_0, .bool a0_1]) (t := 23) ?hr ?_; (case hd => rfl); (case hg => rfl); (case hr => first | (go_simp; done) | (go_simp; rfl)); intro gb101 hg w11 hbox hb; have n0_ := Aside0.mk (below_step (by repeat (first | (with_reducible first | exact HB.out | apply below_alloc | apply pw_below_drewN | apply below_drew1) | exact HB.out)) hb); have n1_ := Aside0.mk (hbox); have n2_ := Aside0.mk ((by rw [hg]; exact (below_size (by repeat (first | (with_reducible first | exact HB.out | apply below_alloc | apply pw_below_drewN | apply below_drew1) | exact HB.out))) : w.heap.size ≤ gb101)); have n3_ := Aside0.mk ((by rw [hg]; exact (below_size (by repeat (first | (with_reducible first | exact HB.out | apply below_alloc | apply pw_below_drewN | apply below_drew1) | exact HB.out))) : w.heap.size ≤ gb101)); clear HB; have HB := n0_; have BK101 := n1_; have GW101 := n2_; have GE101 := n3_; clear n0_ n1_ n2_ n3_; clear hb hbox hg; have hcz12_0 : w11.cell? ⟨gb101, 0, none⟩ = some (.int .i64 a0_0) := (blk_cell BK101.out 0).trans rfl; have hcz12_1 : w11.cell? ⟨gb101, 1, none⟩ = some (.bool a0_1) := (blk_cell BK101.out 1).trans rfl; have hfz12_0 := blk_frozen BK101.out 0; have hfz12_1 := blk_frozen BK101.out 1))
    go_ret
    exact ⟨by first | rfl | (simp [errW_none, errW_some] <;> rfl) | (simp [*, errW_none, errW_some] <;> rfl), by repeat (first | (with_reducible first | exact HB.out | apply below_alloc | apply pw_below_drewN | apply below_drew1 | refine below_set ?_ GE101.out) | exact HB.out)⟩

def code_Place.j0 : Nat → Bool → Bool → Int → Bool → Option (Int × Bool)
  | 0, _, _, _, _ => none
  | k + 1, x0, x6, x103000, x103001 => if x6 = true then (some (0, false)) else (if x0 = true then (if x103001 = true then (some (wrap64 (x103000 + 1), true)) else (if x103000 > 5 then (some (wrap64 (x103000 + 1), true)) else (some (x103000, true)))) else (some (x103000, true)))
def code_Place.f (k : Nat) (a0 : Bool) (a1_0 : Int) (a1_1 : Bool) : Option (Int × Bool) := (code_Right.f a1_0 a1_1).bind fun t103 => (if t103 = true then (if a1_1 = true then (code_Place.j0 k a0 (!a0) a1_0 a1_1) else (code_Place.j0 k a0 false a1_0 a1_1)) else (code_Place.j0 k a0 true a1_0 a1_1))
set_option maxHeartbeats 8000000 in
set_option maxRecDepth 100000 in
theorem code_Place.calls (k : Nat) (a0 : Bool) (a1_0 : Int) (a1_1 : Bool) (r1 : Int) (r2 : Bool) (w : World) (h : code_Place.f k a0 a1_0 a1_1 = some (r1, r2)) :
    Calls Tryd.prog 24 #[.bool a0, .agg #[.int .i64 a1_0, .bool a1_1]] w fun e w' => e = .returned (.tuple #[.int .i64 r1, .bool r2]) ∧ Below w.heap.size w w' := by
  have hu23 := Tryd.underlying23
  have HB := Aside0.mk (Below.refl w.heap.size w)
  have H : ((code_Right.f a1_0 a1_1).bind fun t103 => (if t103 = true then (if a1_1 = true then (code_Place.j0 k a0 (!a0) a1_0 a1_1) else (code_Place.j0 k a0 false a1_0 a1_1)) else (code_Place.j0 k a0 true a1_0 a1_1))) = some (r1, r2) := h
  clear h
  have HC3 := Aside0.mk H
  clear H
  go_enter Tryd.func24, Tryd.ntmps24
  go_upto_region 1 with (first | ((with_reducible refine gate_dst (N := 3) rfl ?_); refine box_event ?hg (N := 3) ?hd (cs := #[.int .i64 a1_0, .bool a1_1]) (t := 23) ?hr ?_; (case hd => rfl); (case hg => rfl); (case hr => first | (go_simp; done) | (go_simp; rfl)); intro gb102 hg w4 hbox hb; have n0_ := Aside0.mk (below_step (by repeat (first | (with_reducible first | exact HB.out | apply below_alloc | apply pw_below_drewN | apply below_drew1) | exact HB.out)) hb); have n1_ := Aside0.mk (hbox); have n2_ := Aside0.mk ((by rw [hg]; exact (below_size (by repeat (first | (with_reducible first | exact HB.out | apply below_alloc | apply pw_below_drewN | apply below_drew1) | exact HB.out))) : w.heap.size ≤ gb102)); have n3_ := Aside0.mk ((by rw [hg]; exact (below_size (by repeat (first | (with_reducible first | exact HB.out | apply below_alloc | apply pw_below_drewN | apply below_drew1) | exact HB.out))) : w.heap.size ≤ gb102)); clear HB; have HB := n0_; have BK102 := n1_; have GW102 := n2_; have GE102 := n3_; clear n0_ n1_ n2_ n3_; clear hb hbox hg))
  (try simp only [Act.put, List.setIfInBounds_toArray, List.set_cons_zero, List.set_cons_succ])
  go_cut [6] (fun v6 wc => ∃ (kq : Nat) (x6_2 : Bool), v6 = .bool x6_2 ∧ Aside0 (code_Place.j0 kq a0 x6_2 a1_0 a1_1 = some (r1, r2)) ∧ Aside0 (kq ≤ k) ∧ Aside0 (wc.heap[gb102]? = some (.cells #[.int .i64 a1_0, .bool a1_1] 23 (0, 0))) ∧ Aside0 (Below w.heap.size w wc))
  case first =>
    have H := HC3.out
    clear HC3
    replace H := Option.bind_eq_some_iff.mp H
    obtain ⟨t103, A50, H⟩ := H
    replace H : (if t103 = true then (if a1_1 = true then (code_Place.j0 k a0 (!a0) a1_0 a1_1) else (code_Place.j0 k a0 false a1_0 a1_1)) else (code_Place.j0 k a0 true a1_0 a1_1)) = some (r1, r2) := H
    have A5 := Aside0.mk A50
    clear A50
    by_cases c6 : t103 = true
    · subst c6
      have H1 : (if a1_1 = true then (code_Place.j0 k a0 (!a0) a1_0 a1_1) else (code_Place.j0 k a0 false a1_0 a1_1)) = some (r1, r2) := by rw [if_pos rfl] at H; exact H
      clear H
      have H := H1
      clear H1
      by_cases c7 : a1_1 = true
      · subst c7
        have H1 : (code_Place.j0 k a0 (!a0) a1_0 true) = some (r1, r2) := by rw [if_pos rfl] at H; exact H
        clear H
        have H := H1
        clear H1
        have H' := Aside0.mk H
        clear H
        have hcz8_0 : w4.cell? ⟨gb102, 0, none⟩ = some (.int .i64 a1_0) := (blk_cell BK102.out 0).trans rfl
        have hcz8_1 : w4.cell? ⟨gb102, 1, none⟩ = some (.bool true) := (blk_cell BK102.out 1).trans rfl
        have hfz8_0 := blk_frozen BK102.out 0
        have hfz8_1 := blk_frozen BK102.out 1
        go_wp2_with (first | ((with_reducible refine gate_callee (f := 18) rfl ?_); refine goesL_ (some 8) rfl rfl Tryd.func18 (by kernel_rfl) rfl #[.agg #[.int .i64 a1_0, .bool true]] rfl (by (try simp only [List.map_toArray, List.map_cons, List.map_nil]); first | done | rfl | (simp only [List.length_drop, List.length_take]; rfl)) ?_; (with_reducible refine (code_Right.calls a1_0 true true _ A5.out).mono ?_); rintro e w9 ⟨rfl, hb⟩; refine ⟨_, rfl, ?_⟩; have n0_ := Aside0.mk (blk_below (g := gb102) (o := .cells #[.int .i64 a1_0, .bool true] 23 (0, 0)) (by (with_reducible repeat (first | refine blk_drewN ?_ _ | refine blk_drew ?_ | refine blk_alloc ?_ _)); exact BK102.out) hb); have n1_ := Aside0.mk (below_step (by repeat (first | (with_reducible first | exact HB.out | apply below_alloc | apply pw_below_drewN | apply below_drew1 | refine below_set ?_ GE102.out) | exact HB.out)) hb); clear BK102; clear HB; have BK102 := n0_; have HB := n1_; clear n0_ n1_; (try clear hb); (try clear hb2); (try clear hk); (try clear hi); have hcz10_0 : w9.cell? ⟨gb102, 0, none⟩ = some (.int .i64 a1_0) := (blk_cell BK102.out 0).trans rfl; have hcz10_1 : w9.cell? ⟨gb102, 1, none⟩ = some (.bool true) := (blk_cell BK102.out 1).trans rfl; have hfz10_0 := blk_frozen BK102.out 0; have hfz10_1 := blk_frozen BK102.out 1))
        go_meet
        case rel => exact ⟨_, (!a0), (by first | rfl | (simp; done) | (simp [*]; done)), H', ⟨by first | omega | exact Nat.le_refl _⟩, ⟨by (with_reducible repeat (first | refine blk_drewN ?_ _ | refine blk_drew ?_ | refine blk_alloc ?_ _)); exact BK102.out⟩, ⟨by repeat (first | (with_reducible first | exact HB.out | apply below_alloc | apply pw_below_drewN | apply below_drew1 | refine below_set ?_ GE102.out) | exact HB.out)⟩⟩
      · replace c7 := Bool.eq_false_iff.mpr c7
        subst c7
        have H1 : (code_Place.j0 k a0 false a1_0 false) = some (r1, r2) := by rw [if_neg (show ¬ (false = true) by decide)] at H; exact H
        clear H
        have H := H1
        clear H1
        have H' := Aside0.mk H
        clear H
        have hcz11_0 : w4.cell? ⟨gb102, 0, none⟩ = some (.int .i64 a1_0) := (blk_cell BK102.out 0).trans rfl
        have hcz11_1 : w4.cell? ⟨gb102, 1, none⟩ = some (.bool false) := (blk_cell BK102.out 1).trans rfl
        have hfz11_0 := blk_frozen BK102.out 0
        have hfz11_1 := blk_frozen BK102.out 1
        go_wp2_with (first | ((with_reducible refine gate_callee (f := 18) rfl ?_); refine goesL_ (some 8) rfl rfl Tryd.func18 (by kernel_rfl) rfl #[.agg #[.int .i64 a1_0, .bool false]] rfl (by (try simp only [List.map_toArray, List.map_cons, List.map_nil]); first | done | rfl | (simp only [List.length_drop, List.length_take]; rfl)) ?_; (with_reducible refine (code_Right.calls a1_0 false true _ A5.out).mono ?_); rintro e w12 ⟨rfl, hb⟩; refine ⟨_, rfl, ?_⟩; have n0_ := Aside0.mk (blk_below (g := gb102) (o := .cells #[.int .i64 a1_0, .bool false] 23 (0, 0)) (by (with_reducible repeat (first | refine blk_drewN ?_ _ | refine blk_drew ?_ | refine blk_alloc ?_ _)); exact BK102.out) hb); have n1_ := Aside0.mk (below_step (by repeat (first | (with_reducible first | exact HB.out | apply below_alloc | apply pw_below_drewN | apply below_drew1 | refine below_set ?_ GE102.out) | exact HB.out)) hb); clear BK102; clear HB; have BK102 := n0_; have HB := n1_; clear n0_ n1_; (try clear hb); (try clear hb2); (try clear hk); (try clear hi); have hcz13_0 : w12.cell? ⟨gb102, 0, none⟩ = some (.int .i64 a1_0) := (blk_cell BK102.out 0).trans rfl; have hcz13_1 : w12.cell? ⟨gb102, 1, none⟩ = some (.bool false) := (blk_cell BK102.out 1).trans rfl; have hfz13_0 := blk_frozen BK102.out 0; have hfz13_1 := blk_frozen BK102.out 1))
        go_meet
        case rel => exact ⟨_, (false), (by first | rfl | (simp; done) | (simp [*]; done)), H', ⟨by first | omega | exact Nat.le_refl _⟩, ⟨by (with_reducible repeat (first | refine blk_drewN ?_ _ | refine blk_drew ?_ | refine blk_alloc ?_ _)); exact BK102.out⟩, ⟨by repeat (first | (with_reducible first | exact HB.out | apply below_alloc | apply pw_below_drewN | apply below_drew1 | refine below_set ?_ GE102.out) | exact HB.out)⟩⟩
    · replace c6 := Bool.eq_false_iff.mpr c6
      subst c6
      have H1 : (code_Place.j0 k a0 true a1_0 a1_1) = some (r1, r2) := by rw [if_neg (show ¬ (false = true) by decide)] at H; exact H
      clear H
      have H := H1
      clear H1
      have H' := Aside0.mk H
      clear H
      have hcz14_0 : w4.cell? ⟨gb102, 0, none⟩ = some (.int .i64 a1_0) := (blk_cell BK102.out 0).trans rfl
      have hcz14_1 : w4.cell? ⟨gb102, 1, none⟩ = some (.bool a1_1) := (blk_cell BK102.out 1).trans rfl
      have hfz14_0 := blk_frozen BK102.out 0
      have hfz14_1 := blk_frozen BK102.out 1
      go_wp2_with (first | ((with_reducible refine gate_callee (f := 18) rfl ?_); refine goesL_ (some 8) rfl rfl Tryd.func18 (by kernel_rfl) rfl #[.agg #[.int .i64 a1_0, .bool a1_1]] rfl (by (try simp only [List.map_toArray, List.map_cons, List.map_nil]); first | done | rfl | (simp only [List.length_drop, List.length_take]; rfl)) ?_; (with_reducible refine (code_Right.calls a1_0 a1_1 false _ A5.out).mono ?_); rintro e w15 ⟨rfl, hb⟩; refine ⟨_, rfl, ?_⟩; have n0_ := Aside0.mk (blk_below (g := gb102) (o := .cells #[.int .i64 a1_0, .bool a1_1] 23 (0, 0)) (by (with_reducible repeat (first | refine blk_drewN ?_ _ | refine blk_drew ?_ | refine blk_alloc ?_ _)); exact BK102.out) hb); have n1_ := Aside0.mk (below_step (by repeat (first | (with_reducible first | exact HB.out | apply below_alloc | apply pw_below_drewN | apply below_drew1 | refine below_set ?_ GE102.out) | exact HB.out)) hb); clear BK102; clear HB; have BK102 := n0_; have HB := n1_; clear n0_ n1_; (try clear hb); (try clear hb2); (try clear hk); (try clear hi)))
      go_meet
      case rel => exact ⟨_, (true), (by first | rfl | (simp; done) | (simp [*]; done)), H', ⟨by first | omega | exact Nat.le_refl _⟩, ⟨by (with_reducible repeat (first | refine blk_drewN ?_ _ | refine blk_drew ?_ | refine blk_alloc ?_ _)); exact BK102.out⟩, ⟨by repeat (first | (with_reducible first | exact HB.out | apply below_alloc | apply pw_below_drewN | apply below_drew1 | refine below_set ?_ GE102.out) | exact HB.out)⟩⟩
  case rest =>
    clear HC3
    try clear c1
    try clear c2
    try clear p2
    try clear c6
    try clear c7
    try clear hcz10_0
    try clear hcz10_1
    try clear hcz11_0
    try clear hcz11_1
    try clear hcz13_0
    try clear hcz13_1
    try clear hcz14_0
    try clear hcz14_1
    try clear hcz8_0
    try clear hcz8_1
    try clear hfz10_0
    try clear hfz10_1
    try clear hfz11_0
    try clear hfz11_1
    try clear hfz13_0
    try clear hfz13_1
    try clear hfz14_0
    try clear hfz14_1
    try clear hfz8_0
    try clear hfz8_1
    obtain ⟨kq, x6_2, rfl, HA, HJ2, BK102, HB⟩ := hcut
    cases kq with
    | zero => exact absurd HA.out (by simp [code_Place.j0])
    | succ kj2 =>
      have H := HA.out
      clear HA
      simp only [code_Place.j0] at H
      by_cases c16 : x6_2 = true
      · subst c16
        have H1 : (some (0, false)) = some (r1, r2) := by rw [if_pos rfl] at H; exact H
        clear H
        have H := H1
        clear H1
        simp only [Option.some.injEq, Prod.mk.injEq] at H
        obtain ⟨rfl, rfl⟩ := H
        go_wp2
        go_ret2
        exact ⟨by first | rfl | (simp [errW_none, errW_some] <;> rfl) | (simp [*, errW_none, errW_some] <;> rfl), by repeat (first | (with_reducible first | exact HB.out | apply below_alloc | apply pw_below_drewN | apply below_drew1 | refine below_set ?_ GE102.out) | exact HB.out)⟩
      · replace c16 := Bool.eq_false_iff.mpr c16
        subst c16
        have H1 : (if a0 = true then (if a1_1 = true then (some (wrap64 (a1_0 + 1), true)) else (if a1_0 > 5 then (some (wrap64 (a1_0 + 1), true)) else (some (a1_0, true)))) else (some (a1_0, true))) = some (r1, r2) := by rw [if_neg (show ¬ (false = true) by decide)] at H; exact H
        clear H
        have H := H1
        clear H1
        by_cases c17 : a0 = true
        · subst c17
          have H1 : (if a1_1 = true then (some (wrap64 (a1_0 + 1), true)) else (if a1_0 > 5 then (some (wrap64 (a1_0 + 1), true)) else (some (a1_0, true)))) = some (r1, r2) := by rw [if_pos rfl] at H; exact H
          clear H
          have H := H1
          clear H1
          by_cases c18 : a1_1 = true
          · subst c18
            have H1 : (some (wrap64 (a1_0 + 1), true)) = some (r1, r2) := by rw [if_pos rfl] at H; exact H
            clear H
            have H := H1
            clear H1
            simp only [Option.some.injEq, Prod.mk.injEq] at H
            obtain ⟨rfl, rfl⟩ := H
            have hcz19_0 : wc.cell? ⟨gb102, 0, none⟩ = some (.int .i64 a1_0) := (blk_cell BK102.out 0).trans rfl
            have hcz19_1 : wc.cell? ⟨gb102, 1, none⟩ = some (.bool true) := (blk_cell BK102.out 1).trans rfl
            have hfz19_0 := blk_frozen BK102.out 0
            have hfz19_1 := blk_frozen BK102.out 1
            go_wp2
            go_ret2
            exact ⟨by first | rfl | (simp [errW_none, errW_some] <;> rfl) | (simp [*, errW_none, errW_some] <;> rfl), by repeat (first | (with_reducible first | exact HB.out | apply below_alloc | apply pw_below_drewN | apply below_drew1 | refine below_set ?_ GE102.out) | exact HB.out)⟩
          · replace c18 := Bool.eq_false_iff.mpr c18
            subst c18
            have H1 : (if a1_0 > 5 then (some (wrap64 (a1_0 + 1), true)) else (some (a1_0, true))) = some (r1, r2) := by rw [if_neg (show ¬ (false = true) by decide)] at H; exact H
            clear H
            have H := H1
            clear H1
            by_cases c20 : a1_0 > 5
            · rw [if_pos c20] at H
              have c20b0 : decide (5 < a1_0) = true := decide_eq_true c20
              clear c20
              simp only [Option.some.injEq, Prod.mk.injEq] at H
              obtain ⟨rfl, rfl⟩ := H
              have hcz21_0 : wc.cell? ⟨gb102, 0, none⟩ = some (.int .i64 a1_0) := (blk_cell BK102.out 0).trans rfl
              have hcz21_1 : wc.cell? ⟨gb102, 1, none⟩ = some (.bool false) := (blk_cell BK102.out 1).trans rfl
              have hfz21_0 := blk_frozen BK102.out 0
              have hfz21_1 := blk_frozen BK102.out 1
              go_wp2
              go_ret2
              exact ⟨by first | rfl | (simp [errW_none, errW_some] <;> rfl) | (simp [*, errW_none, errW_some] <;> rfl), by repeat (first | (with_reducible first | exact HB.out | apply below_alloc | apply pw_below_drewN | apply below_drew1 | refine below_set ?_ GE102.out) | exact HB.out)⟩
            · rw [if_neg c20] at H
              have c20b0 : decide (5 < a1_0) = false := decide_eq_false c20
              clear c20
              simp only [Option.some.injEq, Prod.mk.injEq] at H
              obtain ⟨rfl, rfl⟩ := H
              have hcz22_0 : wc.cell? ⟨gb102, 0, none⟩ = some (.int .i64 a1_0) := (blk_cell BK102.out 0).trans rfl
              have hcz22_1 : wc.cell? ⟨gb102, 1, none⟩ = some (.bool false) := (blk_cell BK102.out 1).trans rfl
              have hfz22_0 := blk_frozen BK102.out 0
              have hfz22_1 := blk_frozen BK102.out 1
              go_wp2
              go_ret2
              exact ⟨by first | rfl | (simp [errW_none, errW_some] <;> rfl) | (simp [*, errW_none, errW_some] <;> rfl), by repeat (first | (with_reducible first | exact HB.out | apply below_alloc | apply pw_below_drewN | apply below_drew1 | refine below_set ?_ GE102.out) | exact HB.out)⟩
        · replace c17 := Bool.eq_false_iff.mpr c17
          subst c17
          have H1 : (some (a1_0, true)) = some (r1, r2) := by rw [if_neg (show ¬ (false = true) by decide)] at H; exact H
          clear H
          have H := H1
          clear H1
          simp only [Option.some.injEq, Prod.mk.injEq] at H
          obtain ⟨rfl, rfl⟩ := H
          have hcz23_0 : wc.cell? ⟨gb102, 0, none⟩ = some (.int .i64 a1_0) := (blk_cell BK102.out 0).trans rfl
          have hcz23_1 : wc.cell? ⟨gb102, 1, none⟩ = some (.bool a1_1) := (blk_cell BK102.out 1).trans rfl
          have hfz23_0 := blk_frozen BK102.out 0
          have hfz23_1 := blk_frozen BK102.out 1
          go_wp2
          go_ret2
          exact ⟨by first | rfl | (simp [errW_none, errW_some] <;> rfl) | (simp [*, errW_none, errW_some] <;> rfl), by repeat (first | (with_reducible first | exact HB.out | apply below_alloc | apply pw_below_drewN | apply below_drew1 | refine below_set ?_ GE102.out) | exact HB.out)⟩

def exact_both.f (a0 : Int) (a1 : Int) : Option (Int × Int) := if a1 = 0 then (none) else (if (Int.tmod a0 a1) < 0 then (some (wrap64 ((wrap64 (Int.tdiv a0 a1)) - 1), wrap64 ((Int.tmod a0 a1) + a1))) else (some (wrap64 (Int.tdiv a0 a1), Int.tmod a0 a1)))
set_option maxHeartbeats 8000000 in
set_option maxRecDepth 100000 in
theorem exact_both.calls (a0 : Int) (a1 : Int) (r1 : Int) (r2 : Int) (w : World) (h : exact_both.f a0 a1 = some (r1, r2)) :
    Calls Tryd.prog 122 #[.int .i64 a0, .int .i64 a1] w fun e w' => e = .returned (.tuple #[.int .i64 r1, .int .i64 r2]) ∧ Drawn0 w w' := by
  have H : (if a1 = 0 then (none) else (if (Int.tmod a0 a1) < 0 then (some (wrap64 ((wrap64 (Int.tdiv a0 a1)) - 1), wrap64 ((Int.tmod a0 a1) + a1))) else (some (wrap64 (Int.tdiv a0 a1), Int.tmod a0 a1)))) = some (r1, r2) := h
  clear h
  by_cases c3 : a1 = 0
  · rw [if_pos c3] at H
    exact absurd H (by simp)
  · rw [if_neg c3] at H
    have c3b0 : (a1 == 0) = false := beq_eq_false_iff_ne.mpr c3
    have c3b1 : (a1 != 0) = true := bne_iff_ne.mpr c3
    by_cases c4 : (Int.tmod a0 a1) < 0
    · rw [if_pos c4] at H
      have c4b0 : decide ((Int.tmod a0 a1) < 0) = true := decide_eq_true c4
      clear c4
      simp only [Option.some.injEq, Prod.mk.injEq] at H
      obtain ⟨rfl, rfl⟩ := H
      go_enter Tryd.func122, Tryd.ntmps122
      go_wp2
      repeat (go_quiet (fail); try go_wp2)
      go_ret2
      exact ⟨by first | rfl | (simp; done) | (simp [*]; done), by repeat (first | exact Drawn0.refl _ | apply Drawn0.step)⟩
    · rw [if_neg c4] at H
      have c4b0 : decide ((Int.tmod a0 a1) < 0) = false := decide_eq_false c4
      clear c4
      simp only [Option.some.injEq, Prod.mk.injEq] at H
      obtain ⟨rfl, rfl⟩ := H
      go_enter Tryd.func122, Tryd.ntmps122
      go_wp2
      repeat (go_quiet (fail); try go_wp2)
      go_ret2
      exact ⟨by first | rfl | (simp; done) | (simp [*]; done), by repeat (first | exact Drawn0.refl _ | apply Drawn0.step)⟩

def exact_Mod.f (a0 : Int) (a1 : Int) : Option (Int × Int) := if a1 < 1 then (some (0, 1)) else ((exact_both.f a0 a1).bind fun bt104 => (some (bt104.2, 0)))
set_option maxHeartbeats 8000000 in
set_option maxRecDepth 100000 in
theorem exact_Mod.calls (a0 : Int) (a1 : Int) (r1 : Int) (r2 : Int) (w : World) (h : exact_Mod.f a0 a1 = some (r1, r2)) :
    Calls Tryd.prog 87 #[.int .i64 a0, .int .i64 a1] w fun e w' => e = .returned (.tuple #[.int .i64 r1, .int .i64 r2]) ∧ Drawn0 w w' := by
  have H : (if a1 < 1 then (some (0, 1)) else ((exact_both.f a0 a1).bind fun bt104 => (some (bt104.2, 0)))) = some (r1, r2) := h
  clear h
  by_cases c3 : a1 < 1
  · rw [if_pos c3] at H
    have c3b0 : decide (a1 < 1) = true := decide_eq_true c3
    clear c3
    simp only [Option.some.injEq, Prod.mk.injEq] at H
    obtain ⟨rfl, rfl⟩ := H
    go_enter Tryd.func87, Tryd.ntmps87
    go_wp2
    go_ret2
    exact ⟨by first | rfl | (simp; done) | (simp [*]; done), by repeat (first | exact Drawn0.refl _ | apply Drawn0.step)⟩
  · rw [if_neg c3] at H
    have c3b0 : decide (a1 < 1) = false := decide_eq_false c3
    clear c3
    replace H := Option.bind_eq_some_iff.mp H
    obtain ⟨⟨t104, t105⟩, A40, H⟩ := H
    replace H : (some (t105, 0)) = some (r1, r2) := H
    have A4 := Aside0.mk A40
    clear A40
    simp only [Option.some.injEq, Prod.mk.injEq] at H
    obtain ⟨rfl, rfl⟩ := H
    go_enter Tryd.func87, Tryd.ntmps87
    go_wp2_with (first | ((with_reducible refine gate_callee (f := 122) rfl ?_); refine goesL_ (some 13) rfl rfl Tryd.func122 (by kernel_rfl) rfl #[.int .i64 a0, .int .i64 a1] rfl (by (try simp only [List.map_toArray, List.map_cons, List.map_nil]); first | done | rfl | (simp only [List.length_drop, List.length_take]; rfl)) ?_; (with_reducible refine (exact_both.calls a0 a1 t104 t105 _ A4.out).mono ?_); rintro e w' ⟨rfl, ⟨nd, rfl⟩⟩; refine ⟨_, rfl, ?_⟩))
    go_ret2
    exact ⟨by first | rfl | (simp; done) | (simp [*]; done), by repeat (first | exact Drawn0.refl _ | apply Drawn0.step)⟩

def molad_Weekday.f (a0 : Int) : Option (Int) := (exact_Mod.f a0 7).bind fun bt106 => (some bt106.1)
set_option maxHeartbeats 8000000 in
set_option maxRecDepth 100000 in
theorem molad_Weekday.calls (a0 : Int) (r : Int) (w : World) (h : molad_Weekday.f a0 = some r) :
    Calls Tryd.prog 53 #[.int .i64 a0] w fun e w' => e = .returned (.int .i64 r) ∧ Drawn0 w w' := by
  have H : ((exact_Mod.f a0 7).bind fun bt106 => (some bt106.1)) = some r := h
  clear h
  replace H := Option.bind_eq_some_iff.mp H
  obtain ⟨⟨t106, t107⟩, A20, H⟩ := H
  replace H : (some t106) = some r := H
  have A2 := Aside0.mk A20
  clear A20
  obtain rfl := Option.some.inj H
  go_enter Tryd.func53, Tryd.ntmps53
  go_wp2_with (first | ((with_reducible refine gate_callee (f := 87) rfl ?_); refine goesL_ (some 7) rfl rfl Tryd.func87 (by kernel_rfl) rfl #[.int .i64 a0, .int .i64 7] rfl (by (try simp only [List.map_toArray, List.map_cons, List.map_nil]); first | done | rfl | (simp only [List.length_drop, List.length_take]; rfl)) ?_; (with_reducible refine (exact_Mod.calls a0 7 t106 t107 _ A2.out).mono ?_); rintro e w' ⟨rfl, ⟨nd, rfl⟩⟩; refine ⟨_, rfl, ?_⟩))
  go_ret
  exact ⟨by first | rfl | (simp; done) | (simp [*]; done), by repeat (first | exact Drawn0.refl _ | apply Drawn0.step)⟩

def cycle_check.f (a0 : Int) : Option (Int) := if a0 < 0 then (some 2) else (if a0 > 10001 then (some 2) else (some 0))
set_option maxHeartbeats 8000000 in
set_option maxRecDepth 100000 in
theorem cycle_check.calls (a0 : Int) (r : Int) (w : World) (h : cycle_check.f a0 = some r) :
    Calls Tryd.prog 144 #[.int .i64 a0] w fun e w' => e = .returned (.int .i64 r) ∧ Drawn0 w w' := by
  have H : (if a0 < 0 then (some 2) else (if a0 > 10001 then (some 2) else (some 0))) = some r := h
  clear h
  by_cases c2 : a0 < 0
  · rw [if_pos c2] at H
    have c2b0 : decide (a0 < 0) = true := decide_eq_true c2
    clear c2
    obtain rfl := Option.some.inj H
    go_enter Tryd.func144, Tryd.ntmps144
    go_wp2
    go_ret
    exact ⟨by first | rfl | (simp; done) | (simp [*]; done), by repeat (first | exact Drawn0.refl _ | apply Drawn0.step)⟩
  · rw [if_neg c2] at H
    have c2b0 : decide (a0 < 0) = false := decide_eq_false c2
    clear c2
    by_cases c3 : a0 > 10001
    · rw [if_pos c3] at H
      have c3b0 : decide (10001 < a0) = true := decide_eq_true c3
      clear c3
      obtain rfl := Option.some.inj H
      go_enter Tryd.func144, Tryd.ntmps144
      go_wp2
      go_ret
      exact ⟨by first | rfl | (simp; done) | (simp [*]; done), by repeat (first | exact Drawn0.refl _ | apply Drawn0.step)⟩
    · rw [if_neg c3] at H
      have c3b0 : decide (10001 < a0) = false := decide_eq_false c3
      clear c3
      obtain rfl := Option.some.inj H
      go_enter Tryd.func144, Tryd.ntmps144
      go_wp2
      go_ret
      exact ⟨by first | rfl | (simp; done) | (simp [*]; done), by repeat (first | exact Drawn0.refl _ | apply Drawn0.step)⟩

def cycle_Leap.f (a0 : Int) : Option (Bool × Int) := (cycle_check.f a0).bind fun t108 => (if t108 = 0 then (if (Int.tmod a0 19) = 0 then (some (true, 0)) else (if (Int.tmod a0 19) = 3 then (some (true, 0)) else (if (Int.tmod a0 19) = 6 then (some (true, 0)) else (if (Int.tmod a0 19) = 8 then (some (true, 0)) else (if (Int.tmod a0 19) = 11 then (some (true, 0)) else (if (Int.tmod a0 19) = 14 then (some (true, 0)) else (if (Int.tmod a0 19) = 17 then (some (true, 0)) else (some (false, 0))))))))) else (some (false, t108)))
set_option maxHeartbeats 8000000 in
set_option maxRecDepth 100000 in
theorem cycle_Leap.calls (a0 : Int) (r1 : Bool) (r2 : Int) (w : World) (h : cycle_Leap.f a0 = some (r1, r2)) :
    Calls Tryd.prog 103 #[.int .i64 a0] w fun e w' => e = .returned (.tuple #[.bool r1, .int .i64 r2]) ∧ Drawn0 w w' := by
  have H : ((cycle_check.f a0).bind fun t108 => (if t108 = 0 then (if (Int.tmod a0 19) = 0 then (some (true, 0)) else (if (Int.tmod a0 19) = 3 then (some (true, 0)) else (if (Int.tmod a0 19) = 6 then (some (true, 0)) else (if (Int.tmod a0 19) = 8 then (some (true, 0)) else (if (Int.tmod a0 19) = 11 then (some (true, 0)) else (if (Int.tmod a0 19) = 14 then (some (true, 0)) else (if (Int.tmod a0 19) = 17 then (some (true, 0)) else (some (false, 0))))))))) else (some (false, t108)))) = some (r1, r2) := h
  clear h
  replace H := Option.bind_eq_some_iff.mp H
  obtain ⟨t108, A20, H⟩ := H
  replace H : (if t108 = 0 then (if (Int.tmod a0 19) = 0 then (some (true, 0)) else (if (Int.tmod a0 19) = 3 then (some (true, 0)) else (if (Int.tmod a0 19) = 6 then (some (true, 0)) else (if (Int.tmod a0 19) = 8 then (some (true, 0)) else (if (Int.tmod a0 19) = 11 then (some (true, 0)) else (if (Int.tmod a0 19) = 14 then (some (true, 0)) else (if (Int.tmod a0 19) = 17 then (some (true, 0)) else (some (false, 0))))))))) else (some (false, t108))) = some (r1, r2) := H
  have A2 := Aside0.mk A20
  clear A20
  by_cases c3 : t108 = 0
  · rw [if_pos c3] at H
    have c3b0 : (t108 == 0) = true := beq_iff_eq.mpr c3
    have c3b1 : (t108 != 0) = false := bne_eq_false_iff_eq.mpr c3
    clear c3
    by_cases c4 : (Int.tmod a0 19) = 0
    · rw [if_pos c4] at H
      have c4b0 : ((Int.tmod a0 19) == 0) = true := beq_iff_eq.mpr c4
      have c4b1 : ((Int.tmod a0 19) != 0) = false := bne_eq_false_iff_eq.mpr c4
      clear c4
      simp only [Option.some.injEq, Prod.mk.injEq] at H
      obtain ⟨rfl, rfl⟩ := H
      go_enter Tryd.func103, Tryd.ntmps103
      go_wp2_with (first | ((with_reducible refine gate_callee (f := 144) rfl ?_); refine goesL_ (some 6) rfl rfl Tryd.func144 (by kernel_rfl) rfl #[.int .i64 a0] rfl (by (try simp only [List.map_toArray, List.map_cons, List.map_nil]); first | done | rfl | (simp only [List.length_drop, List.length_take]; rfl)) ?_; (with_reducible refine (cycle_check.calls a0 t108 _ A2.out).mono ?_); rintro e w' ⟨rfl, ⟨nd, rfl⟩⟩; refine ⟨_, rfl, ?_⟩))
      go_ret2
      exact ⟨by first | rfl | (simp; done) | (simp [*]; done), by repeat (first | exact Drawn0.refl _ | apply Drawn0.step)⟩
    · rw [if_neg c4] at H
      have c4b0 : ((Int.tmod a0 19) == 0) = false := beq_eq_false_iff_ne.mpr c4
      have c4b1 : ((Int.tmod a0 19) != 0) = true := bne_iff_ne.mpr c4
      by_cases c5 : (Int.tmod a0 19) = 3
      · rw [if_pos c5] at H
        have c5b0 : ((Int.tmod a0 19) == 3) = true := beq_iff_eq.mpr c5
        have c5b1 : ((Int.tmod a0 19) != 3) = false := bne_eq_false_iff_eq.mpr c5
        clear c5
        simp only [Option.some.injEq, Prod.mk.injEq] at H
        obtain ⟨rfl, rfl⟩ := H
        go_enter Tryd.func103, Tryd.ntmps103
        go_wp2_with (first | ((with_reducible refine gate_callee (f := 144) rfl ?_); refine goesL_ (some 6) rfl rfl Tryd.func144 (by kernel_rfl) rfl #[.int .i64 a0] rfl (by (try simp only [List.map_toArray, List.map_cons, List.map_nil]); first | done | rfl | (simp only [List.length_drop, List.length_take]; rfl)) ?_; (with_reducible refine (cycle_check.calls a0 t108 _ A2.out).mono ?_); rintro e w' ⟨rfl, ⟨nd, rfl⟩⟩; refine ⟨_, rfl, ?_⟩))
        go_ret2
        exact ⟨by first | rfl | (simp; done) | (simp [*]; done), by repeat (first | exact Drawn0.refl _ | apply Drawn0.step)⟩
      · rw [if_neg c5] at H
        have c5b0 : ((Int.tmod a0 19) == 3) = false := beq_eq_false_iff_ne.mpr c5
        have c5b1 : ((Int.tmod a0 19) != 3) = true := bne_iff_ne.mpr c5
        by_cases c6 : (Int.tmod a0 19) = 6
        · rw [if_pos c6] at H
          have c6b0 : ((Int.tmod a0 19) == 6) = true := beq_iff_eq.mpr c6
          have c6b1 : ((Int.tmod a0 19) != 6) = false := bne_eq_false_iff_eq.mpr c6
          clear c6
          simp only [Option.some.injEq, Prod.mk.injEq] at H
          obtain ⟨rfl, rfl⟩ := H
          go_enter Tryd.func103, Tryd.ntmps103
          go_wp2_with (first | ((with_reducible refine gate_callee (f := 144) rfl ?_); refine goesL_ (some 6) rfl rfl Tryd.func144 (by kernel_rfl) rfl #[.int .i64 a0] rfl (by (try simp only [List.map_toArray, List.map_cons, List.map_nil]); first | done | rfl | (simp only [List.length_drop, List.length_take]; rfl)) ?_; (with_reducible refine (cycle_check.calls a0 t108 _ A2.out).mono ?_); rintro e w' ⟨rfl, ⟨nd, rfl⟩⟩; refine ⟨_, rfl, ?_⟩))
          go_ret2
          exact ⟨by first | rfl | (simp; done) | (simp [*]; done), by repeat (first | exact Drawn0.refl _ | apply Drawn0.step)⟩
        · rw [if_neg c6] at H
          have c6b0 : ((Int.tmod a0 19) == 6) = false := beq_eq_false_iff_ne.mpr c6
          have c6b1 : ((Int.tmod a0 19) != 6) = true := bne_iff_ne.mpr c6
          by_cases c7 : (Int.tmod a0 19) = 8
          · rw [if_pos c7] at H
            have c7b0 : ((Int.tmod a0 19) == 8) = true := beq_iff_eq.mpr c7
            have c7b1 : ((Int.tmod a0 19) != 8) = false := bne_eq_false_iff_eq.mpr c7
            clear c7
            simp only [Option.some.injEq, Prod.mk.injEq] at H
            obtain ⟨rfl, rfl⟩ := H
            go_enter Tryd.func103, Tryd.ntmps103
            go_wp2_with (first | ((with_reducible refine gate_callee (f := 144) rfl ?_); refine goesL_ (some 6) rfl rfl Tryd.func144 (by kernel_rfl) rfl #[.int .i64 a0] rfl (by (try simp only [List.map_toArray, List.map_cons, List.map_nil]); first | done | rfl | (simp only [List.length_drop, List.length_take]; rfl)) ?_; (with_reducible refine (cycle_check.calls a0 t108 _ A2.out).mono ?_); rintro e w' ⟨rfl, ⟨nd, rfl⟩⟩; refine ⟨_, rfl, ?_⟩))
            go_ret2
            exact ⟨by first | rfl | (simp; done) | (simp [*]; done), by repeat (first | exact Drawn0.refl _ | apply Drawn0.step)⟩
          · rw [if_neg c7] at H
            have c7b0 : ((Int.tmod a0 19) == 8) = false := beq_eq_false_iff_ne.mpr c7
            have c7b1 : ((Int.tmod a0 19) != 8) = true := bne_iff_ne.mpr c7
            by_cases c8 : (Int.tmod a0 19) = 11
            · rw [if_pos c8] at H
              have c8b0 : ((Int.tmod a0 19) == 11) = true := beq_iff_eq.mpr c8
              have c8b1 : ((Int.tmod a0 19) != 11) = false := bne_eq_false_iff_eq.mpr c8
              clear c8
              simp only [Option.some.injEq, Prod.mk.injEq] at H
              obtain ⟨rfl, rfl⟩ := H
              go_enter Tryd.func103, Tryd.ntmps103
              go_wp2_with (first | ((with_reducible refine gate_callee (f := 144) rfl ?_); refine goesL_ (some 6) rfl rfl Tryd.func144 (by kernel_rfl) rfl #[.int .i64 a0] rfl (by (try simp only [List.map_toArray, List.map_cons, List.map_nil]); first | done | rfl | (simp only [List.length_drop, List.length_take]; rfl)) ?_; (with_reducible refine (cycle_check.calls a0 t108 _ A2.out).mono ?_); rintro e w' ⟨rfl, ⟨nd, rfl⟩⟩; refine ⟨_, rfl, ?_⟩))
              go_ret2
              exact ⟨by first | rfl | (simp; done) | (simp [*]; done), by repeat (first | exact Drawn0.refl _ | apply Drawn0.step)⟩
            · rw [if_neg c8] at H
              have c8b0 : ((Int.tmod a0 19) == 11) = false := beq_eq_false_iff_ne.mpr c8
              have c8b1 : ((Int.tmod a0 19) != 11) = true := bne_iff_ne.mpr c8
              by_cases c9 : (Int.tmod a0 19) = 14
              · rw [if_pos c9] at H
                have c9b0 : ((Int.tmod a0 19) == 14) = true := beq_iff_eq.mpr c9
                have c9b1 : ((Int.tmod a0 19) != 14) = false := bne_eq_false_iff_eq.mpr c9
                clear c9
                simp only [Option.some.injEq, Prod.mk.injEq] at H
                obtain ⟨rfl, rfl⟩ := H
                go_enter Tryd.func103, Tryd.ntmps103
                go_wp2_with (first | ((with_reducible refine gate_callee (f := 144) rfl ?_); refine goesL_ (some 6) rfl rfl Tryd.func144 (by kernel_rfl) rfl #[.int .i64 a0] rfl (by (try simp only [List.map_toArray, List.map_cons, List.map_nil]); first | done | rfl | (simp only [List.length_drop, List.length_take]; rfl)) ?_; (with_reducible refine (cycle_check.calls a0 t108 _ A2.out).mono ?_); rintro e w' ⟨rfl, ⟨nd, rfl⟩⟩; refine ⟨_, rfl, ?_⟩))
                go_ret2
                exact ⟨by first | rfl | (simp; done) | (simp [*]; done), by repeat (first | exact Drawn0.refl _ | apply Drawn0.step)⟩
              · rw [if_neg c9] at H
                have c9b0 : ((Int.tmod a0 19) == 14) = false := beq_eq_false_iff_ne.mpr c9
                have c9b1 : ((Int.tmod a0 19) != 14) = true := bne_iff_ne.mpr c9
                by_cases c10 : (Int.tmod a0 19) = 17
                · rw [if_pos c10] at H
                  have c10b0 : ((Int.tmod a0 19) == 17) = true := beq_iff_eq.mpr c10
                  have c10b1 : ((Int.tmod a0 19) != 17) = false := bne_eq_false_iff_eq.mpr c10
                  clear c10
                  simp only [Option.some.injEq, Prod.mk.injEq] at H
                  obtain ⟨rfl, rfl⟩ := H
                  go_enter Tryd.func103, Tryd.ntmps103
                  go_wp2_with (first | ((with_reducible refine gate_callee (f := 144) rfl ?_); refine goesL_ (some 6) rfl rfl Tryd.func144 (by kernel_rfl) rfl #[.int .i64 a0] rfl (by (try simp only [List.map_toArray, List.map_cons, List.map_nil]); first | done | rfl | (simp only [List.length_drop, List.length_take]; rfl)) ?_; (with_reducible refine (cycle_check.calls a0 t108 _ A2.out).mono ?_); rintro e w' ⟨rfl, ⟨nd, rfl⟩⟩; refine ⟨_, rfl, ?_⟩))
                  go_ret2
                  exact ⟨by first | rfl | (simp; done) | (simp [*]; done), by repeat (first | exact Drawn0.refl _ | apply Drawn0.step)⟩
                · rw [if_neg c10] at H
                  have c10b0 : ((Int.tmod a0 19) == 17) = false := beq_eq_false_iff_ne.mpr c10
                  have c10b1 : ((Int.tmod a0 19) != 17) = true := bne_iff_ne.mpr c10
                  simp only [Option.some.injEq, Prod.mk.injEq] at H
                  obtain ⟨rfl, rfl⟩ := H
                  go_enter Tryd.func103, Tryd.ntmps103
                  go_wp2_with (first | ((with_reducible refine gate_callee (f := 144) rfl ?_); refine goesL_ (some 6) rfl rfl Tryd.func144 (by kernel_rfl) rfl #[.int .i64 a0] rfl (by (try simp only [List.map_toArray, List.map_cons, List.map_nil]); first | done | rfl | (simp only [List.length_drop, List.length_take]; rfl)) ?_; (with_reducible refine (cycle_check.calls a0 t108 _ A2.out).mono ?_); rintro e w' ⟨rfl, ⟨nd, rfl⟩⟩; refine ⟨_, rfl, ?_⟩))
                  go_ret2
                  exact ⟨by first | rfl | (simp; done) | (simp [*]; done), by repeat (first | exact Drawn0.refl _ | apply Drawn0.step)⟩
  · rw [if_neg c3] at H
    have c3b0 : (t108 == 0) = false := beq_eq_false_iff_ne.mpr c3
    have c3b1 : (t108 != 0) = true := bne_iff_ne.mpr c3
    simp only [Option.some.injEq, Prod.mk.injEq] at H
    obtain ⟨rfl, rfl⟩ := H
    go_enter Tryd.func103, Tryd.ntmps103
    go_wp2_with (first | ((with_reducible refine gate_callee (f := 144) rfl ?_); refine goesL_ (some 6) rfl rfl Tryd.func144 (by kernel_rfl) rfl #[.int .i64 a0] rfl (by (try simp only [List.map_toArray, List.map_cons, List.map_nil]); first | done | rfl | (simp only [List.length_drop, List.length_take]; rfl)) ?_; (with_reducible refine (cycle_check.calls a0 t108 _ A2.out).mono ?_); rintro e w' ⟨rfl, ⟨nd, rfl⟩⟩; refine ⟨_, rfl, ?_⟩))
    go_ret2
    exact ⟨by first | rfl | (simp; done) | (simp [*]; done), by repeat (first | exact Drawn0.refl _ | apply Drawn0.step)⟩

def cycle_In.f (a0 : Int) : Option (Int × Int) := (cycle_Leap.f a0).bind fun bt109 => (if bt109.2 = 0 then (if bt109.1 = true then (some (13, 0)) else (some (12, 0))) else (some (0, bt109.2)))
set_option maxHeartbeats 8000000 in
set_option maxRecDepth 100000 in
theorem cycle_In.calls (a0 : Int) (r1 : Int) (r2 : Int) (w : World) (h : cycle_In.f a0 = some (r1, r2)) :
    Calls Tryd.prog 157 #[.int .i64 a0] w fun e w' => e = .returned (.tuple #[.int .i64 r1, .int .i64 r2]) ∧ Drawn0 w w' := by
  have H : ((cycle_Leap.f a0).bind fun bt109 => (if bt109.2 = 0 then (if bt109.1 = true then (some (13, 0)) else (some (12, 0))) else (some (0, bt109.2)))) = some (r1, r2) := h
  clear h
  replace H := Option.bind_eq_some_iff.mp H
  obtain ⟨⟨t109, t110⟩, A20, H⟩ := H
  replace H : (if t110 = 0 then (if t109 = true then (some (13, 0)) else (some (12, 0))) else (some (0, t110))) = some (r1, r2) := H
  have A2 := Aside0.mk A20
  clear A20
  by_cases c3 : t110 = 0
  · rw [if_pos c3] at H
    have c3b0 : (t110 == 0) = true := beq_iff_eq.mpr c3
    have c3b1 : (t110 != 0) = false := bne_eq_false_iff_eq.mpr c3
    clear c3
    by_cases c4 : t109 = true
    · subst c4
      have H1 : (some (13, 0)) = some (r1, r2) := by rw [if_pos rfl] at H; exact H
      clear H
      have H := H1
      clear H1
      simp only [Option.some.injEq, Prod.mk.injEq] at H
      obtain ⟨rfl, rfl⟩ := H
      go_enter Tryd.func157, Tryd.ntmps157
      go_wp2_with (first | ((with_reducible refine gate_callee (f := 103) rfl ?_); refine goesL_ (some 8) rfl rfl Tryd.func103 (by kernel_rfl) rfl #[.int .i64 a0] rfl (by (try simp only [List.map_toArray, List.map_cons, List.map_nil]); first | done | rfl | (simp only [List.length_drop, List.length_take]; rfl)) ?_; (with_reducible refine (cycle_Leap.calls a0 true t110 _ A2.out).mono ?_); rintro e w' ⟨rfl, ⟨nd, rfl⟩⟩; refine ⟨_, rfl, ?_⟩))
      go_ret2
      exact ⟨by first | rfl | (simp; done) | (simp [*]; done), by repeat (first | exact Drawn0.refl _ | apply Drawn0.step)⟩
    · replace c4 := Bool.eq_false_iff.mpr c4
      subst c4
      have H1 : (some (12, 0)) = some (r1, r2) := by rw [if_neg (show ¬ (false = true) by decide)] at H; exact H
      clear H
      have H := H1
      clear H1
      simp only [Option.some.injEq, Prod.mk.injEq] at H
      obtain ⟨rfl, rfl⟩ := H
      go_enter Tryd.func157, Tryd.ntmps157
      go_wp2_with (first | ((with_reducible refine gate_callee (f := 103) rfl ?_); refine goesL_ (some 8) rfl rfl Tryd.func103 (by kernel_rfl) rfl #[.int .i64 a0] rfl (by (try simp only [List.map_toArray, List.map_cons, List.map_nil]); first | done | rfl | (simp only [List.length_drop, List.length_take]; rfl)) ?_; (with_reducible refine (cycle_Leap.calls a0 false t110 _ A2.out).mono ?_); rintro e w' ⟨rfl, ⟨nd, rfl⟩⟩; refine ⟨_, rfl, ?_⟩))
      go_ret2
      exact ⟨by first | rfl | (simp; done) | (simp [*]; done), by repeat (first | exact Drawn0.refl _ | apply Drawn0.step)⟩
  · rw [if_neg c3] at H
    have c3b0 : (t110 == 0) = false := beq_eq_false_iff_ne.mpr c3
    have c3b1 : (t110 != 0) = true := bne_iff_ne.mpr c3
    simp only [Option.some.injEq, Prod.mk.injEq] at H
    obtain ⟨rfl, rfl⟩ := H
    go_enter Tryd.func157, Tryd.ntmps157
    go_wp2_with (first | ((with_reducible refine gate_callee (f := 103) rfl ?_); refine goesL_ (some 8) rfl rfl Tryd.func103 (by kernel_rfl) rfl #[.int .i64 a0] rfl (by (try simp only [List.map_toArray, List.map_cons, List.map_nil]); first | done | rfl | (simp only [List.length_drop, List.length_take]; rfl)) ?_; (with_reducible refine (cycle_Leap.calls a0 t109 t110 _ A2.out).mono ?_); rintro e w' ⟨rfl, ⟨nd, rfl⟩⟩; refine ⟨_, rfl, ?_⟩))
    go_ret2
    exact ⟨by first | rfl | (simp; done) | (simp [*]; done), by repeat (first | exact Drawn0.refl _ | apply Drawn0.step)⟩

def exact_Div.f (a0 : Int) (a1 : Int) : Option (Int × Int) := if a1 < 1 then (some (0, 1)) else ((exact_both.f a0 a1).bind fun bt111 => (some (bt111.1, 0)))
set_option maxHeartbeats 8000000 in
set_option maxRecDepth 100000 in
theorem exact_Div.calls (a0 : Int) (a1 : Int) (r1 : Int) (r2 : Int) (w : World) (h : exact_Div.f a0 a1 = some (r1, r2)) :
    Calls Tryd.prog 181 #[.int .i64 a0, .int .i64 a1] w fun e w' => e = .returned (.tuple #[.int .i64 r1, .int .i64 r2]) ∧ Drawn0 w w' := by
  have H : (if a1 < 1 then (some (0, 1)) else ((exact_both.f a0 a1).bind fun bt111 => (some (bt111.1, 0)))) = some (r1, r2) := h
  clear h
  by_cases c3 : a1 < 1
  · rw [if_pos c3] at H
    have c3b0 : decide (a1 < 1) = true := decide_eq_true c3
    clear c3
    simp only [Option.some.injEq, Prod.mk.injEq] at H
    obtain ⟨rfl, rfl⟩ := H
    go_enter Tryd.func181, Tryd.ntmps181
    go_wp2
    go_ret2
    exact ⟨by first | rfl | (simp; done) | (simp [*]; done), by repeat (first | exact Drawn0.refl _ | apply Drawn0.step)⟩
  · rw [if_neg c3] at H
    have c3b0 : decide (a1 < 1) = false := decide_eq_false c3
    clear c3
    replace H := Option.bind_eq_some_iff.mp H
    obtain ⟨⟨t111, t112⟩, A40, H⟩ := H
    replace H : (some (t111, 0)) = some (r1, r2) := H
    have A4 := Aside0.mk A40
    clear A40
    simp only [Option.some.injEq, Prod.mk.injEq] at H
    obtain ⟨rfl, rfl⟩ := H
    go_enter Tryd.func181, Tryd.ntmps181
    go_wp2_with (first | ((with_reducible refine gate_callee (f := 122) rfl ?_); refine goesL_ (some 13) rfl rfl Tryd.func122 (by kernel_rfl) rfl #[.int .i64 a0, .int .i64 a1] rfl (by (try simp only [List.map_toArray, List.map_cons, List.map_nil]); first | done | rfl | (simp only [List.length_drop, List.length_take]; rfl)) ?_; (with_reducible refine (exact_both.calls a0 a1 t111 t112 _ A4.out).mono ?_); rintro e w' ⟨rfl, ⟨nd, rfl⟩⟩; refine ⟨_, rfl, ?_⟩))
    go_ret2
    exact ⟨by first | rfl | (simp; done) | (simp [*]; done), by repeat (first | exact Drawn0.refl _ | apply Drawn0.step)⟩

def cycle_Before.f (a0 : Int) : Option (Int × Int) := (cycle_check.f a0).bind fun t113 => (if t113 = 0 then ((exact_Div.f (wrap64 ((wrap64 (235 * (wrap64 (a0 - 1)))) + 1)) 19).bind fun bt114 => (some (bt114.1, bt114.2))) else (some (0, t113)))
set_option maxHeartbeats 8000000 in
set_option maxRecDepth 100000 in
theorem cycle_Before.calls (a0 : Int) (r1 : Int) (r2 : Int) (w : World) (h : cycle_Before.f a0 = some (r1, r2)) :
    Calls Tryd.prog 158 #[.int .i64 a0] w fun e w' => e = .returned (.tuple #[.int .i64 r1, .int .i64 r2]) ∧ Drawn0 w w' := by
  have H : ((cycle_check.f a0).bind fun t113 => (if t113 = 0 then ((exact_Div.f (wrap64 ((wrap64 (235 * (wrap64 (a0 - 1)))) + 1)) 19).bind fun bt114 => (some (bt114.1, bt114.2))) else (some (0, t113)))) = some (r1, r2) := h
  clear h
  replace H := Option.bind_eq_some_iff.mp H
  obtain ⟨t113, A20, H⟩ := H
  replace H : (if t113 = 0 then ((exact_Div.f (wrap64 ((wrap64 (235 * (wrap64 (a0 - 1)))) + 1)) 19).bind fun bt114 => (some (bt114.1, bt114.2))) else (some (0, t113))) = some (r1, r2) := H
  have A2 := Aside0.mk A20
  clear A20
  by_cases c3 : t113 = 0
  · rw [if_pos c3] at H
    have c3b0 : (t113 == 0) = true := beq_iff_eq.mpr c3
    have c3b1 : (t113 != 0) = false := bne_eq_false_iff_eq.mpr c3
    clear c3
    replace H := Option.bind_eq_some_iff.mp H
    obtain ⟨⟨t114, t115⟩, A40, H⟩ := H
    replace H : (some (t114, t115)) = some (r1, r2) := H
    have A4 := Aside0.mk A40
    clear A40
    simp only [Option.some.injEq, Prod.mk.injEq] at H
    obtain ⟨rfl, rfl⟩ := H
    go_enter Tryd.func158, Tryd.ntmps158
    go_wp2_with (first | ((with_reducible refine gate_callee (f := 144) rfl ?_); refine goesL_ (some 6) rfl rfl Tryd.func144 (by kernel_rfl) rfl #[.int .i64 a0] rfl (by (try simp only [List.map_toArray, List.map_cons, List.map_nil]); first | done | rfl | (simp only [List.length_drop, List.length_take]; rfl)) ?_; (with_reducible refine (cycle_check.calls a0 t113 _ A2.out).mono ?_); rintro e w' ⟨rfl, ⟨nd, rfl⟩⟩; refine ⟨_, rfl, ?_⟩) | ((with_reducible refine gate_callee (f := 181) rfl ?_); refine goesL_ (some 14) rfl rfl Tryd.func181 (by kernel_rfl) rfl #[.int .i64 (wrap64 ((wrap64 (235 * (wrap64 (a0 - 1)))) + 1)), .int .i64 19] rfl (by (try simp only [List.map_toArray, List.map_cons, List.map_nil]); first | done | rfl | (simp only [List.length_drop, List.length_take]; rfl)) ?_; (with_reducible refine (exact_Div.calls (wrap64 ((wrap64 (235 * (wrap64 (a0 - 1)))) + 1)) 19 t114 t115 _ A4.out).mono ?_); rintro e w' ⟨rfl, ⟨nd, rfl⟩⟩; refine ⟨_, rfl, ?_⟩))
    go_ret2
    exact ⟨by first | rfl | (simp; done) | (simp [*]; done), by repeat (first | exact Drawn0.refl _ | apply Drawn0.step)⟩
  · rw [if_neg c3] at H
    have c3b0 : (t113 == 0) = false := beq_eq_false_iff_ne.mpr c3
    have c3b1 : (t113 != 0) = true := bne_iff_ne.mpr c3
    simp only [Option.some.injEq, Prod.mk.injEq] at H
    obtain ⟨rfl, rfl⟩ := H
    go_enter Tryd.func158, Tryd.ntmps158
    go_wp2_with (first | ((with_reducible refine gate_callee (f := 144) rfl ?_); refine goesL_ (some 6) rfl rfl Tryd.func144 (by kernel_rfl) rfl #[.int .i64 a0] rfl (by (try simp only [List.map_toArray, List.map_cons, List.map_nil]); first | done | rfl | (simp only [List.length_drop, List.length_take]; rfl)) ?_; (with_reducible refine (cycle_check.calls a0 t113 _ A2.out).mono ?_); rintro e w' ⟨rfl, ⟨nd, rfl⟩⟩; refine ⟨_, rfl, ?_⟩))
    go_ret2
    exact ⟨by first | rfl | (simp; done) | (simp [*]; done), by repeat (first | exact Drawn0.refl _ | apply Drawn0.step)⟩

def halak_Moons.f (a0 : Int) : Option (Int × Int) := (exact_Mul.f a0 765433).bind fun bt116 => (some (bt116.1, bt116.2))
set_option maxHeartbeats 8000000 in
set_option maxRecDepth 100000 in
theorem halak_Moons.calls (a0 : Int) (r1 : Int) (r2 : Int) (w : World) (h : halak_Moons.f a0 = some (r1, r2)) :
    Calls Tryd.prog 182 #[.int .i64 a0] w fun e w' => e = .returned (.tuple #[.int .i64 r1, .int .i64 r2]) ∧ Drawn0 w w' := by
  have H : ((exact_Mul.f a0 765433).bind fun bt116 => (some (bt116.1, bt116.2))) = some (r1, r2) := h
  clear h
  replace H := Option.bind_eq_some_iff.mp H
  obtain ⟨⟨t116, t117⟩, A20, H⟩ := H
  replace H : (some (t116, t117)) = some (r1, r2) := H
  have A2 := Aside0.mk A20
  clear A20
  simp only [Option.some.injEq, Prod.mk.injEq] at H
  obtain ⟨rfl, rfl⟩ := H
  go_enter Tryd.func182, Tryd.ntmps182
  go_wp2_with (first | ((with_reducible refine gate_callee (f := 196) rfl ?_); refine goesL_ (some 5) rfl rfl Tryd.func196 (by kernel_rfl) rfl #[.int .i64 a0, .int .i64 765433] rfl (by (try simp only [List.map_toArray, List.map_cons, List.map_nil]); first | done | rfl | (simp only [List.length_drop, List.length_take]; rfl)) ?_; (with_reducible refine (exact_Mul.calls a0 765433 t116 t117 _ A2.out).mono ?_); rintro e w' ⟨rfl, ⟨nd, rfl⟩⟩; refine ⟨_, rfl, ?_⟩))
  go_ret2
  exact ⟨by first | rfl | (simp; done) | (simp [*]; done), by repeat (first | exact Drawn0.refl _ | apply Drawn0.step)⟩

def halak_Split.f (a0 : Int) : Option (Int × Int) := (exact_Div.f a0 25920).bind fun bt119 => ((exact_Mod.f a0 25920).bind fun bt121 => (some (bt119.1, bt121.1)))
set_option maxHeartbeats 8000000 in
set_option maxRecDepth 100000 in
theorem halak_Split.calls (a0 : Int) (r1 : Int) (r2 : Int) (w : World) (h : halak_Split.f a0 = some (r1, r2)) :
    Calls Tryd.prog 183 #[.int .i64 a0] w fun e w' => e = .returned (.agg #[.int .i64 r1, .int .i64 r2]) ∧ Below w.heap.size w w' := by
  have hu86 := Tryd.underlying86
  have HB := Aside0.mk (Below.refl w.heap.size w)
  have H : ((exact_Div.f a0 25920).bind fun bt119 => ((exact_Mod.f a0 25920).bind fun bt121 => (some (bt119.1, bt121.1)))) = some (r1, r2) := h
  clear h
  replace H := Option.bind_eq_some_iff.mp H
  obtain ⟨⟨t119, t120⟩, A20, H⟩ := H
  replace H : ((exact_Mod.f a0 25920).bind fun bt121 => (some (t119, bt121.1))) = some (r1, r2) := H
  have A2 := Aside0.mk A20
  clear A20
  replace H := Option.bind_eq_some_iff.mp H
  obtain ⟨⟨t121, t122⟩, A30, H⟩ := H
  replace H : (some (t119, t121)) = some (r1, r2) := H
  have A3 := Aside0.mk A30
  clear A30
  simp only [Option.some.injEq, Prod.mk.injEq] at H
  obtain ⟨rfl, rfl⟩ := H
  go_enter Tryd.func183, Tryd.ntmps183
  go_wp2_with (first | ((with_reducible refine gate_dst (N := 2) rfl ?_); refine box_event ?hg (N := 2) ?hd (cs := #[.int .i64 0, .int .i64 0]) (t := 86) ?hr ?_; (case hd => rfl); (case hg => rfl); (case hr => first | (go_simp; done) | (go_simp; rfl)); intro gb118 hg w4 hbox hb; have n0_ := Aside0.mk (below_step (by repeat (first | (with_reducible first | exact HB.out | apply below_alloc | apply pw_below_drewN | apply below_drew1) | exact HB.out)) hb); have n1_ := Aside0.mk (hbox); have n2_ := Aside0.mk ((by rw [hg]; exact (below_size (by repeat (first | (with_reducible first | exact HB.out | apply below_alloc | apply pw_below_drewN | apply below_drew1) | exact HB.out))) : w.heap.size ≤ gb118)); have n3_ := Aside0.mk ((by rw [hg]; exact (below_size (by repeat (first | (with_reducible first | exact HB.out | apply below_alloc | apply pw_below_drewN | apply below_drew1) | exact HB.out))) : w.heap.size ≤ gb118)); clear HB; have HB := n0_; have BK118 := n1_; have GW118 := n2_; have GE118 := n3_; clear n0_ n1_ n2_ n3_; clear hb hbox hg) | ((with_reducible refine gate_callee (f := 181) rfl ?_); refine goesL_ (some 9) rfl rfl Tryd.func181 (by kernel_rfl) rfl #[.int .i64 a0, .int .i64 25920] rfl (by (try simp only [List.map_toArray, List.map_cons, List.map_nil]); first | done | rfl | (simp only [List.length_drop, List.length_take]; rfl)) ?_; (with_reducible refine (exact_Div.calls a0 25920 t119 t120 _ A2.out).mono ?_); rintro e w' ⟨rfl, ⟨nd, rfl⟩⟩; refine ⟨_, rfl, ?_⟩; (try (rw [drewN_self w4]; generalize hq_ : World.drewN w4 _ = w4; have n0_ : Aside0 (w4.heap[gb118]? = some (.cells #[.int .i64 0, .int .i64 0] 86 (0, 0))) := ⟨by rw [← hq_]; exact (by (with_reducible repeat (first | refine blk_drewN ?_ _ | refine blk_drew ?_ | refine blk_alloc ?_ _)); exact BK118.out)⟩; have n1_ : Aside0 (Below w.heap.size w w4) := ⟨by rw [← hq_]; exact (by repeat (first | (with_reducible first | exact HB.out | apply below_alloc | apply pw_below_drewN | apply below_drew1 | refine below_set ?_ GE118.out) | exact HB.out))⟩; clear BK118 HB hq_; have BK118 := n0_; have HB := n1_; clear n0_ n1_))) | ((with_reducible refine gate_callee (f := 87) rfl ?_); refine goesL_ (some 14) rfl rfl Tryd.func87 (by kernel_rfl) rfl #[.int .i64 a0, .int .i64 25920] rfl (by (try simp only [List.map_toArray, List.map_cons, List.map_nil]); first | done | rfl | (simp only [List.length_drop, List.length_take]; rfl)) ?_; (with_reducible refine (exact_Mod.calls a0 25920 t121 t122 _ A3.out).mono ?_); rintro e w' ⟨rfl, ⟨nd, rfl⟩⟩; refine ⟨_, rfl, ?_⟩; (try (rw [drewN_self w4]; generalize hq_ : World.drewN w4 _ = w4; have n0_ : Aside0 (w4.heap[gb118]? = some (.cells #[.int .i64 0, .int .i64 0] 86 (0, 0))) := ⟨by rw [← hq_]; exact (by (with_reducible repeat (first | refine blk_drewN ?_ _ | refine blk_drew ?_ | refine blk_alloc ?_ _)); exact BK118.out)⟩; have n1_ : Aside0 (Below w.heap.size w w4) := ⟨by rw [← hq_]; exact (by repeat (first | (with_reducible first | exact HB.out | apply below_alloc | apply pw_below_drewN | apply below_drew1 | refine below_set ?_ GE118.out) | exact HB.out))⟩; clear BK118 HB hq_; have BK118 := n0_; have HB := n1_; clear n0_ n1_)); have hcz5_0 : w4.cell? ⟨gb118, 0, none⟩ = some (.int .i64 0) := (blk_cell BK118.out 0).trans rfl; have hcz5_1 : w4.cell? ⟨gb118, 1, none⟩ = some (.int .i64 0) := (blk_cell BK118.out 1).trans rfl; have hfz5_0 := blk_frozen BK118.out 0; have hfz5_1 := blk_frozen BK118.out 1))
  refine bodyPost_ret (results_cell_row rfl _ _ gb118 86 #[.int .i64 t119, .int .i64 t121] (0, 0) _ rfl (by (with_reducible repeat (first | refine blk_drewN ?_ _ | refine blk_drew ?_ | refine blk_alloc ?_ _)); refine blk_put (cs := #[.int .i64 t119, .int .i64 0]) ?_ 1 _ rfl; (with_reducible repeat (first | refine blk_drewN ?_ _ | refine blk_drew ?_ | refine blk_alloc ?_ _)); refine blk_put (cs := #[.int .i64 0, .int .i64 0]) ?_ 0 _ rfl; (with_reducible repeat (first | refine blk_drewN ?_ _ | refine blk_drew ?_ | refine blk_alloc ?_ _)); exact BK118.out) Tryd.underlying86 rfl (by kernel_rfl)) rfl ?_
  exact ⟨by first | rfl | (simp [errW_none, errW_some] <;> rfl) | (simp [*, errW_none, errW_some] <;> rfl), by repeat (first | (with_reducible first | exact HB.out | apply below_alloc | apply pw_below_drewN | apply below_drew1 | refine below_set ?_ GE118.out) | exact HB.out)⟩

end Go.Proofs.YtflpddhoiafhcaaDoor.N
end

section
-- Written by wip/hprint.py of this repo (holes typed by hand, all else by a program) over the seat YtflpddhoiafhcaaDoor.
namespace Go.Proofs.YtflpddhoiafhcaaDoor.N
open Go.Proofs.YtflpddhoiafhcaaDoor.H
open Go.RowKit Go.Proofs.YtflpddhoiafhcaaDoorW.PrintWords Go.Proofs.YtflpddhoiafhcaaDoorW.PrintLast Go.Proofs.YtflpddhoiafhcaaDoorW.PrintMore
attribute [local go_sem] max2_int min2_int max_two min_two max_three min_three max_four min_four   -- for this text's walks alone
set_option linter.unusedVariables false
set_option linter.unusedSimpArgs false

def molad_Moon.j0 : Nat → Int → Bool → Option (Int × Int × Int)
  | 0, _, _ => none
  | k + 1, x0, x12 => if x12 = true then (some (0, 0, 2)) else ((halak_Moons.f x0).bind fun bt124 => (if bt124.2 = 0 then ((halak_Split.f (wrap64 (bt124.1 + 5604))).bind fun bt126 => (some (wrap64 (bt126.1 + (-1373427)), bt126.2, 0))) else (some (0, 0, bt124.2))))
def molad_Moon.f (k : Nat) (a0 : Int) : Option (Int × Int × Int) := if a0 < (-200000) then (molad_Moon.j0 k a0 true) else (molad_Moon.j0 k a0 (decide (a0 > 200000)))
set_option maxHeartbeats 8000000 in
set_option maxRecDepth 100000 in
theorem molad_Moon.calls (k : Nat) (a0 : Int) (r1 : Int) (r2 : Int) (r3 : Int) (w : World) (h : molad_Moon.f k a0 = some (r1, r2, r3)) :
    Calls Tryd.prog 159 #[.int .i64 a0] w fun e w' => e = .returned (.tuple #[.agg #[.int .i64 r1, .int .i64 r2], .int .i64 r3]) ∧ Below w.heap.size w w' := by
  have hu86 := Tryd.underlying86
  have HB := Aside0.mk (Below.refl w.heap.size w)
  have H : (if a0 < (-200000) then (molad_Moon.j0 k a0 true) else (molad_Moon.j0 k a0 (decide (a0 > 200000)))) = some (r1, r2, r3) := h
  clear h
  have HC2 := Aside0.mk H
  clear H
  go_enter Tryd.func159, Tryd.ntmps159
  go_upto_region 1 with (first | ((with_reducible refine gate_dst (N := 2) rfl ?_); refine box_event ?hg (N := 2) ?hd (cs := #[.int .i64 0, .int .i64 0]) (t := 86) ?hr ?_; (case hd => rfl); (case hg => rfl); (case hr => first | (go_simp; done) | (go_simp; rfl)); intro gb123 hg w3 hbox hb; have n0_ := Aside0.mk (below_step (by repeat (first | (with_reducible first | exact HB.out | apply below_alloc | apply pw_below_drewN | apply below_drew1) | exact HB.out)) hb); have n1_ := Aside0.mk (hbox); have n2_ := Aside0.mk ((by rw [hg]; exact (below_size (by repeat (first | (with_reducible first | exact HB.out | apply below_alloc | apply pw_below_drewN | apply below_drew1) | exact HB.out))) : w.heap.size ≤ gb123)); have n3_ := Aside0.mk ((by rw [hg]; exact (below_size (by repeat (first | (with_reducible first | exact HB.out | apply below_alloc | apply pw_below_drewN | apply below_drew1) | exact HB.out))) : w.heap.size ≤ gb123)); clear HB; have HB := n0_; have BK123 := n1_; have GW123 := n2_; have GE123 := n3_; clear n0_ n1_ n2_ n3_; clear hb hbox hg))
  (try simp only [Act.put, List.setIfInBounds_toArray, List.set_cons_zero, List.set_cons_succ])
  go_cut [12] (fun v12 wc => ∃ (kq : Nat) (x12_1 : Bool), v12 = .bool x12_1 ∧ Aside0 (molad_Moon.j0 kq a0 x12_1 = some (r1, r2, r3)) ∧ Aside0 (kq ≤ k) ∧ Aside0 (wc.heap[gb123]? = some (.cells #[.int .i64 0, .int .i64 0] 86 (0, 0))) ∧ Aside0 (Below w.heap.size w wc))
  case first =>
    have H := HC2.out
    clear HC2
    by_cases c4 : a0 < (-200000)
    · rw [if_pos c4] at H
      have c4b0 : decide (a0 < (-200000)) = true := decide_eq_true c4
      clear c4
      (first | rw [c4b0] | (simp only [i64_w, i32_w]; rw [c4b0]) | skip)
      have H' := Aside0.mk H
      clear H
      go_wp2
      go_meet
      case rel => exact ⟨_, (true), (by first | rfl | (simp; done) | (simp [*]; done)), H', ⟨by first | omega | exact Nat.le_refl _⟩, ⟨by (with_reducible repeat (first | refine blk_drewN ?_ _ | refine blk_drew ?_ | refine blk_alloc ?_ _)); exact BK123.out⟩, ⟨by repeat (first | (with_reducible first | exact HB.out | apply below_alloc | apply pw_below_drewN | apply below_drew1 | refine below_set ?_ GE123.out) | exact HB.out)⟩⟩
    · rw [if_neg c4] at H
      have c4b0 : decide (a0 < (-200000)) = false := decide_eq_false c4
      clear c4
      (first | rw [c4b0] | (simp only [i64_w, i32_w]; rw [c4b0]) | skip)
      have H' := Aside0.mk H
      clear H
      go_wp2
      go_meet
      case rel => exact ⟨_, (decide (a0 > 200000)), (by first | rfl | (simp; done) | (simp [*]; done)), H', ⟨by first | omega | exact Nat.le_refl _⟩, ⟨by (with_reducible repeat (first | refine blk_drewN ?_ _ | refine blk_drew ?_ | refine blk_alloc ?_ _)); exact BK123.out⟩, ⟨by repeat (first | (with_reducible first | exact HB.out | apply below_alloc | apply pw_below_drewN | apply below_drew1 | refine below_set ?_ GE123.out) | exact HB.out)⟩⟩
  case rest =>
    clear HC2
    try clear c1
    try clear p2
    try clear c4
    try clear c4b0
    obtain ⟨kq, x12_1, rfl, HA, HJ1, BK123, HB⟩ := hcut
    cases kq with
    | zero => exact absurd HA.out (by simp [molad_Moon.j0])
    | succ kj1 =>
      have H := HA.out
      clear HA
      simp only [molad_Moon.j0] at H
      by_cases c5 : x12_1 = true
      · subst c5
        have H1 : (some (0, 0, 2)) = some (r1, r2, r3) := by rw [if_pos rfl] at H; exact H
        clear H
        have H := H1
        clear H1
        simp only [Option.some.injEq, Prod.mk.injEq] at H
        obtain ⟨rfl, rfl, rfl⟩ := H
        have hcz6_0 : wc.cell? ⟨gb123, 0, none⟩ = some (.int .i64 0) := (blk_cell BK123.out 0).trans rfl
        have hcz6_1 : wc.cell? ⟨gb123, 1, none⟩ = some (.int .i64 0) := (blk_cell BK123.out 1).trans rfl
        have hfz6_0 := blk_frozen BK123.out 0
        have hfz6_1 := blk_frozen BK123.out 1
        go_wp2
        refine bodyPost_ret (results_ct rfl _ _ gb123 86 #[.int .i64 0, .int .i64 0] (0, 0) _ rfl (by (with_reducible repeat (first | refine blk_drewN ?_ _ | refine blk_drew ?_ | refine blk_alloc ?_ _)); refine blk_put (cs := #[.int .i64 0, .int .i64 0]) ?_ 1 _ rfl; (with_reducible repeat (first | refine blk_drewN ?_ _ | refine blk_drew ?_ | refine blk_alloc ?_ _)); refine blk_put (cs := #[.int .i64 0, .int .i64 0]) ?_ 0 _ rfl; (with_reducible repeat (first | refine blk_drewN ?_ _ | refine blk_drew ?_ | refine blk_alloc ?_ _)); exact BK123.out) Tryd.underlying86 rfl (by kernel_rfl)) rfl ?_
        exact ⟨by first | rfl | (simp [errW_none, errW_some] <;> rfl) | (simp [*, errW_none, errW_some] <;> rfl), by repeat (first | (with_reducible first | exact HB.out | apply below_alloc | apply pw_below_drewN | apply below_drew1 | refine below_set ?_ GE123.out) | exact HB.out)⟩
      · replace c5 := Bool.eq_false_iff.mpr c5
        subst c5
        have H1 : ((halak_Moons.f a0).bind fun bt124 => (if bt124.2 = 0 then ((halak_Split.f (wrap64 (bt124.1 + 5604))).bind fun bt126 => (some (wrap64 (bt126.1 + (-1373427)), bt126.2, 0))) else (some (0, 0, bt124.2)))) = some (r1, r2, r3) := by rw [if_neg (show ¬ (false = true) by decide)] at H; exact H
        clear H
        have H := H1
        clear H1
        replace H := Option.bind_eq_some_iff.mp H
        obtain ⟨⟨t124, t125⟩, A70, H⟩ := H
        replace H : (if t125 = 0 then ((halak_Split.f (wrap64 (t124 + 5604))).bind fun bt126 => (some (wrap64 (bt126.1 + (-1373427)), bt126.2, 0))) else (some (0, 0, t125))) = some (r1, r2, r3) := H
        have A7 := Aside0.mk A70
        clear A70
        by_cases c8 : t125 = 0
        · rw [if_pos c8] at H
          have c8b0 : (t125 == 0) = true := beq_iff_eq.mpr c8
          have c8b1 : (t125 != 0) = false := bne_eq_false_iff_eq.mpr c8
          clear c8
          replace H := Option.bind_eq_some_iff.mp H
          obtain ⟨⟨t126, t127⟩, A90, H⟩ := H
          replace H : (some (wrap64 (t126 + (-1373427)), t127, 0)) = some (r1, r2, r3) := H
          have A9 := Aside0.mk A90
          clear A90
          simp only [Option.some.injEq, Prod.mk.injEq] at H
          obtain ⟨rfl, rfl, rfl⟩ := H
          go_wp2_with (first | ((with_reducible refine gate_callee (f := 182) rfl ?_); refine goesL_ (some 16) rfl rfl Tryd.func182 (by kernel_rfl) rfl #[.int .i64 a0] rfl (by (try simp only [List.map_toArray, List.map_cons, List.map_nil]); first | done | rfl | (simp only [List.length_drop, List.length_take]; rfl)) ?_; (with_reducible refine (halak_Moons.calls a0 t124 t125 _ A7.out).mono ?_); rintro e w' ⟨rfl, ⟨nd, rfl⟩⟩; refine ⟨_, rfl, ?_⟩; (try (rw [drewN_self wc]; generalize hq_ : World.drewN wc _ = wc; have n0_ : Aside0 (wc.heap[gb123]? = some (.cells #[.int .i64 0, .int .i64 0] 86 (0, 0))) := ⟨by rw [← hq_]; exact (by (with_reducible repeat (first | refine blk_drewN ?_ _ | refine blk_drew ?_ | refine blk_alloc ?_ _)); exact BK123.out)⟩; have n1_ : Aside0 (Below w.heap.size w wc) := ⟨by rw [← hq_]; exact (by repeat (first | (with_reducible first | exact HB.out | apply below_alloc | apply pw_below_drewN | apply below_drew1 | refine below_set ?_ GE123.out) | exact HB.out))⟩; clear BK123 HB hq_; have BK123 := n0_; have HB := n1_; clear n0_ n1_))) | ((with_reducible refine gate_callee (f := 183) rfl ?_); refine goesL_ (some 25) rfl rfl Tryd.func183 (by kernel_rfl) rfl #[.int .i64 (wrap64 (t124 + 5604))] rfl (by (try simp only [List.map_toArray, List.map_cons, List.map_nil]); first | done | rfl | (simp only [List.length_drop, List.length_take]; rfl)) ?_; (with_reducible refine (halak_Split.calls (wrap64 (t124 + 5604)) t126 t127 _ A9.out).mono ?_); rintro e w10 ⟨rfl, hb⟩; refine ⟨_, rfl, ?_⟩; have n0_ := Aside0.mk (blk_below (g := gb123) (o := .cells #[.int .i64 0, .int .i64 0] 86 (0, 0)) (by (with_reducible repeat (first | refine blk_drewN ?_ _ | refine blk_drew ?_ | refine blk_alloc ?_ _)); exact BK123.out) hb); have n1_ := Aside0.mk (below_step (by repeat (first | (with_reducible first | exact HB.out | apply below_alloc | apply pw_below_drewN | apply below_drew1 | refine below_set ?_ GE123.out) | exact HB.out)) hb); clear BK123; clear HB; have BK123 := n0_; have HB := n1_; clear n0_ n1_; (try clear hb); (try clear hb2); (try clear hk); (try clear hi)) | ((with_reducible refine gate_dst (N := 6) rfl ?_); refine box_event ?hg (N := 6) ?hd (cs := #[.int .i64 0, .int .i64 0]) (t := 86) ?hr ?_; (case hd => rfl); (case hg => rfl); (case hr => first | (go_simp; done) | (go_simp; rfl)); intro gb128 hg w11 hbox hb; have n0_ := Aside0.mk (blk_below (g := gb123) (o := .cells #[.int .i64 0, .int .i64 0] 86 (0, 0)) (by (with_reducible repeat (first | refine blk_drewN ?_ _ | refine blk_drew ?_ | refine blk_alloc ?_ _)); exact BK123.out) hb); have n1_ := Aside0.mk (below_step (by repeat (first | (with_reducible first | exact HB.out | apply below_alloc | apply pw_below_drewN | apply below_drew1 | refine below_set ?_ GE123.out) | exact HB.out)) hb); have n2_ := Aside0.mk (hbox); have n3_ := Aside0.mk ((by rw [hg]; exact (below_size (by repeat (first | (with_reducible first | exact HB.out | apply below_alloc | apply pw_below_drewN | apply below_drew1 | refine below_set ?_ GE123.out) | exact HB.out))) : w.heap.size ≤ gb128)); have n4_ := Aside0.mk ((by rw [hg]; exact (below_size (by repeat (first | (with_reducible first | exact HB.out | apply below_alloc | apply pw_below_drewN | apply below_drew1 | refine below_set ?_ GE123.out) | exact HB.out))) : w.heap.size ≤ gb128)); have n5_ := Aside0.mk ((by rw [hg]; exact Nat.ne_of_lt (blk_lt (g := gb123) (o := .cells #[.int .i64 0, .int .i64 0] 86 (0, 0)) (by (with_reducible repeat (first | refine blk_drewN ?_ _ | refine blk_drew ?_ | refine blk_alloc ?_ _)); exact BK123.out)) : gb123 ≠ gb128)); have n6_ := Aside0.mk ((by rw [hg]; exact Nat.ne_of_gt (blk_lt (g := gb123) (o := .cells #[.int .i64 0, .int .i64 0] 86 (0, 0)) (by (with_reducible repeat (first | refine blk_drewN ?_ _ | refine blk_drew ?_ | refine blk_alloc ?_ _)); exact BK123.out)) : gb128 ≠ gb123)); clear BK123; clear HB; have BK123 := n0_; have HB := n1_; have BK128 := n2_; have GW128 := n3_; have GE128 := n4_; have NB123_128 := n5_; have NB128_123 := n6_; clear n0_ n1_ n2_ n3_ n4_ n5_ n6_; clear hb hbox hg; have hnb12 := NB128_123.out; have hnc12 := NB123_128.out; have hcz13_0 : w11.cell? ⟨gb128, 0, none⟩ = some (.int .i64 0) := (blk_cell BK128.out 0).trans rfl; have hcz13_1 : w11.cell? ⟨gb128, 1, none⟩ = some (.int .i64 0) := (blk_cell BK128.out 1).trans rfl; have hfz13_0 := blk_frozen BK128.out 0; have hfz13_1 := blk_frozen BK128.out 1; have hcz14_0 : w11.cell? ⟨gb123, 0, none⟩ = some (.int .i64 0) := (blk_cell BK123.out 0).trans rfl; have hcz14_1 : w11.cell? ⟨gb123, 1, none⟩ = some (.int .i64 0) := (blk_cell BK123.out 1).trans rfl; have hfz14_0 := blk_frozen BK123.out 0; have hfz14_1 := blk_frozen BK123.out 1))
          refine bodyPost_ret (results_ct rfl _ _ gb123 86 #[.int .i64 (wrap64 (t126 + (-1373427))), .int .i64 t127] (0, 0) _ rfl (by (with_reducible repeat (first | refine blk_drewN ?_ _ | refine blk_drew ?_ | refine blk_alloc ?_ _)); refine blk_put (cs := #[.int .i64 (wrap64 (t126 + (-1373427))), .int .i64 0]) ?_ 1 _ rfl; (with_reducible repeat (first | refine blk_drewN ?_ _ | refine blk_drew ?_ | refine blk_alloc ?_ _)); refine blk_put (cs := #[.int .i64 0, .int .i64 0]) ?_ 0 _ rfl; (with_reducible repeat (first | refine blk_drewN ?_ _ | refine blk_drew ?_ | refine blk_alloc ?_ _)); refine blk_far ?_ NB123_128.out _; (with_reducible repeat (first | refine blk_drewN ?_ _ | refine blk_drew ?_ | refine blk_alloc ?_ _)); refine blk_far ?_ NB123_128.out _; (with_reducible repeat (first | refine blk_drewN ?_ _ | refine blk_drew ?_ | refine blk_alloc ?_ _)); refine blk_far ?_ NB123_128.out _; (with_reducible repeat (first | refine blk_drewN ?_ _ | refine blk_drew ?_ | refine blk_alloc ?_ _)); exact BK123.out) Tryd.underlying86 rfl (by kernel_rfl)) rfl ?_
          exact ⟨by first | rfl | (simp [errW_none, errW_some] <;> rfl) | (simp [*, errW_none, errW_some] <;> rfl), by repeat (first | (with_reducible first | exact HB.out | apply below_alloc | apply pw_below_drewN | apply below_drew1 | refine below_set ?_ GE123.out | refine below_set ?_ GE128.out) | exact HB.out)⟩
        · rw [if_neg c8] at H
          have c8b0 : (t125 == 0) = false := beq_eq_false_iff_ne.mpr c8
          have c8b1 : (t125 != 0) = true := bne_iff_ne.mpr c8
          simp only [Option.some.injEq, Prod.mk.injEq] at H
          obtain ⟨rfl, rfl, rfl⟩ := H
          go_wp2_with (first | ((with_reducible refine gate_callee (f := 182) rfl ?_); refine goesL_ (some 16) rfl rfl Tryd.func182 (by kernel_rfl) rfl #[.int .i64 a0] rfl (by (try simp only [List.map_toArray, List.map_cons, List.map_nil]); first | done | rfl | (simp only [List.length_drop, List.length_take]; rfl)) ?_; (with_reducible refine (halak_Moons.calls a0 t124 t125 _ A7.out).mono ?_); rintro e w' ⟨rfl, ⟨nd, rfl⟩⟩; refine ⟨_, rfl, ?_⟩; (try (rw [drewN_self wc]; generalize hq_ : World.drewN wc _ = wc; have n0_ : Aside0 (wc.heap[gb123]? = some (.cells #[.int .i64 0, .int .i64 0] 86 (0, 0))) := ⟨by rw [← hq_]; exact (by (with_reducible repeat (first | refine blk_drewN ?_ _ | refine blk_drew ?_ | refine blk_alloc ?_ _)); exact BK123.out)⟩; have n1_ : Aside0 (Below w.heap.size w wc) := ⟨by rw [← hq_]; exact (by repeat (first | (with_reducible first | exact HB.out | apply below_alloc | apply pw_below_drewN | apply below_drew1 | refine below_set ?_ GE123.out) | exact HB.out))⟩; clear BK123 HB hq_; have BK123 := n0_; have HB := n1_; clear n0_ n1_)); have hcz15_0 : wc.cell? ⟨gb123, 0, none⟩ = some (.int .i64 0) := (blk_cell BK123.out 0).trans rfl; have hcz15_1 : wc.cell? ⟨gb123, 1, none⟩ = some (.int .i64 0) := (blk_cell BK123.out 1).trans rfl; have hfz15_0 := blk_frozen BK123.out 0; have hfz15_1 := blk_frozen BK123.out 1))
          refine bodyPost_ret (results_ct rfl _ _ gb123 86 #[.int .i64 0, .int .i64 0] (0, 0) _ rfl (by (with_reducible repeat (first | refine blk_drewN ?_ _ | refine blk_drew ?_ | refine blk_alloc ?_ _)); refine blk_put (cs := #[.int .i64 0, .int .i64 0]) ?_ 1 _ rfl; (with_reducible repeat (first | refine blk_drewN ?_ _ | refine blk_drew ?_ | refine blk_alloc ?_ _)); refine blk_put (cs := #[.int .i64 0, .int .i64 0]) ?_ 0 _ rfl; (with_reducible repeat (first | refine blk_drewN ?_ _ | refine blk_drew ?_ | refine blk_alloc ?_ _)); exact BK123.out) Tryd.underlying86 rfl (by kernel_rfl)) rfl ?_
          exact ⟨by first | rfl | (simp [errW_none, errW_some] <;> rfl) | (simp [*, errW_none, errW_some] <;> rfl), by repeat (first | (with_reducible first | exact HB.out | apply below_alloc | apply pw_below_drewN | apply below_drew1 | refine below_set ?_ GE123.out) | exact HB.out)⟩

def molad_Of.j0 : Nat → Int → Int → Bool → Option (Int × Int × Int)
  | 0, _, _, _ => none
  | k + 1, x0, x1, x24 => if x24 = true then (some (0, 0, 3)) else ((cycle_Before.f x0).bind fun bt132 => (if bt132.2 = 0 then ((molad_Moon.f k (wrap64 ((wrap64 (bt132.1 + x1)) - 1))).bind fun bt134 => (some (bt134.1, bt134.2.1, bt134.2.2))) else (some (0, 0, bt132.2))))
def molad_Of.f (k : Nat) (a0 : Int) (a1 : Int) : Option (Int × Int × Int) := (cycle_In.f a0).bind fun bt130 => (if bt130.2 = 0 then (if a1 < 1 then (molad_Of.j0 k a0 a1 true) else (molad_Of.j0 k a0 a1 (decide (a1 > bt130.1)))) else (some (0, 0, bt130.2)))
set_option maxHeartbeats 8000000 in
set_option maxRecDepth 100000 in
theorem molad_Of.calls (k : Nat) (a0 : Int) (a1 : Int) (r1 : Int) (r2 : Int) (r3 : Int) (w : World) (h : molad_Of.f k a0 a1 = some (r1, r2, r3)) :
    Calls Tryd.prog 118 #[.int .i64 a0, .int .i64 a1] w fun e w' => e = .returned (.tuple #[.agg #[.int .i64 r1, .int .i64 r2], .int .i64 r3]) ∧ Below w.heap.size w w' := by
  have hu86 := Tryd.underlying86
  have HB := Aside0.mk (Below.refl w.heap.size w)
  have H : ((cycle_In.f a0).bind fun bt130 => (if bt130.2 = 0 then (if a1 < 1 then (molad_Of.j0 k a0 a1 true) else (molad_Of.j0 k a0 a1 (decide (a1 > bt130.1)))) else (some (0, 0, bt130.2)))) = some (r1, r2, r3) := h
  clear h
  replace H := Option.bind_eq_some_iff.mp H
  obtain ⟨⟨t130, t131⟩, A30, H⟩ := H
  replace H : (if t131 = 0 then (if a1 < 1 then (molad_Of.j0 k a0 a1 true) else (molad_Of.j0 k a0 a1 (decide (a1 > t130)))) else (some (0, 0, t131))) = some (r1, r2, r3) := H
  have A3 := Aside0.mk A30
  clear A30
  by_cases c4 : t131 = 0
  · rw [if_pos c4] at H
    have c4b0 : (t131 == 0) = true := beq_iff_eq.mpr c4
    have c4b1 : (t131 != 0) = false := bne_eq_false_iff_eq.mpr c4
    clear c4
    have HC5 := Aside0.mk H
    clear H
    go_enter Tryd.func118, Tryd.ntmps118
    go_upto_region 4 with (first | ((with_reducible refine gate_dst (N := 4) rfl ?_); refine box_event ?hg (N := 4) ?hd (cs := #[.int .i64 0, .int .i64 0]) (t := 86) ?hr ?_; (case hd => rfl); (case hg => rfl); (case hr => first | (go_simp; done) | (go_simp; rfl)); intro gb129 hg w6 hbox hb; have n0_ := Aside0.mk (below_step (by repeat (first | (with_reducible first | exact HB.out | apply below_alloc | apply pw_below_drewN | apply below_drew1) | exact HB.out)) hb); have n1_ := Aside0.mk (hbox); have n2_ := Aside0.mk ((by rw [hg]; exact (below_size (by repeat (first | (with_reducible first | exact HB.out | apply below_alloc | apply pw_below_drewN | apply below_drew1) | exact HB.out))) : w.heap.size ≤ gb129)); have n3_ := Aside0.mk ((by rw [hg]; exact (below_size (by repeat (first | (with_reducible first | exact HB.out | apply below_alloc | apply pw_below_drewN | apply below_drew1) | exact HB.out))) : w.heap.size ≤ gb129)); clear HB; have HB := n0_; have BK129 := n1_; have GW129 := n2_; have GE129 := n3_; clear n0_ n1_ n2_ n3_; clear hb hbox hg) | ((with_reducible refine gate_callee (f := 157) rfl ?_); refine goesL_ (some 11) rfl rfl Tryd.func157 (by kernel_rfl) rfl #[.int .i64 a0] rfl (by (try simp only [List.map_toArray, List.map_cons, List.map_nil]); first | done | rfl | (simp only [List.length_drop, List.length_take]; rfl)) ?_; (with_reducible refine (cycle_In.calls a0 t130 t131 _ A3.out).mono ?_); rintro e w' ⟨rfl, ⟨nd, rfl⟩⟩; refine ⟨_, rfl, ?_⟩))
    (try simp only [Act.put, List.setIfInBounds_toArray, List.set_cons_zero, List.set_cons_succ])
    go_cut [24] (fun v24 wc => ∃ (kq : Nat) (x24_4 : Bool), v24 = .bool x24_4 ∧ Aside0 (molad_Of.j0 kq a0 a1 x24_4 = some (r1, r2, r3)) ∧ Aside0 (kq ≤ k) ∧ Aside0 (wc.heap[gb129]? = some (.cells #[.int .i64 0, .int .i64 0] 86 (0, 0))) ∧ Aside0 (Below w.heap.size w wc))
    case first =>
      have H := HC5.out
      clear HC5
      by_cases c7 : a1 < 1
      · rw [if_pos c7] at H
        have c7b0 : decide (a1 < 1) = true := decide_eq_true c7
        clear c7
        (first | rw [c7b0] | (simp only [i64_w, i32_w]; rw [c7b0]) | skip)
        have H' := Aside0.mk H
        clear H
        go_wp2
        go_meet
        case rel => exact ⟨_, (true), (by first | rfl | (simp; done) | (simp [*]; done)), H', ⟨by first | omega | exact Nat.le_refl _⟩, ⟨by (with_reducible repeat (first | refine blk_drewN ?_ _ | refine blk_drew ?_ | refine blk_alloc ?_ _)); exact BK129.out⟩, ⟨by repeat (first | (with_reducible first | exact HB.out | apply below_alloc | apply pw_below_drewN | apply below_drew1 | refine below_set ?_ GE129.out) | exact HB.out)⟩⟩
      · rw [if_neg c7] at H
        have c7b0 : decide (a1 < 1) = false := decide_eq_false c7
        clear c7
        (first | rw [c7b0] | (simp only [i64_w, i32_w]; rw [c7b0]) | skip)
        have H' := Aside0.mk H
        clear H
        go_wp2
        go_meet
        case rel => exact ⟨_, (decide (a1 > t130)), (by first | rfl | (simp; done) | (simp [*]; done)), H', ⟨by first | omega | exact Nat.le_refl _⟩, ⟨by (with_reducible repeat (first | refine blk_drewN ?_ _ | refine blk_drew ?_ | refine blk_alloc ?_ _)); exact BK129.out⟩, ⟨by repeat (first | (with_reducible first | exact HB.out | apply below_alloc | apply pw_below_drewN | apply below_drew1 | refine below_set ?_ GE129.out) | exact HB.out)⟩⟩
    case rest =>
      clear HC5
      try clear c1
      try clear p2
      try clear c4
      try clear c4b0
      try clear c4b1
      try clear c7
      try clear c7b0
      obtain ⟨kq, x24_4, rfl, HA, HJ4, BK129, HB⟩ := hcut
      cases kq with
      | zero => exact absurd HA.out (by simp [molad_Of.j0])
      | succ kj4 =>
        have H := HA.out
        clear HA
        simp only [molad_Of.j0] at H
        by_cases c8 : x24_4 = true
        · subst c8
          have H1 : (some (0, 0, 3)) = some (r1, r2, r3) := by rw [if_pos rfl] at H; exact H
          clear H
          have H := H1
          clear H1
          simp only [Option.some.injEq, Prod.mk.injEq] at H
          obtain ⟨rfl, rfl, rfl⟩ := H
          have hcz9_0 : wc.cell? ⟨gb129, 0, none⟩ = some (.int .i64 0) := (blk_cell BK129.out 0).trans rfl
          have hcz9_1 : wc.cell? ⟨gb129, 1, none⟩ = some (.int .i64 0) := (blk_cell BK129.out 1).trans rfl
          have hfz9_0 := blk_frozen BK129.out 0
          have hfz9_1 := blk_frozen BK129.out 1
          go_wp2
          refine bodyPost_ret (results_ct rfl _ _ gb129 86 #[.int .i64 0, .int .i64 0] (0, 0) _ rfl (by (with_reducible repeat (first | refine blk_drewN ?_ _ | refine blk_drew ?_ | refine blk_alloc ?_ _)); refine blk_put (cs := #[.int .i64 0, .int .i64 0]) ?_ 1 _ rfl; (with_reducible repeat (first | refine blk_drewN ?_ _ | refine blk_drew ?_ | refine blk_alloc ?_ _)); refine blk_put (cs := #[.int .i64 0, .int .i64 0]) ?_ 0 _ rfl; (with_reducible repeat (first | refine blk_drewN ?_ _ | refine blk_drew ?_ | refine blk_alloc ?_ _)); exact BK129.out) Tryd.underlying86 rfl (by kernel_rfl)) rfl ?_
          exact ⟨by first | rfl | (simp [errW_none, errW_some] <;> rfl) | (simp [*, errW_none, errW_some] <;> rfl), by repeat (first | (with_reducible first | exact HB.out | apply below_alloc | apply pw_below_drewN | apply below_drew1 | refine below_set ?_ GE129.out) | exact HB.out)⟩
        · replace c8 := Bool.eq_false_iff.mpr c8
          subst c8
          have H1 : ((cycle_Before.f a0).bind fun bt132 => (if bt132.2 = 0 then ((molad_Moon.f kj4 (wrap64 ((wrap64 (bt132.1 + a1)) - 1))).bind fun bt134 => (some (bt134.1, bt134.2.1, bt134.2.2))) else (some (0, 0, bt132.2)))) = some (r1, r2, r3) := by rw [if_neg (show ¬ (false = true) by decide)] at H; exact H
          clear H
          have H := H1
          clear H1
          replace H := Option.bind_eq_some_iff.mp H
          obtain ⟨⟨t132, t133⟩, A100, H⟩ := H
          replace H : (if t133 = 0 then ((molad_Moon.f kj4 (wrap64 ((wrap64 (t132 + a1)) - 1))).bind fun bt134 => (some (bt134.1, bt134.2.1, bt134.2.2))) else (some (0, 0, t133))) = some (r1, r2, r3) := H
          have A10 := Aside0.mk A100
          clear A100
          by_cases c11 : t133 = 0
          · rw [if_pos c11] at H
            have c11b0 : (t133 == 0) = true := beq_iff_eq.mpr c11
            have c11b1 : (t133 != 0) = false := bne_eq_false_iff_eq.mpr c11
            clear c11
            replace H := Option.bind_eq_some_iff.mp H
            obtain ⟨⟨t134, t135, t136⟩, A120, H⟩ := H
            replace H : (some (t134, t135, t136)) = some (r1, r2, r3) := H
            have A12 := Aside0.mk A120
            clear A120
            simp only [Option.some.injEq, Prod.mk.injEq] at H
            obtain ⟨rfl, rfl, rfl⟩ := H
            go_wp2_with (first | ((with_reducible refine gate_callee (f := 158) rfl ?_); refine goesL_ (some 28) rfl rfl Tryd.func158 (by kernel_rfl) rfl #[.int .i64 a0] rfl (by (try simp only [List.map_toArray, List.map_cons, List.map_nil]); first | done | rfl | (simp only [List.length_drop, List.length_take]; rfl)) ?_; (with_reducible refine (cycle_Before.calls a0 t132 t133 _ A10.out).mono ?_); rintro e w' ⟨rfl, ⟨nd, rfl⟩⟩; refine ⟨_, rfl, ?_⟩; (try (rw [drewN_self wc]; generalize hq_ : World.drewN wc _ = wc; have n0_ : Aside0 (wc.heap[gb129]? = some (.cells #[.int .i64 0, .int .i64 0] 86 (0, 0))) := ⟨by rw [← hq_]; exact (by (with_reducible repeat (first | refine blk_drewN ?_ _ | refine blk_drew ?_ | refine blk_alloc ?_ _)); exact BK129.out)⟩; have n1_ : Aside0 (Below w.heap.size w wc) := ⟨by rw [← hq_]; exact (by repeat (first | (with_reducible first | exact HB.out | apply below_alloc | apply pw_below_drewN | apply below_drew1 | refine below_set ?_ GE129.out) | exact HB.out))⟩; clear BK129 HB hq_; have BK129 := n0_; have HB := n1_; clear n0_ n1_))) | ((with_reducible refine gate_callee (f := 159) rfl ?_); refine goesL_ (some 39) rfl rfl Tryd.func159 (by kernel_rfl) rfl #[.int .i64 (wrap64 ((wrap64 (t132 + a1)) - 1))] rfl (by (try simp only [List.map_toArray, List.map_cons, List.map_nil]); first | done | rfl | (simp only [List.length_drop, List.length_take]; rfl)) ?_; (with_reducible refine (molad_Moon.calls kj4 (wrap64 ((wrap64 (t132 + a1)) - 1)) t134 t135 t136 _ A12.out).mono ?_); rintro e w13 ⟨rfl, hb⟩; refine ⟨_, rfl, ?_⟩; have n0_ := Aside0.mk (blk_below (g := gb129) (o := .cells #[.int .i64 0, .int .i64 0] 86 (0, 0)) (by (with_reducible repeat (first | refine blk_drewN ?_ _ | refine blk_drew ?_ | refine blk_alloc ?_ _)); exact BK129.out) hb); have n1_ := Aside0.mk (below_step (by repeat (first | (with_reducible first | exact HB.out | apply below_alloc | apply pw_below_drewN | apply below_drew1 | refine below_set ?_ GE129.out) | exact HB.out)) hb); clear BK129; clear HB; have BK129 := n0_; have HB := n1_; clear n0_ n1_; (try clear hb); (try clear hb2); (try clear hk); (try clear hi); have hcz14_0 : w13.cell? ⟨gb129, 0, none⟩ = some (.int .i64 0) := (blk_cell BK129.out 0).trans rfl; have hcz14_1 : w13.cell? ⟨gb129, 1, none⟩ = some (.int .i64 0) := (blk_cell BK129.out 1).trans rfl; have hfz14_0 := blk_frozen BK129.out 0; have hfz14_1 := blk_frozen BK129.out 1))
            refine bodyPost_ret (results_ct rfl _ _ gb129 86 #[.int .i64 t134, .int .i64 t135] (0, 0) _ rfl (by (with_reducible repeat (first | refine blk_drewN ?_ _ | refine blk_drew ?_ | refine blk_alloc ?_ _)); refine blk_put (cs := #[.int .i64 t134, .int .i64 0]) ?_ 1 _ rfl; (with_reducible repeat (first | refine blk_drewN ?_ _ | refine blk_drew ?_ | refine blk_alloc ?_ _)); refine blk_put (cs := #[.int .i64 0, .int .i64 0]) ?_ 0 _ rfl; (with_reducible repeat (first | refine blk_drewN ?_ _ | refine blk_drew ?_ | refine blk_alloc ?_ _)); exact BK129.out) Tryd.underlying86 rfl (by kernel_rfl)) rfl ?_
            exact ⟨by first | rfl | (simp [errW_none, errW_some] <;> rfl) | (simp [*, errW_none, errW_some] <;> rfl), by repeat (first | (with_reducible first | exact HB.out | apply below_alloc | apply pw_below_drewN | apply below_drew1 | refine below_set ?_ GE129.out) | exact HB.out)⟩
          · rw [if_neg c11] at H
            have c11b0 : (t133 == 0) = false := beq_eq_false_iff_ne.mpr c11
            have c11b1 : (t133 != 0) = true := bne_iff_ne.mpr c11
            simp only [Option.some.injEq, Prod.mk.injEq] at H
            obtain ⟨rfl, rfl, rfl⟩ := H
            go_wp2_with (first | ((with_reducible refine gate_callee (f := 158) rfl ?_); refine goesL_ (some 28) rfl rfl Tryd.func158 (by kernel_rfl) rfl #[.int .i64 a0] rfl (by (try simp only [List.map_toArray, List.map_cons, List.map_nil]); first | done | rfl | (simp only [List.length_drop, List.length_take]; rfl)) ?_; (with_reducible refine (cycle_Before.calls a0 t132 t133 _ A10.out).mono ?_); rintro e w' ⟨rfl, ⟨nd, rfl⟩⟩; refine ⟨_, rfl, ?_⟩; (try (rw [drewN_self wc]; generalize hq_ : World.drewN wc _ = wc; have n0_ : Aside0 (wc.heap[gb129]? = some (.cells #[.int .i64 0, .int .i64 0] 86 (0, 0))) := ⟨by rw [← hq_]; exact (by (with_reducible repeat (first | refine blk_drewN ?_ _ | refine blk_drew ?_ | refine blk_alloc ?_ _)); exact BK129.out)⟩; have n1_ : Aside0 (Below w.heap.size w wc) := ⟨by rw [← hq_]; exact (by repeat (first | (with_reducible first | exact HB.out | apply below_alloc | apply pw_below_drewN | apply below_drew1 | refine below_set ?_ GE129.out) | exact HB.out))⟩; clear BK129 HB hq_; have BK129 := n0_; have HB := n1_; clear n0_ n1_)); have hcz15_0 : wc.cell? ⟨gb129, 0, none⟩ = some (.int .i64 0) := (blk_cell BK129.out 0).trans rfl; have hcz15_1 : wc.cell? ⟨gb129, 1, none⟩ = some (.int .i64 0) := (blk_cell BK129.out 1).trans rfl; have hfz15_0 := blk_frozen BK129.out 0; have hfz15_1 := blk_frozen BK129.out 1))
            refine bodyPost_ret (results_ct rfl _ _ gb129 86 #[.int .i64 0, .int .i64 0] (0, 0) _ rfl (by (with_reducible repeat (first | refine blk_drewN ?_ _ | refine blk_drew ?_ | refine blk_alloc ?_ _)); refine blk_put (cs := #[.int .i64 0, .int .i64 0]) ?_ 1 _ rfl; (with_reducible repeat (first | refine blk_drewN ?_ _ | refine blk_drew ?_ | refine blk_alloc ?_ _)); refine blk_put (cs := #[.int .i64 0, .int .i64 0]) ?_ 0 _ rfl; (with_reducible repeat (first | refine blk_drewN ?_ _ | refine blk_drew ?_ | refine blk_alloc ?_ _)); exact BK129.out) Tryd.underlying86 rfl (by kernel_rfl)) rfl ?_
            exact ⟨by first | rfl | (simp [errW_none, errW_some] <;> rfl) | (simp [*, errW_none, errW_some] <;> rfl), by repeat (first | (with_reducible first | exact HB.out | apply below_alloc | apply pw_below_drewN | apply below_drew1 | refine below_set ?_ GE129.out) | exact HB.out)⟩
  · rw [if_neg c4] at H
    have c4b0 : (t131 == 0) = false := beq_eq_false_iff_ne.mpr c4
    have c4b1 : (t131 != 0) = true := bne_iff_ne.mpr c4
    simp only [Option.some.injEq, Prod.mk.injEq] at H
    obtain ⟨rfl, rfl, rfl⟩ := H
    go_enter Tryd.func118, Tryd.ntmps118
    go_wp2_with (first | ((with_reducible refine gate_dst (N := 4) rfl ?_); refine box_event ?hg (N := 4) ?hd (cs := #[.int .i64 0, .int .i64 0]) (t := 86) ?hr ?_; (case hd => rfl); (case hg => rfl); (case hr => first | (go_simp; done) | (go_simp; rfl)); intro gb129 hg w16 hbox hb; have n0_ := Aside0.mk (below_step (by repeat (first | (with_reducible first | exact HB.out | apply below_alloc | apply pw_below_drewN | apply below_drew1) | exact HB.out)) hb); have n1_ := Aside0.mk (hbox); have n2_ := Aside0.mk ((by rw [hg]; exact (below_size (by repeat (first | (with_reducible first | exact HB.out | apply below_alloc | apply pw_below_drewN | apply below_drew1) | exact HB.out))) : w.heap.size ≤ gb129)); have n3_ := Aside0.mk ((by rw [hg]; exact (below_size (by repeat (first | (with_reducible first | exact HB.out | apply below_alloc | apply pw_below_drewN | apply below_drew1) | exact HB.out))) : w.heap.size ≤ gb129)); clear HB; have HB := n0_; have BK129 := n1_; have GW129 := n2_; have GE129 := n3_; clear n0_ n1_ n2_ n3_; clear hb hbox hg) | ((with_reducible refine gate_callee (f := 157) rfl ?_); refine goesL_ (some 11) rfl rfl Tryd.func157 (by kernel_rfl) rfl #[.int .i64 a0] rfl (by (try simp only [List.map_toArray, List.map_cons, List.map_nil]); first | done | rfl | (simp only [List.length_drop, List.length_take]; rfl)) ?_; (with_reducible refine (cycle_In.calls a0 t130 t131 _ A3.out).mono ?_); rintro e w' ⟨rfl, ⟨nd, rfl⟩⟩; refine ⟨_, rfl, ?_⟩; (try (rw [drewN_self w16]; generalize hq_ : World.drewN w16 _ = w16; have n0_ : Aside0 (w16.heap[gb129]? = some (.cells #[.int .i64 0, .int .i64 0] 86 (0, 0))) := ⟨by rw [← hq_]; exact (by (with_reducible repeat (first | refine blk_drewN ?_ _ | refine blk_drew ?_ | refine blk_alloc ?_ _)); exact BK129.out)⟩; have n1_ : Aside0 (Below w.heap.size w w16) := ⟨by rw [← hq_]; exact (by repeat (first | (with_reducible first | exact HB.out | apply below_alloc | apply pw_below_drewN | apply below_drew1 | refine below_set ?_ GE129.out) | exact HB.out))⟩; clear BK129 HB hq_; have BK129 := n0_; have HB := n1_; clear n0_ n1_)); have hcz17_0 : w16.cell? ⟨gb129, 0, none⟩ = some (.int .i64 0) := (blk_cell BK129.out 0).trans rfl; have hcz17_1 : w16.cell? ⟨gb129, 1, none⟩ = some (.int .i64 0) := (blk_cell BK129.out 1).trans rfl; have hfz17_0 := blk_frozen BK129.out 0; have hfz17_1 := blk_frozen BK129.out 1))
    refine bodyPost_ret (results_ct rfl _ _ gb129 86 #[.int .i64 0, .int .i64 0] (0, 0) _ rfl (by (with_reducible repeat (first | refine blk_drewN ?_ _ | refine blk_drew ?_ | refine blk_alloc ?_ _)); refine blk_put (cs := #[.int .i64 0, .int .i64 0]) ?_ 1 _ rfl; (with_reducible repeat (first | refine blk_drewN ?_ _ | refine blk_drew ?_ | refine blk_alloc ?_ _)); refine blk_put (cs := #[.int .i64 0, .int .i64 0]) ?_ 0 _ rfl; (with_reducible repeat (first | refine blk_drewN ?_ _ | refine blk_drew ?_ | refine blk_alloc ?_ _)); exact BK129.out) Tryd.underlying86 rfl (by kernel_rfl)) rfl ?_
    exact ⟨by first | rfl | (simp [errW_none, errW_some] <;> rfl) | (simp [*, errW_none, errW_some] <;> rfl), by repeat (first | (with_reducible first | exact HB.out | apply below_alloc | apply pw_below_drewN | apply below_drew1 | refine below_set ?_ GE129.out) | exact HB.out)⟩

def newyear_bad.f (a0 : Int) : Option (Bool) := if a0 = 0 then (some true) else (if a0 = 3 then (some true) else (if a0 = 5 then (some true) else (some false)))
set_option maxHeartbeats 8000000 in
set_option maxRecDepth 100000 in
theorem newyear_bad.calls (a0 : Int) (r : Bool) (w : World) (h : newyear_bad.f a0 = some r) :
    Calls Tryd.prog 160 #[.int .i64 a0] w fun e w' => e = .returned (.bool r) ∧ Drawn0 w w' := by
  have H : (if a0 = 0 then (some true) else (if a0 = 3 then (some true) else (if a0 = 5 then (some true) else (some false)))) = some r := h
  clear h
  by_cases c2 : a0 = 0
  · rw [if_pos c2] at H
    have c2b0 : (a0 == 0) = true := beq_iff_eq.mpr c2
    have c2b1 : (a0 != 0) = false := bne_eq_false_iff_eq.mpr c2
    clear c2
    obtain rfl := Option.some.inj H
    go_enter Tryd.func160, Tryd.ntmps160
    go_wp2
    go_ret
    exact ⟨by first | rfl | (simp; done) | (simp [*]; done), by repeat (first | exact Drawn0.refl _ | apply Drawn0.step)⟩
  · rw [if_neg c2] at H
    have c2b0 : (a0 == 0) = false := beq_eq_false_iff_ne.mpr c2
    have c2b1 : (a0 != 0) = true := bne_iff_ne.mpr c2
    by_cases c3 : a0 = 3
    · rw [if_pos c3] at H
      have c3b0 : (a0 == 3) = true := beq_iff_eq.mpr c3
      have c3b1 : (a0 != 3) = false := bne_eq_false_iff_eq.mpr c3
      clear c3
      obtain rfl := Option.some.inj H
      go_enter Tryd.func160, Tryd.ntmps160
      go_wp2
      go_ret
      exact ⟨by first | rfl | (simp; done) | (simp [*]; done), by repeat (first | exact Drawn0.refl _ | apply Drawn0.step)⟩
    · rw [if_neg c3] at H
      have c3b0 : (a0 == 3) = false := beq_eq_false_iff_ne.mpr c3
      have c3b1 : (a0 != 3) = true := bne_iff_ne.mpr c3
      by_cases c4 : a0 = 5
      · rw [if_pos c4] at H
        have c4b0 : (a0 == 5) = true := beq_iff_eq.mpr c4
        have c4b1 : (a0 != 5) = false := bne_eq_false_iff_eq.mpr c4
        clear c4
        obtain rfl := Option.some.inj H
        go_enter Tryd.func160, Tryd.ntmps160
        go_wp2
        go_ret
        exact ⟨by first | rfl | (simp; done) | (simp [*]; done), by repeat (first | exact Drawn0.refl _ | apply Drawn0.step)⟩
      · rw [if_neg c4] at H
        have c4b0 : (a0 == 5) = false := beq_eq_false_iff_ne.mpr c4
        have c4b1 : (a0 != 5) = true := bne_iff_ne.mpr c4
        obtain rfl := Option.some.inj H
        go_enter Tryd.func160, Tryd.ntmps160
        go_wp2
        go_ret
        exact ⟨by first | rfl | (simp; done) | (simp [*]; done), by repeat (first | exact Drawn0.refl _ | apply Drawn0.step)⟩

end Go.Proofs.YtflpddhoiafhcaaDoor.N
end
