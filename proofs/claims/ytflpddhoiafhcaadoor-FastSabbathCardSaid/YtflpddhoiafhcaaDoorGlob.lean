/- What the package-level variables of the calendar hold: a world in which they read as their text lays them, and that a call which leaves elder memory alone keeps this. -/
import Derived.Test.YtflpddhoiafhcaaDoorProg
import Derived.Test.YtflpddhoiafhcaaDoorTypes
import Derived.Below
import Derived.Deep.Draws
import Derived.WalkKit
import Derived.Laws.Rows
import Derived.Test.YtflpddhoiafhcaaDoorWWords
namespace Go.Proofs.YtflpddhoiafhcaaDoor
open Go.RowKit Go.Proofs.YtflpddhoiafhcaaDoorW.PrintWords
/-- A type's three cells. -/
def encK (x : Int × Int × Bool) : List Value := [.int .i64 x.1, .int .i64 x.2.1, .bool x.2.2]
def tyCells : Array Value := ((Cal.tyList.map encK).flatten).toArray
def plainCells : Array Value := (Cal.plainList.map fun n => Value.int .i64 n).toArray
/-- What a package-level variable's block holds. -/
def Holds (g : Nat) (cs : Array Value) (w : World) : Prop := ∃ t fr, w.heap[g]? = some (.cells cs t fr)
theorem Holds.below {g : Nat} {cs : Array Value} {w w' : World} (h : Holds g cs w) (hb : Below w.heap.size w w') : Holds g cs w' := by
  obtain ⟨t, fr, e⟩ := h
  exact ⟨t, fr, (hb.block g (Array.getElem?_eq_some_iff.1 e).1).trans e⟩
theorem Holds.cell {g : Nat} {cs : Array Value} {w : World} (h : Holds g cs w) (i : Nat) : w.cell? ⟨g, i, none⟩ = cs[i]? := by
  obtain ⟨t, fr, e⟩ := h
  exact cell_of_row w g i cs t fr e
/-- The types and the months. -/
structure GlobT (w : World) : Prop where
  types : Holds 6 tyCells w
  plain : Holds 3 plainCells w
theorem keep_cell {w w' : World} (h : Below w.heap.size w w') {a : Addr} {v : Value} (hc : w.cell? a = some v) : w'.cell? a = some v :=
  (h.cell (World.block_lt_of_cell? w a hc)).trans hc
theorem GlobT.below {w w' : World} (g : GlobT w) (h : Below w.heap.size w w') : GlobT w' := ⟨g.types.below h, g.plain.below h⟩
theorem GlobT.drawn {w w' : World} (g : GlobT w) (h : Drawn0 w w') : GlobT w' := g.below h.below
theorem GlobT.typesAt {w : World} (g : GlobT w) : ∀ j, j < Cal.tyList.length → ∀ i v, (encK Cal.tyList[j]!)[i]? = some v → w.cell? ⟨6, 0 + j * 3 + i, none⟩ = some v := by
  intro j hj i v hv
  rw [g.types.cell]
  have h2 : i < 3 := by
    have := (List.getElem?_eq_some_iff.1 hv).1
    simpa [encK] using this
  have hj' : j < 14 := hj
  rw [← hv]
  have key : ∀ j, j < 14 → ∀ i, i < 3 → tyCells[0 + j * 3 + i]? = (encK Cal.tyList[j]!)[i]? := by
    intro j hj i hi
    rcases (by omega : i = 0 ∨ i = 1 ∨ i = 2) with rfl | rfl | rfl <;>
    rcases (by omega : j = 0 ∨ j = 1 ∨ j = 2 ∨ j = 3 ∨ j = 4 ∨ j = 5 ∨ j = 6 ∨ j = 7 ∨ j = 8 ∨ j = 9 ∨ j = 10 ∨ j = 11 ∨ j = 12 ∨ j = 13) with rfl | rfl | rfl | rfl | rfl | rfl | rfl | rfl | rfl | rfl | rfl | rfl | rfl | rfl <;> rfl
  exact key j hj' i h2
end Go.Proofs.YtflpddhoiafhcaaDoor
