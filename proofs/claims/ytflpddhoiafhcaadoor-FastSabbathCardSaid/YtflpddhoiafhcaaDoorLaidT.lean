/- What the row's listed variables give the walks: the fourteen types and the months. -/
import Derived.Test.YtflpddhoiafhcaaDoorRows
import Derived.Test.YtflpddhoiafhcaaDoorGlob
import Derived.Stop.Joined
import Derived.Stop.LaidErr
import Derived.Lib.LaidTab
import Derived.MakeChecks
import Derived.LaidMore
import Derived.OpenShut
import Derived.ChangeSame
import Derived.Deep.Strs
namespace Go.Proofs.YtflpddhoiafhcaaDoor
open Go.RowKit Go.ChangeShapes
theorem gTypes : Tryd.prog.globalNamed "almanacker/keviah.types" = some 6 := by kernel_rfl
theorem gPlain : Tryd.prog.globalNamed "almanacker/month.plain" = some 3 := by kernel_rfl
theorem tTypes : (Tryd.prog.globals[6]?).map (·.type) = some 205 := by kernel_rfl
theorem tPlain : (Tryd.prog.globals[3]?).map (·.type) = some 184 := by kernel_rfl
theorem plain_data : (Rows.laid_almanacker_month_plain : DataW Unit) = Lib.tabData .i64 Cal.plainList := by kernel_rfl
def kevData (x : Int × Int × Bool) : DataW Unit := .agg [.lit (.int .i64 x.1), .lit (.int .i64 x.2.1), .lit (.bool x.2.2)]
theorem types_data : (Rows.laid_almanacker_keviah_types : DataW Unit) = .agg (Cal.tyList.map kevData) := by kernel_rfl
theorem ck3 : Tryd.prog.cellsOf 111 = 3 := by kernel_rfl
theorem ck42 : Tryd.prog.cellsOf 205 = 42 := by kernel_rfl
theorem ci1 : Tryd.prog.cellsOf 3 = 1 := by kernel_rfl
theorem cb1 : Tryd.prog.cellsOf 4 = 1 := by kernel_rfl
theorem holds_of_var {W : World} {n : String} {g : Nat} {cs : Array Value} (hg : Tryd.prog.globalNamed n = some g) (h : W.var? Tryd.prog n = some cs) : Holds g cs W := by
  unfold World.var? at h
  rw [hg] at h
  simp only [Option.bind_some] at h
  split at h
  · rename_i c t fr hh
    obtain rfl := Option.some.inj h
    exact ⟨t, fr, hh⟩
  · cases h
set_option maxRecDepth 100000 in
theorem kev_cells {enc : TypeId × Value → Unit} {w : World} {base : Nat} {spare : Nat → Bool} {held : Bool} {k : Nat} {cs : List Value} {y : DataW Unit × List MemPlace} (x : Int × Int × Bool)
    (hl : cs.length = 3) (h : DataW.trod enc Tryd.prog w base spare held k 111 cs = some y) (hy : y.1 = kevData x) : cs = encK x := by
  obtain ⟨a, b, c, rfl⟩ : ∃ a b c, cs = [a, b, c] := by
    match cs, hl with
    | [a, b, c], _ => exact ⟨a, b, c, rfl⟩
  obtain ⟨y0, y1, y2, n, rfl, _, h0, h1, h2⟩ := Go.Deep.trod_struct3 Tryd.underlying111 h
  obtain ⟨n0, e0, rfl, _⟩ := DataW.trod_int Tryd.underlying3 h0
  obtain ⟨n1, e1, rfl, _⟩ := DataW.trod_int Tryd.underlying3 h1
  obtain ⟨b2, e2, rfl⟩ := DataW.trod_bool Tryd.underlying4 h2
  simp [ci1, cb1] at e0 e1 e2
  simp [kevData] at hy
  obtain ⟨p, q, r⟩ := x
  simp at hy
  obtain ⟨rfl, rfl, rfl⟩ := hy
  subst e0 e1 e2
  rfl
theorem types_flat : tyCells.toList = (Cal.tyList.map encK).flatten := rfl
set_option maxRecDepth 100000 in
theorem cells_of_types {enc : TypeId × Value → Unit} {w : World} {base : Nat} {spare : Nat → Bool} {held : Bool} {k : Nat} {cs : List Value} {x : DataW Unit × List MemPlace}
    (h : DataW.trod enc Tryd.prog w base spare held k 205 cs = some x) (hx : x.1 = .agg (Cal.tyList.map kevData)) : cs = tyCells.toList := by
  obtain ⟨xs, m, rfl, rfl, hlen, hn, hel⟩ := DataW.trod_array Tryd.underlying205 h
  rw [ck42] at hlen
  have hx' : xs.map (·.1) = Cal.tyList.map kevData := by simpa using hx
  have hch : ∀ i, i < 14 → (cs.drop (i * 3)).take 3 = encK Cal.tyList[i]! := by
    intro i hi
    have h1 := hel i hi
    rw [ck3] at h1
    have hi2 : i < xs.length := by omega
    rw [List.getElem?_eq_getElem hi2] at h1
    have e : xs[i].1 = kevData Cal.tyList[i]! := by
      have := congrArg (fun l => l[i]?) hx'
      simp only [List.getElem?_map] at this
      rw [List.getElem?_eq_getElem hi2, List.getElem?_eq_getElem (show i < Cal.tyList.length from hi)] at this
      have e2 : Cal.tyList[i]! = Cal.tyList[i]'(show i < Cal.tyList.length from hi) := getElem!_pos _ _ _
      rw [e2]
      simpa using this
    exact kev_cells _ (by rw [List.length_take, List.length_drop]; omega) h1 e
  have hk : ∀ i, i < 14 → (tyCells.toList.drop (i * 3)).take 3 = encK Cal.tyList[i]! := by
    intro i hi
    rcases (by omega : i = 0 ∨ i = 1 ∨ i = 2 ∨ i = 3 ∨ i = 4 ∨ i = 5 ∨ i = 6 ∨ i = 7 ∨ i = 8 ∨ i = 9 ∨ i = 10 ∨ i = 11 ∨ i = 12 ∨ i = 13) with rfl | rfl | rfl | rfl | rfl | rfl | rfl | rfl | rfl | rfl | rfl | rfl | rfl | rfl <;> rfl
  apply List.ext_getElem?
  intro j
  by_cases hj : j < 42
  · have e1 : ∀ l : List Value, l[j]? = ((l.drop (j / 3 * 3)).take 3)[j % 3]? := by
      intro l
      rw [List.getElem?_take_of_lt (by omega), List.getElem?_drop]
      congr 1
      omega
    rw [e1 cs, e1 tyCells.toList, hch _ (by omega), hk _ (by omega)]
  · rw [List.getElem?_eq_none (by omega), List.getElem?_eq_none (by show tyCells.size ≤ j; have : tyCells.size = 42 := rfl; omega)]
theorem globT_of_laid {r : List (String × DataW Unit)} {W : World} (h : laidMet Tryd.prog (("almanacker/keviah.types", Rows.laid_almanacker_keviah_types) :: ("almanacker/month.plain", Rows.laid_almanacker_month_plain) :: r) W) : GlobT W := by
  have h2 := h.tail
  rw [plain_data] at h2
  have hp : W.var? Tryd.prog "almanacker/month.plain" = some plainCells := Lib.tabIs_of_head gPlain tPlain Tryd.underlying184 Tryd.underlying3 (by kernel_rfl) (by kernel_rfl) h2
  obtain ⟨ps, ⟨g', t', cs, fuel, p, q, hg', ht', hvar, hd, _, _⟩, _⟩ := h
  obtain rfl := Option.some.inj (gTypes.symm.trans hg')
  obtain rfl := Option.some.inj (tTypes.symm.trans ht')
  have hcs := cells_of_types hd types_data
  refine ⟨holds_of_var gTypes ?_, holds_of_var gPlain hp⟩
  rw [hvar]
  congr 1
  exact Array.toList_inj.1 hcs
end Go.Proofs.YtflpddhoiafhcaaDoor
