/- What the library's variables hold that strconv reads: a world in which they read as their text lays them, and that a call which leaves elder memory alone keeps this. -/
import Derived.Test.YtflpddhoiafhcaaDoorProg
import Derived.Below
import Derived.Deep.Draws
import Derived.WalkSmall
import Derived.Lib.SmallJoins
import Derived.Lib.LaidTab
import Derived.Lib.ItoaMem
import Derived.KernelRfl
import Derived.Test.YtflpddhoiafhcaaDoorWWords
namespace Go.Proofs.YtflpddhoiafhcaaDoor
open Go.RowKit Go.Proofs.YtflpddhoiafhcaaDoorW.PrintWords
theorem gPow : Tryd.prog.globalNamed "internal/strconv.uint64pow10" = some 5 := by kernel_rfl
theorem gSyn : Tryd.prog.globalNamed "strconv.ErrSyntax" = some 1 := by kernel_rfl
theorem gRng : Tryd.prog.globalNamed "strconv.ErrRange" = some 2 := by kernel_rfl
/-- strconv's table and its two errors. -/
structure GlobS (w : World) : Prop where
  tab : Lib.TabIs Tryd.prog w "internal/strconv.uint64pow10" .u64 Lib.pow10Tab
  syn : ∃ tp p, w.var? Tryd.prog "strconv.ErrSyntax" = some #[.iface tp p]
  rng : ∃ tp p, w.var? Tryd.prog "strconv.ErrRange" = some #[.iface tp p]
theorem GlobS.below {w w' : World} (g : GlobS w) (h : Below w.heap.size w w') : GlobS w' := by
  obtain ⟨h1, ⟨t2, p2, h2⟩, ⟨t3, p3, h3⟩⟩ := g
  exact ⟨Joins.var_stays gPow h1 h (Nat.le_refl _), ⟨t2, p2, Joins.var_stays gSyn h2 h (Nat.le_refl _)⟩, ⟨t3, p3, Joins.var_stays gRng h3 h (Nat.le_refl _)⟩⟩
theorem GlobS.drawn {w w' : World} (g : GlobS w) (h : Drawn0 w w') : GlobS w' := g.below h.below
end Go.Proofs.YtflpddhoiafhcaaDoor
