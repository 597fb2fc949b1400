/-
  DERIVED: THE SHELF's CONTRACTS AT THIS DUMP, IN PLAIN WORDS (tools/lay-plain.mjs out of 'YtflpddhoiafhcaaDoorShlKev.lean', which tools/lay-shelf.mjs wrote): THE SAME DECLARATIONS UNDER THE SAME NAMES: 'import', 'namespace', 'open', 'def', 'theorem' AND NOTHING ELSE: no command of the shelf's: FOR A HAND-IN. Each laying: the table of numbers ('.._ren') and one theorem, a field a fact of the dump's own or the kernel's comparison; each contract: ONE APPLICATION.
-/
import Derived.Shelf.SlicesQ.Index
import Derived.Laws.StructEq
import Derived.Test.YtflpddhoiafhcaaDoorProg
namespace Go.Proofs
open Go.Shelf
def Tryd.indexKev_ren : Go.Shelf.Ren := ⟨fun | 6 => 184 | n => n, fun | 22 => 204 | 24 => 111 | 3 => 3 | 0 => 0 | 4 => 4 | n => n, fun | n => n⟩
theorem Tryd.indexKev : Go.Proofs.SlLaysQ.n6 Tryd.prog Tryd.indexKev_ren := {
  mixed := by kernel_rfl
  f6 := ⟨Tryd.f184.name, by decide, Tryd.func184.trans (congrArg some (by kernel_rfl))⟩
  t0 := Tryd.underlying0
  a0 := Tryd.isAgg0
  z0 := Tryd.sizeOf0
  v0 := Tryd.zeroValue0
  t3 := Tryd.underlying3
  a3 := Tryd.isAgg3
  z3 := Tryd.sizeOf3
  v3 := Tryd.zeroValue3
  t4 := Tryd.underlying4
  a4 := Tryd.isAgg4
  z4 := Tryd.sizeOf4
  v4 := Tryd.zeroValue4
  t22 := Tryd.underlying204
  a22 := Tryd.isAgg204
  z22 := Tryd.sizeOf204
  v22 := Tryd.zeroValue204 }
open Go.RowKit Go.Lib in
/-- A type's three cells. -/
theorem Tryd.indexKev_there : True := trivial
end Go.Proofs
