/-
  DERIVED: THE SHELF's CONTRACTS AT THIS DUMP, IN PLAIN WORDS (tools/lay-plain.mjs out of 'YtflpddhoiafhcaaDoorShlSort.lean', which tools/lay-shelf.mjs wrote): THE SAME DECLARATIONS UNDER THE SAME NAMES: 'import', 'namespace', 'open', 'def', 'theorem' AND NOTHING ELSE: no command of the shelf's: FOR A HAND-IN. Each laying: the table of numbers ('.._ren') and one theorem, a field a fact of the dump's own or the kernel's comparison; each contract: ONE APPLICATION.
-/
import Derived.Shelf.SlSortCmp.WholeK
import Derived.Shelf.SlicesE.Clone
import Derived.Shelf.SlicesG.Cmp
import Derived.Test.YtflpddhoiafhcaaDoorProg
namespace Go.Proofs
open Go.Shelf
def Tryd.sortEv_ren : Go.Shelf.Ren := ⟨fun | 6 => 65 | 15 => 94 | 14 => 93 | 28 => 137 | 29 => 138 | 20 => 129 | 21 => 130 | 22 => 131 | 23 => 132 | 24 => 133 | 25 => 134 | 26 => 135 | 27 => 136 | 46 => 167 | 47 => 168 | 48 => 169 | 49 => 170 | 50 => 171 | 57 => 187 | n => n, fun | 22 => 38 | 24 => 48 | 25 => 95 | 3 => 3 | 39 => 122 | 0 => 0 | 53 => 162 | 55 => 164 | 4 => 4 | 46 => 156 | 45 => 155 | 50 => 34 | 5 => 5 | 9 => 9 | 66 => 187 | 70 => 191 | 76 => 207 | 77 => 151 | n => n, fun | n => n⟩
theorem Tryd.sortEv : Go.Proofs.SlLaysF0.n6 Tryd.prog Tryd.sortEv_ren := {
  mixed := by kernel_rfl
  f6 := ⟨Tryd.f65.name, by decide, Tryd.func65.trans (congrArg some (by kernel_rfl))⟩
  f14 := ⟨Tryd.f93.name, by decide, Tryd.func93.trans (congrArg some (by kernel_rfl))⟩
  f15 := Tryd.func94.trans (congrArg some (by kernel_rfl))
  f20 := ⟨Tryd.f129.name, by decide, Tryd.func129.trans (congrArg some (by kernel_rfl))⟩
  f21 := ⟨Tryd.f130.name, by decide, Tryd.func130.trans (congrArg some (by kernel_rfl))⟩
  f22 := ⟨Tryd.f131.name, by decide, Tryd.func131.trans (congrArg some (by kernel_rfl))⟩
  f23 := ⟨Tryd.f132.name, by decide, Tryd.func132.trans (congrArg some (by kernel_rfl))⟩
  f24 := ⟨Tryd.f133.name, by decide, Tryd.func133.trans (congrArg some (by kernel_rfl))⟩
  f25 := ⟨Tryd.f134.name, by decide, Tryd.func134.trans (congrArg some (by kernel_rfl))⟩
  f26 := ⟨Tryd.f135.name, by decide, Tryd.func135.trans (congrArg some (by kernel_rfl))⟩
  f27 := ⟨Tryd.f136.name, by decide, Tryd.func136.trans (congrArg some (by kernel_rfl))⟩
  f28 := Tryd.func137.trans (congrArg some (by kernel_rfl))
  f29 := Tryd.func138.trans (congrArg some (by kernel_rfl))
  f46 := ⟨Tryd.f167.name, by decide, Tryd.func167.trans (congrArg some (by kernel_rfl))⟩
  f47 := Tryd.func168.trans (congrArg some (by kernel_rfl))
  f48 := Tryd.func169.trans (congrArg some (by kernel_rfl))
  f49 := ⟨Tryd.f170.name, by decide, Tryd.func170.trans (congrArg some (by kernel_rfl))⟩
  f50 := ⟨Tryd.f171.name, by decide, Tryd.func171.trans (congrArg some (by kernel_rfl))⟩
  f57 := ⟨Tryd.f187.name, by decide, Tryd.func187.trans (congrArg some (by kernel_rfl))⟩
  t0 := Tryd.underlying0
  a0 := Tryd.isAgg0
  z0 := Tryd.sizeOf0
  v0 := Tryd.zeroValue0
  t3 := Tryd.underlying3
  a3 := Tryd.isAgg3
  z3 := Tryd.sizeOf3
  v3 := Tryd.zeroValue3
  t4 := Tryd.underlying4
  a4 := Tryd.isAgg4
  z4 := Tryd.sizeOf4
  v4 := Tryd.zeroValue4
  t5 := Tryd.underlying5
  a5 := Tryd.isAgg5
  z5 := Tryd.sizeOf5
  v5 := Tryd.zeroValue5
  t9 := Tryd.underlying9
  a9 := Tryd.isAgg9
  z9 := Tryd.sizeOf9
  v9 := Tryd.zeroValue9
  t22 := Tryd.underlying38
  a22 := Tryd.isAgg38
  z22 := Tryd.sizeOf38
  v22 := Tryd.zeroValue38
  t25 := Tryd.underlying95
  a25 := Tryd.isAgg95
  z25 := Tryd.sizeOf95
  v25 := Tryd.zeroValue95
  t39 := Tryd.underlying122
  a39 := Tryd.isAgg122
  z39 := Tryd.sizeOf122
  v39 := Tryd.zeroValue122
  t45 := Tryd.underlying155
  a45 := Tryd.isAgg155
  z45 := Tryd.sizeOf155
  v45 := Tryd.zeroValue155
  t46 := Tryd.underlying156
  a46 := Tryd.isAgg156
  z46 := Tryd.sizeOf156
  v46 := Tryd.zeroValue156
  t50 := Tryd.underlying34
  a50 := Tryd.isAgg34
  z50 := Tryd.sizeOf34
  v50 := Tryd.zeroValue34
  t53 := Tryd.underlying162
  a53 := Tryd.isAgg162
  z53 := Tryd.sizeOf162
  v53 := Tryd.zeroValue162
  t55 := Tryd.underlying164
  a55 := Tryd.isAgg164
  z55 := Tryd.sizeOf164
  v55 := Tryd.zeroValue164
  t66 := Tryd.underlying187
  a66 := Tryd.isAgg187
  z66 := Tryd.sizeOf187
  v66 := Tryd.zeroValue187
  t70 := Tryd.underlying191
  a70 := Tryd.isAgg191
  z70 := Tryd.sizeOf191
  v70 := Tryd.zeroValue191
  t76 := Tryd.underlying207
  a76 := Tryd.isAgg207
  z76 := Tryd.sizeOf207
  v76 := Tryd.zeroValue207
  t77 := Tryd.underlying151
  a77 := Tryd.isAgg151
  z77 := Tryd.sizeOf151
  v77 := Tryd.zeroValue151 }
def Tryd.cmpInt_ren : Go.Shelf.Ren := ⟨fun | 5 => 68 | 7 => 95 | n => n, fun | 22 => 3 | 3 => 3 | 4 => 4 | n => n, fun | n => n⟩
theorem Tryd.cmpInt : Go.Proofs.SlLaysC2.n5 Tryd.prog Tryd.cmpInt_ren := {
  mixed := by kernel_rfl
  f5 := ⟨Tryd.f68.name, by decide, Tryd.func68.trans (congrArg some (by kernel_rfl))⟩
  f7 := ⟨Tryd.f95.name, by decide, Tryd.func95.trans (congrArg some (by kernel_rfl))⟩
  t3 := Tryd.underlying3
  a3 := Tryd.isAgg3
  z3 := Tryd.sizeOf3
  v3 := Tryd.zeroValue3
  t4 := Tryd.underlying4
  a4 := Tryd.isAgg4
  z4 := Tryd.sizeOf4
  v4 := Tryd.zeroValue4
  t22 := Tryd.underlying3
  a22 := Tryd.isAgg3
  z22 := Tryd.sizeOf3
  v22 := Tryd.zeroValue3 }
def Tryd.cloneEv_ren : Go.Shelf.Ren := ⟨fun | 41 => 64 | n => n, fun | 22 => 38 | 23 => 48 | 4 => 4 | n => n, fun | n => n⟩
theorem Tryd.cloneEv : Go.Proofs.SlLaysE0.n41 Tryd.prog Tryd.cloneEv_ren := {
  mixed := by kernel_rfl
  f41 := ⟨Tryd.f64.name, by decide, Tryd.func64.trans (congrArg some (by kernel_rfl))⟩
  t4 := Tryd.underlying4
  a4 := Tryd.isAgg4
  z4 := Tryd.sizeOf4
  v4 := Tryd.zeroValue4
  t22 := Tryd.underlying38
  a22 := Tryd.isAgg38
  z22 := Tryd.sizeOf38
  v22 := Tryd.zeroValue38 }
open Go.RowKit Go.Lib in
/-- The layings stand. -/
theorem Tryd.sortEv_there : True := trivial
end Go.Proofs
