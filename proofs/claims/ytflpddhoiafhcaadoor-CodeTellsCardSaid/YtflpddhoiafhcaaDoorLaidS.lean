/- What the row's listed variables give the walks: strconv's table and its two errors. -/
import Derived.Test.YtflpddhoiafhcaaDoorRows
import Derived.Test.YtflpddhoiafhcaaDoorGlobS
import Derived.Stop.Joined
import Derived.Stop.LaidErr
import Derived.Lib.LaidTab
import Derived.MakeChecks
import Derived.LaidMore
namespace Go.Proofs.YtflpddhoiafhcaaDoor
open Go.RowKit Go.ChangeShapes
theorem tPow : (Tryd.prog.globals[5]?).map (·.type) = some 196 := by kernel_rfl
theorem tSyn : (Tryd.prog.globals[1]?).map (·.type) = some 68 := by kernel_rfl
theorem tRng : (Tryd.prog.globals[2]?).map (·.type) = some 68 := by kernel_rfl
theorem star_es : "*" ++ "errors.errorString" = "*errors.errorString" := by decide
theorem row_es (u : TypeId) (h : Tryd.prog.typeName? 3 u = some "*errors.errorString") : u = 200 :=
  typeName_ptr_named (nm := "errors.errorString") (by rw [star_es]; kernel_rfl) (by kernel_rfl) (by decide) u (by rw [star_es]; exact h)
theorem pow_data : (Rows.laid_internal_strconv_uint64pow10 : DataW Unit) = Lib.tabData .u64 Lib.pow10Tab := by kernel_rfl
theorem globS_of_laid {r : List (String × DataW Unit)} {W : World} (x y : String × DataW Unit) (h : laidMet Tryd.prog (x :: y :: ("internal/strconv.uint64pow10", Rows.laid_internal_strconv_uint64pow10) :: ("strconv.ErrRange", Rows.laid_strconv_ErrRange) :: ("strconv.ErrSyntax", Rows.laid_strconv_ErrSyntax) :: r) W) : GlobS W := by
  have h3 := h.tail.tail
  rw [pow_data] at h3
  have h4 := h3.tail
  have h5 := h4.tail
  obtain ⟨a0, s0, hv0, -, -, -⟩ := laid_sentinel h4 gRng tRng Tryd.underlying68 row_es Tryd.underlying200 Tryd.underlying202 rfl rfl Tryd.underlying9 (by kernel_rfl) (by kernel_rfl)
  obtain ⟨a1, s1, hv1, -, -, -⟩ := laid_sentinel h5 gSyn tSyn Tryd.underlying68 row_es Tryd.underlying200 Tryd.underlying202 rfl rfl Tryd.underlying9 (by kernel_rfl) (by kernel_rfl)
  exact ⟨Lib.tabIs_of_head gPow tPow Tryd.underlying196 Tryd.underlying164 (by kernel_rfl) (by kernel_rfl) h3, ⟨_, _, hv1⟩, ⟨_, _, hv0⟩⟩
end Go.Proofs.YtflpddhoiafhcaaDoor
