/-
  NARROWER THAN 'FOR EVERY INPUT', by the rows' own cells (each row's printed sentence says how): CodeTells: laid · CodeBack: laid · FastTells: laid · FastSabbath: laid · FeastDays: laid · FeastPlaces: laid · FeastTells: laid · SpecialDays: laid · SpecialGaps: laid · NameMonths: laid.
  DERIVED. THE GIVEN ROWS OF THIS SEAT. 10 by the template 'for every input the law returns true; each argument reads behind the call as it read before'; 0 by the template 'total and deterministic' (their statements: YtflpddhoiafhcaaDoorTotals.lean).
  GIVEN WITH THE SEED: the statements are not yours to turn. If you find one false, say at which input.
  Laid BY PROGRAM, IN A SANDBOX (cutbox-rows.mjs): the forced cells as the released guide's own fill.sh prints them over the translation c8fc4a25a8302058… (all of the seat's roots in one cut). By AI agents, Wed Nov 11 2026. No macro, syntax, notation, axiom, sorry.
-/
import Derived.Test.YtflpddhoiafhcaaDoorChecked
import GoSem.Claim
import GoSem.ClaimJoined
import GoSem.ClaimMapViews
import Derived.JoinedTies
import Derived.KernelRfl
namespace Go.Proofs.YtflpddhoiafhcaaDoor
/- THE CELL 'sum', in the pinned program and in every row, IS THE sha256 OF THE DUMP (.gsa) THAT YtflpddhoiafhcaaDoorProg.lean LOADS. Nothing in Lean hashes anything: it is a label: what it is worth is what the hold of that sum in a sandbox is worth. -/
noncomputable def Tryd.pinned : Pinned := { name := "ytflpddhoiafhcaadoor", sum := "c8fc4a25a830205848042fc7203425bdaa63fa6683a3ba31d2d0da5ad7f1a6aa", checked := Tryd.checked }
namespace Rows
def none {H : Type} : Left H := { results := [], args := [] }

/- WHAT THE LISTED PACKAGE-LEVEL VARIABLES READ AS WHEN THE CALL BEGINS. Each datum BY PROGRAM (the guide's laid-datum.mjs) off the statement by which the dump's own 'gosem.cut.vars' lays the variable. In a bare row this is a premise. The card (YtflpddhoiafhcaaDoorCards.lean) ties it to the program's text. -/
def laid_math_bits_deBruijn32tab {H : Type} : DataW H := .agg [.lit (.int .u8 0), .lit (.int .u8 1), .lit (.int .u8 28), .lit (.int .u8 2), .lit (.int .u8 29), .lit (.int .u8 14), .lit (.int .u8 24), .lit (.int .u8 3), .lit (.int .u8 30), .lit (.int .u8 22), .lit (.int .u8 20), .lit (.int .u8 15), .lit (.int .u8 25), .lit (.int .u8 17), .lit (.int .u8 4), .lit (.int .u8 8), .lit (.int .u8 31), .lit (.int .u8 27), .lit (.int .u8 13), .lit (.int .u8 23), .lit (.int .u8 21), .lit (.int .u8 19), .lit (.int .u8 16), .lit (.int .u8 7), .lit (.int .u8 26), .lit (.int .u8 12), .lit (.int .u8 18), .lit (.int .u8 6), .lit (.int .u8 11), .lit (.int .u8 5), .lit (.int .u8 10), .lit (.int .u8 9)]
def laid_math_bits_deBruijn64tab {H : Type} : DataW H := .agg [.lit (.int .u8 0), .lit (.int .u8 1), .lit (.int .u8 56), .lit (.int .u8 2), .lit (.int .u8 57), .lit (.int .u8 49), .lit (.int .u8 28), .lit (.int .u8 3), .lit (.int .u8 61), .lit (.int .u8 58), .lit (.int .u8 42), .lit (.int .u8 50), .lit (.int .u8 38), .lit (.int .u8 29), .lit (.int .u8 17), .lit (.int .u8 4), .lit (.int .u8 62), .lit (.int .u8 47), .lit (.int .u8 59), .lit (.int .u8 36), .lit (.int .u8 45), .lit (.int .u8 43), .lit (.int .u8 51), .lit (.int .u8 22), .lit (.int .u8 53), .lit (.int .u8 39), .lit (.int .u8 33), .lit (.int .u8 30), .lit (.int .u8 24), .lit (.int .u8 18), .lit (.int .u8 12), .lit (.int .u8 5), .lit (.int .u8 63), .lit (.int .u8 55), .lit (.int .u8 48), .lit (.int .u8 27), .lit (.int .u8 60), .lit (.int .u8 41), .lit (.int .u8 37), .lit (.int .u8 16), .lit (.int .u8 46), .lit (.int .u8 35), .lit (.int .u8 44), .lit (.int .u8 21), .lit (.int .u8 52), .lit (.int .u8 32), .lit (.int .u8 23), .lit (.int .u8 11), .lit (.int .u8 54), .lit (.int .u8 26), .lit (.int .u8 40), .lit (.int .u8 15), .lit (.int .u8 34), .lit (.int .u8 20), .lit (.int .u8 31), .lit (.int .u8 10), .lit (.int .u8 25), .lit (.int .u8 14), .lit (.int .u8 19), .lit (.int .u8 9), .lit (.int .u8 13), .lit (.int .u8 8), .lit (.int .u8 7), .lit (.int .u8 6)]
def laid_internal_strconv_uint64pow10 {H : Type} : DataW H := .agg [.lit (.int .u64 1), .lit (.int .u64 10), .lit (.int .u64 100), .lit (.int .u64 1000), .lit (.int .u64 10000), .lit (.int .u64 100000), .lit (.int .u64 1000000), .lit (.int .u64 10000000), .lit (.int .u64 100000000), .lit (.int .u64 1000000000), .lit (.int .u64 10000000000), .lit (.int .u64 100000000000), .lit (.int .u64 1000000000000), .lit (.int .u64 10000000000000), .lit (.int .u64 100000000000000), .lit (.int .u64 1000000000000000), .lit (.int .u64 10000000000000000), .lit (.int .u64 100000000000000000), .lit (.int .u64 1000000000000000000), .lit (.int .u64 10000000000000000000)]
def laid_strconv_ErrRange {H : Type} : DataW H := .iface "*errors.errorString" (.ptr (.agg [.lit (.string [118, 97, 108, 117, 101, 32, 111, 117, 116, 32, 111, 102, 32, 114, 97, 110, 103, 101])]))
def laid_strconv_ErrSyntax {H : Type} : DataW H := .iface "*errors.errorString" (.ptr (.agg [.lit (.string [105, 110, 118, 97, 108, 105, 100, 32, 115, 121, 110, 116, 97, 120])]))
def laid_almanacker_keviah_types {H : Type} : DataW H := .agg [.agg [.lit (.int .i64 1), .lit (.int .i64 0), .lit (.bool false)], .agg [.lit (.int .i64 1), .lit (.int .i64 2), .lit (.bool false)], .agg [.lit (.int .i64 2), .lit (.int .i64 1), .lit (.bool false)], .agg [.lit (.int .i64 4), .lit (.int .i64 1), .lit (.bool false)], .agg [.lit (.int .i64 4), .lit (.int .i64 2), .lit (.bool false)], .agg [.lit (.int .i64 6), .lit (.int .i64 0), .lit (.bool false)], .agg [.lit (.int .i64 6), .lit (.int .i64 2), .lit (.bool false)], .agg [.lit (.int .i64 1), .lit (.int .i64 0), .lit (.bool true)], .agg [.lit (.int .i64 1), .lit (.int .i64 2), .lit (.bool true)], .agg [.lit (.int .i64 2), .lit (.int .i64 1), .lit (.bool true)], .agg [.lit (.int .i64 4), .lit (.int .i64 0), .lit (.bool true)], .agg [.lit (.int .i64 4), .lit (.int .i64 2), .lit (.bool true)], .agg [.lit (.int .i64 6), .lit (.int .i64 0), .lit (.bool true)], .agg [.lit (.int .i64 6), .lit (.int .i64 2), .lit (.bool true)]]
def laid_almanacker_month_plain {H : Type} : DataW H := .agg [.lit (.int .i64 30), .lit (.int .i64 29), .lit (.int .i64 30), .lit (.int .i64 29), .lit (.int .i64 30), .lit (.int .i64 29), .lit (.int .i64 30), .lit (.int .i64 29), .lit (.int .i64 30), .lit (.int .i64 29), .lit (.int .i64 30), .lit (.int .i64 29)]
def laid_almanacker_name_names {H : Type} : DataW H := .agg [.lit (.string [84, 105, 115, 104, 114, 105]), .lit (.string [72, 101, 115, 104, 118, 97, 110]), .lit (.string [75, 105, 115, 108, 101, 118]), .lit (.string [84, 101, 118, 101, 116]), .lit (.string [83, 104, 101, 118, 97, 116]), .lit (.string [65, 100, 97, 114]), .lit (.string [78, 105, 115, 97, 110]), .lit (.string [73, 121, 97, 114]), .lit (.string [83, 105, 118, 97, 110]), .lit (.string [84, 97, 109, 109, 117, 122]), .lit (.string [65, 118]), .lit (.string [69, 108, 117, 108])]

/-- 'almanackerlaw09.CodeTells': WHATEVER THE INPUT: true; the input reads as it did. -/
def codeTellsSpec : ChangeSpec := { name := "codeTells", fn := fun _ => fun
  | [d] => { results := [.lit (.bool true)], args := [d] }
  | _ => none }
def codeTellsRow : OpenClaim := { program := "ytflpddhoiafhcaadoor", sum := "c8fc4a25a830205848042fc7203425bdaa63fa6683a3ba31d2d0da5ad7f1a6aa", func := "almanacker/almanackerlaw09.CodeTells", spec := "codeTells", named := ["strconv.ErrSyntax", "strconv.ErrRange", "internal/strconv.uint64pow10", "math/bits.deBruijn32tab", "math/bits.deBruijn64tab"], apart := false, laid := [("math/bits.deBruijn32tab", laid_math_bits_deBruijn32tab), ("math/bits.deBruijn64tab", laid_math_bits_deBruijn64tab), ("internal/strconv.uint64pow10", laid_internal_strconv_uint64pow10), ("strconv.ErrRange", laid_strconv_ErrRange), ("strconv.ErrSyntax", laid_strconv_ErrSyntax)] }
def CodeTellsSaid : Prop := codeTellsRow.holds Tryd.pinned (OpenSpec.ofChange codeTellsSpec)

/-- ITS FALSE NEIGHBOUR: 'it returns false'. Refute it at one input. -/
def codeTellsWrong : ChangeSpec := { name := "codeTells", fn := fun _ => fun
  | [d] => { results := [.lit (.bool false)], args := [d] }
  | _ => none }
def CodeTellsWrongFalsely : Prop := codeTellsRow.holds Tryd.pinned (OpenSpec.ofChange codeTellsWrong)

/-- 'almanackerlaw09.CodeBack': WHATEVER THE INPUT: true; the input reads as it did. -/
def codeBackSpec : ChangeSpec := { name := "codeBack", fn := fun _ => fun
  | [d1, d2, d3] => { results := [.lit (.bool true)], args := [d1, d2, d3] }
  | _ => none }
def codeBackRow : OpenClaim := { program := "ytflpddhoiafhcaadoor", sum := "c8fc4a25a830205848042fc7203425bdaa63fa6683a3ba31d2d0da5ad7f1a6aa", func := "almanacker/almanackerlaw09.CodeBack", spec := "codeBack", named := ["internal/strconv.uint64pow10", "math/bits.deBruijn32tab", "math/bits.deBruijn64tab", "strconv.ErrSyntax", "strconv.ErrRange"], apart := false, laid := [("math/bits.deBruijn32tab", laid_math_bits_deBruijn32tab), ("math/bits.deBruijn64tab", laid_math_bits_deBruijn64tab), ("internal/strconv.uint64pow10", laid_internal_strconv_uint64pow10), ("strconv.ErrRange", laid_strconv_ErrRange), ("strconv.ErrSyntax", laid_strconv_ErrSyntax)] }
def CodeBackSaid : Prop := codeBackRow.holds Tryd.pinned (OpenSpec.ofChange codeBackSpec)

/-- ITS FALSE NEIGHBOUR: 'it returns false'. Refute it at one input. -/
def codeBackWrong : ChangeSpec := { name := "codeBack", fn := fun _ => fun
  | [d1, d2, d3] => { results := [.lit (.bool false)], args := [d1, d2, d3] }
  | _ => none }
def CodeBackWrongFalsely : Prop := codeBackRow.holds Tryd.pinned (OpenSpec.ofChange codeBackWrong)

/-- 'almanackerlaw20.FastTells': WHATEVER THE INPUT: true; the input reads as it did. -/
def fastTellsSpec : ChangeSpec := { name := "fastTells", fn := fun _ => fun
  | [d1, d2, d3] => { results := [.lit (.bool true)], args := [d1, d2, d3] }
  | _ => none }
def fastTellsRow : OpenClaim := { program := "ytflpddhoiafhcaadoor", sum := "c8fc4a25a830205848042fc7203425bdaa63fa6683a3ba31d2d0da5ad7f1a6aa", func := "almanacker/almanackerlaw20.FastTells", spec := "fastTells", unfollowed := true, recurses := true, named := ["almanacker/month.plain", "almanacker/keviah.types"], apart := false, laid := [("almanacker/keviah.types", laid_almanacker_keviah_types), ("almanacker/month.plain", laid_almanacker_month_plain)] }
def FastTellsSaid : Prop := fastTellsRow.holds Tryd.pinned (OpenSpec.ofChange fastTellsSpec)

/-- ITS FALSE NEIGHBOUR: 'it returns false'. Refute it at one input. -/
def fastTellsWrong : ChangeSpec := { name := "fastTells", fn := fun _ => fun
  | [d1, d2, d3] => { results := [.lit (.bool false)], args := [d1, d2, d3] }
  | _ => none }
def FastTellsWrongFalsely : Prop := fastTellsRow.holds Tryd.pinned (OpenSpec.ofChange fastTellsWrong)

/-- 'almanackerlaw20.FastSabbath': WHATEVER THE INPUT: true; the input reads as it did. -/
def fastSabbathSpec : ChangeSpec := { name := "fastSabbath", fn := fun _ => fun
  | [d] => { results := [.lit (.bool true)], args := [d] }
  | _ => none }
def fastSabbathRow : OpenClaim := { program := "ytflpddhoiafhcaadoor", sum := "c8fc4a25a830205848042fc7203425bdaa63fa6683a3ba31d2d0da5ad7f1a6aa", func := "almanacker/almanackerlaw20.FastSabbath", spec := "fastSabbath", unfollowed := true, recurses := true, named := ["almanacker/month.plain", "almanacker/keviah.types"], apart := false, laid := [("almanacker/keviah.types", laid_almanacker_keviah_types), ("almanacker/month.plain", laid_almanacker_month_plain)] }
def FastSabbathSaid : Prop := fastSabbathRow.holds Tryd.pinned (OpenSpec.ofChange fastSabbathSpec)

/-- ITS FALSE NEIGHBOUR: 'it returns false'. Refute it at one input. -/
def fastSabbathWrong : ChangeSpec := { name := "fastSabbath", fn := fun _ => fun
  | [d] => { results := [.lit (.bool false)], args := [d] }
  | _ => none }
def FastSabbathWrongFalsely : Prop := fastSabbathRow.holds Tryd.pinned (OpenSpec.ofChange fastSabbathWrong)

/-- 'almanackerlaw19.FeastDays': WHATEVER THE INPUT: true; the input reads as it did. -/
def feastDaysSpec : ChangeSpec := { name := "feastDays", fn := fun _ => fun
  | [d1, d2] => { results := [.lit (.bool true)], args := [d1, d2] }
  | _ => none }
def feastDaysRow : OpenClaim := { program := "ytflpddhoiafhcaadoor", sum := "c8fc4a25a830205848042fc7203425bdaa63fa6683a3ba31d2d0da5ad7f1a6aa", func := "almanacker/almanackerlaw19.FeastDays", spec := "feastDays", unfollowed := true, recurses := true, named := ["almanacker/month.plain", "almanacker/keviah.types"], apart := false, laid := [("almanacker/keviah.types", laid_almanacker_keviah_types), ("almanacker/month.plain", laid_almanacker_month_plain)] }
def FeastDaysSaid : Prop := feastDaysRow.holds Tryd.pinned (OpenSpec.ofChange feastDaysSpec)

/-- ITS FALSE NEIGHBOUR: 'it returns false'. Refute it at one input. -/
def feastDaysWrong : ChangeSpec := { name := "feastDays", fn := fun _ => fun
  | [d1, d2] => { results := [.lit (.bool false)], args := [d1, d2] }
  | _ => none }
def FeastDaysWrongFalsely : Prop := feastDaysRow.holds Tryd.pinned (OpenSpec.ofChange feastDaysWrong)

/-- 'almanackerlaw19.FeastPlaces': WHATEVER THE INPUT: true; the input reads as it did. -/
def feastPlacesSpec : ChangeSpec := { name := "feastPlaces", fn := fun _ => fun
  | [d] => { results := [.lit (.bool true)], args := [d] }
  | _ => none }
def feastPlacesRow : OpenClaim := { program := "ytflpddhoiafhcaadoor", sum := "c8fc4a25a830205848042fc7203425bdaa63fa6683a3ba31d2d0da5ad7f1a6aa", func := "almanacker/almanackerlaw19.FeastPlaces", spec := "feastPlaces", unfollowed := true, recurses := true, named := ["almanacker/month.plain", "almanacker/keviah.types"], apart := false, laid := [("almanacker/keviah.types", laid_almanacker_keviah_types), ("almanacker/month.plain", laid_almanacker_month_plain)] }
def FeastPlacesSaid : Prop := feastPlacesRow.holds Tryd.pinned (OpenSpec.ofChange feastPlacesSpec)

/-- ITS FALSE NEIGHBOUR: 'it returns false'. Refute it at one input. -/
def feastPlacesWrong : ChangeSpec := { name := "feastPlaces", fn := fun _ => fun
  | [d] => { results := [.lit (.bool false)], args := [d] }
  | _ => none }
def FeastPlacesWrongFalsely : Prop := feastPlacesRow.holds Tryd.pinned (OpenSpec.ofChange feastPlacesWrong)

/-- 'almanackerlaw19.FeastTells': WHATEVER THE INPUT: true; the input reads as it did. -/
def feastTellsSpec : ChangeSpec := { name := "feastTells", fn := fun _ => fun
  | [d] => { results := [.lit (.bool true)], args := [d] }
  | _ => none }
def feastTellsRow : OpenClaim := { program := "ytflpddhoiafhcaadoor", sum := "c8fc4a25a830205848042fc7203425bdaa63fa6683a3ba31d2d0da5ad7f1a6aa", func := "almanacker/almanackerlaw19.FeastTells", spec := "feastTells", unfollowed := true, recurses := true, named := ["almanacker/month.plain", "almanacker/keviah.types"], apart := false, laid := [("almanacker/keviah.types", laid_almanacker_keviah_types), ("almanacker/month.plain", laid_almanacker_month_plain)] }
def FeastTellsSaid : Prop := feastTellsRow.holds Tryd.pinned (OpenSpec.ofChange feastTellsSpec)

/-- ITS FALSE NEIGHBOUR: 'it returns false'. Refute it at one input. -/
def feastTellsWrong : ChangeSpec := { name := "feastTells", fn := fun _ => fun
  | [d] => { results := [.lit (.bool false)], args := [d] }
  | _ => none }
def FeastTellsWrongFalsely : Prop := feastTellsRow.holds Tryd.pinned (OpenSpec.ofChange feastTellsWrong)

/-- 'almanackerlaw22.SpecialDays': WHATEVER THE INPUT: true; the input reads as it did. -/
def specialDaysSpec : ChangeSpec := { name := "specialDays", fn := fun _ => fun
  | [d] => { results := [.lit (.bool true)], args := [d] }
  | _ => none }
def specialDaysRow : OpenClaim := { program := "ytflpddhoiafhcaadoor", sum := "c8fc4a25a830205848042fc7203425bdaa63fa6683a3ba31d2d0da5ad7f1a6aa", func := "almanacker/almanackerlaw22.SpecialDays", spec := "specialDays", unfollowed := true, recurses := true, named := ["almanacker/month.plain", "almanacker/keviah.types"], apart := false, laid := [("almanacker/keviah.types", laid_almanacker_keviah_types), ("almanacker/month.plain", laid_almanacker_month_plain)] }
def SpecialDaysSaid : Prop := specialDaysRow.holds Tryd.pinned (OpenSpec.ofChange specialDaysSpec)

/-- ITS FALSE NEIGHBOUR: 'it returns false'. Refute it at one input. -/
def specialDaysWrong : ChangeSpec := { name := "specialDays", fn := fun _ => fun
  | [d] => { results := [.lit (.bool false)], args := [d] }
  | _ => none }
def SpecialDaysWrongFalsely : Prop := specialDaysRow.holds Tryd.pinned (OpenSpec.ofChange specialDaysWrong)

/-- 'almanackerlaw22.SpecialGaps': WHATEVER THE INPUT: true; the input reads as it did. -/
def specialGapsSpec : ChangeSpec := { name := "specialGaps", fn := fun _ => fun
  | [d] => { results := [.lit (.bool true)], args := [d] }
  | _ => none }
def specialGapsRow : OpenClaim := { program := "ytflpddhoiafhcaadoor", sum := "c8fc4a25a830205848042fc7203425bdaa63fa6683a3ba31d2d0da5ad7f1a6aa", func := "almanacker/almanackerlaw22.SpecialGaps", spec := "specialGaps", unfollowed := true, recurses := true, named := ["almanacker/month.plain", "almanacker/keviah.types"], apart := false, laid := [("almanacker/keviah.types", laid_almanacker_keviah_types), ("almanacker/month.plain", laid_almanacker_month_plain)] }
def SpecialGapsSaid : Prop := specialGapsRow.holds Tryd.pinned (OpenSpec.ofChange specialGapsSpec)

/-- ITS FALSE NEIGHBOUR: 'it returns false'. Refute it at one input. -/
def specialGapsWrong : ChangeSpec := { name := "specialGaps", fn := fun _ => fun
  | [d] => { results := [.lit (.bool false)], args := [d] }
  | _ => none }
def SpecialGapsWrongFalsely : Prop := specialGapsRow.holds Tryd.pinned (OpenSpec.ofChange specialGapsWrong)

/-- 'almanackerlaw14.NameMonths': WHATEVER THE INPUT: true; the input reads as it did. -/
def nameMonthsSpec : ChangeSpec := { name := "nameMonths", fn := fun _ => fun
  | [d1, d2, d3] => { results := [.lit (.bool true)], args := [d1, d2, d3] }
  | _ => none }
def nameMonthsRow : OpenClaim := { program := "ytflpddhoiafhcaadoor", sum := "c8fc4a25a830205848042fc7203425bdaa63fa6683a3ba31d2d0da5ad7f1a6aa", func := "almanacker/almanackerlaw14.NameMonths", spec := "nameMonths", inPlace := ["internal/bytealg.IndexByteString", "internal/bytealg.IndexString", "internal/abi.NoEscape", "internal/bytealg.MakeNoZero"], named := ["almanacker/name.names", "almanacker/month.plain", "almanacker/keviah.types", "internal/bytealg.MaxLen", "strconv.ErrSyntax", "strconv.ErrRange", "internal/strconv.uint64pow10", "math/bits.deBruijn32tab", "math/bits.deBruijn64tab"], apart := false, laid := [("math/bits.deBruijn32tab", laid_math_bits_deBruijn32tab), ("math/bits.deBruijn64tab", laid_math_bits_deBruijn64tab), ("internal/strconv.uint64pow10", laid_internal_strconv_uint64pow10), ("almanacker/keviah.types", laid_almanacker_keviah_types), ("almanacker/month.plain", laid_almanacker_month_plain), ("strconv.ErrRange", laid_strconv_ErrRange), ("strconv.ErrSyntax", laid_strconv_ErrSyntax), ("almanacker/name.names", laid_almanacker_name_names)] }
def NameMonthsSaid : Prop := nameMonthsRow.holds Tryd.pinned (OpenSpec.ofChange nameMonthsSpec)

/-- ITS FALSE NEIGHBOUR: 'it returns false'. Refute it at one input. -/
def nameMonthsWrong : ChangeSpec := { name := "nameMonths", fn := fun _ => fun
  | [d1, d2, d3] => { results := [.lit (.bool false)], args := [d1, d2, d3] }
  | _ => none }
def NameMonthsWrongFalsely : Prop := nameMonthsRow.holds Tryd.pinned (OpenSpec.ofChange nameMonthsWrong)

/- THE SECOND FORM. 'bulk': how many values and letters a reading holds, each counted each time it is reached (what is shared counts as often as it is met; a slice's spare places count too). A statement '..UptoSaid' is the law's where the arguments, and the package variables that the reading takes, are together of bulk at most 1048576: NARROWER than '..Said'. Prove '..Said' where nothing that the law and all that it calls make is longer than what came in: it says more and counts as full. Else prove '..UptoSaid'. A law counts once. -/
mutual
def uptoBulk {H : Type} : DataW H → Nat
  | .lit (.string bytes) => bytes.length + 1
  | .lit _ => 1
  | .nil => 1
  | .ptr d => uptoBulk d + 1
  | .slice elems spare => uptoBulkAll elems + uptoBulkAll spare + 1
  | .agg parts => uptoBulkAll parts + 1
  | .iface _ d => uptoBulk d + 1
  | .map entries => uptoBulkEntries entries + 1
  | .held _ => 1
def uptoBulkAll {H : Type} : List (DataW H) → Nat
  | [] => 0
  | d :: r => uptoBulk d + uptoBulkAll r
def uptoBulkEntries {H : Type} : List (Lit × DataW H) → Nat
  | [] => 0
  | x :: r => uptoBulkEntry x + uptoBulkEntries r
def uptoBulkEntry {H : Type} : Lit × DataW H → Nat
  | (.string bytes, d) => bytes.length + uptoBulk d + 1
  | (_, d) => uptoBulk d + 1
 end
def uptoSmall : (H : Type) → List (DataW H) → Bool := fun _ ds => decide (uptoBulkAll ds ≤ 1048576)
def OpenSpec.upto (s : _root_.Go.ChangeSpec) : _root_.Go.OpenSpec := { _root_.Go.OpenSpec.ofChange s with cond := some uptoSmall }

/-- 'almanackerlaw09.CodeTells', WHERE WHAT IT READS IS OF BULK AT MOST 1048576: true; the input reads as it did. -/
def codeTellsUptoRow : OpenClaim := { program := "ytflpddhoiafhcaadoor", sum := "c8fc4a25a830205848042fc7203425bdaa63fa6683a3ba31d2d0da5ad7f1a6aa", func := "almanacker/almanackerlaw09.CodeTells", spec := "codeTells", named := ["strconv.ErrSyntax", "strconv.ErrRange", "internal/strconv.uint64pow10", "math/bits.deBruijn32tab", "math/bits.deBruijn64tab"], apart := false, laid := [("math/bits.deBruijn32tab", laid_math_bits_deBruijn32tab), ("math/bits.deBruijn64tab", laid_math_bits_deBruijn64tab), ("internal/strconv.uint64pow10", laid_internal_strconv_uint64pow10), ("strconv.ErrRange", laid_strconv_ErrRange), ("strconv.ErrSyntax", laid_strconv_ErrSyntax)], narrowed := true }
def CodeTellsUptoSaid : Prop := codeTellsUptoRow.holds Tryd.pinned (OpenSpec.upto codeTellsSpec)

/-- 'almanackerlaw09.CodeBack', WHERE WHAT IT READS IS OF BULK AT MOST 1048576: true; the input reads as it did. -/
def codeBackUptoRow : OpenClaim := { program := "ytflpddhoiafhcaadoor", sum := "c8fc4a25a830205848042fc7203425bdaa63fa6683a3ba31d2d0da5ad7f1a6aa", func := "almanacker/almanackerlaw09.CodeBack", spec := "codeBack", named := ["internal/strconv.uint64pow10", "math/bits.deBruijn32tab", "math/bits.deBruijn64tab", "strconv.ErrSyntax", "strconv.ErrRange"], apart := false, laid := [("math/bits.deBruijn32tab", laid_math_bits_deBruijn32tab), ("math/bits.deBruijn64tab", laid_math_bits_deBruijn64tab), ("internal/strconv.uint64pow10", laid_internal_strconv_uint64pow10), ("strconv.ErrRange", laid_strconv_ErrRange), ("strconv.ErrSyntax", laid_strconv_ErrSyntax)], narrowed := true }
def CodeBackUptoSaid : Prop := codeBackUptoRow.holds Tryd.pinned (OpenSpec.upto codeBackSpec)

/-- 'almanackerlaw20.FastTells', WHERE WHAT IT READS IS OF BULK AT MOST 1048576: true; the input reads as it did. -/
def fastTellsUptoRow : OpenClaim := { program := "ytflpddhoiafhcaadoor", sum := "c8fc4a25a830205848042fc7203425bdaa63fa6683a3ba31d2d0da5ad7f1a6aa", func := "almanacker/almanackerlaw20.FastTells", spec := "fastTells", unfollowed := true, recurses := true, named := ["almanacker/month.plain", "almanacker/keviah.types"], apart := false, laid := [("almanacker/keviah.types", laid_almanacker_keviah_types), ("almanacker/month.plain", laid_almanacker_month_plain)], narrowed := true }
def FastTellsUptoSaid : Prop := fastTellsUptoRow.holds Tryd.pinned (OpenSpec.upto fastTellsSpec)

/-- 'almanackerlaw20.FastSabbath', WHERE WHAT IT READS IS OF BULK AT MOST 1048576: true; the input reads as it did. -/
def fastSabbathUptoRow : OpenClaim := { program := "ytflpddhoiafhcaadoor", sum := "c8fc4a25a830205848042fc7203425bdaa63fa6683a3ba31d2d0da5ad7f1a6aa", func := "almanacker/almanackerlaw20.FastSabbath", spec := "fastSabbath", unfollowed := true, recurses := true, named := ["almanacker/month.plain", "almanacker/keviah.types"], apart := false, laid := [("almanacker/keviah.types", laid_almanacker_keviah_types), ("almanacker/month.plain", laid_almanacker_month_plain)], narrowed := true }
def FastSabbathUptoSaid : Prop := fastSabbathUptoRow.holds Tryd.pinned (OpenSpec.upto fastSabbathSpec)

/-- 'almanackerlaw19.FeastDays', WHERE WHAT IT READS IS OF BULK AT MOST 1048576: true; the input reads as it did. -/
def feastDaysUptoRow : OpenClaim := { program := "ytflpddhoiafhcaadoor", sum := "c8fc4a25a830205848042fc7203425bdaa63fa6683a3ba31d2d0da5ad7f1a6aa", func := "almanacker/almanackerlaw19.FeastDays", spec := "feastDays", unfollowed := true, recurses := true, named := ["almanacker/month.plain", "almanacker/keviah.types"], apart := false, laid := [("almanacker/keviah.types", laid_almanacker_keviah_types), ("almanacker/month.plain", laid_almanacker_month_plain)], narrowed := true }
def FeastDaysUptoSaid : Prop := feastDaysUptoRow.holds Tryd.pinned (OpenSpec.upto feastDaysSpec)

/-- 'almanackerlaw19.FeastPlaces', WHERE WHAT IT READS IS OF BULK AT MOST 1048576: true; the input reads as it did. -/
def feastPlacesUptoRow : OpenClaim := { program := "ytflpddhoiafhcaadoor", sum := "c8fc4a25a830205848042fc7203425bdaa63fa6683a3ba31d2d0da5ad7f1a6aa", func := "almanacker/almanackerlaw19.FeastPlaces", spec := "feastPlaces", unfollowed := true, recurses := true, named := ["almanacker/month.plain", "almanacker/keviah.types"], apart := false, laid := [("almanacker/keviah.types", laid_almanacker_keviah_types), ("almanacker/month.plain", laid_almanacker_month_plain)], narrowed := true }
def FeastPlacesUptoSaid : Prop := feastPlacesUptoRow.holds Tryd.pinned (OpenSpec.upto feastPlacesSpec)

/-- 'almanackerlaw19.FeastTells', WHERE WHAT IT READS IS OF BULK AT MOST 1048576: true; the input reads as it did. -/
def feastTellsUptoRow : OpenClaim := { program := "ytflpddhoiafhcaadoor", sum := "c8fc4a25a830205848042fc7203425bdaa63fa6683a3ba31d2d0da5ad7f1a6aa", func := "almanacker/almanackerlaw19.FeastTells", spec := "feastTells", unfollowed := true, recurses := true, named := ["almanacker/month.plain", "almanacker/keviah.types"], apart := false, laid := [("almanacker/keviah.types", laid_almanacker_keviah_types), ("almanacker/month.plain", laid_almanacker_month_plain)], narrowed := true }
def FeastTellsUptoSaid : Prop := feastTellsUptoRow.holds Tryd.pinned (OpenSpec.upto feastTellsSpec)

/-- 'almanackerlaw22.SpecialDays', WHERE WHAT IT READS IS OF BULK AT MOST 1048576: true; the input reads as it did. -/
def specialDaysUptoRow : OpenClaim := { program := "ytflpddhoiafhcaadoor", sum := "c8fc4a25a830205848042fc7203425bdaa63fa6683a3ba31d2d0da5ad7f1a6aa", func := "almanacker/almanackerlaw22.SpecialDays", spec := "specialDays", unfollowed := true, recurses := true, named := ["almanacker/month.plain", "almanacker/keviah.types"], apart := false, laid := [("almanacker/keviah.types", laid_almanacker_keviah_types), ("almanacker/month.plain", laid_almanacker_month_plain)], narrowed := true }
def SpecialDaysUptoSaid : Prop := specialDaysUptoRow.holds Tryd.pinned (OpenSpec.upto specialDaysSpec)

/-- 'almanackerlaw22.SpecialGaps', WHERE WHAT IT READS IS OF BULK AT MOST 1048576: true; the input reads as it did. -/
def specialGapsUptoRow : OpenClaim := { program := "ytflpddhoiafhcaadoor", sum := "c8fc4a25a830205848042fc7203425bdaa63fa6683a3ba31d2d0da5ad7f1a6aa", func := "almanacker/almanackerlaw22.SpecialGaps", spec := "specialGaps", unfollowed := true, recurses := true, named := ["almanacker/month.plain", "almanacker/keviah.types"], apart := false, laid := [("almanacker/keviah.types", laid_almanacker_keviah_types), ("almanacker/month.plain", laid_almanacker_month_plain)], narrowed := true }
def SpecialGapsUptoSaid : Prop := specialGapsUptoRow.holds Tryd.pinned (OpenSpec.upto specialGapsSpec)

/-- 'almanackerlaw14.NameMonths', WHERE WHAT IT READS IS OF BULK AT MOST 1048576: true; the input reads as it did. -/
def nameMonthsUptoRow : OpenClaim := { program := "ytflpddhoiafhcaadoor", sum := "c8fc4a25a830205848042fc7203425bdaa63fa6683a3ba31d2d0da5ad7f1a6aa", func := "almanacker/almanackerlaw14.NameMonths", spec := "nameMonths", inPlace := ["internal/bytealg.IndexByteString", "internal/bytealg.IndexString", "internal/abi.NoEscape", "internal/bytealg.MakeNoZero"], named := ["almanacker/name.names", "almanacker/month.plain", "almanacker/keviah.types", "internal/bytealg.MaxLen", "strconv.ErrSyntax", "strconv.ErrRange", "internal/strconv.uint64pow10", "math/bits.deBruijn32tab", "math/bits.deBruijn64tab"], apart := false, laid := [("math/bits.deBruijn32tab", laid_math_bits_deBruijn32tab), ("math/bits.deBruijn64tab", laid_math_bits_deBruijn64tab), ("internal/strconv.uint64pow10", laid_internal_strconv_uint64pow10), ("almanacker/keviah.types", laid_almanacker_keviah_types), ("almanacker/month.plain", laid_almanacker_month_plain), ("strconv.ErrRange", laid_strconv_ErrRange), ("strconv.ErrSyntax", laid_strconv_ErrSyntax), ("almanacker/name.names", laid_almanacker_name_names)], narrowed := true }
def NameMonthsUptoSaid : Prop := nameMonthsUptoRow.holds Tryd.pinned (OpenSpec.upto nameMonthsSpec)

end Rows
end Go.Proofs.YtflpddhoiafhcaaDoor
