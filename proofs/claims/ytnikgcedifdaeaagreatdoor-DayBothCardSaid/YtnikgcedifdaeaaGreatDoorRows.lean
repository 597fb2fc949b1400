/-
  NARROWER THAN 'FOR EVERY INPUT', by the rows' own cells (each row's printed sentence says how): TorahTells: laid · TorahOnce: laid · DayBoth: laid · DayPlaces: laid · DayTells: laid.
  DERIVED. THE GIVEN ROWS OF THIS SEAT. 5 by the template 'for every input the law returns true; each argument reads behind the call as it read before'; 0 by the template 'total and deterministic' (their statements: YtnikgcedifdaeaaGreatDoorTotals.lean).
  GIVEN WITH THE SEED: the statements are not yours to turn. If you find one false, say at which input.
  Laid BY PROGRAM, IN A SANDBOX (cutbox-rows.mjs): the forced cells as the released guide's own fill.sh prints them over the translation 459276700a9844b2… (all of the seat's roots in one cut). By AI agents, Wed Nov 11 2026. No macro, syntax, notation, axiom, sorry.
-/
import Derived.Test.YtnikgcedifdaeaaGreatDoorChecked
import GoSem.Claim
import GoSem.ClaimJoined
import GoSem.ClaimMapViews
import Derived.JoinedTies
import Derived.KernelRfl
namespace Go.Proofs.YtnikgcedifdaeaaGreatDoor
/- THE CELL 'sum', in the pinned program and in every row, IS THE sha256 OF THE DUMP (.gsa) THAT YtnikgcedifdaeaaGreatDoorProg.lean LOADS. Nothing in Lean hashes anything: it is a label: what it is worth is what the hold of that sum in a sandbox is worth. -/
noncomputable def Tryz.pinned : Pinned := { name := "ytnikgcedifdaeaagreatdoor", sum := "459276700a9844b258d8b2276d957e25b9bdbd60aad73e1c1d23543c7586f3c2", checked := Tryz.checked }
namespace Rows
def none {H : Type} : Left H := { results := [], args := [] }

/- WHAT THE LISTED PACKAGE-LEVEL VARIABLES READ AS WHEN THE CALL BEGINS. Each datum BY PROGRAM (the guide's laid-datum.mjs) off the statement by which the dump's own 'gosem.cut.vars' lays the variable. In a bare row this is a premise. The card (YtnikgcedifdaeaaGreatDoorCards.lean) ties it to the program's text. -/
def laid_almanacker_keviah_types {H : Type} : DataW H := .agg [.agg [.lit (.int .i64 1), .lit (.int .i64 0), .lit (.bool false)], .agg [.lit (.int .i64 1), .lit (.int .i64 2), .lit (.bool false)], .agg [.lit (.int .i64 2), .lit (.int .i64 1), .lit (.bool false)], .agg [.lit (.int .i64 4), .lit (.int .i64 1), .lit (.bool false)], .agg [.lit (.int .i64 4), .lit (.int .i64 2), .lit (.bool false)], .agg [.lit (.int .i64 6), .lit (.int .i64 0), .lit (.bool false)], .agg [.lit (.int .i64 6), .lit (.int .i64 2), .lit (.bool false)], .agg [.lit (.int .i64 1), .lit (.int .i64 0), .lit (.bool true)], .agg [.lit (.int .i64 1), .lit (.int .i64 2), .lit (.bool true)], .agg [.lit (.int .i64 2), .lit (.int .i64 1), .lit (.bool true)], .agg [.lit (.int .i64 4), .lit (.int .i64 0), .lit (.bool true)], .agg [.lit (.int .i64 4), .lit (.int .i64 2), .lit (.bool true)], .agg [.lit (.int .i64 6), .lit (.int .i64 0), .lit (.bool true)], .agg [.lit (.int .i64 6), .lit (.int .i64 2), .lit (.bool true)]]
def laid_almanacker_month_plain {H : Type} : DataW H := .agg [.lit (.int .i64 30), .lit (.int .i64 29), .lit (.int .i64 30), .lit (.int .i64 29), .lit (.int .i64 30), .lit (.int .i64 29), .lit (.int .i64 30), .lit (.int .i64 29), .lit (.int .i64 30), .lit (.int .i64 29), .lit (.int .i64 30), .lit (.int .i64 29)]
def laid_almanacker_torah_names {H : Type} : DataW H := .agg [.lit (.string [66, 101, 114, 101, 115, 104, 105, 116]), .lit (.string [78, 111, 97, 99, 104]), .lit (.string [76, 101, 99, 104, 32, 76, 101, 99, 104, 97]), .lit (.string [86, 97, 121, 101, 114, 97]), .lit (.string [67, 104, 97, 121, 101, 105, 32, 83, 97, 114, 97, 104]), .lit (.string [84, 111, 108, 100, 111, 116]), .lit (.string [86, 97, 121, 101, 116, 122, 101, 105]), .lit (.string [86, 97, 121, 105, 115, 104, 108, 97, 99, 104]), .lit (.string [86, 97, 121, 101, 115, 104, 101, 118]), .lit (.string [77, 105, 107, 101, 116, 122]), .lit (.string [86, 97, 121, 105, 103, 97, 115, 104]), .lit (.string [86, 97, 121, 101, 99, 104, 105]), .lit (.string [83, 104, 101, 109, 111, 116]), .lit (.string [86, 97, 101, 114, 97]), .lit (.string [66, 111]), .lit (.string [66, 101, 115, 104, 97, 108, 97, 99, 104]), .lit (.string [89, 105, 116, 114, 111]), .lit (.string [77, 105, 115, 104, 112, 97, 116, 105, 109]), .lit (.string [84, 101, 114, 117, 109, 97, 104]), .lit (.string [84, 101, 116, 122, 97, 118, 101, 104]), .lit (.string [75, 105, 32, 84, 105, 115, 97]), .lit (.string [86, 97, 121, 97, 107, 104, 101, 108]), .lit (.string [80, 101, 107, 117, 100, 101, 105]), .lit (.string [86, 97, 121, 105, 107, 114, 97]), .lit (.string [84, 122, 97, 118]), .lit (.string [83, 104, 101, 109, 105, 110, 105]), .lit (.string [84, 97, 122, 114, 105, 97]), .lit (.string [77, 101, 116, 122, 111, 114, 97]), .lit (.string [65, 99, 104, 97, 114, 101, 105, 32, 77, 111, 116]), .lit (.string [75, 101, 100, 111, 115, 104, 105, 109]), .lit (.string [69, 109, 111, 114]), .lit (.string [66, 101, 104, 97, 114]), .lit (.string [66, 101, 99, 104, 117, 107, 111, 116, 97, 105]), .lit (.string [66, 97, 109, 105, 100, 98, 97, 114]), .lit (.string [78, 97, 115, 111]), .lit (.string [66, 101, 104, 97, 97, 108, 111, 116, 99, 104, 97]), .lit (.string [83, 104, 101, 108, 97, 99, 104]), .lit (.string [75, 111, 114, 97, 99, 104]), .lit (.string [67, 104, 117, 107, 97, 116]), .lit (.string [66, 97, 108, 97, 107]), .lit (.string [80, 105, 110, 99, 104, 97, 115]), .lit (.string [77, 97, 116, 111, 116]), .lit (.string [77, 97, 115, 101, 105]), .lit (.string [68, 101, 118, 97, 114, 105, 109]), .lit (.string [86, 97, 101, 116, 99, 104, 97, 110, 97, 110]), .lit (.string [69, 107, 101, 118]), .lit (.string [82, 101, 101, 104]), .lit (.string [83, 104, 111, 102, 116, 105, 109]), .lit (.string [75, 105, 32, 84, 101, 105, 116, 122, 101, 105]), .lit (.string [75, 105, 32, 84, 97, 118, 111]), .lit (.string [78, 105, 116, 122, 97, 118, 105, 109]), .lit (.string [86, 97, 121, 101, 108, 101, 99, 104]), .lit (.string [72, 97, 97, 122, 105, 110, 117]), .lit (.string [86, 101, 122, 111, 116, 32, 72, 97, 98, 101, 114, 97, 99, 104, 97, 104])]

/-- 'almanackerlaw24.TorahTells': WHATEVER THE INPUT: true; the input reads as it did. -/
def torahTellsSpec : ChangeSpec := { name := "torahTells", fn := fun _ => fun
  | [d] => { results := [.lit (.bool true)], args := [d] }
  | _ => none }
def torahTellsRow : OpenClaim := { program := "ytnikgcedifdaeaagreatdoor", sum := "459276700a9844b258d8b2276d957e25b9bdbd60aad73e1c1d23543c7586f3c2", func := "almanacker/almanackerlaw24.TorahTells", spec := "torahTells", inPlace := ["(*sync.WaitGroup).Add", "internal/race.ReleaseMerge", "internal/race.Disable", "internal/race.Enable", "internal/synctest.IsInBubble", "internal/synctest.Associate[sync.WaitGroup]", "sync.fatal", "sync/atomic.OrUint64", "sync/atomic.AddUint64", "internal/race.Read", "sync/atomic.LoadUint64", "sync/atomic.StoreUint64", "internal/synctest.Disassociate[sync.WaitGroup]", "sync.runtime_Semrelease", "(*sync.WaitGroup).Done", "(*sync.WaitGroup).Wait", "internal/race.Acquire", "internal/synctest.IsAssociated[sync.WaitGroup]", "sync/atomic.CompareAndSwapUint64", "internal/race.Write", "sync.runtime_SemacquireWaitGroup"], unfollowed := true, recurses := true, named := ["almanacker/month.plain", "almanacker/keviah.types", "almanacker/torah.names"], leaving := true, apart := false, laid := [("almanacker/keviah.types", laid_almanacker_keviah_types), ("almanacker/month.plain", laid_almanacker_month_plain), ("almanacker/torah.names", laid_almanacker_torah_names)] }
def TorahTellsSaid : Prop := torahTellsRow.holds Tryz.pinned (OpenSpec.ofChange torahTellsSpec)

/-- ITS FALSE NEIGHBOUR: 'it returns false'. Refute it at one input. -/
def torahTellsWrong : ChangeSpec := { name := "torahTells", fn := fun _ => fun
  | [d] => { results := [.lit (.bool false)], args := [d] }
  | _ => none }
def TorahTellsWrongFalsely : Prop := torahTellsRow.holds Tryz.pinned (OpenSpec.ofChange torahTellsWrong)

/-- 'almanackerlaw24.TorahOnce': WHATEVER THE INPUT: true; the input reads as it did. -/
def torahOnceSpec : ChangeSpec := { name := "torahOnce", fn := fun _ => fun
  | [d1, d2] => { results := [.lit (.bool true)], args := [d1, d2] }
  | _ => none }
def torahOnceRow : OpenClaim := { program := "ytnikgcedifdaeaagreatdoor", sum := "459276700a9844b258d8b2276d957e25b9bdbd60aad73e1c1d23543c7586f3c2", func := "almanacker/almanackerlaw24.TorahOnce", spec := "torahOnce", inPlace := ["(*sync.WaitGroup).Add", "internal/race.ReleaseMerge", "internal/race.Disable", "internal/race.Enable", "internal/synctest.IsInBubble", "internal/synctest.Associate[sync.WaitGroup]", "sync.fatal", "sync/atomic.OrUint64", "sync/atomic.AddUint64", "internal/race.Read", "sync/atomic.LoadUint64", "sync/atomic.StoreUint64", "internal/synctest.Disassociate[sync.WaitGroup]", "sync.runtime_Semrelease", "(*sync.WaitGroup).Done", "(*sync.WaitGroup).Wait", "internal/race.Acquire", "internal/synctest.IsAssociated[sync.WaitGroup]", "sync/atomic.CompareAndSwapUint64", "internal/race.Write", "sync.runtime_SemacquireWaitGroup"], unfollowed := true, recurses := true, named := ["almanacker/month.plain", "almanacker/keviah.types", "almanacker/torah.names"], leaving := true, apart := false, laid := [("almanacker/keviah.types", laid_almanacker_keviah_types), ("almanacker/month.plain", laid_almanacker_month_plain), ("almanacker/torah.names", laid_almanacker_torah_names)] }
def TorahOnceSaid : Prop := torahOnceRow.holds Tryz.pinned (OpenSpec.ofChange torahOnceSpec)

/-- ITS FALSE NEIGHBOUR: 'it returns false'. Refute it at one input. -/
def torahOnceWrong : ChangeSpec := { name := "torahOnce", fn := fun _ => fun
  | [d1, d2] => { results := [.lit (.bool false)], args := [d1, d2] }
  | _ => none }
def TorahOnceWrongFalsely : Prop := torahOnceRow.holds Tryz.pinned (OpenSpec.ofChange torahOnceWrong)

/-- 'almanackerlaw25.DayBoth': WHATEVER THE INPUT: true; the input reads as it did. -/
def dayBothSpec : ChangeSpec := { name := "dayBoth", fn := fun _ => fun
  | [d1, d2] => { results := [.lit (.bool true)], args := [d1, d2] }
  | _ => none }
def dayBothRow : OpenClaim := { program := "ytnikgcedifdaeaagreatdoor", sum := "459276700a9844b258d8b2276d957e25b9bdbd60aad73e1c1d23543c7586f3c2", func := "almanacker/almanackerlaw25.DayBoth", spec := "dayBoth", inPlace := ["(*sync.WaitGroup).Add", "internal/race.ReleaseMerge", "internal/race.Disable", "internal/race.Enable", "internal/synctest.IsInBubble", "internal/synctest.Associate[sync.WaitGroup]", "sync.fatal", "sync/atomic.OrUint64", "sync/atomic.AddUint64", "internal/race.Read", "sync/atomic.LoadUint64", "sync/atomic.StoreUint64", "internal/synctest.Disassociate[sync.WaitGroup]", "sync.runtime_Semrelease", "(*sync.WaitGroup).Done", "(*sync.WaitGroup).Wait", "internal/race.Acquire", "internal/synctest.IsAssociated[sync.WaitGroup]", "sync/atomic.CompareAndSwapUint64", "internal/race.Write", "sync.runtime_SemacquireWaitGroup"], unfollowed := true, recurses := true, named := ["almanacker/month.plain", "almanacker/keviah.types"], leaving := true, apart := false, laid := [("almanacker/keviah.types", laid_almanacker_keviah_types), ("almanacker/month.plain", laid_almanacker_month_plain)] }
def DayBothSaid : Prop := dayBothRow.holds Tryz.pinned (OpenSpec.ofChange dayBothSpec)

/-- ITS FALSE NEIGHBOUR: 'it returns false'. Refute it at one input. -/
def dayBothWrong : ChangeSpec := { name := "dayBoth", fn := fun _ => fun
  | [d1, d2] => { results := [.lit (.bool false)], args := [d1, d2] }
  | _ => none }
def DayBothWrongFalsely : Prop := dayBothRow.holds Tryz.pinned (OpenSpec.ofChange dayBothWrong)

/-- 'almanackerlaw25.DayPlaces': WHATEVER THE INPUT: true; the input reads as it did. -/
def dayPlacesSpec : ChangeSpec := { name := "dayPlaces", fn := fun _ => fun
  | [d] => { results := [.lit (.bool true)], args := [d] }
  | _ => none }
def dayPlacesRow : OpenClaim := { program := "ytnikgcedifdaeaagreatdoor", sum := "459276700a9844b258d8b2276d957e25b9bdbd60aad73e1c1d23543c7586f3c2", func := "almanacker/almanackerlaw25.DayPlaces", spec := "dayPlaces", inPlace := ["(*sync.WaitGroup).Add", "internal/race.ReleaseMerge", "internal/race.Disable", "internal/race.Enable", "internal/synctest.IsInBubble", "internal/synctest.Associate[sync.WaitGroup]", "sync.fatal", "sync/atomic.OrUint64", "sync/atomic.AddUint64", "internal/race.Read", "sync/atomic.LoadUint64", "sync/atomic.StoreUint64", "internal/synctest.Disassociate[sync.WaitGroup]", "sync.runtime_Semrelease", "(*sync.WaitGroup).Done", "(*sync.WaitGroup).Wait", "internal/race.Acquire", "internal/synctest.IsAssociated[sync.WaitGroup]", "sync/atomic.CompareAndSwapUint64", "internal/race.Write", "sync.runtime_SemacquireWaitGroup"], unfollowed := true, recurses := true, named := ["almanacker/month.plain", "almanacker/keviah.types"], leaving := true, apart := false, laid := [("almanacker/keviah.types", laid_almanacker_keviah_types), ("almanacker/month.plain", laid_almanacker_month_plain)] }
def DayPlacesSaid : Prop := dayPlacesRow.holds Tryz.pinned (OpenSpec.ofChange dayPlacesSpec)

/-- ITS FALSE NEIGHBOUR: 'it returns false'. Refute it at one input. -/
def dayPlacesWrong : ChangeSpec := { name := "dayPlaces", fn := fun _ => fun
  | [d] => { results := [.lit (.bool false)], args := [d] }
  | _ => none }
def DayPlacesWrongFalsely : Prop := dayPlacesRow.holds Tryz.pinned (OpenSpec.ofChange dayPlacesWrong)

/-- 'almanackerlaw25.DayTells': WHATEVER THE INPUT: true; the input reads as it did. -/
def dayTellsSpec : ChangeSpec := { name := "dayTells", fn := fun _ => fun
  | [d] => { results := [.lit (.bool true)], args := [d] }
  | _ => none }
def dayTellsRow : OpenClaim := { program := "ytnikgcedifdaeaagreatdoor", sum := "459276700a9844b258d8b2276d957e25b9bdbd60aad73e1c1d23543c7586f3c2", func := "almanacker/almanackerlaw25.DayTells", spec := "dayTells", inPlace := ["(*sync.WaitGroup).Add", "internal/race.ReleaseMerge", "internal/race.Disable", "internal/race.Enable", "internal/synctest.IsInBubble", "internal/synctest.Associate[sync.WaitGroup]", "sync.fatal", "sync/atomic.OrUint64", "sync/atomic.AddUint64", "internal/race.Read", "sync/atomic.LoadUint64", "sync/atomic.StoreUint64", "internal/synctest.Disassociate[sync.WaitGroup]", "sync.runtime_Semrelease", "(*sync.WaitGroup).Done", "(*sync.WaitGroup).Wait", "internal/race.Acquire", "internal/synctest.IsAssociated[sync.WaitGroup]", "sync/atomic.CompareAndSwapUint64", "internal/race.Write", "sync.runtime_SemacquireWaitGroup"], unfollowed := true, recurses := true, named := ["almanacker/month.plain", "almanacker/keviah.types"], leaving := true, apart := false, laid := [("almanacker/keviah.types", laid_almanacker_keviah_types), ("almanacker/month.plain", laid_almanacker_month_plain)] }
def DayTellsSaid : Prop := dayTellsRow.holds Tryz.pinned (OpenSpec.ofChange dayTellsSpec)

/-- ITS FALSE NEIGHBOUR: 'it returns false'. Refute it at one input. -/
def dayTellsWrong : ChangeSpec := { name := "dayTells", fn := fun _ => fun
  | [d] => { results := [.lit (.bool false)], args := [d] }
  | _ => none }
def DayTellsWrongFalsely : Prop := dayTellsRow.holds Tryz.pinned (OpenSpec.ofChange dayTellsWrong)

/- THE SECOND FORM. 'bulk': how many values and letters a reading holds, each counted each time it is reached (what is shared counts as often as it is met; a slice's spare places count too). A statement '..UptoSaid' is the law's where the arguments, and the package variables that the reading takes, are together of bulk at most 1048576: NARROWER than '..Said'. Prove '..Said' where nothing that the law and all that it calls make is longer than what came in: it says more and counts as full. Else prove '..UptoSaid'. A law counts once. -/
mutual
def uptoBulk {H : Type} : DataW H → Nat
  | .lit (.string bytes) => bytes.length + 1
  | .lit _ => 1
  | .nil => 1
  | .ptr d => uptoBulk d + 1
  | .slice elems spare => uptoBulkAll elems + uptoBulkAll spare + 1
  | .agg parts => uptoBulkAll parts + 1
  | .iface _ d => uptoBulk d + 1
  | .map entries => uptoBulkEntries entries + 1
  | .held _ => 1
def uptoBulkAll {H : Type} : List (DataW H) → Nat
  | [] => 0
  | d :: r => uptoBulk d + uptoBulkAll r
def uptoBulkEntries {H : Type} : List (Lit × DataW H) → Nat
  | [] => 0
  | x :: r => uptoBulkEntry x + uptoBulkEntries r
def uptoBulkEntry {H : Type} : Lit × DataW H → Nat
  | (.string bytes, d) => bytes.length + uptoBulk d + 1
  | (_, d) => uptoBulk d + 1
 end
def uptoSmall : (H : Type) → List (DataW H) → Bool := fun _ ds => decide (uptoBulkAll ds ≤ 1048576)
def OpenSpec.upto (s : _root_.Go.ChangeSpec) : _root_.Go.OpenSpec := { _root_.Go.OpenSpec.ofChange s with cond := some uptoSmall }

/-- 'almanackerlaw24.TorahTells', WHERE WHAT IT READS IS OF BULK AT MOST 1048576: true; the input reads as it did. -/
def torahTellsUptoRow : OpenClaim := { program := "ytnikgcedifdaeaagreatdoor", sum := "459276700a9844b258d8b2276d957e25b9bdbd60aad73e1c1d23543c7586f3c2", func := "almanacker/almanackerlaw24.TorahTells", spec := "torahTells", inPlace := ["(*sync.WaitGroup).Add", "internal/race.ReleaseMerge", "internal/race.Disable", "internal/race.Enable", "internal/synctest.IsInBubble", "internal/synctest.Associate[sync.WaitGroup]", "sync.fatal", "sync/atomic.OrUint64", "sync/atomic.AddUint64", "internal/race.Read", "sync/atomic.LoadUint64", "sync/atomic.StoreUint64", "internal/synctest.Disassociate[sync.WaitGroup]", "sync.runtime_Semrelease", "(*sync.WaitGroup).Done", "(*sync.WaitGroup).Wait", "internal/race.Acquire", "internal/synctest.IsAssociated[sync.WaitGroup]", "sync/atomic.CompareAndSwapUint64", "internal/race.Write", "sync.runtime_SemacquireWaitGroup"], unfollowed := true, recurses := true, named := ["almanacker/month.plain", "almanacker/keviah.types", "almanacker/torah.names"], leaving := true, apart := false, laid := [("almanacker/keviah.types", laid_almanacker_keviah_types), ("almanacker/month.plain", laid_almanacker_month_plain), ("almanacker/torah.names", laid_almanacker_torah_names)], narrowed := true }
def TorahTellsUptoSaid : Prop := torahTellsUptoRow.holds Tryz.pinned (OpenSpec.upto torahTellsSpec)

/-- 'almanackerlaw24.TorahOnce', WHERE WHAT IT READS IS OF BULK AT MOST 1048576: true; the input reads as it did. -/
def torahOnceUptoRow : OpenClaim := { program := "ytnikgcedifdaeaagreatdoor", sum := "459276700a9844b258d8b2276d957e25b9bdbd60aad73e1c1d23543c7586f3c2", func := "almanacker/almanackerlaw24.TorahOnce", spec := "torahOnce", inPlace := ["(*sync.WaitGroup).Add", "internal/race.ReleaseMerge", "internal/race.Disable", "internal/race.Enable", "internal/synctest.IsInBubble", "internal/synctest.Associate[sync.WaitGroup]", "sync.fatal", "sync/atomic.OrUint64", "sync/atomic.AddUint64", "internal/race.Read", "sync/atomic.LoadUint64", "sync/atomic.StoreUint64", "internal/synctest.Disassociate[sync.WaitGroup]", "sync.runtime_Semrelease", "(*sync.WaitGroup).Done", "(*sync.WaitGroup).Wait", "internal/race.Acquire", "internal/synctest.IsAssociated[sync.WaitGroup]", "sync/atomic.CompareAndSwapUint64", "internal/race.Write", "sync.runtime_SemacquireWaitGroup"], unfollowed := true, recurses := true, named := ["almanacker/month.plain", "almanacker/keviah.types", "almanacker/torah.names"], leaving := true, apart := false, laid := [("almanacker/keviah.types", laid_almanacker_keviah_types), ("almanacker/month.plain", laid_almanacker_month_plain), ("almanacker/torah.names", laid_almanacker_torah_names)], narrowed := true }
def TorahOnceUptoSaid : Prop := torahOnceUptoRow.holds Tryz.pinned (OpenSpec.upto torahOnceSpec)

/-- 'almanackerlaw25.DayBoth', WHERE WHAT IT READS IS OF BULK AT MOST 1048576: true; the input reads as it did. -/
def dayBothUptoRow : OpenClaim := { program := "ytnikgcedifdaeaagreatdoor", sum := "459276700a9844b258d8b2276d957e25b9bdbd60aad73e1c1d23543c7586f3c2", func := "almanacker/almanackerlaw25.DayBoth", spec := "dayBoth", inPlace := ["(*sync.WaitGroup).Add", "internal/race.ReleaseMerge", "internal/race.Disable", "internal/race.Enable", "internal/synctest.IsInBubble", "internal/synctest.Associate[sync.WaitGroup]", "sync.fatal", "sync/atomic.OrUint64", "sync/atomic.AddUint64", "internal/race.Read", "sync/atomic.LoadUint64", "sync/atomic.StoreUint64", "internal/synctest.Disassociate[sync.WaitGroup]", "sync.runtime_Semrelease", "(*sync.WaitGroup).Done", "(*sync.WaitGroup).Wait", "internal/race.Acquire", "internal/synctest.IsAssociated[sync.WaitGroup]", "sync/atomic.CompareAndSwapUint64", "internal/race.Write", "sync.runtime_SemacquireWaitGroup"], unfollowed := true, recurses := true, named := ["almanacker/month.plain", "almanacker/keviah.types"], leaving := true, apart := false, laid := [("almanacker/keviah.types", laid_almanacker_keviah_types), ("almanacker/month.plain", laid_almanacker_month_plain)], narrowed := true }
def DayBothUptoSaid : Prop := dayBothUptoRow.holds Tryz.pinned (OpenSpec.upto dayBothSpec)

/-- 'almanackerlaw25.DayPlaces', WHERE WHAT IT READS IS OF BULK AT MOST 1048576: true; the input reads as it did. -/
def dayPlacesUptoRow : OpenClaim := { program := "ytnikgcedifdaeaagreatdoor", sum := "459276700a9844b258d8b2276d957e25b9bdbd60aad73e1c1d23543c7586f3c2", func := "almanacker/almanackerlaw25.DayPlaces", spec := "dayPlaces", inPlace := ["(*sync.WaitGroup).Add", "internal/race.ReleaseMerge", "internal/race.Disable", "internal/race.Enable", "internal/synctest.IsInBubble", "internal/synctest.Associate[sync.WaitGroup]", "sync.fatal", "sync/atomic.OrUint64", "sync/atomic.AddUint64", "internal/race.Read", "sync/atomic.LoadUint64", "sync/atomic.StoreUint64", "internal/synctest.Disassociate[sync.WaitGroup]", "sync.runtime_Semrelease", "(*sync.WaitGroup).Done", "(*sync.WaitGroup).Wait", "internal/race.Acquire", "internal/synctest.IsAssociated[sync.WaitGroup]", "sync/atomic.CompareAndSwapUint64", "internal/race.Write", "sync.runtime_SemacquireWaitGroup"], unfollowed := true, recurses := true, named := ["almanacker/month.plain", "almanacker/keviah.types"], leaving := true, apart := false, laid := [("almanacker/keviah.types", laid_almanacker_keviah_types), ("almanacker/month.plain", laid_almanacker_month_plain)], narrowed := true }
def DayPlacesUptoSaid : Prop := dayPlacesUptoRow.holds Tryz.pinned (OpenSpec.upto dayPlacesSpec)

/-- 'almanackerlaw25.DayTells', WHERE WHAT IT READS IS OF BULK AT MOST 1048576: true; the input reads as it did. -/
def dayTellsUptoRow : OpenClaim := { program := "ytnikgcedifdaeaagreatdoor", sum := "459276700a9844b258d8b2276d957e25b9bdbd60aad73e1c1d23543c7586f3c2", func := "almanacker/almanackerlaw25.DayTells", spec := "dayTells", inPlace := ["(*sync.WaitGroup).Add", "internal/race.ReleaseMerge", "internal/race.Disable", "internal/race.Enable", "internal/synctest.IsInBubble", "internal/synctest.Associate[sync.WaitGroup]", "sync.fatal", "sync/atomic.OrUint64", "sync/atomic.AddUint64", "internal/race.Read", "sync/atomic.LoadUint64", "sync/atomic.StoreUint64", "internal/synctest.Disassociate[sync.WaitGroup]", "sync.runtime_Semrelease", "(*sync.WaitGroup).Done", "(*sync.WaitGroup).Wait", "internal/race.Acquire", "internal/synctest.IsAssociated[sync.WaitGroup]", "sync/atomic.CompareAndSwapUint64", "internal/race.Write", "sync.runtime_SemacquireWaitGroup"], unfollowed := true, recurses := true, named := ["almanacker/month.plain", "almanacker/keviah.types"], leaving := true, apart := false, laid := [("almanacker/keviah.types", laid_almanacker_keviah_types), ("almanacker/month.plain", laid_almanacker_month_plain)], narrowed := true }
def DayTellsUptoSaid : Prop := dayTellsUptoRow.holds Tryz.pinned (OpenSpec.upto dayTellsSpec)

end Rows
end Go.Proofs.YtnikgcedifdaeaaGreatDoor
