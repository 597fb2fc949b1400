/-
  DERIVED. GIVEN WITH THE SEED: THE CARDS: each row of YtflpddhoiafhcaaDoorRows.lean that lists a variable, with what it lists TIED to the program's text (the seventh form; the later family's looks); each row that meets fmt, with fmt's text TOLD by the authors' own Lean function (tested against real Go, not proved from fmt's source: count such statements apart). THE CARD IS WHAT COUNTS. Prove the row's statement (the work); the ties are given (YtflpddhoiafhcaaDoorTie.lean); close each card by the builder's one call (the guide's Derived/Test/ToyasCard.lean, 'card_holds'). Laid BY PROGRAM, IN A SANDBOX (cutbox-door.mjs). By AI agents, Wed Nov 11 2026. No macro, syntax, notation, axiom, sorry.
-/
import Derived.Test.YtflpddhoiafhcaaDoorRows
import GoSem.ClaimSeven
namespace Go.Proofs.YtflpddhoiafhcaaDoor
namespace Rows

/-- THE TIED CARD OF 'almanackerlaw09.CodeTells'. -/
def codeTellsCard : Claim7 := { stood := { row := codeTellsRow, standIns := [], harness := (true, "15b86447cfc41a4bfcd2b2b1c27e7da639d94613817b877b85ea2248c461fbb6"), looks := true }, kinds := [], alts := [], laidByText := true, laidKinds := [.data, .data, .data, .sentinel, .sentinel], laidTests := true, laidLooks := .later }
def CodeTellsCardSaid : Prop := Claim7.holds Tryd.pinned (.plain (OpenSpec.ofChange codeTellsSpec)) codeTellsCard

/-- THE TIED CARD OF 'almanackerlaw09.CodeBack'. -/
def codeBackCard : Claim7 := { stood := { row := codeBackRow, standIns := [], harness := (true, "15b86447cfc41a4bfcd2b2b1c27e7da639d94613817b877b85ea2248c461fbb6"), looks := true }, kinds := [], alts := [], laidByText := true, laidKinds := [.data, .data, .data, .sentinel, .sentinel], laidTests := true, laidLooks := .later }
def CodeBackCardSaid : Prop := Claim7.holds Tryd.pinned (.plain (OpenSpec.ofChange codeBackSpec)) codeBackCard

/-- THE TIED CARD OF 'almanackerlaw20.FastTells'. -/
def fastTellsCard : Claim7 := { stood := { row := fastTellsRow, standIns := [], harness := (true, "15b86447cfc41a4bfcd2b2b1c27e7da639d94613817b877b85ea2248c461fbb6"), looks := true }, kinds := [], alts := [], laidByText := true, laidKinds := [.widerDeep, .data], laidTests := true, laidLooks := .later }
def FastTellsCardSaid : Prop := Claim7.holds Tryd.pinned (.plain (OpenSpec.ofChange fastTellsSpec)) fastTellsCard

/-- THE TIED CARD OF 'almanackerlaw20.FastSabbath'. -/
def fastSabbathCard : Claim7 := { stood := { row := fastSabbathRow, standIns := [], harness := (true, "15b86447cfc41a4bfcd2b2b1c27e7da639d94613817b877b85ea2248c461fbb6"), looks := true }, kinds := [], alts := [], laidByText := true, laidKinds := [.widerDeep, .data], laidTests := true, laidLooks := .later }
def FastSabbathCardSaid : Prop := Claim7.holds Tryd.pinned (.plain (OpenSpec.ofChange fastSabbathSpec)) fastSabbathCard

/-- THE TIED CARD OF 'almanackerlaw19.FeastDays'. -/
def feastDaysCard : Claim7 := { stood := { row := feastDaysRow, standIns := [], harness := (true, "15b86447cfc41a4bfcd2b2b1c27e7da639d94613817b877b85ea2248c461fbb6"), looks := true }, kinds := [], alts := [], laidByText := true, laidKinds := [.widerDeep, .data], laidTests := true, laidLooks := .later }
def FeastDaysCardSaid : Prop := Claim7.holds Tryd.pinned (.plain (OpenSpec.ofChange feastDaysSpec)) feastDaysCard

/-- THE TIED CARD OF 'almanackerlaw19.FeastPlaces'. -/
def feastPlacesCard : Claim7 := { stood := { row := feastPlacesRow, standIns := [], harness := (true, "15b86447cfc41a4bfcd2b2b1c27e7da639d94613817b877b85ea2248c461fbb6"), looks := true }, kinds := [], alts := [], laidByText := true, laidKinds := [.widerDeep, .data], laidTests := true, laidLooks := .later }
def FeastPlacesCardSaid : Prop := Claim7.holds Tryd.pinned (.plain (OpenSpec.ofChange feastPlacesSpec)) feastPlacesCard

/-- THE TIED CARD OF 'almanackerlaw19.FeastTells'. -/
def feastTellsCard : Claim7 := { stood := { row := feastTellsRow, standIns := [], harness := (true, "15b86447cfc41a4bfcd2b2b1c27e7da639d94613817b877b85ea2248c461fbb6"), looks := true }, kinds := [], alts := [], laidByText := true, laidKinds := [.widerDeep, .data], laidTests := true, laidLooks := .later }
def FeastTellsCardSaid : Prop := Claim7.holds Tryd.pinned (.plain (OpenSpec.ofChange feastTellsSpec)) feastTellsCard

/-- THE TIED CARD OF 'almanackerlaw22.SpecialDays'. -/
def specialDaysCard : Claim7 := { stood := { row := specialDaysRow, standIns := [], harness := (true, "15b86447cfc41a4bfcd2b2b1c27e7da639d94613817b877b85ea2248c461fbb6"), looks := true }, kinds := [], alts := [], laidByText := true, laidKinds := [.widerDeep, .data], laidTests := true, laidLooks := .later }
def SpecialDaysCardSaid : Prop := Claim7.holds Tryd.pinned (.plain (OpenSpec.ofChange specialDaysSpec)) specialDaysCard

/-- THE TIED CARD OF 'almanackerlaw22.SpecialGaps'. -/
def specialGapsCard : Claim7 := { stood := { row := specialGapsRow, standIns := [], harness := (true, "15b86447cfc41a4bfcd2b2b1c27e7da639d94613817b877b85ea2248c461fbb6"), looks := true }, kinds := [], alts := [], laidByText := true, laidKinds := [.widerDeep, .data], laidTests := true, laidLooks := .later }
def SpecialGapsCardSaid : Prop := Claim7.holds Tryd.pinned (.plain (OpenSpec.ofChange specialGapsSpec)) specialGapsCard

/-- THE TIED CARD OF 'almanackerlaw14.NameMonths'. -/
def nameMonthsCard : Claim7 := { stood := { row := nameMonthsRow, standIns := [], harness := (true, "15b86447cfc41a4bfcd2b2b1c27e7da639d94613817b877b85ea2248c461fbb6"), looks := true }, kinds := [], alts := [], laidByText := true, laidKinds := [.data, .data, .data, .widerDeep, .data, .sentinel, .sentinel, .data], laidTests := true, laidLooks := .later }
def NameMonthsCardSaid : Prop := Claim7.holds Tryd.pinned (.plain (OpenSpec.ofChange nameMonthsSpec)) nameMonthsCard

/-- THE SECOND FORM's CARD OF 'almanackerlaw09.CodeTells'. -/
def codeTellsUptoCard : Claim7 := { stood := { row := codeTellsUptoRow, standIns := [], harness := (true, "15b86447cfc41a4bfcd2b2b1c27e7da639d94613817b877b85ea2248c461fbb6"), looks := true }, kinds := [], alts := [], laidByText := true, laidKinds := [.data, .data, .data, .sentinel, .sentinel], laidTests := true, laidLooks := .later }
def CodeTellsUptoCardSaid : Prop := Claim7.holds Tryd.pinned (.plain (OpenSpec.upto codeTellsSpec)) codeTellsUptoCard

/-- THE SECOND FORM's CARD OF 'almanackerlaw09.CodeBack'. -/
def codeBackUptoCard : Claim7 := { stood := { row := codeBackUptoRow, standIns := [], harness := (true, "15b86447cfc41a4bfcd2b2b1c27e7da639d94613817b877b85ea2248c461fbb6"), looks := true }, kinds := [], alts := [], laidByText := true, laidKinds := [.data, .data, .data, .sentinel, .sentinel], laidTests := true, laidLooks := .later }
def CodeBackUptoCardSaid : Prop := Claim7.holds Tryd.pinned (.plain (OpenSpec.upto codeBackSpec)) codeBackUptoCard

/-- THE SECOND FORM's CARD OF 'almanackerlaw20.FastTells'. -/
def fastTellsUptoCard : Claim7 := { stood := { row := fastTellsUptoRow, standIns := [], harness := (true, "15b86447cfc41a4bfcd2b2b1c27e7da639d94613817b877b85ea2248c461fbb6"), looks := true }, kinds := [], alts := [], laidByText := true, laidKinds := [.widerDeep, .data], laidTests := true, laidLooks := .later }
def FastTellsUptoCardSaid : Prop := Claim7.holds Tryd.pinned (.plain (OpenSpec.upto fastTellsSpec)) fastTellsUptoCard

/-- THE SECOND FORM's CARD OF 'almanackerlaw20.FastSabbath'. -/
def fastSabbathUptoCard : Claim7 := { stood := { row := fastSabbathUptoRow, standIns := [], harness := (true, "15b86447cfc41a4bfcd2b2b1c27e7da639d94613817b877b85ea2248c461fbb6"), looks := true }, kinds := [], alts := [], laidByText := true, laidKinds := [.widerDeep, .data], laidTests := true, laidLooks := .later }
def FastSabbathUptoCardSaid : Prop := Claim7.holds Tryd.pinned (.plain (OpenSpec.upto fastSabbathSpec)) fastSabbathUptoCard

/-- THE SECOND FORM's CARD OF 'almanackerlaw19.FeastDays'. -/
def feastDaysUptoCard : Claim7 := { stood := { row := feastDaysUptoRow, standIns := [], harness := (true, "15b86447cfc41a4bfcd2b2b1c27e7da639d94613817b877b85ea2248c461fbb6"), looks := true }, kinds := [], alts := [], laidByText := true, laidKinds := [.widerDeep, .data], laidTests := true, laidLooks := .later }
def FeastDaysUptoCardSaid : Prop := Claim7.holds Tryd.pinned (.plain (OpenSpec.upto feastDaysSpec)) feastDaysUptoCard

/-- THE SECOND FORM's CARD OF 'almanackerlaw19.FeastPlaces'. -/
def feastPlacesUptoCard : Claim7 := { stood := { row := feastPlacesUptoRow, standIns := [], harness := (true, "15b86447cfc41a4bfcd2b2b1c27e7da639d94613817b877b85ea2248c461fbb6"), looks := true }, kinds := [], alts := [], laidByText := true, laidKinds := [.widerDeep, .data], laidTests := true, laidLooks := .later }
def FeastPlacesUptoCardSaid : Prop := Claim7.holds Tryd.pinned (.plain (OpenSpec.upto feastPlacesSpec)) feastPlacesUptoCard

/-- THE SECOND FORM's CARD OF 'almanackerlaw19.FeastTells'. -/
def feastTellsUptoCard : Claim7 := { stood := { row := feastTellsUptoRow, standIns := [], harness := (true, "15b86447cfc41a4bfcd2b2b1c27e7da639d94613817b877b85ea2248c461fbb6"), looks := true }, kinds := [], alts := [], laidByText := true, laidKinds := [.widerDeep, .data], laidTests := true, laidLooks := .later }
def FeastTellsUptoCardSaid : Prop := Claim7.holds Tryd.pinned (.plain (OpenSpec.upto feastTellsSpec)) feastTellsUptoCard

/-- THE SECOND FORM's CARD OF 'almanackerlaw22.SpecialDays'. -/
def specialDaysUptoCard : Claim7 := { stood := { row := specialDaysUptoRow, standIns := [], harness := (true, "15b86447cfc41a4bfcd2b2b1c27e7da639d94613817b877b85ea2248c461fbb6"), looks := true }, kinds := [], alts := [], laidByText := true, laidKinds := [.widerDeep, .data], laidTests := true, laidLooks := .later }
def SpecialDaysUptoCardSaid : Prop := Claim7.holds Tryd.pinned (.plain (OpenSpec.upto specialDaysSpec)) specialDaysUptoCard

/-- THE SECOND FORM's CARD OF 'almanackerlaw22.SpecialGaps'. -/
def specialGapsUptoCard : Claim7 := { stood := { row := specialGapsUptoRow, standIns := [], harness := (true, "15b86447cfc41a4bfcd2b2b1c27e7da639d94613817b877b85ea2248c461fbb6"), looks := true }, kinds := [], alts := [], laidByText := true, laidKinds := [.widerDeep, .data], laidTests := true, laidLooks := .later }
def SpecialGapsUptoCardSaid : Prop := Claim7.holds Tryd.pinned (.plain (OpenSpec.upto specialGapsSpec)) specialGapsUptoCard

/-- THE SECOND FORM's CARD OF 'almanackerlaw14.NameMonths'. -/
def nameMonthsUptoCard : Claim7 := { stood := { row := nameMonthsUptoRow, standIns := [], harness := (true, "15b86447cfc41a4bfcd2b2b1c27e7da639d94613817b877b85ea2248c461fbb6"), looks := true }, kinds := [], alts := [], laidByText := true, laidKinds := [.data, .data, .data, .widerDeep, .data, .sentinel, .sentinel, .data], laidTests := true, laidLooks := .later }
def NameMonthsUptoCardSaid : Prop := Claim7.holds Tryd.pinned (.plain (OpenSpec.upto nameMonthsSpec)) nameMonthsUptoCard
end Rows
end Go.Proofs.YtflpddhoiafhcaaDoor
