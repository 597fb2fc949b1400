/-
  DERIVED. GIVEN WITH THE SEED: THE CARDS: each row of YtnikgcedifdaeaaGreatDoorRows.lean that lists a variable, with what it lists TIED to the program's text (the seventh form; the later family's looks); each row that meets fmt, with fmt's text TOLD by the authors' own Lean function (tested against real Go, not proved from fmt's source: count such statements apart). THE CARD IS WHAT COUNTS. Prove the row's statement (the work); the ties are given (YtnikgcedifdaeaaGreatDoorTie.lean); close each card by the builder's one call (the guide's Derived/Test/ToyasCard.lean, 'card_holds'). Laid BY PROGRAM, IN A SANDBOX (cutbox-door.mjs). By AI agents, Wed Nov 11 2026. No macro, syntax, notation, axiom, sorry.
-/
import Derived.Test.YtnikgcedifdaeaaGreatDoorRows
import GoSem.ClaimSeven
namespace Go.Proofs.YtnikgcedifdaeaaGreatDoor
namespace Rows

/-- THE TIED CARD OF 'almanackerlaw24.TorahTells'. -/
def torahTellsCard : Claim7 := { stood := { row := torahTellsRow, standIns := [], harness := (true, "d4877ee0f819a52aebd82e89ec50a65e4b51e4db1f0c43b994e8b07ec124a3a3"), looks := false }, kinds := [], alts := [], goes := true, laidByText := true, laidKinds := [.widerDeep, .data, .data], laidTests := true, laidLooks := .later }
def TorahTellsCardSaid : Prop := Claim7.holds Tryz.pinned (.plain (OpenSpec.ofChange torahTellsSpec)) torahTellsCard

/-- THE TIED CARD OF 'almanackerlaw24.TorahOnce'. -/
def torahOnceCard : Claim7 := { stood := { row := torahOnceRow, standIns := [], harness := (true, "d4877ee0f819a52aebd82e89ec50a65e4b51e4db1f0c43b994e8b07ec124a3a3"), looks := false }, kinds := [], alts := [], goes := true, laidByText := true, laidKinds := [.widerDeep, .data, .data], laidTests := true, laidLooks := .later }
def TorahOnceCardSaid : Prop := Claim7.holds Tryz.pinned (.plain (OpenSpec.ofChange torahOnceSpec)) torahOnceCard

/-- THE TIED CARD OF 'almanackerlaw25.DayBoth'. -/
def dayBothCard : Claim7 := { stood := { row := dayBothRow, standIns := [], harness := (true, "d4877ee0f819a52aebd82e89ec50a65e4b51e4db1f0c43b994e8b07ec124a3a3"), looks := false }, kinds := [], alts := [], goes := true, laidByText := true, laidKinds := [.widerDeep, .data], laidTests := true, laidLooks := .later }
def DayBothCardSaid : Prop := Claim7.holds Tryz.pinned (.plain (OpenSpec.ofChange dayBothSpec)) dayBothCard

/-- THE TIED CARD OF 'almanackerlaw25.DayPlaces'. -/
def dayPlacesCard : Claim7 := { stood := { row := dayPlacesRow, standIns := [], harness := (true, "d4877ee0f819a52aebd82e89ec50a65e4b51e4db1f0c43b994e8b07ec124a3a3"), looks := false }, kinds := [], alts := [], goes := true, laidByText := true, laidKinds := [.widerDeep, .data], laidTests := true, laidLooks := .later }
def DayPlacesCardSaid : Prop := Claim7.holds Tryz.pinned (.plain (OpenSpec.ofChange dayPlacesSpec)) dayPlacesCard

/-- THE TIED CARD OF 'almanackerlaw25.DayTells'. -/
def dayTellsCard : Claim7 := { stood := { row := dayTellsRow, standIns := [], harness := (true, "d4877ee0f819a52aebd82e89ec50a65e4b51e4db1f0c43b994e8b07ec124a3a3"), looks := false }, kinds := [], alts := [], goes := true, laidByText := true, laidKinds := [.widerDeep, .data], laidTests := true, laidLooks := .later }
def DayTellsCardSaid : Prop := Claim7.holds Tryz.pinned (.plain (OpenSpec.ofChange dayTellsSpec)) dayTellsCard

/-- THE SECOND FORM's CARD OF 'almanackerlaw24.TorahTells'. -/
def torahTellsUptoCard : Claim7 := { stood := { row := torahTellsUptoRow, standIns := [], harness := (true, "d4877ee0f819a52aebd82e89ec50a65e4b51e4db1f0c43b994e8b07ec124a3a3"), looks := false }, kinds := [], alts := [], goes := true, laidByText := true, laidKinds := [.widerDeep, .data, .data], laidTests := true, laidLooks := .later }
def TorahTellsUptoCardSaid : Prop := Claim7.holds Tryz.pinned (.plain (OpenSpec.upto torahTellsSpec)) torahTellsUptoCard

/-- THE SECOND FORM's CARD OF 'almanackerlaw24.TorahOnce'. -/
def torahOnceUptoCard : Claim7 := { stood := { row := torahOnceUptoRow, standIns := [], harness := (true, "d4877ee0f819a52aebd82e89ec50a65e4b51e4db1f0c43b994e8b07ec124a3a3"), looks := false }, kinds := [], alts := [], goes := true, laidByText := true, laidKinds := [.widerDeep, .data, .data], laidTests := true, laidLooks := .later }
def TorahOnceUptoCardSaid : Prop := Claim7.holds Tryz.pinned (.plain (OpenSpec.upto torahOnceSpec)) torahOnceUptoCard

/-- THE SECOND FORM's CARD OF 'almanackerlaw25.DayBoth'. -/
def dayBothUptoCard : Claim7 := { stood := { row := dayBothUptoRow, standIns := [], harness := (true, "d4877ee0f819a52aebd82e89ec50a65e4b51e4db1f0c43b994e8b07ec124a3a3"), looks := false }, kinds := [], alts := [], goes := true, laidByText := true, laidKinds := [.widerDeep, .data], laidTests := true, laidLooks := .later }
def DayBothUptoCardSaid : Prop := Claim7.holds Tryz.pinned (.plain (OpenSpec.upto dayBothSpec)) dayBothUptoCard

/-- THE SECOND FORM's CARD OF 'almanackerlaw25.DayPlaces'. -/
def dayPlacesUptoCard : Claim7 := { stood := { row := dayPlacesUptoRow, standIns := [], harness := (true, "d4877ee0f819a52aebd82e89ec50a65e4b51e4db1f0c43b994e8b07ec124a3a3"), looks := false }, kinds := [], alts := [], goes := true, laidByText := true, laidKinds := [.widerDeep, .data], laidTests := true, laidLooks := .later }
def DayPlacesUptoCardSaid : Prop := Claim7.holds Tryz.pinned (.plain (OpenSpec.upto dayPlacesSpec)) dayPlacesUptoCard

/-- THE SECOND FORM's CARD OF 'almanackerlaw25.DayTells'. -/
def dayTellsUptoCard : Claim7 := { stood := { row := dayTellsUptoRow, standIns := [], harness := (true, "d4877ee0f819a52aebd82e89ec50a65e4b51e4db1f0c43b994e8b07ec124a3a3"), looks := false }, kinds := [], alts := [], goes := true, laidByText := true, laidKinds := [.widerDeep, .data], laidTests := true, laidLooks := .later }
def DayTellsUptoCardSaid : Prop := Claim7.holds Tryz.pinned (.plain (OpenSpec.upto dayTellsSpec)) dayTellsUptoCard
end Rows
end Go.Proofs.YtnikgcedifdaeaaGreatDoor
