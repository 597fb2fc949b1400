/-
  DERIVED. GIVEN WITH THE SEED: THE CARDS: each row of YtnknfolnbhljfaaGreatDoorRows.lean that lists a variable, with what it lists TIED to the program's text (the seventh form; the later family's looks); each row that meets fmt, with fmt's text TOLD by the authors' own Lean function (tested against real Go, not proved from fmt's source: count such statements apart). THE CARD IS WHAT COUNTS. Prove the row's statement (the work); the ties are given (YtnknfolnbhljfaaGreatDoorTie.lean); close each card by the builder's one call (the guide's Derived/Test/ToyasCard.lean, 'card_holds'). Laid BY PROGRAM, IN A SANDBOX (cutbox-door.mjs). By AI agents, Wed Nov 11 2026. No macro, syntax, notation, axiom, sorry.
-/
import Derived.Test.YtnknfolnbhljfaaGreatDoorRows
import GoSem.ClaimSeven
namespace Go.Proofs.YtnknfolnbhljfaaGreatDoor
namespace Rows

/-- THE TIED CARD OF 'almanackerlaw23.SabbathWeeks'. -/
def sabbathWeeksCard : Claim7 := { stood := { row := sabbathWeeksRow, standIns := [], harness := (true, "0d7c927609d6013d05f65b7579243633ebb77ce49f88c0398a0d0e280ce89f56"), looks := false }, kinds := [], alts := [], goes := true, laidByText := true, laidKinds := [.widerDeep, .data], laidTests := true, laidLooks := .later }
def SabbathWeeksCardSaid : Prop := Claim7.holds Tryz.pinned (.plain (OpenSpec.ofChange sabbathWeeksSpec)) sabbathWeeksCard

/-- THE TIED CARD OF 'almanackerlaw24.TorahTells'. -/
def torahTellsCard : Claim7 := { stood := { row := torahTellsRow, standIns := [], harness := (true, "0d7c927609d6013d05f65b7579243633ebb77ce49f88c0398a0d0e280ce89f56"), looks := false }, kinds := [], alts := [], goes := true, laidByText := true, laidKinds := [.widerDeep, .data, .data], laidTests := true, laidLooks := .later }
def TorahTellsCardSaid : Prop := Claim7.holds Tryz.pinned (.plain (OpenSpec.ofChange torahTellsSpec)) torahTellsCard

/-- THE TIED CARD OF 'almanackerlaw24.TorahOnce'. -/
def torahOnceCard : Claim7 := { stood := { row := torahOnceRow, standIns := [], harness := (true, "0d7c927609d6013d05f65b7579243633ebb77ce49f88c0398a0d0e280ce89f56"), looks := false }, kinds := [], alts := [], goes := true, laidByText := true, laidKinds := [.widerDeep, .data, .data], laidTests := true, laidLooks := .later }
def TorahOnceCardSaid : Prop := Claim7.holds Tryz.pinned (.plain (OpenSpec.ofChange torahOnceSpec)) torahOnceCard

/-- THE TIED CARD OF 'almanackerlaw24.TorahAnchors'. -/
def torahAnchorsCard : Claim7 := { stood := { row := torahAnchorsRow, standIns := [], harness := (true, "0d7c927609d6013d05f65b7579243633ebb77ce49f88c0398a0d0e280ce89f56"), looks := false }, kinds := [], alts := [], goes := true, laidByText := true, laidKinds := [.widerDeep, .data, .data], laidTests := true, laidLooks := .later }
def TorahAnchorsCardSaid : Prop := Claim7.holds Tryz.pinned (.plain (OpenSpec.ofChange torahAnchorsSpec)) torahAnchorsCard

/-- THE TIED CARD OF 'almanackerlaw24.TorahPlaces'. -/
def torahPlacesCard : Claim7 := { stood := { row := torahPlacesRow, standIns := [], harness := (true, "0d7c927609d6013d05f65b7579243633ebb77ce49f88c0398a0d0e280ce89f56"), looks := false }, kinds := [], alts := [], goes := true, laidByText := true, laidKinds := [.widerDeep, .data, .data], laidTests := true, laidLooks := .later }
def TorahPlacesCardSaid : Prop := Claim7.holds Tryz.pinned (.plain (OpenSpec.ofChange torahPlacesSpec)) torahPlacesCard

/-- THE TIED CARD OF 'almanackerlaw24.TorahNames'. -/
def torahNamesCard : Claim7 := { stood := { row := torahNamesRow, standIns := [], harness := (true, "0d7c927609d6013d05f65b7579243633ebb77ce49f88c0398a0d0e280ce89f56"), looks := false }, kinds := [], alts := [], goes := true, laidByText := true, laidKinds := [.widerDeep, .data, .data], laidTests := true, laidLooks := .later }
def TorahNamesCardSaid : Prop := Claim7.holds Tryz.pinned (.plain (OpenSpec.ofChange torahNamesSpec)) torahNamesCard

/-- THE SECOND FORM's CARD OF 'almanackerlaw23.SabbathWeeks'. -/
def sabbathWeeksUptoCard : Claim7 := { stood := { row := sabbathWeeksUptoRow, standIns := [], harness := (true, "0d7c927609d6013d05f65b7579243633ebb77ce49f88c0398a0d0e280ce89f56"), looks := false }, kinds := [], alts := [], goes := true, laidByText := true, laidKinds := [.widerDeep, .data], laidTests := true, laidLooks := .later }
def SabbathWeeksUptoCardSaid : Prop := Claim7.holds Tryz.pinned (.plain (OpenSpec.upto sabbathWeeksSpec)) sabbathWeeksUptoCard

/-- THE SECOND FORM's CARD OF 'almanackerlaw24.TorahTells'. -/
def torahTellsUptoCard : Claim7 := { stood := { row := torahTellsUptoRow, standIns := [], harness := (true, "0d7c927609d6013d05f65b7579243633ebb77ce49f88c0398a0d0e280ce89f56"), looks := false }, kinds := [], alts := [], goes := true, laidByText := true, laidKinds := [.widerDeep, .data, .data], laidTests := true, laidLooks := .later }
def TorahTellsUptoCardSaid : Prop := Claim7.holds Tryz.pinned (.plain (OpenSpec.upto torahTellsSpec)) torahTellsUptoCard

/-- THE SECOND FORM's CARD OF 'almanackerlaw24.TorahOnce'. -/
def torahOnceUptoCard : Claim7 := { stood := { row := torahOnceUptoRow, standIns := [], harness := (true, "0d7c927609d6013d05f65b7579243633ebb77ce49f88c0398a0d0e280ce89f56"), looks := false }, kinds := [], alts := [], goes := true, laidByText := true, laidKinds := [.widerDeep, .data, .data], laidTests := true, laidLooks := .later }
def TorahOnceUptoCardSaid : Prop := Claim7.holds Tryz.pinned (.plain (OpenSpec.upto torahOnceSpec)) torahOnceUptoCard

/-- THE SECOND FORM's CARD OF 'almanackerlaw24.TorahAnchors'. -/
def torahAnchorsUptoCard : Claim7 := { stood := { row := torahAnchorsUptoRow, standIns := [], harness := (true, "0d7c927609d6013d05f65b7579243633ebb77ce49f88c0398a0d0e280ce89f56"), looks := false }, kinds := [], alts := [], goes := true, laidByText := true, laidKinds := [.widerDeep, .data, .data], laidTests := true, laidLooks := .later }
def TorahAnchorsUptoCardSaid : Prop := Claim7.holds Tryz.pinned (.plain (OpenSpec.upto torahAnchorsSpec)) torahAnchorsUptoCard

/-- THE SECOND FORM's CARD OF 'almanackerlaw24.TorahPlaces'. -/
def torahPlacesUptoCard : Claim7 := { stood := { row := torahPlacesUptoRow, standIns := [], harness := (true, "0d7c927609d6013d05f65b7579243633ebb77ce49f88c0398a0d0e280ce89f56"), looks := false }, kinds := [], alts := [], goes := true, laidByText := true, laidKinds := [.widerDeep, .data, .data], laidTests := true, laidLooks := .later }
def TorahPlacesUptoCardSaid : Prop := Claim7.holds Tryz.pinned (.plain (OpenSpec.upto torahPlacesSpec)) torahPlacesUptoCard

/-- THE SECOND FORM's CARD OF 'almanackerlaw24.TorahNames'. -/
def torahNamesUptoCard : Claim7 := { stood := { row := torahNamesUptoRow, standIns := [], harness := (true, "0d7c927609d6013d05f65b7579243633ebb77ce49f88c0398a0d0e280ce89f56"), looks := false }, kinds := [], alts := [], goes := true, laidByText := true, laidKinds := [.widerDeep, .data, .data], laidTests := true, laidLooks := .later }
def TorahNamesUptoCardSaid : Prop := Claim7.holds Tryz.pinned (.plain (OpenSpec.upto torahNamesSpec)) torahNamesUptoCard
end Rows
end Go.Proofs.YtnknfolnbhljfaaGreatDoor
