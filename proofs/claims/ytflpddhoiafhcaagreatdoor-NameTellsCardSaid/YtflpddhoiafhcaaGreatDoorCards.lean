/-
  DERIVED. GIVEN WITH THE SEED: THE CARDS: each row of YtflpddhoiafhcaaGreatDoorRows.lean that lists a variable, with what it lists TIED to the program's text (the seventh form; the later family's looks); each row that meets fmt, with fmt's text TOLD by the authors' own Lean function (tested against real Go, not proved from fmt's source: count such statements apart). THE CARD IS WHAT COUNTS. Prove the row's statement (the work); the ties are given (YtflpddhoiafhcaaGreatDoorTie.lean); close each card by the builder's one call (the guide's Derived/Test/ToyasCard.lean, 'card_holds'). Laid BY PROGRAM, IN A SANDBOX (cutbox-door.mjs). By AI agents, Wed Nov 11 2026. No macro, syntax, notation, axiom, sorry.
-/
import Derived.Test.YtflpddhoiafhcaaGreatDoorRows
import GoSem.ClaimSeven
namespace Go.Proofs.YtflpddhoiafhcaaGreatDoor
namespace Rows

/-- THE TIED CARD OF 'almanackerlaw22.SpecialTells'. -/
def specialTellsCard : Claim7 := { stood := { row := specialTellsRow, standIns := [], harness := (true, "b460f4c9c07d00283c5554df2266d47161bb3a9e0a67d095446a414aa3724c4b"), looks := true }, kinds := [], alts := [], laidByText := true, laidKinds := [.widerDeep, .data], laidTests := true, laidLooks := .later }
def SpecialTellsCardSaid : Prop := Claim7.holds Tryz.pinned (.plain (OpenSpec.ofChange specialTellsSpec)) specialTellsCard

/-- THE TIED CARD OF 'almanackerlaw14.NameTells'. -/
def nameTellsCard : Claim7 := { stood := { row := nameTellsRow, standIns := [], harness := (true, "b460f4c9c07d00283c5554df2266d47161bb3a9e0a67d095446a414aa3724c4b"), looks := true }, kinds := [], alts := [], laidByText := true, laidKinds := [.data, .data, .data, .widerDeep, .data, .sentinel, .sentinel, .data], laidTests := true, laidLooks := .later }
def NameTellsCardSaid : Prop := Claim7.holds Tryz.pinned (.plain (OpenSpec.ofChange nameTellsSpec)) nameTellsCard

/-- THE TIED CARD OF 'almanackerlaw14.NameBack'. -/
def nameBackCard : Claim7 := { stood := { row := nameBackRow, standIns := [], harness := (true, "b460f4c9c07d00283c5554df2266d47161bb3a9e0a67d095446a414aa3724c4b"), looks := true }, kinds := [], alts := [], laidByText := true, laidKinds := [.data, .data, .data, .widerDeep, .data, .sentinel, .sentinel, .data], laidTests := true, laidLooks := .later }
def NameBackCardSaid : Prop := Claim7.holds Tryz.pinned (.plain (OpenSpec.ofChange nameBackSpec)) nameBackCard

/-- THE TIED CARD OF 'almanackerlaw13.TextOrder'. -/
def textOrderCard : Claim7 := { stood := { row := textOrderRow, standIns := [], harness := (true, "b460f4c9c07d00283c5554df2266d47161bb3a9e0a67d095446a414aa3724c4b"), looks := true }, kinds := [], alts := [], laidByText := true, laidKinds := [.data, .data, .data, .data, .widerDeep, .data, .sentinel, .sentinel, .pinned], laidTests := true, laidLooks := .later }
def TextOrderCardSaid : Prop := Claim7.holds Tryz.pinned (.plain (OpenSpec.ofChange textOrderSpec)) textOrderCard

/-- THE TIED CARD OF 'almanackerlaw13.TextTells'. -/
def textTellsCard : Claim7 := { stood := { row := textTellsRow, standIns := [], harness := (true, "b460f4c9c07d00283c5554df2266d47161bb3a9e0a67d095446a414aa3724c4b"), looks := true }, kinds := [], alts := [], laidByText := true, laidKinds := [.data, .data, .data, .data, .widerDeep, .data, .sentinel, .sentinel, .pinned], laidTests := true, laidLooks := .later }
def TextTellsCardSaid : Prop := Claim7.holds Tryz.pinned (.plain (OpenSpec.ofChange textTellsSpec)) textTellsCard

/-- THE TIED CARD OF 'almanackerlaw13.TextBack'. -/
def textBackCard : Claim7 := { stood := { row := textBackRow, standIns := [], harness := (true, "b460f4c9c07d00283c5554df2266d47161bb3a9e0a67d095446a414aa3724c4b"), looks := true }, kinds := [], alts := [], laidByText := true, laidKinds := [.data, .data, .data, .data, .widerDeep, .data, .sentinel, .sentinel, .pinned], laidTests := true, laidLooks := .later }
def TextBackCardSaid : Prop := Claim7.holds Tryz.pinned (.plain (OpenSpec.ofChange textBackSpec)) textBackCard

/-- THE SECOND FORM's CARD OF 'almanackerlaw22.SpecialTells'. -/
def specialTellsUptoCard : Claim7 := { stood := { row := specialTellsUptoRow, standIns := [], harness := (true, "b460f4c9c07d00283c5554df2266d47161bb3a9e0a67d095446a414aa3724c4b"), looks := true }, kinds := [], alts := [], laidByText := true, laidKinds := [.widerDeep, .data], laidTests := true, laidLooks := .later }
def SpecialTellsUptoCardSaid : Prop := Claim7.holds Tryz.pinned (.plain (OpenSpec.upto specialTellsSpec)) specialTellsUptoCard

/-- THE SECOND FORM's CARD OF 'almanackerlaw14.NameTells'. -/
def nameTellsUptoCard : Claim7 := { stood := { row := nameTellsUptoRow, standIns := [], harness := (true, "b460f4c9c07d00283c5554df2266d47161bb3a9e0a67d095446a414aa3724c4b"), looks := true }, kinds := [], alts := [], laidByText := true, laidKinds := [.data, .data, .data, .widerDeep, .data, .sentinel, .sentinel, .data], laidTests := true, laidLooks := .later }
def NameTellsUptoCardSaid : Prop := Claim7.holds Tryz.pinned (.plain (OpenSpec.upto nameTellsSpec)) nameTellsUptoCard

/-- THE SECOND FORM's CARD OF 'almanackerlaw14.NameBack'. -/
def nameBackUptoCard : Claim7 := { stood := { row := nameBackUptoRow, standIns := [], harness := (true, "b460f4c9c07d00283c5554df2266d47161bb3a9e0a67d095446a414aa3724c4b"), looks := true }, kinds := [], alts := [], laidByText := true, laidKinds := [.data, .data, .data, .widerDeep, .data, .sentinel, .sentinel, .data], laidTests := true, laidLooks := .later }
def NameBackUptoCardSaid : Prop := Claim7.holds Tryz.pinned (.plain (OpenSpec.upto nameBackSpec)) nameBackUptoCard

/-- THE SECOND FORM's CARD OF 'almanackerlaw13.TextOrder'. -/
def textOrderUptoCard : Claim7 := { stood := { row := textOrderUptoRow, standIns := [], harness := (true, "b460f4c9c07d00283c5554df2266d47161bb3a9e0a67d095446a414aa3724c4b"), looks := true }, kinds := [], alts := [], laidByText := true, laidKinds := [.data, .data, .data, .data, .widerDeep, .data, .sentinel, .sentinel, .pinned], laidTests := true, laidLooks := .later }
def TextOrderUptoCardSaid : Prop := Claim7.holds Tryz.pinned (.plain (OpenSpec.upto textOrderSpec)) textOrderUptoCard

/-- THE SECOND FORM's CARD OF 'almanackerlaw13.TextTells'. -/
def textTellsUptoCard : Claim7 := { stood := { row := textTellsUptoRow, standIns := [], harness := (true, "b460f4c9c07d00283c5554df2266d47161bb3a9e0a67d095446a414aa3724c4b"), looks := true }, kinds := [], alts := [], laidByText := true, laidKinds := [.data, .data, .data, .data, .widerDeep, .data, .sentinel, .sentinel, .pinned], laidTests := true, laidLooks := .later }
def TextTellsUptoCardSaid : Prop := Claim7.holds Tryz.pinned (.plain (OpenSpec.upto textTellsSpec)) textTellsUptoCard

/-- THE SECOND FORM's CARD OF 'almanackerlaw13.TextBack'. -/
def textBackUptoCard : Claim7 := { stood := { row := textBackUptoRow, standIns := [], harness := (true, "b460f4c9c07d00283c5554df2266d47161bb3a9e0a67d095446a414aa3724c4b"), looks := true }, kinds := [], alts := [], laidByText := true, laidKinds := [.data, .data, .data, .data, .widerDeep, .data, .sentinel, .sentinel, .pinned], laidTests := true, laidLooks := .later }
def TextBackUptoCardSaid : Prop := Claim7.holds Tryz.pinned (.plain (OpenSpec.upto textBackSpec)) textBackUptoCard
end Rows
end Go.Proofs.YtflpddhoiafhcaaGreatDoor
