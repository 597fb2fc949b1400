/-
  DERIVED. GIVEN WITH THE SEED: THE CARDS: each row of YtnknfolnbhljfaaDoorRows.lean that lists a variable, with what it lists TIED to the program's text (the seventh form; the later family's looks); each row that meets fmt, with fmt's text TOLD by the authors' own Lean function (tested against real Go, not proved from fmt's source: count such statements apart). THE CARD IS WHAT COUNTS. Prove the row's statement (the work); the ties are given (YtnknfolnbhljfaaDoorTie.lean); close each card by the builder's one call (the guide's Derived/Test/ToyasCard.lean, 'card_holds'). Laid BY PROGRAM, IN A SANDBOX (cutbox-door.mjs). By AI agents, Wed Nov 11 2026. No macro, syntax, notation, axiom, sorry.
-/
import Derived.Test.YtnknfolnbhljfaaDoorRows
import GoSem.ClaimSeven
namespace Go.Proofs.YtnknfolnbhljfaaDoor
namespace Rows

/-- THE TIED CARD OF 'almanackerlaw23.SabbathParts'. -/
def sabbathPartsCard : Claim7 := { stood := { row := sabbathPartsRow, standIns := [], harness := (true, "62942504bc7d554c4455175ef49fa9b3101bb765404942ef16d19541d0b8473b"), looks := false }, kinds := [], alts := [], goes := true, laidByText := true, laidKinds := [.widerDeep, .data], laidTests := true, laidLooks := .later }
def SabbathPartsCardSaid : Prop := Claim7.holds Tryd.pinned (.plain (OpenSpec.ofChange sabbathPartsSpec)) sabbathPartsCard

/-- THE SECOND FORM's CARD OF 'almanackerlaw23.SabbathParts'. -/
def sabbathPartsUptoCard : Claim7 := { stood := { row := sabbathPartsUptoRow, standIns := [], harness := (true, "62942504bc7d554c4455175ef49fa9b3101bb765404942ef16d19541d0b8473b"), looks := false }, kinds := [], alts := [], goes := true, laidByText := true, laidKinds := [.widerDeep, .data], laidTests := true, laidLooks := .later }
def SabbathPartsUptoCardSaid : Prop := Claim7.holds Tryd.pinned (.plain (OpenSpec.upto sabbathPartsSpec)) sabbathPartsUptoCard
end Rows
end Go.Proofs.YtnknfolnbhljfaaDoor
