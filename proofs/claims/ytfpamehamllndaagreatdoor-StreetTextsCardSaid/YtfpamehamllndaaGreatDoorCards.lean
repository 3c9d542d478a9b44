/-
  DERIVED. GIVEN WITH THE SEED: THE CARDS: each row of YtfpamehamllndaaGreatDoorRows.lean that lists a variable, with what it lists TIED to the program's text (the seventh form; the later family's looks); each row that meets fmt, with fmt's text TOLD by the authors' own Lean function (tested against real Go, not proved from fmt's source: count such statements apart). THE CARD IS WHAT COUNTS. Prove the row's statement (the work); the ties are given (YtfpamehamllndaaGreatDoorTie.lean); close each card by the builder's one call (the guide's Derived/Test/ToyasCard.lean, 'card_holds'). Laid BY PROGRAM, IN A SANDBOX (cutbox-door.mjs). By AI agents, Wed Nov 11 2026. No macro, syntax, notation, axiom, sorry.
-/
import Derived.Test.YtfpamehamllndaaGreatDoorRows
import GoSem.ClaimSeven
namespace Go.Proofs.YtfpamehamllndaaGreatDoor
namespace Rows

/-- THE TIED CARD OF 'fiacrelaw03.StreetTexts'. -/
def streetTextsCard : Claim7 := { stood := { row := streetTextsRow, standIns := [], harness := (true, "924d38ba0b295c8bc5c916a9915fde08031721c56643d001d8ea9076403a716d"), looks := true }, kinds := [], alts := [], laidByText := true, laidKinds := [.data, .data, .data, .data, .sentinel, .sentinel, .pinned], laidTests := true, laidLooks := .later }
def StreetTextsCardSaid : Prop := Claim7.holds Tryz.pinned (.plain (OpenSpec.ofChange streetTextsSpec)) streetTextsCard

/-- THE SECOND FORM's CARD OF 'fiacrelaw03.StreetTexts'. -/
def streetTextsUptoCard : Claim7 := { stood := { row := streetTextsUptoRow, standIns := [], harness := (true, "924d38ba0b295c8bc5c916a9915fde08031721c56643d001d8ea9076403a716d"), looks := true }, kinds := [], alts := [], laidByText := true, laidKinds := [.data, .data, .data, .data, .sentinel, .sentinel, .pinned], laidTests := true, laidLooks := .later }
def StreetTextsUptoCardSaid : Prop := Claim7.holds Tryz.pinned (.plain (OpenSpec.upto streetTextsSpec)) streetTextsUptoCard
end Rows
end Go.Proofs.YtfpamehamllndaaGreatDoor
