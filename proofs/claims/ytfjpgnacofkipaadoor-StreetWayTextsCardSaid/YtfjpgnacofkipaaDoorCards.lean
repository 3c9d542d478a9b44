/-
  DERIVED. GIVEN WITH THE SEED: THE CARDS: each row of YtfjpgnacofkipaaDoorRows.lean that lists a variable, with what it lists TIED to the program's text (the seventh form; the later family's looks); each row that meets fmt, with fmt's text TOLD by the authors' own Lean function (tested against real Go, not proved from fmt's source: count such statements apart). THE CARD IS WHAT COUNTS. Prove the row's statement (the work); the ties are given (YtfjpgnacofkipaaDoorTie.lean); close each card by the builder's one call (the guide's Derived/Test/ToyasCard.lean, 'card_holds'). Laid BY PROGRAM, IN A SANDBOX (cutbox-door.mjs). By AI agents, Wed Nov 11 2026. No macro, syntax, notation, axiom, sorry.
-/
import Derived.Test.YtfjpgnacofkipaaDoorRows
import GoSem.ClaimSeven
namespace Go.Proofs.YtfjpgnacofkipaaDoor
namespace Rows

/-- THE TIED CARD OF 'fiacrelaw03.StreetWayTexts'. -/
def streetWayTextsCard : Claim7 := { stood := { row := streetWayTextsRow, standIns := [], harness := (true, "ed05fdfe0934b1ccaf2b3da4d62edaaf0dd1091d0a6a7e17b73fead6990a53db"), looks := false }, kinds := [], alts := [], laidByText := true, laidKinds := [.data, .pinned], laidTests := true, laidLooks := .later }
def StreetWayTextsCardSaid : Prop := Claim7.holds Tryd.pinned (.plain (OpenSpec.ofChange streetWayTextsSpec)) streetWayTextsCard

/-- THE SECOND FORM's CARD OF 'fiacrelaw03.StreetWayTexts'. -/
def streetWayTextsUptoCard : Claim7 := { stood := { row := streetWayTextsUptoRow, standIns := [], harness := (true, "ed05fdfe0934b1ccaf2b3da4d62edaaf0dd1091d0a6a7e17b73fead6990a53db"), looks := false }, kinds := [], alts := [], laidByText := true, laidKinds := [.data, .pinned], laidTests := true, laidLooks := .later }
def StreetWayTextsUptoCardSaid : Prop := Claim7.holds Tryd.pinned (.plain (OpenSpec.upto streetWayTextsSpec)) streetWayTextsUptoCard
end Rows
end Go.Proofs.YtfjpgnacofkipaaDoor
