/-
  DERIVED. GIVEN WITH THE SEED: THE CARDS: each row of YtpjhpmpbdfeajaaGreatDoorRows.lean that lists a variable, with what it lists TIED to the program's text (the seventh form; the later family's looks); each row that meets fmt, with fmt's text TOLD by the authors' own Lean function (tested against real Go, not proved from fmt's source: count such statements apart). THE CARD IS WHAT COUNTS. Prove the row's statement (the work); the ties are given (YtpjhpmpbdfeajaaGreatDoorTie.lean); close each card by the builder's one call (the guide's Derived/Test/ToyasCard.lean, 'card_holds'). Laid BY PROGRAM, IN A SANDBOX (cutbox-door.mjs). By AI agents, Wed Nov 11 2026. No macro, syntax, notation, axiom, sorry.
-/
import Derived.Test.YtpjhpmpbdfeajaaGreatDoorRows
import GoSem.ClaimSeven
namespace Go.Proofs.YtpjhpmpbdfeajaaGreatDoor
namespace Rows

/-- THE TIED CARD OF 'fiacrelaw08.AccountSplits'. -/
def accountSplitsCard : Claim7 := { stood := { row := accountSplitsRow, standIns := [], harness := (true, "7109d9e69311225852aeaddb1a59908624ef70e03dee4ea9634dd56babd5ff92"), looks := true }, kinds := [], alts := [], laidByText := true, laidKinds := [.data, .data, .data, .data, .handle, .sentinel, .sentinel, .pinned], laidTests := true, laidLooks := .later }
def AccountSplitsCardSaid : Prop := Claim7.holds Tryz.pinned (.plain (OpenSpec.ofChange accountSplitsSpec)) accountSplitsCard

/-- THE TIED CARD OF 'fiacrelaw08.AccountTexts'. -/
def accountTextsCard : Claim7 := { stood := { row := accountTextsRow, standIns := [], harness := (true, "7109d9e69311225852aeaddb1a59908624ef70e03dee4ea9634dd56babd5ff92"), looks := true }, kinds := [], alts := [], laidByText := true, laidKinds := [.data, .data, .data, .data, .handle, .sentinel, .sentinel, .pinned], laidTests := true, laidLooks := .later }
def AccountTextsCardSaid : Prop := Claim7.holds Tryz.pinned (.plain (OpenSpec.ofChange accountTextsSpec)) accountTextsCard

/-- THE TIED CARD OF 'fiacrelaw08.AccountNets'. -/
def accountNetsCard : Claim7 := { stood := { row := accountNetsRow, standIns := [], harness := (true, "7109d9e69311225852aeaddb1a59908624ef70e03dee4ea9634dd56babd5ff92"), looks := true }, kinds := [], alts := [], laidByText := true, laidKinds := [.data, .data, .data, .data, .handle, .sentinel, .sentinel, .pinned], laidTests := true, laidLooks := .later }
def AccountNetsCardSaid : Prop := Claim7.holds Tryz.pinned (.plain (OpenSpec.ofChange accountNetsSpec)) accountNetsCard

/-- THE SECOND FORM's CARD OF 'fiacrelaw08.AccountSplits'. -/
def accountSplitsUptoCard : Claim7 := { stood := { row := accountSplitsUptoRow, standIns := [], harness := (true, "7109d9e69311225852aeaddb1a59908624ef70e03dee4ea9634dd56babd5ff92"), looks := true }, kinds := [], alts := [], laidByText := true, laidKinds := [.data, .data, .data, .data, .handle, .sentinel, .sentinel, .pinned], laidTests := true, laidLooks := .later }
def AccountSplitsUptoCardSaid : Prop := Claim7.holds Tryz.pinned (.plain (OpenSpec.upto accountSplitsSpec)) accountSplitsUptoCard

/-- THE SECOND FORM's CARD OF 'fiacrelaw08.AccountTexts'. -/
def accountTextsUptoCard : Claim7 := { stood := { row := accountTextsUptoRow, standIns := [], harness := (true, "7109d9e69311225852aeaddb1a59908624ef70e03dee4ea9634dd56babd5ff92"), looks := true }, kinds := [], alts := [], laidByText := true, laidKinds := [.data, .data, .data, .data, .handle, .sentinel, .sentinel, .pinned], laidTests := true, laidLooks := .later }
def AccountTextsUptoCardSaid : Prop := Claim7.holds Tryz.pinned (.plain (OpenSpec.upto accountTextsSpec)) accountTextsUptoCard

/-- THE SECOND FORM's CARD OF 'fiacrelaw08.AccountNets'. -/
def accountNetsUptoCard : Claim7 := { stood := { row := accountNetsUptoRow, standIns := [], harness := (true, "7109d9e69311225852aeaddb1a59908624ef70e03dee4ea9634dd56babd5ff92"), looks := true }, kinds := [], alts := [], laidByText := true, laidKinds := [.data, .data, .data, .data, .handle, .sentinel, .sentinel, .pinned], laidTests := true, laidLooks := .later }
def AccountNetsUptoCardSaid : Prop := Claim7.holds Tryz.pinned (.plain (OpenSpec.upto accountNetsSpec)) accountNetsUptoCard
end Rows
end Go.Proofs.YtpjhpmpbdfeajaaGreatDoor
