/-
  DERIVED. GIVEN WITH THE SEED: THE CARDS: each row of YtdgbfbgnbgfmjaaGreatDoorRows.lean that lists a variable, with what it lists TIED to the program's text (the seventh form; the later family's looks); each row that meets fmt, with fmt's text TOLD by the authors' own Lean function (tested against real Go, not proved from fmt's source: count such statements apart). THE CARD IS WHAT COUNTS. Prove the row's statement (the work); the ties are given (YtdgbfbgnbgfmjaaGreatDoorTie.lean); close each card by the builder's one call (the guide's Derived/Test/ToyasCard.lean, 'card_holds'). Laid BY PROGRAM, IN A SANDBOX (cutbox-door.mjs). By AI agents, Wed Nov 11 2026. No macro, syntax, notation, axiom, sorry.
-/
import Derived.Test.YtdgbfbgnbgfmjaaGreatDoorRows
import GoSem.ClaimSeven
namespace Go.Proofs.YtdgbfbgnbgfmjaaGreatDoor
namespace Rows

/-- THE TIED CARD OF 'fiacrelaw08.AccountSplits'. -/
def accountSplitsCard : Claim7 := { stood := { row := accountSplitsRow, standIns := [], harness := (true, "db45a763b5ee4a1479233d84fbf321fa7f6b0dd63e91e7b5855862d351006b9c"), looks := true }, kinds := [], alts := [], laidByText := true, laidKinds := [.data, .data, .data, .data, .handle, .sentinel, .sentinel, .pinned], laidTests := true, laidLooks := .later }
def AccountSplitsCardSaid : Prop := Claim7.holds Tryz.pinned (.plain (OpenSpec.ofChange accountSplitsSpec)) accountSplitsCard

/-- THE TIED CARD OF 'fiacrelaw08.AccountTexts'. -/
def accountTextsCard : Claim7 := { stood := { row := accountTextsRow, standIns := [], harness := (true, "db45a763b5ee4a1479233d84fbf321fa7f6b0dd63e91e7b5855862d351006b9c"), looks := true }, kinds := [], alts := [], laidByText := true, laidKinds := [.data, .data, .data, .data, .handle, .sentinel, .sentinel, .pinned], laidTests := true, laidLooks := .later }
def AccountTextsCardSaid : Prop := Claim7.holds Tryz.pinned (.plain (OpenSpec.ofChange accountTextsSpec)) accountTextsCard

/-- THE TIED CARD OF 'fiacrelaw08.AccountChecks'. -/
def accountChecksCard : Claim7 := { stood := { row := accountChecksRow, standIns := [], harness := (true, "db45a763b5ee4a1479233d84fbf321fa7f6b0dd63e91e7b5855862d351006b9c"), looks := true }, kinds := [], alts := [], laidByText := true, laidKinds := [.data, .data, .data, .data, .handle, .sentinel, .sentinel, .pinned], laidTests := true, laidLooks := .later }
def AccountChecksCardSaid : Prop := Claim7.holds Tryz.pinned (.plain (OpenSpec.ofChange accountChecksSpec)) accountChecksCard

/-- THE TIED CARD OF 'fiacrelaw08.AccountFares'. -/
def accountFaresCard : Claim7 := { stood := { row := accountFaresRow, standIns := [], harness := (true, "db45a763b5ee4a1479233d84fbf321fa7f6b0dd63e91e7b5855862d351006b9c"), looks := true }, kinds := [], alts := [], laidByText := true, laidKinds := [.data, .data, .data, .data, .handle, .sentinel, .sentinel, .pinned], laidTests := true, laidLooks := .later }
def AccountFaresCardSaid : Prop := Claim7.holds Tryz.pinned (.plain (OpenSpec.ofChange accountFaresSpec)) accountFaresCard

/-- THE TIED CARD OF 'fiacrelaw08.AccountBalances'. -/
def accountBalancesCard : Claim7 := { stood := { row := accountBalancesRow, standIns := [], harness := (true, "db45a763b5ee4a1479233d84fbf321fa7f6b0dd63e91e7b5855862d351006b9c"), looks := true }, kinds := [], alts := [], laidByText := true, laidKinds := [.data, .data, .data, .data, .handle, .sentinel, .sentinel, .pinned], laidTests := true, laidLooks := .later }
def AccountBalancesCardSaid : Prop := Claim7.holds Tryz.pinned (.plain (OpenSpec.ofChange accountBalancesSpec)) accountBalancesCard

/-- THE TIED CARD OF 'fiacrelaw08.AccountStatements'. -/
def accountStatementsCard : Claim7 := { stood := { row := accountStatementsRow, standIns := [], harness := (true, "db45a763b5ee4a1479233d84fbf321fa7f6b0dd63e91e7b5855862d351006b9c"), looks := true }, kinds := [], alts := [], laidByText := true, laidKinds := [.data, .data, .data, .data, .handle, .sentinel, .sentinel, .pinned], laidTests := true, laidLooks := .later }
def AccountStatementsCardSaid : Prop := Claim7.holds Tryz.pinned (.plain (OpenSpec.ofChange accountStatementsSpec)) accountStatementsCard

/-- THE TIED CARD OF 'fiacrelaw08.AccountDecides'. -/
def accountDecidesCard : Claim7 := { stood := { row := accountDecidesRow, standIns := [], harness := (true, "db45a763b5ee4a1479233d84fbf321fa7f6b0dd63e91e7b5855862d351006b9c"), looks := true }, kinds := [], alts := [], laidByText := true, laidKinds := [.data, .data, .data, .data, .handle, .sentinel, .sentinel, .pinned], laidTests := true, laidLooks := .later }
def AccountDecidesCardSaid : Prop := Claim7.holds Tryz.pinned (.plain (OpenSpec.ofChange accountDecidesSpec)) accountDecidesCard

/-- THE TIED CARD OF 'fiacrelaw08.AccountOpen'. -/
def accountOpenCard : Claim7 := { stood := { row := accountOpenRow, standIns := [], harness := (true, "db45a763b5ee4a1479233d84fbf321fa7f6b0dd63e91e7b5855862d351006b9c"), looks := true }, kinds := [], alts := [], laidByText := true, laidKinds := [.data, .data, .data, .data, .handle, .sentinel, .sentinel, .pinned], laidTests := true, laidLooks := .later }
def AccountOpenCardSaid : Prop := Claim7.holds Tryz.pinned (.plain (OpenSpec.ofChange accountOpenSpec)) accountOpenCard

/-- THE TIED CARD OF 'fiacrelaw08.AccountNets'. -/
def accountNetsCard : Claim7 := { stood := { row := accountNetsRow, standIns := [], harness := (true, "db45a763b5ee4a1479233d84fbf321fa7f6b0dd63e91e7b5855862d351006b9c"), looks := true }, kinds := [], alts := [], laidByText := true, laidKinds := [.data, .data, .data, .data, .handle, .sentinel, .sentinel, .pinned], laidTests := true, laidLooks := .later }
def AccountNetsCardSaid : Prop := Claim7.holds Tryz.pinned (.plain (OpenSpec.ofChange accountNetsSpec)) accountNetsCard

/-- THE TIED CARD OF 'fiacrelaw08.AccountPosts'. -/
def accountPostsCard : Claim7 := { stood := { row := accountPostsRow, standIns := [], harness := (true, "db45a763b5ee4a1479233d84fbf321fa7f6b0dd63e91e7b5855862d351006b9c"), looks := true }, kinds := [], alts := [], laidByText := true, laidKinds := [.data, .data, .data, .data, .handle, .sentinel, .sentinel, .pinned], laidTests := true, laidLooks := .later }
def AccountPostsCardSaid : Prop := Claim7.holds Tryz.pinned (.plain (OpenSpec.ofChange accountPostsSpec)) accountPostsCard

/-- THE TIED CARD OF 'fiacrelaw08.AccountClosing'. -/
def accountClosingCard : Claim7 := { stood := { row := accountClosingRow, standIns := [], harness := (true, "db45a763b5ee4a1479233d84fbf321fa7f6b0dd63e91e7b5855862d351006b9c"), looks := true }, kinds := [], alts := [], laidByText := true, laidKinds := [.data, .data, .data, .data, .handle, .sentinel, .sentinel, .pinned], laidTests := true, laidLooks := .later }
def AccountClosingCardSaid : Prop := Claim7.holds Tryz.pinned (.plain (OpenSpec.ofChange accountClosingSpec)) accountClosingCard

/-- THE TIED CARD OF 'fiacrelaw08.AccountCloses'. -/
def accountClosesCard : Claim7 := { stood := { row := accountClosesRow, standIns := [], harness := (true, "db45a763b5ee4a1479233d84fbf321fa7f6b0dd63e91e7b5855862d351006b9c"), looks := true }, kinds := [], alts := [], laidByText := true, laidKinds := [.data, .data, .data, .data, .handle, .sentinel, .sentinel, .pinned], laidTests := true, laidLooks := .later }
def AccountClosesCardSaid : Prop := Claim7.holds Tryz.pinned (.plain (OpenSpec.ofChange accountClosesSpec)) accountClosesCard

/-- THE TIED CARD OF 'fiacrelaw08.AccountBalanced'. -/
def accountBalancedCard : Claim7 := { stood := { row := accountBalancedRow, standIns := [], harness := (true, "db45a763b5ee4a1479233d84fbf321fa7f6b0dd63e91e7b5855862d351006b9c"), looks := true }, kinds := [], alts := [], laidByText := true, laidKinds := [.data, .data, .data, .data, .handle, .sentinel, .sentinel, .pinned], laidTests := true, laidLooks := .later }
def AccountBalancedCardSaid : Prop := Claim7.holds Tryz.pinned (.plain (OpenSpec.ofChange accountBalancedSpec)) accountBalancedCard

/-- THE SECOND FORM's CARD OF 'fiacrelaw08.AccountSplits'. -/
def accountSplitsUptoCard : Claim7 := { stood := { row := accountSplitsUptoRow, standIns := [], harness := (true, "db45a763b5ee4a1479233d84fbf321fa7f6b0dd63e91e7b5855862d351006b9c"), looks := true }, kinds := [], alts := [], laidByText := true, laidKinds := [.data, .data, .data, .data, .handle, .sentinel, .sentinel, .pinned], laidTests := true, laidLooks := .later }
def AccountSplitsUptoCardSaid : Prop := Claim7.holds Tryz.pinned (.plain (OpenSpec.upto accountSplitsSpec)) accountSplitsUptoCard

/-- THE SECOND FORM's CARD OF 'fiacrelaw08.AccountTexts'. -/
def accountTextsUptoCard : Claim7 := { stood := { row := accountTextsUptoRow, standIns := [], harness := (true, "db45a763b5ee4a1479233d84fbf321fa7f6b0dd63e91e7b5855862d351006b9c"), looks := true }, kinds := [], alts := [], laidByText := true, laidKinds := [.data, .data, .data, .data, .handle, .sentinel, .sentinel, .pinned], laidTests := true, laidLooks := .later }
def AccountTextsUptoCardSaid : Prop := Claim7.holds Tryz.pinned (.plain (OpenSpec.upto accountTextsSpec)) accountTextsUptoCard

/-- THE SECOND FORM's CARD OF 'fiacrelaw08.AccountChecks'. -/
def accountChecksUptoCard : Claim7 := { stood := { row := accountChecksUptoRow, standIns := [], harness := (true, "db45a763b5ee4a1479233d84fbf321fa7f6b0dd63e91e7b5855862d351006b9c"), looks := true }, kinds := [], alts := [], laidByText := true, laidKinds := [.data, .data, .data, .data, .handle, .sentinel, .sentinel, .pinned], laidTests := true, laidLooks := .later }
def AccountChecksUptoCardSaid : Prop := Claim7.holds Tryz.pinned (.plain (OpenSpec.upto accountChecksSpec)) accountChecksUptoCard

/-- THE SECOND FORM's CARD OF 'fiacrelaw08.AccountFares'. -/
def accountFaresUptoCard : Claim7 := { stood := { row := accountFaresUptoRow, standIns := [], harness := (true, "db45a763b5ee4a1479233d84fbf321fa7f6b0dd63e91e7b5855862d351006b9c"), looks := true }, kinds := [], alts := [], laidByText := true, laidKinds := [.data, .data, .data, .data, .handle, .sentinel, .sentinel, .pinned], laidTests := true, laidLooks := .later }
def AccountFaresUptoCardSaid : Prop := Claim7.holds Tryz.pinned (.plain (OpenSpec.upto accountFaresSpec)) accountFaresUptoCard

/-- THE SECOND FORM's CARD OF 'fiacrelaw08.AccountBalances'. -/
def accountBalancesUptoCard : Claim7 := { stood := { row := accountBalancesUptoRow, standIns := [], harness := (true, "db45a763b5ee4a1479233d84fbf321fa7f6b0dd63e91e7b5855862d351006b9c"), looks := true }, kinds := [], alts := [], laidByText := true, laidKinds := [.data, .data, .data, .data, .handle, .sentinel, .sentinel, .pinned], laidTests := true, laidLooks := .later }
def AccountBalancesUptoCardSaid : Prop := Claim7.holds Tryz.pinned (.plain (OpenSpec.upto accountBalancesSpec)) accountBalancesUptoCard

/-- THE SECOND FORM's CARD OF 'fiacrelaw08.AccountStatements'. -/
def accountStatementsUptoCard : Claim7 := { stood := { row := accountStatementsUptoRow, standIns := [], harness := (true, "db45a763b5ee4a1479233d84fbf321fa7f6b0dd63e91e7b5855862d351006b9c"), looks := true }, kinds := [], alts := [], laidByText := true, laidKinds := [.data, .data, .data, .data, .handle, .sentinel, .sentinel, .pinned], laidTests := true, laidLooks := .later }
def AccountStatementsUptoCardSaid : Prop := Claim7.holds Tryz.pinned (.plain (OpenSpec.upto accountStatementsSpec)) accountStatementsUptoCard

/-- THE SECOND FORM's CARD OF 'fiacrelaw08.AccountDecides'. -/
def accountDecidesUptoCard : Claim7 := { stood := { row := accountDecidesUptoRow, standIns := [], harness := (true, "db45a763b5ee4a1479233d84fbf321fa7f6b0dd63e91e7b5855862d351006b9c"), looks := true }, kinds := [], alts := [], laidByText := true, laidKinds := [.data, .data, .data, .data, .handle, .sentinel, .sentinel, .pinned], laidTests := true, laidLooks := .later }
def AccountDecidesUptoCardSaid : Prop := Claim7.holds Tryz.pinned (.plain (OpenSpec.upto accountDecidesSpec)) accountDecidesUptoCard

/-- THE SECOND FORM's CARD OF 'fiacrelaw08.AccountOpen'. -/
def accountOpenUptoCard : Claim7 := { stood := { row := accountOpenUptoRow, standIns := [], harness := (true, "db45a763b5ee4a1479233d84fbf321fa7f6b0dd63e91e7b5855862d351006b9c"), looks := true }, kinds := [], alts := [], laidByText := true, laidKinds := [.data, .data, .data, .data, .handle, .sentinel, .sentinel, .pinned], laidTests := true, laidLooks := .later }
def AccountOpenUptoCardSaid : Prop := Claim7.holds Tryz.pinned (.plain (OpenSpec.upto accountOpenSpec)) accountOpenUptoCard

/-- THE SECOND FORM's CARD OF 'fiacrelaw08.AccountNets'. -/
def accountNetsUptoCard : Claim7 := { stood := { row := accountNetsUptoRow, standIns := [], harness := (true, "db45a763b5ee4a1479233d84fbf321fa7f6b0dd63e91e7b5855862d351006b9c"), looks := true }, kinds := [], alts := [], laidByText := true, laidKinds := [.data, .data, .data, .data, .handle, .sentinel, .sentinel, .pinned], laidTests := true, laidLooks := .later }
def AccountNetsUptoCardSaid : Prop := Claim7.holds Tryz.pinned (.plain (OpenSpec.upto accountNetsSpec)) accountNetsUptoCard

/-- THE SECOND FORM's CARD OF 'fiacrelaw08.AccountPosts'. -/
def accountPostsUptoCard : Claim7 := { stood := { row := accountPostsUptoRow, standIns := [], harness := (true, "db45a763b5ee4a1479233d84fbf321fa7f6b0dd63e91e7b5855862d351006b9c"), looks := true }, kinds := [], alts := [], laidByText := true, laidKinds := [.data, .data, .data, .data, .handle, .sentinel, .sentinel, .pinned], laidTests := true, laidLooks := .later }
def AccountPostsUptoCardSaid : Prop := Claim7.holds Tryz.pinned (.plain (OpenSpec.upto accountPostsSpec)) accountPostsUptoCard

/-- THE SECOND FORM's CARD OF 'fiacrelaw08.AccountClosing'. -/
def accountClosingUptoCard : Claim7 := { stood := { row := accountClosingUptoRow, standIns := [], harness := (true, "db45a763b5ee4a1479233d84fbf321fa7f6b0dd63e91e7b5855862d351006b9c"), looks := true }, kinds := [], alts := [], laidByText := true, laidKinds := [.data, .data, .data, .data, .handle, .sentinel, .sentinel, .pinned], laidTests := true, laidLooks := .later }
def AccountClosingUptoCardSaid : Prop := Claim7.holds Tryz.pinned (.plain (OpenSpec.upto accountClosingSpec)) accountClosingUptoCard

/-- THE SECOND FORM's CARD OF 'fiacrelaw08.AccountCloses'. -/
def accountClosesUptoCard : Claim7 := { stood := { row := accountClosesUptoRow, standIns := [], harness := (true, "db45a763b5ee4a1479233d84fbf321fa7f6b0dd63e91e7b5855862d351006b9c"), looks := true }, kinds := [], alts := [], laidByText := true, laidKinds := [.data, .data, .data, .data, .handle, .sentinel, .sentinel, .pinned], laidTests := true, laidLooks := .later }
def AccountClosesUptoCardSaid : Prop := Claim7.holds Tryz.pinned (.plain (OpenSpec.upto accountClosesSpec)) accountClosesUptoCard

/-- THE SECOND FORM's CARD OF 'fiacrelaw08.AccountBalanced'. -/
def accountBalancedUptoCard : Claim7 := { stood := { row := accountBalancedUptoRow, standIns := [], harness := (true, "db45a763b5ee4a1479233d84fbf321fa7f6b0dd63e91e7b5855862d351006b9c"), looks := true }, kinds := [], alts := [], laidByText := true, laidKinds := [.data, .data, .data, .data, .handle, .sentinel, .sentinel, .pinned], laidTests := true, laidLooks := .later }
def AccountBalancedUptoCardSaid : Prop := Claim7.holds Tryz.pinned (.plain (OpenSpec.upto accountBalancedSpec)) accountBalancedUptoCard
end Rows
end Go.Proofs.YtdgbfbgnbgfmjaaGreatDoor
