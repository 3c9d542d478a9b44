/-
  No cell of these rows narrows 'for every input' (looked for: loops, veiled, ifaces, maps, wideKeys, modest, calm, conditions, laid).
  DERIVED. THE GIVEN ROWS OF THIS SEAT. 12 by the template 'for every input the law returns true; each argument reads behind the call as it read before'; 0 by the template 'total and deterministic' (their statements: YtceimmohnniebaaTotals.lean).
  GIVEN WITH THE SEED: the statements are not yours to turn. If you find one false, say at which input.
  Laid BY PROGRAM, IN A SANDBOX (cutbox-rows.mjs): the forced cells as the released guide's own fill.sh prints them over the translation 67c6bd9066f4b946… (all of the seat's roots in one cut). By AI agents, Wed Nov 11 2026. No macro, syntax, notation, axiom, sorry.
-/
import Derived.Test.YtceimmohnniebaaChecked
import GoSem.Claim
import GoSem.ClaimJoined
import GoSem.ClaimMapViews
import Derived.JoinedTies
import Derived.KernelRfl
namespace Go.Proofs.Ytceimmohnniebaa
/- THE CELL 'sum', in the pinned program and in every row, IS THE sha256 OF THE DUMP (.gsa) THAT YtceimmohnniebaaProg.lean LOADS. Nothing in Lean hashes anything: it is a label: what it is worth is what the hold of that sum in a sandbox is worth. -/
noncomputable def Try.pinned : Pinned := { name := "ytceimmohnniebaa", sum := "67c6bd9066f4b946e0af159fccc26ce8f1af44a54c17e4238612d24ac11697b9", checked := Try.checked }
namespace Rows
def none {H : Type} : Left H := { results := [], args := [] }

/-- 'fiacrelaw06.SharePlans': WHATEVER THE INPUT: true; the input reads as it did. -/
def sharePlansSpec : ChangeSpec := { name := "sharePlans", fn := fun _ => fun
  | [d1, d2] => { results := [.lit (.bool true)], args := [d1, d2] }
  | _ => none }
def sharePlansRow : OpenClaim := { program := "ytceimmohnniebaa", sum := "67c6bd9066f4b946e0af159fccc26ce8f1af44a54c17e4238612d24ac11697b9", func := "fiacre/fiacrelaw06.SharePlans", spec := "sharePlans", inPlace := ["internal/abi.NoEscape", "internal/bytealg.MakeNoZero"], unfollowed := true, recurses := true, apart := false }
def SharePlansSaid : Prop := sharePlansRow.holds Try.pinned (OpenSpec.ofChange sharePlansSpec)

/-- ITS FALSE NEIGHBOUR: 'it returns false'. Refute it at one input. -/
def sharePlansWrong : ChangeSpec := { name := "sharePlans", fn := fun _ => fun
  | [d1, d2] => { results := [.lit (.bool false)], args := [d1, d2] }
  | _ => none }
def SharePlansWrongFalsely : Prop := sharePlansRow.holds Try.pinned (OpenSpec.ofChange sharePlansWrong)

/-- 'fiacrelaw06.ShareDelays': WHATEVER THE INPUT: true; the input reads as it did. -/
def shareDelaysSpec : ChangeSpec := { name := "shareDelays", fn := fun _ => fun
  | [d1, d2, d3] => { results := [.lit (.bool true)], args := [d1, d2, d3] }
  | _ => none }
def shareDelaysRow : OpenClaim := { program := "ytceimmohnniebaa", sum := "67c6bd9066f4b946e0af159fccc26ce8f1af44a54c17e4238612d24ac11697b9", func := "fiacre/fiacrelaw06.ShareDelays", spec := "shareDelays", inPlace := ["internal/abi.NoEscape", "internal/bytealg.MakeNoZero"], unfollowed := true, recurses := true, apart := false }
def ShareDelaysSaid : Prop := shareDelaysRow.holds Try.pinned (OpenSpec.ofChange shareDelaysSpec)

/-- ITS FALSE NEIGHBOUR: 'it returns false'. Refute it at one input. -/
def shareDelaysWrong : ChangeSpec := { name := "shareDelays", fn := fun _ => fun
  | [d1, d2, d3] => { results := [.lit (.bool false)], args := [d1, d2, d3] }
  | _ => none }
def ShareDelaysWrongFalsely : Prop := shareDelaysRow.holds Try.pinned (OpenSpec.ofChange shareDelaysWrong)

/-- 'fiacrelaw06.ShareInTime': WHATEVER THE INPUT: true; the input reads as it did. -/
def shareInTimeSpec : ChangeSpec := { name := "shareInTime", fn := fun _ => fun
  | [d1, d2, d3] => { results := [.lit (.bool true)], args := [d1, d2, d3] }
  | _ => none }
def shareInTimeRow : OpenClaim := { program := "ytceimmohnniebaa", sum := "67c6bd9066f4b946e0af159fccc26ce8f1af44a54c17e4238612d24ac11697b9", func := "fiacre/fiacrelaw06.ShareInTime", spec := "shareInTime", inPlace := ["internal/abi.NoEscape", "internal/bytealg.MakeNoZero"], unfollowed := true, recurses := true, apart := false }
def ShareInTimeSaid : Prop := shareInTimeRow.holds Try.pinned (OpenSpec.ofChange shareInTimeSpec)

/-- ITS FALSE NEIGHBOUR: 'it returns false'. Refute it at one input. -/
def shareInTimeWrong : ChangeSpec := { name := "shareInTime", fn := fun _ => fun
  | [d1, d2, d3] => { results := [.lit (.bool false)], args := [d1, d2, d3] }
  | _ => none }
def ShareInTimeWrongFalsely : Prop := shareInTimeRow.holds Try.pinned (OpenSpec.ofChange shareInTimeWrong)

/-- 'fiacrelaw06.ShareRides': WHATEVER THE INPUT: true; the input reads as it did. -/
def shareRidesSpec : ChangeSpec := { name := "shareRides", fn := fun _ => fun
  | [d1, d2, d3] => { results := [.lit (.bool true)], args := [d1, d2, d3] }
  | _ => none }
def shareRidesRow : OpenClaim := { program := "ytceimmohnniebaa", sum := "67c6bd9066f4b946e0af159fccc26ce8f1af44a54c17e4238612d24ac11697b9", func := "fiacre/fiacrelaw06.ShareRides", spec := "shareRides", inPlace := ["internal/abi.NoEscape", "internal/bytealg.MakeNoZero"], unfollowed := true, recurses := true, apart := false }
def ShareRidesSaid : Prop := shareRidesRow.holds Try.pinned (OpenSpec.ofChange shareRidesSpec)

/-- ITS FALSE NEIGHBOUR: 'it returns false'. Refute it at one input. -/
def shareRidesWrong : ChangeSpec := { name := "shareRides", fn := fun _ => fun
  | [d1, d2, d3] => { results := [.lit (.bool false)], args := [d1, d2, d3] }
  | _ => none }
def ShareRidesWrongFalsely : Prop := shareRidesRow.holds Try.pinned (OpenSpec.ofChange shareRidesWrong)

/-- 'fiacrelaw06.ShareOffers': WHATEVER THE INPUT: true; the input reads as it did. -/
def shareOffersSpec : ChangeSpec := { name := "shareOffers", fn := fun _ => fun
  | [d1, d2, d3] => { results := [.lit (.bool true)], args := [d1, d2, d3] }
  | _ => none }
def shareOffersRow : OpenClaim := { program := "ytceimmohnniebaa", sum := "67c6bd9066f4b946e0af159fccc26ce8f1af44a54c17e4238612d24ac11697b9", func := "fiacre/fiacrelaw06.ShareOffers", spec := "shareOffers", inPlace := ["internal/abi.NoEscape", "internal/bytealg.MakeNoZero"], unfollowed := true, recurses := true, apart := false }
def ShareOffersSaid : Prop := shareOffersRow.holds Try.pinned (OpenSpec.ofChange shareOffersSpec)

/-- ITS FALSE NEIGHBOUR: 'it returns false'. Refute it at one input. -/
def shareOffersWrong : ChangeSpec := { name := "shareOffers", fn := fun _ => fun
  | [d1, d2, d3] => { results := [.lit (.bool false)], args := [d1, d2, d3] }
  | _ => none }
def ShareOffersWrongFalsely : Prop := shareOffersRow.holds Try.pinned (OpenSpec.ofChange shareOffersWrong)

/-- 'fiacrelaw06.ShareShifted': WHATEVER THE INPUT: true; the input reads as it did. -/
def shareShiftedSpec : ChangeSpec := { name := "shareShifted", fn := fun _ => fun
  | [d1, d2, d3] => { results := [.lit (.bool true)], args := [d1, d2, d3] }
  | _ => none }
def shareShiftedRow : OpenClaim := { program := "ytceimmohnniebaa", sum := "67c6bd9066f4b946e0af159fccc26ce8f1af44a54c17e4238612d24ac11697b9", func := "fiacre/fiacrelaw06.ShareShifted", spec := "shareShifted", inPlace := ["internal/abi.NoEscape", "internal/bytealg.MakeNoZero"], unfollowed := true, recurses := true, apart := false }
def ShareShiftedSaid : Prop := shareShiftedRow.holds Try.pinned (OpenSpec.ofChange shareShiftedSpec)

/-- ITS FALSE NEIGHBOUR: 'it returns false'. Refute it at one input. -/
def shareShiftedWrong : ChangeSpec := { name := "shareShifted", fn := fun _ => fun
  | [d1, d2, d3] => { results := [.lit (.bool false)], args := [d1, d2, d3] }
  | _ => none }
def ShareShiftedWrongFalsely : Prop := shareShiftedRow.holds Try.pinned (OpenSpec.ofChange shareShiftedWrong)

/-- 'fiacrelaw06.ShareCars': WHATEVER THE INPUT: true; the input reads as it did. -/
def shareCarsSpec : ChangeSpec := { name := "shareCars", fn := fun _ => fun
  | [d1, d2, d3] => { results := [.lit (.bool true)], args := [d1, d2, d3] }
  | _ => none }
def shareCarsRow : OpenClaim := { program := "ytceimmohnniebaa", sum := "67c6bd9066f4b946e0af159fccc26ce8f1af44a54c17e4238612d24ac11697b9", func := "fiacre/fiacrelaw06.ShareCars", spec := "shareCars", inPlace := ["internal/abi.NoEscape", "internal/bytealg.MakeNoZero"], unfollowed := true, recurses := true, apart := false }
def ShareCarsSaid : Prop := shareCarsRow.holds Try.pinned (OpenSpec.ofChange shareCarsSpec)

/-- ITS FALSE NEIGHBOUR: 'it returns false'. Refute it at one input. -/
def shareCarsWrong : ChangeSpec := { name := "shareCars", fn := fun _ => fun
  | [d1, d2, d3] => { results := [.lit (.bool false)], args := [d1, d2, d3] }
  | _ => none }
def ShareCarsWrongFalsely : Prop := shareCarsRow.holds Try.pinned (OpenSpec.ofChange shareCarsWrong)

/-- 'fiacrelaw06.ShareChanges': WHATEVER THE INPUT: true; the input reads as it did. -/
def shareChangesSpec : ChangeSpec := { name := "shareChanges", fn := fun _ => fun
  | [d1, d2, d3] => { results := [.lit (.bool true)], args := [d1, d2, d3] }
  | _ => none }
def shareChangesRow : OpenClaim := { program := "ytceimmohnniebaa", sum := "67c6bd9066f4b946e0af159fccc26ce8f1af44a54c17e4238612d24ac11697b9", func := "fiacre/fiacrelaw06.ShareChanges", spec := "shareChanges", inPlace := ["internal/abi.NoEscape", "internal/bytealg.MakeNoZero"], unfollowed := true, recurses := true, apart := false }
def ShareChangesSaid : Prop := shareChangesRow.holds Try.pinned (OpenSpec.ofChange shareChangesSpec)

/-- ITS FALSE NEIGHBOUR: 'it returns false'. Refute it at one input. -/
def shareChangesWrong : ChangeSpec := { name := "shareChanges", fn := fun _ => fun
  | [d1, d2, d3] => { results := [.lit (.bool false)], args := [d1, d2, d3] }
  | _ => none }
def ShareChangesWrongFalsely : Prop := shareChangesRow.holds Try.pinned (OpenSpec.ofChange shareChangesWrong)

/-- 'fiacrelaw06.ShareNoneCheaper': WHATEVER THE INPUT: true; the input reads as it did. -/
def shareNoneCheaperSpec : ChangeSpec := { name := "shareNoneCheaper", fn := fun _ => fun
  | [d1, d2, d3] => { results := [.lit (.bool true)], args := [d1, d2, d3] }
  | _ => none }
def shareNoneCheaperRow : OpenClaim := { program := "ytceimmohnniebaa", sum := "67c6bd9066f4b946e0af159fccc26ce8f1af44a54c17e4238612d24ac11697b9", func := "fiacre/fiacrelaw06.ShareNoneCheaper", spec := "shareNoneCheaper", inPlace := ["internal/abi.NoEscape", "internal/bytealg.MakeNoZero"], unfollowed := true, recurses := true, apart := false }
def ShareNoneCheaperSaid : Prop := shareNoneCheaperRow.holds Try.pinned (OpenSpec.ofChange shareNoneCheaperSpec)

/-- ITS FALSE NEIGHBOUR: 'it returns false'. Refute it at one input. -/
def shareNoneCheaperWrong : ChangeSpec := { name := "shareNoneCheaper", fn := fun _ => fun
  | [d1, d2, d3] => { results := [.lit (.bool false)], args := [d1, d2, d3] }
  | _ => none }
def ShareNoneCheaperWrongFalsely : Prop := shareNoneCheaperRow.holds Try.pinned (OpenSpec.ofChange shareNoneCheaperWrong)

/-- 'fiacrelaw06.ShareMaps': WHATEVER THE INPUT: true; the input reads as it did. -/
def shareMapsSpec : ChangeSpec := { name := "shareMaps", fn := fun _ => fun
  | [d] => { results := [.lit (.bool true)], args := [d] }
  | _ => none }
def shareMapsRow : OpenClaim := { program := "ytceimmohnniebaa", sum := "67c6bd9066f4b946e0af159fccc26ce8f1af44a54c17e4238612d24ac11697b9", func := "fiacre/fiacrelaw06.ShareMaps", spec := "shareMaps", inPlace := ["internal/abi.NoEscape", "internal/bytealg.MakeNoZero"], unfollowed := true, recurses := true, apart := false }
def ShareMapsSaid : Prop := shareMapsRow.holds Try.pinned (OpenSpec.ofChange shareMapsSpec)

/-- ITS FALSE NEIGHBOUR: 'it returns false'. Refute it at one input. -/
def shareMapsWrong : ChangeSpec := { name := "shareMaps", fn := fun _ => fun
  | [d] => { results := [.lit (.bool false)], args := [d] }
  | _ => none }
def ShareMapsWrongFalsely : Prop := shareMapsRow.holds Try.pinned (OpenSpec.ofChange shareMapsWrong)

/-- 'fiacrelaw06.ShareClosedMaps': WHATEVER THE INPUT: true; the input reads as it did. -/
def shareClosedMapsSpec : ChangeSpec := { name := "shareClosedMaps", fn := fun _ => fun
  | [d] => { results := [.lit (.bool true)], args := [d] }
  | _ => none }
def shareClosedMapsRow : OpenClaim := { program := "ytceimmohnniebaa", sum := "67c6bd9066f4b946e0af159fccc26ce8f1af44a54c17e4238612d24ac11697b9", func := "fiacre/fiacrelaw06.ShareClosedMaps", spec := "shareClosedMaps", inPlace := ["internal/abi.NoEscape", "internal/bytealg.MakeNoZero"], unfollowed := true, recurses := true, apart := false }
def ShareClosedMapsSaid : Prop := shareClosedMapsRow.holds Try.pinned (OpenSpec.ofChange shareClosedMapsSpec)

/-- ITS FALSE NEIGHBOUR: 'it returns false'. Refute it at one input. -/
def shareClosedMapsWrong : ChangeSpec := { name := "shareClosedMaps", fn := fun _ => fun
  | [d] => { results := [.lit (.bool false)], args := [d] }
  | _ => none }
def ShareClosedMapsWrongFalsely : Prop := shareClosedMapsRow.holds Try.pinned (OpenSpec.ofChange shareClosedMapsWrong)

/-- 'fiacrelaw06.ShareFewer': WHATEVER THE INPUT: true; the input reads as it did. -/
def shareFewerSpec : ChangeSpec := { name := "shareFewer", fn := fun _ => fun
  | [d1, d2, d3] => { results := [.lit (.bool true)], args := [d1, d2, d3] }
  | _ => none }
def shareFewerRow : OpenClaim := { program := "ytceimmohnniebaa", sum := "67c6bd9066f4b946e0af159fccc26ce8f1af44a54c17e4238612d24ac11697b9", func := "fiacre/fiacrelaw06.ShareFewer", spec := "shareFewer", inPlace := ["internal/abi.NoEscape", "internal/bytealg.MakeNoZero"], unfollowed := true, recurses := true, apart := false }
def ShareFewerSaid : Prop := shareFewerRow.holds Try.pinned (OpenSpec.ofChange shareFewerSpec)

/-- ITS FALSE NEIGHBOUR: 'it returns false'. Refute it at one input. -/
def shareFewerWrong : ChangeSpec := { name := "shareFewer", fn := fun _ => fun
  | [d1, d2, d3] => { results := [.lit (.bool false)], args := [d1, d2, d3] }
  | _ => none }
def ShareFewerWrongFalsely : Prop := shareFewerRow.holds Try.pinned (OpenSpec.ofChange shareFewerWrong)

/- THE SECOND FORM. 'bulk': how many values and letters a reading holds, each counted each time it is reached (what is shared counts as often as it is met; a slice's spare places count too). A statement '..UptoSaid' is the law's where the arguments, and the package variables that the reading takes, are together of bulk at most 1048576: NARROWER than '..Said'. Prove '..Said' where nothing that the law and all that it calls make is longer than what came in: it says more and counts as full. Else prove '..UptoSaid'. A law counts once. -/
mutual
def uptoBulk {H : Type} : DataW H → Nat
  | .lit (.string bytes) => bytes.length + 1
  | .lit _ => 1
  | .nil => 1
  | .ptr d => uptoBulk d + 1
  | .slice elems spare => uptoBulkAll elems + uptoBulkAll spare + 1
  | .agg parts => uptoBulkAll parts + 1
  | .iface _ d => uptoBulk d + 1
  | .map entries => uptoBulkEntries entries + 1
  | .held _ => 1
def uptoBulkAll {H : Type} : List (DataW H) → Nat
  | [] => 0
  | d :: r => uptoBulk d + uptoBulkAll r
def uptoBulkEntries {H : Type} : List (Lit × DataW H) → Nat
  | [] => 0
  | x :: r => uptoBulkEntry x + uptoBulkEntries r
def uptoBulkEntry {H : Type} : Lit × DataW H → Nat
  | (.string bytes, d) => bytes.length + uptoBulk d + 1
  | (_, d) => uptoBulk d + 1
 end
def uptoSmall : (H : Type) → List (DataW H) → Bool := fun _ ds => decide (uptoBulkAll ds ≤ 1048576)
def OpenSpec.upto (s : _root_.Go.ChangeSpec) : _root_.Go.OpenSpec := { _root_.Go.OpenSpec.ofChange s with cond := some uptoSmall }

/-- 'fiacrelaw06.SharePlans', WHERE WHAT IT READS IS OF BULK AT MOST 1048576: true; the input reads as it did. -/
def sharePlansUptoRow : OpenClaim := { program := "ytceimmohnniebaa", sum := "67c6bd9066f4b946e0af159fccc26ce8f1af44a54c17e4238612d24ac11697b9", func := "fiacre/fiacrelaw06.SharePlans", spec := "sharePlans", inPlace := ["internal/abi.NoEscape", "internal/bytealg.MakeNoZero"], unfollowed := true, recurses := true, apart := false, narrowed := true }
def SharePlansUptoSaid : Prop := sharePlansUptoRow.holds Try.pinned (OpenSpec.upto sharePlansSpec)

/-- 'fiacrelaw06.ShareDelays', WHERE WHAT IT READS IS OF BULK AT MOST 1048576: true; the input reads as it did. -/
def shareDelaysUptoRow : OpenClaim := { program := "ytceimmohnniebaa", sum := "67c6bd9066f4b946e0af159fccc26ce8f1af44a54c17e4238612d24ac11697b9", func := "fiacre/fiacrelaw06.ShareDelays", spec := "shareDelays", inPlace := ["internal/abi.NoEscape", "internal/bytealg.MakeNoZero"], unfollowed := true, recurses := true, apart := false, narrowed := true }
def ShareDelaysUptoSaid : Prop := shareDelaysUptoRow.holds Try.pinned (OpenSpec.upto shareDelaysSpec)

/-- 'fiacrelaw06.ShareInTime', WHERE WHAT IT READS IS OF BULK AT MOST 1048576: true; the input reads as it did. -/
def shareInTimeUptoRow : OpenClaim := { program := "ytceimmohnniebaa", sum := "67c6bd9066f4b946e0af159fccc26ce8f1af44a54c17e4238612d24ac11697b9", func := "fiacre/fiacrelaw06.ShareInTime", spec := "shareInTime", inPlace := ["internal/abi.NoEscape", "internal/bytealg.MakeNoZero"], unfollowed := true, recurses := true, apart := false, narrowed := true }
def ShareInTimeUptoSaid : Prop := shareInTimeUptoRow.holds Try.pinned (OpenSpec.upto shareInTimeSpec)

/-- 'fiacrelaw06.ShareRides', WHERE WHAT IT READS IS OF BULK AT MOST 1048576: true; the input reads as it did. -/
def shareRidesUptoRow : OpenClaim := { program := "ytceimmohnniebaa", sum := "67c6bd9066f4b946e0af159fccc26ce8f1af44a54c17e4238612d24ac11697b9", func := "fiacre/fiacrelaw06.ShareRides", spec := "shareRides", inPlace := ["internal/abi.NoEscape", "internal/bytealg.MakeNoZero"], unfollowed := true, recurses := true, apart := false, narrowed := true }
def ShareRidesUptoSaid : Prop := shareRidesUptoRow.holds Try.pinned (OpenSpec.upto shareRidesSpec)

/-- 'fiacrelaw06.ShareOffers', WHERE WHAT IT READS IS OF BULK AT MOST 1048576: true; the input reads as it did. -/
def shareOffersUptoRow : OpenClaim := { program := "ytceimmohnniebaa", sum := "67c6bd9066f4b946e0af159fccc26ce8f1af44a54c17e4238612d24ac11697b9", func := "fiacre/fiacrelaw06.ShareOffers", spec := "shareOffers", inPlace := ["internal/abi.NoEscape", "internal/bytealg.MakeNoZero"], unfollowed := true, recurses := true, apart := false, narrowed := true }
def ShareOffersUptoSaid : Prop := shareOffersUptoRow.holds Try.pinned (OpenSpec.upto shareOffersSpec)

/-- 'fiacrelaw06.ShareShifted', WHERE WHAT IT READS IS OF BULK AT MOST 1048576: true; the input reads as it did. -/
def shareShiftedUptoRow : OpenClaim := { program := "ytceimmohnniebaa", sum := "67c6bd9066f4b946e0af159fccc26ce8f1af44a54c17e4238612d24ac11697b9", func := "fiacre/fiacrelaw06.ShareShifted", spec := "shareShifted", inPlace := ["internal/abi.NoEscape", "internal/bytealg.MakeNoZero"], unfollowed := true, recurses := true, apart := false, narrowed := true }
def ShareShiftedUptoSaid : Prop := shareShiftedUptoRow.holds Try.pinned (OpenSpec.upto shareShiftedSpec)

/-- 'fiacrelaw06.ShareCars', WHERE WHAT IT READS IS OF BULK AT MOST 1048576: true; the input reads as it did. -/
def shareCarsUptoRow : OpenClaim := { program := "ytceimmohnniebaa", sum := "67c6bd9066f4b946e0af159fccc26ce8f1af44a54c17e4238612d24ac11697b9", func := "fiacre/fiacrelaw06.ShareCars", spec := "shareCars", inPlace := ["internal/abi.NoEscape", "internal/bytealg.MakeNoZero"], unfollowed := true, recurses := true, apart := false, narrowed := true }
def ShareCarsUptoSaid : Prop := shareCarsUptoRow.holds Try.pinned (OpenSpec.upto shareCarsSpec)

/-- 'fiacrelaw06.ShareChanges', WHERE WHAT IT READS IS OF BULK AT MOST 1048576: true; the input reads as it did. -/
def shareChangesUptoRow : OpenClaim := { program := "ytceimmohnniebaa", sum := "67c6bd9066f4b946e0af159fccc26ce8f1af44a54c17e4238612d24ac11697b9", func := "fiacre/fiacrelaw06.ShareChanges", spec := "shareChanges", inPlace := ["internal/abi.NoEscape", "internal/bytealg.MakeNoZero"], unfollowed := true, recurses := true, apart := false, narrowed := true }
def ShareChangesUptoSaid : Prop := shareChangesUptoRow.holds Try.pinned (OpenSpec.upto shareChangesSpec)

/-- 'fiacrelaw06.ShareNoneCheaper', WHERE WHAT IT READS IS OF BULK AT MOST 1048576: true; the input reads as it did. -/
def shareNoneCheaperUptoRow : OpenClaim := { program := "ytceimmohnniebaa", sum := "67c6bd9066f4b946e0af159fccc26ce8f1af44a54c17e4238612d24ac11697b9", func := "fiacre/fiacrelaw06.ShareNoneCheaper", spec := "shareNoneCheaper", inPlace := ["internal/abi.NoEscape", "internal/bytealg.MakeNoZero"], unfollowed := true, recurses := true, apart := false, narrowed := true }
def ShareNoneCheaperUptoSaid : Prop := shareNoneCheaperUptoRow.holds Try.pinned (OpenSpec.upto shareNoneCheaperSpec)

/-- 'fiacrelaw06.ShareMaps', WHERE WHAT IT READS IS OF BULK AT MOST 1048576: true; the input reads as it did. -/
def shareMapsUptoRow : OpenClaim := { program := "ytceimmohnniebaa", sum := "67c6bd9066f4b946e0af159fccc26ce8f1af44a54c17e4238612d24ac11697b9", func := "fiacre/fiacrelaw06.ShareMaps", spec := "shareMaps", inPlace := ["internal/abi.NoEscape", "internal/bytealg.MakeNoZero"], unfollowed := true, recurses := true, apart := false, narrowed := true }
def ShareMapsUptoSaid : Prop := shareMapsUptoRow.holds Try.pinned (OpenSpec.upto shareMapsSpec)

/-- 'fiacrelaw06.ShareClosedMaps', WHERE WHAT IT READS IS OF BULK AT MOST 1048576: true; the input reads as it did. -/
def shareClosedMapsUptoRow : OpenClaim := { program := "ytceimmohnniebaa", sum := "67c6bd9066f4b946e0af159fccc26ce8f1af44a54c17e4238612d24ac11697b9", func := "fiacre/fiacrelaw06.ShareClosedMaps", spec := "shareClosedMaps", inPlace := ["internal/abi.NoEscape", "internal/bytealg.MakeNoZero"], unfollowed := true, recurses := true, apart := false, narrowed := true }
def ShareClosedMapsUptoSaid : Prop := shareClosedMapsUptoRow.holds Try.pinned (OpenSpec.upto shareClosedMapsSpec)

/-- 'fiacrelaw06.ShareFewer', WHERE WHAT IT READS IS OF BULK AT MOST 1048576: true; the input reads as it did. -/
def shareFewerUptoRow : OpenClaim := { program := "ytceimmohnniebaa", sum := "67c6bd9066f4b946e0af159fccc26ce8f1af44a54c17e4238612d24ac11697b9", func := "fiacre/fiacrelaw06.ShareFewer", spec := "shareFewer", inPlace := ["internal/abi.NoEscape", "internal/bytealg.MakeNoZero"], unfollowed := true, recurses := true, apart := false, narrowed := true }
def ShareFewerUptoSaid : Prop := shareFewerUptoRow.holds Try.pinned (OpenSpec.upto shareFewerSpec)

end Rows
end Go.Proofs.Ytceimmohnniebaa
