/-
  No cell of these rows narrows 'for every input' (looked for: loops, veiled, ifaces, maps, wideKeys, modest, calm, conditions, laid).
  DERIVED. THE GIVEN ROWS OF THIS SEAT. 12 by the template 'for every input the law returns true; each argument reads behind the call as it read before'; 0 by the template 'total and deterministic' (their statements: YtmedbghkldmlhaaTotals.lean).
  GIVEN WITH THE SEED: the statements are not yours to turn. If you find one false, say at which input.
  Laid BY PROGRAM, IN A SANDBOX (cutbox-rows.mjs): the forced cells as the released guide's own fill.sh prints them over the translation 9d11893d0206f437… (all of the seat's roots in one cut). By AI agents, Wed Nov 11 2026. No macro, syntax, notation, axiom, sorry.
-/
import Derived.Test.YtmedbghkldmlhaaChecked
import GoSem.Claim
import GoSem.ClaimJoined
import GoSem.ClaimMapViews
import Derived.JoinedTies
import Derived.KernelRfl
namespace Go.Proofs.Ytmedbghkldmlhaa
/- THE CELL 'sum', in the pinned program and in every row, IS THE sha256 OF THE DUMP (.gsa) THAT YtmedbghkldmlhaaProg.lean LOADS. Nothing in Lean hashes anything: it is a label: what it is worth is what the hold of that sum in a sandbox is worth. -/
noncomputable def Try.pinned : Pinned := { name := "ytmedbghkldmlhaa", sum := "9d11893d0206f43772e6ff5b71ec58f4ef5bd0906d7fa70c9627065c899325c8", checked := Try.checked }
namespace Rows
def none {H : Type} : Left H := { results := [], args := [] }

/-- 'fiacrelaw03.StreetNets': WHATEVER THE INPUT: true; the input reads as it did. -/
def streetNetsSpec : ChangeSpec := { name := "streetNets", fn := fun _ => fun
  | [d1, d2, d3] => { results := [.lit (.bool true)], args := [d1, d2, d3] }
  | _ => none }
def streetNetsRow : OpenClaim := { program := "ytmedbghkldmlhaa", sum := "9d11893d0206f43772e6ff5b71ec58f4ef5bd0906d7fa70c9627065c899325c8", func := "fiacre/fiacrelaw03.StreetNets", spec := "streetNets", unfollowed := true, recurses := true, apart := false }
def StreetNetsSaid : Prop := streetNetsRow.holds Try.pinned (OpenSpec.ofChange streetNetsSpec)

/-- ITS FALSE NEIGHBOUR: 'it returns false'. Refute it at one input. -/
def streetNetsWrong : ChangeSpec := { name := "streetNets", fn := fun _ => fun
  | [d1, d2, d3] => { results := [.lit (.bool false)], args := [d1, d2, d3] }
  | _ => none }
def StreetNetsWrongFalsely : Prop := streetNetsRow.holds Try.pinned (OpenSpec.ofChange streetNetsWrong)

/-- 'fiacrelaw03.StreetLatest': WHATEVER THE INPUT: true; the input reads as it did. -/
def streetLatestSpec : ChangeSpec := { name := "streetLatest", fn := fun _ => fun
  | [d1, d2] => { results := [.lit (.bool true)], args := [d1, d2] }
  | _ => none }
def streetLatestRow : OpenClaim := { program := "ytmedbghkldmlhaa", sum := "9d11893d0206f43772e6ff5b71ec58f4ef5bd0906d7fa70c9627065c899325c8", func := "fiacre/fiacrelaw03.StreetLatest", spec := "streetLatest", unfollowed := true, recurses := true, apart := false }
def StreetLatestSaid : Prop := streetLatestRow.holds Try.pinned (OpenSpec.ofChange streetLatestSpec)

/-- ITS FALSE NEIGHBOUR: 'it returns false'. Refute it at one input. -/
def streetLatestWrong : ChangeSpec := { name := "streetLatest", fn := fun _ => fun
  | [d1, d2] => { results := [.lit (.bool false)], args := [d1, d2] }
  | _ => none }
def StreetLatestWrongFalsely : Prop := streetLatestRow.holds Try.pinned (OpenSpec.ofChange streetLatestWrong)

/-- 'fiacrelaw03.StreetRoads': WHATEVER THE INPUT: true; the input reads as it did. -/
def streetRoadsSpec : ChangeSpec := { name := "streetRoads", fn := fun _ => fun
  | [d1, d2, d3] => { results := [.lit (.bool true)], args := [d1, d2, d3] }
  | _ => none }
def streetRoadsRow : OpenClaim := { program := "ytmedbghkldmlhaa", sum := "9d11893d0206f43772e6ff5b71ec58f4ef5bd0906d7fa70c9627065c899325c8", func := "fiacre/fiacrelaw03.StreetRoads", spec := "streetRoads", unfollowed := true, recurses := true, apart := false }
def StreetRoadsSaid : Prop := streetRoadsRow.holds Try.pinned (OpenSpec.ofChange streetRoadsSpec)

/-- ITS FALSE NEIGHBOUR: 'it returns false'. Refute it at one input. -/
def streetRoadsWrong : ChangeSpec := { name := "streetRoads", fn := fun _ => fun
  | [d1, d2, d3] => { results := [.lit (.bool false)], args := [d1, d2, d3] }
  | _ => none }
def StreetRoadsWrongFalsely : Prop := streetRoadsRow.holds Try.pinned (OpenSpec.ofChange streetRoadsWrong)

/-- 'fiacrelaw03.StreetExams': WHATEVER THE INPUT: true; the input reads as it did. -/
def streetExamsSpec : ChangeSpec := { name := "streetExams", fn := fun _ => fun
  | [d1, d2] => { results := [.lit (.bool true)], args := [d1, d2] }
  | _ => none }
def streetExamsRow : OpenClaim := { program := "ytmedbghkldmlhaa", sum := "9d11893d0206f43772e6ff5b71ec58f4ef5bd0906d7fa70c9627065c899325c8", func := "fiacre/fiacrelaw03.StreetExams", spec := "streetExams", unfollowed := true, recurses := true, apart := false }
def StreetExamsSaid : Prop := streetExamsRow.holds Try.pinned (OpenSpec.ofChange streetExamsSpec)

/-- ITS FALSE NEIGHBOUR: 'it returns false'. Refute it at one input. -/
def streetExamsWrong : ChangeSpec := { name := "streetExams", fn := fun _ => fun
  | [d1, d2] => { results := [.lit (.bool false)], args := [d1, d2] }
  | _ => none }
def StreetExamsWrongFalsely : Prop := streetExamsRow.holds Try.pinned (OpenSpec.ofChange streetExamsWrong)

/-- 'fiacrelaw03.StreetHeights': WHATEVER THE INPUT: true; the input reads as it did. -/
def streetHeightsSpec : ChangeSpec := { name := "streetHeights", fn := fun _ => fun
  | [d1, d2, d3] => { results := [.lit (.bool true)], args := [d1, d2, d3] }
  | _ => none }
def streetHeightsRow : OpenClaim := { program := "ytmedbghkldmlhaa", sum := "9d11893d0206f43772e6ff5b71ec58f4ef5bd0906d7fa70c9627065c899325c8", func := "fiacre/fiacrelaw03.StreetHeights", spec := "streetHeights", unfollowed := true, recurses := true, apart := false }
def StreetHeightsSaid : Prop := streetHeightsRow.holds Try.pinned (OpenSpec.ofChange streetHeightsSpec)

/-- ITS FALSE NEIGHBOUR: 'it returns false'. Refute it at one input. -/
def streetHeightsWrong : ChangeSpec := { name := "streetHeights", fn := fun _ => fun
  | [d1, d2, d3] => { results := [.lit (.bool false)], args := [d1, d2, d3] }
  | _ => none }
def StreetHeightsWrongFalsely : Prop := streetHeightsRow.holds Try.pinned (OpenSpec.ofChange streetHeightsWrong)

/-- 'fiacrelaw03.StreetOvertakes': WHATEVER THE INPUT: true; the input reads as it did. -/
def streetOvertakesSpec : ChangeSpec := { name := "streetOvertakes", fn := fun _ => fun
  | [d1, d2, d3] => { results := [.lit (.bool true)], args := [d1, d2, d3] }
  | _ => none }
def streetOvertakesRow : OpenClaim := { program := "ytmedbghkldmlhaa", sum := "9d11893d0206f43772e6ff5b71ec58f4ef5bd0906d7fa70c9627065c899325c8", func := "fiacre/fiacrelaw03.StreetOvertakes", spec := "streetOvertakes", unfollowed := true, recurses := true, apart := false }
def StreetOvertakesSaid : Prop := streetOvertakesRow.holds Try.pinned (OpenSpec.ofChange streetOvertakesSpec)

/-- ITS FALSE NEIGHBOUR: 'it returns false'. Refute it at one input. -/
def streetOvertakesWrong : ChangeSpec := { name := "streetOvertakes", fn := fun _ => fun
  | [d1, d2, d3] => { results := [.lit (.bool false)], args := [d1, d2, d3] }
  | _ => none }
def StreetOvertakesWrongFalsely : Prop := streetOvertakesRow.holds Try.pinned (OpenSpec.ofChange streetOvertakesWrong)

/-- 'fiacrelaw03.StreetWays': WHATEVER THE INPUT: true; the input reads as it did. -/
def streetWaysSpec : ChangeSpec := { name := "streetWays", fn := fun _ => fun
  | [d1, d2, d3] => { results := [.lit (.bool true)], args := [d1, d2, d3] }
  | _ => none }
def streetWaysRow : OpenClaim := { program := "ytmedbghkldmlhaa", sum := "9d11893d0206f43772e6ff5b71ec58f4ef5bd0906d7fa70c9627065c899325c8", func := "fiacre/fiacrelaw03.StreetWays", spec := "streetWays", unfollowed := true, recurses := true, apart := false }
def StreetWaysSaid : Prop := streetWaysRow.holds Try.pinned (OpenSpec.ofChange streetWaysSpec)

/-- ITS FALSE NEIGHBOUR: 'it returns false'. Refute it at one input. -/
def streetWaysWrong : ChangeSpec := { name := "streetWays", fn := fun _ => fun
  | [d1, d2, d3] => { results := [.lit (.bool false)], args := [d1, d2, d3] }
  | _ => none }
def StreetWaysWrongFalsely : Prop := streetWaysRow.holds Try.pinned (OpenSpec.ofChange streetWaysWrong)

/-- 'fiacrelaw03.StreetFastest': WHATEVER THE INPUT: true; the input reads as it did. -/
def streetFastestSpec : ChangeSpec := { name := "streetFastest", fn := fun _ => fun
  | [d1, d2, d3] => { results := [.lit (.bool true)], args := [d1, d2, d3] }
  | _ => none }
def streetFastestRow : OpenClaim := { program := "ytmedbghkldmlhaa", sum := "9d11893d0206f43772e6ff5b71ec58f4ef5bd0906d7fa70c9627065c899325c8", func := "fiacre/fiacrelaw03.StreetFastest", spec := "streetFastest", unfollowed := true, recurses := true, apart := false }
def StreetFastestSaid : Prop := streetFastestRow.holds Try.pinned (OpenSpec.ofChange streetFastestSpec)

/-- ITS FALSE NEIGHBOUR: 'it returns false'. Refute it at one input. -/
def streetFastestWrong : ChangeSpec := { name := "streetFastest", fn := fun _ => fun
  | [d1, d2, d3] => { results := [.lit (.bool false)], args := [d1, d2, d3] }
  | _ => none }
def StreetFastestWrongFalsely : Prop := streetFastestRow.holds Try.pinned (OpenSpec.ofChange streetFastestWrong)

/-- 'fiacrelaw03.StreetReaches': WHATEVER THE INPUT: true; the input reads as it did. -/
def streetReachesSpec : ChangeSpec := { name := "streetReaches", fn := fun _ => fun
  | [d1, d2] => { results := [.lit (.bool true)], args := [d1, d2] }
  | _ => none }
def streetReachesRow : OpenClaim := { program := "ytmedbghkldmlhaa", sum := "9d11893d0206f43772e6ff5b71ec58f4ef5bd0906d7fa70c9627065c899325c8", func := "fiacre/fiacrelaw03.StreetReaches", spec := "streetReaches", unfollowed := true, recurses := true, apart := false }
def StreetReachesSaid : Prop := streetReachesRow.holds Try.pinned (OpenSpec.ofChange streetReachesSpec)

/-- ITS FALSE NEIGHBOUR: 'it returns false'. Refute it at one input. -/
def streetReachesWrong : ChangeSpec := { name := "streetReaches", fn := fun _ => fun
  | [d1, d2] => { results := [.lit (.bool false)], args := [d1, d2] }
  | _ => none }
def StreetReachesWrongFalsely : Prop := streetReachesRow.holds Try.pinned (OpenSpec.ofChange streetReachesWrong)

/-- 'fiacrelaw03.StreetProofs': WHATEVER THE INPUT: true; the input reads as it did. -/
def streetProofsSpec : ChangeSpec := { name := "streetProofs", fn := fun _ => fun
  | [d1, d2, d3] => { results := [.lit (.bool true)], args := [d1, d2, d3] }
  | _ => none }
def streetProofsRow : OpenClaim := { program := "ytmedbghkldmlhaa", sum := "9d11893d0206f43772e6ff5b71ec58f4ef5bd0906d7fa70c9627065c899325c8", func := "fiacre/fiacrelaw03.StreetProofs", spec := "streetProofs", unfollowed := true, recurses := true, apart := false }
def StreetProofsSaid : Prop := streetProofsRow.holds Try.pinned (OpenSpec.ofChange streetProofsSpec)

/-- ITS FALSE NEIGHBOUR: 'it returns false'. Refute it at one input. -/
def streetProofsWrong : ChangeSpec := { name := "streetProofs", fn := fun _ => fun
  | [d1, d2, d3] => { results := [.lit (.bool false)], args := [d1, d2, d3] }
  | _ => none }
def StreetProofsWrongFalsely : Prop := streetProofsRow.holds Try.pinned (OpenSpec.ofChange streetProofsWrong)

/-- 'fiacrelaw03.StreetShortest': WHATEVER THE INPUT: true; the input reads as it did. -/
def streetShortestSpec : ChangeSpec := { name := "streetShortest", fn := fun _ => fun
  | [d1, d2, d3] => { results := [.lit (.bool true)], args := [d1, d2, d3] }
  | _ => none }
def streetShortestRow : OpenClaim := { program := "ytmedbghkldmlhaa", sum := "9d11893d0206f43772e6ff5b71ec58f4ef5bd0906d7fa70c9627065c899325c8", func := "fiacre/fiacrelaw03.StreetShortest", spec := "streetShortest", unfollowed := true, recurses := true, apart := false }
def StreetShortestSaid : Prop := streetShortestRow.holds Try.pinned (OpenSpec.ofChange streetShortestSpec)

/-- ITS FALSE NEIGHBOUR: 'it returns false'. Refute it at one input. -/
def streetShortestWrong : ChangeSpec := { name := "streetShortest", fn := fun _ => fun
  | [d1, d2, d3] => { results := [.lit (.bool false)], args := [d1, d2, d3] }
  | _ => none }
def StreetShortestWrongFalsely : Prop := streetShortestRow.holds Try.pinned (OpenSpec.ofChange streetShortestWrong)

/-- 'fiacrelaw03.StreetLabels': WHATEVER THE INPUT: true; the input reads as it did. -/
def streetLabelsSpec : ChangeSpec := { name := "streetLabels", fn := fun _ => fun
  | [d1, d2, d3] => { results := [.lit (.bool true)], args := [d1, d2, d3] }
  | _ => none }
def streetLabelsRow : OpenClaim := { program := "ytmedbghkldmlhaa", sum := "9d11893d0206f43772e6ff5b71ec58f4ef5bd0906d7fa70c9627065c899325c8", func := "fiacre/fiacrelaw03.StreetLabels", spec := "streetLabels", unfollowed := true, recurses := true, apart := false }
def StreetLabelsSaid : Prop := streetLabelsRow.holds Try.pinned (OpenSpec.ofChange streetLabelsSpec)

/-- ITS FALSE NEIGHBOUR: 'it returns false'. Refute it at one input. -/
def streetLabelsWrong : ChangeSpec := { name := "streetLabels", fn := fun _ => fun
  | [d1, d2, d3] => { results := [.lit (.bool false)], args := [d1, d2, d3] }
  | _ => none }
def StreetLabelsWrongFalsely : Prop := streetLabelsRow.holds Try.pinned (OpenSpec.ofChange streetLabelsWrong)

/- THE SECOND FORM. 'bulk': how many values and letters a reading holds, each counted each time it is reached (what is shared counts as often as it is met; a slice's spare places count too). A statement '..UptoSaid' is the law's where the arguments, and the package variables that the reading takes, are together of bulk at most 1048576: NARROWER than '..Said'. Prove '..Said' where nothing that the law and all that it calls make is longer than what came in: it says more and counts as full. Else prove '..UptoSaid'. A law counts once. -/
mutual
def uptoBulk {H : Type} : DataW H → Nat
  | .lit (.string bytes) => bytes.length + 1
  | .lit _ => 1
  | .nil => 1
  | .ptr d => uptoBulk d + 1
  | .slice elems spare => uptoBulkAll elems + uptoBulkAll spare + 1
  | .agg parts => uptoBulkAll parts + 1
  | .iface _ d => uptoBulk d + 1
  | .map entries => uptoBulkEntries entries + 1
  | .held _ => 1
def uptoBulkAll {H : Type} : List (DataW H) → Nat
  | [] => 0
  | d :: r => uptoBulk d + uptoBulkAll r
def uptoBulkEntries {H : Type} : List (Lit × DataW H) → Nat
  | [] => 0
  | x :: r => uptoBulkEntry x + uptoBulkEntries r
def uptoBulkEntry {H : Type} : Lit × DataW H → Nat
  | (.string bytes, d) => bytes.length + uptoBulk d + 1
  | (_, d) => uptoBulk d + 1
 end
def uptoSmall : (H : Type) → List (DataW H) → Bool := fun _ ds => decide (uptoBulkAll ds ≤ 1048576)
def OpenSpec.upto (s : _root_.Go.ChangeSpec) : _root_.Go.OpenSpec := { _root_.Go.OpenSpec.ofChange s with cond := some uptoSmall }

/-- 'fiacrelaw03.StreetNets', WHERE WHAT IT READS IS OF BULK AT MOST 1048576: true; the input reads as it did. -/
def streetNetsUptoRow : OpenClaim := { program := "ytmedbghkldmlhaa", sum := "9d11893d0206f43772e6ff5b71ec58f4ef5bd0906d7fa70c9627065c899325c8", func := "fiacre/fiacrelaw03.StreetNets", spec := "streetNets", unfollowed := true, recurses := true, apart := false, narrowed := true }
def StreetNetsUptoSaid : Prop := streetNetsUptoRow.holds Try.pinned (OpenSpec.upto streetNetsSpec)

/-- 'fiacrelaw03.StreetLatest', WHERE WHAT IT READS IS OF BULK AT MOST 1048576: true; the input reads as it did. -/
def streetLatestUptoRow : OpenClaim := { program := "ytmedbghkldmlhaa", sum := "9d11893d0206f43772e6ff5b71ec58f4ef5bd0906d7fa70c9627065c899325c8", func := "fiacre/fiacrelaw03.StreetLatest", spec := "streetLatest", unfollowed := true, recurses := true, apart := false, narrowed := true }
def StreetLatestUptoSaid : Prop := streetLatestUptoRow.holds Try.pinned (OpenSpec.upto streetLatestSpec)

/-- 'fiacrelaw03.StreetRoads', WHERE WHAT IT READS IS OF BULK AT MOST 1048576: true; the input reads as it did. -/
def streetRoadsUptoRow : OpenClaim := { program := "ytmedbghkldmlhaa", sum := "9d11893d0206f43772e6ff5b71ec58f4ef5bd0906d7fa70c9627065c899325c8", func := "fiacre/fiacrelaw03.StreetRoads", spec := "streetRoads", unfollowed := true, recurses := true, apart := false, narrowed := true }
def StreetRoadsUptoSaid : Prop := streetRoadsUptoRow.holds Try.pinned (OpenSpec.upto streetRoadsSpec)

/-- 'fiacrelaw03.StreetExams', WHERE WHAT IT READS IS OF BULK AT MOST 1048576: true; the input reads as it did. -/
def streetExamsUptoRow : OpenClaim := { program := "ytmedbghkldmlhaa", sum := "9d11893d0206f43772e6ff5b71ec58f4ef5bd0906d7fa70c9627065c899325c8", func := "fiacre/fiacrelaw03.StreetExams", spec := "streetExams", unfollowed := true, recurses := true, apart := false, narrowed := true }
def StreetExamsUptoSaid : Prop := streetExamsUptoRow.holds Try.pinned (OpenSpec.upto streetExamsSpec)

/-- 'fiacrelaw03.StreetHeights', WHERE WHAT IT READS IS OF BULK AT MOST 1048576: true; the input reads as it did. -/
def streetHeightsUptoRow : OpenClaim := { program := "ytmedbghkldmlhaa", sum := "9d11893d0206f43772e6ff5b71ec58f4ef5bd0906d7fa70c9627065c899325c8", func := "fiacre/fiacrelaw03.StreetHeights", spec := "streetHeights", unfollowed := true, recurses := true, apart := false, narrowed := true }
def StreetHeightsUptoSaid : Prop := streetHeightsUptoRow.holds Try.pinned (OpenSpec.upto streetHeightsSpec)

/-- 'fiacrelaw03.StreetOvertakes', WHERE WHAT IT READS IS OF BULK AT MOST 1048576: true; the input reads as it did. -/
def streetOvertakesUptoRow : OpenClaim := { program := "ytmedbghkldmlhaa", sum := "9d11893d0206f43772e6ff5b71ec58f4ef5bd0906d7fa70c9627065c899325c8", func := "fiacre/fiacrelaw03.StreetOvertakes", spec := "streetOvertakes", unfollowed := true, recurses := true, apart := false, narrowed := true }
def StreetOvertakesUptoSaid : Prop := streetOvertakesUptoRow.holds Try.pinned (OpenSpec.upto streetOvertakesSpec)

/-- 'fiacrelaw03.StreetWays', WHERE WHAT IT READS IS OF BULK AT MOST 1048576: true; the input reads as it did. -/
def streetWaysUptoRow : OpenClaim := { program := "ytmedbghkldmlhaa", sum := "9d11893d0206f43772e6ff5b71ec58f4ef5bd0906d7fa70c9627065c899325c8", func := "fiacre/fiacrelaw03.StreetWays", spec := "streetWays", unfollowed := true, recurses := true, apart := false, narrowed := true }
def StreetWaysUptoSaid : Prop := streetWaysUptoRow.holds Try.pinned (OpenSpec.upto streetWaysSpec)

/-- 'fiacrelaw03.StreetFastest', WHERE WHAT IT READS IS OF BULK AT MOST 1048576: true; the input reads as it did. -/
def streetFastestUptoRow : OpenClaim := { program := "ytmedbghkldmlhaa", sum := "9d11893d0206f43772e6ff5b71ec58f4ef5bd0906d7fa70c9627065c899325c8", func := "fiacre/fiacrelaw03.StreetFastest", spec := "streetFastest", unfollowed := true, recurses := true, apart := false, narrowed := true }
def StreetFastestUptoSaid : Prop := streetFastestUptoRow.holds Try.pinned (OpenSpec.upto streetFastestSpec)

/-- 'fiacrelaw03.StreetReaches', WHERE WHAT IT READS IS OF BULK AT MOST 1048576: true; the input reads as it did. -/
def streetReachesUptoRow : OpenClaim := { program := "ytmedbghkldmlhaa", sum := "9d11893d0206f43772e6ff5b71ec58f4ef5bd0906d7fa70c9627065c899325c8", func := "fiacre/fiacrelaw03.StreetReaches", spec := "streetReaches", unfollowed := true, recurses := true, apart := false, narrowed := true }
def StreetReachesUptoSaid : Prop := streetReachesUptoRow.holds Try.pinned (OpenSpec.upto streetReachesSpec)

/-- 'fiacrelaw03.StreetProofs', WHERE WHAT IT READS IS OF BULK AT MOST 1048576: true; the input reads as it did. -/
def streetProofsUptoRow : OpenClaim := { program := "ytmedbghkldmlhaa", sum := "9d11893d0206f43772e6ff5b71ec58f4ef5bd0906d7fa70c9627065c899325c8", func := "fiacre/fiacrelaw03.StreetProofs", spec := "streetProofs", unfollowed := true, recurses := true, apart := false, narrowed := true }
def StreetProofsUptoSaid : Prop := streetProofsUptoRow.holds Try.pinned (OpenSpec.upto streetProofsSpec)

/-- 'fiacrelaw03.StreetShortest', WHERE WHAT IT READS IS OF BULK AT MOST 1048576: true; the input reads as it did. -/
def streetShortestUptoRow : OpenClaim := { program := "ytmedbghkldmlhaa", sum := "9d11893d0206f43772e6ff5b71ec58f4ef5bd0906d7fa70c9627065c899325c8", func := "fiacre/fiacrelaw03.StreetShortest", spec := "streetShortest", unfollowed := true, recurses := true, apart := false, narrowed := true }
def StreetShortestUptoSaid : Prop := streetShortestUptoRow.holds Try.pinned (OpenSpec.upto streetShortestSpec)

/-- 'fiacrelaw03.StreetLabels', WHERE WHAT IT READS IS OF BULK AT MOST 1048576: true; the input reads as it did. -/
def streetLabelsUptoRow : OpenClaim := { program := "ytmedbghkldmlhaa", sum := "9d11893d0206f43772e6ff5b71ec58f4ef5bd0906d7fa70c9627065c899325c8", func := "fiacre/fiacrelaw03.StreetLabels", spec := "streetLabels", unfollowed := true, recurses := true, apart := false, narrowed := true }
def StreetLabelsUptoSaid : Prop := streetLabelsUptoRow.holds Try.pinned (OpenSpec.upto streetLabelsSpec)

end Rows
end Go.Proofs.Ytmedbghkldmlhaa
