/-
  No cell of these rows narrows 'for every input' (looked for: loops, veiled, ifaces, maps, wideKeys, modest, calm, conditions, laid).
  DERIVED. THE GIVEN ROWS OF THIS SEAT. 12 by the template 'for every input the law returns true; each argument reads behind the call as it read before'; 0 by the template 'total and deterministic' (their statements: YthpkmilhiganjaaGreatTotals.lean).
  GIVEN WITH THE SEED: the statements are not yours to turn. If you find one false, say at which input.
  Laid BY PROGRAM, IN A SANDBOX (cutbox-rows.mjs): the forced cells as the released guide's own fill.sh prints them over the translation 04a3ff7348ff463f… (all of the seat's roots in one cut). By AI agents, Wed Nov 11 2026. No macro, syntax, notation, axiom, sorry.
-/
import Derived.Test.YthpkmilhiganjaaGreatChecked
import GoSem.Claim
import GoSem.ClaimJoined
import GoSem.ClaimMapViews
import Derived.JoinedTies
import Derived.KernelRfl
namespace Go.Proofs.YthpkmilhiganjaaGreat
/- THE CELL 'sum', in the pinned program and in every row, IS THE sha256 OF THE DUMP (.gsa) THAT YthpkmilhiganjaaGreatProg.lean LOADS. Nothing in Lean hashes anything: it is a label: what it is worth is what the hold of that sum in a sandbox is worth. -/
noncomputable def Tryz.pinned : Pinned := { name := "ythpkmilhiganjaagreat", sum := "04a3ff7348ff463f40c5f269b17b6a030871d3e21ee7a781ad9d706db64a7dc2", checked := Tryz.checked }
namespace Rows
def none {H : Type} : Left H := { results := [], args := [] }

/-- 'fiacrelaw05.DispatchPriced': WHATEVER THE INPUT: true; the input reads as it did. -/
def dispatchPricedSpec : ChangeSpec := { name := "dispatchPriced", fn := fun _ => fun
  | [d1, d2] => { results := [.lit (.bool true)], args := [d1, d2] }
  | _ => none }
def dispatchPricedRow : OpenClaim := { program := "ythpkmilhiganjaagreat", sum := "04a3ff7348ff463f40c5f269b17b6a030871d3e21ee7a781ad9d706db64a7dc2", func := "fiacre/fiacrelaw05.DispatchPriced", spec := "dispatchPriced", inPlace := ["(*sync.WaitGroup).Add", "internal/race.ReleaseMerge", "internal/race.Disable", "internal/race.Enable", "internal/synctest.IsInBubble", "internal/synctest.Associate[sync.WaitGroup]", "sync.fatal", "sync/atomic.OrUint64", "sync/atomic.AddUint64", "internal/race.Read", "sync/atomic.LoadUint64", "sync/atomic.StoreUint64", "internal/synctest.Disassociate[sync.WaitGroup]", "sync.runtime_Semrelease", "(*sync.WaitGroup).Done", "(*sync.WaitGroup).Wait", "internal/race.Acquire", "internal/synctest.IsAssociated[sync.WaitGroup]", "sync/atomic.CompareAndSwapUint64", "internal/race.Write", "sync.runtime_SemacquireWaitGroup"], unfollowed := true, recurses := true, leaving := true, apart := false }
def DispatchPricedSaid : Prop := dispatchPricedRow.holds Tryz.pinned (OpenSpec.ofChange dispatchPricedSpec)

/-- ITS FALSE NEIGHBOUR: 'it returns false'. Refute it at one input. -/
def dispatchPricedWrong : ChangeSpec := { name := "dispatchPriced", fn := fun _ => fun
  | [d1, d2] => { results := [.lit (.bool false)], args := [d1, d2] }
  | _ => none }
def DispatchPricedWrongFalsely : Prop := dispatchPricedRow.holds Tryz.pinned (OpenSpec.ofChange dispatchPricedWrong)

/-- 'fiacrelaw05.DispatchProves': WHATEVER THE INPUT: true; the input reads as it did. -/
def dispatchProvesSpec : ChangeSpec := { name := "dispatchProves", fn := fun _ => fun
  | [d1, d2, d3] => { results := [.lit (.bool true)], args := [d1, d2, d3] }
  | _ => none }
def dispatchProvesRow : OpenClaim := { program := "ythpkmilhiganjaagreat", sum := "04a3ff7348ff463f40c5f269b17b6a030871d3e21ee7a781ad9d706db64a7dc2", func := "fiacre/fiacrelaw05.DispatchProves", spec := "dispatchProves", inPlace := ["(*sync.WaitGroup).Add", "internal/race.ReleaseMerge", "internal/race.Disable", "internal/race.Enable", "internal/synctest.IsInBubble", "internal/synctest.Associate[sync.WaitGroup]", "sync.fatal", "sync/atomic.OrUint64", "sync/atomic.AddUint64", "internal/race.Read", "sync/atomic.LoadUint64", "sync/atomic.StoreUint64", "internal/synctest.Disassociate[sync.WaitGroup]", "sync.runtime_Semrelease", "(*sync.WaitGroup).Done", "(*sync.WaitGroup).Wait", "internal/race.Acquire", "internal/synctest.IsAssociated[sync.WaitGroup]", "sync/atomic.CompareAndSwapUint64", "internal/race.Write", "sync.runtime_SemacquireWaitGroup"], unfollowed := true, recurses := true, leaving := true, apart := false }
def DispatchProvesSaid : Prop := dispatchProvesRow.holds Tryz.pinned (OpenSpec.ofChange dispatchProvesSpec)

/-- ITS FALSE NEIGHBOUR: 'it returns false'. Refute it at one input. -/
def dispatchProvesWrong : ChangeSpec := { name := "dispatchProves", fn := fun _ => fun
  | [d1, d2, d3] => { results := [.lit (.bool false)], args := [d1, d2, d3] }
  | _ => none }
def DispatchProvesWrongFalsely : Prop := dispatchProvesRow.holds Tryz.pinned (OpenSpec.ofChange dispatchProvesWrong)

/-- 'fiacrelaw05.DispatchBest': WHATEVER THE INPUT: true; the input reads as it did. -/
def dispatchBestSpec : ChangeSpec := { name := "dispatchBest", fn := fun _ => fun
  | [d] => { results := [.lit (.bool true)], args := [d] }
  | _ => none }
def dispatchBestRow : OpenClaim := { program := "ythpkmilhiganjaagreat", sum := "04a3ff7348ff463f40c5f269b17b6a030871d3e21ee7a781ad9d706db64a7dc2", func := "fiacre/fiacrelaw05.DispatchBest", spec := "dispatchBest", inPlace := ["(*sync.WaitGroup).Add", "internal/race.ReleaseMerge", "internal/race.Disable", "internal/race.Enable", "internal/synctest.IsInBubble", "internal/synctest.Associate[sync.WaitGroup]", "sync.fatal", "sync/atomic.OrUint64", "sync/atomic.AddUint64", "internal/race.Read", "sync/atomic.LoadUint64", "sync/atomic.StoreUint64", "internal/synctest.Disassociate[sync.WaitGroup]", "sync.runtime_Semrelease", "(*sync.WaitGroup).Done", "(*sync.WaitGroup).Wait", "internal/race.Acquire", "internal/synctest.IsAssociated[sync.WaitGroup]", "sync/atomic.CompareAndSwapUint64", "internal/race.Write", "sync.runtime_SemacquireWaitGroup"], unfollowed := true, recurses := true, leaving := true, apart := false }
def DispatchBestSaid : Prop := dispatchBestRow.holds Tryz.pinned (OpenSpec.ofChange dispatchBestSpec)

/-- ITS FALSE NEIGHBOUR: 'it returns false'. Refute it at one input. -/
def dispatchBestWrong : ChangeSpec := { name := "dispatchBest", fn := fun _ => fun
  | [d] => { results := [.lit (.bool false)], args := [d] }
  | _ => none }
def DispatchBestWrongFalsely : Prop := dispatchBestRow.holds Tryz.pinned (OpenSpec.ofChange dispatchBestWrong)

/-- 'fiacrelaw05.DispatchMost': WHATEVER THE INPUT: true; the input reads as it did. -/
def dispatchMostSpec : ChangeSpec := { name := "dispatchMost", fn := fun _ => fun
  | [d] => { results := [.lit (.bool true)], args := [d] }
  | _ => none }
def dispatchMostRow : OpenClaim := { program := "ythpkmilhiganjaagreat", sum := "04a3ff7348ff463f40c5f269b17b6a030871d3e21ee7a781ad9d706db64a7dc2", func := "fiacre/fiacrelaw05.DispatchMost", spec := "dispatchMost", inPlace := ["(*sync.WaitGroup).Add", "internal/race.ReleaseMerge", "internal/race.Disable", "internal/race.Enable", "internal/synctest.IsInBubble", "internal/synctest.Associate[sync.WaitGroup]", "sync.fatal", "sync/atomic.OrUint64", "sync/atomic.AddUint64", "internal/race.Read", "sync/atomic.LoadUint64", "sync/atomic.StoreUint64", "internal/synctest.Disassociate[sync.WaitGroup]", "sync.runtime_Semrelease", "(*sync.WaitGroup).Done", "(*sync.WaitGroup).Wait", "internal/race.Acquire", "internal/synctest.IsAssociated[sync.WaitGroup]", "sync/atomic.CompareAndSwapUint64", "internal/race.Write", "sync.runtime_SemacquireWaitGroup"], unfollowed := true, recurses := true, leaving := true, apart := false }
def DispatchMostSaid : Prop := dispatchMostRow.holds Tryz.pinned (OpenSpec.ofChange dispatchMostSpec)

/-- ITS FALSE NEIGHBOUR: 'it returns false'. Refute it at one input. -/
def dispatchMostWrong : ChangeSpec := { name := "dispatchMost", fn := fun _ => fun
  | [d] => { results := [.lit (.bool false)], args := [d] }
  | _ => none }
def DispatchMostWrongFalsely : Prop := dispatchMostRow.holds Tryz.pinned (OpenSpec.ofChange dispatchMostWrong)

/-- 'fiacrelaw05.DispatchRolls': WHATEVER THE INPUT: true; the input reads as it did. -/
def dispatchRollsSpec : ChangeSpec := { name := "dispatchRolls", fn := fun _ => fun
  | [d1, d2] => { results := [.lit (.bool true)], args := [d1, d2] }
  | _ => none }
def dispatchRollsRow : OpenClaim := { program := "ythpkmilhiganjaagreat", sum := "04a3ff7348ff463f40c5f269b17b6a030871d3e21ee7a781ad9d706db64a7dc2", func := "fiacre/fiacrelaw05.DispatchRolls", spec := "dispatchRolls", inPlace := ["(*sync.WaitGroup).Add", "internal/race.ReleaseMerge", "internal/race.Disable", "internal/race.Enable", "internal/synctest.IsInBubble", "internal/synctest.Associate[sync.WaitGroup]", "sync.fatal", "sync/atomic.OrUint64", "sync/atomic.AddUint64", "internal/race.Read", "sync/atomic.LoadUint64", "sync/atomic.StoreUint64", "internal/synctest.Disassociate[sync.WaitGroup]", "sync.runtime_Semrelease", "(*sync.WaitGroup).Done", "(*sync.WaitGroup).Wait", "internal/race.Acquire", "internal/synctest.IsAssociated[sync.WaitGroup]", "sync/atomic.CompareAndSwapUint64", "internal/race.Write", "sync.runtime_SemacquireWaitGroup"], unfollowed := true, recurses := true, leaving := true, apart := false }
def DispatchRollsSaid : Prop := dispatchRollsRow.holds Tryz.pinned (OpenSpec.ofChange dispatchRollsSpec)

/-- ITS FALSE NEIGHBOUR: 'it returns false'. Refute it at one input. -/
def dispatchRollsWrong : ChangeSpec := { name := "dispatchRolls", fn := fun _ => fun
  | [d1, d2] => { results := [.lit (.bool false)], args := [d1, d2] }
  | _ => none }
def DispatchRollsWrongFalsely : Prop := dispatchRollsRow.holds Tryz.pinned (OpenSpec.ofChange dispatchRollsWrong)

/-- 'fiacrelaw05.DispatchLeaves': WHATEVER THE INPUT: true; the input reads as it did. -/
def dispatchLeavesSpec : ChangeSpec := { name := "dispatchLeaves", fn := fun _ => fun
  | [d1, d2, d3] => { results := [.lit (.bool true)], args := [d1, d2, d3] }
  | _ => none }
def dispatchLeavesRow : OpenClaim := { program := "ythpkmilhiganjaagreat", sum := "04a3ff7348ff463f40c5f269b17b6a030871d3e21ee7a781ad9d706db64a7dc2", func := "fiacre/fiacrelaw05.DispatchLeaves", spec := "dispatchLeaves", inPlace := ["(*sync.WaitGroup).Add", "internal/race.ReleaseMerge", "internal/race.Disable", "internal/race.Enable", "internal/synctest.IsInBubble", "internal/synctest.Associate[sync.WaitGroup]", "sync.fatal", "sync/atomic.OrUint64", "sync/atomic.AddUint64", "internal/race.Read", "sync/atomic.LoadUint64", "sync/atomic.StoreUint64", "internal/synctest.Disassociate[sync.WaitGroup]", "sync.runtime_Semrelease", "(*sync.WaitGroup).Done", "(*sync.WaitGroup).Wait", "internal/race.Acquire", "internal/synctest.IsAssociated[sync.WaitGroup]", "sync/atomic.CompareAndSwapUint64", "internal/race.Write", "sync.runtime_SemacquireWaitGroup"], unfollowed := true, recurses := true, leaving := true, apart := false }
def DispatchLeavesSaid : Prop := dispatchLeavesRow.holds Tryz.pinned (OpenSpec.ofChange dispatchLeavesSpec)

/-- ITS FALSE NEIGHBOUR: 'it returns false'. Refute it at one input. -/
def dispatchLeavesWrong : ChangeSpec := { name := "dispatchLeaves", fn := fun _ => fun
  | [d1, d2, d3] => { results := [.lit (.bool false)], args := [d1, d2, d3] }
  | _ => none }
def DispatchLeavesWrongFalsely : Prop := dispatchLeavesRow.holds Tryz.pinned (OpenSpec.ofChange dispatchLeavesWrong)

/-- 'fiacrelaw05.DispatchFairs': WHATEVER THE INPUT: true; the input reads as it did. -/
def dispatchFairsSpec : ChangeSpec := { name := "dispatchFairs", fn := fun _ => fun
  | [d1, d2, d3] => { results := [.lit (.bool true)], args := [d1, d2, d3] }
  | _ => none }
def dispatchFairsRow : OpenClaim := { program := "ythpkmilhiganjaagreat", sum := "04a3ff7348ff463f40c5f269b17b6a030871d3e21ee7a781ad9d706db64a7dc2", func := "fiacre/fiacrelaw05.DispatchFairs", spec := "dispatchFairs", inPlace := ["(*sync.WaitGroup).Add", "internal/race.ReleaseMerge", "internal/race.Disable", "internal/race.Enable", "internal/synctest.IsInBubble", "internal/synctest.Associate[sync.WaitGroup]", "sync.fatal", "sync/atomic.OrUint64", "sync/atomic.AddUint64", "internal/race.Read", "sync/atomic.LoadUint64", "sync/atomic.StoreUint64", "internal/synctest.Disassociate[sync.WaitGroup]", "sync.runtime_Semrelease", "(*sync.WaitGroup).Done", "(*sync.WaitGroup).Wait", "internal/race.Acquire", "internal/synctest.IsAssociated[sync.WaitGroup]", "sync/atomic.CompareAndSwapUint64", "internal/race.Write", "sync.runtime_SemacquireWaitGroup"], unfollowed := true, recurses := true, leaving := true, apart := false }
def DispatchFairsSaid : Prop := dispatchFairsRow.holds Tryz.pinned (OpenSpec.ofChange dispatchFairsSpec)

/-- ITS FALSE NEIGHBOUR: 'it returns false'. Refute it at one input. -/
def dispatchFairsWrong : ChangeSpec := { name := "dispatchFairs", fn := fun _ => fun
  | [d1, d2, d3] => { results := [.lit (.bool false)], args := [d1, d2, d3] }
  | _ => none }
def DispatchFairsWrongFalsely : Prop := dispatchFairsRow.holds Tryz.pinned (OpenSpec.ofChange dispatchFairsWrong)

/-- 'fiacrelaw05.DispatchHalls': WHATEVER THE INPUT: true; the input reads as it did. -/
def dispatchHallsSpec : ChangeSpec := { name := "dispatchHalls", fn := fun _ => fun
  | [d1, d2] => { results := [.lit (.bool true)], args := [d1, d2] }
  | _ => none }
def dispatchHallsRow : OpenClaim := { program := "ythpkmilhiganjaagreat", sum := "04a3ff7348ff463f40c5f269b17b6a030871d3e21ee7a781ad9d706db64a7dc2", func := "fiacre/fiacrelaw05.DispatchHalls", spec := "dispatchHalls", inPlace := ["(*sync.WaitGroup).Add", "internal/race.ReleaseMerge", "internal/race.Disable", "internal/race.Enable", "internal/synctest.IsInBubble", "internal/synctest.Associate[sync.WaitGroup]", "sync.fatal", "sync/atomic.OrUint64", "sync/atomic.AddUint64", "internal/race.Read", "sync/atomic.LoadUint64", "sync/atomic.StoreUint64", "internal/synctest.Disassociate[sync.WaitGroup]", "sync.runtime_Semrelease", "(*sync.WaitGroup).Done", "(*sync.WaitGroup).Wait", "internal/race.Acquire", "internal/synctest.IsAssociated[sync.WaitGroup]", "sync/atomic.CompareAndSwapUint64", "internal/race.Write", "sync.runtime_SemacquireWaitGroup"], unfollowed := true, recurses := true, leaving := true, apart := false }
def DispatchHallsSaid : Prop := dispatchHallsRow.holds Tryz.pinned (OpenSpec.ofChange dispatchHallsSpec)

/-- ITS FALSE NEIGHBOUR: 'it returns false'. Refute it at one input. -/
def dispatchHallsWrong : ChangeSpec := { name := "dispatchHalls", fn := fun _ => fun
  | [d1, d2] => { results := [.lit (.bool false)], args := [d1, d2] }
  | _ => none }
def DispatchHallsWrongFalsely : Prop := dispatchHallsRow.holds Tryz.pinned (OpenSpec.ofChange dispatchHallsWrong)

/-- 'fiacrelaw05.DispatchRounds': WHATEVER THE INPUT: true; the input reads as it did. -/
def dispatchRoundsSpec : ChangeSpec := { name := "dispatchRounds", fn := fun _ => fun
  | [d1, d2, d3] => { results := [.lit (.bool true)], args := [d1, d2, d3] }
  | _ => none }
def dispatchRoundsRow : OpenClaim := { program := "ythpkmilhiganjaagreat", sum := "04a3ff7348ff463f40c5f269b17b6a030871d3e21ee7a781ad9d706db64a7dc2", func := "fiacre/fiacrelaw05.DispatchRounds", spec := "dispatchRounds", inPlace := ["(*sync.WaitGroup).Add", "internal/race.ReleaseMerge", "internal/race.Disable", "internal/race.Enable", "internal/synctest.IsInBubble", "internal/synctest.Associate[sync.WaitGroup]", "sync.fatal", "sync/atomic.OrUint64", "sync/atomic.AddUint64", "internal/race.Read", "sync/atomic.LoadUint64", "sync/atomic.StoreUint64", "internal/synctest.Disassociate[sync.WaitGroup]", "sync.runtime_Semrelease", "(*sync.WaitGroup).Done", "(*sync.WaitGroup).Wait", "internal/race.Acquire", "internal/synctest.IsAssociated[sync.WaitGroup]", "sync/atomic.CompareAndSwapUint64", "internal/race.Write", "sync.runtime_SemacquireWaitGroup"], unfollowed := true, recurses := true, leaving := true, apart := false }
def DispatchRoundsSaid : Prop := dispatchRoundsRow.holds Tryz.pinned (OpenSpec.ofChange dispatchRoundsSpec)

/-- ITS FALSE NEIGHBOUR: 'it returns false'. Refute it at one input. -/
def dispatchRoundsWrong : ChangeSpec := { name := "dispatchRounds", fn := fun _ => fun
  | [d1, d2, d3] => { results := [.lit (.bool false)], args := [d1, d2, d3] }
  | _ => none }
def DispatchRoundsWrongFalsely : Prop := dispatchRoundsRow.holds Tryz.pinned (OpenSpec.ofChange dispatchRoundsWrong)

/-- 'fiacrelaw05.DispatchHall': WHATEVER THE INPUT: true; the input reads as it did. -/
def dispatchHallSpec : ChangeSpec := { name := "dispatchHall", fn := fun _ => fun
  | [d] => { results := [.lit (.bool true)], args := [d] }
  | _ => none }
def dispatchHallRow : OpenClaim := { program := "ythpkmilhiganjaagreat", sum := "04a3ff7348ff463f40c5f269b17b6a030871d3e21ee7a781ad9d706db64a7dc2", func := "fiacre/fiacrelaw05.DispatchHall", spec := "dispatchHall", inPlace := ["(*sync.WaitGroup).Add", "internal/race.ReleaseMerge", "internal/race.Disable", "internal/race.Enable", "internal/synctest.IsInBubble", "internal/synctest.Associate[sync.WaitGroup]", "sync.fatal", "sync/atomic.OrUint64", "sync/atomic.AddUint64", "internal/race.Read", "sync/atomic.LoadUint64", "sync/atomic.StoreUint64", "internal/synctest.Disassociate[sync.WaitGroup]", "sync.runtime_Semrelease", "(*sync.WaitGroup).Done", "(*sync.WaitGroup).Wait", "internal/race.Acquire", "internal/synctest.IsAssociated[sync.WaitGroup]", "sync/atomic.CompareAndSwapUint64", "internal/race.Write", "sync.runtime_SemacquireWaitGroup"], unfollowed := true, recurses := true, leaving := true, apart := false }
def DispatchHallSaid : Prop := dispatchHallRow.holds Tryz.pinned (OpenSpec.ofChange dispatchHallSpec)

/-- ITS FALSE NEIGHBOUR: 'it returns false'. Refute it at one input. -/
def dispatchHallWrong : ChangeSpec := { name := "dispatchHall", fn := fun _ => fun
  | [d] => { results := [.lit (.bool false)], args := [d] }
  | _ => none }
def DispatchHallWrongFalsely : Prop := dispatchHallRow.holds Tryz.pinned (OpenSpec.ofChange dispatchHallWrong)

/-- 'fiacrelaw05.DispatchDeclines': WHATEVER THE INPUT: true; the input reads as it did. -/
def dispatchDeclinesSpec : ChangeSpec := { name := "dispatchDeclines", fn := fun _ => fun
  | [d1, d2, d3] => { results := [.lit (.bool true)], args := [d1, d2, d3] }
  | _ => none }
def dispatchDeclinesRow : OpenClaim := { program := "ythpkmilhiganjaagreat", sum := "04a3ff7348ff463f40c5f269b17b6a030871d3e21ee7a781ad9d706db64a7dc2", func := "fiacre/fiacrelaw05.DispatchDeclines", spec := "dispatchDeclines", inPlace := ["(*sync.WaitGroup).Add", "internal/race.ReleaseMerge", "internal/race.Disable", "internal/race.Enable", "internal/synctest.IsInBubble", "internal/synctest.Associate[sync.WaitGroup]", "sync.fatal", "sync/atomic.OrUint64", "sync/atomic.AddUint64", "internal/race.Read", "sync/atomic.LoadUint64", "sync/atomic.StoreUint64", "internal/synctest.Disassociate[sync.WaitGroup]", "sync.runtime_Semrelease", "(*sync.WaitGroup).Done", "(*sync.WaitGroup).Wait", "internal/race.Acquire", "internal/synctest.IsAssociated[sync.WaitGroup]", "sync/atomic.CompareAndSwapUint64", "internal/race.Write", "sync.runtime_SemacquireWaitGroup"], unfollowed := true, recurses := true, leaving := true, apart := false }
def DispatchDeclinesSaid : Prop := dispatchDeclinesRow.holds Tryz.pinned (OpenSpec.ofChange dispatchDeclinesSpec)

/-- ITS FALSE NEIGHBOUR: 'it returns false'. Refute it at one input. -/
def dispatchDeclinesWrong : ChangeSpec := { name := "dispatchDeclines", fn := fun _ => fun
  | [d1, d2, d3] => { results := [.lit (.bool false)], args := [d1, d2, d3] }
  | _ => none }
def DispatchDeclinesWrongFalsely : Prop := dispatchDeclinesRow.holds Tryz.pinned (OpenSpec.ofChange dispatchDeclinesWrong)

/-- 'fiacrelaw05.DispatchPlans': WHATEVER THE INPUT: true; the input reads as it did. -/
def dispatchPlansSpec : ChangeSpec := { name := "dispatchPlans", fn := fun _ => fun
  | [d1, d2] => { results := [.lit (.bool true)], args := [d1, d2] }
  | _ => none }
def dispatchPlansRow : OpenClaim := { program := "ythpkmilhiganjaagreat", sum := "04a3ff7348ff463f40c5f269b17b6a030871d3e21ee7a781ad9d706db64a7dc2", func := "fiacre/fiacrelaw05.DispatchPlans", spec := "dispatchPlans", inPlace := ["(*sync.WaitGroup).Add", "internal/race.ReleaseMerge", "internal/race.Disable", "internal/race.Enable", "internal/synctest.IsInBubble", "internal/synctest.Associate[sync.WaitGroup]", "sync.fatal", "sync/atomic.OrUint64", "sync/atomic.AddUint64", "internal/race.Read", "sync/atomic.LoadUint64", "sync/atomic.StoreUint64", "internal/synctest.Disassociate[sync.WaitGroup]", "sync.runtime_Semrelease", "(*sync.WaitGroup).Done", "(*sync.WaitGroup).Wait", "internal/race.Acquire", "internal/synctest.IsAssociated[sync.WaitGroup]", "sync/atomic.CompareAndSwapUint64", "internal/race.Write", "sync.runtime_SemacquireWaitGroup"], unfollowed := true, recurses := true, leaving := true, apart := false }
def DispatchPlansSaid : Prop := dispatchPlansRow.holds Tryz.pinned (OpenSpec.ofChange dispatchPlansSpec)

/-- ITS FALSE NEIGHBOUR: 'it returns false'. Refute it at one input. -/
def dispatchPlansWrong : ChangeSpec := { name := "dispatchPlans", fn := fun _ => fun
  | [d1, d2] => { results := [.lit (.bool false)], args := [d1, d2] }
  | _ => none }
def DispatchPlansWrongFalsely : Prop := dispatchPlansRow.holds Tryz.pinned (OpenSpec.ofChange dispatchPlansWrong)

/- THE SECOND FORM. 'bulk': how many values and letters a reading holds, each counted each time it is reached (what is shared counts as often as it is met; a slice's spare places count too). A statement '..UptoSaid' is the law's where the arguments, and the package variables that the reading takes, are together of bulk at most 1048576: NARROWER than '..Said'. Prove '..Said' where nothing that the law and all that it calls make is longer than what came in: it says more and counts as full. Else prove '..UptoSaid'. A law counts once. -/
mutual
def uptoBulk {H : Type} : DataW H → Nat
  | .lit (.string bytes) => bytes.length + 1
  | .lit _ => 1
  | .nil => 1
  | .ptr d => uptoBulk d + 1
  | .slice elems spare => uptoBulkAll elems + uptoBulkAll spare + 1
  | .agg parts => uptoBulkAll parts + 1
  | .iface _ d => uptoBulk d + 1
  | .map entries => uptoBulkEntries entries + 1
  | .held _ => 1
def uptoBulkAll {H : Type} : List (DataW H) → Nat
  | [] => 0
  | d :: r => uptoBulk d + uptoBulkAll r
def uptoBulkEntries {H : Type} : List (Lit × DataW H) → Nat
  | [] => 0
  | x :: r => uptoBulkEntry x + uptoBulkEntries r
def uptoBulkEntry {H : Type} : Lit × DataW H → Nat
  | (.string bytes, d) => bytes.length + uptoBulk d + 1
  | (_, d) => uptoBulk d + 1
 end
def uptoSmall : (H : Type) → List (DataW H) → Bool := fun _ ds => decide (uptoBulkAll ds ≤ 1048576)
def OpenSpec.upto (s : _root_.Go.ChangeSpec) : _root_.Go.OpenSpec := { _root_.Go.OpenSpec.ofChange s with cond := some uptoSmall }

/-- 'fiacrelaw05.DispatchPriced', WHERE WHAT IT READS IS OF BULK AT MOST 1048576: true; the input reads as it did. -/
def dispatchPricedUptoRow : OpenClaim := { program := "ythpkmilhiganjaagreat", sum := "04a3ff7348ff463f40c5f269b17b6a030871d3e21ee7a781ad9d706db64a7dc2", func := "fiacre/fiacrelaw05.DispatchPriced", spec := "dispatchPriced", inPlace := ["(*sync.WaitGroup).Add", "internal/race.ReleaseMerge", "internal/race.Disable", "internal/race.Enable", "internal/synctest.IsInBubble", "internal/synctest.Associate[sync.WaitGroup]", "sync.fatal", "sync/atomic.OrUint64", "sync/atomic.AddUint64", "internal/race.Read", "sync/atomic.LoadUint64", "sync/atomic.StoreUint64", "internal/synctest.Disassociate[sync.WaitGroup]", "sync.runtime_Semrelease", "(*sync.WaitGroup).Done", "(*sync.WaitGroup).Wait", "internal/race.Acquire", "internal/synctest.IsAssociated[sync.WaitGroup]", "sync/atomic.CompareAndSwapUint64", "internal/race.Write", "sync.runtime_SemacquireWaitGroup"], unfollowed := true, recurses := true, leaving := true, apart := false, narrowed := true }
def DispatchPricedUptoSaid : Prop := dispatchPricedUptoRow.holds Tryz.pinned (OpenSpec.upto dispatchPricedSpec)

/-- 'fiacrelaw05.DispatchProves', WHERE WHAT IT READS IS OF BULK AT MOST 1048576: true; the input reads as it did. -/
def dispatchProvesUptoRow : OpenClaim := { program := "ythpkmilhiganjaagreat", sum := "04a3ff7348ff463f40c5f269b17b6a030871d3e21ee7a781ad9d706db64a7dc2", func := "fiacre/fiacrelaw05.DispatchProves", spec := "dispatchProves", inPlace := ["(*sync.WaitGroup).Add", "internal/race.ReleaseMerge", "internal/race.Disable", "internal/race.Enable", "internal/synctest.IsInBubble", "internal/synctest.Associate[sync.WaitGroup]", "sync.fatal", "sync/atomic.OrUint64", "sync/atomic.AddUint64", "internal/race.Read", "sync/atomic.LoadUint64", "sync/atomic.StoreUint64", "internal/synctest.Disassociate[sync.WaitGroup]", "sync.runtime_Semrelease", "(*sync.WaitGroup).Done", "(*sync.WaitGroup).Wait", "internal/race.Acquire", "internal/synctest.IsAssociated[sync.WaitGroup]", "sync/atomic.CompareAndSwapUint64", "internal/race.Write", "sync.runtime_SemacquireWaitGroup"], unfollowed := true, recurses := true, leaving := true, apart := false, narrowed := true }
def DispatchProvesUptoSaid : Prop := dispatchProvesUptoRow.holds Tryz.pinned (OpenSpec.upto dispatchProvesSpec)

/-- 'fiacrelaw05.DispatchBest', WHERE WHAT IT READS IS OF BULK AT MOST 1048576: true; the input reads as it did. -/
def dispatchBestUptoRow : OpenClaim := { program := "ythpkmilhiganjaagreat", sum := "04a3ff7348ff463f40c5f269b17b6a030871d3e21ee7a781ad9d706db64a7dc2", func := "fiacre/fiacrelaw05.DispatchBest", spec := "dispatchBest", inPlace := ["(*sync.WaitGroup).Add", "internal/race.ReleaseMerge", "internal/race.Disable", "internal/race.Enable", "internal/synctest.IsInBubble", "internal/synctest.Associate[sync.WaitGroup]", "sync.fatal", "sync/atomic.OrUint64", "sync/atomic.AddUint64", "internal/race.Read", "sync/atomic.LoadUint64", "sync/atomic.StoreUint64", "internal/synctest.Disassociate[sync.WaitGroup]", "sync.runtime_Semrelease", "(*sync.WaitGroup).Done", "(*sync.WaitGroup).Wait", "internal/race.Acquire", "internal/synctest.IsAssociated[sync.WaitGroup]", "sync/atomic.CompareAndSwapUint64", "internal/race.Write", "sync.runtime_SemacquireWaitGroup"], unfollowed := true, recurses := true, leaving := true, apart := false, narrowed := true }
def DispatchBestUptoSaid : Prop := dispatchBestUptoRow.holds Tryz.pinned (OpenSpec.upto dispatchBestSpec)

/-- 'fiacrelaw05.DispatchMost', WHERE WHAT IT READS IS OF BULK AT MOST 1048576: true; the input reads as it did. -/
def dispatchMostUptoRow : OpenClaim := { program := "ythpkmilhiganjaagreat", sum := "04a3ff7348ff463f40c5f269b17b6a030871d3e21ee7a781ad9d706db64a7dc2", func := "fiacre/fiacrelaw05.DispatchMost", spec := "dispatchMost", inPlace := ["(*sync.WaitGroup).Add", "internal/race.ReleaseMerge", "internal/race.Disable", "internal/race.Enable", "internal/synctest.IsInBubble", "internal/synctest.Associate[sync.WaitGroup]", "sync.fatal", "sync/atomic.OrUint64", "sync/atomic.AddUint64", "internal/race.Read", "sync/atomic.LoadUint64", "sync/atomic.StoreUint64", "internal/synctest.Disassociate[sync.WaitGroup]", "sync.runtime_Semrelease", "(*sync.WaitGroup).Done", "(*sync.WaitGroup).Wait", "internal/race.Acquire", "internal/synctest.IsAssociated[sync.WaitGroup]", "sync/atomic.CompareAndSwapUint64", "internal/race.Write", "sync.runtime_SemacquireWaitGroup"], unfollowed := true, recurses := true, leaving := true, apart := false, narrowed := true }
def DispatchMostUptoSaid : Prop := dispatchMostUptoRow.holds Tryz.pinned (OpenSpec.upto dispatchMostSpec)

/-- 'fiacrelaw05.DispatchRolls', WHERE WHAT IT READS IS OF BULK AT MOST 1048576: true; the input reads as it did. -/
def dispatchRollsUptoRow : OpenClaim := { program := "ythpkmilhiganjaagreat", sum := "04a3ff7348ff463f40c5f269b17b6a030871d3e21ee7a781ad9d706db64a7dc2", func := "fiacre/fiacrelaw05.DispatchRolls", spec := "dispatchRolls", inPlace := ["(*sync.WaitGroup).Add", "internal/race.ReleaseMerge", "internal/race.Disable", "internal/race.Enable", "internal/synctest.IsInBubble", "internal/synctest.Associate[sync.WaitGroup]", "sync.fatal", "sync/atomic.OrUint64", "sync/atomic.AddUint64", "internal/race.Read", "sync/atomic.LoadUint64", "sync/atomic.StoreUint64", "internal/synctest.Disassociate[sync.WaitGroup]", "sync.runtime_Semrelease", "(*sync.WaitGroup).Done", "(*sync.WaitGroup).Wait", "internal/race.Acquire", "internal/synctest.IsAssociated[sync.WaitGroup]", "sync/atomic.CompareAndSwapUint64", "internal/race.Write", "sync.runtime_SemacquireWaitGroup"], unfollowed := true, recurses := true, leaving := true, apart := false, narrowed := true }
def DispatchRollsUptoSaid : Prop := dispatchRollsUptoRow.holds Tryz.pinned (OpenSpec.upto dispatchRollsSpec)

/-- 'fiacrelaw05.DispatchLeaves', WHERE WHAT IT READS IS OF BULK AT MOST 1048576: true; the input reads as it did. -/
def dispatchLeavesUptoRow : OpenClaim := { program := "ythpkmilhiganjaagreat", sum := "04a3ff7348ff463f40c5f269b17b6a030871d3e21ee7a781ad9d706db64a7dc2", func := "fiacre/fiacrelaw05.DispatchLeaves", spec := "dispatchLeaves", inPlace := ["(*sync.WaitGroup).Add", "internal/race.ReleaseMerge", "internal/race.Disable", "internal/race.Enable", "internal/synctest.IsInBubble", "internal/synctest.Associate[sync.WaitGroup]", "sync.fatal", "sync/atomic.OrUint64", "sync/atomic.AddUint64", "internal/race.Read", "sync/atomic.LoadUint64", "sync/atomic.StoreUint64", "internal/synctest.Disassociate[sync.WaitGroup]", "sync.runtime_Semrelease", "(*sync.WaitGroup).Done", "(*sync.WaitGroup).Wait", "internal/race.Acquire", "internal/synctest.IsAssociated[sync.WaitGroup]", "sync/atomic.CompareAndSwapUint64", "internal/race.Write", "sync.runtime_SemacquireWaitGroup"], unfollowed := true, recurses := true, leaving := true, apart := false, narrowed := true }
def DispatchLeavesUptoSaid : Prop := dispatchLeavesUptoRow.holds Tryz.pinned (OpenSpec.upto dispatchLeavesSpec)

/-- 'fiacrelaw05.DispatchFairs', WHERE WHAT IT READS IS OF BULK AT MOST 1048576: true; the input reads as it did. -/
def dispatchFairsUptoRow : OpenClaim := { program := "ythpkmilhiganjaagreat", sum := "04a3ff7348ff463f40c5f269b17b6a030871d3e21ee7a781ad9d706db64a7dc2", func := "fiacre/fiacrelaw05.DispatchFairs", spec := "dispatchFairs", inPlace := ["(*sync.WaitGroup).Add", "internal/race.ReleaseMerge", "internal/race.Disable", "internal/race.Enable", "internal/synctest.IsInBubble", "internal/synctest.Associate[sync.WaitGroup]", "sync.fatal", "sync/atomic.OrUint64", "sync/atomic.AddUint64", "internal/race.Read", "sync/atomic.LoadUint64", "sync/atomic.StoreUint64", "internal/synctest.Disassociate[sync.WaitGroup]", "sync.runtime_Semrelease", "(*sync.WaitGroup).Done", "(*sync.WaitGroup).Wait", "internal/race.Acquire", "internal/synctest.IsAssociated[sync.WaitGroup]", "sync/atomic.CompareAndSwapUint64", "internal/race.Write", "sync.runtime_SemacquireWaitGroup"], unfollowed := true, recurses := true, leaving := true, apart := false, narrowed := true }
def DispatchFairsUptoSaid : Prop := dispatchFairsUptoRow.holds Tryz.pinned (OpenSpec.upto dispatchFairsSpec)

/-- 'fiacrelaw05.DispatchHalls', WHERE WHAT IT READS IS OF BULK AT MOST 1048576: true; the input reads as it did. -/
def dispatchHallsUptoRow : OpenClaim := { program := "ythpkmilhiganjaagreat", sum := "04a3ff7348ff463f40c5f269b17b6a030871d3e21ee7a781ad9d706db64a7dc2", func := "fiacre/fiacrelaw05.DispatchHalls", spec := "dispatchHalls", inPlace := ["(*sync.WaitGroup).Add", "internal/race.ReleaseMerge", "internal/race.Disable", "internal/race.Enable", "internal/synctest.IsInBubble", "internal/synctest.Associate[sync.WaitGroup]", "sync.fatal", "sync/atomic.OrUint64", "sync/atomic.AddUint64", "internal/race.Read", "sync/atomic.LoadUint64", "sync/atomic.StoreUint64", "internal/synctest.Disassociate[sync.WaitGroup]", "sync.runtime_Semrelease", "(*sync.WaitGroup).Done", "(*sync.WaitGroup).Wait", "internal/race.Acquire", "internal/synctest.IsAssociated[sync.WaitGroup]", "sync/atomic.CompareAndSwapUint64", "internal/race.Write", "sync.runtime_SemacquireWaitGroup"], unfollowed := true, recurses := true, leaving := true, apart := false, narrowed := true }
def DispatchHallsUptoSaid : Prop := dispatchHallsUptoRow.holds Tryz.pinned (OpenSpec.upto dispatchHallsSpec)

/-- 'fiacrelaw05.DispatchRounds', WHERE WHAT IT READS IS OF BULK AT MOST 1048576: true; the input reads as it did. -/
def dispatchRoundsUptoRow : OpenClaim := { program := "ythpkmilhiganjaagreat", sum := "04a3ff7348ff463f40c5f269b17b6a030871d3e21ee7a781ad9d706db64a7dc2", func := "fiacre/fiacrelaw05.DispatchRounds", spec := "dispatchRounds", inPlace := ["(*sync.WaitGroup).Add", "internal/race.ReleaseMerge", "internal/race.Disable", "internal/race.Enable", "internal/synctest.IsInBubble", "internal/synctest.Associate[sync.WaitGroup]", "sync.fatal", "sync/atomic.OrUint64", "sync/atomic.AddUint64", "internal/race.Read", "sync/atomic.LoadUint64", "sync/atomic.StoreUint64", "internal/synctest.Disassociate[sync.WaitGroup]", "sync.runtime_Semrelease", "(*sync.WaitGroup).Done", "(*sync.WaitGroup).Wait", "internal/race.Acquire", "internal/synctest.IsAssociated[sync.WaitGroup]", "sync/atomic.CompareAndSwapUint64", "internal/race.Write", "sync.runtime_SemacquireWaitGroup"], unfollowed := true, recurses := true, leaving := true, apart := false, narrowed := true }
def DispatchRoundsUptoSaid : Prop := dispatchRoundsUptoRow.holds Tryz.pinned (OpenSpec.upto dispatchRoundsSpec)

/-- 'fiacrelaw05.DispatchHall', WHERE WHAT IT READS IS OF BULK AT MOST 1048576: true; the input reads as it did. -/
def dispatchHallUptoRow : OpenClaim := { program := "ythpkmilhiganjaagreat", sum := "04a3ff7348ff463f40c5f269b17b6a030871d3e21ee7a781ad9d706db64a7dc2", func := "fiacre/fiacrelaw05.DispatchHall", spec := "dispatchHall", inPlace := ["(*sync.WaitGroup).Add", "internal/race.ReleaseMerge", "internal/race.Disable", "internal/race.Enable", "internal/synctest.IsInBubble", "internal/synctest.Associate[sync.WaitGroup]", "sync.fatal", "sync/atomic.OrUint64", "sync/atomic.AddUint64", "internal/race.Read", "sync/atomic.LoadUint64", "sync/atomic.StoreUint64", "internal/synctest.Disassociate[sync.WaitGroup]", "sync.runtime_Semrelease", "(*sync.WaitGroup).Done", "(*sync.WaitGroup).Wait", "internal/race.Acquire", "internal/synctest.IsAssociated[sync.WaitGroup]", "sync/atomic.CompareAndSwapUint64", "internal/race.Write", "sync.runtime_SemacquireWaitGroup"], unfollowed := true, recurses := true, leaving := true, apart := false, narrowed := true }
def DispatchHallUptoSaid : Prop := dispatchHallUptoRow.holds Tryz.pinned (OpenSpec.upto dispatchHallSpec)

/-- 'fiacrelaw05.DispatchDeclines', WHERE WHAT IT READS IS OF BULK AT MOST 1048576: true; the input reads as it did. -/
def dispatchDeclinesUptoRow : OpenClaim := { program := "ythpkmilhiganjaagreat", sum := "04a3ff7348ff463f40c5f269b17b6a030871d3e21ee7a781ad9d706db64a7dc2", func := "fiacre/fiacrelaw05.DispatchDeclines", spec := "dispatchDeclines", inPlace := ["(*sync.WaitGroup).Add", "internal/race.ReleaseMerge", "internal/race.Disable", "internal/race.Enable", "internal/synctest.IsInBubble", "internal/synctest.Associate[sync.WaitGroup]", "sync.fatal", "sync/atomic.OrUint64", "sync/atomic.AddUint64", "internal/race.Read", "sync/atomic.LoadUint64", "sync/atomic.StoreUint64", "internal/synctest.Disassociate[sync.WaitGroup]", "sync.runtime_Semrelease", "(*sync.WaitGroup).Done", "(*sync.WaitGroup).Wait", "internal/race.Acquire", "internal/synctest.IsAssociated[sync.WaitGroup]", "sync/atomic.CompareAndSwapUint64", "internal/race.Write", "sync.runtime_SemacquireWaitGroup"], unfollowed := true, recurses := true, leaving := true, apart := false, narrowed := true }
def DispatchDeclinesUptoSaid : Prop := dispatchDeclinesUptoRow.holds Tryz.pinned (OpenSpec.upto dispatchDeclinesSpec)

/-- 'fiacrelaw05.DispatchPlans', WHERE WHAT IT READS IS OF BULK AT MOST 1048576: true; the input reads as it did. -/
def dispatchPlansUptoRow : OpenClaim := { program := "ythpkmilhiganjaagreat", sum := "04a3ff7348ff463f40c5f269b17b6a030871d3e21ee7a781ad9d706db64a7dc2", func := "fiacre/fiacrelaw05.DispatchPlans", spec := "dispatchPlans", inPlace := ["(*sync.WaitGroup).Add", "internal/race.ReleaseMerge", "internal/race.Disable", "internal/race.Enable", "internal/synctest.IsInBubble", "internal/synctest.Associate[sync.WaitGroup]", "sync.fatal", "sync/atomic.OrUint64", "sync/atomic.AddUint64", "internal/race.Read", "sync/atomic.LoadUint64", "sync/atomic.StoreUint64", "internal/synctest.Disassociate[sync.WaitGroup]", "sync.runtime_Semrelease", "(*sync.WaitGroup).Done", "(*sync.WaitGroup).Wait", "internal/race.Acquire", "internal/synctest.IsAssociated[sync.WaitGroup]", "sync/atomic.CompareAndSwapUint64", "internal/race.Write", "sync.runtime_SemacquireWaitGroup"], unfollowed := true, recurses := true, leaving := true, apart := false, narrowed := true }
def DispatchPlansUptoSaid : Prop := dispatchPlansUptoRow.holds Tryz.pinned (OpenSpec.upto dispatchPlansSpec)

end Rows
end Go.Proofs.YthpkmilhiganjaaGreat
