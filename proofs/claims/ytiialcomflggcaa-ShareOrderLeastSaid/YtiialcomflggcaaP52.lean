/- Contracts of functions for this claim: lemmas alone. -/
import Derived.Test.YtiialcomflggcaaP51
import Derived.Test.YtiialcomflggcaaP38
set_option linter.unusedSimpArgs false
set_option linter.unusedVariables false
namespace Go.Proofs.Ytiialcomflggcaa
open Go Go.Fi
set_option maxRecDepth 20000

theorem insS_in {p : Plan} (hp : PlanIn p) {r : Rider} (hr : r.name.size < 1000000) (i o : Nat) (h1 : p.riders.length < 9000) (h2 : p.stops.length < 5000) : PlanIn (insS p r i o) := by
  have hrl : (insS p r i o).riders.length = p.riders.length + 1 := by simp [insS]
  refine ⟨by omega, by rw [insS_stops_len]; omega, fun k hk => ?_⟩
  rw [hrl] at hk
  show (nth (p.riders ++ [r]) k).name.size < 1000000
  by_cases e : k < p.riders.length
  · rw [riders_app p r e]; exact hp.names k e
  · have e : k = p.riders.length := by omega
    subst e
    rw [nth_app_one]; exact hr
theorem keepsS_false {m : Grid} {q : Plan} : (brokenS m q (timesS m q noDelay) (seatsS q)).2 = !keepsS m q := by unfold keepsS; rw [Bool.not_not]
end Go.Proofs.Ytiialcomflggcaa

