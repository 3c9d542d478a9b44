/- Contracts of functions for this claim: lemmas alone. -/
import Derived.Test.YtchpdgojiibjcaaP33
import Derived.Test.YtchpdgojiibjcaaP31
set_option linter.unusedSimpArgs false
set_option linter.unusedVariables false
namespace Go.Proofs.Ytchpdgojiibjcaa
open Go Go.Fi
set_option maxRecDepth 20000

theorem ex_best : bestE exMap exAlone exBob = ((1, 2, 200), 0) := by decide +kernel
theorem shareAwake_c : RealCall Try.prog 7 [] (.bool true) true := by
  have c1 := town_c
  have c2 := ride_ex_c
  have c3 := alone_c
  have c4 := bob_c
  have c5 := timesOf_ok exMap ex_grid exRide ex_ride_in ex_check
  have c6 := bestInsert_c exMap ex_grid exAlone ex_alone_in (by decide) exBob (by decide)
  rw [ex_times] at c5
  rw [ex_best] at c6
  have c9 : RealCall Try.prog 33 [.sl 4 [.int .i64 0, .int .i64 100, .int .i64 200, .int .i64 200], .sl 4 [.int .i64 0, .int .i64 100, .int .i64 200, .int .i64 200]] (.bool true) true := ints_c [0, 100, 200, 200] [0, 100, 200, 200] (by decide)
  generalize aMap exMap = M at *
  generalize aPlan exRide = Q at *
  generalize aPlan exAlone = A at *
  generalize PV.agg (cRider exBob) = B at *
  unfold bestEP at c6
  simp [ints] at c5 c6
  refine realcall_intro Try.func7 (by kernel_rfl) rfl (Nat.le_of_ble_eq_true (by kernel_rfl)) ?_
  simp only [Try.results7, Try.ntmps7]
  repeat' (first | (with_reducible first | refine awp_seq ?_ | refine awp_blockS ?_ | refine awp_blockC ?_ | refine awp_blockR ?_ | refine awp_skip ?_ | refine awp_ret ?_ | refine awp_exit ?_ | refine awp_region ?_ | refine awp_condM ?_ | refine And.intro ?_ ?_ | apply gQ_merge | apply gE_merge | exact EqV_w | exact EqE_w | exact EqV_ptr | exact EqE_ptr | exact EqV_msl | exact EqE_msl | exact EqV_agg | exact EqE_agg | exact EqV_fn | exact EqE_fn | exact EqV_gd | exact EqE_gd | refine gM_splitN ?_ ?_ | refine gM_split ?_ ?_ |  refine condM_splitDN ?_ ?_ | refine condM_splitD ?_ ?_ | refine condM_splitN ?_ ?_ | refine condM_split ?_ ?_ | refine condM_any ?_ ?_ | refine cw (c1) ?_ | refine cw (c2) ?_ | refine cw (c3) ?_ | refine cw (c4) ?_ | refine cw (c5) ?_ | refine cw (c6) ?_ | refine cw (c9) ?_ | intro _) | (simp [*, repl]) | (refine cw_eq (c1) ?_ ?_; (· (simp [*]; done))) | (refine cw_eq (c2) ?_ ?_; (· (simp [*]; done))) | (refine cw_eq (c3) ?_ ?_; (· (simp [*]; done))) | (refine cw_eq (c4) ?_ ?_; (· (simp [*]; done))) | (refine cw_eq (c5) ?_ ?_; (· (simp [*]; done))) | (refine cw_eq (c6) ?_ ?_; (· (simp [*]; done))) | (refine cw_eq (c9) ?_ ?_; (· (simp [*]; done))))
end Go.Proofs.Ytchpdgojiibjcaa
