/- Contracts of functions for this claim: lemmas alone. -/
import Derived.Test.YtgoemokfpfnlkaaP88
import Derived.Test.YtgoemokfpfnlkaaP55
import Derived.Test.YtgoemokfpfnlkaaP13
set_option linter.unusedSimpArgs false
set_option linter.unusedVariables false
namespace Go.Proofs.Ytgoemokfpfnlkaa
open Go Go.Fi
set_option maxRecDepth 20000

theorem exR_c : RealCall Try.prog 16 [] (.agg (cRul exR)) true := by
  unfold cRul exR
  refine realcall_intro Try.func16 (by kernel_rfl) rfl (Nat.le_of_ble_eq_true (by kernel_rfl)) ?_
  simp only [Try.results16, Try.ntmps16]
  repeat' (first | (with_reducible first | refine awp_seq ?_ | refine awp_blockS ?_ | refine awp_blockC ?_ | refine awp_blockR ?_ | refine awp_skip ?_ | refine awp_ret ?_ | refine awp_exit ?_ | refine awp_region ?_ | refine awp_condM ?_ | refine And.intro ?_ ?_ | apply gQ_merge | apply gE_merge | exact EqV_w | exact EqE_w | exact EqV_ptr | exact EqE_ptr | exact EqV_msl | exact EqE_msl | exact EqV_agg | exact EqE_agg | exact EqV_fn | exact EqE_fn | exact EqV_gd | exact EqE_gd | refine gM_splitN ?_ ?_ | refine gM_split ?_ ?_ |  refine condM_splitDN ?_ ?_ | refine condM_splitD ?_ ?_ | refine condM_splitN ?_ ?_ | refine condM_split ?_ ?_ | refine condM_any ?_ ?_ | intro _) | (simp [*]))
theorem ann_c : RealCall Try.prog 17 [] (.sl 3 (cRecs ann)) true := by
  have e : cRecs ann = [.str annB, .int .i64 0, .int .i64 10000, .str annB, .int .i64 10500, .int .i64 15000, .str annB, .int .i64 16000, .int .i64 20000] := rfl
  rw [e]
  unfold annB
  refine realcall_intro Try.func17 (by kernel_rfl) rfl (Nat.le_of_ble_eq_true (by kernel_rfl)) ?_
  simp only [Try.results17, Try.ntmps17]
  repeat' (first | (with_reducible first | refine awp_seq ?_ | refine awp_blockS ?_ | refine awp_blockC ?_ | refine awp_blockR ?_ | refine awp_skip ?_ | refine awp_ret ?_ | refine awp_exit ?_ | refine awp_region ?_ | refine awp_condM ?_ | refine And.intro ?_ ?_ | apply gQ_merge | apply gE_merge | exact EqV_w | exact EqE_w | exact EqV_ptr | exact EqE_ptr | exact EqV_msl | exact EqE_msl | exact EqV_agg | exact EqE_agg | exact EqV_fn | exact EqE_fn | exact EqV_gd | exact EqE_gd | refine gM_splitN ?_ ?_ | refine gM_split ?_ ?_ |  refine condM_splitDN ?_ ?_ | refine condM_splitD ?_ ?_ | refine condM_splitN ?_ ?_ | refine condM_split ?_ ?_ | refine condM_any ?_ ?_ | intro _) | (simp [*]))
theorem exR_ok : RulOk exR := ⟨by decide, by decide, by decide, by decide, by decide, by decide⟩
theorem ann_k {P : Nat → Prop} (h0 : P 0) (h1 : P 1) (h2 : P 2) : ∀ k, k < ann.length → P k
  | 0, _ => h0
  | 1, _ => h1
  | 2, _ => h2
  | k + 3, h => absurd h (by show ¬ k + 3 < 3; omega)
theorem ann_ask : AskOk exR ann 20000 where
  rr := exR_ok
  ll := {
    len := by decide
    sz := ann_k (by decide) (by decide) (by decide)
    one := ann_k (by decide +kernel) (by decide +kernel) (by decide +kernel)
    drv := fun k _ hk => ann_k (P := fun k => (nth ann k).driver = (nth ann (k - 1)).driver) rfl rfl rfl k hk
    ord := fun k h0 hk => ann_k (P := fun k => 0 < k → (nth ann (k - 1)).to ≤ (nth ann k).frm) (fun h => absurd h (by decide)) (fun _ => by decide) (fun _ => by decide) k hk h0
    bd := ann_k (by decide) (by decide) (by decide) }
  bb := ⟨by decide, ann_k (by decide) (by decide) (by decide)⟩
  ss := by decide
  ee := by decide
  ff := ann_k (by decide +kernel) (by decide +kernel) (by decide +kernel)
set_option maxHeartbeats 4000000 in
theorem dutied_c : RealCall Try.prog 4 [] (.bool true) true := by
  have c1 := longest_c exR ann 20000 ann_ask
  have e1 := search_thr (fun n => !decide (brsS exR ann 20000 (n : Int) = 0)) 200001 12200 (by decide) (fun k hk => by
    have := brs_ann (k : Int) (by omega) (by omega)
    simp [this])
  rw [if_pos (by decide)] at e1
  rw [e1] at c1
  have c2 := allowed_c exR ann 20000 5000 13000 ann_ask (by decide) (by decide) (by decide)
  rw [if_neg (fun h => absurd ((brs_ann 13000 (by decide) (by decide)).1 h) (by decide)), if_pos ((brs_ann 5000 (by decide) (by decide)).2 (by decide))] at c2
  have c3 := exR_c
  have c4 := ann_c
  have e3 : ann.length = 3 := rfl
  rw [e3] at c1 c2
  generalize brsS exR ann 20000 13000 = q at *
  generalize cRecs ann = A at *
  generalize cRul exR = R at *
  unfold trp at c2
  clear e1
  refine realcall_intro Try.func4 (by kernel_rfl) rfl (Nat.le_of_ble_eq_true (by kernel_rfl)) ?_
  simp only [Try.results4, Try.ntmps4]
  repeat' (first | (with_reducible first | refine awp_seq ?_ | refine awp_blockS ?_ | refine awp_blockC ?_ | refine awp_blockR ?_ | refine awp_skip ?_ | refine awp_ret ?_ | refine awp_exit ?_ | refine awp_region ?_ | refine awp_condM ?_ | refine And.intro ?_ ?_ | apply gQ_merge | apply gE_merge | exact EqV_w | exact EqE_w | exact EqV_ptr | exact EqE_ptr | exact EqV_msl | exact EqE_msl | exact EqV_agg | exact EqE_agg | exact EqV_fn | exact EqE_fn | exact EqV_gd | exact EqE_gd | refine gM_splitN ?_ ?_ | refine gM_split ?_ ?_ |  refine condM_splitDN ?_ ?_ | refine condM_splitD ?_ ?_ | refine condM_splitN ?_ ?_ | refine condM_split ?_ ?_ | refine condM_any ?_ ?_ | refine cw (c3) ?_ | refine cw (c4) ?_ | refine cw (c1) ?_ | refine cw (c2) ?_ | intro _) | (simp [*]) | (refine cw_eq (c3) ?_ ?_; (· (simp [*]; done))) | (refine cw_eq (c4) ?_ ?_; (· (simp [*]; done))) | (refine cw_eq (c1) ?_ ?_; (· (simp [*]; done))) | (refine cw_eq (c2) ?_ ?_; (· (simp [*]; done))))
section
variable (n : Net) (x y at_ : Int) (r : Rul) (hA : RealCall Try.prog 4 [] (.bool true) true)
include hA
set_option maxHeartbeats 4000000 in
theorem du_few (c5 : RealCall Try.prog 5 [aNet n] (.bool false) true) : RealCall Try.prog 3 [aNet n, .agg [.int .i64 x, .int .i64 y, .int .i64 at_], .agg (cRul r)] (.bool true) true := by
  unfold aNet cNet cRul at *
  refine realcall_intro Try.func3 (by kernel_rfl) rfl (Nat.le_of_ble_eq_true (by kernel_rfl)) ?_
  simp only [Try.results3, Try.ntmps3]
  repeat' (first | (with_reducible first | refine awp_seq ?_ | refine awp_blockS ?_ | refine awp_blockC ?_ | refine awp_blockR ?_ | refine awp_skip ?_ | refine awp_ret ?_ | refine awp_exit ?_ | refine awp_region ?_ | refine awp_regionS (id := 5) [0, 1, 2, 3, 4, 5, 6, 7] [8, 9] [[], [], [], [], [], [], [.new 0], []] [[.new 0], []] mixed (by decide +kernel) ?_ | refine awp_regionD (id := 14) 9 mixed (by decide +kernel) ?_ | refine awp_regionS (id := 17) [0, 1, 2, 3, 4, 5, 6, 7, 8, 9] [10, 11] [[], [], [], [], [], [], [], [], [.new 0], []] [[.new 0], []] mixed (by decide +kernel) ?_ | refine awp_condM ?_ | refine And.intro ?_ ?_ | apply gQ_merge | apply gE_merge | exact EqV_w | exact EqE_w | exact EqV_ptr | exact EqE_ptr | exact EqV_msl | exact EqE_msl | exact EqV_agg | exact EqE_agg | exact EqV_fn | exact EqE_fn | exact EqV_gd | exact EqE_gd | refine gM_splitN ?_ ?_ | refine gM_split ?_ ?_ |  refine condM_splitDN ?_ ?_ | refine condM_splitD ?_ ?_ | refine condM_splitN ?_ ?_ | refine condM_split ?_ ?_ | refine condM_any ?_ ?_ | refine cw (hA) ?_ | refine cw (c5) ?_ | intro _) | (simp [*]) | (refine cw_eq (hA) ?_ ?_; (· (simp [*]; done))) | (refine cw_eq (c5) ?_ ?_; (· (simp [*]; done))))
set_option maxHeartbeats 4000000 in
theorem du_net (c5 : RealCall Try.prog 5 [aNet n] (.bool true) true) (ne : Int) (he : ne ≠ 0) (c6 : RealCall Try.prog 6 [aNet n] (.int .i64 ne) true) : RealCall Try.prog 3 [aNet n, .agg [.int .i64 x, .int .i64 y, .int .i64 at_], .agg (cRul r)] (.bool true) true := by
  unfold aNet cNet cRul at *
  refine realcall_intro Try.func3 (by kernel_rfl) rfl (Nat.le_of_ble_eq_true (by kernel_rfl)) ?_
  simp only [Try.results3, Try.ntmps3]
  repeat' (first | (with_reducible first | refine awp_seq ?_ | refine awp_blockS ?_ | refine awp_blockC ?_ | refine awp_blockR ?_ | refine awp_skip ?_ | refine awp_ret ?_ | refine awp_exit ?_ | refine awp_region ?_ | refine awp_regionS (id := 5) [0, 1, 2, 3, 4, 5, 6, 7] [8, 9] [[], [], [], [], [], [], [.new 0], []] [[.new 0], []] mixed (by decide +kernel) ?_ | refine awp_regionD (id := 14) 9 mixed (by decide +kernel) ?_ | refine awp_regionS (id := 17) [0, 1, 2, 3, 4, 5, 6, 7, 8, 9] [10, 11] [[], [], [], [], [], [], [], [], [.new 0], []] [[.new 0], []] mixed (by decide +kernel) ?_ | refine awp_condM ?_ | refine And.intro ?_ ?_ | apply gQ_merge | apply gE_merge | exact EqV_w | exact EqE_w | exact EqV_ptr | exact EqE_ptr | exact EqV_msl | exact EqE_msl | exact EqV_agg | exact EqE_agg | exact EqV_fn | exact EqE_fn | exact EqV_gd | exact EqE_gd | refine gM_splitN ?_ ?_ | refine gM_split ?_ ?_ |  refine condM_splitDN ?_ ?_ | refine condM_splitD ?_ ?_ | refine condM_splitN ?_ ?_ | refine condM_split ?_ ?_ | refine condM_any ?_ ?_ | refine cw (hA) ?_ | refine cw (c5) ?_ | refine cw (c6) ?_ | intro _) | (simp [*, he]) | (refine cw_eq (hA) ?_ ?_; (· (simp [*]; done))) | (refine cw_eq (c5) ?_ ?_; (· (simp [*]; done))) | (refine cw_eq (c6) ?_ ?_; (· (simp [*]; done))))
set_option maxHeartbeats 4000000 in
theorem du_trip (c5 : RealCall Try.prog 5 [aNet n] (.bool true) true) (c6 : RealCall Try.prog 6 [aNet n] (.int .i64 0) true) (te : Int) (he : te ≠ 0) (c7 : RealCall Try.prog 7 [aNet n, .agg [.int .i64 x, .int .i64 y, .int .i64 at_]] (.int .i64 te) true) :
    RealCall Try.prog 3 [aNet n, .agg [.int .i64 x, .int .i64 y, .int .i64 at_], .agg (cRul r)] (.bool true) true := by
  unfold aNet cNet cRul at *
  refine realcall_intro Try.func3 (by kernel_rfl) rfl (Nat.le_of_ble_eq_true (by kernel_rfl)) ?_
  simp only [Try.results3, Try.ntmps3]
  repeat' (first | (with_reducible first | refine awp_seq ?_ | refine awp_blockS ?_ | refine awp_blockC ?_ | refine awp_blockR ?_ | refine awp_skip ?_ | refine awp_ret ?_ | refine awp_exit ?_ | refine awp_region ?_ | refine awp_regionS (id := 5) [0, 1, 2, 3, 4, 5, 6, 7] [8, 9] [[], [], [], [], [], [], [.new 0], []] [[.new 0], []] mixed (by decide +kernel) ?_ | refine awp_regionD (id := 14) 9 mixed (by decide +kernel) ?_ | refine awp_regionS (id := 17) [0, 1, 2, 3, 4, 5, 6, 7, 8, 9] [10, 11] [[], [], [], [], [], [], [], [], [.new 0], []] [[.new 0], []] mixed (by decide +kernel) ?_ | refine awp_condM ?_ | refine And.intro ?_ ?_ | apply gQ_merge | apply gE_merge | exact EqV_w | exact EqE_w | exact EqV_ptr | exact EqE_ptr | exact EqV_msl | exact EqE_msl | exact EqV_agg | exact EqE_agg | exact EqV_fn | exact EqE_fn | exact EqV_gd | exact EqE_gd | refine gM_splitN ?_ ?_ | refine gM_split ?_ ?_ |  refine condM_splitDN ?_ ?_ | refine condM_splitD ?_ ?_ | refine condM_splitN ?_ ?_ | refine condM_split ?_ ?_ | refine condM_any ?_ ?_ | refine cw (hA) ?_ | refine cw (c5) ?_ | refine cw (c6) ?_ | refine cw (c7) ?_ | intro _) | (simp [*, he]) | (refine cw_eq (hA) ?_ ?_; (· (simp [*]; done))) | (refine cw_eq (c5) ?_ ?_; (· (simp [*]; done))) | (refine cw_eq (c6) ?_ ?_; (· (simp [*]; done))) | (refine cw_eq (c7) ?_ ?_; (· (simp [*]; done))))
set_option maxHeartbeats 4000000 in
theorem du_rul (c5 : RealCall Try.prog 5 [aNet n] (.bool true) true) (c6 : RealCall Try.prog 6 [aNet n] (.int .i64 0) true) (c7 : RealCall Try.prog 7 [aNet n, .agg [.int .i64 x, .int .i64 y, .int .i64 at_]] (.int .i64 0) true) (re : Int) (he : re ≠ 0) (c8 : RealCall Try.prog 8 [.agg (cRul r)] (.int .i64 re) true) :
    RealCall Try.prog 3 [aNet n, .agg [.int .i64 x, .int .i64 y, .int .i64 at_], .agg (cRul r)] (.bool true) true := by
  unfold aNet cNet cRul at *
  refine realcall_intro Try.func3 (by kernel_rfl) rfl (Nat.le_of_ble_eq_true (by kernel_rfl)) ?_
  simp only [Try.results3, Try.ntmps3]
  repeat' (first | (with_reducible first | refine awp_seq ?_ | refine awp_blockS ?_ | refine awp_blockC ?_ | refine awp_blockR ?_ | refine awp_skip ?_ | refine awp_ret ?_ | refine awp_exit ?_ | refine awp_region ?_ | refine awp_regionS (id := 5) [0, 1, 2, 3, 4, 5, 6, 7] [8, 9] [[], [], [], [], [], [], [.new 0], []] [[.new 0], []] mixed (by decide +kernel) ?_ | refine awp_regionD (id := 14) 9 mixed (by decide +kernel) ?_ | refine awp_regionS (id := 17) [0, 1, 2, 3, 4, 5, 6, 7, 8, 9] [10, 11] [[], [], [], [], [], [], [], [], [.new 0], []] [[.new 0], []] mixed (by decide +kernel) ?_ | refine awp_condM ?_ | refine And.intro ?_ ?_ | apply gQ_merge | apply gE_merge | exact EqV_w | exact EqE_w | exact EqV_ptr | exact EqE_ptr | exact EqV_msl | exact EqE_msl | exact EqV_agg | exact EqE_agg | exact EqV_fn | exact EqE_fn | exact EqV_gd | exact EqE_gd | refine gM_splitN ?_ ?_ | refine gM_split ?_ ?_ |  refine condM_splitDN ?_ ?_ | refine condM_splitD ?_ ?_ | refine condM_splitN ?_ ?_ | refine condM_split ?_ ?_ | refine condM_any ?_ ?_ | refine cw (hA) ?_ | refine cw (c5) ?_ | refine cw (c6) ?_ | refine cw (c7) ?_ | refine cw (c8) ?_ | intro _) | (simp [*, he]) | (refine cw_eq (hA) ?_ ?_; (· (simp [*]; done))) | (refine cw_eq (c5) ?_ ?_; (· (simp [*]; done))) | (refine cw_eq (c6) ?_ ?_; (· (simp [*]; done))) | (refine cw_eq (c7) ?_ ?_; (· (simp [*]; done))) | (refine cw_eq (c8) ?_ ?_; (· (simp [*]; done))))
variable (c5 : RealCall Try.prog 5 [aNet n] (.bool true) true) (c6 : RealCall Try.prog 6 [aNet n] (.int .i64 0) true) (c7 : RealCall Try.prog 7 [aNet n, .agg [.int .i64 x, .int .i64 y, .int .i64 at_]] (.int .i64 0) true) (c8 : RealCall Try.prog 8 [.agg (cRul r)] (.int .i64 0) true) (c10 : RealCall Try.prog 10 [aNet n] (aNet n) true)
include c5 c6 c7 c8 c10
set_option maxHeartbeats 4000000 in
theorem du_none (c9 : RealCall Try.prog 9 [aNet n, .agg [.int .i64 x, .int .i64 y, .int .i64 at_]] (.tup [.agg [.int .i64 0, .int .i64 0], .int .i64 12]) true) :
    RealCall Try.prog 3 [aNet n, .agg [.int .i64 x, .int .i64 y, .int .i64 at_], .agg (cRul r)] (.bool true) true := by
  unfold aNet cNet cRul at *
  refine realcall_intro Try.func3 (by kernel_rfl) rfl (Nat.le_of_ble_eq_true (by kernel_rfl)) ?_
  simp only [Try.results3, Try.ntmps3]
  repeat' (first | (with_reducible first | refine awp_seq ?_ | refine awp_blockS ?_ | refine awp_blockC ?_ | refine awp_blockR ?_ | refine awp_skip ?_ | refine awp_ret ?_ | refine awp_exit ?_ | refine awp_region ?_ | refine awp_regionS (id := 5) [0, 1, 2, 3, 4, 5, 6, 7] [8, 9] [[], [], [], [], [], [], [.new 0], []] [[.new 0], []] mixed (by decide +kernel) ?_ | refine awp_regionD (id := 14) 9 mixed (by decide +kernel) ?_ | refine awp_regionS (id := 17) [0, 1, 2, 3, 4, 5, 6, 7, 8, 9] [10, 11] [[], [], [], [], [], [], [], [], [.new 0], []] [[.new 0], []] mixed (by decide +kernel) ?_ | refine awp_condM ?_ | refine And.intro ?_ ?_ | apply gQ_merge | apply gE_merge | exact EqV_w | exact EqE_w | exact EqV_ptr | exact EqE_ptr | exact EqV_msl | exact EqE_msl | exact EqV_agg | exact EqE_agg | exact EqV_fn | exact EqE_fn | exact EqV_gd | exact EqE_gd | refine gM_splitN ?_ ?_ | refine gM_split ?_ ?_ |  refine condM_splitDN ?_ ?_ | refine condM_splitD ?_ ?_ | refine condM_splitN ?_ ?_ | refine condM_split ?_ ?_ | refine condM_any ?_ ?_ | refine cw (hA) ?_ | refine cw (c5) ?_ | refine cw (c6) ?_ | refine cw (c7) ?_ | refine cw (c8) ?_ | refine cw (c10) ?_ | refine cw (c9) ?_ | intro _) | (simp [*]) | (refine cw_eq (hA) ?_ ?_; (· (simp [*]; done))) | (refine cw_eq (c5) ?_ ?_; (· (simp [*]; done))) | (refine cw_eq (c6) ?_ ?_; (· (simp [*]; done))) | (refine cw_eq (c7) ?_ ?_; (· (simp [*]; done))) | (refine cw_eq (c8) ?_ ?_; (· (simp [*]; done))) | (refine cw_eq (c10) ?_ ?_; (· (simp [*]; done))) | (refine cw_eq (c9) ?_ ?_; (· (simp [*]; done))))
variable (lo hi : Int) (b0 : 0 ≤ at_) (b1 : at_ ≤ lo) (b2 : lo ≤ hi) (b3 : hi ≤ 100000000) (c9 : RealCall Try.prog 9 [aNet n, .agg [.int .i64 x, .int .i64 y, .int .i64 at_]] (.tup [.agg [.int .i64 lo, .int .i64 hi], .int .i64 0]) true) (c11 : RealCall Try.prog 11 [.int .i64 lo, .int .i64 at_, .int .i64 hi] (.bool true) true)
include b0 b1 b2 b3 c9 c11
set_option maxHeartbeats 4000000 in
theorem du_long (hl : 200000 < hi - at_) : RealCall Try.prog 3 [aNet n, .agg [.int .i64 x, .int .i64 y, .int .i64 at_], .agg (cRul r)] (.bool true) true := by
  unfold aNet cNet cRul at *
  refine realcall_intro Try.func3 (by kernel_rfl) rfl (Nat.le_of_ble_eq_true (by kernel_rfl)) ?_
  simp only [Try.results3, Try.ntmps3]
  repeat' (first | (with_reducible first | refine awp_seq ?_ | refine awp_blockS ?_ | refine awp_blockC ?_ | refine awp_blockR ?_ | refine awp_skip ?_ | refine awp_ret ?_ | refine awp_exit ?_ | refine awp_region ?_ | refine awp_regionS (id := 5) [0, 1, 2, 3, 4, 5, 6, 7] [8, 9] [[], [], [], [], [], [], [.new 0], []] [[.new 0], []] mixed (by decide +kernel) ?_ | refine awp_regionD (id := 14) 9 mixed (by decide +kernel) ?_ | refine awp_regionS (id := 17) [0, 1, 2, 3, 4, 5, 6, 7, 8, 9] [10, 11] [[], [], [], [], [], [], [], [], [.new 0], []] [[.new 0], []] mixed (by decide +kernel) ?_ | refine awp_condM ?_ | refine And.intro ?_ ?_ | apply gQ_merge | apply gE_merge | exact EqV_w | exact EqE_w | exact EqV_ptr | exact EqE_ptr | exact EqV_msl | exact EqE_msl | exact EqV_agg | exact EqE_agg | exact EqV_fn | exact EqE_fn | exact EqV_gd | exact EqE_gd | refine gM_splitN ?_ ?_ | refine gM_split ?_ ?_ |  refine condM_splitDN ?_ ?_ | refine condM_splitD ?_ ?_ | refine condM_splitN ?_ ?_ | refine condM_split ?_ ?_ | refine condM_any ?_ ?_ | refine cw (hA) ?_ | refine cw (c5) ?_ | refine cw (c6) ?_ | refine cw (c7) ?_ | refine cw (c8) ?_ | refine cw (c10) ?_ | refine cw (c9) ?_ | refine cw (c11) ?_ | intro _) | (simp [*, hl, b1, b2]) | (refine cw_eq (hA) ?_ ?_; (· (simp [*]; done))) | (refine cw_eq (c5) ?_ ?_; (· (simp [*]; done))) | (refine cw_eq (c6) ?_ ?_; (· (simp [*]; done))) | (refine cw_eq (c7) ?_ ?_; (· (simp [*]; done))) | (refine cw_eq (c8) ?_ ?_; (· (simp [*]; done))) | (refine cw_eq (c10) ?_ ?_; (· (simp [*]; done))) | (refine cw_eq (c9) ?_ ?_; (· (simp [*]; done))) | (refine cw_eq (c11) ?_ ?_; (· (simp [*]; done))))
  all_goals try first | exact inI64 (by omega) (by omega) | omega
variable (hl : ¬ 200000 < hi - at_) (A ru k : Int) (c12 : RealCall Try.prog 12 [.agg (cRul r), .sl 0 [], .agg [.int .i64 at_, .int .i64 (lo - at_), .int .i64 (hi - at_), .int .i64 (-1)]] (.tup [.int .i64 A, .int .i64 ru, .int .i64 0]) true) (c13 : RealCall Try.prog 13 [.agg (cRul r), .sl 0 [], .int .i64 at_] (.tup [.int .i64 k, .int .i64 0]) true)
  (m : Nat) (W : List PV) (l2 : Int) (c14 : RealCall Try.prog 14 [aNet n, .agg [.int .i64 x, .int .i64 y, .int .i64 at_], .bool true] (.tup [.sl m W, .int .i64 0]) true) (c15 : RealCall Try.prog 15 [aNet n, .sl m W, .int .i64 at_] (.tup [.agg [.int .i64 l2, .int .i64 hi], .int .i64 0]) true)
include hl c12 c13 c14 c15
set_option maxHeartbeats 4000000 in
theorem du_yes (h1 : A = 2) (h2 : hi - at_ ≤ k) : RealCall Try.prog 3 [aNet n, .agg [.int .i64 x, .int .i64 y, .int .i64 at_], .agg (cRul r)] (.bool true) true := by
  have _b := And.intro b0 b3
  clear _b
  subst h1
  unfold aNet cNet cRul at *
  refine realcall_intro Try.func3 (by kernel_rfl) rfl (Nat.le_of_ble_eq_true (by kernel_rfl)) ?_
  simp only [Try.results3, Try.ntmps3]
  repeat' (first | (with_reducible first | refine awp_seq ?_ | refine awp_blockS ?_ | refine awp_blockC ?_ | refine awp_blockR ?_ | refine awp_skip ?_ | refine awp_ret ?_ | refine awp_exit ?_ | refine awp_region ?_ | refine awp_regionS (id := 5) [0, 1, 2, 3, 4, 5, 6, 7] [8, 9] [[], [], [], [], [], [], [.new 0], []] [[.new 0], []] mixed (by decide +kernel) ?_ | refine awp_regionD (id := 14) 9 mixed (by decide +kernel) ?_ | refine awp_regionS (id := 17) [0, 1, 2, 3, 4, 5, 6, 7, 8, 9] [10, 11] [[], [], [], [], [], [], [], [], [.new 0], []] [[.new 0], []] mixed (by decide +kernel) ?_ | refine awp_condM ?_ | refine And.intro ?_ ?_ | apply gQ_merge | apply gE_merge | exact EqV_w | exact EqE_w | exact EqV_ptr | exact EqE_ptr | exact EqV_msl | exact EqE_msl | exact EqV_agg | exact EqE_agg | exact EqV_fn | exact EqE_fn | exact EqV_gd | exact EqE_gd | refine gM_splitN ?_ ?_ | refine gM_split ?_ ?_ |  refine condM_splitDN ?_ ?_ | refine condM_splitD ?_ ?_ | refine condM_splitN ?_ ?_ | refine condM_split ?_ ?_ | refine condM_any ?_ ?_ | refine cw (hA) ?_ | refine cw (c5) ?_ | refine cw (c6) ?_ | refine cw (c7) ?_ | refine cw (c8) ?_ | refine cw (c10) ?_ | refine cw (c9) ?_ | refine cw (c11) ?_ | refine cw (c12) ?_ | refine cw (c13) ?_ | refine cw (c14) ?_ | refine cw (c15) ?_ | intro _) | (simp [*, hl, b1, b2, h2]) | (refine cw_eq (hA) ?_ ?_; (· (simp [*]; done))) | (refine cw_eq (c5) ?_ ?_; (· (simp [*]; done))) | (refine cw_eq (c6) ?_ ?_; (· (simp [*]; done))) | (refine cw_eq (c7) ?_ ?_; (· (simp [*]; done))) | (refine cw_eq (c8) ?_ ?_; (· (simp [*]; done))) | (refine cw_eq (c10) ?_ ?_; (· (simp [*]; done))) | (refine cw_eq (c9) ?_ ?_; (· (simp [*]; done))) | (refine cw_eq (c11) ?_ ?_; (· (simp [*]; done))) | (refine cw_eq (c12) ?_ ?_; (· (simp [*]; done))) | (refine cw_eq (c13) ?_ ?_; (· (simp [*]; done))) | (refine cw_eq (c14) ?_ ?_; (· (simp [*]; done))) | (refine cw_eq (c15) ?_ ?_; (· (simp [*]; done))))
  all_goals try first | exact inI64 (by omega) (by omega) | omega
set_option maxHeartbeats 4000000 in
theorem du_no (h1 : ¬ A = 2) (h2 : ¬ hi - at_ ≤ k) : RealCall Try.prog 3 [aNet n, .agg [.int .i64 x, .int .i64 y, .int .i64 at_], .agg (cRul r)] (.bool true) true := by
  have _b := And.intro b0 b3
  clear _b
  unfold aNet cNet cRul at *
  refine realcall_intro Try.func3 (by kernel_rfl) rfl (Nat.le_of_ble_eq_true (by kernel_rfl)) ?_
  simp only [Try.results3, Try.ntmps3]
  repeat' (first | (with_reducible first | refine awp_seq ?_ | refine awp_blockS ?_ | refine awp_blockC ?_ | refine awp_blockR ?_ | refine awp_skip ?_ | refine awp_ret ?_ | refine awp_exit ?_ | refine awp_region ?_ | refine awp_regionS (id := 5) [0, 1, 2, 3, 4, 5, 6, 7] [8, 9] [[], [], [], [], [], [], [.new 0], []] [[.new 0], []] mixed (by decide +kernel) ?_ | refine awp_regionD (id := 14) 9 mixed (by decide +kernel) ?_ | refine awp_regionS (id := 17) [0, 1, 2, 3, 4, 5, 6, 7, 8, 9] [10, 11] [[], [], [], [], [], [], [], [], [.new 0], []] [[.new 0], []] mixed (by decide +kernel) ?_ | refine awp_condM ?_ | refine And.intro ?_ ?_ | apply gQ_merge | apply gE_merge | exact EqV_w | exact EqE_w | exact EqV_ptr | exact EqE_ptr | exact EqV_msl | exact EqE_msl | exact EqV_agg | exact EqE_agg | exact EqV_fn | exact EqE_fn | exact EqV_gd | exact EqE_gd | refine gM_splitN ?_ ?_ | refine gM_split ?_ ?_ |  refine condM_splitDN ?_ ?_ | refine condM_splitD ?_ ?_ | refine condM_splitN ?_ ?_ | refine condM_split ?_ ?_ | refine condM_any ?_ ?_ | refine cw (hA) ?_ | refine cw (c5) ?_ | refine cw (c6) ?_ | refine cw (c7) ?_ | refine cw (c8) ?_ | refine cw (c10) ?_ | refine cw (c9) ?_ | refine cw (c11) ?_ | refine cw (c12) ?_ | refine cw (c13) ?_ | refine cw (c14) ?_ | refine cw (c15) ?_ | intro _) | (simp [*, hl, b1, b2, h1, h2]) | (refine cw_eq (hA) ?_ ?_; (· (simp [*]; done))) | (refine cw_eq (c5) ?_ ?_; (· (simp [*]; done))) | (refine cw_eq (c6) ?_ ?_; (· (simp [*]; done))) | (refine cw_eq (c7) ?_ ?_; (· (simp [*]; done))) | (refine cw_eq (c8) ?_ ?_; (· (simp [*]; done))) | (refine cw_eq (c10) ?_ ?_; (· (simp [*]; done))) | (refine cw_eq (c9) ?_ ?_; (· (simp [*]; done))) | (refine cw_eq (c11) ?_ ?_; (· (simp [*]; done))) | (refine cw_eq (c12) ?_ ?_; (· (simp [*]; done))) | (refine cw_eq (c13) ?_ ?_; (· (simp [*]; done))) | (refine cw_eq (c14) ?_ ?_; (· (simp [*]; done))) | (refine cw_eq (c15) ?_ ?_; (· (simp [*]; done))))
  all_goals try first | exact inI64 (by omega) (by omega) | omega
end
end Go.Proofs.Ytgoemokfpfnlkaa
