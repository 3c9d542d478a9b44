/- Contracts of functions for this claim: lemmas alone. -/
import Derived.Test.YtmedbghkldmlhaaP59
import Derived.Test.YtmedbghkldmlhaaP52
import Derived.Test.YtmedbghkldmlhaaP40
set_option linter.unusedSimpArgs false
set_option linter.unusedVariables false
namespace Go.Proofs.Ytmedbghkldmlhaa
open Go Go.Fi

set_option maxHeartbeats 4000000 in
set_option maxRecDepth 20000 in
theorem la_few (n : Net) (t : Trip) (w : List Int) (hA : RealCall Try.prog 15 [] (.bool true) true) (cf : RealCall Try.prog 16 [aNet n] (.bool false) true) : RealCall Try.prog 14 [aNet n, .agg (tL t), .sl w.length (ints w)] (.bool true) true := by
  unfold aNet cNet at *
  refine realcall_intro Try.func14 (by kernel_rfl) rfl (Nat.le_of_ble_eq_true (by kernel_rfl)) ?_
  simp only [Try.results14, Try.ntmps14]
  repeat' (first | (with_reducible first | refine awp_seq ?_ | refine awp_blockS ?_ | refine awp_blockC ?_ | refine awp_blockR ?_ | refine awp_skip ?_ | refine awp_ret ?_ | refine awp_exit ?_ | refine awp_region ?_ | refine awp_regionS (id := 5) [0, 1, 2, 3, 4, 5, 6, 7, 8, 9, 10] [11, 12] [[], [], [], [], [], [], [], [], [], [.new 0], []] [[.new 0], []] mixed (by decide +kernel) ?_ | refine awp_regionS (id := 18) [0, 1, 2, 3, 4, 5, 6, 7, 8, 9] [10, 11] [[], [], [], [], [], [], [], [], [.new 0], []] [[.new 0], []] mixed (by decide +kernel) ?_ | refine awp_regionS (id := 19) [0, 1, 2, 3, 4, 5, 6, 7] [8, 9] [[], [], [], [], [], [], [.new 0], []] [[.new 0], []] mixed (by decide +kernel) ?_ | refine awp_regionD (id := 22) 28 mixed (by decide +kernel) ?_ | refine awp_regionS (id := 27) [0, 1, 2, 3, 4, 5, 6, 7, 8, 9, 10] [11, 12] [[], [], [], [], [], [], [], [], [], [.new 0], []] [[.new 0], []] mixed (by decide +kernel) ?_ | refine awp_condM ?_ | refine And.intro ?_ ?_ | refine gM_splitN ?_ ?_ | refine gM_split ?_ ?_ | refine condM_splitDN ?_ ?_ | refine condM_splitD ?_ ?_ | refine condM_splitN ?_ ?_ | refine condM_split ?_ ?_ | refine condM_any ?_ ?_ | refine cw (hA) ?_ | refine cw (cf) ?_ | intro _) | (simp [*]))
  all_goals first | exact inI64 (by omega) (by omega) | omega | skip
set_option maxHeartbeats 4000000 in
set_option maxRecDepth 20000 in
theorem la_long (n : Net) (t : Trip) (w : List Int) (hA : RealCall Try.prog 15 [] (.bool true) true) (cf : RealCall Try.prog 16 [aNet n] (.bool true) true) (hl : 12 < w.length) : RealCall Try.prog 14 [aNet n, .agg (tL t), .sl w.length (ints w)] (.bool true) true := by
  have hl' : (12 : Int) < (w.length : Int) := by omega
  unfold aNet cNet at *
  refine realcall_intro Try.func14 (by kernel_rfl) rfl (Nat.le_of_ble_eq_true (by kernel_rfl)) ?_
  simp only [Try.results14, Try.ntmps14]
  repeat' (first | (with_reducible first | refine awp_seq ?_ | refine awp_blockS ?_ | refine awp_blockC ?_ | refine awp_blockR ?_ | refine awp_skip ?_ | refine awp_ret ?_ | refine awp_exit ?_ | refine awp_region ?_ | refine awp_regionS (id := 5) [0, 1, 2, 3, 4, 5, 6, 7, 8, 9, 10] [11, 12] [[], [], [], [], [], [], [], [], [], [.new 0], []] [[.new 0], []] mixed (by decide +kernel) ?_ | refine awp_regionS (id := 18) [0, 1, 2, 3, 4, 5, 6, 7, 8, 9] [10, 11] [[], [], [], [], [], [], [], [], [.new 0], []] [[.new 0], []] mixed (by decide +kernel) ?_ | refine awp_regionS (id := 19) [0, 1, 2, 3, 4, 5, 6, 7] [8, 9] [[], [], [], [], [], [], [.new 0], []] [[.new 0], []] mixed (by decide +kernel) ?_ | refine awp_regionD (id := 22) 28 mixed (by decide +kernel) ?_ | refine awp_regionS (id := 27) [0, 1, 2, 3, 4, 5, 6, 7, 8, 9, 10] [11, 12] [[], [], [], [], [], [], [], [], [], [.new 0], []] [[.new 0], []] mixed (by decide +kernel) ?_ | refine awp_condM ?_ | refine And.intro ?_ ?_ | refine gM_splitN ?_ ?_ | refine gM_split ?_ ?_ | refine condM_splitDN ?_ ?_ | refine condM_splitD ?_ ?_ | refine condM_splitN ?_ ?_ | refine condM_split ?_ ?_ | refine condM_any ?_ ?_ | refine cw (hA) ?_ | refine cw (cf) ?_ | intro _) | (simp [*, hl']))
  all_goals first | exact inI64 (by omega) (by omega) | omega | skip
set_option maxHeartbeats 4000000 in
set_option maxRecDepth 20000 in
theorem la_net (n : Net) (t : Trip) (w : List Int) (hA : RealCall Try.prog 15 [] (.bool true) true) (cf : RealCall Try.prog 16 [aNet n] (.bool true) true) (hl : ¬ 12 < w.length) (cc : RealCall Try.prog 18 [aNet n] (aNet n) true) (e : Int) (he : e ≠ 0) (c1 : RealCall Try.prog 66 [aNet n, .int .i64 t.frm, .int .i64 t.at_] (.tup [.agg [.sl 0 [], .sl 0 []], .int .i64 e]) true) (c2 : RealCall Try.prog 25 [aNet n] (.int .i64 e) true) : RealCall Try.prog 14 [aNet n, .agg (tL t), .sl w.length (ints w)] (.bool true) true := by
  have hl' : ¬ (12 : Int) < (w.length : Int) := by omega
  unfold aNet cNet at *
  refine realcall_intro Try.func14 (by kernel_rfl) rfl (Nat.le_of_ble_eq_true (by kernel_rfl)) ?_
  simp only [Try.results14, Try.ntmps14]
  repeat' (first | (with_reducible first | refine awp_seq ?_ | refine awp_blockS ?_ | refine awp_blockC ?_ | refine awp_blockR ?_ | refine awp_skip ?_ | refine awp_ret ?_ | refine awp_exit ?_ | refine awp_region ?_ | refine awp_regionS (id := 5) [0, 1, 2, 3, 4, 5, 6, 7, 8, 9, 10] [11, 12] [[], [], [], [], [], [], [], [], [], [.new 0], []] [[.new 0], []] mixed (by decide +kernel) ?_ | refine awp_regionS (id := 18) [0, 1, 2, 3, 4, 5, 6, 7, 8, 9] [10, 11] [[], [], [], [], [], [], [], [], [.new 0], []] [[.new 0], []] mixed (by decide +kernel) ?_ | refine awp_regionS (id := 19) [0, 1, 2, 3, 4, 5, 6, 7] [8, 9] [[], [], [], [], [], [], [.new 0], []] [[.new 0], []] mixed (by decide +kernel) ?_ | refine awp_regionD (id := 22) 28 mixed (by decide +kernel) ?_ | refine awp_regionS (id := 27) [0, 1, 2, 3, 4, 5, 6, 7, 8, 9, 10] [11, 12] [[], [], [], [], [], [], [], [], [], [.new 0], []] [[.new 0], []] mixed (by decide +kernel) ?_ | refine awp_condM ?_ | refine And.intro ?_ ?_ | refine gM_splitN ?_ ?_ | refine gM_split ?_ ?_ | refine condM_splitDN ?_ ?_ | refine condM_splitD ?_ ?_ | refine condM_splitN ?_ ?_ | refine condM_split ?_ ?_ | refine condM_any ?_ ?_ | refine cw (hA) ?_ | refine cw (cf) ?_ | refine cw (cc) ?_ | refine cw (c1) ?_ | refine cw (c2) ?_ | intro _) | (simp [*, hl', he]))
  all_goals first | exact inI64 (by omega) (by omega) | omega | skip
set_option maxHeartbeats 4000000 in
set_option maxRecDepth 20000 in
theorem la_frm (n : Net) (t : Trip) (w : List Int) (hA : RealCall Try.prog 15 [] (.bool true) true) (cf : RealCall Try.prog 16 [aNet n] (.bool true) true) (hl : ¬ 12 < w.length) (cc : RealCall Try.prog 18 [aNet n] (aNet n) true) (e : Int) (he : e ≠ 0) (c1 : RealCall Try.prog 66 [aNet n, .int .i64 t.frm, .int .i64 t.at_] (.tup [.agg [.sl 0 [], .sl 0 []], .int .i64 e]) true) (c2 : RealCall Try.prog 25 [aNet n] (.int .i64 0) true) (c3 : RealCall Try.prog 40 [aNet n, .int .i64 t.frm] (.int .i64 e) true) : RealCall Try.prog 14 [aNet n, .agg (tL t), .sl w.length (ints w)] (.bool true) true := by
  have hl' : ¬ (12 : Int) < (w.length : Int) := by omega
  unfold aNet cNet at *
  refine realcall_intro Try.func14 (by kernel_rfl) rfl (Nat.le_of_ble_eq_true (by kernel_rfl)) ?_
  simp only [Try.results14, Try.ntmps14]
  repeat' (first | (with_reducible first | refine awp_seq ?_ | refine awp_blockS ?_ | refine awp_blockC ?_ | refine awp_blockR ?_ | refine awp_skip ?_ | refine awp_ret ?_ | refine awp_exit ?_ | refine awp_region ?_ | refine awp_regionS (id := 5) [0, 1, 2, 3, 4, 5, 6, 7, 8, 9, 10] [11, 12] [[], [], [], [], [], [], [], [], [], [.new 0], []] [[.new 0], []] mixed (by decide +kernel) ?_ | refine awp_regionS (id := 18) [0, 1, 2, 3, 4, 5, 6, 7, 8, 9] [10, 11] [[], [], [], [], [], [], [], [], [.new 0], []] [[.new 0], []] mixed (by decide +kernel) ?_ | refine awp_regionS (id := 19) [0, 1, 2, 3, 4, 5, 6, 7] [8, 9] [[], [], [], [], [], [], [.new 0], []] [[.new 0], []] mixed (by decide +kernel) ?_ | refine awp_regionD (id := 22) 28 mixed (by decide +kernel) ?_ | refine awp_regionS (id := 27) [0, 1, 2, 3, 4, 5, 6, 7, 8, 9, 10] [11, 12] [[], [], [], [], [], [], [], [], [], [.new 0], []] [[.new 0], []] mixed (by decide +kernel) ?_ | refine awp_condM ?_ | refine And.intro ?_ ?_ | refine gM_splitN ?_ ?_ | refine gM_split ?_ ?_ | refine condM_splitDN ?_ ?_ | refine condM_splitD ?_ ?_ | refine condM_splitN ?_ ?_ | refine condM_split ?_ ?_ | refine condM_any ?_ ?_ | refine cw (hA) ?_ | refine cw (cf) ?_ | refine cw (cc) ?_ | refine cw (c1) ?_ | refine cw (c2) ?_ | refine cw (c3) ?_ | intro _) | (simp [*, hl', he]))
  all_goals first | exact inI64 (by omega) (by omega) | omega | skip
set_option maxHeartbeats 4000000 in
set_option maxRecDepth 20000 in
theorem la_time (n : Net) (t : Trip) (w : List Int) (hA : RealCall Try.prog 15 [] (.bool true) true) (cf : RealCall Try.prog 16 [aNet n] (.bool true) true) (hl : ¬ 12 < w.length) (cc : RealCall Try.prog 18 [aNet n] (aNet n) true) (e : Int) (he : e ≠ 0) (c1 : RealCall Try.prog 66 [aNet n, .int .i64 t.frm, .int .i64 t.at_] (.tup [.agg [.sl 0 [], .sl 0 []], .int .i64 e]) true) (c2 : RealCall Try.prog 25 [aNet n] (.int .i64 0) true) (c3 : RealCall Try.prog 40 [aNet n, .int .i64 t.frm] (.int .i64 0) true) (c4 : RealCall Try.prog 22 [.int .i64 t.at_] (.int .i64 e) true) : RealCall Try.prog 14 [aNet n, .agg (tL t), .sl w.length (ints w)] (.bool true) true := by
  have hl' : ¬ (12 : Int) < (w.length : Int) := by omega
  unfold aNet cNet at *
  refine realcall_intro Try.func14 (by kernel_rfl) rfl (Nat.le_of_ble_eq_true (by kernel_rfl)) ?_
  simp only [Try.results14, Try.ntmps14]
  repeat' (first | (with_reducible first | refine awp_seq ?_ | refine awp_blockS ?_ | refine awp_blockC ?_ | refine awp_blockR ?_ | refine awp_skip ?_ | refine awp_ret ?_ | refine awp_exit ?_ | refine awp_region ?_ | refine awp_regionS (id := 5) [0, 1, 2, 3, 4, 5, 6, 7, 8, 9, 10] [11, 12] [[], [], [], [], [], [], [], [], [], [.new 0], []] [[.new 0], []] mixed (by decide +kernel) ?_ | refine awp_regionS (id := 18) [0, 1, 2, 3, 4, 5, 6, 7, 8, 9] [10, 11] [[], [], [], [], [], [], [], [], [.new 0], []] [[.new 0], []] mixed (by decide +kernel) ?_ | refine awp_regionS (id := 19) [0, 1, 2, 3, 4, 5, 6, 7] [8, 9] [[], [], [], [], [], [], [.new 0], []] [[.new 0], []] mixed (by decide +kernel) ?_ | refine awp_regionD (id := 22) 28 mixed (by decide +kernel) ?_ | refine awp_regionS (id := 27) [0, 1, 2, 3, 4, 5, 6, 7, 8, 9, 10] [11, 12] [[], [], [], [], [], [], [], [], [], [.new 0], []] [[.new 0], []] mixed (by decide +kernel) ?_ | refine awp_condM ?_ | refine And.intro ?_ ?_ | refine gM_splitN ?_ ?_ | refine gM_split ?_ ?_ | refine condM_splitDN ?_ ?_ | refine condM_splitD ?_ ?_ | refine condM_splitN ?_ ?_ | refine condM_split ?_ ?_ | refine condM_any ?_ ?_ | refine cw (hA) ?_ | refine cw (cf) ?_ | refine cw (cc) ?_ | refine cw (c1) ?_ | refine cw (c2) ?_ | refine cw (c3) ?_ | refine cw (c4) ?_ | intro _) | (simp [*, hl', he]))
  all_goals first | exact inI64 (by omega) (by omega) | omega | skip
set_option maxHeartbeats 4000000 in
set_option maxRecDepth 20000 in
theorem la_to (n : Net) (t : Trip) (w : List Int) (hA : RealCall Try.prog 15 [] (.bool true) true) (cf : RealCall Try.prog 16 [aNet n] (.bool true) true) (hl : ¬ 12 < w.length) (cc : RealCall Try.prog 18 [aNet n] (aNet n) true) (s u : List Int) (hs : s.length = n.places.length) (hu : u.length = n.places.length) (c1 : RealCall Try.prog 66 [aNet n, .int .i64 t.frm, .int .i64 t.at_] (.tup [.agg [.sl n.places.length (ints s), .sl n.places.length (ints u)], .int .i64 0]) true) (c2 : RealCall Try.prog 25 [aNet n] (.int .i64 0) true) (c3 : RealCall Try.prog 40 [aNet n, .int .i64 t.frm] (.int .i64 0) true) (c4 : RealCall Try.prog 22 [.int .i64 t.at_] (.int .i64 0) true) (c5 : RealCall Try.prog 67 [aNet n, .int .i64 t.frm, .int .i64 t.at_] (.agg [.sl n.places.length (ints s), .sl n.places.length (ints u)]) true) (c6 : RealCall Try.prog 58 [.sl n.places.length (ints s), .sl n.places.length (ints s)] (.bool true) true) (c7 : RealCall Try.prog 58 [.sl n.places.length (ints u), .sl n.places.length (ints u)] (.bool true) true) (e : Int) (he : e ≠ 0) (c8 : RealCall Try.prog 40 [aNet n, .int .i64 t.to] (.int .i64 e) true) : RealCall Try.prog 14 [aNet n, .agg (tL t), .sl w.length (ints w)] (.bool true) true := by
  have hl' : ¬ (12 : Int) < (w.length : Int) := by omega
  unfold aNet cNet at *
  refine realcall_intro Try.func14 (by kernel_rfl) rfl (Nat.le_of_ble_eq_true (by kernel_rfl)) ?_
  simp only [Try.results14, Try.ntmps14]
  repeat' (first | (with_reducible first | refine awp_seq ?_ | refine awp_blockS ?_ | refine awp_blockC ?_ | refine awp_blockR ?_ | refine awp_skip ?_ | refine awp_ret ?_ | refine awp_exit ?_ | refine awp_region ?_ | refine awp_regionS (id := 5) [0, 1, 2, 3, 4, 5, 6, 7, 8, 9, 10] [11, 12] [[], [], [], [], [], [], [], [], [], [.new 0], []] [[.new 0], []] mixed (by decide +kernel) ?_ | refine awp_regionS (id := 18) [0, 1, 2, 3, 4, 5, 6, 7, 8, 9] [10, 11] [[], [], [], [], [], [], [], [], [.new 0], []] [[.new 0], []] mixed (by decide +kernel) ?_ | refine awp_regionS (id := 19) [0, 1, 2, 3, 4, 5, 6, 7] [8, 9] [[], [], [], [], [], [], [.new 0], []] [[.new 0], []] mixed (by decide +kernel) ?_ | refine awp_regionD (id := 22) 28 mixed (by decide +kernel) ?_ | refine awp_regionS (id := 27) [0, 1, 2, 3, 4, 5, 6, 7, 8, 9, 10] [11, 12] [[], [], [], [], [], [], [], [], [], [.new 0], []] [[.new 0], []] mixed (by decide +kernel) ?_ | refine awp_condM ?_ | refine And.intro ?_ ?_ | refine gM_splitN ?_ ?_ | refine gM_split ?_ ?_ | refine condM_splitDN ?_ ?_ | refine condM_splitD ?_ ?_ | refine condM_splitN ?_ ?_ | refine condM_split ?_ ?_ | refine condM_any ?_ ?_ | refine cw (hA) ?_ | refine cw (cf) ?_ | refine cw (cc) ?_ | refine cw (c1) ?_ | refine cw (c2) ?_ | refine cw (c3) ?_ | refine cw (c4) ?_ | refine cw (c5) ?_ | refine cw (c6) ?_ | refine cw (c7) ?_ | refine cw (c8) ?_ | intro _) | (simp [*, hl', he]))
  all_goals first | exact inI64 (by omega) (by omega) | omega | skip
set_option maxHeartbeats 4000000 in
set_option maxRecDepth 20000 in
theorem la_none (n : Net) (t : Trip) (w : List Int) (hA : RealCall Try.prog 15 [] (.bool true) true) (cf : RealCall Try.prog 16 [aNet n] (.bool true) true) (hl : ¬ 12 < w.length) (cc : RealCall Try.prog 18 [aNet n] (aNet n) true) (s u : List Int) (hs : s.length = n.places.length) (hu : u.length = n.places.length) (c1 : RealCall Try.prog 66 [aNet n, .int .i64 t.frm, .int .i64 t.at_] (.tup [.agg [.sl n.places.length (ints s), .sl n.places.length (ints u)], .int .i64 0]) true) (c2 : RealCall Try.prog 25 [aNet n] (.int .i64 0) true) (c3 : RealCall Try.prog 40 [aNet n, .int .i64 t.frm] (.int .i64 0) true) (c4 : RealCall Try.prog 22 [.int .i64 t.at_] (.int .i64 0) true) (c5 : RealCall Try.prog 67 [aNet n, .int .i64 t.frm, .int .i64 t.at_] (.agg [.sl n.places.length (ints s), .sl n.places.length (ints u)]) true) (c6 : RealCall Try.prog 58 [.sl n.places.length (ints s), .sl n.places.length (ints s)] (.bool true) true) (c7 : RealCall Try.prog 58 [.sl n.places.length (ints u), .sl n.places.length (ints u)] (.bool true) true) (c8 : RealCall Try.prog 40 [aNet n, .int .i64 t.to] (.int .i64 0) true) (b : Nat) (hb : t.to = b) (lb : b < n.places.length) (c9 : RealCall Try.prog 62 [.agg [.sl n.places.length (ints s), .sl n.places.length (ints u)]] (.agg [.sl n.places.length (ints s), .sl n.places.length (ints u)]) true) (hn : nth s b = -1) (d1 : RealCall Try.prog 61 [aNet n, .agg (tL t), .agg [.sl n.places.length (ints s), .sl n.places.length (ints u)]] (markP (0, 0, 12)) true) (d2 : RealCall Try.prog 28 [aNet n, .agg (tL t)] (markP (0, 0, 12)) true) : RealCall Try.prog 14 [aNet n, .agg (tL t), .sl w.length (ints w)] (.bool true) true := by
  have hl' : ¬ (12 : Int) < (w.length : Int) := by omega
  have lbs : b < s.length := by omega
  have lbu : b < u.length := by omega
  obtain ⟨t1, t2, t3⟩ := t
  dsimp only at *
  subst hb
  unfold markP at *
  unfold aNet cNet at *
  refine realcall_intro Try.func14 (by kernel_rfl) rfl (Nat.le_of_ble_eq_true (by kernel_rfl)) ?_
  simp only [Try.results14, Try.ntmps14]
  repeat' (first | (with_reducible first | refine awp_seq ?_ | refine awp_blockS ?_ | refine awp_blockC ?_ | refine awp_blockR ?_ | refine awp_skip ?_ | refine awp_ret ?_ | refine awp_exit ?_ | refine awp_region ?_ | refine awp_regionS (id := 5) [0, 1, 2, 3, 4, 5, 6, 7, 8, 9, 10] [11, 12] [[], [], [], [], [], [], [], [], [], [.new 0], []] [[.new 0], []] mixed (by decide +kernel) ?_ | refine awp_regionS (id := 18) [0, 1, 2, 3, 4, 5, 6, 7, 8, 9] [10, 11] [[], [], [], [], [], [], [], [], [.new 0], []] [[.new 0], []] mixed (by decide +kernel) ?_ | refine awp_regionS (id := 19) [0, 1, 2, 3, 4, 5, 6, 7] [8, 9] [[], [], [], [], [], [], [.new 0], []] [[.new 0], []] mixed (by decide +kernel) ?_ | refine awp_regionD (id := 22) 28 mixed (by decide +kernel) ?_ | refine awp_regionS (id := 27) [0, 1, 2, 3, 4, 5, 6, 7, 8, 9, 10] [11, 12] [[], [], [], [], [], [], [], [], [], [.new 0], []] [[.new 0], []] mixed (by decide +kernel) ?_ | refine awp_condM ?_ | refine And.intro ?_ ?_ | refine gM_splitN ?_ ?_ | refine gM_split ?_ ?_ | refine condM_splitDN ?_ ?_ | refine condM_splitD ?_ ?_ | refine condM_splitN ?_ ?_ | refine condM_split ?_ ?_ | refine condM_any ?_ ?_ | refine cw (hA) ?_ | refine cw (cf) ?_ | refine cw (cc) ?_ | refine cw (c1) ?_ | refine cw (c2) ?_ | refine cw (c3) ?_ | refine cw (c4) ?_ | refine cw (c5) ?_ | refine cw (c6) ?_ | refine cw (c7) ?_ | refine cw (c8) ?_ | refine cw (c9) ?_ | refine cw (d1) ?_ | refine cw (d2) ?_ | intro _) | (simp [*, hl', lbs, lbu, lb, hn]))
  all_goals first | exact inI64 (by omega) (by omega) | omega | skip
set_option maxHeartbeats 4000000 in
set_option maxRecDepth 20000 in
theorem la_way (n : Net) (t : Trip) (w : List Int) (hA : RealCall Try.prog 15 [] (.bool true) true) (cf : RealCall Try.prog 16 [aNet n] (.bool true) true) (hl : ¬ 12 < w.length) (cc : RealCall Try.prog 18 [aNet n] (aNet n) true) (s u : List Int) (hs : s.length = n.places.length) (hu : u.length = n.places.length) (c1 : RealCall Try.prog 66 [aNet n, .int .i64 t.frm, .int .i64 t.at_] (.tup [.agg [.sl n.places.length (ints s), .sl n.places.length (ints u)], .int .i64 0]) true) (c2 : RealCall Try.prog 25 [aNet n] (.int .i64 0) true) (c3 : RealCall Try.prog 40 [aNet n, .int .i64 t.frm] (.int .i64 0) true) (c4 : RealCall Try.prog 22 [.int .i64 t.at_] (.int .i64 0) true) (c5 : RealCall Try.prog 67 [aNet n, .int .i64 t.frm, .int .i64 t.at_] (.agg [.sl n.places.length (ints s), .sl n.places.length (ints u)]) true) (c6 : RealCall Try.prog 58 [.sl n.places.length (ints s), .sl n.places.length (ints s)] (.bool true) true) (c7 : RealCall Try.prog 58 [.sl n.places.length (ints u), .sl n.places.length (ints u)] (.bool true) true) (c8 : RealCall Try.prog 40 [aNet n, .int .i64 t.to] (.int .i64 0) true) (b : Nat) (hb : t.to = b) (lb : b < n.places.length) (c9 : RealCall Try.prog 62 [.agg [.sl n.places.length (ints s), .sl n.places.length (ints u)]] (.agg [.sl n.places.length (ints s), .sl n.places.length (ints u)]) true) (x y : Int) (hx : nth s b = x) (hy : nth u b = y) (hx0 : ¬ x < 0) (d1 : RealCall Try.prog 61 [aNet n, .agg (tL t), .agg [.sl n.places.length (ints s), .sl n.places.length (ints u)]] (markP (x, y, 0)) true) (d2 : RealCall Try.prog 28 [aNet n, .agg (tL t)] (markP (x, y, 0)) true) (i e : Int) (he : e ≠ 0) (d3 : RealCall Try.prog 37 [aNet n, .sl w.length (ints w)] (.tup [.int .i64 i, .int .i64 e]) true) : RealCall Try.prog 14 [aNet n, .agg (tL t), .sl w.length (ints w)] (.bool true) true := by
  have hl' : ¬ (12 : Int) < (w.length : Int) := by omega
  have lbs : b < s.length := by omega
  have lbu : b < u.length := by omega
  obtain ⟨t1, t2, t3⟩ := t
  dsimp only at *
  subst hb
  unfold markP at *
  unfold aNet cNet at *
  refine realcall_intro Try.func14 (by kernel_rfl) rfl (Nat.le_of_ble_eq_true (by kernel_rfl)) ?_
  simp only [Try.results14, Try.ntmps14]
  repeat' (first | (with_reducible first | refine awp_seq ?_ | refine awp_blockS ?_ | refine awp_blockC ?_ | refine awp_blockR ?_ | refine awp_skip ?_ | refine awp_ret ?_ | refine awp_exit ?_ | refine awp_region ?_ | refine awp_regionS (id := 5) [0, 1, 2, 3, 4, 5, 6, 7, 8, 9, 10] [11, 12] [[], [], [], [], [], [], [], [], [], [.new 0], []] [[.new 0], []] mixed (by decide +kernel) ?_ | refine awp_regionS (id := 18) [0, 1, 2, 3, 4, 5, 6, 7, 8, 9] [10, 11] [[], [], [], [], [], [], [], [], [.new 0], []] [[.new 0], []] mixed (by decide +kernel) ?_ | refine awp_regionS (id := 19) [0, 1, 2, 3, 4, 5, 6, 7] [8, 9] [[], [], [], [], [], [], [.new 0], []] [[.new 0], []] mixed (by decide +kernel) ?_ | refine awp_regionD (id := 22) 28 mixed (by decide +kernel) ?_ | refine awp_regionS (id := 27) [0, 1, 2, 3, 4, 5, 6, 7, 8, 9, 10] [11, 12] [[], [], [], [], [], [], [], [], [], [.new 0], []] [[.new 0], []] mixed (by decide +kernel) ?_ | refine awp_condM ?_ | refine And.intro ?_ ?_ | refine gM_splitN ?_ ?_ | refine gM_split ?_ ?_ | refine condM_splitDN ?_ ?_ | refine condM_splitD ?_ ?_ | refine condM_splitN ?_ ?_ | refine condM_split ?_ ?_ | refine condM_any ?_ ?_ | refine cw (hA) ?_ | refine cw (cf) ?_ | refine cw (cc) ?_ | refine cw (c1) ?_ | refine cw (c2) ?_ | refine cw (c3) ?_ | refine cw (c4) ?_ | refine cw (c5) ?_ | refine cw (c6) ?_ | refine cw (c7) ?_ | refine cw (c8) ?_ | refine cw (c9) ?_ | refine cw (d1) ?_ | refine cw (d2) ?_ | refine cw (d3) ?_ | intro _) | (simp [*, hl', lbs, lbu, lb, hx, hy, hx0, he]))
  all_goals first | exact inI64 (by omega) (by omega) | omega | skip
set_option maxHeartbeats 4000000 in
set_option maxRecDepth 20000 in
theorem la_clash (n : Net) (t : Trip) (w : List Int) (hA : RealCall Try.prog 15 [] (.bool true) true) (cf : RealCall Try.prog 16 [aNet n] (.bool true) true) (hl : ¬ 12 < w.length) (cc : RealCall Try.prog 18 [aNet n] (aNet n) true) (s u : List Int) (hs : s.length = n.places.length) (hu : u.length = n.places.length) (c1 : RealCall Try.prog 66 [aNet n, .int .i64 t.frm, .int .i64 t.at_] (.tup [.agg [.sl n.places.length (ints s), .sl n.places.length (ints u)], .int .i64 0]) true) (c2 : RealCall Try.prog 25 [aNet n] (.int .i64 0) true) (c3 : RealCall Try.prog 40 [aNet n, .int .i64 t.frm] (.int .i64 0) true) (c4 : RealCall Try.prog 22 [.int .i64 t.at_] (.int .i64 0) true) (c5 : RealCall Try.prog 67 [aNet n, .int .i64 t.frm, .int .i64 t.at_] (.agg [.sl n.places.length (ints s), .sl n.places.length (ints u)]) true) (c6 : RealCall Try.prog 58 [.sl n.places.length (ints s), .sl n.places.length (ints s)] (.bool true) true) (c7 : RealCall Try.prog 58 [.sl n.places.length (ints u), .sl n.places.length (ints u)] (.bool true) true) (c8 : RealCall Try.prog 40 [aNet n, .int .i64 t.to] (.int .i64 0) true) (b : Nat) (hb : t.to = b) (lb : b < n.places.length) (c9 : RealCall Try.prog 62 [.agg [.sl n.places.length (ints s), .sl n.places.length (ints u)]] (.agg [.sl n.places.length (ints s), .sl n.places.length (ints u)]) true) (x y : Int) (hx : nth s b = x) (hy : nth u b = y) (hx0 : ¬ x < 0) (d1 : RealCall Try.prog 61 [aNet n, .agg (tL t), .agg [.sl n.places.length (ints s), .sl n.places.length (ints u)]] (markP (x, y, 0)) true) (d2 : RealCall Try.prog 28 [aNet n, .agg (tL t)] (markP (x, y, 0)) true) (d3 : RealCall Try.prog 37 [aNet n, .sl w.length (ints w)] (.tup [.int .i64 0, .int .i64 0]) true) (d4 : RealCall Try.prog 38 [aNet n, .sl w.length (ints w), .int .i64 t.frm, .int .i64 t.to] (.bool false) true) : RealCall Try.prog 14 [aNet n, .agg (tL t), .sl w.length (ints w)] (.bool true) true := by
  have hl' : ¬ (12 : Int) < (w.length : Int) := by omega
  have lbs : b < s.length := by omega
  have lbu : b < u.length := by omega
  obtain ⟨t1, t2, t3⟩ := t
  dsimp only at *
  subst hb
  unfold markP at *
  unfold aNet cNet at *
  refine realcall_intro Try.func14 (by kernel_rfl) rfl (Nat.le_of_ble_eq_true (by kernel_rfl)) ?_
  simp only [Try.results14, Try.ntmps14]
  repeat' (first | (with_reducible first | refine awp_seq ?_ | refine awp_blockS ?_ | refine awp_blockC ?_ | refine awp_blockR ?_ | refine awp_skip ?_ | refine awp_ret ?_ | refine awp_exit ?_ | refine awp_region ?_ | refine awp_regionS (id := 5) [0, 1, 2, 3, 4, 5, 6, 7, 8, 9, 10] [11, 12] [[], [], [], [], [], [], [], [], [], [.new 0], []] [[.new 0], []] mixed (by decide +kernel) ?_ | refine awp_regionS (id := 18) [0, 1, 2, 3, 4, 5, 6, 7, 8, 9] [10, 11] [[], [], [], [], [], [], [], [], [.new 0], []] [[.new 0], []] mixed (by decide +kernel) ?_ | refine awp_regionS (id := 19) [0, 1, 2, 3, 4, 5, 6, 7] [8, 9] [[], [], [], [], [], [], [.new 0], []] [[.new 0], []] mixed (by decide +kernel) ?_ | refine awp_regionD (id := 22) 28 mixed (by decide +kernel) ?_ | refine awp_regionS (id := 27) [0, 1, 2, 3, 4, 5, 6, 7, 8, 9, 10] [11, 12] [[], [], [], [], [], [], [], [], [], [.new 0], []] [[.new 0], []] mixed (by decide +kernel) ?_ | refine awp_condM ?_ | refine And.intro ?_ ?_ | refine gM_splitN ?_ ?_ | refine gM_split ?_ ?_ | refine condM_splitDN ?_ ?_ | refine condM_splitD ?_ ?_ | refine condM_splitN ?_ ?_ | refine condM_split ?_ ?_ | refine condM_any ?_ ?_ | refine cw (hA) ?_ | refine cw (cf) ?_ | refine cw (cc) ?_ | refine cw (c1) ?_ | refine cw (c2) ?_ | refine cw (c3) ?_ | refine cw (c4) ?_ | refine cw (c5) ?_ | refine cw (c6) ?_ | refine cw (c7) ?_ | refine cw (c8) ?_ | refine cw (c9) ?_ | refine cw (d1) ?_ | refine cw (d2) ?_ | refine cw (d3) ?_ | refine cw (d4) ?_ | intro _) | (simp [*, hl', lbs, lbu, lb, hx, hy, hx0]))
  all_goals first | exact inI64 (by omega) (by omega) | omega | skip
set_option maxHeartbeats 4000000 in
set_option maxRecDepth 20000 in
theorem la_good (n : Net) (t : Trip) (w : List Int) (hA : RealCall Try.prog 15 [] (.bool true) true) (cf : RealCall Try.prog 16 [aNet n] (.bool true) true) (hl : ¬ 12 < w.length) (cc : RealCall Try.prog 18 [aNet n] (aNet n) true) (s u : List Int) (hs : s.length = n.places.length) (hu : u.length = n.places.length) (c1 : RealCall Try.prog 66 [aNet n, .int .i64 t.frm, .int .i64 t.at_] (.tup [.agg [.sl n.places.length (ints s), .sl n.places.length (ints u)], .int .i64 0]) true) (c2 : RealCall Try.prog 25 [aNet n] (.int .i64 0) true) (c3 : RealCall Try.prog 40 [aNet n, .int .i64 t.frm] (.int .i64 0) true) (c4 : RealCall Try.prog 22 [.int .i64 t.at_] (.int .i64 0) true) (c5 : RealCall Try.prog 67 [aNet n, .int .i64 t.frm, .int .i64 t.at_] (.agg [.sl n.places.length (ints s), .sl n.places.length (ints u)]) true) (c6 : RealCall Try.prog 58 [.sl n.places.length (ints s), .sl n.places.length (ints s)] (.bool true) true) (c7 : RealCall Try.prog 58 [.sl n.places.length (ints u), .sl n.places.length (ints u)] (.bool true) true) (c8 : RealCall Try.prog 40 [aNet n, .int .i64 t.to] (.int .i64 0) true) (b : Nat) (hb : t.to = b) (lb : b < n.places.length) (c9 : RealCall Try.prog 62 [.agg [.sl n.places.length (ints s), .sl n.places.length (ints u)]] (.agg [.sl n.places.length (ints s), .sl n.places.length (ints u)]) true) (x y : Int) (hx : nth s b = x) (hy : nth u b = y) (hx0 : ¬ x < 0) (d1 : RealCall Try.prog 61 [aNet n, .agg (tL t), .agg [.sl n.places.length (ints s), .sl n.places.length (ints u)]] (markP (x, y, 0)) true) (d2 : RealCall Try.prog 28 [aNet n, .agg (tL t)] (markP (x, y, 0)) true) (d3 : RealCall Try.prog 37 [aNet n, .sl w.length (ints w)] (.tup [.int .i64 0, .int .i64 0]) true) (d4 : RealCall Try.prog 38 [aNet n, .sl w.length (ints w), .int .i64 t.frm, .int .i64 t.to] (.bool true) true) (d5 : RealCall Try.prog 33 [.sl w.length (ints w)] (.sl w.length (ints w)) true) (v0 v1 : Int) (hv0 : x ≤ v0) (hv1 : y ≤ v1) (d6 : RealCall Try.prog 43 [aNet n, .sl w.length (ints w), .int .i64 t.at_] (markP (v0, v1, 0)) true) : RealCall Try.prog 14 [aNet n, .agg (tL t), .sl w.length (ints w)] (.bool true) true := by
  have hl' : ¬ (12 : Int) < (w.length : Int) := by omega
  have lbs : b < s.length := by omega
  have lbu : b < u.length := by omega
  obtain ⟨t1, t2, t3⟩ := t
  dsimp only at *
  subst hb
  unfold markP at *
  unfold aNet cNet at *
  refine realcall_intro Try.func14 (by kernel_rfl) rfl (Nat.le_of_ble_eq_true (by kernel_rfl)) ?_
  simp only [Try.results14, Try.ntmps14]
  repeat' (first | (with_reducible first | refine awp_seq ?_ | refine awp_blockS ?_ | refine awp_blockC ?_ | refine awp_blockR ?_ | refine awp_skip ?_ | refine awp_ret ?_ | refine awp_exit ?_ | refine awp_region ?_ | refine awp_regionS (id := 5) [0, 1, 2, 3, 4, 5, 6, 7, 8, 9, 10] [11, 12] [[], [], [], [], [], [], [], [], [], [.new 0], []] [[.new 0], []] mixed (by decide +kernel) ?_ | refine awp_regionS (id := 18) [0, 1, 2, 3, 4, 5, 6, 7, 8, 9] [10, 11] [[], [], [], [], [], [], [], [], [.new 0], []] [[.new 0], []] mixed (by decide +kernel) ?_ | refine awp_regionS (id := 19) [0, 1, 2, 3, 4, 5, 6, 7] [8, 9] [[], [], [], [], [], [], [.new 0], []] [[.new 0], []] mixed (by decide +kernel) ?_ | refine awp_regionD (id := 22) 28 mixed (by decide +kernel) ?_ | refine awp_regionS (id := 27) [0, 1, 2, 3, 4, 5, 6, 7, 8, 9, 10] [11, 12] [[], [], [], [], [], [], [], [], [], [.new 0], []] [[.new 0], []] mixed (by decide +kernel) ?_ | refine awp_condM ?_ | refine And.intro ?_ ?_ | refine gM_splitN ?_ ?_ | refine gM_split ?_ ?_ | refine condM_splitDN ?_ ?_ | refine condM_splitD ?_ ?_ | refine condM_splitN ?_ ?_ | refine condM_split ?_ ?_ | refine condM_any ?_ ?_ | refine cw (hA) ?_ | refine cw (cf) ?_ | refine cw (cc) ?_ | refine cw (c1) ?_ | refine cw (c2) ?_ | refine cw (c3) ?_ | refine cw (c4) ?_ | refine cw (c5) ?_ | refine cw (c6) ?_ | refine cw (c7) ?_ | refine cw (c8) ?_ | refine cw (c9) ?_ | refine cw (d1) ?_ | refine cw (d2) ?_ | refine cw (d3) ?_ | refine cw (d4) ?_ | refine cw (d5) ?_ | refine cw (d6) ?_ | intro _) | (simp [*, hl', lbs, lbu, lb, hx, hy, hx0, hv0, hv1]))
  all_goals first | exact inI64 (by omega) (by omega) | omega | skip

set_option maxHeartbeats 4000000 in
theorem streetLabels_c (hA : RealCall Try.prog 15 [] (.bool true) true) (n : Net) (t : Trip) (w : List Int) : RealCall Try.prog 14 [aNet n, .agg (tL t), .sl w.length (ints w)] (.bool true) true := by
  have cf := few_c n
  cases hf : fewB n with
  | false => rw [hf] at cf; exact la_few n t w hA cf
  | true =>
    rw [hf] at cf
    have h := few_in hf
    by_cases hl : 12 < w.length
    · exact la_long n t w hA cf hl
    · have cc := rCopy_c n h
      have hnp := h.np
      have c2 := rNetErr_c n h
      have c3 := rPlaceErr_c n t.frm hnp
      have c4 := rTimeErr_c t.at_
      by_cases he : eaE n t.frm t.at_ = 0
      · have e1 : (netS n).2.2 = 0 := firstS_nth he 0 (show (0 : Nat) < 3 by omega)
        have e2 : errUnless (winB t.frm 0 (n.places.length - 1)) 6 = 0 := firstS_nth he 1 (show (1 : Nat) < 3 by omega)
        have e3 : errUnless (winB t.at_ 0 604800) 2 = 0 := firstS_nth he 2 (show (2 : Nat) < 3 by omega)
        have wx := win_of (unless_zero (by decide) e2)
        have wt := win_of (unless_zero (by decide) e3)
        have ok := net_ok h e1
        rw [e1] at c2
        rw [e2] at c3
        rw [e3] at c4
        obtain ⟨a, ha⟩ : ∃ a : Nat, t.frm = a := ⟨t.frm.toNat, by omega⟩
        have la : a < n.places.length := by omega
        have c1 : RealCall Try.prog 66 [aNet n, .int .i64 t.frm, .int .i64 t.at_] (.tup [.agg [.sl n.places.length (ints (growS (fTime false) n a t.at_).l), .sl n.places.length (ints (growS (fTime true) n a t.at_).l)], .int .i64 0]) true := by
          rw [ha]; exact earl_ok n h a la t.at_ (by rw [← ha]; exact he)
        have c5 : RealCall Try.prog 67 [aNet n, .int .i64 t.frm, .int .i64 t.at_] (.agg [.sl n.places.length (ints (growS (fTime false) n a t.at_).l), .sl n.places.length (ints (growS (fTime true) n a t.at_).l)]) true := by
          rw [ha]; exact earliest_c n ok a la t.at_ wt.1 (by omega)
        obtain ⟨o0, v0, l0⟩ := grow_bad ok false la wt.1 (by omega : t.at_ ≤ 700000)
        obtain ⟨o1, v1, l1⟩ := grow_bad ok true la wt.1 (by omega : t.at_ ≤ 700000)
        have c6 := ints_c (growS (fTime false) n a t.at_).l (by omega)
        have c7 := ints_c (growS (fTime true) n a t.at_).l (by omega)
        rw [l0] at c6
        rw [l1] at c7
        have c8 := rPlaceErr_c n t.to hnp
        by_cases hy : errUnless (winB t.to 0 (n.places.length - 1)) 6 = 0
        · rw [hy] at c8
          have wy := win_of (unless_zero (by decide) hy)
          obtain ⟨b, hb⟩ : ∃ b : Nat, t.to = b := ⟨t.to.toNat, by omega⟩
          have lb : b < n.places.length := by omega
          have tok : TripOk n t a b := ⟨ok, la, lb, ha, hb, wt.1, wt.2⟩
          have c9 := copyLabels_c (growS (fTime false) n a t.at_).l (growS (fTime true) n a t.at_).l (by omega) (by omega)
          unfold aLab at c9
          rw [l0, l1] at c9
          have hbl := lbl_zero l0 l1 v0 v1
          have hot : otE n t = 0 := by
            rw [otE_trip e1]; unfold tripE
            rw [unless_zero (by decide) e2, unless_zero (by decide) hy, e3]; rfl
          have htE : tE n t = 0 := firstS_nth hot 1 (show (1 : Nat) < 2 by omega)
          have hcl : clE n t (growS (fTime false) n a t.at_).l (growS (fTime true) n a t.at_).l = 0 := by
            unfold clE; rw [e1, htE, hbl]; rfl
          have d1 := labels_ok n h t a b tok _ _ l0 l1 hcl
          unfold provS at d1
          rw [o0, o1, if_neg (by decide)] at d1
          have d2 := estimate_c n h t
          have ea : t.frm.toNat = a := by omega
          have eb : t.to.toNat = b := by omega
          unfold estS at d2
          rw [if_neg (by simp [hot]), ea, eb] at d2
          unfold aLab at d1
          rw [l0, l1] at d1
          have b0 := (growS_inv ok (along_time ok false) la wt.1 (by omega : t.at_ ≤ 700000)).small ok (i := b) lb
          have b1 := (growS_inv ok (along_time ok true) la wt.1 (by omega : t.at_ ≤ 700000)).small ok (i := b) lb
          have up := grow_some ok (along_time ok false) (along_time ok true) (time_mono ok true) la wt.1 (by omega : t.at_ ≤ 700000) wt.1 (by omega : t.at_ ≤ 700000) lb
          have fx := fun late => growS_fixed ok (along_time ok late) la wt.1 (by omega : t.at_ ≤ 700000)
          by_cases hn : nth (growS (fTime false) n a t.at_).l b = -1
          · rw [if_pos (.inl hn)] at d1
            rw [if_pos hn] at d2
            exact la_none n t w hA cf hl cc _ _ l0 l1 c1 c2 c3 c4 c5 c6 c7 c8 b hb lb c9 hn d1 d2
          · have h0 : 0 ≤ nth (growS (fTime false) n a t.at_).l b := by
              rcases b0 with e | e
              · exact absurd e hn
              · exact e.1
            have h1 := up h0
            rw [if_neg (fun h => h.elim hn (fun h => by rw [h] at h1; exact absurd h1 (by decide)))] at d1
            rw [if_neg hn] at d2
            have d3 := rWayErr_c n h w (by omega)
            by_cases hw : (wayS n w).2.2 = 0
            · rw [way_zero hw] at d3
              have wo := way_ok hw
              have d4 := rJoins_c n h.nr w wo (by omega) t.frm t.to
              cases hj : joinsB n w t.frm t.to with
              | false =>
                rw [hj] at d4
                exact la_clash n t w hA cf hl cc _ _ l0 l1 c1 c2 c3 c4 c5 c6 c7 c8 b hb lb c9 _ _ rfl rfl (Int.not_lt.2 h0) d1 d2 d3 d4
              | true =>
                rw [hj] at d4
                rw [ha, hb] at hj
                have d5 := copyInts_c w (by omega)
                have d6 := arrivalOf_c n h w (by omega) t.at_
                rw [arr_good (by rw [ow_net e1]; exact hw) (unless_zero (by decide) e3)] at d6
                have r0 := fixed_least ok (time_mono ok false) (fx false) (Int.le_refl _) (joins_reach (f := fTime false) ok wo a b t.at_ hj)
                have r1 := fixed_least ok (time_mono ok true) (fx true) (Int.le_refl _) (joins_reach (f := fTime true) ok wo a b t.at_ hj)
                exact la_good n t w hA cf hl cc _ _ l0 l1 c1 c2 c3 c4 c5 c6 c7 c8 b hb lb c9 _ _ rfl rfl (Int.not_lt.2 h0) d1 d2 d3 d4 d5 _ _ r0.2 r1.2 d6
            · exact la_way n t w hA cf hl cc _ _ l0 l1 c1 c2 c3 c4 c5 c6 c7 c8 b hb lb c9 _ _ rfl rfl (Int.not_lt.2 h0) d1 d2 _ _ hw d3
        · exact la_to n t w hA cf hl cc _ _ l0 l1 c1 c2 c3 c4 c5 c6 c7 _ hy c8
      · have c1 := earl_bad n h t.frm t.at_ he
        have hd : eaE n t.frm t.at_ = if (netS n).2.2 ≠ 0 then (netS n).2.2 else if errUnless (winB t.frm 0 (n.places.length - 1)) 6 ≠ 0 then errUnless (winB t.frm 0 (n.places.length - 1)) 6 else errUnless (winB t.at_ 0 604800) 2 := by
          unfold eaE
          exact first3 _ _ _
        by_cases h1 : (netS n).2.2 = 0
        · rw [if_neg (by simp [h1])] at hd
          rw [h1] at c2
          by_cases h2 : errUnless (winB t.frm 0 (n.places.length - 1)) 6 = 0
          · rw [if_neg (by simp [h2])] at hd
            rw [h2] at c3
            rw [← hd] at c4
            exact la_time n t w hA cf hl cc _ he c1 c2 c3 c4
          · rw [if_pos h2] at hd
            rw [← hd] at c3
            exact la_frm n t w hA cf hl cc _ he c1 c2 c3
        · rw [if_pos h1] at hd
          rw [← hd] at c2
          exact la_net n t w hA cf hl cc _ he c1 c2
end Go.Proofs.Ytmedbghkldmlhaa
