/- Contracts of functions for this claim: lemmas alone. -/
import Derived.Test.YtmedbghkldmlhaaP60
import Derived.Test.YtmedbghkldmlhaaP40
set_option linter.unusedSimpArgs false
set_option linter.unusedVariables false
namespace Go.Proofs.Ytmedbghkldmlhaa
open Go Go.Fi

abbrev aClaim (s u w : List Int) : PV := .agg [.sl s.length (ints s), .sl u.length (ints u), .sl w.length (ints w)]

set_option maxHeartbeats 4000000 in
set_option maxRecDepth 20000 in
theorem pr_few (n : Net) (t : Trip) (s u w : List Int) (hA : RealCall Try.prog 15 [] (.bool true) true) (cf : RealCall Try.prog 16 [aNet n] (.bool false) true) : RealCall Try.prog 12 [aNet n, .agg (tL t), aClaim s u w] (.bool true) true := by
  unfold aNet cNet at *
  refine realcall_intro Try.func12 (by kernel_rfl) rfl (Nat.le_of_ble_eq_true (by kernel_rfl)) ?_
  simp only [Try.results12, Try.ntmps12]
  repeat' (first | (with_reducible first | refine awp_seq ?_ | refine awp_blockS ?_ | refine awp_blockC ?_ | refine awp_blockR ?_ | refine awp_skip ?_ | refine awp_ret ?_ | refine awp_exit ?_ | refine awp_region ?_ | refine awp_regionS (id := 5) [0, 1, 2, 3, 4, 5, 6, 7, 8, 9, 10] [11, 12] [[], [], [], [], [], [], [], [], [], [.new 0], []] [[.new 0], []] mixed (by decide +kernel) ?_ | refine awp_regionS (id := 17) [0, 1, 2, 3, 4, 5, 6, 7, 8, 9, 10, 11] [12, 13] [[], [], [], [], [], [], [], [], [], [], [.new 0], []] [[.new 0], []] mixed (by decide +kernel) ?_ | refine awp_condM ?_ | refine And.intro ?_ ?_ | refine gM_splitN ?_ ?_ | refine gM_split ?_ ?_ | refine condM_splitDN ?_ ?_ | refine condM_splitD ?_ ?_ | refine condM_splitN ?_ ?_ | refine condM_split ?_ ?_ | refine condM_any ?_ ?_ | refine cw (hA) ?_ | refine cw (cf) ?_ | intro _) | (simp [*]))
  all_goals first | exact inI64 (by omega) (by omega) | omega | skip
set_option maxHeartbeats 4000000 in
set_option maxRecDepth 20000 in
theorem pr_ls (n : Net) (t : Trip) (s u w : List Int) (hA : RealCall Try.prog 15 [] (.bool true) true) (cf : RealCall Try.prog 16 [aNet n] (.bool true) true) (g1 : 22 < s.length) : RealCall Try.prog 12 [aNet n, .agg (tL t), aClaim s u w] (.bool true) true := by
  have hs : (22 : Int) < (s.length : Int) := by omega
  unfold aNet cNet at *
  refine realcall_intro Try.func12 (by kernel_rfl) rfl (Nat.le_of_ble_eq_true (by kernel_rfl)) ?_
  simp only [Try.results12, Try.ntmps12]
  repeat' (first | (with_reducible first | refine awp_seq ?_ | refine awp_blockS ?_ | refine awp_blockC ?_ | refine awp_blockR ?_ | refine awp_skip ?_ | refine awp_ret ?_ | refine awp_exit ?_ | refine awp_region ?_ | refine awp_regionS (id := 5) [0, 1, 2, 3, 4, 5, 6, 7, 8, 9, 10] [11, 12] [[], [], [], [], [], [], [], [], [], [.new 0], []] [[.new 0], []] mixed (by decide +kernel) ?_ | refine awp_regionS (id := 17) [0, 1, 2, 3, 4, 5, 6, 7, 8, 9, 10, 11] [12, 13] [[], [], [], [], [], [], [], [], [], [], [.new 0], []] [[.new 0], []] mixed (by decide +kernel) ?_ | refine awp_condM ?_ | refine And.intro ?_ ?_ | refine gM_splitN ?_ ?_ | refine gM_split ?_ ?_ | refine condM_splitDN ?_ ?_ | refine condM_splitD ?_ ?_ | refine condM_splitN ?_ ?_ | refine condM_split ?_ ?_ | refine condM_any ?_ ?_ | refine cw (hA) ?_ | refine cw (cf) ?_ | intro _) | (simp [*, hs]))
  all_goals first | exact inI64 (by omega) (by omega) | omega | skip
set_option maxHeartbeats 4000000 in
set_option maxRecDepth 20000 in
theorem pr_lu (n : Net) (t : Trip) (s u w : List Int) (hA : RealCall Try.prog 15 [] (.bool true) true) (cf : RealCall Try.prog 16 [aNet n] (.bool true) true) (g1 : ¬ 22 < s.length) (g2 : 22 < u.length) : RealCall Try.prog 12 [aNet n, .agg (tL t), aClaim s u w] (.bool true) true := by
  have hs : ¬ (22 : Int) < (s.length : Int) := by omega
  have hu : (22 : Int) < (u.length : Int) := by omega
  unfold aNet cNet at *
  refine realcall_intro Try.func12 (by kernel_rfl) rfl (Nat.le_of_ble_eq_true (by kernel_rfl)) ?_
  simp only [Try.results12, Try.ntmps12]
  repeat' (first | (with_reducible first | refine awp_seq ?_ | refine awp_blockS ?_ | refine awp_blockC ?_ | refine awp_blockR ?_ | refine awp_skip ?_ | refine awp_ret ?_ | refine awp_exit ?_ | refine awp_region ?_ | refine awp_regionS (id := 5) [0, 1, 2, 3, 4, 5, 6, 7, 8, 9, 10] [11, 12] [[], [], [], [], [], [], [], [], [], [.new 0], []] [[.new 0], []] mixed (by decide +kernel) ?_ | refine awp_regionS (id := 17) [0, 1, 2, 3, 4, 5, 6, 7, 8, 9, 10, 11] [12, 13] [[], [], [], [], [], [], [], [], [], [], [.new 0], []] [[.new 0], []] mixed (by decide +kernel) ?_ | refine awp_condM ?_ | refine And.intro ?_ ?_ | refine gM_splitN ?_ ?_ | refine gM_split ?_ ?_ | refine condM_splitDN ?_ ?_ | refine condM_splitD ?_ ?_ | refine condM_splitN ?_ ?_ | refine condM_split ?_ ?_ | refine condM_any ?_ ?_ | refine cw (hA) ?_ | refine cw (cf) ?_ | intro _) | (simp [*, hs, hu]))
  all_goals first | exact inI64 (by omega) (by omega) | omega | skip
set_option maxHeartbeats 4000000 in
set_option maxRecDepth 20000 in
theorem pr_lw (n : Net) (t : Trip) (s u w : List Int) (hA : RealCall Try.prog 15 [] (.bool true) true) (cf : RealCall Try.prog 16 [aNet n] (.bool true) true) (g1 : ¬ 22 < s.length) (g2 : ¬ 22 < u.length) (g3 : 12 < w.length) : RealCall Try.prog 12 [aNet n, .agg (tL t), aClaim s u w] (.bool true) true := by
  have hs : ¬ (22 : Int) < (s.length : Int) := by omega
  have hu : ¬ (22 : Int) < (u.length : Int) := by omega
  have hw : (12 : Int) < (w.length : Int) := by omega
  unfold aNet cNet at *
  refine realcall_intro Try.func12 (by kernel_rfl) rfl (Nat.le_of_ble_eq_true (by kernel_rfl)) ?_
  simp only [Try.results12, Try.ntmps12]
  repeat' (first | (with_reducible first | refine awp_seq ?_ | refine awp_blockS ?_ | refine awp_blockC ?_ | refine awp_blockR ?_ | refine awp_skip ?_ | refine awp_ret ?_ | refine awp_exit ?_ | refine awp_region ?_ | refine awp_regionS (id := 5) [0, 1, 2, 3, 4, 5, 6, 7, 8, 9, 10] [11, 12] [[], [], [], [], [], [], [], [], [], [.new 0], []] [[.new 0], []] mixed (by decide +kernel) ?_ | refine awp_regionS (id := 17) [0, 1, 2, 3, 4, 5, 6, 7, 8, 9, 10, 11] [12, 13] [[], [], [], [], [], [], [], [], [], [], [.new 0], []] [[.new 0], []] mixed (by decide +kernel) ?_ | refine awp_condM ?_ | refine And.intro ?_ ?_ | refine gM_splitN ?_ ?_ | refine gM_split ?_ ?_ | refine condM_splitDN ?_ ?_ | refine condM_splitD ?_ ?_ | refine condM_splitN ?_ ?_ | refine condM_split ?_ ?_ | refine condM_any ?_ ?_ | refine cw (hA) ?_ | refine cw (cf) ?_ | intro _) | (simp [*, hs, hu, hw]))
  all_goals first | exact inI64 (by omega) (by omega) | omega | skip
set_option maxHeartbeats 4000000 in
set_option maxRecDepth 20000 in
theorem pr_net (n : Net) (t : Trip) (s u w : List Int) (hA : RealCall Try.prog 15 [] (.bool true) true) (cf : RealCall Try.prog 16 [aNet n] (.bool true) true) (g1 : ¬ 22 < s.length) (g2 : ¬ 22 < u.length) (g3 : ¬ 12 < w.length) (cc : RealCall Try.prog 18 [aNet n] (aNet n) true) (c1 : RealCall Try.prog 62 [aLab s u] (aLab s u) true) (e : Int) (he : e ≠ 0) (c2 : RealCall Try.prog 61 [aNet n, .agg (tL t), aLab s u] (markP (0, 0, e)) true) (c3 : RealCall Try.prog 25 [aNet n] (.int .i64 e) true) : RealCall Try.prog 12 [aNet n, .agg (tL t), aClaim s u w] (.bool true) true := by
  have hs : ¬ (22 : Int) < (s.length : Int) := by omega
  have hu : ¬ (22 : Int) < (u.length : Int) := by omega
  have hw : ¬ (12 : Int) < (w.length : Int) := by omega
  unfold markP at *
  unfold aNet cNet at *
  refine realcall_intro Try.func12 (by kernel_rfl) rfl (Nat.le_of_ble_eq_true (by kernel_rfl)) ?_
  simp only [Try.results12, Try.ntmps12]
  repeat' (first | (with_reducible first | refine awp_seq ?_ | refine awp_blockS ?_ | refine awp_blockC ?_ | refine awp_blockR ?_ | refine awp_skip ?_ | refine awp_ret ?_ | refine awp_exit ?_ | refine awp_region ?_ | refine awp_regionS (id := 5) [0, 1, 2, 3, 4, 5, 6, 7, 8, 9, 10] [11, 12] [[], [], [], [], [], [], [], [], [], [.new 0], []] [[.new 0], []] mixed (by decide +kernel) ?_ | refine awp_regionS (id := 17) [0, 1, 2, 3, 4, 5, 6, 7, 8, 9, 10, 11] [12, 13] [[], [], [], [], [], [], [], [], [], [], [.new 0], []] [[.new 0], []] mixed (by decide +kernel) ?_ | refine awp_condM ?_ | refine And.intro ?_ ?_ | refine gM_splitN ?_ ?_ | refine gM_split ?_ ?_ | refine condM_splitDN ?_ ?_ | refine condM_splitD ?_ ?_ | refine condM_splitN ?_ ?_ | refine condM_split ?_ ?_ | refine condM_any ?_ ?_ | refine cw (hA) ?_ | refine cw (cf) ?_ | refine cw (cc) ?_ | refine cw (c1) ?_ | refine cw (c2) ?_ | refine cw (c3) ?_ | intro _) | (simp [*, hs, hu, hw, he]))
  all_goals first | exact inI64 (by omega) (by omega) | omega | skip
set_option maxHeartbeats 4000000 in
set_option maxRecDepth 20000 in
theorem pr_trip (n : Net) (t : Trip) (s u w : List Int) (hA : RealCall Try.prog 15 [] (.bool true) true) (cf : RealCall Try.prog 16 [aNet n] (.bool true) true) (g1 : ¬ 22 < s.length) (g2 : ¬ 22 < u.length) (g3 : ¬ 12 < w.length) (cc : RealCall Try.prog 18 [aNet n] (aNet n) true) (c1 : RealCall Try.prog 62 [aLab s u] (aLab s u) true) (e : Int) (he : e ≠ 0) (c2 : RealCall Try.prog 61 [aNet n, .agg (tL t), aLab s u] (markP (0, 0, e)) true) (c3 : RealCall Try.prog 25 [aNet n] (.int .i64 0) true) (c4 : RealCall Try.prog 26 [aNet n, .agg (tL t)] (.int .i64 e) true) : RealCall Try.prog 12 [aNet n, .agg (tL t), aClaim s u w] (.bool true) true := by
  have hs : ¬ (22 : Int) < (s.length : Int) := by omega
  have hu : ¬ (22 : Int) < (u.length : Int) := by omega
  have hw : ¬ (12 : Int) < (w.length : Int) := by omega
  unfold markP at *
  unfold aNet cNet at *
  refine realcall_intro Try.func12 (by kernel_rfl) rfl (Nat.le_of_ble_eq_true (by kernel_rfl)) ?_
  simp only [Try.results12, Try.ntmps12]
  repeat' (first | (with_reducible first | refine awp_seq ?_ | refine awp_blockS ?_ | refine awp_blockC ?_ | refine awp_blockR ?_ | refine awp_skip ?_ | refine awp_ret ?_ | refine awp_exit ?_ | refine awp_region ?_ | refine awp_regionS (id := 5) [0, 1, 2, 3, 4, 5, 6, 7, 8, 9, 10] [11, 12] [[], [], [], [], [], [], [], [], [], [.new 0], []] [[.new 0], []] mixed (by decide +kernel) ?_ | refine awp_regionS (id := 17) [0, 1, 2, 3, 4, 5, 6, 7, 8, 9, 10, 11] [12, 13] [[], [], [], [], [], [], [], [], [], [], [.new 0], []] [[.new 0], []] mixed (by decide +kernel) ?_ | refine awp_condM ?_ | refine And.intro ?_ ?_ | refine gM_splitN ?_ ?_ | refine gM_split ?_ ?_ | refine condM_splitDN ?_ ?_ | refine condM_splitD ?_ ?_ | refine condM_splitN ?_ ?_ | refine condM_split ?_ ?_ | refine condM_any ?_ ?_ | refine cw (hA) ?_ | refine cw (cf) ?_ | refine cw (cc) ?_ | refine cw (c1) ?_ | refine cw (c2) ?_ | refine cw (c3) ?_ | refine cw (c4) ?_ | intro _) | (simp [*, hs, hu, hw, he]))
  all_goals first | exact inI64 (by omega) (by omega) | omega | skip
set_option maxHeartbeats 4000000 in
set_option maxRecDepth 20000 in
theorem pr_no (n : Net) (t : Trip) (s u w : List Int) (hA : RealCall Try.prog 15 [] (.bool true) true) (cf : RealCall Try.prog 16 [aNet n] (.bool true) true) (g1 : ¬ 22 < s.length) (g2 : ¬ 22 < u.length) (g3 : ¬ 12 < w.length) (cc : RealCall Try.prog 18 [aNet n] (aNet n) true) (c1 : RealCall Try.prog 62 [aLab s u] (aLab s u) true) (x y d : Int) (c2 : RealCall Try.prog 61 [aNet n, .agg (tL t), aLab s u] (markP (x, y, d)) true) (c3 : RealCall Try.prog 25 [aNet n] (.int .i64 0) true) (c4 : RealCall Try.prog 26 [aNet n, .agg (tL t)] (.int .i64 0) true) (c5 : RealCall Try.prog 63 [aNet n, .agg (tL t), aLab s u] (markP (x, y, d)) true) (hd : d ≠ 0) (i e : Int) (c6 : RealCall Try.prog 37 [aNet n, .sl w.length (ints w)] (.tup [.int .i64 i, .int .i64 e]) true) : RealCall Try.prog 12 [aNet n, .agg (tL t), aClaim s u w] (.bool true) true := by
  have hs : ¬ (22 : Int) < (s.length : Int) := by omega
  have hu : ¬ (22 : Int) < (u.length : Int) := by omega
  have hw : ¬ (12 : Int) < (w.length : Int) := by omega
  unfold markP at *
  unfold aNet cNet at *
  refine realcall_intro Try.func12 (by kernel_rfl) rfl (Nat.le_of_ble_eq_true (by kernel_rfl)) ?_
  simp only [Try.results12, Try.ntmps12]
  repeat' (first | (with_reducible first | refine awp_seq ?_ | refine awp_blockS ?_ | refine awp_blockC ?_ | refine awp_blockR ?_ | refine awp_skip ?_ | refine awp_ret ?_ | refine awp_exit ?_ | refine awp_region ?_ | refine awp_regionS (id := 5) [0, 1, 2, 3, 4, 5, 6, 7, 8, 9, 10] [11, 12] [[], [], [], [], [], [], [], [], [], [.new 0], []] [[.new 0], []] mixed (by decide +kernel) ?_ | refine awp_regionS (id := 17) [0, 1, 2, 3, 4, 5, 6, 7, 8, 9, 10, 11] [12, 13] [[], [], [], [], [], [], [], [], [], [], [.new 0], []] [[.new 0], []] mixed (by decide +kernel) ?_ | refine awp_condM ?_ | refine And.intro ?_ ?_ | refine gM_splitN ?_ ?_ | refine gM_split ?_ ?_ | refine condM_splitDN ?_ ?_ | refine condM_splitD ?_ ?_ | refine condM_splitN ?_ ?_ | refine condM_split ?_ ?_ | refine condM_any ?_ ?_ | refine cw (hA) ?_ | refine cw (cf) ?_ | refine cw (cc) ?_ | refine cw (c1) ?_ | refine cw (c2) ?_ | refine cw (c3) ?_ | refine cw (c4) ?_ | refine cw (c5) ?_ | refine cw (c6) ?_ | intro _) | (simp [*, hs, hu, hw, hd]))
  all_goals first | exact inI64 (by omega) (by omega) | omega | skip
set_option maxHeartbeats 4000000 in
set_option maxRecDepth 20000 in
theorem pr_way (n : Net) (t : Trip) (s u w : List Int) (hA : RealCall Try.prog 15 [] (.bool true) true) (cf : RealCall Try.prog 16 [aNet n] (.bool true) true) (g1 : ¬ 22 < s.length) (g2 : ¬ 22 < u.length) (g3 : ¬ 12 < w.length) (cc : RealCall Try.prog 18 [aNet n] (aNet n) true) (c1 : RealCall Try.prog 62 [aLab s u] (aLab s u) true) (x y d : Int) (c2 : RealCall Try.prog 61 [aNet n, .agg (tL t), aLab s u] (markP (x, y, d)) true) (c3 : RealCall Try.prog 25 [aNet n] (.int .i64 0) true) (c4 : RealCall Try.prog 26 [aNet n, .agg (tL t)] (.int .i64 0) true) (c5 : RealCall Try.prog 63 [aNet n, .agg (tL t), aLab s u] (markP (x, y, d)) true) (hd : d = 0) (i e : Int) (he : e ≠ 0) (c6 : RealCall Try.prog 37 [aNet n, .sl w.length (ints w)] (.tup [.int .i64 i, .int .i64 e]) true) : RealCall Try.prog 12 [aNet n, .agg (tL t), aClaim s u w] (.bool true) true := by
  have hs : ¬ (22 : Int) < (s.length : Int) := by omega
  have hu : ¬ (22 : Int) < (u.length : Int) := by omega
  have hw : ¬ (12 : Int) < (w.length : Int) := by omega
  subst hd
  unfold markP at *
  unfold aNet cNet at *
  refine realcall_intro Try.func12 (by kernel_rfl) rfl (Nat.le_of_ble_eq_true (by kernel_rfl)) ?_
  simp only [Try.results12, Try.ntmps12]
  repeat' (first | (with_reducible first | refine awp_seq ?_ | refine awp_blockS ?_ | refine awp_blockC ?_ | refine awp_blockR ?_ | refine awp_skip ?_ | refine awp_ret ?_ | refine awp_exit ?_ | refine awp_region ?_ | refine awp_regionS (id := 5) [0, 1, 2, 3, 4, 5, 6, 7, 8, 9, 10] [11, 12] [[], [], [], [], [], [], [], [], [], [.new 0], []] [[.new 0], []] mixed (by decide +kernel) ?_ | refine awp_regionS (id := 17) [0, 1, 2, 3, 4, 5, 6, 7, 8, 9, 10, 11] [12, 13] [[], [], [], [], [], [], [], [], [], [], [.new 0], []] [[.new 0], []] mixed (by decide +kernel) ?_ | refine awp_condM ?_ | refine And.intro ?_ ?_ | refine gM_splitN ?_ ?_ | refine gM_split ?_ ?_ | refine condM_splitDN ?_ ?_ | refine condM_splitD ?_ ?_ | refine condM_splitN ?_ ?_ | refine condM_split ?_ ?_ | refine condM_any ?_ ?_ | refine cw (hA) ?_ | refine cw (cf) ?_ | refine cw (cc) ?_ | refine cw (c1) ?_ | refine cw (c2) ?_ | refine cw (c3) ?_ | refine cw (c4) ?_ | refine cw (c5) ?_ | refine cw (c6) ?_ | intro _) | (simp [*, hs, hu, hw, he]))
  all_goals first | exact inI64 (by omega) (by omega) | omega | skip
set_option maxHeartbeats 4000000 in
set_option maxRecDepth 20000 in
theorem pr_clash (n : Net) (t : Trip) (s u w : List Int) (hA : RealCall Try.prog 15 [] (.bool true) true) (cf : RealCall Try.prog 16 [aNet n] (.bool true) true) (g1 : ¬ 22 < s.length) (g2 : ¬ 22 < u.length) (g3 : ¬ 12 < w.length) (cc : RealCall Try.prog 18 [aNet n] (aNet n) true) (c1 : RealCall Try.prog 62 [aLab s u] (aLab s u) true) (x y d : Int) (c2 : RealCall Try.prog 61 [aNet n, .agg (tL t), aLab s u] (markP (x, y, d)) true) (c3 : RealCall Try.prog 25 [aNet n] (.int .i64 0) true) (c4 : RealCall Try.prog 26 [aNet n, .agg (tL t)] (.int .i64 0) true) (c5 : RealCall Try.prog 63 [aNet n, .agg (tL t), aLab s u] (markP (x, y, d)) true) (hd : d = 0) (c6 : RealCall Try.prog 37 [aNet n, .sl w.length (ints w)] (.tup [.int .i64 0, .int .i64 0]) true) (c7 : RealCall Try.prog 38 [aNet n, .sl w.length (ints w), .int .i64 t.frm, .int .i64 t.to] (.bool false) true) : RealCall Try.prog 12 [aNet n, .agg (tL t), aClaim s u w] (.bool true) true := by
  have hs : ¬ (22 : Int) < (s.length : Int) := by omega
  have hu : ¬ (22 : Int) < (u.length : Int) := by omega
  have hw : ¬ (12 : Int) < (w.length : Int) := by omega
  subst hd
  unfold markP at *
  unfold aNet cNet at *
  refine realcall_intro Try.func12 (by kernel_rfl) rfl (Nat.le_of_ble_eq_true (by kernel_rfl)) ?_
  simp only [Try.results12, Try.ntmps12]
  repeat' (first | (with_reducible first | refine awp_seq ?_ | refine awp_blockS ?_ | refine awp_blockC ?_ | refine awp_blockR ?_ | refine awp_skip ?_ | refine awp_ret ?_ | refine awp_exit ?_ | refine awp_region ?_ | refine awp_regionS (id := 5) [0, 1, 2, 3, 4, 5, 6, 7, 8, 9, 10] [11, 12] [[], [], [], [], [], [], [], [], [], [.new 0], []] [[.new 0], []] mixed (by decide +kernel) ?_ | refine awp_regionS (id := 17) [0, 1, 2, 3, 4, 5, 6, 7, 8, 9, 10, 11] [12, 13] [[], [], [], [], [], [], [], [], [], [], [.new 0], []] [[.new 0], []] mixed (by decide +kernel) ?_ | refine awp_condM ?_ | refine And.intro ?_ ?_ | refine gM_splitN ?_ ?_ | refine gM_split ?_ ?_ | refine condM_splitDN ?_ ?_ | refine condM_splitD ?_ ?_ | refine condM_splitN ?_ ?_ | refine condM_split ?_ ?_ | refine condM_any ?_ ?_ | refine cw (hA) ?_ | refine cw (cf) ?_ | refine cw (cc) ?_ | refine cw (c1) ?_ | refine cw (c2) ?_ | refine cw (c3) ?_ | refine cw (c4) ?_ | refine cw (c5) ?_ | refine cw (c6) ?_ | refine cw (c7) ?_ | intro _) | (simp [*, hs, hu, hw]))
  all_goals first | exact inI64 (by omega) (by omega) | omega | skip
set_option maxHeartbeats 4000000 in
set_option maxRecDepth 20000 in
theorem pr_good (n : Net) (t : Trip) (s u w : List Int) (hA : RealCall Try.prog 15 [] (.bool true) true) (cf : RealCall Try.prog 16 [aNet n] (.bool true) true) (g1 : ¬ 22 < s.length) (g2 : ¬ 22 < u.length) (g3 : ¬ 12 < w.length) (cc : RealCall Try.prog 18 [aNet n] (aNet n) true) (c1 : RealCall Try.prog 62 [aLab s u] (aLab s u) true) (x y d : Int) (c2 : RealCall Try.prog 61 [aNet n, .agg (tL t), aLab s u] (markP (x, y, d)) true) (c3 : RealCall Try.prog 25 [aNet n] (.int .i64 0) true) (c4 : RealCall Try.prog 26 [aNet n, .agg (tL t)] (.int .i64 0) true) (c5 : RealCall Try.prog 63 [aNet n, .agg (tL t), aLab s u] (markP (x, y, d)) true) (hd : d = 0) (c6 : RealCall Try.prog 37 [aNet n, .sl w.length (ints w)] (.tup [.int .i64 0, .int .i64 0]) true) (c7 : RealCall Try.prog 38 [aNet n, .sl w.length (ints w), .int .i64 t.frm, .int .i64 t.to] (.bool true) true) (c8 : RealCall Try.prog 33 [.sl w.length (ints w)] (.sl w.length (ints w)) true) (v0 v1 : Int) (hv0 : x ≤ v0) (hv1 : y ≤ v1) (c9 : RealCall Try.prog 43 [aNet n, .sl w.length (ints w), .int .i64 t.at_] (markP (v0, v1, 0)) true) : RealCall Try.prog 12 [aNet n, .agg (tL t), aClaim s u w] (.bool true) true := by
  have hs : ¬ (22 : Int) < (s.length : Int) := by omega
  have hu : ¬ (22 : Int) < (u.length : Int) := by omega
  have hw : ¬ (12 : Int) < (w.length : Int) := by omega
  subst hd
  unfold markP at *
  unfold aNet cNet at *
  refine realcall_intro Try.func12 (by kernel_rfl) rfl (Nat.le_of_ble_eq_true (by kernel_rfl)) ?_
  simp only [Try.results12, Try.ntmps12]
  repeat' (first | (with_reducible first | refine awp_seq ?_ | refine awp_blockS ?_ | refine awp_blockC ?_ | refine awp_blockR ?_ | refine awp_skip ?_ | refine awp_ret ?_ | refine awp_exit ?_ | refine awp_region ?_ | refine awp_regionS (id := 5) [0, 1, 2, 3, 4, 5, 6, 7, 8, 9, 10] [11, 12] [[], [], [], [], [], [], [], [], [], [.new 0], []] [[.new 0], []] mixed (by decide +kernel) ?_ | refine awp_regionS (id := 17) [0, 1, 2, 3, 4, 5, 6, 7, 8, 9, 10, 11] [12, 13] [[], [], [], [], [], [], [], [], [], [], [.new 0], []] [[.new 0], []] mixed (by decide +kernel) ?_ | refine awp_condM ?_ | refine And.intro ?_ ?_ | refine gM_splitN ?_ ?_ | refine gM_split ?_ ?_ | refine condM_splitDN ?_ ?_ | refine condM_splitD ?_ ?_ | refine condM_splitN ?_ ?_ | refine condM_split ?_ ?_ | refine condM_any ?_ ?_ | refine cw (hA) ?_ | refine cw (cf) ?_ | refine cw (cc) ?_ | refine cw (c1) ?_ | refine cw (c2) ?_ | refine cw (c3) ?_ | refine cw (c4) ?_ | refine cw (c5) ?_ | refine cw (c6) ?_ | refine cw (c7) ?_ | refine cw (c8) ?_ | refine cw (c9) ?_ | intro _) | (simp [*, hs, hu, hw, hv0, hv1]))
  all_goals first | exact inI64 (by omega) (by omega) | omega | skip

theorem prov_good {n : Net} {a b : Nat} {at_ : Int} {s u : List Int} (h : (provS n a b at_ s u).2.2 = 0) : okL false n a at_ s = true ∧ okL true n a at_ u = true ∧ provS n a b at_ s u = (nth s b, nth u b, 0) := by
  unfold provS at h ⊢
  by_cases ho : (okL false n a at_ s && okL true n a at_ u) = false
  · rw [if_pos ho] at h; exact absurd h (by decide)
  · rw [if_neg ho] at h ⊢
    by_cases hc : nth s b = -1 ∨ nth u b = -1
    · rw [if_pos hc] at h; exact absurd h (by decide)
    · rw [if_neg hc]
      cases h0 : okL false n a at_ s with
      | false => rw [h0] at ho; exact absurd rfl ho
      | true =>
        cases h1 : okL true n a at_ u with
        | false => rw [h0, h1] at ho; exact absurd rfl ho
        | true => exact ⟨rfl, rfl, rfl⟩
set_option maxHeartbeats 4000000 in
theorem streetProofs_c (hA : RealCall Try.prog 15 [] (.bool true) true) (n : Net) (t : Trip) (s u w : List Int) : RealCall Try.prog 12 [aNet n, .agg (tL t), aClaim s u w] (.bool true) true := by
  have cf := few_c n
  cases hf : fewB n with
  | false => rw [hf] at cf; exact pr_few n t s u w hA cf
  | true =>
    rw [hf] at cf
    have h := few_in hf
    by_cases g1 : 22 < s.length
    · exact pr_ls n t s u w hA cf g1
    by_cases g2 : 22 < u.length
    · exact pr_lu n t s u w hA cf g1 g2
    by_cases g3 : 12 < w.length
    · exact pr_lw n t s u w hA cf g1 g2 g3
    have cc := rCopy_c n h
    have hnp := h.np
    have c1 := copyLabels_c s u (by omega) (by omega)
    have c3 := rNetErr_c n h
    have c4 : RealCall Try.prog 26 [aNet n, .agg (tL t)] (.int .i64 (tripE n t)) true := rTripErr_c n t (by omega)
    have hcl : clE n t s u = if (netS n).2.2 ≠ 0 then (netS n).2.2 else if tripE n t ≠ 0 then tripE n t else lblE n [s, u] := by
      unfold clE
      rw [tE_trip]
      exact first3 _ _ _
    by_cases h1 : (netS n).2.2 = 0
    · rw [if_neg (by simp [h1])] at hcl
      rw [h1] at c3
      by_cases h2 : tripE n t = 0
      · rw [if_neg (by simp [h2])] at hcl
        rw [h2] at c4
        have hot : otE n t = 0 := by rw [otE_trip h1]; exact h2
        obtain ⟨a, b, ok⟩ := trip_ok h hot
        have c6 := rWayErr_c n h w (by omega)
        by_cases h3 : lblE n [s, u] = 0
        · rw [h3] at hcl
          obtain ⟨l0, l1⟩ := lbl_inv h3
          have c2 := labels_ok n h t a b ok s u l0 l1 hcl
          have c5 := rCheck_ok n ok.ok t a b ok.fa ok.fb ok.la ok.lb s u h3
          by_cases hd : (provS n a b t.at_ s u).2.2 = 0
          · obtain ⟨o0, o1, ep⟩ := prov_good hd
            rw [ep] at c2 c5
            by_cases hw : (wayS n w).2.2 = 0
            · rw [way_zero hw] at c6
              have wo := way_ok hw
              have c7 := rJoins_c n h.nr w wo (by omega) t.frm t.to
              cases hj : joinsB n w t.frm t.to with
              | false =>
                rw [hj] at c7
                exact pr_clash n t s u w hA cf g1 g2 g3 cc c1 _ _ _ c2 c3 c4 c5 rfl c6 c7
              | true =>
                rw [hj] at c7
                rw [ok.fa, ok.fb] at hj
                have c8 := copyInts_c w (by omega)
                have c9 := arrivalOf_c n h w (by omega) t.at_
                have hwin : winB t.at_ 0 604800 = true := by
                  have := ok.lo; have := ok.hi
                  unfold winB; simp; omega
                rw [arr_good (by rw [ow_net h1]; exact hw) hwin] at c9
                have hv := lbl_vals h3
                have r0 := ok_low ok.ok false l0 (badA_no (hv s (.inl rfl))) ok.la o0 (joins_reach (f := fTime false) ok.ok wo a b t.at_ hj)
                have r1 := ok_low ok.ok true l1 (badA_no (hv u (.inr rfl))) ok.la o1 (joins_reach (f := fTime true) ok.ok wo a b t.at_ hj)
                exact pr_good n t s u w hA cf g1 g2 g3 cc c1 _ _ _ c2 c3 c4 c5 rfl c6 c7 c8 _ _ r0.2 r1.2 c9
            · exact pr_way n t s u w hA cf g1 g2 g3 cc c1 _ _ _ c2 c3 c4 c5 rfl _ _ hw c6
          · exact pr_no n t s u w hA cf g1 g2 g3 cc c1 _ _ _ c2 c3 c4 c5 hd _ _ c6
        · have c2 := labels_bad n h t s u (by omega) (by omega) (by rw [hcl]; exact h3)
          rw [hcl] at c2
          have c5 := rCheck_bad n hnp t s u (by omega) (by omega) h3
          exact pr_no n t s u w hA cf g1 g2 g3 cc c1 _ _ _ c2 c3 c4 c5 h3 _ _ c6
      · rw [if_pos h2] at hcl
        have c2 := labels_bad n h t s u (by omega) (by omega) (by rw [hcl]; exact h2)
        rw [hcl] at c2
        exact pr_trip n t s u w hA cf g1 g2 g3 cc c1 _ h2 c2 c3 c4
    · rw [if_pos h1] at hcl
      have c2 := labels_bad n h t s u (by omega) (by omega) (by rw [hcl]; exact h1)
      rw [hcl] at c2
      exact pr_net n t s u w hA cf g1 g2 g3 cc c1 _ h1 c2 c3
end Go.Proofs.Ytmedbghkldmlhaa
