/- Contracts of functions for this claim: lemmas alone. -/
import Derived.Test.YtmedbghkldmlhaaP55
set_option linter.unusedSimpArgs false
set_option linter.unusedVariables false
namespace Go.Proofs.Ytmedbghkldmlhaa
open Go Go.Fi

set_option maxHeartbeats 4000000 in
set_option maxRecDepth 20000 in
theorem fa_few (n : Net) (t : Trip) (w : List Int) (hA : RealCall Try.prog 15 [] (.bool true) true) (cf : RealCall Try.prog 16 [aNet n] (.bool false) true) : RealCall Try.prog 10 [aNet n, .agg (tL t), .sl w.length (ints w)] (.bool true) true := by
  unfold aNet cNet at *
  refine realcall_intro Try.func10 (by kernel_rfl) rfl (Nat.le_of_ble_eq_true (by kernel_rfl)) ?_
  simp only [Try.results10, Try.ntmps10]
  repeat' (first | (with_reducible first | refine awp_seq ?_ | refine awp_blockS ?_ | refine awp_blockC ?_ | refine awp_blockR ?_ | refine awp_skip ?_ | refine awp_ret ?_ | refine awp_exit ?_ | refine awp_region ?_ | refine awp_regionD (id := 5) 9 mixed (by decide +kernel) ?_ | refine awp_regionD (id := 6) 9 mixed (by decide +kernel) ?_ | refine awp_regionS (id := 7) [0, 1, 2, 3, 4, 5, 6, 7, 8, 9] [10, 11] [[], [], [], [], [], [], [], [], [.new 0], []] [[.new 0], []] mixed (by decide +kernel) ?_ | refine awp_regionD (id := 31) 21 mixed (by decide +kernel) ?_ | refine awp_condM ?_ | refine And.intro ?_ ?_ | refine gM_splitN ?_ ?_ | refine gM_split ?_ ?_ | refine condM_splitDN ?_ ?_ | refine condM_splitD ?_ ?_ | refine condM_splitN ?_ ?_ | refine condM_split ?_ ?_ | refine condM_any ?_ ?_ | refine cw (hA) ?_ | refine cw (cf) ?_ | intro _) | (simp [*]))
  all_goals first | exact inI64 (by omega) (by omega) | omega | skip
set_option maxHeartbeats 4000000 in
set_option maxRecDepth 20000 in
theorem fa_long (n : Net) (t : Trip) (w : List Int) (hA : RealCall Try.prog 15 [] (.bool true) true) (cf : RealCall Try.prog 16 [aNet n] (.bool true) true) (cs : RealCall Try.prog 32 [.sl w.length (ints w)] (.bool false) true) : RealCall Try.prog 10 [aNet n, .agg (tL t), .sl w.length (ints w)] (.bool true) true := by
  unfold aNet cNet at *
  refine realcall_intro Try.func10 (by kernel_rfl) rfl (Nat.le_of_ble_eq_true (by kernel_rfl)) ?_
  simp only [Try.results10, Try.ntmps10]
  repeat' (first | (with_reducible first | refine awp_seq ?_ | refine awp_blockS ?_ | refine awp_blockC ?_ | refine awp_blockR ?_ | refine awp_skip ?_ | refine awp_ret ?_ | refine awp_exit ?_ | refine awp_region ?_ | refine awp_regionD (id := 5) 9 mixed (by decide +kernel) ?_ | refine awp_regionD (id := 6) 9 mixed (by decide +kernel) ?_ | refine awp_regionS (id := 7) [0, 1, 2, 3, 4, 5, 6, 7, 8, 9] [10, 11] [[], [], [], [], [], [], [], [], [.new 0], []] [[.new 0], []] mixed (by decide +kernel) ?_ | refine awp_regionD (id := 31) 21 mixed (by decide +kernel) ?_ | refine awp_condM ?_ | refine And.intro ?_ ?_ | refine gM_splitN ?_ ?_ | refine gM_split ?_ ?_ | refine condM_splitDN ?_ ?_ | refine condM_splitD ?_ ?_ | refine condM_splitN ?_ ?_ | refine condM_split ?_ ?_ | refine condM_any ?_ ?_ | refine cw (hA) ?_ | refine cw (cf) ?_ | refine cw (cs) ?_ | intro _) | (simp [*]))
  all_goals first | exact inI64 (by omega) (by omega) | omega | skip
set_option maxHeartbeats 4000000 in
set_option maxRecDepth 20000 in
theorem fa_net (n : Net) (t : Trip) (w : List Int) (hA : RealCall Try.prog 15 [] (.bool true) true) (cf : RealCall Try.prog 16 [aNet n] (.bool true) true) (cs : RealCall Try.prog 32 [.sl w.length (ints w)] (.bool true) true) (cc : RealCall Try.prog 18 [aNet n] (aNet n) true) (cv : RealCall Try.prog 33 [.sl w.length (ints w)] (.sl w.length (ints w)) true) (e : Int) (he : e ≠ 0) (c1 : RealCall Try.prog 48 [aNet n, .agg (tL t), .bool false] (.tup [.sl 0 [], .int .i64 e]) true) (c2 : RealCall Try.prog 48 [aNet n, .agg (tL t), .bool true] (.tup [.sl 0 [], .int .i64 e]) true) (c3 : RealCall Try.prog 49 [aNet n, .agg (tL t), .sl w.length (ints w)] (markP (0, 0, e)) true) (c4 : RealCall Try.prog 25 [aNet n] (.int .i64 e) true) : RealCall Try.prog 10 [aNet n, .agg (tL t), .sl w.length (ints w)] (.bool true) true := by
  unfold markP at *
  unfold aNet cNet at *
  refine realcall_intro Try.func10 (by kernel_rfl) rfl (Nat.le_of_ble_eq_true (by kernel_rfl)) ?_
  simp only [Try.results10, Try.ntmps10]
  repeat' (first | (with_reducible first | refine awp_seq ?_ | refine awp_blockS ?_ | refine awp_blockC ?_ | refine awp_blockR ?_ | refine awp_skip ?_ | refine awp_ret ?_ | refine awp_exit ?_ | refine awp_region ?_ | refine awp_regionD (id := 5) 9 mixed (by decide +kernel) ?_ | refine awp_regionD (id := 6) 9 mixed (by decide +kernel) ?_ | refine awp_regionS (id := 7) [0, 1, 2, 3, 4, 5, 6, 7, 8, 9] [10, 11] [[], [], [], [], [], [], [], [], [.new 0], []] [[.new 0], []] mixed (by decide +kernel) ?_ | refine awp_regionD (id := 31) 21 mixed (by decide +kernel) ?_ | refine awp_condM ?_ | refine And.intro ?_ ?_ | refine gM_splitN ?_ ?_ | refine gM_split ?_ ?_ | refine condM_splitDN ?_ ?_ | refine condM_splitD ?_ ?_ | refine condM_splitN ?_ ?_ | refine condM_split ?_ ?_ | refine condM_any ?_ ?_ | refine cw (hA) ?_ | refine cw (cf) ?_ | refine cw (cs) ?_ | refine cw (cc) ?_ | refine cw (cv) ?_ | refine cw (c1) ?_ | refine cw (c2) ?_ | refine cw (c3) ?_ | refine cw (c4) ?_ | intro _) | (simp [*, he]))
  all_goals first | exact inI64 (by omega) (by omega) | omega | skip
set_option maxHeartbeats 4000000 in
set_option maxRecDepth 20000 in
theorem fa_trip (n : Net) (t : Trip) (w : List Int) (hA : RealCall Try.prog 15 [] (.bool true) true) (cf : RealCall Try.prog 16 [aNet n] (.bool true) true) (cs : RealCall Try.prog 32 [.sl w.length (ints w)] (.bool true) true) (cc : RealCall Try.prog 18 [aNet n] (aNet n) true) (cv : RealCall Try.prog 33 [.sl w.length (ints w)] (.sl w.length (ints w)) true) (e : Int) (he : e ≠ 0) (c1 : RealCall Try.prog 48 [aNet n, .agg (tL t), .bool false] (.tup [.sl 0 [], .int .i64 e]) true) (c2 : RealCall Try.prog 48 [aNet n, .agg (tL t), .bool true] (.tup [.sl 0 [], .int .i64 e]) true) (c3 : RealCall Try.prog 49 [aNet n, .agg (tL t), .sl w.length (ints w)] (markP (0, 0, e)) true) (c4 : RealCall Try.prog 25 [aNet n] (.int .i64 0) true) (c5 : RealCall Try.prog 26 [aNet n, .agg (tL t)] (.int .i64 e) true) : RealCall Try.prog 10 [aNet n, .agg (tL t), .sl w.length (ints w)] (.bool true) true := by
  unfold markP at *
  unfold aNet cNet at *
  refine realcall_intro Try.func10 (by kernel_rfl) rfl (Nat.le_of_ble_eq_true (by kernel_rfl)) ?_
  simp only [Try.results10, Try.ntmps10]
  repeat' (first | (with_reducible first | refine awp_seq ?_ | refine awp_blockS ?_ | refine awp_blockC ?_ | refine awp_blockR ?_ | refine awp_skip ?_ | refine awp_ret ?_ | refine awp_exit ?_ | refine awp_region ?_ | refine awp_regionD (id := 5) 9 mixed (by decide +kernel) ?_ | refine awp_regionD (id := 6) 9 mixed (by decide +kernel) ?_ | refine awp_regionS (id := 7) [0, 1, 2, 3, 4, 5, 6, 7, 8, 9] [10, 11] [[], [], [], [], [], [], [], [], [.new 0], []] [[.new 0], []] mixed (by decide +kernel) ?_ | refine awp_regionD (id := 31) 21 mixed (by decide +kernel) ?_ | refine awp_condM ?_ | refine And.intro ?_ ?_ | refine gM_splitN ?_ ?_ | refine gM_split ?_ ?_ | refine condM_splitDN ?_ ?_ | refine condM_splitD ?_ ?_ | refine condM_splitN ?_ ?_ | refine condM_split ?_ ?_ | refine condM_any ?_ ?_ | refine cw (hA) ?_ | refine cw (cf) ?_ | refine cw (cs) ?_ | refine cw (cc) ?_ | refine cw (cv) ?_ | refine cw (c1) ?_ | refine cw (c2) ?_ | refine cw (c3) ?_ | refine cw (c4) ?_ | refine cw (c5) ?_ | intro _) | (simp [*, he]))
  all_goals first | exact inI64 (by omega) (by omega) | omega | skip
set_option maxHeartbeats 4000000 in
set_option maxRecDepth 20000 in
theorem fa_wn (n : Net) (t : Trip) (w : List Int) (hA : RealCall Try.prog 15 [] (.bool true) true) (cf : RealCall Try.prog 16 [aNet n] (.bool true) true) (cs : RealCall Try.prog 32 [.sl w.length (ints w)] (.bool true) true) (cc : RealCall Try.prog 18 [aNet n] (aNet n) true) (cv : RealCall Try.prog 33 [.sl w.length (ints w)] (.sl w.length (ints w)) true) (c4 : RealCall Try.prog 25 [aNet n] (.int .i64 0) true) (c5 : RealCall Try.prog 26 [aNet n, .agg (tL t)] (.int .i64 0) true) (i e : Int) (he : e ≠ 0) (c3 : RealCall Try.prog 49 [aNet n, .agg (tL t), .sl w.length (ints w)] (markP (0, 0, e)) true) (c6 : RealCall Try.prog 37 [aNet n, .sl w.length (ints w)] (.tup [.int .i64 i, .int .i64 e]) true) (l0 l1 : Int) (c1 : RealCall Try.prog 48 [aNet n, .agg (tL t), .bool false] (.tup [.sl 0 [], .int .i64 12]) true) (c2 : RealCall Try.prog 48 [aNet n, .agg (tL t), .bool true] (.tup [.sl 0 [], .int .i64 12]) true) (c8 : RealCall Try.prog 51 [aNet n, .agg (tL t)] (.tup [.agg [.int .i64 l0, .int .i64 l1], .bool false]) true) : RealCall Try.prog 10 [aNet n, .agg (tL t), .sl w.length (ints w)] (.bool true) true := by
  unfold markP at *
  unfold aNet cNet at *
  refine realcall_intro Try.func10 (by kernel_rfl) rfl (Nat.le_of_ble_eq_true (by kernel_rfl)) ?_
  simp only [Try.results10, Try.ntmps10]
  repeat' (first | (with_reducible first | refine awp_seq ?_ | refine awp_blockS ?_ | refine awp_blockC ?_ | refine awp_blockR ?_ | refine awp_skip ?_ | refine awp_ret ?_ | refine awp_exit ?_ | refine awp_region ?_ | refine awp_regionD (id := 5) 9 mixed (by decide +kernel) ?_ | refine awp_regionD (id := 6) 9 mixed (by decide +kernel) ?_ | refine awp_regionS (id := 7) [0, 1, 2, 3, 4, 5, 6, 7, 8, 9] [10, 11] [[], [], [], [], [], [], [], [], [.new 0], []] [[.new 0], []] mixed (by decide +kernel) ?_ | refine awp_regionD (id := 31) 21 mixed (by decide +kernel) ?_ | refine awp_condM ?_ | refine And.intro ?_ ?_ | refine gM_splitN ?_ ?_ | refine gM_split ?_ ?_ | refine condM_splitDN ?_ ?_ | refine condM_splitD ?_ ?_ | refine condM_splitN ?_ ?_ | refine condM_split ?_ ?_ | refine condM_any ?_ ?_ | refine cw (hA) ?_ | refine cw (cf) ?_ | refine cw (cs) ?_ | refine cw (cc) ?_ | refine cw (cv) ?_ | refine cw (c4) ?_ | refine cw (c5) ?_ | refine cw (c3) ?_ | refine cw (c6) ?_ | refine cw (c1) ?_ | refine cw (c2) ?_ | refine cw (c8) ?_ | intro _) | (simp [*, he]))
  all_goals first | exact inI64 (by omega) (by omega) | omega | skip
set_option maxHeartbeats 4000000 in
set_option maxRecDepth 20000 in
theorem fa_ws (n : Net) (t : Trip) (w : List Int) (hA : RealCall Try.prog 15 [] (.bool true) true) (cf : RealCall Try.prog 16 [aNet n] (.bool true) true) (cs : RealCall Try.prog 32 [.sl w.length (ints w)] (.bool true) true) (cc : RealCall Try.prog 18 [aNet n] (aNet n) true) (cv : RealCall Try.prog 33 [.sl w.length (ints w)] (.sl w.length (ints w)) true) (c4 : RealCall Try.prog 25 [aNet n] (.int .i64 0) true) (c5 : RealCall Try.prog 26 [aNet n, .agg (tL t)] (.int .i64 0) true) (i e : Int) (he : e ≠ 0) (c3 : RealCall Try.prog 49 [aNet n, .agg (tL t), .sl w.length (ints w)] (markP (0, 0, e)) true) (c6 : RealCall Try.prog 37 [aNet n, .sl w.length (ints w)] (.tup [.int .i64 i, .int .i64 e]) true) (l0 l1 x0 x1 : Int) (s r : List Int) (c1 : RealCall Try.prog 48 [aNet n, .agg (tL t), .bool false] (.tup [.sl s.length (ints s), .int .i64 0]) true) (c2 : RealCall Try.prog 48 [aNet n, .agg (tL t), .bool true] (.tup [.sl r.length (ints r), .int .i64 0]) true) (c8 : RealCall Try.prog 51 [aNet n, .agg (tL t)] (.tup [.agg [.int .i64 l0, .int .i64 l1], .bool true]) true) (d1 : RealCall Try.prog 37 [aNet n, .sl s.length (ints s)] (.tup [.int .i64 0, .int .i64 0]) true) (e1 : RealCall Try.prog 38 [aNet n, .sl s.length (ints s), .int .i64 t.frm, .int .i64 t.to] (.bool true) true) (d2 : RealCall Try.prog 37 [aNet n, .sl r.length (ints r)] (.tup [.int .i64 0, .int .i64 0]) true) (e2 : RealCall Try.prog 38 [aNet n, .sl r.length (ints r), .int .i64 t.frm, .int .i64 t.to] (.bool true) true) (f1 : RealCall Try.prog 47 [aNet n, .sl s.length (ints s), .int .i64 t.at_] (.agg [.int .i64 l0, .int .i64 x0]) true) (f2 : RealCall Try.prog 47 [aNet n, .sl r.length (ints r), .int .i64 t.at_] (.agg [.int .i64 x1, .int .i64 l1]) true) : RealCall Try.prog 10 [aNet n, .agg (tL t), .sl w.length (ints w)] (.bool true) true := by
  unfold markP at *
  unfold aNet cNet at *
  refine realcall_intro Try.func10 (by kernel_rfl) rfl (Nat.le_of_ble_eq_true (by kernel_rfl)) ?_
  simp only [Try.results10, Try.ntmps10]
  repeat' (first | (with_reducible first | refine awp_seq ?_ | refine awp_blockS ?_ | refine awp_blockC ?_ | refine awp_blockR ?_ | refine awp_skip ?_ | refine awp_ret ?_ | refine awp_exit ?_ | refine awp_region ?_ | refine awp_regionD (id := 5) 9 mixed (by decide +kernel) ?_ | refine awp_regionD (id := 6) 9 mixed (by decide +kernel) ?_ | refine awp_regionS (id := 7) [0, 1, 2, 3, 4, 5, 6, 7, 8, 9] [10, 11] [[], [], [], [], [], [], [], [], [.new 0], []] [[.new 0], []] mixed (by decide +kernel) ?_ | refine awp_regionD (id := 31) 21 mixed (by decide +kernel) ?_ | refine awp_condM ?_ | refine And.intro ?_ ?_ | refine gM_splitN ?_ ?_ | refine gM_split ?_ ?_ | refine condM_splitDN ?_ ?_ | refine condM_splitD ?_ ?_ | refine condM_splitN ?_ ?_ | refine condM_split ?_ ?_ | refine condM_any ?_ ?_ | refine cw (hA) ?_ | refine cw (cf) ?_ | refine cw (cs) ?_ | refine cw (cc) ?_ | refine cw (cv) ?_ | refine cw (c4) ?_ | refine cw (c5) ?_ | refine cw (c3) ?_ | refine cw (c6) ?_ | refine cw (c1) ?_ | refine cw (c2) ?_ | refine cw (c8) ?_ | refine cw (d1) ?_ | refine cw (e1) ?_ | refine cw (d2) ?_ | refine cw (e2) ?_ | refine cw (f1) ?_ | refine cw (f2) ?_ | intro _) | (simp [*, he]))
  all_goals first | exact inI64 (by omega) (by omega) | omega | skip
set_option maxHeartbeats 4000000 in
set_option maxRecDepth 20000 in
theorem fa_on (n : Net) (t : Trip) (w : List Int) (hA : RealCall Try.prog 15 [] (.bool true) true) (cf : RealCall Try.prog 16 [aNet n] (.bool true) true) (cs : RealCall Try.prog 32 [.sl w.length (ints w)] (.bool true) true) (cc : RealCall Try.prog 18 [aNet n] (aNet n) true) (cv : RealCall Try.prog 33 [.sl w.length (ints w)] (.sl w.length (ints w)) true) (c4 : RealCall Try.prog 25 [aNet n] (.int .i64 0) true) (c5 : RealCall Try.prog 26 [aNet n, .agg (tL t)] (.int .i64 0) true) (d : Tri) (c3 : RealCall Try.prog 49 [aNet n, .agg (tL t), .sl w.length (ints w)] (markP d) true) (c6 : RealCall Try.prog 37 [aNet n, .sl w.length (ints w)] (.tup [.int .i64 0, .int .i64 0]) true) (c7 : RealCall Try.prog 50 [aNet n, .agg (tL t), .sl w.length (ints w)] (markP d) true) (l0 l1 : Int) (c1 : RealCall Try.prog 48 [aNet n, .agg (tL t), .bool false] (.tup [.sl 0 [], .int .i64 12]) true) (c2 : RealCall Try.prog 48 [aNet n, .agg (tL t), .bool true] (.tup [.sl 0 [], .int .i64 12]) true) (c8 : RealCall Try.prog 51 [aNet n, .agg (tL t)] (.tup [.agg [.int .i64 l0, .int .i64 l1], .bool false]) true) : RealCall Try.prog 10 [aNet n, .agg (tL t), .sl w.length (ints w)] (.bool true) true := by
  obtain ⟨u1, u2, u3⟩ := d
  unfold markP at *
  unfold aNet cNet at *
  refine realcall_intro Try.func10 (by kernel_rfl) rfl (Nat.le_of_ble_eq_true (by kernel_rfl)) ?_
  simp only [Try.results10, Try.ntmps10]
  repeat' (first | (with_reducible first | refine awp_seq ?_ | refine awp_blockS ?_ | refine awp_blockC ?_ | refine awp_blockR ?_ | refine awp_skip ?_ | refine awp_ret ?_ | refine awp_exit ?_ | refine awp_region ?_ | refine awp_regionD (id := 5) 9 mixed (by decide +kernel) ?_ | refine awp_regionD (id := 6) 9 mixed (by decide +kernel) ?_ | refine awp_regionS (id := 7) [0, 1, 2, 3, 4, 5, 6, 7, 8, 9] [10, 11] [[], [], [], [], [], [], [], [], [.new 0], []] [[.new 0], []] mixed (by decide +kernel) ?_ | refine awp_regionD (id := 31) 21 mixed (by decide +kernel) ?_ | refine awp_condM ?_ | refine And.intro ?_ ?_ | refine gM_splitN ?_ ?_ | refine gM_split ?_ ?_ | refine condM_splitDN ?_ ?_ | refine condM_splitD ?_ ?_ | refine condM_splitN ?_ ?_ | refine condM_split ?_ ?_ | refine condM_any ?_ ?_ | refine cw (hA) ?_ | refine cw (cf) ?_ | refine cw (cs) ?_ | refine cw (cc) ?_ | refine cw (cv) ?_ | refine cw (c4) ?_ | refine cw (c5) ?_ | refine cw (c3) ?_ | refine cw (c6) ?_ | refine cw (c1) ?_ | refine cw (c2) ?_ | refine cw (c8) ?_ | refine cw (c7) ?_ | intro _) | (simp [*]))
  all_goals first | exact inI64 (by omega) (by omega) | omega | skip
set_option maxHeartbeats 4000000 in
set_option maxRecDepth 20000 in
theorem fa_os (n : Net) (t : Trip) (w : List Int) (hA : RealCall Try.prog 15 [] (.bool true) true) (cf : RealCall Try.prog 16 [aNet n] (.bool true) true) (cs : RealCall Try.prog 32 [.sl w.length (ints w)] (.bool true) true) (cc : RealCall Try.prog 18 [aNet n] (aNet n) true) (cv : RealCall Try.prog 33 [.sl w.length (ints w)] (.sl w.length (ints w)) true) (c4 : RealCall Try.prog 25 [aNet n] (.int .i64 0) true) (c5 : RealCall Try.prog 26 [aNet n, .agg (tL t)] (.int .i64 0) true) (d : Tri) (c3 : RealCall Try.prog 49 [aNet n, .agg (tL t), .sl w.length (ints w)] (markP d) true) (c6 : RealCall Try.prog 37 [aNet n, .sl w.length (ints w)] (.tup [.int .i64 0, .int .i64 0]) true) (c7 : RealCall Try.prog 50 [aNet n, .agg (tL t), .sl w.length (ints w)] (markP d) true) (l0 l1 x0 x1 : Int) (s r : List Int) (c1 : RealCall Try.prog 48 [aNet n, .agg (tL t), .bool false] (.tup [.sl s.length (ints s), .int .i64 0]) true) (c2 : RealCall Try.prog 48 [aNet n, .agg (tL t), .bool true] (.tup [.sl r.length (ints r), .int .i64 0]) true) (c8 : RealCall Try.prog 51 [aNet n, .agg (tL t)] (.tup [.agg [.int .i64 l0, .int .i64 l1], .bool true]) true) (d1 : RealCall Try.prog 37 [aNet n, .sl s.length (ints s)] (.tup [.int .i64 0, .int .i64 0]) true) (e1 : RealCall Try.prog 38 [aNet n, .sl s.length (ints s), .int .i64 t.frm, .int .i64 t.to] (.bool true) true) (d2 : RealCall Try.prog 37 [aNet n, .sl r.length (ints r)] (.tup [.int .i64 0, .int .i64 0]) true) (e2 : RealCall Try.prog 38 [aNet n, .sl r.length (ints r), .int .i64 t.frm, .int .i64 t.to] (.bool true) true) (f1 : RealCall Try.prog 47 [aNet n, .sl s.length (ints s), .int .i64 t.at_] (.agg [.int .i64 l0, .int .i64 x0]) true) (f2 : RealCall Try.prog 47 [aNet n, .sl r.length (ints r), .int .i64 t.at_] (.agg [.int .i64 x1, .int .i64 l1]) true) : RealCall Try.prog 10 [aNet n, .agg (tL t), .sl w.length (ints w)] (.bool true) true := by
  obtain ⟨u1, u2, u3⟩ := d
  unfold markP at *
  unfold aNet cNet at *
  refine realcall_intro Try.func10 (by kernel_rfl) rfl (Nat.le_of_ble_eq_true (by kernel_rfl)) ?_
  simp only [Try.results10, Try.ntmps10]
  repeat' (first | (with_reducible first | refine awp_seq ?_ | refine awp_blockS ?_ | refine awp_blockC ?_ | refine awp_blockR ?_ | refine awp_skip ?_ | refine awp_ret ?_ | refine awp_exit ?_ | refine awp_region ?_ | refine awp_regionD (id := 5) 9 mixed (by decide +kernel) ?_ | refine awp_regionD (id := 6) 9 mixed (by decide +kernel) ?_ | refine awp_regionS (id := 7) [0, 1, 2, 3, 4, 5, 6, 7, 8, 9] [10, 11] [[], [], [], [], [], [], [], [], [.new 0], []] [[.new 0], []] mixed (by decide +kernel) ?_ | refine awp_regionD (id := 31) 21 mixed (by decide +kernel) ?_ | refine awp_condM ?_ | refine And.intro ?_ ?_ | refine gM_splitN ?_ ?_ | refine gM_split ?_ ?_ | refine condM_splitDN ?_ ?_ | refine condM_splitD ?_ ?_ | refine condM_splitN ?_ ?_ | refine condM_split ?_ ?_ | refine condM_any ?_ ?_ | refine cw (hA) ?_ | refine cw (cf) ?_ | refine cw (cs) ?_ | refine cw (cc) ?_ | refine cw (cv) ?_ | refine cw (c4) ?_ | refine cw (c5) ?_ | refine cw (c3) ?_ | refine cw (c6) ?_ | refine cw (c1) ?_ | refine cw (c2) ?_ | refine cw (c8) ?_ | refine cw (c7) ?_ | refine cw (d1) ?_ | refine cw (e1) ?_ | refine cw (d2) ?_ | refine cw (e2) ?_ | refine cw (f1) ?_ | refine cw (f2) ?_ | intro _) | (simp [*]))
  all_goals first | exact inI64 (by omega) (by omega) | omega | skip

theorem fa_tail (n : Net) (h : NetIn n) (t : Trip) (w : List Int) (hA : RealCall Try.prog 15 [] (.bool true) true) (cf : RealCall Try.prog 16 [aNet n] (.bool true) true) (cs : RealCall Try.prog 32 [.sl w.length (ints w)] (.bool true) true)
    (cc : RealCall Try.prog 18 [aNet n] (aNet n) true) (cv : RealCall Try.prog 33 [.sl w.length (ints w)] (.sl w.length (ints w)) true) (c4 : RealCall Try.prog 25 [aNet n] (.int .i64 0) true) (c5 : RealCall Try.prog 26 [aNet n, .agg (tL t)] (.int .i64 0) true)
    (a b : Nat) (ok : TripOk n t a b) (he : otE n t = 0) (hl : w.length < 1000) : RealCall Try.prog 10 [aNet n, .agg (tL t), .sl w.length (ints w)] (.bool true) true := by
  have hh := ok.hi
  have c6 := rWayErr_c n h w hl
  have g0 := growS_inv ok.ok (along_time ok.ok false) ok.la ok.lo (by omega : t.at_ ≤ 700000)
  have g1 := growS_inv ok.ok (along_time ok.ok true) ok.la ok.lo (by omega : t.at_ ≤ 700000)
  have b0 := g0.small ok.ok ok.lb
  have b1 := g1.small ok.ok ok.lb
  have up := grow_some ok.ok (along_time ok.ok false) (along_time ok.ok true) (time_mono ok.ok true) ok.la ok.lo (by omega : t.at_ ≤ 700000) ok.lo (by omega : t.at_ ≤ 700000) ok.lb
  have dn := grow_some ok.ok (along_time ok.ok true) (along_time ok.ok false) (time_mono ok.ok false) ok.la ok.lo (by omega : t.at_ ≤ 700000) ok.lo (by omega : t.at_ ≤ 700000) ok.lb
  have et : (⟨(a : Int), (b : Int), t.at_⟩ : Trip) = t := by
    obtain ⟨t1, t2, t3⟩ := t
    have h1 := ok.fa
    have h2 := ok.fb
    dsimp only at h1 h2 ⊢
    rw [h1, h2]
  have c8 := rEstimate_c n ok.ok a b ok.la ok.lb t.at_ ok.lo (by omega)
  rw [et] at c8
  -- the way that is told
  have hwy : (∃ i e, e ≠ 0 ∧ RealCall Try.prog 49 [aNet n, .agg (tL t), .sl w.length (ints w)] (markP (0, 0, e)) true ∧ RealCall Try.prog 37 [aNet n, .sl w.length (ints w)] (.tup [.int .i64 i, .int .i64 e]) true) ∨
      (∃ d, RealCall Try.prog 49 [aNet n, .agg (tL t), .sl w.length (ints w)] (markP d) true ∧ RealCall Try.prog 37 [aNet n, .sl w.length (ints w)] (.tup [.int .i64 0, .int .i64 0]) true ∧ RealCall Try.prog 50 [aNet n, .agg (tL t), .sl w.length (ints w)] (markP d) true) := by
    by_cases hw : (wayS n w).2.2 = 0
    · rw [way_zero hw] at c6
      cases hj : joinsB n w t.frm t.to with
      | false => exact .inr ⟨_, detour_clash n h t w he hw hj, c6, rDetour_clash n h.nr t w hl (way_ok hw) hj⟩
      | true => exact .inr ⟨_, detour_ok n h t a b ok w he hw hj, c6, rDetour_ok n t a b ok w (way_len hw) (way_ok hw) hj⟩
    · exact .inl ⟨_, _, hw, detour_way n h t w hl he hw, c6⟩
  have kw := keep hwy
  clear hwy
  by_cases hn : nth (growS (fTime false) n a t.at_).l b = -1
  · have hn1 : nth (growS (fTime true) n a t.at_).l b = -1 := by
      rcases b1 with e | e
      · exact e
      · have := dn e.1; omega
    have c1 := fast_none n h t a b ok false he hn
    have c2 := fast_none n h t a b ok true he hn1
    rw [decide_eq_false (show ¬ 0 ≤ nth (growS (fTime false) n a t.at_).l b by omega)] at c8
    rcases kw with ⟨i, e, q1, q2, q3⟩ | ⟨d, q1, q2, q3⟩
    · exact fa_wn n t w hA cf cs cc cv c4 c5 i e q1 q2 q3 _ _ c1 c2 c8
    · exact fa_on n t w hA cf cs cc cv c4 c5 d q1 q2 q3 _ _ c1 c2 c8
  · have hn1 : nth (growS (fTime true) n a t.at_).l b ≠ -1 := by
      rcases b0 with e | e
      · exact absurd e hn
      · have := up e.1
        intro h; rw [h] at this; exact absurd this (by decide)
    rw [decide_eq_true (show 0 ≤ nth (growS (fTime false) n a t.at_).l b by omega)] at c8
    obtain ⟨R0, p1, p2, p3, p4⟩ := tree_way ok.ok (along_time ok.ok false) (time_mono ok.ok false) ok.la ok.lo (by omega : t.at_ ≤ 700000) ok.lb hn
    obtain ⟨R1, r1, r2, r3, r4⟩ := tree_way ok.ok (along_time ok.ok true) (time_mono ok.ok true) ok.la ok.lo (by omega : t.at_ ≤ 700000) ok.lb hn1
    have c1 := fast_ok n h t a b ok false he hn _ (by omega) R0 p1
    have c2 := fast_ok n h t a b ok true he hn1 _ (by omega) R1 r1
    have l0 : R0.reverse.length = R0.length := List.length_reverse
    have l1 : R1.reverse.length = R1.length := List.length_reverse
    rw [← l0] at c1
    rw [← l1] at c2
    have d1 := rWayErr_c n h R0.reverse (by omega)
    have d2 := rWayErr_c n h R1.reverse (by omega)
    rw [way_of p3.ok (by omega)] at d1
    rw [way_of r3.ok (by omega)] at d2
    have e1 := rJoins_c n h.nr R0.reverse p3.ok (by omega) t.frm t.to
    have e2 := rJoins_c n h.nr R1.reverse r3.ok (by omega) t.frm t.to
    rw [ok.fa, ok.fb, p3.joins ok.ok, ← ok.fa, ← ok.fb] at e1
    rw [ok.fa, ok.fb, r3.joins ok.ok, ← ok.fa, ← ok.fb] at e2
    have f1 := rArrivalOf_c n ok.ok R0.reverse p3.ok (by omega) t.at_ ok.lo (by omega)
    have f2 := rArrivalOf_c n ok.ok R1.reverse r3.ok (by omega) t.at_ ok.lo (by omega)
    rw [p4] at f1
    rw [r4] at f2
    rcases kw with ⟨i, e, q1, q2, q3⟩ | ⟨d, q1, q2, q3⟩
    · exact fa_ws n t w hA cf cs cc cv c4 c5 i e q1 q2 q3 _ _ _ _ _ _ c1 c2 c8 d1 e1 d2 e2 f1 f2
    · exact fa_os n t w hA cf cs cc cv c4 c5 d q1 q2 q3 _ _ _ _ _ _ c1 c2 c8 d1 e1 d2 e2 f1 f2
theorem streetFastest_c (hA : RealCall Try.prog 15 [] (.bool true) true) (n : Net) (t : Trip) (w : List Int) : RealCall Try.prog 10 [aNet n, .agg (tL t), .sl w.length (ints w)] (.bool true) true := by
  have cf := few_c n
  have cs := short_c w
  cases hf : fewB n with
  | false => rw [hf] at cf; exact fa_few n t w hA cf
  | true =>
    rw [hf] at cf
    by_cases hs : w.length ≤ 12 ∨ 200 < w.length ∧ w.length ≤ 202
    · rw [decide_eq_true hs] at cs
      have h := few_in hf
      have hl : w.length < 1000 := by omega
      have hnp := h.np
      have cc := rCopy_c n h
      have cv := copyInts_c w (by omega)
      have c4 := rNetErr_c n h
      have c5 : RealCall Try.prog 26 [aNet n, .agg (tL t)] (.int .i64 (tripE n t)) true := rTripErr_c n t (by omega)
      by_cases he : otE n t = 0
      · obtain ⟨a, b, ok⟩ := trip_ok h he
        have e1 : (netS n).2.2 = 0 := firstS_nth he 0 (show (0 : Nat) < 2 by omega)
        rw [e1] at c4
        have e2 := otE_trip (t := t) e1
        rw [he] at e2
        rw [← e2] at c5
        exact fa_tail n h t w hA cf cs cc cv c4 c5 a b ok he hl
      · have c1 := fast_bad n h t false he
        have c2 := fast_bad n h t true he
        have c3 := detour_bad n h t w he
        by_cases hn : (netS n).2.2 = 0
        · rw [hn] at c4
          rw [← otE_trip hn] at c5
          exact fa_trip n t w hA cf cs cc cv _ he c1 c2 c3 c4 c5
        · rw [← otE_net (t := t) hn] at c4
          exact fa_net n t w hA cf cs cc cv _ he c1 c2 c3 c4
    · rw [decide_eq_false hs] at cs
      exact fa_long n t w hA cf cs
end Go.Proofs.Ytmedbghkldmlhaa
