/- Contracts of functions for this claim: lemmas alone. -/
import Derived.Test.YtacepceplonceaaP72
import Derived.Test.YtacepceplonceaaP49
import Derived.Test.YtacepceplonceaaP52
import Derived.Test.YtacepceplonceaaP33
import Derived.Test.YtacepceplonceaaP23
set_option linter.unusedSimpArgs false
set_option linter.unusedVariables false
namespace Go.Proofs.Ytacepceplonceaa
open Go Go.Fi

set_option maxHeartbeats 4000000 in
set_option maxRecDepth 20000 in
theorem tc_few (n : Net) (t : Trip) (r : Int) (hA : RealCall Try.prog 4 [] (.bool true) true) (cf : RealCall Try.prog 5 [aNet n] (.bool false) true) : RealCall Try.prog 3 [aNet n, .agg (tL t), .int .i64 r] (.bool true) true := by
  unfold aNet cNet at *
  refine realcall_intro Try.func3 (by kernel_rfl) rfl (Nat.le_of_ble_eq_true (by kernel_rfl)) ?_
  simp only [Try.results3, Try.ntmps3]
  repeat' (first | (with_reducible first | refine awp_seq ?_ | refine awp_blockS ?_ | refine awp_blockC ?_ | refine awp_blockR ?_ | refine awp_skip ?_ | refine awp_ret ?_ | refine awp_exit ?_ | refine awp_region ?_ | refine awp_regionD (id := 5) 13 mixed (by decide +kernel) ?_ | refine awp_regionS (id := 6) [0, 1, 2, 3, 4, 5, 6, 7] [8, 9] [[], [], [], [], [], [], [.new 0], []] [[.new 0], []] mixed (by decide +kernel) ?_ | refine awp_regionD (id := 7) 14 mixed (by decide +kernel) ?_ | refine awp_regionS (id := 13) [0, 1, 2, 3, 4, 5, 6, 7] [8, 9] [[], [], [], [], [], [], [.new 0], []] [[.new 0], []] mixed (by decide +kernel) ?_ | refine awp_regionD (id := 14) 14 mixed (by decide +kernel) ?_ | refine awp_condM ?_ | refine And.intro ?_ ?_ | refine gM_splitN ?_ ?_ | refine gM_split ?_ ?_ | refine condM_splitDN ?_ ?_ | refine condM_splitD ?_ ?_ | refine condM_splitN ?_ ?_ | refine condM_split ?_ ?_ | refine condM_any ?_ ?_ | refine cw (hA) ?_ | refine cw (cf) ?_ | intro _) | (simp [*]))
  all_goals first | exact inI64 (by omega) (by omega) | omega | skip
set_option maxHeartbeats 4000000 in
set_option maxRecDepth 20000 in
theorem tc_net (n : Net) (t : Trip) (r : Int) (hA : RealCall Try.prog 4 [] (.bool true) true) (cf : RealCall Try.prog 5 [aNet n] (.bool true) true) (e : Int) (he : e ≠ 0) (c1 : RealCall Try.prog 6 [aNet n] (.int .i64 e) true) : RealCall Try.prog 3 [aNet n, .agg (tL t), .int .i64 r] (.bool true) true := by
  unfold aNet cNet at *
  refine realcall_intro Try.func3 (by kernel_rfl) rfl (Nat.le_of_ble_eq_true (by kernel_rfl)) ?_
  simp only [Try.results3, Try.ntmps3]
  repeat' (first | (with_reducible first | refine awp_seq ?_ | refine awp_blockS ?_ | refine awp_blockC ?_ | refine awp_blockR ?_ | refine awp_skip ?_ | refine awp_ret ?_ | refine awp_exit ?_ | refine awp_region ?_ | refine awp_regionD (id := 5) 13 mixed (by decide +kernel) ?_ | refine awp_regionS (id := 6) [0, 1, 2, 3, 4, 5, 6, 7] [8, 9] [[], [], [], [], [], [], [.new 0], []] [[.new 0], []] mixed (by decide +kernel) ?_ | refine awp_regionD (id := 7) 14 mixed (by decide +kernel) ?_ | refine awp_regionS (id := 13) [0, 1, 2, 3, 4, 5, 6, 7] [8, 9] [[], [], [], [], [], [], [.new 0], []] [[.new 0], []] mixed (by decide +kernel) ?_ | refine awp_regionD (id := 14) 14 mixed (by decide +kernel) ?_ | refine awp_condM ?_ | refine And.intro ?_ ?_ | refine gM_splitN ?_ ?_ | refine gM_split ?_ ?_ | refine condM_splitDN ?_ ?_ | refine condM_splitD ?_ ?_ | refine condM_splitN ?_ ?_ | refine condM_split ?_ ?_ | refine condM_any ?_ ?_ | refine cw (hA) ?_ | refine cw (cf) ?_ | refine cw (c1) ?_ | intro _) | (simp [*, he]))
  all_goals first | exact inI64 (by omega) (by omega) | omega | skip
set_option maxHeartbeats 4000000 in
set_option maxRecDepth 20000 in
theorem tc_trip (n : Net) (t : Trip) (r : Int) (hA : RealCall Try.prog 4 [] (.bool true) true) (cf : RealCall Try.prog 5 [aNet n] (.bool true) true) (c1 : RealCall Try.prog 6 [aNet n] (.int .i64 0) true) (e : Int) (he : e ≠ 0) (c2 : RealCall Try.prog 7 [aNet n, .agg (tL t)] (.int .i64 e) true) : RealCall Try.prog 3 [aNet n, .agg (tL t), .int .i64 r] (.bool true) true := by
  unfold aNet cNet at *
  refine realcall_intro Try.func3 (by kernel_rfl) rfl (Nat.le_of_ble_eq_true (by kernel_rfl)) ?_
  simp only [Try.results3, Try.ntmps3]
  repeat' (first | (with_reducible first | refine awp_seq ?_ | refine awp_blockS ?_ | refine awp_blockC ?_ | refine awp_blockR ?_ | refine awp_skip ?_ | refine awp_ret ?_ | refine awp_exit ?_ | refine awp_region ?_ | refine awp_regionD (id := 5) 13 mixed (by decide +kernel) ?_ | refine awp_regionS (id := 6) [0, 1, 2, 3, 4, 5, 6, 7] [8, 9] [[], [], [], [], [], [], [.new 0], []] [[.new 0], []] mixed (by decide +kernel) ?_ | refine awp_regionD (id := 7) 14 mixed (by decide +kernel) ?_ | refine awp_regionS (id := 13) [0, 1, 2, 3, 4, 5, 6, 7] [8, 9] [[], [], [], [], [], [], [.new 0], []] [[.new 0], []] mixed (by decide +kernel) ?_ | refine awp_regionD (id := 14) 14 mixed (by decide +kernel) ?_ | refine awp_condM ?_ | refine And.intro ?_ ?_ | refine gM_splitN ?_ ?_ | refine gM_split ?_ ?_ | refine condM_splitDN ?_ ?_ | refine condM_splitD ?_ ?_ | refine condM_splitN ?_ ?_ | refine condM_split ?_ ?_ | refine condM_any ?_ ?_ | refine cw (hA) ?_ | refine cw (cf) ?_ | refine cw (c1) ?_ | refine cw (c2) ?_ | intro _) | (simp [*, he]))
  all_goals first | exact inI64 (by omega) (by omega) | omega | skip
set_option maxHeartbeats 4000000 in
set_option maxRecDepth 20000 in
theorem tc_road (n : Net) (t : Trip) (r : Int) (hA : RealCall Try.prog 4 [] (.bool true) true) (cf : RealCall Try.prog 5 [aNet n] (.bool true) true) (c1 : RealCall Try.prog 6 [aNet n] (.int .i64 0) true) (c2 : RealCall Try.prog 7 [aNet n, .agg (tL t)] (.int .i64 0) true) (e : Int) (he : e ≠ 0) (c3 : RealCall Try.prog 8 [aNet n, .int .i64 r] (.int .i64 e) true) : RealCall Try.prog 3 [aNet n, .agg (tL t), .int .i64 r] (.bool true) true := by
  unfold aNet cNet at *
  refine realcall_intro Try.func3 (by kernel_rfl) rfl (Nat.le_of_ble_eq_true (by kernel_rfl)) ?_
  simp only [Try.results3, Try.ntmps3]
  repeat' (first | (with_reducible first | refine awp_seq ?_ | refine awp_blockS ?_ | refine awp_blockC ?_ | refine awp_blockR ?_ | refine awp_skip ?_ | refine awp_ret ?_ | refine awp_exit ?_ | refine awp_region ?_ | refine awp_regionD (id := 5) 13 mixed (by decide +kernel) ?_ | refine awp_regionS (id := 6) [0, 1, 2, 3, 4, 5, 6, 7] [8, 9] [[], [], [], [], [], [], [.new 0], []] [[.new 0], []] mixed (by decide +kernel) ?_ | refine awp_regionD (id := 7) 14 mixed (by decide +kernel) ?_ | refine awp_regionS (id := 13) [0, 1, 2, 3, 4, 5, 6, 7] [8, 9] [[], [], [], [], [], [], [.new 0], []] [[.new 0], []] mixed (by decide +kernel) ?_ | refine awp_regionD (id := 14) 14 mixed (by decide +kernel) ?_ | refine awp_condM ?_ | refine And.intro ?_ ?_ | refine gM_splitN ?_ ?_ | refine gM_split ?_ ?_ | refine condM_splitDN ?_ ?_ | refine condM_splitD ?_ ?_ | refine condM_splitN ?_ ?_ | refine condM_split ?_ ?_ | refine condM_any ?_ ?_ | refine cw (hA) ?_ | refine cw (cf) ?_ | refine cw (c1) ?_ | refine cw (c2) ?_ | refine cw (c3) ?_ | intro _) | (simp [*, he]))
  all_goals first | exact inI64 (by omega) (by omega) | omega | skip
set_option maxHeartbeats 4000000 in
set_option maxRecDepth 20000 in
theorem tc_none (n : Net) (t : Trip) (r : Int) (hA : RealCall Try.prog 4 [] (.bool true) true) (cf : RealCall Try.prog 5 [aNet n] (.bool true) true) (c1 : RealCall Try.prog 6 [aNet n] (.int .i64 0) true) (c2 : RealCall Try.prog 7 [aNet n, .agg (tL t)] (.int .i64 0) true) (c3 : RealCall Try.prog 8 [aNet n, .int .i64 r] (.int .i64 0) true) (cc : RealCall Try.prog 10 [aNet n] (aNet n) true) (c4 : RealCall Try.prog 9 [aNet n, .agg [.int .i64 t.frm, .int .i64 t.to]] (.tup [.sl 0 [], .int .i64 12]) true) (c5 : RealCall Try.prog 11 [aNet n, .agg (tL t)] (markP (0, 0, 12)) true) (c6 : RealCall Try.prog 12 [aNet n, .int .i64 t.frm, .int .i64 t.to] (.tup [.sl 0 [], .int .i64 0, .int .i64 12]) true) : RealCall Try.prog 3 [aNet n, .agg (tL t), .int .i64 r] (.bool true) true := by
  unfold markP at *
  unfold aNet cNet at *
  refine realcall_intro Try.func3 (by kernel_rfl) rfl (Nat.le_of_ble_eq_true (by kernel_rfl)) ?_
  simp only [Try.results3, Try.ntmps3]
  repeat' (first | (with_reducible first | refine awp_seq ?_ | refine awp_blockS ?_ | refine awp_blockC ?_ | refine awp_blockR ?_ | refine awp_skip ?_ | refine awp_ret ?_ | refine awp_exit ?_ | refine awp_region ?_ | refine awp_regionD (id := 5) 13 mixed (by decide +kernel) ?_ | refine awp_regionS (id := 6) [0, 1, 2, 3, 4, 5, 6, 7] [8, 9] [[], [], [], [], [], [], [.new 0], []] [[.new 0], []] mixed (by decide +kernel) ?_ | refine awp_regionD (id := 7) 14 mixed (by decide +kernel) ?_ | refine awp_regionS (id := 13) [0, 1, 2, 3, 4, 5, 6, 7] [8, 9] [[], [], [], [], [], [], [.new 0], []] [[.new 0], []] mixed (by decide +kernel) ?_ | refine awp_regionD (id := 14) 14 mixed (by decide +kernel) ?_ | refine awp_condM ?_ | refine And.intro ?_ ?_ | refine gM_splitN ?_ ?_ | refine gM_split ?_ ?_ | refine condM_splitDN ?_ ?_ | refine condM_splitD ?_ ?_ | refine condM_splitN ?_ ?_ | refine condM_split ?_ ?_ | refine condM_any ?_ ?_ | refine cw (hA) ?_ | refine cw (cf) ?_ | refine cw (c1) ?_ | refine cw (c2) ?_ | refine cw (c3) ?_ | refine cw (cc) ?_ | refine cw (c4) ?_ | refine cw (c5) ?_ | refine cw (c6) ?_ | intro _) | (simp [*]))
  all_goals first | exact inI64 (by omega) (by omega) | omega | skip
set_option maxHeartbeats 4000000 in
set_option maxRecDepth 20000 in
theorem tc_has (n : Net) (t : Trip) (r : Int) (hA : RealCall Try.prog 4 [] (.bool true) true) (cf : RealCall Try.prog 5 [aNet n] (.bool true) true) (c1 : RealCall Try.prog 6 [aNet n] (.int .i64 0) true) (c2 : RealCall Try.prog 7 [aNet n, .agg (tL t)] (.int .i64 0) true) (c3 : RealCall Try.prog 8 [aNet n, .int .i64 r] (.int .i64 0) true) (cc : RealCall Try.prog 10 [aNet n] (aNet n) true) (l s : List Int) (a1 a2 m : Int) (c4 : RealCall Try.prog 9 [aNet n, .agg [.int .i64 t.frm, .int .i64 t.to]] (.tup [.sl l.length (ints l), .int .i64 0]) true) (c5 : RealCall Try.prog 11 [aNet n, .agg (tL t)] (markP (a1, a2, 0)) true) (c6 : RealCall Try.prog 12 [aNet n, .int .i64 t.frm, .int .i64 t.to] (.tup [.sl s.length (ints s), .int .i64 m, .int .i64 0]) true) (x : Net) (hx : (x.roads.length : Int) = (n.roads.length : Int) - 1) (hnr : n.roads.length < 1000) (c7 : RealCall Try.prog 13 [aNet n, .int .i64 r] (.tup [aNet x, .int .i64 0]) true) (c8 : RealCall Try.prog 6 [aNet x] (.int .i64 0) true) (cx : RealCall Try.prog 10 [aNet x] (aNet x) true) (c9 : RealCall Try.prog 14 [.sl l.length (ints l), .int .i64 r] (.bool true) true) (d1 : RealCall Try.prog 11 [aNet x, .agg (tL t)] (markP (0, 0, 12)) true) (d2 : RealCall Try.prog 12 [aNet x, .int .i64 t.frm, .int .i64 t.to] (.tup [.sl 0 [], .int .i64 0, .int .i64 12]) true) : RealCall Try.prog 3 [aNet n, .agg (tL t), .int .i64 r] (.bool true) true := by
  unfold markP at *
  unfold aNet cNet at *
  refine realcall_intro Try.func3 (by kernel_rfl) rfl (Nat.le_of_ble_eq_true (by kernel_rfl)) ?_
  simp only [Try.results3, Try.ntmps3]
  repeat' (first | (with_reducible first | refine awp_seq ?_ | refine awp_blockS ?_ | refine awp_blockC ?_ | refine awp_blockR ?_ | refine awp_skip ?_ | refine awp_ret ?_ | refine awp_exit ?_ | refine awp_region ?_ | refine awp_regionD (id := 5) 13 mixed (by decide +kernel) ?_ | refine awp_regionS (id := 6) [0, 1, 2, 3, 4, 5, 6, 7] [8, 9] [[], [], [], [], [], [], [.new 0], []] [[.new 0], []] mixed (by decide +kernel) ?_ | refine awp_regionD (id := 7) 14 mixed (by decide +kernel) ?_ | refine awp_regionS (id := 13) [0, 1, 2, 3, 4, 5, 6, 7] [8, 9] [[], [], [], [], [], [], [.new 0], []] [[.new 0], []] mixed (by decide +kernel) ?_ | refine awp_regionD (id := 14) 14 mixed (by decide +kernel) ?_ | refine awp_condM ?_ | refine And.intro ?_ ?_ | refine gM_splitN ?_ ?_ | refine gM_split ?_ ?_ | refine condM_splitDN ?_ ?_ | refine condM_splitD ?_ ?_ | refine condM_splitN ?_ ?_ | refine condM_split ?_ ?_ | refine condM_any ?_ ?_ | refine cw (hA) ?_ | refine cw (cf) ?_ | refine cw (c1) ?_ | refine cw (c2) ?_ | refine cw (c3) ?_ | refine cw (cc) ?_ | refine cw (c4) ?_ | refine cw (c5) ?_ | refine cw (c6) ?_ | refine cw (c7) ?_ | refine cw (c8) ?_ | refine cw (cx) ?_ | refine cw (c9) ?_ | refine cw (d1) ?_ | refine cw (d2) ?_ | intro _) | (simp [*, hx]))
  all_goals first | exact inI64 (by omega) (by omega) | omega | skip
set_option maxHeartbeats 4000000 in
set_option maxRecDepth 20000 in
theorem tc_not (n : Net) (t : Trip) (r : Int) (hA : RealCall Try.prog 4 [] (.bool true) true) (cf : RealCall Try.prog 5 [aNet n] (.bool true) true) (c1 : RealCall Try.prog 6 [aNet n] (.int .i64 0) true) (c2 : RealCall Try.prog 7 [aNet n, .agg (tL t)] (.int .i64 0) true) (c3 : RealCall Try.prog 8 [aNet n, .int .i64 r] (.int .i64 0) true) (cc : RealCall Try.prog 10 [aNet n] (aNet n) true) (l s : List Int) (a1 a2 m : Int) (c4 : RealCall Try.prog 9 [aNet n, .agg [.int .i64 t.frm, .int .i64 t.to]] (.tup [.sl l.length (ints l), .int .i64 0]) true) (c5 : RealCall Try.prog 11 [aNet n, .agg (tL t)] (markP (a1, a2, 0)) true) (c6 : RealCall Try.prog 12 [aNet n, .int .i64 t.frm, .int .i64 t.to] (.tup [.sl s.length (ints s), .int .i64 m, .int .i64 0]) true) (x : Net) (hx : (x.roads.length : Int) = (n.roads.length : Int) - 1) (hnr : n.roads.length < 1000) (c7 : RealCall Try.prog 13 [aNet n, .int .i64 r] (.tup [aNet x, .int .i64 0]) true) (c8 : RealCall Try.prog 6 [aNet x] (.int .i64 0) true) (cx : RealCall Try.prog 10 [aNet x] (aNet x) true) (c9 : RealCall Try.prog 14 [.sl l.length (ints l), .int .i64 r] (.bool false) true) (b1 b2 k : Int) (s2 : List Int) (g1 : a1 ≤ b1) (g2 : a2 ≤ b2) (g3 : m ≤ k) (d1 : RealCall Try.prog 11 [aNet x, .agg (tL t)] (markP (b1, b2, 0)) true) (d2 : RealCall Try.prog 12 [aNet x, .int .i64 t.frm, .int .i64 t.to] (.tup [.sl s2.length (ints s2), .int .i64 k, .int .i64 0]) true) : RealCall Try.prog 3 [aNet n, .agg (tL t), .int .i64 r] (.bool true) true := by
  unfold markP at *
  unfold aNet cNet at *
  refine realcall_intro Try.func3 (by kernel_rfl) rfl (Nat.le_of_ble_eq_true (by kernel_rfl)) ?_
  simp only [Try.results3, Try.ntmps3]
  repeat' (first | (with_reducible first | refine awp_seq ?_ | refine awp_blockS ?_ | refine awp_blockC ?_ | refine awp_blockR ?_ | refine awp_skip ?_ | refine awp_ret ?_ | refine awp_exit ?_ | refine awp_region ?_ | refine awp_regionD (id := 5) 13 mixed (by decide +kernel) ?_ | refine awp_regionS (id := 6) [0, 1, 2, 3, 4, 5, 6, 7] [8, 9] [[], [], [], [], [], [], [.new 0], []] [[.new 0], []] mixed (by decide +kernel) ?_ | refine awp_regionD (id := 7) 14 mixed (by decide +kernel) ?_ | refine awp_regionS (id := 13) [0, 1, 2, 3, 4, 5, 6, 7] [8, 9] [[], [], [], [], [], [], [.new 0], []] [[.new 0], []] mixed (by decide +kernel) ?_ | refine awp_regionD (id := 14) 14 mixed (by decide +kernel) ?_ | refine awp_condM ?_ | refine And.intro ?_ ?_ | refine gM_splitN ?_ ?_ | refine gM_split ?_ ?_ | refine condM_splitDN ?_ ?_ | refine condM_splitD ?_ ?_ | refine condM_splitN ?_ ?_ | refine condM_split ?_ ?_ | refine condM_any ?_ ?_ | refine cw (hA) ?_ | refine cw (cf) ?_ | refine cw (c1) ?_ | refine cw (c2) ?_ | refine cw (c3) ?_ | refine cw (cc) ?_ | refine cw (c4) ?_ | refine cw (c5) ?_ | refine cw (c6) ?_ | refine cw (c7) ?_ | refine cw (c8) ?_ | refine cw (cx) ?_ | refine cw (c9) ?_ | refine cw (d1) ?_ | refine cw (d2) ?_ | intro _) | (simp [*, hx, g1, g2, g3]))
  all_goals first | exact inI64 (by omega) (by omega) | omega | skip

set_option maxHeartbeats 4000000 in
theorem streeted_c : RealCall Try.prog 4 [] (.bool true) true := by
  have c0 := exNet_c
  have c2 : RealCall Try.prog 11 [aNet exNet, .agg [.int .i64 0, .int .i64 2, .int .i64 0]] (markP (estS exNet ⟨0, 2, 0⟩)) true := estimate_c exNet ex_in ⟨0, 2, 0⟩
  have c3 := shortest_ok exNet ex_in 0 2 0 2 ⟨net_ok ex_in ex_net, by decide, by decide, rfl, rfl⟩ ex_pE (by rw [ex_len]; decide) 10 (by omega) [1, 0] ex_way
  rw [ex_est] at c2
  rw [ex_len] at c3
  generalize aNet exNet = N at *
  unfold markP at *
  refine realcall_intro Try.func4 (by kernel_rfl) rfl (Nat.le_of_ble_eq_true (by kernel_rfl)) ?_
  simp only [Try.results4, Try.ntmps4]
  repeat' (first | (with_reducible first | refine awp_seq ?_ | refine awp_blockS ?_ | refine awp_blockC ?_ | refine awp_blockR ?_ | refine awp_skip ?_ | refine awp_ret ?_ | refine awp_exit ?_ | refine awp_region ?_ | refine awp_condM ?_ | refine And.intro ?_ ?_ | refine gM_splitN ?_ ?_ | refine gM_split ?_ ?_ | refine condM_splitDN ?_ ?_ | refine condM_splitD ?_ ?_ | refine condM_splitN ?_ ?_ | refine condM_split ?_ ?_ | refine condM_any ?_ ?_ | refine cw (c0) ?_ | refine cw (c2) ?_ | refine cw (c3) ?_ | intro _) | (simp [*]))
theorem short_n (n : Net) (h : NetIn n) (a b : Nat) (ok : PairOk n a b a b) (he : pE n a b = 0) (hn : nth (growS fLen n a 0).l b ≠ -1) : ∃ s : List Int, RealCall Try.prog 12 [aNet n, .int .i64 a, .int .i64 b] (.tup [.sl s.length (ints s), .int .i64 (nth (growS fLen n a 0).l b), .int .i64 0]) true := by
  obtain ⟨Rv, q1, q2, q3, q4⟩ := tree_way ok.ok (along_len ok.ok) len_mono ok.la (Int.le_refl 0) (by omega) ok.lb hn
  have c4 := shortest_ok n h a b a b ok he hn (Rv.length + 1) (by omega) Rv q1
  have hRl : Rv.reverse.length = Rv.length := List.length_reverse
  rw [← hRl] at c4
  exact ⟨_, c4⟩
set_option maxHeartbeats 4000000 in
theorem topClosed_c (hA : RealCall Try.prog 4 [] (.bool true) true) (n : Net) (t : Trip) (r : Int) : RealCall Try.prog 3 [aNet n, .agg (tL t), .int .i64 r] (.bool true) true := by
  have cf := few_c n
  cases hf : fewB n with
  | false => rw [hf] at cf; exact tc_few n t r hA cf
  | true =>
    rw [hf] at cf
    have h := few_in hf
    have hnp := h.np
    have c1 := rNetErr_c n h
    by_cases e1 : (netS n).2.2 = 0
    · rw [e1] at c1
      have c2 : RealCall Try.prog 7 [aNet n, .agg (tL t)] (.int .i64 (tripE n t)) true := rTripErr_c n t (by omega)
      by_cases e2 : tripE n t = 0
      · rw [e2] at c2
        have c3 := rRoadErr_c n r h.nr
        by_cases e3 : errUnless (winB r 0 (n.roads.length - 1)) 6 = 0
        · rw [e3] at c3
          have w := win_of (unless_zero (by decide) e3)
          obtain ⟨k, rfl⟩ : ∃ k : Nat, r = k := ⟨r.toNat, by omega⟩
          have hk : k < n.roads.length := by omega
          have cc := rCopy_c n h
          have ho : otE n t = 0 := by rw [otE_trip e1]; exact e2
          obtain ⟨a, b, ok⟩ := trip_ok h ho
          have oi := out_in h k
          have eo := out_net e1 k
          have oko := net_ok oi eo
          have ho2 : otE (outN n k) t = 0 := by
            rw [otE_trip eo]
            rw [otE_trip e1] at ho
            exact ho
          have la := ok.la
          have lb := ok.lb
          have hlo := ok.lo
          have hhi := ok.hi
          have tr : t.frm = a := ok.fa
          have to_ : t.to = b := ok.fb
          have pok : PairOk n a b a b := ⟨ok.ok, la, lb, rfl, rfl⟩
          have poko : PairOk (outN n k) a b a b := ⟨oko, la, lb, rfl, rfl⟩
          have w1 : winB (a : Int) 0 (n.places.length - 1) = true := by unfold winB; simp; omega
          have w2 : winB (b : Int) 0 (n.places.length - 1) = true := by unfold winB; simp; omega
          have hp : pE n a b = 0 := by
            unfold pE
            rw [e1, w1, w2]; rfl
          have hpo : pE (outN n k) a b = 0 := by
            unfold pE
            rw [eo]
            show firstS [0, errUnless (winB (a : Int) 0 (n.places.length - 1)) 6, errUnless (winB (b : Int) 0 (n.places.length - 1)) 6] = 0
            rw [w1, w2]; rfl
          have ea : t.frm.toNat = a := by omega
          have eb : t.to.toNat = b := by omega
          have c5 := estimate_c n h t
          have d1 := estimate_c (outN n k) oi t
          unfold estS at c5 d1
          rw [if_neg (by simp [ho]), ea, eb] at c5
          rw [if_neg (by simp [ho2]), ea, eb] at d1
          have iff0 := reach_label ok.ok (along_time ok.ok false) (time_mono ok.ok false) la lb hlo (by omega : t.at_ ≤ 700000)
          have iff1 := reach_label ok.ok (along_len ok.ok) len_mono la lb (Int.le_refl 0) (by omega)
          have jff0 := reach_out_label hk oko (along_time oko false) (time_mono oko false) la lb hlo (by omega : t.at_ ≤ 700000)
          have jff1 := reach_out_label hk oko (along_len oko) len_mono la lb (Int.le_refl 0) (by omega)
          cases hr : nth (reachL n (-1) a) b with
          | false =>
            have n0 : nth (growS (fTime false) n a t.at_).l b = -1 := by
              by_cases e : nth (growS (fTime false) n a t.at_).l b = -1
              · exact e
              · have := iff0.2 e; rw [hr] at this; cases this
            have n1 : nth (growS fLen n a 0).l b = -1 := by
              by_cases e : nth (growS fLen n a 0).l b = -1
              · exact e
              · have := iff1.2 e; rw [hr] at this; cases this
            have c4 := needed_none n h a b pok hp hr
            have c6 := short_none n h a b a b pok hp n1
            rw [if_pos n0] at c5
            rw [← tr, ← to_] at c4 c6
            exact tc_none n t k hA cf c1 c2 c3 cc c4 c5 c6
          | true =>
            have n0 := iff0.1 hr
            have n1 := iff1.1 hr
            have c4 := needed_ok n h a b pok hp hr
            obtain ⟨s, c6⟩ := short_n n h a b pok hp n1
            rw [if_neg n0] at c5
            have c7 := without_ok n h k (by unfold wE; rw [e1, e3]; rfl)
            have c8 := rNetErr_c (outN n k) oi
            rw [eo] at c8
            have cx := rCopy_c (outN n k) oi
            have hx : ((outN n k).roads.length : Int) = (n.roads.length : Int) - 1 := by
              have := wr_total n.roads k hk
              show ((wr n.roads k n.roads.length).length : Int) = _
              omega
            have nl := needL_len n a b n.roads.length
            have hnr := h.nr
            have c9 := has_c (needL n a b n.roads.length) (by omega) k
            rw [need_has] at c9
            cases hs : nth (reachL n k a) b with
            | false =>
              rw [hs, decide_eq_true ⟨hk, rfl⟩] at c9
              have m0 : nth (growS (fTime false) (outN n k) a t.at_).l b = -1 := by
                by_cases e : nth (growS (fTime false) (outN n k) a t.at_).l b = -1
                · exact e
                · have := jff0.2 e; rw [hs] at this; cases this
              have m1 : nth (growS fLen (outN n k) a 0).l b = -1 := by
                by_cases e : nth (growS fLen (outN n k) a 0).l b = -1
                · exact e
                · have := jff1.2 e; rw [hs] at this; cases this
              rw [if_pos m0] at d1
              have d2 := short_none (outN n k) oi a b a b poko hpo m1
              rw [← tr, ← to_] at c4 c6 d2
              exact tc_has n t k hA cf c1 c2 c3 cc _ s _ _ _ c4 c5 c6 (outN n k) hx hnr c7 c8 cx c9 d1 d2
            | true =>
              rw [hs, decide_eq_false (fun h => by cases h.2)] at c9
              have m0 := jff0.1 hs
              have m1 := jff1.1 hs
              rw [if_neg m0] at d1
              obtain ⟨s2, d2⟩ := short_n (outN n k) oi a b poko hpo m1
              have gs := grow_some oko (along_time oko false) (along_time oko true) (time_mono oko true) (a := a) la hlo (by omega : t.at_ ≤ 700000) hlo (by omega : t.at_ ≤ 700000) (i := b) lb
              have b0 := (growS_inv oko (along_time oko false) (from_ := a) la hlo (by omega : t.at_ ≤ 700000)).small oko (i := b) lb
              have q0 : 0 ≤ nth (growS (fTime false) (outN n k) a t.at_).l b := by
                rcases b0 with e | e
                · exact absurd e m0
                · exact e.1
              have q1 := gs q0
              have g1 := out_later ok.ok oko la lb hlo (by omega : t.at_ ≤ 700000) false m0
              have g2 := out_later ok.ok oko la lb hlo (by omega : t.at_ ≤ 700000) true (by omega)
              have f1 := growS_fixed oko (along_len oko) (a := a) la (Int.le_refl 0) (by omega)
              have f2 := growS_fixed ok.ok (along_len ok.ok) (a := a) la (Int.le_refl 0) (by omega)
              have g3 : nth (growS fLen n a 0).l b ≤ nth (growS fLen (outN n k) a 0).l b := by
                rcases f1.reach b lb with e | e
                · exact absurd e m1
                · exact (fixed_least ok.ok len_mono f2 (Int.le_refl _) (reach_out e)).2
              rw [← tr, ← to_] at c4 c6 d2
              rw [tr] at c4 c6 d2
              rw [← tr] at c4 c6 d2
              exact tc_not n t k hA cf c1 c2 c3 cc _ s _ _ _ c4 c5 c6 (outN n k) hx hnr c7 c8 cx c9 _ _ _ s2 g1.2 g2.2 g3 d1 d2
        · exact tc_road n t r hA cf c1 c2 _ e3 c3
      · exact tc_trip n t r hA cf c1 _ e2 c2
    · exact tc_net n t r hA cf _ e1 c1
end Go.Proofs.Ytacepceplonceaa
