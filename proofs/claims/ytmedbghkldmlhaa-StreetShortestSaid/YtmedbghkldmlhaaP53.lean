/- Contracts of functions for this claim: lemmas alone. -/
import Derived.Test.YtmedbghkldmlhaaP52
import Derived.Test.YtmedbghkldmlhaaP40
set_option linter.unusedSimpArgs false
set_option linter.unusedVariables false
namespace Go.Proofs.Ytmedbghkldmlhaa
open Go Go.Fi

set_option maxHeartbeats 4000000 in
set_option maxRecDepth 20000 in
theorem so_few (n : Net) (x y : Int) (w : List Int) (hA : RealCall Try.prog 15 [] (.bool true) true) (cf : RealCall Try.prog 16 [aNet n] (.bool false) true) : RealCall Try.prog 13 [aNet n, aPr x y, .sl w.length (ints w)] (.bool true) true := by
  unfold aNet cNet at *
  refine realcall_intro Try.func13 (by kernel_rfl) rfl (Nat.le_of_ble_eq_true (by kernel_rfl)) ?_
  simp only [Try.results13, Try.ntmps13]
  repeat' (first | (with_reducible first | refine awp_seq ?_ | refine awp_blockS ?_ | refine awp_blockC ?_ | refine awp_blockR ?_ | refine awp_skip ?_ | refine awp_ret ?_ | refine awp_exit ?_ | refine awp_region ?_ | refine awp_regionD (id := 5) 10 mixed (by decide +kernel) ?_ | refine awp_regionD (id := 6) 14 mixed (by decide +kernel) ?_ | refine awp_regionD (id := 23) 10 mixed (by decide +kernel) ?_ | refine awp_condM ?_ | refine And.intro ?_ ?_ | refine gM_splitN ?_ ?_ | refine gM_split ?_ ?_ | refine condM_splitDN ?_ ?_ | refine condM_splitD ?_ ?_ | refine condM_splitN ?_ ?_ | refine condM_split ?_ ?_ | refine condM_any ?_ ?_ | refine cw (hA) ?_ | refine cw (cf) ?_ | intro _) | (simp [*]))
  all_goals first | exact inI64 (by omega) (by omega) | omega | skip
set_option maxHeartbeats 4000000 in
set_option maxRecDepth 20000 in
theorem so_long (n : Net) (x y : Int) (w : List Int) (hA : RealCall Try.prog 15 [] (.bool true) true) (cf : RealCall Try.prog 16 [aNet n] (.bool true) true) (hl : 12 < w.length) : RealCall Try.prog 13 [aNet n, aPr x y, .sl w.length (ints w)] (.bool true) true := by
  have hl' : (12 : Int) < (w.length : Int) := by omega
  unfold aNet cNet at *
  refine realcall_intro Try.func13 (by kernel_rfl) rfl (Nat.le_of_ble_eq_true (by kernel_rfl)) ?_
  simp only [Try.results13, Try.ntmps13]
  repeat' (first | (with_reducible first | refine awp_seq ?_ | refine awp_blockS ?_ | refine awp_blockC ?_ | refine awp_blockR ?_ | refine awp_skip ?_ | refine awp_ret ?_ | refine awp_exit ?_ | refine awp_region ?_ | refine awp_regionD (id := 5) 10 mixed (by decide +kernel) ?_ | refine awp_regionD (id := 6) 14 mixed (by decide +kernel) ?_ | refine awp_regionD (id := 23) 10 mixed (by decide +kernel) ?_ | refine awp_condM ?_ | refine And.intro ?_ ?_ | refine gM_splitN ?_ ?_ | refine gM_split ?_ ?_ | refine condM_splitDN ?_ ?_ | refine condM_splitD ?_ ?_ | refine condM_splitN ?_ ?_ | refine condM_split ?_ ?_ | refine condM_any ?_ ?_ | refine cw (hA) ?_ | refine cw (cf) ?_ | intro _) | (simp [*, hl']))
  all_goals first | exact inI64 (by omega) (by omega) | omega | skip
set_option maxHeartbeats 4000000 in
set_option maxRecDepth 20000 in
theorem so_net (n : Net) (x y : Int) (w : List Int) (hA : RealCall Try.prog 15 [] (.bool true) true) (cf : RealCall Try.prog 16 [aNet n] (.bool true) true) (hl : ¬ 12 < w.length) (cc : RealCall Try.prog 18 [aNet n] (aNet n) true) (e : Int) (he : e ≠ 0) (c1 : RealCall Try.prog 64 [aNet n, .int .i64 x] (.tup [.sl 0 [], .int .i64 e]) true) (c2 : RealCall Try.prog 36 [aNet n, .int .i64 x, .int .i64 y] (.tup [.sl 0 [], .int .i64 0, .int .i64 e]) true) (c3 : RealCall Try.prog 25 [aNet n] (.int .i64 e) true) : RealCall Try.prog 13 [aNet n, aPr x y, .sl w.length (ints w)] (.bool true) true := by
  have hl' : ¬ (12 : Int) < (w.length : Int) := by omega
  unfold aNet cNet at *
  refine realcall_intro Try.func13 (by kernel_rfl) rfl (Nat.le_of_ble_eq_true (by kernel_rfl)) ?_
  simp only [Try.results13, Try.ntmps13]
  repeat' (first | (with_reducible first | refine awp_seq ?_ | refine awp_blockS ?_ | refine awp_blockC ?_ | refine awp_blockR ?_ | refine awp_skip ?_ | refine awp_ret ?_ | refine awp_exit ?_ | refine awp_region ?_ | refine awp_regionD (id := 5) 10 mixed (by decide +kernel) ?_ | refine awp_regionD (id := 6) 14 mixed (by decide +kernel) ?_ | refine awp_regionD (id := 23) 10 mixed (by decide +kernel) ?_ | refine awp_condM ?_ | refine And.intro ?_ ?_ | refine gM_splitN ?_ ?_ | refine gM_split ?_ ?_ | refine condM_splitDN ?_ ?_ | refine condM_splitD ?_ ?_ | refine condM_splitN ?_ ?_ | refine condM_split ?_ ?_ | refine condM_any ?_ ?_ | refine cw (hA) ?_ | refine cw (cf) ?_ | refine cw (cc) ?_ | refine cw (c1) ?_ | refine cw (c2) ?_ | refine cw (c3) ?_ | intro _) | (simp [*, hl', he]))
  all_goals first | exact inI64 (by omega) (by omega) | omega | skip
set_option maxHeartbeats 4000000 in
set_option maxRecDepth 20000 in
theorem so_from (n : Net) (x y : Int) (w : List Int) (hA : RealCall Try.prog 15 [] (.bool true) true) (cf : RealCall Try.prog 16 [aNet n] (.bool true) true) (hl : ¬ 12 < w.length) (cc : RealCall Try.prog 18 [aNet n] (aNet n) true) (e : Int) (he : e ≠ 0) (c1 : RealCall Try.prog 64 [aNet n, .int .i64 x] (.tup [.sl 0 [], .int .i64 e]) true) (c2 : RealCall Try.prog 36 [aNet n, .int .i64 x, .int .i64 y] (.tup [.sl 0 [], .int .i64 0, .int .i64 e]) true) (c3 : RealCall Try.prog 25 [aNet n] (.int .i64 0) true) (c4 : RealCall Try.prog 40 [aNet n, .int .i64 x] (.int .i64 e) true) : RealCall Try.prog 13 [aNet n, aPr x y, .sl w.length (ints w)] (.bool true) true := by
  have hl' : ¬ (12 : Int) < (w.length : Int) := by omega
  unfold aNet cNet at *
  refine realcall_intro Try.func13 (by kernel_rfl) rfl (Nat.le_of_ble_eq_true (by kernel_rfl)) ?_
  simp only [Try.results13, Try.ntmps13]
  repeat' (first | (with_reducible first | refine awp_seq ?_ | refine awp_blockS ?_ | refine awp_blockC ?_ | refine awp_blockR ?_ | refine awp_skip ?_ | refine awp_ret ?_ | refine awp_exit ?_ | refine awp_region ?_ | refine awp_regionD (id := 5) 10 mixed (by decide +kernel) ?_ | refine awp_regionD (id := 6) 14 mixed (by decide +kernel) ?_ | refine awp_regionD (id := 23) 10 mixed (by decide +kernel) ?_ | refine awp_condM ?_ | refine And.intro ?_ ?_ | refine gM_splitN ?_ ?_ | refine gM_split ?_ ?_ | refine condM_splitDN ?_ ?_ | refine condM_splitD ?_ ?_ | refine condM_splitN ?_ ?_ | refine condM_split ?_ ?_ | refine condM_any ?_ ?_ | refine cw (hA) ?_ | refine cw (cf) ?_ | refine cw (cc) ?_ | refine cw (c1) ?_ | refine cw (c2) ?_ | refine cw (c3) ?_ | refine cw (c4) ?_ | intro _) | (simp [*, hl', he]))
  all_goals first | exact inI64 (by omega) (by omega) | omega | skip
set_option maxHeartbeats 4000000 in
set_option maxRecDepth 20000 in
theorem so_to (n : Net) (x y : Int) (w : List Int) (hA : RealCall Try.prog 15 [] (.bool true) true) (cf : RealCall Try.prog 16 [aNet n] (.bool true) true) (hl : ¬ 12 < w.length) (cc : RealCall Try.prog 18 [aNet n] (aNet n) true) (l : List Int) (hln : l.length = n.places.length) (c1 : RealCall Try.prog 64 [aNet n, .int .i64 x] (.tup [.sl n.places.length (ints l), .int .i64 0]) true) (c3 : RealCall Try.prog 25 [aNet n] (.int .i64 0) true) (c4 : RealCall Try.prog 40 [aNet n, .int .i64 x] (.int .i64 0) true) (c5 : RealCall Try.prog 65 [aNet n, .int .i64 x] (.sl n.places.length (ints l)) true) (c6 : RealCall Try.prog 58 [.sl n.places.length (ints l), .sl n.places.length (ints l)] (.bool true) true) (e : Int) (he : e ≠ 0) (c2 : RealCall Try.prog 36 [aNet n, .int .i64 x, .int .i64 y] (.tup [.sl 0 [], .int .i64 0, .int .i64 e]) true) (c7 : RealCall Try.prog 40 [aNet n, .int .i64 y] (.int .i64 e) true) : RealCall Try.prog 13 [aNet n, aPr x y, .sl w.length (ints w)] (.bool true) true := by
  have hl' : ¬ (12 : Int) < (w.length : Int) := by omega
  unfold aNet cNet at *
  refine realcall_intro Try.func13 (by kernel_rfl) rfl (Nat.le_of_ble_eq_true (by kernel_rfl)) ?_
  simp only [Try.results13, Try.ntmps13]
  repeat' (first | (with_reducible first | refine awp_seq ?_ | refine awp_blockS ?_ | refine awp_blockC ?_ | refine awp_blockR ?_ | refine awp_skip ?_ | refine awp_ret ?_ | refine awp_exit ?_ | refine awp_region ?_ | refine awp_regionD (id := 5) 10 mixed (by decide +kernel) ?_ | refine awp_regionD (id := 6) 14 mixed (by decide +kernel) ?_ | refine awp_regionD (id := 23) 10 mixed (by decide +kernel) ?_ | refine awp_condM ?_ | refine And.intro ?_ ?_ | refine gM_splitN ?_ ?_ | refine gM_split ?_ ?_ | refine condM_splitDN ?_ ?_ | refine condM_splitD ?_ ?_ | refine condM_splitN ?_ ?_ | refine condM_split ?_ ?_ | refine condM_any ?_ ?_ | refine cw (hA) ?_ | refine cw (cf) ?_ | refine cw (cc) ?_ | refine cw (c1) ?_ | refine cw (c3) ?_ | refine cw (c4) ?_ | refine cw (c5) ?_ | refine cw (c6) ?_ | refine cw (c2) ?_ | refine cw (c7) ?_ | intro _) | (simp [*, hl', he]))
  all_goals first | exact inI64 (by omega) (by omega) | omega | skip
set_option maxHeartbeats 4000000 in
set_option maxRecDepth 20000 in
theorem so_none (n : Net) (x y : Int) (w : List Int) (hA : RealCall Try.prog 15 [] (.bool true) true) (cf : RealCall Try.prog 16 [aNet n] (.bool true) true) (hl : ¬ 12 < w.length) (cc : RealCall Try.prog 18 [aNet n] (aNet n) true) (l : List Int) (hln : l.length = n.places.length) (c1 : RealCall Try.prog 64 [aNet n, .int .i64 x] (.tup [.sl n.places.length (ints l), .int .i64 0]) true) (c3 : RealCall Try.prog 25 [aNet n] (.int .i64 0) true) (c4 : RealCall Try.prog 40 [aNet n, .int .i64 x] (.int .i64 0) true) (c5 : RealCall Try.prog 65 [aNet n, .int .i64 x] (.sl n.places.length (ints l)) true) (c6 : RealCall Try.prog 58 [.sl n.places.length (ints l), .sl n.places.length (ints l)] (.bool true) true) (c7 : RealCall Try.prog 40 [aNet n, .int .i64 y] (.int .i64 0) true) (b : Nat) (hb : y = b) (lb : b < l.length) (hn : nth l b = -1) (c2 : RealCall Try.prog 36 [aNet n, .int .i64 x, .int .i64 y] (.tup [.sl 0 [], .int .i64 0, .int .i64 12]) true) : RealCall Try.prog 13 [aNet n, aPr x y, .sl w.length (ints w)] (.bool true) true := by
  have hl' : ¬ (12 : Int) < (w.length : Int) := by omega
  subst hb
  have lb2 : b < n.places.length := by omega
  unfold aNet cNet at *
  refine realcall_intro Try.func13 (by kernel_rfl) rfl (Nat.le_of_ble_eq_true (by kernel_rfl)) ?_
  simp only [Try.results13, Try.ntmps13]
  repeat' (first | (with_reducible first | refine awp_seq ?_ | refine awp_blockS ?_ | refine awp_blockC ?_ | refine awp_blockR ?_ | refine awp_skip ?_ | refine awp_ret ?_ | refine awp_exit ?_ | refine awp_region ?_ | refine awp_regionD (id := 5) 10 mixed (by decide +kernel) ?_ | refine awp_regionD (id := 6) 14 mixed (by decide +kernel) ?_ | refine awp_regionD (id := 23) 10 mixed (by decide +kernel) ?_ | refine awp_condM ?_ | refine And.intro ?_ ?_ | refine gM_splitN ?_ ?_ | refine gM_split ?_ ?_ | refine condM_splitDN ?_ ?_ | refine condM_splitD ?_ ?_ | refine condM_splitN ?_ ?_ | refine condM_split ?_ ?_ | refine condM_any ?_ ?_ | refine cw (hA) ?_ | refine cw (cf) ?_ | refine cw (cc) ?_ | refine cw (c1) ?_ | refine cw (c3) ?_ | refine cw (c4) ?_ | refine cw (c5) ?_ | refine cw (c6) ?_ | refine cw (c2) ?_ | refine cw (c7) ?_ | intro _) | (simp [*, hl', lb, lb2, hn]))
  all_goals first | exact inI64 (by omega) (by omega) | omega | skip
set_option maxHeartbeats 4000000 in
set_option maxRecDepth 20000 in
theorem so_way (n : Net) (x y : Int) (w : List Int) (hA : RealCall Try.prog 15 [] (.bool true) true) (cf : RealCall Try.prog 16 [aNet n] (.bool true) true) (hl : ¬ 12 < w.length) (cc : RealCall Try.prog 18 [aNet n] (aNet n) true) (l : List Int) (hln : l.length = n.places.length) (c1 : RealCall Try.prog 64 [aNet n, .int .i64 x] (.tup [.sl n.places.length (ints l), .int .i64 0]) true) (c3 : RealCall Try.prog 25 [aNet n] (.int .i64 0) true) (c4 : RealCall Try.prog 40 [aNet n, .int .i64 x] (.int .i64 0) true) (c5 : RealCall Try.prog 65 [aNet n, .int .i64 x] (.sl n.places.length (ints l)) true) (c6 : RealCall Try.prog 58 [.sl n.places.length (ints l), .sl n.places.length (ints l)] (.bool true) true) (c7 : RealCall Try.prog 40 [aNet n, .int .i64 y] (.int .i64 0) true) (b : Nat) (hb : y = b) (lb : b < l.length) (s : List Int) (m : Int) (hm : nth l b = m) (hm0 : ¬ m < 0) (c2 : RealCall Try.prog 36 [aNet n, .int .i64 x, .int .i64 y] (.tup [.sl s.length (ints s), .int .i64 m, .int .i64 0]) true) (c8 : RealCall Try.prog 37 [aNet n, .sl s.length (ints s)] (.tup [.int .i64 0, .int .i64 0]) true) (c9 : RealCall Try.prog 38 [aNet n, .sl s.length (ints s), .int .i64 x, .int .i64 y] (.bool true) true) (d1 : RealCall Try.prog 46 [aNet n, .sl s.length (ints s)] (.int .i64 m) true) (d2 : RealCall Try.prog 39 [aNet n, aPr x y, .sl n.places.length (ints l)] (.tup [.int .i64 m, .int .i64 0]) true) (i e : Int) (he : e ≠ 0) (d3 : RealCall Try.prog 37 [aNet n, .sl w.length (ints w)] (.tup [.int .i64 i, .int .i64 e]) true) : RealCall Try.prog 13 [aNet n, aPr x y, .sl w.length (ints w)] (.bool true) true := by
  have hl' : ¬ (12 : Int) < (w.length : Int) := by omega
  subst hb
  have lb2 : b < n.places.length := by omega
  unfold aNet cNet at *
  refine realcall_intro Try.func13 (by kernel_rfl) rfl (Nat.le_of_ble_eq_true (by kernel_rfl)) ?_
  simp only [Try.results13, Try.ntmps13]
  repeat' (first | (with_reducible first | refine awp_seq ?_ | refine awp_blockS ?_ | refine awp_blockC ?_ | refine awp_blockR ?_ | refine awp_skip ?_ | refine awp_ret ?_ | refine awp_exit ?_ | refine awp_region ?_ | refine awp_regionD (id := 5) 10 mixed (by decide +kernel) ?_ | refine awp_regionD (id := 6) 14 mixed (by decide +kernel) ?_ | refine awp_regionD (id := 23) 10 mixed (by decide +kernel) ?_ | refine awp_condM ?_ | refine And.intro ?_ ?_ | refine gM_splitN ?_ ?_ | refine gM_split ?_ ?_ | refine condM_splitDN ?_ ?_ | refine condM_splitD ?_ ?_ | refine condM_splitN ?_ ?_ | refine condM_split ?_ ?_ | refine condM_any ?_ ?_ | refine cw (hA) ?_ | refine cw (cf) ?_ | refine cw (cc) ?_ | refine cw (c1) ?_ | refine cw (c3) ?_ | refine cw (c4) ?_ | refine cw (c5) ?_ | refine cw (c6) ?_ | refine cw (c2) ?_ | refine cw (c7) ?_ | refine cw (c8) ?_ | refine cw (c9) ?_ | refine cw (d1) ?_ | refine cw (d2) ?_ | refine cw (d3) ?_ | intro _) | (simp [*, hl', lb, lb2, hm, hm0, he]))
  all_goals first | exact inI64 (by omega) (by omega) | omega | skip
set_option maxHeartbeats 4000000 in
set_option maxRecDepth 20000 in
theorem so_clash (n : Net) (x y : Int) (w : List Int) (hA : RealCall Try.prog 15 [] (.bool true) true) (cf : RealCall Try.prog 16 [aNet n] (.bool true) true) (hl : ¬ 12 < w.length) (cc : RealCall Try.prog 18 [aNet n] (aNet n) true) (l : List Int) (hln : l.length = n.places.length) (c1 : RealCall Try.prog 64 [aNet n, .int .i64 x] (.tup [.sl n.places.length (ints l), .int .i64 0]) true) (c3 : RealCall Try.prog 25 [aNet n] (.int .i64 0) true) (c4 : RealCall Try.prog 40 [aNet n, .int .i64 x] (.int .i64 0) true) (c5 : RealCall Try.prog 65 [aNet n, .int .i64 x] (.sl n.places.length (ints l)) true) (c6 : RealCall Try.prog 58 [.sl n.places.length (ints l), .sl n.places.length (ints l)] (.bool true) true) (c7 : RealCall Try.prog 40 [aNet n, .int .i64 y] (.int .i64 0) true) (b : Nat) (hb : y = b) (lb : b < l.length) (s : List Int) (m : Int) (hm : nth l b = m) (hm0 : ¬ m < 0) (c2 : RealCall Try.prog 36 [aNet n, .int .i64 x, .int .i64 y] (.tup [.sl s.length (ints s), .int .i64 m, .int .i64 0]) true) (c8 : RealCall Try.prog 37 [aNet n, .sl s.length (ints s)] (.tup [.int .i64 0, .int .i64 0]) true) (c9 : RealCall Try.prog 38 [aNet n, .sl s.length (ints s), .int .i64 x, .int .i64 y] (.bool true) true) (d1 : RealCall Try.prog 46 [aNet n, .sl s.length (ints s)] (.int .i64 m) true) (d2 : RealCall Try.prog 39 [aNet n, aPr x y, .sl n.places.length (ints l)] (.tup [.int .i64 m, .int .i64 0]) true) (d3 : RealCall Try.prog 37 [aNet n, .sl w.length (ints w)] (.tup [.int .i64 0, .int .i64 0]) true) (d4 : RealCall Try.prog 38 [aNet n, .sl w.length (ints w), .int .i64 x, .int .i64 y] (.bool false) true) : RealCall Try.prog 13 [aNet n, aPr x y, .sl w.length (ints w)] (.bool true) true := by
  have hl' : ¬ (12 : Int) < (w.length : Int) := by omega
  subst hb
  have lb2 : b < n.places.length := by omega
  unfold aNet cNet at *
  refine realcall_intro Try.func13 (by kernel_rfl) rfl (Nat.le_of_ble_eq_true (by kernel_rfl)) ?_
  simp only [Try.results13, Try.ntmps13]
  repeat' (first | (with_reducible first | refine awp_seq ?_ | refine awp_blockS ?_ | refine awp_blockC ?_ | refine awp_blockR ?_ | refine awp_skip ?_ | refine awp_ret ?_ | refine awp_exit ?_ | refine awp_region ?_ | refine awp_regionD (id := 5) 10 mixed (by decide +kernel) ?_ | refine awp_regionD (id := 6) 14 mixed (by decide +kernel) ?_ | refine awp_regionD (id := 23) 10 mixed (by decide +kernel) ?_ | refine awp_condM ?_ | refine And.intro ?_ ?_ | refine gM_splitN ?_ ?_ | refine gM_split ?_ ?_ | refine condM_splitDN ?_ ?_ | refine condM_splitD ?_ ?_ | refine condM_splitN ?_ ?_ | refine condM_split ?_ ?_ | refine condM_any ?_ ?_ | refine cw (hA) ?_ | refine cw (cf) ?_ | refine cw (cc) ?_ | refine cw (c1) ?_ | refine cw (c3) ?_ | refine cw (c4) ?_ | refine cw (c5) ?_ | refine cw (c6) ?_ | refine cw (c2) ?_ | refine cw (c7) ?_ | refine cw (c8) ?_ | refine cw (c9) ?_ | refine cw (d1) ?_ | refine cw (d2) ?_ | refine cw (d3) ?_ | refine cw (d4) ?_ | intro _) | (simp [*, hl', lb, lb2, hm, hm0]))
  all_goals first | exact inI64 (by omega) (by omega) | omega | skip
set_option maxHeartbeats 4000000 in
set_option maxRecDepth 20000 in
theorem so_good (n : Net) (x y : Int) (w : List Int) (hA : RealCall Try.prog 15 [] (.bool true) true) (cf : RealCall Try.prog 16 [aNet n] (.bool true) true) (hl : ¬ 12 < w.length) (cc : RealCall Try.prog 18 [aNet n] (aNet n) true) (l : List Int) (hln : l.length = n.places.length) (c1 : RealCall Try.prog 64 [aNet n, .int .i64 x] (.tup [.sl n.places.length (ints l), .int .i64 0]) true) (c3 : RealCall Try.prog 25 [aNet n] (.int .i64 0) true) (c4 : RealCall Try.prog 40 [aNet n, .int .i64 x] (.int .i64 0) true) (c5 : RealCall Try.prog 65 [aNet n, .int .i64 x] (.sl n.places.length (ints l)) true) (c6 : RealCall Try.prog 58 [.sl n.places.length (ints l), .sl n.places.length (ints l)] (.bool true) true) (c7 : RealCall Try.prog 40 [aNet n, .int .i64 y] (.int .i64 0) true) (b : Nat) (hb : y = b) (lb : b < l.length) (s : List Int) (m : Int) (hm : nth l b = m) (hm0 : ¬ m < 0) (c2 : RealCall Try.prog 36 [aNet n, .int .i64 x, .int .i64 y] (.tup [.sl s.length (ints s), .int .i64 m, .int .i64 0]) true) (c8 : RealCall Try.prog 37 [aNet n, .sl s.length (ints s)] (.tup [.int .i64 0, .int .i64 0]) true) (c9 : RealCall Try.prog 38 [aNet n, .sl s.length (ints s), .int .i64 x, .int .i64 y] (.bool true) true) (d1 : RealCall Try.prog 46 [aNet n, .sl s.length (ints s)] (.int .i64 m) true) (d2 : RealCall Try.prog 39 [aNet n, aPr x y, .sl n.places.length (ints l)] (.tup [.int .i64 m, .int .i64 0]) true) (d3 : RealCall Try.prog 37 [aNet n, .sl w.length (ints w)] (.tup [.int .i64 0, .int .i64 0]) true) (d4 : RealCall Try.prog 38 [aNet n, .sl w.length (ints w), .int .i64 x, .int .i64 y] (.bool true) true) (d5 : RealCall Try.prog 33 [.sl w.length (ints w)] (.sl w.length (ints w)) true) (k : Int) (hk : m ≤ k) (d6 : RealCall Try.prog 45 [aNet n, .sl w.length (ints w)] (.tup [.int .i64 k, .int .i64 0]) true) : RealCall Try.prog 13 [aNet n, aPr x y, .sl w.length (ints w)] (.bool true) true := by
  have hl' : ¬ (12 : Int) < (w.length : Int) := by omega
  subst hb
  have lb2 : b < n.places.length := by omega
  unfold aNet cNet at *
  refine realcall_intro Try.func13 (by kernel_rfl) rfl (Nat.le_of_ble_eq_true (by kernel_rfl)) ?_
  simp only [Try.results13, Try.ntmps13]
  repeat' (first | (with_reducible first | refine awp_seq ?_ | refine awp_blockS ?_ | refine awp_blockC ?_ | refine awp_blockR ?_ | refine awp_skip ?_ | refine awp_ret ?_ | refine awp_exit ?_ | refine awp_region ?_ | refine awp_regionD (id := 5) 10 mixed (by decide +kernel) ?_ | refine awp_regionD (id := 6) 14 mixed (by decide +kernel) ?_ | refine awp_regionD (id := 23) 10 mixed (by decide +kernel) ?_ | refine awp_condM ?_ | refine And.intro ?_ ?_ | refine gM_splitN ?_ ?_ | refine gM_split ?_ ?_ | refine condM_splitDN ?_ ?_ | refine condM_splitD ?_ ?_ | refine condM_splitN ?_ ?_ | refine condM_split ?_ ?_ | refine condM_any ?_ ?_ | refine cw (hA) ?_ | refine cw (cf) ?_ | refine cw (cc) ?_ | refine cw (c1) ?_ | refine cw (c3) ?_ | refine cw (c4) ?_ | refine cw (c5) ?_ | refine cw (c6) ?_ | refine cw (c2) ?_ | refine cw (c7) ?_ | refine cw (c8) ?_ | refine cw (c9) ?_ | refine cw (d1) ?_ | refine cw (d2) ?_ | refine cw (d3) ?_ | refine cw (d4) ?_ | refine cw (d5) ?_ | refine cw (d6) ?_ | intro _) | (simp [*, hl', lb, lb2, hm, hm0, hk]))
  all_goals first | exact inI64 (by omega) (by omega) | omega | skip
theorem streetShortest_c (hA : RealCall Try.prog 15 [] (.bool true) true) (n : Net) (x y : Int) (w : List Int) : RealCall Try.prog 13 [aNet n, aPr x y, .sl w.length (ints w)] (.bool true) true := by
  have cf := few_c n
  cases hf : fewB n with
  | false => rw [hf] at cf; exact so_few n x y w hA cf
  | true =>
    rw [hf] at cf
    have h := few_in hf
    by_cases hl : 12 < w.length
    · exact so_long n x y w hA cf hl
    · have cc := rCopy_c n h
      have hnp := h.np
      have c3 := rNetErr_c n h
      have c4 := rPlaceErr_c n x hnp
      have c7 := rPlaceErr_c n y hnp
      have hpE : pE n x y = if hE n x ≠ 0 then hE n x else errUnless (winB y 0 (n.places.length - 1)) 6 := by
        unfold pE hE
        rw [first3]
        simp only [firstS]
        by_cases h1 : (netS n).2.2 = 0
        · by_cases h2 : errUnless (winB x 0 (n.places.length - 1)) 6 = 0
          · simp [h1, h2]
          · simp [h1, h2]
        · simp [h1]
      by_cases hh : hE n x = 0
      · have e1 : (netS n).2.2 = 0 := firstS_nth hh 0 (show (0 : Nat) < 2 by omega)
        have e2 : errUnless (winB x 0 (n.places.length - 1)) 6 = 0 := firstS_nth hh 1 (show (1 : Nat) < 2 by omega)
        have wx := win_of (unless_zero (by decide) e2)
        have ok := net_ok h e1
        obtain ⟨a, rfl⟩ : ∃ a : Nat, x = a := ⟨x.toNat, by omega⟩
        have la : a < n.places.length := by omega
        rw [e1] at c3
        rw [e2] at c4
        rw [if_neg (by simp [hh])] at hpE
        have c1 := heights_ok n h a la hh
        have c5 := rHeights_c n ok a la
        have hx := growS_fixed ok (along_len ok) la (Int.le_refl 0) (by omega)
        have hln := hx.inv.ll
        have c6 := ints_c (growS fLen n a 0).l (by omega)
        rw [hln] at c6
        by_cases hy : errUnless (winB y 0 (n.places.length - 1)) 6 = 0
        · rw [hy] at c7 hpE
          have wy := win_of (unless_zero (by decide) hy)
          obtain ⟨b, rfl⟩ : ∃ b : Nat, y = b := ⟨y.toNat, by omega⟩
          have lb : b < n.places.length := by omega
          have pok : PairOk n a b a b := ⟨ok, la, lb, rfl, rfl⟩
          by_cases hn : nth (growS fLen n a 0).l b = -1
          · exact so_none n a b w hA cf hl cc _ hln c1 c3 c4 c5 c6 c7 b rfl (by omega) hn (short_none n h a b a b pok hpE hn)
          · obtain ⟨R, q1, q2, q3, q4⟩ := tree_way ok (along_len ok) len_mono la (Int.le_refl 0) (by omega) lb hn
            have c2 := shortest_ok n h a b a b pok hpE hn (R.length + 1) (by omega) R q1
            have hsm := hx.inv.small ok lb
            have hRl : R.reverse.length = R.length := List.length_reverse
            rw [← hRl] at c2
            have hwS := way_of q3.ok (by omega)
            have c8 := rWayErr_c n h R.reverse (by omega)
            rw [hwS] at c8
            have c9 := rJoins_c n h.nr R.reverse q3.ok (by omega) a b
            rw [q3.joins ok] at c9
            have d1 := rMetresOf_c n ok R.reverse q3.ok (by omega)
            have em : metS n R.reverse = nth (growS fLen n a 0).l b := by rw [← q4, evalW_len]; omega
            rw [em] at d1
            have d2 := checkHeights_c n h a b (growS fLen n a 0).l (by omega)
            rw [ch_grow ok la lb hpE hn, hln] at d2
            have d3 := rWayErr_c n h w (by omega)
            by_cases hw : (wayS n w).2.2 = 0
            · rw [way_zero hw] at d3
              have wo := way_ok hw
              have d4 := rJoins_c n h.nr w wo (by omega) a b
              cases hj : joinsB n w a b with
              | false =>
                rw [hj] at d4
                exact so_clash n a b w hA cf hl cc _ hln c1 c3 c4 c5 c6 c7 b rfl (by omega) _ _ rfl (by omega) c2 c8 c9 d1 d2 d3 d4
              | true =>
                rw [hj] at d4
                have d5 := copyInts_c w (by omega)
                have d6 := metresOf_c n h w (by omega)
                rw [met_good (by rw [ow_net e1]; exact hw)] at d6
                have hr := joins_reach (f := fLen) ok wo a b 0 hj
                have hle := (fixed_least ok len_mono hx (Int.le_refl _) hr).2
                rw [evalW_len] at hle
                exact so_good n a b w hA cf hl cc _ hln c1 c3 c4 c5 c6 c7 b rfl (by omega) _ _ rfl (by omega) c2 c8 c9 d1 d2 d3 d4 d5 _ (by omega) d6
            · exact so_way n a b w hA cf hl cc _ hln c1 c3 c4 c5 c6 c7 b rfl (by omega) _ _ rfl (by omega) c2 c8 c9 d1 d2 _ _ hw d3
        · have hp : pE n a y ≠ 0 := by rw [hpE]; exact hy
          have c2 := short_bad n h a y hp
          rw [hpE] at c2
          exact so_to n a y w hA cf hl cc _ hln c1 c3 c4 c5 c6 _ hy c2 c7
      · rw [if_pos hh] at hpE
        have c1 := heights_bad n h x hh
        have c2 := short_bad n h x y (by rw [hpE]; exact hh)
        rw [hpE] at c2
        have hd : hE n x = if (netS n).2.2 = 0 then errUnless (winB x 0 (n.places.length - 1)) 6 else (netS n).2.2 := by
          unfold hE
          simp only [firstS]
          by_cases h1 : (netS n).2.2 = 0
          · by_cases h2 : errUnless (winB x 0 (n.places.length - 1)) 6 = 0 <;> simp [h1, h2]
          · simp [h1]
        by_cases h1 : (netS n).2.2 = 0
        · rw [if_pos h1] at hd
          rw [h1] at c3
          rw [← hd] at c4
          exact so_from n x y w hA cf hl cc _ hh c1 c2 c3 c4
        · rw [if_neg h1] at hd
          rw [← hd] at c3
          exact so_net n x y w hA cf hl cc _ hh c1 c2 c3
end Go.Proofs.Ytmedbghkldmlhaa
