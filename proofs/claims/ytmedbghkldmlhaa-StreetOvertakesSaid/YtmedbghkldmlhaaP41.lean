/- Contracts of functions for this claim: lemmas alone. -/
import Derived.Test.YtmedbghkldmlhaaP40
set_option linter.unusedSimpArgs false
set_option linter.unusedVariables false
namespace Go.Proofs.Ytmedbghkldmlhaa
open Go Go.Fi

abbrev aPair (x y : Int) : PV := .agg [.int .i64 x, .int .i64 y]
set_option maxHeartbeats 4000000 in
set_option maxRecDepth 20000 in
theorem ov_few (n : Net) (w : List Int) (x y : Int) (hA : RealCall Try.prog 15 [] (.bool true) true) (cf : RealCall Try.prog 16 [aNet n] (.bool false) true) : RealCall Try.prog 8 [aNet n, .sl w.length (ints w), aPair x y] (.bool true) true := by
  unfold aNet cNet at *
  refine realcall_intro Try.func8 (by kernel_rfl) rfl (Nat.le_of_ble_eq_true (by kernel_rfl)) ?_
  simp only [Try.results8, Try.ntmps8]
  repeat' (first | (with_reducible first | refine awp_seq ?_ | refine awp_blockS ?_ | refine awp_blockC ?_ | refine awp_blockR ?_ | refine awp_skip ?_ | refine awp_ret ?_ | refine awp_exit ?_ | refine awp_region ?_ | refine awp_regionS (id := 8) [0, 1, 2, 3, 4, 5, 6, 7, 8, 9, 10] [11, 12] [[], [], [], [], [], [], [], [], [], [.new 0], []] [[.new 0], []] mixed (by decide +kernel) ?_ | refine awp_regionS (id := 9) [0, 1, 2, 3, 4, 5, 6, 7, 8, 9, 10] [11, 12] [[], [], [], [], [], [], [], [], [], [.new 0], []] [[.new 0], []] mixed (by decide +kernel) ?_ | refine awp_condM ?_ | refine And.intro ?_ ?_ | refine gM_splitN ?_ ?_ | refine gM_split ?_ ?_ | refine condM_splitDN ?_ ?_ | refine condM_splitD ?_ ?_ | refine condM_splitN ?_ ?_ | refine condM_split ?_ ?_ | refine condM_any ?_ ?_ | refine cw (hA) ?_ | refine cw (cf) ?_ | intro _) | (simp [*]))
  all_goals try omega
set_option maxHeartbeats 4000000 in
set_option maxRecDepth 20000 in
theorem ov_long (n : Net) (w : List Int) (x y : Int) (hA : RealCall Try.prog 15 [] (.bool true) true) (cf : RealCall Try.prog 16 [aNet n] (.bool true) true) (hl : 12 < w.length) : RealCall Try.prog 8 [aNet n, .sl w.length (ints w), aPair x y] (.bool true) true := by
  unfold aNet cNet at *
  have hl' : (12 : Int) < (w.length : Int) := by omega
  refine realcall_intro Try.func8 (by kernel_rfl) rfl (Nat.le_of_ble_eq_true (by kernel_rfl)) ?_
  simp only [Try.results8, Try.ntmps8]
  repeat' (first | (with_reducible first | refine awp_seq ?_ | refine awp_blockS ?_ | refine awp_blockC ?_ | refine awp_blockR ?_ | refine awp_skip ?_ | refine awp_ret ?_ | refine awp_exit ?_ | refine awp_region ?_ | refine awp_regionS (id := 8) [0, 1, 2, 3, 4, 5, 6, 7, 8, 9, 10] [11, 12] [[], [], [], [], [], [], [], [], [], [.new 0], []] [[.new 0], []] mixed (by decide +kernel) ?_ | refine awp_regionS (id := 9) [0, 1, 2, 3, 4, 5, 6, 7, 8, 9, 10] [11, 12] [[], [], [], [], [], [], [], [], [], [.new 0], []] [[.new 0], []] mixed (by decide +kernel) ?_ | refine awp_condM ?_ | refine And.intro ?_ ?_ | refine gM_splitN ?_ ?_ | refine gM_split ?_ ?_ | refine condM_splitDN ?_ ?_ | refine condM_splitD ?_ ?_ | refine condM_splitN ?_ ?_ | refine condM_split ?_ ?_ | refine condM_any ?_ ?_ | refine cw (hA) ?_ | refine cw (cf) ?_ | intro _) | (simp [*, hl']))
  all_goals try omega
set_option maxHeartbeats 4000000 in
set_option maxRecDepth 20000 in
theorem ov_net (n : Net) (w : List Int) (x y : Int) (hA : RealCall Try.prog 15 [] (.bool true) true) (cf : RealCall Try.prog 16 [aNet n] (.bool true) true) (hl : ¬ 12 < w.length) (e : Int) (he : e ≠ 0) (c4 : RealCall Try.prog 25 [aNet n] (.int .i64 e) true) : RealCall Try.prog 8 [aNet n, .sl w.length (ints w), aPair x y] (.bool true) true := by
  unfold aNet cNet at *
  have hl' : ¬ (12 : Int) < (w.length : Int) := by omega
  refine realcall_intro Try.func8 (by kernel_rfl) rfl (Nat.le_of_ble_eq_true (by kernel_rfl)) ?_
  simp only [Try.results8, Try.ntmps8]
  repeat' (first | (with_reducible first | refine awp_seq ?_ | refine awp_blockS ?_ | refine awp_blockC ?_ | refine awp_blockR ?_ | refine awp_skip ?_ | refine awp_ret ?_ | refine awp_exit ?_ | refine awp_region ?_ | refine awp_regionS (id := 8) [0, 1, 2, 3, 4, 5, 6, 7, 8, 9, 10] [11, 12] [[], [], [], [], [], [], [], [], [], [.new 0], []] [[.new 0], []] mixed (by decide +kernel) ?_ | refine awp_regionS (id := 9) [0, 1, 2, 3, 4, 5, 6, 7, 8, 9, 10] [11, 12] [[], [], [], [], [], [], [], [], [], [.new 0], []] [[.new 0], []] mixed (by decide +kernel) ?_ | refine awp_condM ?_ | refine And.intro ?_ ?_ | refine gM_splitN ?_ ?_ | refine gM_split ?_ ?_ | refine condM_splitDN ?_ ?_ | refine condM_splitD ?_ ?_ | refine condM_splitN ?_ ?_ | refine condM_split ?_ ?_ | refine condM_any ?_ ?_ | refine cw (hA) ?_ | refine cw (cf) ?_ | refine cw (c4) ?_ | intro _) | (simp [*, hl', he]))
  all_goals try omega
set_option maxHeartbeats 4000000 in
set_option maxRecDepth 20000 in
theorem ov_ord (n : Net) (w : List Int) (x y : Int) (hA : RealCall Try.prog 15 [] (.bool true) true) (cf : RealCall Try.prog 16 [aNet n] (.bool true) true) (hl : ¬ 12 < w.length) (c4 : RealCall Try.prog 25 [aNet n] (.int .i64 0) true) (cw1 : RealCall Try.prog 42 [.int .i64 x, .int .i64 0, .int .i64 y] (.bool false) true) : RealCall Try.prog 8 [aNet n, .sl w.length (ints w), aPair x y] (.bool true) true := by
  unfold aNet cNet at *
  have hl' : ¬ (12 : Int) < (w.length : Int) := by omega
  refine realcall_intro Try.func8 (by kernel_rfl) rfl (Nat.le_of_ble_eq_true (by kernel_rfl)) ?_
  simp only [Try.results8, Try.ntmps8]
  repeat' (first | (with_reducible first | refine awp_seq ?_ | refine awp_blockS ?_ | refine awp_blockC ?_ | refine awp_blockR ?_ | refine awp_skip ?_ | refine awp_ret ?_ | refine awp_exit ?_ | refine awp_region ?_ | refine awp_regionS (id := 8) [0, 1, 2, 3, 4, 5, 6, 7, 8, 9, 10] [11, 12] [[], [], [], [], [], [], [], [], [], [.new 0], []] [[.new 0], []] mixed (by decide +kernel) ?_ | refine awp_regionS (id := 9) [0, 1, 2, 3, 4, 5, 6, 7, 8, 9, 10] [11, 12] [[], [], [], [], [], [], [], [], [], [.new 0], []] [[.new 0], []] mixed (by decide +kernel) ?_ | refine awp_condM ?_ | refine And.intro ?_ ?_ | refine gM_splitN ?_ ?_ | refine gM_split ?_ ?_ | refine condM_splitDN ?_ ?_ | refine condM_splitD ?_ ?_ | refine condM_splitN ?_ ?_ | refine condM_split ?_ ?_ | refine condM_any ?_ ?_ | refine cw (hA) ?_ | refine cw (cf) ?_ | refine cw (c4) ?_ | refine cw (cw1) ?_ | intro _) | (simp [*, hl']))
  all_goals try omega
set_option maxHeartbeats 4000000 in
set_option maxRecDepth 20000 in
theorem ov_time (n : Net) (w : List Int) (x y : Int) (hA : RealCall Try.prog 15 [] (.bool true) true) (cf : RealCall Try.prog 16 [aNet n] (.bool true) true) (hl : ¬ 12 < w.length) (c4 : RealCall Try.prog 25 [aNet n] (.int .i64 0) true) (cw1 : RealCall Try.prog 42 [.int .i64 x, .int .i64 0, .int .i64 y] (.bool true) true) (ct : RealCall Try.prog 22 [.int .i64 y] (.int .i64 2) true) : RealCall Try.prog 8 [aNet n, .sl w.length (ints w), aPair x y] (.bool true) true := by
  unfold aNet cNet at *
  have hl' : ¬ (12 : Int) < (w.length : Int) := by omega
  refine realcall_intro Try.func8 (by kernel_rfl) rfl (Nat.le_of_ble_eq_true (by kernel_rfl)) ?_
  simp only [Try.results8, Try.ntmps8]
  repeat' (first | (with_reducible first | refine awp_seq ?_ | refine awp_blockS ?_ | refine awp_blockC ?_ | refine awp_blockR ?_ | refine awp_skip ?_ | refine awp_ret ?_ | refine awp_exit ?_ | refine awp_region ?_ | refine awp_regionS (id := 8) [0, 1, 2, 3, 4, 5, 6, 7, 8, 9, 10] [11, 12] [[], [], [], [], [], [], [], [], [], [.new 0], []] [[.new 0], []] mixed (by decide +kernel) ?_ | refine awp_regionS (id := 9) [0, 1, 2, 3, 4, 5, 6, 7, 8, 9, 10] [11, 12] [[], [], [], [], [], [], [], [], [], [.new 0], []] [[.new 0], []] mixed (by decide +kernel) ?_ | refine awp_condM ?_ | refine And.intro ?_ ?_ | refine gM_splitN ?_ ?_ | refine gM_split ?_ ?_ | refine condM_splitDN ?_ ?_ | refine condM_splitD ?_ ?_ | refine condM_splitN ?_ ?_ | refine condM_split ?_ ?_ | refine condM_any ?_ ?_ | refine cw (hA) ?_ | refine cw (cf) ?_ | refine cw (c4) ?_ | refine cw (cw1) ?_ | refine cw (ct) ?_ | intro _) | (simp [*, hl']))
  all_goals try omega
set_option maxHeartbeats 4000000 in
set_option maxRecDepth 20000 in
theorem ov_way (n : Net) (w : List Int) (x y : Int) (hA : RealCall Try.prog 15 [] (.bool true) true) (cf : RealCall Try.prog 16 [aNet n] (.bool true) true) (hl : ¬ 12 < w.length) (c4 : RealCall Try.prog 25 [aNet n] (.int .i64 0) true) (cw1 : RealCall Try.prog 42 [.int .i64 x, .int .i64 0, .int .i64 y] (.bool true) true) (ct : RealCall Try.prog 22 [.int .i64 y] (.int .i64 0) true) (s1 s2 : Int) (hs : s2 ≠ 0) (c5 : RealCall Try.prog 37 [aNet n, .sl w.length (ints w)] (.tup [.int .i64 s1, .int .i64 s2]) true) : RealCall Try.prog 8 [aNet n, .sl w.length (ints w), aPair x y] (.bool true) true := by
  unfold aNet cNet at *
  have hl' : ¬ (12 : Int) < (w.length : Int) := by omega
  refine realcall_intro Try.func8 (by kernel_rfl) rfl (Nat.le_of_ble_eq_true (by kernel_rfl)) ?_
  simp only [Try.results8, Try.ntmps8]
  repeat' (first | (with_reducible first | refine awp_seq ?_ | refine awp_blockS ?_ | refine awp_blockC ?_ | refine awp_blockR ?_ | refine awp_skip ?_ | refine awp_ret ?_ | refine awp_exit ?_ | refine awp_region ?_ | refine awp_regionS (id := 8) [0, 1, 2, 3, 4, 5, 6, 7, 8, 9, 10] [11, 12] [[], [], [], [], [], [], [], [], [], [.new 0], []] [[.new 0], []] mixed (by decide +kernel) ?_ | refine awp_regionS (id := 9) [0, 1, 2, 3, 4, 5, 6, 7, 8, 9, 10] [11, 12] [[], [], [], [], [], [], [], [], [], [.new 0], []] [[.new 0], []] mixed (by decide +kernel) ?_ | refine awp_condM ?_ | refine And.intro ?_ ?_ | refine gM_splitN ?_ ?_ | refine gM_split ?_ ?_ | refine condM_splitDN ?_ ?_ | refine condM_splitD ?_ ?_ | refine condM_splitN ?_ ?_ | refine condM_split ?_ ?_ | refine condM_any ?_ ?_ | refine cw (hA) ?_ | refine cw (cf) ?_ | refine cw (c4) ?_ | refine cw (cw1) ?_ | refine cw (ct) ?_ | refine cw (c5) ?_ | intro _) | (simp [*, hl', hs]))
  all_goals try omega
set_option maxHeartbeats 4000000 in
set_option maxRecDepth 20000 in
theorem ov_good (n : Net) (w : List Int) (x y : Int) (hA : RealCall Try.prog 15 [] (.bool true) true) (cf : RealCall Try.prog 16 [aNet n] (.bool true) true) (hl : ¬ 12 < w.length) (c4 : RealCall Try.prog 25 [aNet n] (.int .i64 0) true) (cw1 : RealCall Try.prog 42 [.int .i64 x, .int .i64 0, .int .i64 y] (.bool true) true) (ct : RealCall Try.prog 22 [.int .i64 y] (.int .i64 0) true) (c5 : RealCall Try.prog 37 [aNet n, .sl w.length (ints w)] (.tup [.int .i64 0, .int .i64 0]) true) (v0 v1 u0 u1 : Int) (cc : RealCall Try.prog 18 [aNet n] (aNet n) true) (cv : RealCall Try.prog 33 [.sl w.length (ints w)] (.sl w.length (ints w)) true) (c2 : RealCall Try.prog 43 [aNet n, .sl w.length (ints w), .int .i64 x] (markP (v0, v1, 0)) true) (c3 : RealCall Try.prog 43 [aNet n, .sl w.length (ints w), .int .i64 y] (markP (u0, u1, 0)) true) (g0 : ¬ u0 < v0) (g1 : ¬ u1 < v1) (g2 : ¬ v1 < v0) (g3 : ¬ u1 < u0) (g4 : ¬ v0 < x) : RealCall Try.prog 8 [aNet n, .sl w.length (ints w), aPair x y] (.bool true) true := by
  unfold aNet cNet at *
  have hl' : ¬ (12 : Int) < (w.length : Int) := by omega
  unfold markP at *
  refine realcall_intro Try.func8 (by kernel_rfl) rfl (Nat.le_of_ble_eq_true (by kernel_rfl)) ?_
  simp only [Try.results8, Try.ntmps8]
  repeat' (first | (with_reducible first | refine awp_seq ?_ | refine awp_blockS ?_ | refine awp_blockC ?_ | refine awp_blockR ?_ | refine awp_skip ?_ | refine awp_ret ?_ | refine awp_exit ?_ | refine awp_region ?_ | refine awp_regionS (id := 8) [0, 1, 2, 3, 4, 5, 6, 7, 8, 9, 10] [11, 12] [[], [], [], [], [], [], [], [], [], [.new 0], []] [[.new 0], []] mixed (by decide +kernel) ?_ | refine awp_regionS (id := 9) [0, 1, 2, 3, 4, 5, 6, 7, 8, 9, 10] [11, 12] [[], [], [], [], [], [], [], [], [], [.new 0], []] [[.new 0], []] mixed (by decide +kernel) ?_ | refine awp_condM ?_ | refine And.intro ?_ ?_ | refine gM_splitN ?_ ?_ | refine gM_split ?_ ?_ | refine condM_splitDN ?_ ?_ | refine condM_splitD ?_ ?_ | refine condM_splitN ?_ ?_ | refine condM_split ?_ ?_ | refine condM_any ?_ ?_ | refine cw (hA) ?_ | refine cw (cf) ?_ | refine cw (c4) ?_ | refine cw (cw1) ?_ | refine cw (ct) ?_ | refine cw (c5) ?_ | refine cw (cc) ?_ | refine cw (cv) ?_ | refine cw (c2) ?_ | refine cw (c3) ?_ | intro _) | (simp [*, hl', g0, g1, g2, g3, g4]))
  all_goals try omega
theorem streetOvertakes_c (hA : RealCall Try.prog 15 [] (.bool true) true) (n : Net) (w : List Int) (x y : Int) : RealCall Try.prog 8 [aNet n, .sl w.length (ints w), aPair x y] (.bool true) true := by
  have cf := few_c n
  cases hf : fewB n with
  | false =>
    rw [hf] at cf
    exact ov_few n w x y hA cf
  | true =>
    rw [hf] at cf
    have h := few_in hf
    by_cases hl : 12 < w.length
    · exact ov_long n w x y hA cf hl
    · have c4 := rNetErr_c n h
      by_cases hn : (netS n).2.2 = 0
      · rw [hn] at c4
        have cw1 := rWithin_c x 0 y
        have ct := rTimeErr_c y
        cases hx : winB x 0 y with
        | false =>
          rw [hx] at cw1
          exact ov_ord n w x y hA cf hl c4 cw1
        | true =>
          rw [hx] at cw1
          cases hy : winB y 0 604800 with
          | false =>
            rw [hy] at ct
            exact ov_time n w x y hA cf hl c4 cw1 ct
          | true =>
            rw [hy] at ct
            have c5 := rWayErr_c n h w (by omega)
            by_cases hw : (wayS n w).2.2 = 0
            · have ho : owE n w = 0 := by rw [ow_net hn]; exact hw
              obtain ⟨ok, wo, hl2, e1, e2⟩ := ow_ok h ho
              rw [e2] at c5
              have bx := win_of hx
              have by_ := win_of hy
              have cc := rCopy_c n h
              have cv := copyInts_c w (by omega)
              have c2 := arrivalOf_c n h w (by omega) x
              have c3 := arrivalOf_c n h w (by omega) y
              have wx : winB x 0 604800 = true := by unfold winB; simp; omega
              rw [arr_good ho wx] at c2
              rw [arr_good ho hy] at c3
              have ha : ∀ (late : Bool) k m, k < n.roads.length → 0 ≤ m → 0 ≤ fTime late (nth n.roads k) m := fun late k m hk hm => by
                have := fTime_bd ok hk m late
                unfold fTime; omega
              have m0 := evalW_mono ok (ha false) (time_mono ok false) w x y wo.idx bx.1 bx.2
              have m1 := evalW_mono ok (ha true) (time_mono ok true) w x y wo.idx bx.1 bx.2
              have m2 := evalW_ends ok w x x wo.idx bx.1 (Int.le_refl _)
              have m3 := evalW_ends ok w y y wo.idx by_.1 (Int.le_refl _)
              have m4 := (evalW_bd ok false w x wo.idx).1
              exact ov_good n w x y hA cf hl c4 cw1 ct c5 _ _ _ _ cc cv c2 c3 (by omega) (by omega) (by omega) (by omega) (by omega)
            · exact ov_way n w x y hA cf hl c4 cw1 ct _ _ hw c5
      · exact ov_net n w x y hA cf hl _ hn c4
end Go.Proofs.Ytmedbghkldmlhaa
