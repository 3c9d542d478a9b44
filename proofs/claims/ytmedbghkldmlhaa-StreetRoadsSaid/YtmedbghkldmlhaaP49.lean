/- Contracts of functions for this claim: lemmas alone. -/
import Derived.Test.YtmedbghkldmlhaaP48
set_option linter.unusedSimpArgs false
set_option linter.unusedVariables false
namespace Go.Proofs.Ytmedbghkldmlhaa
open Go Go.Fi

theorem empty_in : NetIn ⟨[], []⟩ := ⟨by decide, by decide, fun k hk => absurd hk (Nat.not_lt_zero _), fun k hk => absurd hk (Nat.not_lt_zero _), fun k hk => absurd hk (Nat.not_lt_zero _)⟩
theorem without_bad (n : Net) (h : NetIn n) (r : Int) (he : wE n r ≠ 0) : RealCall Try.prog 29 [aNet n, .int .i64 r] (.tup [aNet ⟨[], []⟩, .int .i64 (wE n r)]) true := by
  have co := open_c n h
  have cr := roadErr_c n r h.nr
  have cf := first2_c (netS n).2.2 (errUnless (winB r 0 (n.roads.length - 1)) 6)
  unfold wE at *
  generalize (netS n).2.2 = ne at *
  generalize errUnless (winB r 0 (n.roads.length - 1)) 6 = re at *
  generalize firstS [ne, re] = fe at *
  clear h
  unfold aNet cNet at *
  have s0 : strs [] = [] := rfl
  have s1 : cRoads [] = [] := rfl
  refine realcall_intro Try.func29 (by kernel_rfl) rfl (Nat.le_of_ble_eq_true (by kernel_rfl)) ?_
  simp only [Try.results29, Try.ntmps29]
  repeat' (first | (with_reducible first | refine awp_seq ?_ | refine awp_blockS ?_ | refine awp_blockC ?_ | refine awp_blockR ?_ | refine awp_skip ?_ | refine awp_ret ?_ | refine awp_exit ?_ | refine awp_region ?_ | refine awp_condM ?_ | refine And.intro ?_ ?_ | refine gM_splitN ?_ ?_ | refine gM_split ?_ ?_ | refine condM_splitDN ?_ ?_ | refine condM_splitD ?_ ?_ | refine condM_splitN ?_ ?_ | refine condM_split ?_ ?_ | refine condM_any ?_ ?_ | refine cw (co) ?_ | refine cw (cr) ?_ | refine cw (cf) ?_ | intro _) | (simp [*, he, s0, s1]))
  all_goals try omega
/-- what is told of a trip without a road -/
inductive WoR (n : Net) (t : Trip) (r : Nat) : Prop
  | no (x : Tri) (h1 : estS n t = x) (h2 : estS (outN n r) t = (0, 0, 12))
  | yes (a b c d : Int) (h1 : estS n t = (a, b, 0)) (h2 : estS (outN n r) t = (c, d, 0)) (h3 : a ≤ c) (h4 : b ≤ d)
theorem wo_law {n : Net} (h : NetIn n) (r : Nat) {t : Trip} (ho : otE n t = 0) : WoR n t r := by
  obtain ⟨a, b, ok⟩ := trip_ok h ho
  have e1 : (netS n).2.2 = 0 := firstS_nth ho 0 (show (0 : Nat) < 2 by omega)
  have oi := out_in h r
  have e2 := out_net e1 r
  have oko := net_ok oi e2
  have ho2 : otE (outN n r) t = 0 := by
    rw [otE_trip e2]
    rw [otE_trip e1] at ho
    exact ho
  have la := ok.la
  have lb := ok.lb
  have hh := ok.hi
  have o1 := fun late => out_later ok.ok oko la lb ok.lo (by omega : t.at_ ≤ 700000) late
  have b2 := (growS_inv oko (along_time oko true) (from_ := a) la ok.lo (by omega : t.at_ ≤ 700000)).small oko (i := b) lb
  have b1 := (growS_inv oko (along_time oko false) (from_ := a) la ok.lo (by omega : t.at_ ≤ 700000)).small oko (i := b) lb
  have gs := grow_some oko (along_time oko false) (along_time oko true) (time_mono oko true) (a := a) la ok.lo (by omega : t.at_ ≤ 700000) ok.lo (by omega : t.at_ ≤ 700000) (i := b) lb
  have ea : t.frm.toNat = a := by have := ok.fa; omega
  have eb : t.to.toNat = b := by have := ok.fb; omega
  have u1 : estS n t = if nth (growS (fTime false) n a t.at_).l b = -1 then (0, 0, 12) else (nth (growS (fTime false) n a t.at_).l b, nth (growS (fTime true) n a t.at_).l b, 0) := by
    unfold estS; rw [if_neg (by simp [ho]), ea, eb]
  have u2 : estS (outN n r) t = if nth (growS (fTime false) (outN n r) a t.at_).l b = -1 then (0, 0, 12) else (nth (growS (fTime false) (outN n r) a t.at_).l b, nth (growS (fTime true) (outN n r) a t.at_).l b, 0) := by
    unfold estS; rw [if_neg (by simp [ho2]), ea, eb]
  by_cases hc : nth (growS (fTime false) (outN n r) a t.at_).l b = -1
  · rw [if_pos hc] at u2
    exact .no _ rfl u2
  · rw [if_neg hc] at u2
    have q1 := o1 false hc
    have q3 := gs (by omega)
    have q2 := o1 true (by omega)
    rw [if_neg (by omega)] at u1
    exact .yes _ _ _ _ u1 u2 q1.2 q2.2
set_option maxHeartbeats 4000000 in
set_option maxRecDepth 20000 in
theorem ro_bad (n : Net) (r : Int) (t : Trip) (hA : RealCall Try.prog 15 [] (.bool true) true) (cf : RealCall Try.prog 16 [aNet n] (.bool true) true) (cc : RealCall Try.prog 18 [aNet n] (aNet n) true) (ne re : Int)
    (c1 : RealCall Try.prog 25 [aNet n] (.int .i64 ne) true) (c2 : RealCall Try.prog 21 [aNet n, .int .i64 r] (.int .i64 re) true) (we : Int) (hwe : we = if ne = 0 then re else ne) (hw : we ≠ 0)
    (c3 : RealCall Try.prog 29 [aNet n, .int .i64 r] (.tup [aNet ⟨[], []⟩, .int .i64 we]) true) (c4 : RealCall Try.prog 30 [aNet ⟨[], []⟩, aNet ⟨[], []⟩] (.bool true) true) :
    RealCall Try.prog 5 [aNet n, .int .i64 r, .agg (tL t)] (.bool true) true := by
  unfold aNet cNet at *
  have c3 : RealCall Try.prog 29 [.agg [.sl n.places.length (strs n.places), .sl n.roads.length (cRoads n.roads)], .int .i64 r] (.tup [.agg [.sl 0 [], .sl 0 []], .int .i64 we]) true := c3
  have c4 : RealCall Try.prog 30 [.agg [.sl 0 [], .sl 0 []], .agg [.sl 0 [], .sl 0 []]] (.bool true) true := c4
  by_cases h0 : ne = 0
  · rw [if_pos h0] at hwe
    subst h0
    subst hwe
    refine realcall_intro Try.func5 (by kernel_rfl) rfl (Nat.le_of_ble_eq_true (by kernel_rfl)) ?_
    simp only [Try.results5, Try.ntmps5]
    repeat' (first | (with_reducible first | refine awp_seq ?_ | refine awp_blockS ?_ | refine awp_blockC ?_ | refine awp_blockR ?_ | refine awp_skip ?_ | refine awp_ret ?_ | refine awp_exit ?_ | refine awp_region ?_ | refine awp_regionD (id := 11) 10 mixed (by decide +kernel) ?_ | refine awp_regionS (id := 15) [0, 1, 2, 3, 4, 5, 6, 7] [8, 9] [[], [], [], [], [], [], [.new 0], []] [[.new 0], []] mixed (by decide +kernel) ?_ | refine awp_condM ?_ | refine And.intro ?_ ?_ | refine gM_splitN ?_ ?_ | refine gM_split ?_ ?_ | refine condM_splitDN ?_ ?_ | refine condM_splitD ?_ ?_ | refine condM_splitN ?_ ?_ | refine condM_split ?_ ?_ | refine condM_any ?_ ?_ | refine cw (hA) ?_ | refine cw (cf) ?_ | refine cw (cc) ?_ | refine cw (c1) ?_ | refine cw (c2) ?_ | refine cw (c3) ?_ | refine cw (c4) ?_ | intro _) | (simp [*, hw]))
    all_goals try omega
  · rw [if_neg h0] at hwe
    subst hwe
    refine realcall_intro Try.func5 (by kernel_rfl) rfl (Nat.le_of_ble_eq_true (by kernel_rfl)) ?_
    simp only [Try.results5, Try.ntmps5]
    repeat' (first | (with_reducible first | refine awp_seq ?_ | refine awp_blockS ?_ | refine awp_blockC ?_ | refine awp_blockR ?_ | refine awp_skip ?_ | refine awp_ret ?_ | refine awp_exit ?_ | refine awp_region ?_ | refine awp_regionD (id := 11) 10 mixed (by decide +kernel) ?_ | refine awp_regionS (id := 15) [0, 1, 2, 3, 4, 5, 6, 7] [8, 9] [[], [], [], [], [], [], [.new 0], []] [[.new 0], []] mixed (by decide +kernel) ?_ | refine awp_condM ?_ | refine And.intro ?_ ?_ | refine gM_splitN ?_ ?_ | refine gM_split ?_ ?_ | refine condM_splitDN ?_ ?_ | refine condM_splitD ?_ ?_ | refine condM_splitN ?_ ?_ | refine condM_split ?_ ?_ | refine condM_any ?_ ?_ | refine cw (hA) ?_ | refine cw (cf) ?_ | refine cw (cc) ?_ | refine cw (c1) ?_ | refine cw (c2) ?_ | refine cw (c3) ?_ | refine cw (c4) ?_ | intro _) | (simp [*, hw]))
    all_goals try omega
set_option maxHeartbeats 4000000 in
set_option maxRecDepth 20000 in
theorem ro_trip (n m : Net) (r : Int) (t : Trip) (hA : RealCall Try.prog 15 [] (.bool true) true) (cf : RealCall Try.prog 16 [aNet n] (.bool true) true) (cc : RealCall Try.prog 18 [aNet n] (aNet n) true)
    (c1 : RealCall Try.prog 25 [aNet n] (.int .i64 0) true) (c2 : RealCall Try.prog 21 [aNet n, .int .i64 r] (.int .i64 0) true)
    (c3 : RealCall Try.prog 29 [aNet n, .int .i64 r] (.tup [aNet m, .int .i64 0]) true) (c4 : RealCall Try.prog 30 [aNet m, aNet m] (.bool true) true) (c5 : RealCall Try.prog 31 [aNet n, .int .i64 r] (aNet m) false)
    (te : Int) (hte : te ≠ 0) (c6 : RealCall Try.prog 26 [aNet n, .agg (tL t)] (.int .i64 te) true) :
    RealCall Try.prog 5 [aNet n, .int .i64 r, .agg (tL t)] (.bool true) true := by
  unfold aNet cNet at *
  refine realcall_intro Try.func5 (by kernel_rfl) rfl (Nat.le_of_ble_eq_true (by kernel_rfl)) ?_
  simp only [Try.results5, Try.ntmps5]
  repeat' (first | (with_reducible first | refine awp_seq ?_ | refine awp_blockS ?_ | refine awp_blockC ?_ | refine awp_blockR ?_ | refine awp_skip ?_ | refine awp_ret ?_ | refine awp_exit ?_ | refine awp_region ?_ | refine awp_regionD (id := 11) 10 mixed (by decide +kernel) ?_ | refine awp_regionS (id := 15) [0, 1, 2, 3, 4, 5, 6, 7] [8, 9] [[], [], [], [], [], [], [.new 0], []] [[.new 0], []] mixed (by decide +kernel) ?_ | refine awp_condM ?_ | refine And.intro ?_ ?_ | refine gM_splitN ?_ ?_ | refine gM_split ?_ ?_ | refine condM_splitDN ?_ ?_ | refine condM_splitD ?_ ?_ | refine condM_splitN ?_ ?_ | refine condM_split ?_ ?_ | refine condM_any ?_ ?_ | refine cw (hA) ?_ | refine cw (cf) ?_ | refine cw (cc) ?_ | refine cw (c1) ?_ | refine cw (c2) ?_ | refine cw (c3) ?_ | refine cw (c4) ?_ | refine cw (c5) ?_ | refine cw (c6) ?_ | intro _) | (simp [*, hte]))
  all_goals try omega
set_option maxHeartbeats 4000000 in
set_option maxRecDepth 20000 in
theorem ro_no (n m : Net) (r : Int) (t : Trip) (hA : RealCall Try.prog 15 [] (.bool true) true) (cf : RealCall Try.prog 16 [aNet n] (.bool true) true) (cc : RealCall Try.prog 18 [aNet n] (aNet n) true)
    (c1 : RealCall Try.prog 25 [aNet n] (.int .i64 0) true) (c2 : RealCall Try.prog 21 [aNet n, .int .i64 r] (.int .i64 0) true)
    (c3 : RealCall Try.prog 29 [aNet n, .int .i64 r] (.tup [aNet m, .int .i64 0]) true) (c4 : RealCall Try.prog 30 [aNet m, aNet m] (.bool true) true) (c5 : RealCall Try.prog 31 [aNet n, .int .i64 r] (aNet m) false)
    (c6 : RealCall Try.prog 26 [aNet n, .agg (tL t)] (.int .i64 0) true) (x1 x2 x3 : Int) (c7 : RealCall Try.prog 28 [aNet n, .agg (tL t)] (markP (x1, x2, x3)) true) (c8 : RealCall Try.prog 28 [aNet m, .agg (tL t)] (markP (0, 0, 12)) true) :
    RealCall Try.prog 5 [aNet n, .int .i64 r, .agg (tL t)] (.bool true) true := by
  unfold aNet cNet markP at *
  refine realcall_intro Try.func5 (by kernel_rfl) rfl (Nat.le_of_ble_eq_true (by kernel_rfl)) ?_
  simp only [Try.results5, Try.ntmps5]
  repeat' (first | (with_reducible first | refine awp_seq ?_ | refine awp_blockS ?_ | refine awp_blockC ?_ | refine awp_blockR ?_ | refine awp_skip ?_ | refine awp_ret ?_ | refine awp_exit ?_ | refine awp_region ?_ | refine awp_regionD (id := 11) 10 mixed (by decide +kernel) ?_ | refine awp_regionS (id := 15) [0, 1, 2, 3, 4, 5, 6, 7] [8, 9] [[], [], [], [], [], [], [.new 0], []] [[.new 0], []] mixed (by decide +kernel) ?_ | refine awp_condM ?_ | refine And.intro ?_ ?_ | refine gM_splitN ?_ ?_ | refine gM_split ?_ ?_ | refine condM_splitDN ?_ ?_ | refine condM_splitD ?_ ?_ | refine condM_splitN ?_ ?_ | refine condM_split ?_ ?_ | refine condM_any ?_ ?_ | refine cw (hA) ?_ | refine cw (cf) ?_ | refine cw (cc) ?_ | refine cw (c1) ?_ | refine cw (c2) ?_ | refine cw (c3) ?_ | refine cw (c4) ?_ | refine cw (c5) ?_ | refine cw (c6) ?_ | refine cw (c7) ?_ | refine cw (c8) ?_ | intro _) | (simp [*]))
  all_goals try omega
set_option maxHeartbeats 4000000 in
set_option maxRecDepth 20000 in
theorem ro_yes (n m : Net) (r : Int) (t : Trip) (hA : RealCall Try.prog 15 [] (.bool true) true) (cf : RealCall Try.prog 16 [aNet n] (.bool true) true) (cc : RealCall Try.prog 18 [aNet n] (aNet n) true)
    (c1 : RealCall Try.prog 25 [aNet n] (.int .i64 0) true) (c2 : RealCall Try.prog 21 [aNet n, .int .i64 r] (.int .i64 0) true)
    (c3 : RealCall Try.prog 29 [aNet n, .int .i64 r] (.tup [aNet m, .int .i64 0]) true) (c4 : RealCall Try.prog 30 [aNet m, aNet m] (.bool true) true) (c5 : RealCall Try.prog 31 [aNet n, .int .i64 r] (aNet m) false)
    (c6 : RealCall Try.prog 26 [aNet n, .agg (tL t)] (.int .i64 0) true) (a b c d : Int) (h3 : a ≤ c) (h4 : b ≤ d) (c7 : RealCall Try.prog 28 [aNet n, .agg (tL t)] (markP (a, b, 0)) true) (c8 : RealCall Try.prog 28 [aNet m, .agg (tL t)] (markP (c, d, 0)) true) :
    RealCall Try.prog 5 [aNet n, .int .i64 r, .agg (tL t)] (.bool true) true := by
  unfold aNet cNet markP at *
  refine realcall_intro Try.func5 (by kernel_rfl) rfl (Nat.le_of_ble_eq_true (by kernel_rfl)) ?_
  simp only [Try.results5, Try.ntmps5]
  repeat' (first | (with_reducible first | refine awp_seq ?_ | refine awp_blockS ?_ | refine awp_blockC ?_ | refine awp_blockR ?_ | refine awp_skip ?_ | refine awp_ret ?_ | refine awp_exit ?_ | refine awp_region ?_ | refine awp_regionD (id := 11) 10 mixed (by decide +kernel) ?_ | refine awp_regionS (id := 15) [0, 1, 2, 3, 4, 5, 6, 7] [8, 9] [[], [], [], [], [], [], [.new 0], []] [[.new 0], []] mixed (by decide +kernel) ?_ | refine awp_condM ?_ | refine And.intro ?_ ?_ | refine gM_splitN ?_ ?_ | refine gM_split ?_ ?_ | refine condM_splitDN ?_ ?_ | refine condM_splitD ?_ ?_ | refine condM_splitN ?_ ?_ | refine condM_split ?_ ?_ | refine condM_any ?_ ?_ | refine cw (hA) ?_ | refine cw (cf) ?_ | refine cw (cc) ?_ | refine cw (c1) ?_ | refine cw (c2) ?_ | refine cw (c3) ?_ | refine cw (c4) ?_ | refine cw (c5) ?_ | refine cw (c6) ?_ | refine cw (c7) ?_ | refine cw (c8) ?_ | intro _) | (simp [*, h3, h4]))
  all_goals try omega
set_option maxHeartbeats 4000000 in
theorem ro_few (n : Net) (r : Int) (t : Trip) (hA : RealCall Try.prog 15 [] (.bool true) true) (cf : RealCall Try.prog 16 [aNet n] (.bool false) true) : RealCall Try.prog 5 [aNet n, .int .i64 r, .agg (tL t)] (.bool true) true := by
  unfold aNet cNet at *
  refine realcall_intro Try.func5 (by kernel_rfl) rfl (Nat.le_of_ble_eq_true (by kernel_rfl)) ?_
  simp only [Try.results5, Try.ntmps5]
  repeat' (first | (with_reducible first | refine awp_seq ?_ | refine awp_blockS ?_ | refine awp_blockC ?_ | refine awp_blockR ?_ | refine awp_skip ?_ | refine awp_ret ?_ | refine awp_exit ?_ | refine awp_region ?_ | refine awp_regionD (id := 11) 10 mixed (by decide +kernel) ?_ | refine awp_regionS (id := 15) [0, 1, 2, 3, 4, 5, 6, 7] [8, 9] [[], [], [], [], [], [], [.new 0], []] [[.new 0], []] mixed (by decide +kernel) ?_ | refine awp_condM ?_ | refine And.intro ?_ ?_ | refine gM_splitN ?_ ?_ | refine gM_split ?_ ?_ | refine condM_splitDN ?_ ?_ | refine condM_splitD ?_ ?_ | refine condM_splitN ?_ ?_ | refine condM_split ?_ ?_ | refine condM_any ?_ ?_ | refine cw (hA) ?_ | refine cw (cf) ?_ | intro _) | (simp [*]))
theorem streetRoads_c (hA : RealCall Try.prog 15 [] (.bool true) true) (n : Net) (r : Int) (t : Trip) : RealCall Try.prog 5 [aNet n, .int .i64 r, .agg (tL t)] (.bool true) true := by
  have cf := few_c n
  cases hf : fewB n with
  | false => rw [hf] at cf; exact ro_few n r t hA cf
  | true =>
    rw [hf] at cf
    have h := few_in hf
    have hnp := h.np
    have cc := rCopy_c n h
    have c1 := rNetErr_c n h
    have c2 := rRoadErr_c n r h.nr
    have c6 : RealCall Try.prog 26 [aNet n, .agg (tL t)] (.int .i64 (tripE n t)) true := rTripErr_c n t (by omega)
    by_cases hw : wE n r = 0
    · have e1 : (netS n).2.2 = 0 := firstS_nth hw 0 (show (0 : Nat) < 2 by omega)
      have e2 : errUnless (winB r 0 (n.roads.length - 1)) 6 = 0 := firstS_nth hw 1 (show (1 : Nat) < 2 by omega)
      have w := win_of (unless_zero (by decide) e2)
      rw [e1] at c1
      rw [e2] at c2
      obtain ⟨k, rfl⟩ : ∃ k : Nat, r = k := ⟨r.toNat, by omega⟩
      have hk : k < n.roads.length := by omega
      have c3 := without_ok n h k hw
      have c4 := same_c (outN n k) (out_in h k)
      have c5 := rWithout_c n h k hk
      by_cases ht : tripE n t = 0
      · rw [ht] at c6
        have ho : otE n t = 0 := by rw [otE_trip e1]; exact ht
        have c7 := estimate_c n h t
        have c8 := estimate_c (outN n k) (out_in h k) t
        rcases wo_law h k ho with ⟨x, h1, h2⟩ | ⟨a, b, c, d, h1, h2, h3, h4⟩
        · rw [h1] at c7
          rw [h2] at c8
          obtain ⟨x1, x2, x3⟩ := x
          exact ro_no n _ k t hA cf cc c1 c2 c3 c4 c5 c6 x1 x2 x3 c7 c8
        · rw [h1] at c7
          rw [h2] at c8
          exact ro_yes n _ k t hA cf cc c1 c2 c3 c4 c5 c6 a b c d h3 h4 c7 c8
      · exact ro_trip n _ k t hA cf cc c1 c2 c3 c4 c5 _ ht c6
    · have c3 := without_bad n h r hw
      refine ro_bad n r t hA cf cc _ _ c1 c2 (wE n r) ?_ hw c3 (same_c ⟨[], []⟩ empty_in)
      unfold wE
      simp only [firstS]
      split
      · split
        · rename_i h; rw [h]
        · rfl
      · rfl
end Go.Proofs.Ytmedbghkldmlhaa
