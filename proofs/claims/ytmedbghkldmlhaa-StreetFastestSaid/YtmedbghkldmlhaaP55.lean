/- Contracts of functions for this claim: lemmas alone. -/
import Derived.Test.YtmedbghkldmlhaaP40
set_option linter.unusedSimpArgs false
set_option linter.unusedVariables false
namespace Go.Proofs.Ytmedbghkldmlhaa
open Go Go.Fi

theorem fast_bad (n : Net) (h : NetIn n) (t : Trip) (late : Bool) (he : otE n t ≠ 0) : RealCall Try.prog 48 [aNet n, .agg (tL t), .bool late] (.tup [.sl 0 [], .int .i64 (otE n t)]) true := by
  have co := openTrip_c n h t
  generalize otE n t = e at *
  clear h
  unfold aNet cNet at *
  refine realcall_intro Try.func48 (by kernel_rfl) rfl (Nat.le_of_ble_eq_true (by kernel_rfl)) ?_
  simp only [Try.results48, Try.ntmps48]
  repeat' (first | (with_reducible first | refine awp_seq ?_ | refine awp_blockS ?_ | refine awp_blockC ?_ | refine awp_blockR ?_ | refine awp_skip ?_ | refine awp_ret ?_ | refine awp_exit ?_ | refine awp_region ?_ | refine awp_condM ?_ | refine And.intro ?_ ?_ | refine gM_splitN ?_ ?_ | refine gM_split ?_ ?_ | refine condM_splitDN ?_ ?_ | refine condM_splitD ?_ ?_ | refine condM_splitN ?_ ?_ | refine condM_split ?_ ?_ | refine condM_any ?_ ?_ | refine cw (co) ?_ | intro _) | (simp [*, he]))
theorem fast_none (n : Net) (h : NetIn n) (t : Trip) (a b : Nat) (ok : TripOk n t a b) (late : Bool) (he : otE n t = 0) (hn : nth (growS (fTime late) n a t.at_).l b = -1) : RealCall Try.prog 48 [aNet n, .agg (tL t), .bool late] (.tup [.sl 0 [], .int .i64 12]) true := by
  have co := openTrip_c n h t
  rw [he] at co
  have hh := ok.hi
  have c0 : RealCall Try.prog 93 [aNet n, .int .i64 a, .int .i64 t.at_, .fn (endF late) []] (treeP n (growS (fTime late) n a t.at_)) true := arrivals_c n ok.ok a ok.la t.at_ ok.lo (by omega) late
  have l0 := (growS_inv ok.ok (along_time ok.ok late) ok.la ok.lo (by omega)).ll
  have hb := ok.lb
  obtain ⟨t1, t2, t3⟩ := t
  obtain rfl : t1 = a := ok.fa
  obtain rfl : t2 = b := ok.fb
  dsimp only at *
  generalize growS (fTime late) n a t3 = s0 at *
  clear ok h he
  unfold treeP at c0
  unfold aNet cNet at *
  cases late with
  | false =>
    have c0 : RealCall Try.prog 93 [.agg [.sl n.places.length (strs n.places), .sl n.roads.length (cRoads n.roads)], .int .i64 a, .int .i64 t3, .fn 84 []] (.agg [.sl n.places.length (ints s0.l), .sl n.places.length (ints s0.b)]) true := c0
    refine realcall_intro Try.func48 (by kernel_rfl) rfl (Nat.le_of_ble_eq_true (by kernel_rfl)) ?_
    simp only [Try.results48, Try.ntmps48]
    repeat' (first | (with_reducible first | refine awp_seq ?_ | refine awp_blockS ?_ | refine awp_blockC ?_ | refine awp_blockR ?_ | refine awp_skip ?_ | refine awp_ret ?_ | refine awp_exit ?_ | refine awp_region ?_ | refine awp_condM ?_ | refine And.intro ?_ ?_ | refine gM_splitN ?_ ?_ | refine gM_split ?_ ?_ | refine condM_splitDN ?_ ?_ | refine condM_splitD ?_ ?_ | refine condM_splitN ?_ ?_ | refine condM_split ?_ ?_ | refine condM_any ?_ ?_ | refine cw (co) ?_ | refine cw (c0) ?_ | intro _) | (simp [*, hb, l0, hn]))
    all_goals try omega
  | true =>
    have c0 : RealCall Try.prog 93 [.agg [.sl n.places.length (strs n.places), .sl n.roads.length (cRoads n.roads)], .int .i64 a, .int .i64 t3, .fn 85 []] (.agg [.sl n.places.length (ints s0.l), .sl n.places.length (ints s0.b)]) true := c0
    refine realcall_intro Try.func48 (by kernel_rfl) rfl (Nat.le_of_ble_eq_true (by kernel_rfl)) ?_
    simp only [Try.results48, Try.ntmps48]
    repeat' (first | (with_reducible first | refine awp_seq ?_ | refine awp_blockS ?_ | refine awp_blockC ?_ | refine awp_blockR ?_ | refine awp_skip ?_ | refine awp_ret ?_ | refine awp_exit ?_ | refine awp_region ?_ | refine awp_condM ?_ | refine And.intro ?_ ?_ | refine gM_splitN ?_ ?_ | refine gM_split ?_ ?_ | refine condM_splitDN ?_ ?_ | refine condM_splitD ?_ ?_ | refine condM_splitN ?_ ?_ | refine condM_split ?_ ?_ | refine condM_any ?_ ?_ | refine cw (co) ?_ | refine cw (c0) ?_ | intro _) | (simp [*, hb, l0, hn]))
    all_goals try omega
theorem fast_ok (n : Net) (h : NetIn n) (t : Trip) (a b : Nat) (ok : TripOk n t a b) (late : Bool) (he : otE n t = 0) (hn : nth (growS (fTime late) n a t.at_).l b ≠ -1) (m : Nat) (hm : m < 100000) (R : List Int) (hR : backF n (growS (fTime late) n a t.at_).b m b = some R) :
    RealCall Try.prog 48 [aNet n, .agg (tL t), .bool late] (.tup [.sl R.length (ints R.reverse), .int .i64 0]) true := by
  have co := openTrip_c n h t
  rw [he] at co
  have hh := ok.hi
  have hi := growS_inv ok.ok (along_time ok.ok late) ok.la ok.lo (by omega : t.at_ ≤ 700000)
  have c0 : RealCall Try.prog 93 [aNet n, .int .i64 a, .int .i64 t.at_, .fn (endF late) []] (treeP n (growS (fTime late) n a t.at_)) true := arrivals_c n ok.ok a ok.la t.at_ ok.lo (by omega) late
  have cy := way_c n ok.ok _ hi b ok.lb m hm R hR
  have l0 := hi.ll
  have hb := ok.lb
  obtain ⟨t1, t2, t3⟩ := t
  obtain rfl : t1 = a := ok.fa
  obtain rfl : t2 = b := ok.fb
  dsimp only at *
  generalize growS (fTime late) n a t3 = s0 at *
  clear ok h he hi hR
  unfold treeP at c0 cy
  unfold aNet cNet at *
  cases late with
  | false =>
    have c0 : RealCall Try.prog 93 [.agg [.sl n.places.length (strs n.places), .sl n.roads.length (cRoads n.roads)], .int .i64 a, .int .i64 t3, .fn 84 []] (.agg [.sl n.places.length (ints s0.l), .sl n.places.length (ints s0.b)]) true := c0
    refine realcall_intro Try.func48 (by kernel_rfl) rfl (Nat.le_of_ble_eq_true (by kernel_rfl)) ?_
    simp only [Try.results48, Try.ntmps48]
    repeat' (first | (with_reducible first | refine awp_seq ?_ | refine awp_blockS ?_ | refine awp_blockC ?_ | refine awp_blockR ?_ | refine awp_skip ?_ | refine awp_ret ?_ | refine awp_exit ?_ | refine awp_region ?_ | refine awp_condM ?_ | refine And.intro ?_ ?_ | refine gM_splitN ?_ ?_ | refine gM_split ?_ ?_ | refine condM_splitDN ?_ ?_ | refine condM_splitD ?_ ?_ | refine condM_splitN ?_ ?_ | refine condM_split ?_ ?_ | refine condM_any ?_ ?_ | refine cw (co) ?_ | refine cw (c0) ?_ | refine cw (cy) ?_ | intro _) | (simp [*, hb, l0, hn]))
    all_goals try omega
  | true =>
    have c0 : RealCall Try.prog 93 [.agg [.sl n.places.length (strs n.places), .sl n.roads.length (cRoads n.roads)], .int .i64 a, .int .i64 t3, .fn 85 []] (.agg [.sl n.places.length (ints s0.l), .sl n.places.length (ints s0.b)]) true := c0
    refine realcall_intro Try.func48 (by kernel_rfl) rfl (Nat.le_of_ble_eq_true (by kernel_rfl)) ?_
    simp only [Try.results48, Try.ntmps48]
    repeat' (first | (with_reducible first | refine awp_seq ?_ | refine awp_blockS ?_ | refine awp_blockC ?_ | refine awp_blockR ?_ | refine awp_skip ?_ | refine awp_ret ?_ | refine awp_exit ?_ | refine awp_region ?_ | refine awp_condM ?_ | refine And.intro ?_ ?_ | refine gM_splitN ?_ ?_ | refine gM_split ?_ ?_ | refine condM_splitDN ?_ ?_ | refine condM_splitD ?_ ?_ | refine condM_splitN ?_ ?_ | refine condM_split ?_ ?_ | refine condM_any ?_ ?_ | refine cw (co) ?_ | refine cw (c0) ?_ | refine cw (cy) ?_ | intro _) | (simp [*, hb, l0, hn]))
    all_goals try omega
def mx (x : Int) : Int := if 0 < x then x else 0
theorem detour_bad (n : Net) (h : NetIn n) (t : Trip) (w : List Int) (he : otE n t ≠ 0) : RealCall Try.prog 49 [aNet n, .agg (tL t), .sl w.length (ints w)] (markP (0, 0, otE n t)) true := by
  have co := openTrip_c n h t
  generalize otE n t = e at *
  clear h
  unfold aNet cNet markP at *
  refine realcall_intro Try.func49 (by kernel_rfl) rfl (Nat.le_of_ble_eq_true (by kernel_rfl)) ?_
  simp only [Try.results49, Try.ntmps49]
  repeat' (first | (with_reducible first | refine awp_seq ?_ | refine awp_blockS ?_ | refine awp_blockC ?_ | refine awp_blockR ?_ | refine awp_skip ?_ | refine awp_ret ?_ | refine awp_exit ?_ | refine awp_region ?_ | refine awp_regionD (id := 7) 6 mixed (by decide +kernel) ?_ | refine awp_regionD (id := 9) 21 mixed (by decide +kernel) ?_ | refine awp_regionD (id := 12) 18 mixed (by decide +kernel) ?_ | refine awp_regionD (id := 13) 18 mixed (by decide +kernel) ?_ | refine awp_condM ?_ | refine And.intro ?_ ?_ | refine gM_splitN ?_ ?_ | refine gM_split ?_ ?_ | refine condM_splitDN ?_ ?_ | refine condM_splitD ?_ ?_ | refine condM_splitN ?_ ?_ | refine condM_split ?_ ?_ | refine condM_any ?_ ?_ | refine cw (co) ?_ | intro _) | (simp [*, he]))
theorem detour_way (n : Net) (h : NetIn n) (t : Trip) (w : List Int) (hl : w.length < 1000) (he : otE n t = 0) (hw : (wayS n w).2.2 ≠ 0) : RealCall Try.prog 49 [aNet n, .agg (tL t), .sl w.length (ints w)] (markP (0, 0, (wayS n w).2.2)) true := by
  have co := openTrip_c n h t
  rw [he] at co
  have c1 := wayErr_c n h w hl
  clear h he
  generalize wayS n w = S at *
  obtain ⟨s1, s2, s3⟩ := S
  dsimp only at *
  unfold aNet cNet markP at *
  refine realcall_intro Try.func49 (by kernel_rfl) rfl (Nat.le_of_ble_eq_true (by kernel_rfl)) ?_
  simp only [Try.results49, Try.ntmps49]
  repeat' (first | (with_reducible first | refine awp_seq ?_ | refine awp_blockS ?_ | refine awp_blockC ?_ | refine awp_blockR ?_ | refine awp_skip ?_ | refine awp_ret ?_ | refine awp_exit ?_ | refine awp_region ?_ | refine awp_regionD (id := 7) 6 mixed (by decide +kernel) ?_ | refine awp_regionD (id := 9) 21 mixed (by decide +kernel) ?_ | refine awp_regionD (id := 12) 18 mixed (by decide +kernel) ?_ | refine awp_regionD (id := 13) 18 mixed (by decide +kernel) ?_ | refine awp_condM ?_ | refine And.intro ?_ ?_ | refine gM_splitN ?_ ?_ | refine gM_split ?_ ?_ | refine condM_splitDN ?_ ?_ | refine condM_splitD ?_ ?_ | refine condM_splitN ?_ ?_ | refine condM_split ?_ ?_ | refine condM_any ?_ ?_ | refine cw (co) ?_ | refine cw (c1) ?_ | intro _) | (simp [*, hw]))
set_option maxHeartbeats 4000000 in
set_option maxRecDepth 20000 in
theorem detour_clash (n : Net) (h : NetIn n) (t : Trip) (w : List Int) (he : otE n t = 0) (hw : (wayS n w).2.2 = 0) (hj : joinsB n w t.frm t.to = false) : RealCall Try.prog 49 [aNet n, .agg (tL t), .sl w.length (ints w)] (markP (0, 0, 13)) true := by
  have hl := way_len hw
  have wo := way_ok hw
  have co := openTrip_c n h t
  rw [he] at co
  have c1 := wayErr_c n h w (by omega)
  rw [way_zero hw] at c1
  have hnr := h.nr
  unfold joinsB at hj
  clear h he hw
  by_cases h0 : w.length = 0
  · rw [if_pos h0] at hj
    have hj := of_decide_eq_false hj
    have h0' : ¬ 0 < w.length := by omega
    have h0i : ¬ (0 : Int) < (w.length : Int) := by omega
    clear wo h0
    unfold aNet cNet markP at *
    refine realcall_intro Try.func49 (by kernel_rfl) rfl (Nat.le_of_ble_eq_true (by kernel_rfl)) ?_
    simp only [Try.results49, Try.ntmps49]
    repeat' (first | (with_reducible first | refine awp_seq ?_ | refine awp_blockS ?_ | refine awp_blockC ?_ | refine awp_blockR ?_ | refine awp_skip ?_ | refine awp_ret ?_ | refine awp_exit ?_ | refine awp_region ?_ | refine awp_regionD (id := 7) 6 mixed (by decide +kernel) ?_ | refine awp_regionD (id := 9) 21 mixed (by decide +kernel) ?_ | refine awp_regionD (id := 12) 18 mixed (by decide +kernel) ?_ | refine awp_regionD (id := 13) 18 mixed (by decide +kernel) ?_ | refine awp_condM ?_ | refine And.intro ?_ ?_ | refine gM_splitN ?_ ?_ | refine gM_split ?_ ?_ | refine condM_splitDN ?_ ?_ | refine condM_splitD ?_ ?_ | refine condM_splitN ?_ ?_ | refine condM_split ?_ ?_ | refine condM_any ?_ ?_ | refine cw (co) ?_ | refine cw (c1) ?_ | intro _) | (simp [*, h0i, h0', hj]))
    all_goals try omega
  · rw [if_neg h0] at hj
    have x0 := wo.idx 0 (by omega)
    have x1 := wo.idx (w.length - 1) (by omega)
    have p0 : 0 < w.length := by omega
    have p0i : (0 : Int) < (w.length : Int) := by omega
    have q0 : (nth w 0).toNat < n.roads.length := by omega
    have q1 : (nth w (w.length - 1)).toNat < n.roads.length := by omega
    have q2 : ((w.length : Int) - 1).toNat = w.length - 1 := by omega
    have q3 : w.length - 1 < w.length := by omega
    clear wo
    by_cases ha : (nth n.roads (nth w 0).toNat).frm = t.frm
    · rw [decide_eq_true ha, Bool.true_and] at hj
      have hb := of_decide_eq_false hj
      clear hj
      unfold aNet cNet markP at *
      refine realcall_intro Try.func49 (by kernel_rfl) rfl (Nat.le_of_ble_eq_true (by kernel_rfl)) ?_
      simp only [Try.results49, Try.ntmps49]
      repeat' (first | (with_reducible first | refine awp_seq ?_ | refine awp_blockS ?_ | refine awp_blockC ?_ | refine awp_blockR ?_ | refine awp_skip ?_ | refine awp_ret ?_ | refine awp_exit ?_ | refine awp_region ?_ | refine awp_regionD (id := 7) 6 mixed (by decide +kernel) ?_ | refine awp_regionD (id := 9) 21 mixed (by decide +kernel) ?_ | refine awp_regionD (id := 12) 18 mixed (by decide +kernel) ?_ | refine awp_regionD (id := 13) 18 mixed (by decide +kernel) ?_ | refine awp_condM ?_ | refine And.intro ?_ ?_ | refine gM_splitN ?_ ?_ | refine gM_split ?_ ?_ | refine condM_splitDN ?_ ?_ | refine condM_splitD ?_ ?_ | refine condM_splitN ?_ ?_ | refine condM_split ?_ ?_ | refine condM_any ?_ ?_ | refine cw (co) ?_ | refine cw (c1) ?_ | intro _) | (simp [*, q0, q1, q2, q3, p0, p0i, ha, hb]))
      all_goals first | exact inI64 (by omega) (by omega) | omega | skip
    · clear hj
      unfold aNet cNet markP at *
      refine realcall_intro Try.func49 (by kernel_rfl) rfl (Nat.le_of_ble_eq_true (by kernel_rfl)) ?_
      simp only [Try.results49, Try.ntmps49]
      repeat' (first | (with_reducible first | refine awp_seq ?_ | refine awp_blockS ?_ | refine awp_blockC ?_ | refine awp_blockR ?_ | refine awp_skip ?_ | refine awp_ret ?_ | refine awp_exit ?_ | refine awp_region ?_ | refine awp_regionD (id := 7) 6 mixed (by decide +kernel) ?_ | refine awp_regionD (id := 9) 21 mixed (by decide +kernel) ?_ | refine awp_regionD (id := 12) 18 mixed (by decide +kernel) ?_ | refine awp_regionD (id := 13) 18 mixed (by decide +kernel) ?_ | refine awp_condM ?_ | refine And.intro ?_ ?_ | refine gM_splitN ?_ ?_ | refine gM_split ?_ ?_ | refine condM_splitDN ?_ ?_ | refine condM_splitD ?_ ?_ | refine condM_splitN ?_ ?_ | refine condM_split ?_ ?_ | refine condM_any ?_ ?_ | refine cw (co) ?_ | refine cw (c1) ?_ | intro _) | (simp [*, q0, q1, q2, q3, p0, p0i, ha]))
      all_goals first | exact inI64 (by omega) (by omega) | omega | skip
set_option maxHeartbeats 4000000 in
set_option maxRecDepth 20000 in
theorem detour_ok (n : Net) (h : NetIn n) (t : Trip) (a b : Nat) (ok : TripOk n t a b) (w : List Int) (he : otE n t = 0) (hw : (wayS n w).2.2 = 0) (hj : joinsB n w t.frm t.to = true) :
    RealCall Try.prog 49 [aNet n, .agg (tL t), .sl w.length (ints w)] (markP (mx (evalW n (fTime false) w t.at_ - nth (growS (fTime true) n a t.at_).l b), mx (evalW n (fTime true) w t.at_ - nth (growS (fTime false) n a t.at_).l b), 0)) true := by
  have hl := way_len hw
  have wo := way_ok hw
  have co := openTrip_c n h t
  rw [he] at co
  have c1 := wayErr_c n h w (by omega)
  rw [way_zero hw] at c1
  have hh := ok.hi
  have hlo := ok.lo
  have c2 : RealCall Try.prog 109 [aNet n, .sl w.length (ints w), .int .i64 t.at_, .fn 84 []] (.int .i64 (evalW n (fTime false) w t.at_)) true := arrival_c n ok.ok w wo hl t.at_ ok.lo (by omega) false
  have c3 : RealCall Try.prog 109 [aNet n, .sl w.length (ints w), .int .i64 t.at_, .fn 85 []] (.int .i64 (evalW n (fTime true) w t.at_)) true := arrival_c n ok.ok w wo hl t.at_ ok.lo (by omega) true
  have c4 : RealCall Try.prog 93 [aNet n, .int .i64 a, .int .i64 t.at_, .fn 84 []] (treeP n (growS (fTime false) n a t.at_)) true := arrivals_c n ok.ok a ok.la t.at_ ok.lo (by omega) false
  have c5 : RealCall Try.prog 93 [aNet n, .int .i64 a, .int .i64 t.at_, .fn 85 []] (treeP n (growS (fTime true) n a t.at_)) true := arrivals_c n ok.ok a ok.la t.at_ ok.lo (by omega) true
  have i0 := growS_inv ok.ok (along_time ok.ok false) ok.la ok.lo (by omega : t.at_ ≤ 700000)
  have i1 := growS_inv ok.ok (along_time ok.ok true) ok.la ok.lo (by omega : t.at_ ≤ 700000)
  have l0 := i0.ll
  have l1 := i1.ll
  have b0 := i0.small ok.ok ok.lb
  have b1 := i1.small ok.ok ok.lb
  have e0 := evalW_bd ok.ok false w t.at_ wo.idx
  have e1 := evalW_bd ok.ok true w t.at_ wo.idx
  have hb := ok.lb
  have hnr := h.nr
  have hji := hj
  unfold joinsB at hji
  obtain ⟨t1, t2, t3⟩ := t
  obtain rfl : t1 = a := ok.fa
  obtain rfl : t2 = b := ok.fb
  dsimp only at *
  generalize evalW n (fTime false) w t3 = A0 at *
  generalize evalW n (fTime true) w t3 = A1 at *
  generalize growS (fTime false) n a t3 = s0 at *
  generalize growS (fTime true) n a t3 = s1 at *
  clear h he hw ok i0 i1 hj
  unfold treeP at c4 c5
  by_cases h0 : w.length = 0
  · rw [if_pos h0] at hji
    have hj := of_decide_eq_true hji
    have h0' : ¬ 0 < w.length := by omega
    have h0i : ¬ (0 : Int) < (w.length : Int) := by omega
    obtain rfl : a = b := by omega
    clear wo hji hj h0
    unfold aNet cNet markP mx at *
    refine realcall_intro Try.func49 (by kernel_rfl) rfl (Nat.le_of_ble_eq_true (by kernel_rfl)) ?_
    simp only [Try.results49, Try.ntmps49]
    repeat' (first | (with_reducible first | refine awp_seq ?_ | refine awp_blockS ?_ | refine awp_blockC ?_ | refine awp_blockR ?_ | refine awp_skip ?_ | refine awp_ret ?_ | refine awp_exit ?_ | refine awp_region ?_ | refine awp_regionD (id := 7) 6 mixed (by decide +kernel) ?_ | refine awp_regionD (id := 9) 21 mixed (by decide +kernel) ?_ | refine awp_regionD (id := 12) 18 mixed (by decide +kernel) ?_ | refine awp_regionD (id := 13) 18 mixed (by decide +kernel) ?_ | refine awp_condM ?_ | refine And.intro ?_ ?_ | refine gM_splitN ?_ ?_ | refine gM_split ?_ ?_ | refine condM_splitDN ?_ ?_ | refine condM_splitD ?_ ?_ | refine condM_splitN ?_ ?_ | refine condM_split ?_ ?_ | refine condM_any ?_ ?_ | refine cw (co) ?_ | refine cw (c1) ?_ | refine cw (c2) ?_ | refine cw (c3) ?_ | refine cw (c4) ?_ | refine cw (c5) ?_ | intro _) | (simp [*, h0i, h0', hb, l0, l1]))
    all_goals first | exact inI64 (by omega) (by omega) | omega | skip
  · rw [if_neg h0] at hji
    have x0 := wo.idx 0 (by omega)
    have x1 := wo.idx (w.length - 1) (by omega)
    have p0 : 0 < w.length := by omega
    have p0i : (0 : Int) < (w.length : Int) := by omega
    have q0 : (nth w 0).toNat < n.roads.length := by omega
    have q1 : (nth w (w.length - 1)).toNat < n.roads.length := by omega
    have q2 : ((w.length : Int) - 1).toNat = w.length - 1 := by omega
    have q3 : w.length - 1 < w.length := by omega
    simp only [Bool.and_eq_true, decide_eq_true_eq] at hji
    obtain ⟨ha, hb2⟩ := hji
    clear wo
    unfold aNet cNet markP mx at *
    refine realcall_intro Try.func49 (by kernel_rfl) rfl (Nat.le_of_ble_eq_true (by kernel_rfl)) ?_
    simp only [Try.results49, Try.ntmps49]
    repeat' (first | (with_reducible first | refine awp_seq ?_ | refine awp_blockS ?_ | refine awp_blockC ?_ | refine awp_blockR ?_ | refine awp_skip ?_ | refine awp_ret ?_ | refine awp_exit ?_ | refine awp_region ?_ | refine awp_regionD (id := 7) 6 mixed (by decide +kernel) ?_ | refine awp_regionD (id := 9) 21 mixed (by decide +kernel) ?_ | refine awp_regionD (id := 12) 18 mixed (by decide +kernel) ?_ | refine awp_regionD (id := 13) 18 mixed (by decide +kernel) ?_ | refine awp_condM ?_ | refine And.intro ?_ ?_ | refine gM_splitN ?_ ?_ | refine gM_split ?_ ?_ | refine condM_splitDN ?_ ?_ | refine condM_splitD ?_ ?_ | refine condM_splitN ?_ ?_ | refine condM_split ?_ ?_ | refine condM_any ?_ ?_ | refine cw (co) ?_ | refine cw (c1) ?_ | refine cw (c2) ?_ | refine cw (c3) ?_ | refine cw (c4) ?_ | refine cw (c5) ?_ | intro _) | (simp [*, q0, q1, q2, q3, p0, p0i, ha, hb2, hb, l0, l1]))
    all_goals first | exact inI64 (by omega) (by omega) | omega | skip
theorem rDetour_clash (n : Net) (hnr : n.roads.length < 1000) (t : Trip) (w : List Int) (hl : w.length < 1000) (wo : WayOk n w) (hj : joinsB n w t.frm t.to = false) : RealCall Try.prog 50 [aNet n, .agg (tL t), .sl w.length (ints w)] (markP (0, 0, 13)) true := by
  have c1 := rJoins_c n hnr w wo hl t.frm t.to
  rw [hj] at c1
  clear wo hj
  unfold aNet cNet markP at *
  refine realcall_intro Try.func50 (by kernel_rfl) rfl (Nat.le_of_ble_eq_true (by kernel_rfl)) ?_
  simp only [Try.results50, Try.ntmps50]
  repeat' (first | (with_reducible first | refine awp_seq ?_ | refine awp_blockS ?_ | refine awp_blockC ?_ | refine awp_blockR ?_ | refine awp_skip ?_ | refine awp_ret ?_ | refine awp_exit ?_ | refine awp_region ?_ | refine awp_condM ?_ | refine And.intro ?_ ?_ | refine gM_splitN ?_ ?_ | refine gM_split ?_ ?_ | refine condM_splitDN ?_ ?_ | refine condM_splitD ?_ ?_ | refine condM_splitN ?_ ?_ | refine condM_split ?_ ?_ | refine condM_any ?_ ?_ | refine cw (c1) ?_ | intro _) | (simp [*]))
set_option maxHeartbeats 4000000 in
theorem rDetour_ok (n : Net) (t : Trip) (a b : Nat) (ok : TripOk n t a b) (w : List Int) (hl : w.length ≤ 200) (wo : WayOk n w) (hj : joinsB n w t.frm t.to = true) :
    RealCall Try.prog 50 [aNet n, .agg (tL t), .sl w.length (ints w)] (markP (mx (evalW n (fTime false) w t.at_ - nth (growS (fTime true) n a t.at_).l b), mx (evalW n (fTime true) w t.at_ - nth (growS (fTime false) n a t.at_).l b), 0)) true := by
  have hnr := ok.ok.nr
  have c1 := rJoins_c n (by omega) w wo (by omega) t.frm t.to
  rw [hj] at c1
  have hh := ok.hi
  have hlo := ok.lo
  have c2 := rEstimate_c n ok.ok a b ok.la ok.lb t.at_ ok.lo (by omega)
  have c3 := rArrivalOf_c n ok.ok w wo hl t.at_ ok.lo (by omega)
  have b0 := (growS_inv ok.ok (along_time ok.ok false) ok.la ok.lo (by omega : t.at_ ≤ 700000)).small ok.ok ok.lb
  have b1 := (growS_inv ok.ok (along_time ok.ok true) ok.la ok.lo (by omega : t.at_ ≤ 700000)).small ok.ok ok.lb
  have e0 := evalW_bd ok.ok false w t.at_ wo.idx
  have e1 := evalW_bd ok.ok true w t.at_ wo.idx
  obtain ⟨t1, t2, t3⟩ := t
  obtain rfl : t1 = a := ok.fa
  obtain rfl : t2 = b := ok.fb
  dsimp only at *
  generalize evalW n (fTime false) w t3 = A0 at *
  generalize evalW n (fTime true) w t3 = A1 at *
  generalize nth (growS (fTime false) n a t3).l b = L0 at *
  generalize nth (growS (fTime true) n a t3).l b = L1 at *
  clear ok wo hj
  unfold aNet cNet markP mx at *
  refine realcall_intro Try.func50 (by kernel_rfl) rfl (Nat.le_of_ble_eq_true (by kernel_rfl)) ?_
  simp only [Try.results50, Try.ntmps50]
  repeat' (first | (with_reducible first | refine awp_seq ?_ | refine awp_blockS ?_ | refine awp_blockC ?_ | refine awp_blockR ?_ | refine awp_skip ?_ | refine awp_ret ?_ | refine awp_exit ?_ | refine awp_region ?_ | refine awp_condM ?_ | refine And.intro ?_ ?_ | refine gM_splitN ?_ ?_ | refine gM_split ?_ ?_ | refine condM_splitDN ?_ ?_ | refine condM_splitD ?_ ?_ | refine condM_splitN ?_ ?_ | refine condM_split ?_ ?_ | refine condM_any ?_ ?_ | refine cw (c1) ?_ | refine cw (c2) ?_ | refine cw (c3) ?_ | intro _) | (simp [*]))
  all_goals first | exact inI64 (by omega) (by omega) | omega | skip
end Go.Proofs.Ytmedbghkldmlhaa
