/- Contracts of functions for this claim: lemmas alone. -/
import Derived.Test.YtgoemokfpfnlkaaP40
set_option linter.unusedSimpArgs false
set_option linter.unusedVariables false
namespace Go.Proofs.Ytgoemokfpfnlkaa
open Go Go.Fi

theorem fast_bad (n : Net) (h : NetIn n) (t : Trip) (late : Bool) (he : otE n t ≠ 0) : RealCall Try.prog 14 [aNet n, .agg (tL t), .bool late] (.tup [.sl 0 [], .int .i64 (otE n t)]) true := by
  have co := openTrip_c n h t
  generalize otE n t = e at *
  clear h
  unfold aNet cNet at *
  refine realcall_intro Try.func14 (by kernel_rfl) rfl (Nat.le_of_ble_eq_true (by kernel_rfl)) ?_
  simp only [Try.results14, Try.ntmps14]
  repeat' (first | (with_reducible first | refine awp_seq ?_ | refine awp_blockS ?_ | refine awp_blockC ?_ | refine awp_blockR ?_ | refine awp_skip ?_ | refine awp_ret ?_ | refine awp_exit ?_ | refine awp_region ?_ | refine awp_condM ?_ | refine And.intro ?_ ?_ | refine gE_splitN ?_ ?_ | refine gE_split ?_ ?_ | refine gQ_splitN ?_ ?_ | refine gQ_split ?_ ?_ | refine gM_splitN ?_ ?_ | refine gM_split ?_ ?_ | refine condM_splitDN ?_ ?_ | refine condM_splitD ?_ ?_ | refine condM_splitN ?_ ?_ | refine condM_split ?_ ?_ | refine condM_any ?_ ?_ | refine cw (co) ?_ | intro _) | (simp [*, he]))
theorem fast_none (n : Net) (h : NetIn n) (t : Trip) (a b : Nat) (ok : TripOk n t a b) (late : Bool) (he : otE n t = 0) (hn : nth (growS (fTime late) n a t.at_).l b = -1) : RealCall Try.prog 14 [aNet n, .agg (tL t), .bool late] (.tup [.sl 0 [], .int .i64 12]) true := by
  have co := openTrip_c n h t
  rw [he] at co
  have hh := ok.hi
  have c0 : RealCall Try.prog 22 [aNet n, .int .i64 a, .int .i64 t.at_, .fn (endF late) []] (treeP n (growS (fTime late) n a t.at_)) true := arrivals_c n ok.ok a ok.la t.at_ ok.lo (by omega) late
  have l0 := (growS_inv ok.ok (along_time ok.ok late) ok.la ok.lo (by omega)).ll
  have hb := ok.lb
  obtain ⟨t1, t2, t3⟩ := t
  obtain rfl : t1 = a := ok.fa
  obtain rfl : t2 = b := ok.fb
  dsimp only at *
  generalize growS (fTime late) n a t3 = s0 at *
  clear ok h he
  unfold treeP at c0
  unfold aNet cNet at *
  cases late with
  | false =>
    have c0 : RealCall Try.prog 22 [.agg [.sl n.places.length (strs n.places), .sl n.roads.length (cRoads n.roads)], .int .i64 a, .int .i64 t3, .fn 23 []] (.agg [.sl n.places.length (ints s0.l), .sl n.places.length (ints s0.b)]) true := c0
    refine realcall_intro Try.func14 (by kernel_rfl) rfl (Nat.le_of_ble_eq_true (by kernel_rfl)) ?_
    simp only [Try.results14, Try.ntmps14]
    repeat' (first | (with_reducible first | refine awp_seq ?_ | refine awp_blockS ?_ | refine awp_blockC ?_ | refine awp_blockR ?_ | refine awp_skip ?_ | refine awp_ret ?_ | refine awp_exit ?_ | refine awp_region ?_ | refine awp_condM ?_ | refine And.intro ?_ ?_ | refine gE_splitN ?_ ?_ | refine gE_split ?_ ?_ | refine gQ_splitN ?_ ?_ | refine gQ_split ?_ ?_ | refine gM_splitN ?_ ?_ | refine gM_split ?_ ?_ | refine condM_splitDN ?_ ?_ | refine condM_splitD ?_ ?_ | refine condM_splitN ?_ ?_ | refine condM_split ?_ ?_ | refine condM_any ?_ ?_ | refine cw (co) ?_ | refine cw (c0) ?_ | intro _) | (simp [*, hb, l0, hn]))
    all_goals try omega
  | true =>
    have c0 : RealCall Try.prog 22 [.agg [.sl n.places.length (strs n.places), .sl n.roads.length (cRoads n.roads)], .int .i64 a, .int .i64 t3, .fn 24 []] (.agg [.sl n.places.length (ints s0.l), .sl n.places.length (ints s0.b)]) true := c0
    refine realcall_intro Try.func14 (by kernel_rfl) rfl (Nat.le_of_ble_eq_true (by kernel_rfl)) ?_
    simp only [Try.results14, Try.ntmps14]
    repeat' (first | (with_reducible first | refine awp_seq ?_ | refine awp_blockS ?_ | refine awp_blockC ?_ | refine awp_blockR ?_ | refine awp_skip ?_ | refine awp_ret ?_ | refine awp_exit ?_ | refine awp_region ?_ | refine awp_condM ?_ | refine And.intro ?_ ?_ | refine gE_splitN ?_ ?_ | refine gE_split ?_ ?_ | refine gQ_splitN ?_ ?_ | refine gQ_split ?_ ?_ | refine gM_splitN ?_ ?_ | refine gM_split ?_ ?_ | refine condM_splitDN ?_ ?_ | refine condM_splitD ?_ ?_ | refine condM_splitN ?_ ?_ | refine condM_split ?_ ?_ | refine condM_any ?_ ?_ | refine cw (co) ?_ | refine cw (c0) ?_ | intro _) | (simp [*, hb, l0, hn]))
    all_goals try omega
theorem fast_ok (n : Net) (h : NetIn n) (t : Trip) (a b : Nat) (ok : TripOk n t a b) (late : Bool) (he : otE n t = 0) (hn : nth (growS (fTime late) n a t.at_).l b ≠ -1) (m : Nat) (hm : m < 100000) (R : List Int) (hR : backF n (growS (fTime late) n a t.at_).b m b = some R) :
    RealCall Try.prog 14 [aNet n, .agg (tL t), .bool late] (.tup [.sl R.length (ints R.reverse), .int .i64 0]) true := by
  have co := openTrip_c n h t
  rw [he] at co
  have hh := ok.hi
  have hi := growS_inv ok.ok (along_time ok.ok late) ok.la ok.lo (by omega : t.at_ ≤ 700000)
  have c0 : RealCall Try.prog 22 [aNet n, .int .i64 a, .int .i64 t.at_, .fn (endF late) []] (treeP n (growS (fTime late) n a t.at_)) true := arrivals_c n ok.ok a ok.la t.at_ ok.lo (by omega) late
  have cy := way_c n ok.ok _ hi b ok.lb m hm R hR
  have l0 := hi.ll
  have hb := ok.lb
  obtain ⟨t1, t2, t3⟩ := t
  obtain rfl : t1 = a := ok.fa
  obtain rfl : t2 = b := ok.fb
  dsimp only at *
  generalize growS (fTime late) n a t3 = s0 at *
  clear ok h he hi hR
  unfold treeP at c0 cy
  unfold aNet cNet at *
  cases late with
  | false =>
    have c0 : RealCall Try.prog 22 [.agg [.sl n.places.length (strs n.places), .sl n.roads.length (cRoads n.roads)], .int .i64 a, .int .i64 t3, .fn 23 []] (.agg [.sl n.places.length (ints s0.l), .sl n.places.length (ints s0.b)]) true := c0
    refine realcall_intro Try.func14 (by kernel_rfl) rfl (Nat.le_of_ble_eq_true (by kernel_rfl)) ?_
    simp only [Try.results14, Try.ntmps14]
    repeat' (first | (with_reducible first | refine awp_seq ?_ | refine awp_blockS ?_ | refine awp_blockC ?_ | refine awp_blockR ?_ | refine awp_skip ?_ | refine awp_ret ?_ | refine awp_exit ?_ | refine awp_region ?_ | refine awp_condM ?_ | refine And.intro ?_ ?_ | refine gE_splitN ?_ ?_ | refine gE_split ?_ ?_ | refine gQ_splitN ?_ ?_ | refine gQ_split ?_ ?_ | refine gM_splitN ?_ ?_ | refine gM_split ?_ ?_ | refine condM_splitDN ?_ ?_ | refine condM_splitD ?_ ?_ | refine condM_splitN ?_ ?_ | refine condM_split ?_ ?_ | refine condM_any ?_ ?_ | refine cw (co) ?_ | refine cw (c0) ?_ | refine cw (cy) ?_ | intro _) | (simp [*, hb, l0, hn]))
    all_goals try omega
  | true =>
    have c0 : RealCall Try.prog 22 [.agg [.sl n.places.length (strs n.places), .sl n.roads.length (cRoads n.roads)], .int .i64 a, .int .i64 t3, .fn 24 []] (.agg [.sl n.places.length (ints s0.l), .sl n.places.length (ints s0.b)]) true := c0
    refine realcall_intro Try.func14 (by kernel_rfl) rfl (Nat.le_of_ble_eq_true (by kernel_rfl)) ?_
    simp only [Try.results14, Try.ntmps14]
    repeat' (first | (with_reducible first | refine awp_seq ?_ | refine awp_blockS ?_ | refine awp_blockC ?_ | refine awp_blockR ?_ | refine awp_skip ?_ | refine awp_ret ?_ | refine awp_exit ?_ | refine awp_region ?_ | refine awp_condM ?_ | refine And.intro ?_ ?_ | refine gE_splitN ?_ ?_ | refine gE_split ?_ ?_ | refine gQ_splitN ?_ ?_ | refine gQ_split ?_ ?_ | refine gM_splitN ?_ ?_ | refine gM_split ?_ ?_ | refine condM_splitDN ?_ ?_ | refine condM_splitD ?_ ?_ | refine condM_splitN ?_ ?_ | refine condM_split ?_ ?_ | refine condM_any ?_ ?_ | refine cw (co) ?_ | refine cw (c0) ?_ | refine cw (cy) ?_ | intro _) | (simp [*, hb, l0, hn]))
    all_goals try omega
def mx (x : Int) : Int := if 0 < x then x else 0
end Go.Proofs.Ytgoemokfpfnlkaa
