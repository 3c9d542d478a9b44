/- Contracts of functions for this claim: lemmas alone. -/
import Derived.Test.YtgoemokfpfnlkaaP35
set_option linter.unusedSimpArgs false
set_option linter.unusedVariables false
namespace Go.Proofs.Ytgoemokfpfnlkaa
open Go Go.Fi

/-- ways are walked: what one arrives with, and how long they are -/
def owE (n : Net) (w : List Int) : Int := if (netS n).2.2 ≠ 0 then (netS n).2.2 else (wayS n w).2.2
theorem openWay_c (n : Net) (h : NetIn n) (w : List Int) (hw : w.length < 1000) : RealCall Try.prog 31 [aNet n, .sl w.length (ints w)] (.tup [aNet n, .int .i64 (owE n w)]) false := by
  have co := open_c n h
  have cw1 := wayErr_c n h w hw
  unfold owE
  unfold aNet cNet at *
  by_cases he : (netS n).2.2 = 0
  · rw [if_neg (by simp [he])]
    rw [he] at co
    refine realcall_intro Try.func31 (by kernel_rfl) rfl (Nat.le_of_ble_eq_true (by kernel_rfl)) ?_
    simp only [Try.results31, Try.ntmps31]
    repeat' (first | (with_reducible first | refine awp_seq ?_ | refine awp_blockS ?_ | refine awp_blockC ?_ | refine awp_blockR ?_ | refine awp_skip ?_ | refine awp_ret ?_ | refine awp_exit ?_ | refine awp_region ?_ | refine awp_condM ?_ | refine And.intro ?_ ?_ | refine gE_splitN ?_ ?_ | refine gE_split ?_ ?_ | refine gQ_splitN ?_ ?_ | refine gQ_split ?_ ?_ | refine gM_splitN ?_ ?_ | refine gM_split ?_ ?_ | refine condM_splitDN ?_ ?_ | refine condM_splitD ?_ ?_ | refine condM_splitN ?_ ?_ | refine condM_split ?_ ?_ | refine condM_any ?_ ?_ | refine cw (co) ?_ | refine cw (cw1) ?_ | intro _) | (simp [*]))
  · rw [if_pos he]
    refine realcall_intro Try.func31 (by kernel_rfl) rfl (Nat.le_of_ble_eq_true (by kernel_rfl)) ?_
    simp only [Try.results31, Try.ntmps31]
    repeat' (first | (with_reducible first | refine awp_seq ?_ | refine awp_blockS ?_ | refine awp_blockC ?_ | refine awp_blockR ?_ | refine awp_skip ?_ | refine awp_ret ?_ | refine awp_exit ?_ | refine awp_region ?_ | refine awp_condM ?_ | refine And.intro ?_ ?_ | refine gE_splitN ?_ ?_ | refine gE_split ?_ ?_ | refine gQ_splitN ?_ ?_ | refine gQ_split ?_ ?_ | refine gM_splitN ?_ ?_ | refine gM_split ?_ ?_ | refine condM_splitDN ?_ ?_ | refine condM_splitD ?_ ?_ | refine condM_splitN ?_ ?_ | refine condM_split ?_ ?_ | refine condM_any ?_ ?_ | refine cw (co) ?_ | refine cw (cw1) ?_ | intro _) | (simp [*, he]))
set_option maxHeartbeats 4000000 in
theorem arrival_c (n : Net) (h : NetOk n) (w : List Int) (hw : WayOk n w) (hl : w.length ≤ 200) (at_ : Int) (h0 : 0 ≤ at_) (h1 : at_ ≤ 700000) (late : Bool) :
    RealCall Try.prog 34 [aNet n, .sl w.length (ints w), .int .i64 at_, endV late] (.int .i64 (evalW n (fTime late) w at_)) true := by
  have hnr := h.nr
  generalize hR : evalW n (fTime late) w at_ = R
  have kh := keep (And.intro h hw.idx)
  clear h hw
  unfold aNet cNet endV
  refine realcall_intro Try.func34 (by kernel_rfl) rfl (Nat.le_of_ble_eq_true (by kernel_rfl)) ?_
  simp only [Try.results34, Try.ntmps34]
  repeat' (first | (with_reducible first | refine awp_seq ?_ | refine awp_blockS ?_ | refine awp_blockC ?_ | refine awp_blockR ?_ | refine awp_skip ?_ | refine awp_ret ?_ | refine awp_exit ?_ | refine awp_region ?_ | refine awp_condM ?_ | refine And.intro ?_ ?_ | refine gE_splitN ?_ ?_ | refine gE_split ?_ ?_ | refine gQ_splitN ?_ ?_ | refine gQ_split ?_ ?_ | refine gM_splitN ?_ ?_ | refine gM_split ?_ ?_ | refine condM_splitDN ?_ ?_ | refine condM_splitD ?_ ?_ | refine condM_splitN ?_ ?_ | refine condM_split ?_ ?_ | refine condM_any ?_ ?_ | intro _) | (simp [*]))
  refine awp_for3 (fun (x : Nat × Int) => x.1 ≤ w.length ∧ 0 ≤ x.2 ∧ x.2 ≤ 700000 + 14400 * x.1 ∧ evalW n (fTime late) (w.drop x.1) x.2 = R) [3, 4, 11, 12] (fun (x : Nat × Int) => [(2, .w false false (.int .i64 x.2)), (13, .w false false (.int .i64 x.1))]) [0] (fun (x : Nat × Int) => []) (fun (x : Nat × Int) => w.length - x.1) (fun (_u : Unit) => True) [] (fun (_u : Unit) => [(2, .w false false (.int .i64 R))]) [] (fun (_u : Unit) => []) (((0 : Nat), at_)) ⟨Nat.zero_le _, h0, by omega, hR⟩ (by simp) (by simp) (fun x hk => ?_) (fun _u hf => ?_)
  · obtain ⟨k, v⟩ := x
    obtain ⟨hk, hv0, hv1, hj⟩ := hk
    dsimp only at hk hv0 hv1 hj ⊢
    by_cases hlt : k < w.length
    · rw [evalW_drop _ _ _ _ _ hlt] at hj
      have hx := kh.2 k hlt
      have q1 : (nth w k).toNat < n.roads.length := by omega
      have hr := kh.1.road _ q1
      have hb := fTime_bd kh.1 q1 v late
      have ct : RealCall Try.prog 42 [.agg (cRoad (nth n.roads (nth w k).toNat)), .int .i64 v, .fn (endF late) []] (.int .i64 (takesS (nth n.roads (nth w k).toNat).pts v late)) true := takesR_c _ v late hr.pts hv0 (by omega)
      clear hr hR
      have e : fTime late (nth n.roads (nth w k).toNat) v = v + takesS (nth n.roads (nth w k).toNat).pts v late := rfl
      rw [e] at hj
      generalize takesS (nth n.roads (nth w k).toNat).pts v late = t at *
      have kj := keep hj
      clear hj e
      generalize hrd : nth n.roads (nth w k).toNat = r at *
      unfold cRoad at ct
      repeat' (first | (with_reducible first | refine awp_seq ?_ | refine awp_blockS ?_ | refine awp_blockC ?_ | refine awp_blockR ?_ | refine awp_skip ?_ | refine awp_ret ?_ | refine awp_exit ?_ | refine awp_region ?_ | refine awp_condM ?_ | refine And.intro ?_ ?_ | refine gE_splitN ?_ ?_ | refine gE_split ?_ ?_ | refine gQ_splitN ?_ ?_ | refine gQ_split ?_ ?_ | refine gM_splitN ?_ ?_ | refine gM_split ?_ ?_ | refine condM_splitDN ?_ ?_ | refine condM_splitD ?_ ?_ | refine condM_splitN ?_ ?_ | refine condM_split ?_ ?_ | refine condM_any ?_ ?_ | refine cw (ct) ?_ | intro _) | (simp [*, hlt, q1, hrd, cRoad]))
      all_goals first
        | exact inI64 (by omega) (by omega)
        | omega
        | (refine loopK_normal _ _ _ _ _ (k + 1, v + t) _ ?_ (by first | omega | (dsimp only; omega) | (simp; omega)) ?_; (· exact ⟨by dsimp only; omega, by dsimp only; omega, by dsimp only; omega, kj⟩); (refine le_of ?_ ?_ <;> first | trivial | (simp [*]; done)))
        | skip
    · have hke : k = w.length := by omega
      subst hke
      rw [List.drop_length] at hj
      have hj : v = R := hj
      subst hj
      repeat' (first | (with_reducible first | refine awp_seq ?_ | refine awp_blockS ?_ | refine awp_blockC ?_ | refine awp_blockR ?_ | refine awp_skip ?_ | refine awp_ret ?_ | refine awp_exit ?_ | refine awp_region ?_ | refine awp_condM ?_ | refine And.intro ?_ ?_ | refine gE_splitN ?_ ?_ | refine gE_split ?_ ?_ | refine gQ_splitN ?_ ?_ | refine gQ_split ?_ ?_ | refine gM_splitN ?_ ?_ | refine gM_split ?_ ?_ | refine condM_splitDN ?_ ?_ | refine condM_splitD ?_ ?_ | refine condM_splitN ?_ ?_ | refine condM_split ?_ ?_ | refine condM_any ?_ ?_ | intro _) | (simp [*]))
      (refine finW_intro () ?_ ?_; (· trivial); (refine le_of ?_ ?_ <;> first | trivial | (simp [*]; done)))
  · repeat' (first | (with_reducible first | refine awp_seq ?_ | refine awp_blockS ?_ | refine awp_blockC ?_ | refine awp_blockR ?_ | refine awp_skip ?_ | refine awp_ret ?_ | refine awp_exit ?_ | refine awp_region ?_ | refine awp_condM ?_ | refine And.intro ?_ ?_ | refine gE_splitN ?_ ?_ | refine gE_split ?_ ?_ | refine gQ_splitN ?_ ?_ | refine gQ_split ?_ ?_ | refine gM_splitN ?_ ?_ | refine gM_split ?_ ?_ | refine condM_splitDN ?_ ?_ | refine condM_splitD ?_ ?_ | refine condM_splitN ?_ ?_ | refine condM_split ?_ ?_ | refine condM_any ?_ ?_ | intro _) | (simp [*]))
theorem arrivalOf_c (n : Net) (h : NetIn n) (w : List Int) (hw : w.length < 1000) (at_ : Int) : RealCall Try.prog 15 [aNet n, .sl w.length (ints w), .int .i64 at_] (markP (arrS n w at_)) true := by
  have co := openWay_c n h w hw
  have ct := timeErr_c at_
  unfold arrS owE at *
  by_cases he : (netS n).2.2 = 0
  · have hok := net_ok h he
    rw [if_neg (by simp [he])] at co ⊢
    by_cases hwe : (wayS n w).2.2 = 0
    · have hwo := way_ok hwe
      have hl := way_len hwe
      rw [if_neg (by simp [hwe])]
      rw [hwe] at co
      cases ht : winB at_ 0 604800 with
      | false =>
        rw [ht] at ct
        unfold aNet cNet markP at *
        clear hok hwo h
        refine realcall_intro Try.func15 (by kernel_rfl) rfl (Nat.le_of_ble_eq_true (by kernel_rfl)) ?_
        simp only [Try.results15, Try.ntmps15]
        repeat' (first | (with_reducible first | refine awp_seq ?_ | refine awp_blockS ?_ | refine awp_blockC ?_ | refine awp_blockR ?_ | refine awp_skip ?_ | refine awp_ret ?_ | refine awp_exit ?_ | refine awp_region ?_ | refine awp_regionD (id := 5) 9 mixed (by decide +kernel) ?_ | refine awp_condM ?_ | refine And.intro ?_ ?_ | refine gE_splitN ?_ ?_ | refine gE_split ?_ ?_ | refine gQ_splitN ?_ ?_ | refine gQ_split ?_ ?_ | refine gM_splitN ?_ ?_ | refine gM_split ?_ ?_ | refine condM_splitDN ?_ ?_ | refine condM_splitD ?_ ?_ | refine condM_splitN ?_ ?_ | refine condM_split ?_ ?_ | refine condM_any ?_ ?_ | refine cw (co) ?_ | refine cw (ct) ?_ | refine cw (first2_c _ _) ?_ | intro _) | (simp [*, errUnless, firstS]))
      | true =>
        rw [ht] at ct
        have hb := win_of ht
        have c0 : RealCall Try.prog 34 [aNet n, .sl w.length (ints w), .int .i64 at_, .fn 23 []] (.int .i64 (evalW n (fTime false) w at_)) true := arrival_c n hok w hwo hl at_ hb.1 (by omega) false
        have c1 : RealCall Try.prog 34 [aNet n, .sl w.length (ints w), .int .i64 at_, .fn 24 []] (.int .i64 (evalW n (fTime true) w at_)) true := arrival_c n hok w hwo hl at_ hb.1 (by omega) true
        generalize evalW n (fTime false) w at_ = v0 at *
        generalize evalW n (fTime true) w at_ = v1 at *
        unfold aNet cNet markP at *
        clear hok hwo h
        refine realcall_intro Try.func15 (by kernel_rfl) rfl (Nat.le_of_ble_eq_true (by kernel_rfl)) ?_
        simp only [Try.results15, Try.ntmps15]
        repeat' (first | (with_reducible first | refine awp_seq ?_ | refine awp_blockS ?_ | refine awp_blockC ?_ | refine awp_blockR ?_ | refine awp_skip ?_ | refine awp_ret ?_ | refine awp_exit ?_ | refine awp_region ?_ | refine awp_regionD (id := 5) 9 mixed (by decide +kernel) ?_ | refine awp_condM ?_ | refine And.intro ?_ ?_ | refine gE_splitN ?_ ?_ | refine gE_split ?_ ?_ | refine gQ_splitN ?_ ?_ | refine gQ_split ?_ ?_ | refine gM_splitN ?_ ?_ | refine gM_split ?_ ?_ | refine condM_splitDN ?_ ?_ | refine condM_splitD ?_ ?_ | refine condM_splitN ?_ ?_ | refine condM_split ?_ ?_ | refine condM_any ?_ ?_ | refine cw (co) ?_ | refine cw (ct) ?_ | refine cw (first2_c _ _) ?_ | refine cw (c0) ?_ | refine cw (c1) ?_ | intro _) | (simp [*, errUnless, firstS]))
    · rw [if_pos hwe]
      unfold aNet cNet markP at *
      clear hok h
      refine realcall_intro Try.func15 (by kernel_rfl) rfl (Nat.le_of_ble_eq_true (by kernel_rfl)) ?_
      simp only [Try.results15, Try.ntmps15]
      repeat' (first | (with_reducible first | refine awp_seq ?_ | refine awp_blockS ?_ | refine awp_blockC ?_ | refine awp_blockR ?_ | refine awp_skip ?_ | refine awp_ret ?_ | refine awp_exit ?_ | refine awp_region ?_ | refine awp_regionD (id := 5) 9 mixed (by decide +kernel) ?_ | refine awp_condM ?_ | refine And.intro ?_ ?_ | refine gE_splitN ?_ ?_ | refine gE_split ?_ ?_ | refine gQ_splitN ?_ ?_ | refine gQ_split ?_ ?_ | refine gM_splitN ?_ ?_ | refine gM_split ?_ ?_ | refine condM_splitDN ?_ ?_ | refine condM_splitD ?_ ?_ | refine condM_splitN ?_ ?_ | refine condM_split ?_ ?_ | refine condM_any ?_ ?_ | refine cw (co) ?_ | refine cw (ct) ?_ | refine cw (first2_c _ _) ?_ | intro _) | (simp [*, hwe, firstS]))
  · rw [if_pos he] at co ⊢
    unfold aNet cNet markP at *
    clear h
    refine realcall_intro Try.func15 (by kernel_rfl) rfl (Nat.le_of_ble_eq_true (by kernel_rfl)) ?_
    simp only [Try.results15, Try.ntmps15]
    repeat' (first | (with_reducible first | refine awp_seq ?_ | refine awp_blockS ?_ | refine awp_blockC ?_ | refine awp_blockR ?_ | refine awp_skip ?_ | refine awp_ret ?_ | refine awp_exit ?_ | refine awp_region ?_ | refine awp_regionD (id := 5) 9 mixed (by decide +kernel) ?_ | refine awp_condM ?_ | refine And.intro ?_ ?_ | refine gE_splitN ?_ ?_ | refine gE_split ?_ ?_ | refine gQ_splitN ?_ ?_ | refine gQ_split ?_ ?_ | refine gM_splitN ?_ ?_ | refine gM_split ?_ ?_ | refine condM_splitDN ?_ ?_ | refine condM_splitD ?_ ?_ | refine condM_splitN ?_ ?_ | refine condM_split ?_ ?_ | refine condM_any ?_ ?_ | refine cw (co) ?_ | refine cw (ct) ?_ | refine cw (first2_c _ _) ?_ | intro _) | (simp [*, he, firstS]))
end Go.Proofs.Ytgoemokfpfnlkaa
namespace Go.Proofs.Ytgoemokfpfnlkaa
open Go Go.Fi

theorem metS_drop (n : Net) (w : List Int) (k : Nat) (h : k < w.length) : metS n (w.drop k) = (nth n.roads (nth w k).toNat).metres + metS n (w.drop (k + 1)) := by
  rw [drop_nth w k h]; rfl
end Go.Proofs.Ytgoemokfpfnlkaa
