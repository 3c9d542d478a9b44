/- Contracts of functions for this claim: lemmas alone. -/
import Derived.Test.YtmedbghkldmlhaaP36
import Derived.Test.YtmedbghkldmlhaaP30
set_option linter.unusedSimpArgs false
set_option linter.unusedVariables false
namespace Go.Proofs.Ytmedbghkldmlhaa
open Go Go.Fi

/-- whether a time is right, as an error -/
theorem arr_bad {n : Net} {w : List Int} {at_ : Int} (h : owE n w ≠ 0) : arrS n w at_ = (0, 0, owE n w) := by
  unfold arrS owE at *
  by_cases he : (netS n).2.2 = 0
  · rw [if_neg (by simp [he])] at h ⊢
    rw [if_pos h, if_neg (by simp [he])]
  · rw [if_pos he, if_pos he]
theorem arr_time {n : Net} {w : List Int} {at_ : Int} (h : owE n w = 0) (ht : winB at_ 0 604800 = false) : arrS n w at_ = (0, 0, 2) := by
  unfold arrS owE at *
  by_cases he : (netS n).2.2 = 0
  · rw [if_neg (by simp [he])] at h ⊢
    rw [if_neg (by simp [h]), if_pos ht]
  · rw [if_pos he] at h; exact absurd h he
theorem arr_good {n : Net} {w : List Int} {at_ : Int} (h : owE n w = 0) (ht : winB at_ 0 604800 = true) : arrS n w at_ = (evalW n (fTime false) w at_, evalW n (fTime true) w at_, 0) := by
  unfold arrS owE at *
  by_cases he : (netS n).2.2 = 0
  · rw [if_neg (by simp [he])] at h ⊢
    rw [if_neg (by simp [h]), ht, if_neg (by decide)]
  · rw [if_pos he] at h; exact absurd h he
theorem ow_ok {n : Net} (hi : NetIn n) {w : List Int} (h : owE n w = 0) : NetOk n ∧ WayOk n w ∧ w.length ≤ 200 ∧ (netS n).2.2 = 0 ∧ wayS n w = (0, 0, 0) := by
  unfold owE at h
  by_cases he : (netS n).2.2 = 0
  · rw [if_neg (by simp [he])] at h
    exact ⟨net_ok hi he, way_ok h, way_len h, he, way_zero h⟩
  · rw [if_pos he] at h; exact absurd h he
theorem ow_net {n : Net} {w : List Int} (h : (netS n).2.2 = 0) : owE n w = (wayS n w).2.2 := if_neg (by simp [h])
theorem ow_bad {n : Net} {w : List Int} (h : (netS n).2.2 ≠ 0) : owE n w = (netS n).2.2 := if_pos h
theorem met_bad {n : Net} {w : List Int} (h : owE n w ≠ 0) : metE n w = (0, owE n w) := by
  unfold metE owE at *
  by_cases he : (netS n).2.2 = 0
  · rw [if_neg (by simp [he])] at h ⊢
    rw [if_pos h, if_neg (by simp [he])]
  · rw [if_pos he, if_pos he]
theorem met_good {n : Net} {w : List Int} (h : owE n w = 0) : metE n w = (metS n w, 0) := by
  unfold metE owE at *
  by_cases he : (netS n).2.2 = 0
  · rw [if_neg (by simp [he])] at h ⊢
    rw [if_neg (by simp [h])]
  · rw [if_pos he] at h; exact absurd h he
set_option maxHeartbeats 4000000 in
theorem streetWays_c (hA : RealCall Try.prog 15 [] (.bool true) true) (n : Net) (w : List Int) (at_ : Int) : RealCall Try.prog 9 [aNet n, .sl w.length (ints w), .int .i64 at_] (.bool true) true := by
  have cf := few_c n
  have cs := short_c w
  cases hf : fewB n with
  | false =>
    rw [hf] at cf
    unfold aNet cNet at *
    refine realcall_intro Try.func9 (by kernel_rfl) rfl (Nat.le_of_ble_eq_true (by kernel_rfl)) ?_
    simp only [Try.results9, Try.ntmps9]
    repeat' (first | (with_reducible first | refine awp_seq ?_ | refine awp_blockS ?_ | refine awp_blockC ?_ | refine awp_blockR ?_ | refine awp_skip ?_ | refine awp_ret ?_ | refine awp_exit ?_ | refine awp_region ?_ | refine awp_regionD (id := 21) 11 mixed (by decide +kernel) ?_ | refine awp_condM ?_ | refine And.intro ?_ ?_ | refine gM_splitN ?_ ?_ | refine gM_split ?_ ?_ | refine condM_splitDN ?_ ?_ | refine condM_splitD ?_ ?_ | refine condM_splitN ?_ ?_ | refine condM_split ?_ ?_ | refine condM_any ?_ ?_ | refine cw (hA) ?_ | refine cw (cf) ?_ | refine cw (cs) ?_ | intro _) | (simp [*]))
  | true =>
    rw [hf] at cf
    by_cases hs : w.length ≤ 12 ∨ 200 < w.length ∧ w.length ≤ 202
    · rw [decide_eq_true hs] at cs
      have h := few_in hf
      have hl : w.length < 1000 := by omega
      have cc := rCopy_c n h
      have cv := copyInts_c w (by omega)
      have c1 := checkWay_c n h w hl
      have c2 := arrivalOf_c n h w hl at_
      have c3 := metresOf_c n h w hl
      have c4 := rNetErr_c n h
      have c5 := rWayErr_c n h w hl
      have c6 := rTimeErr_c at_
      by_cases ho : owE n w = 0
      · obtain ⟨ok, wo, hl2, e1, e2⟩ := ow_ok h ho
        rw [met_good ho] at c3
        rw [e1, ho] at c1
        rw [e2] at c1 c5
        rw [e1] at c4
        have c7 := rMetresOf_c n ok w wo hl2
        cases ht : winB at_ 0 604800 with
        | false =>
          rw [arr_time ho ht] at c2
          rw [ht] at c6
          clear ok wo ho e1 e2 h hf hs
          generalize metS n w = mm at *
          unfold aNet cNet markP at *
          refine realcall_intro Try.func9 (by kernel_rfl) rfl (Nat.le_of_ble_eq_true (by kernel_rfl)) ?_
          simp only [Try.results9, Try.ntmps9]
          repeat' (first | (with_reducible first | refine awp_seq ?_ | refine awp_blockS ?_ | refine awp_blockC ?_ | refine awp_blockR ?_ | refine awp_skip ?_ | refine awp_ret ?_ | refine awp_exit ?_ | refine awp_region ?_ | refine awp_regionD (id := 21) 11 mixed (by decide +kernel) ?_ | refine awp_condM ?_ | refine And.intro ?_ ?_ | refine gM_splitN ?_ ?_ | refine gM_split ?_ ?_ | refine condM_splitDN ?_ ?_ | refine condM_splitD ?_ ?_ | refine condM_splitN ?_ ?_ | refine condM_split ?_ ?_ | refine condM_any ?_ ?_ | refine cw (hA) ?_ | refine cw (cf) ?_ | refine cw (cs) ?_ | refine cw (cc) ?_ | refine cw (cv) ?_ | refine cw (c1) ?_ | refine cw (c2) ?_ | refine cw (c3) ?_ | refine cw (c4) ?_ | refine cw (c5) ?_ | refine cw (c6) ?_ | refine cw (c7) ?_ | intro _) | (simp [*, errUnless]))
        | true =>
          rw [arr_good ho ht] at c2
          rw [ht] at c6
          have hb := win_of ht
          have c8 := rArrivalOf_c n ok w wo hl2 at_ hb.1 (by omega)
          clear ok wo ho e1 e2 h hf hs hb
          generalize metS n w = mm at *
          generalize evalW n (fTime false) w at_ = v0 at *
          generalize evalW n (fTime true) w at_ = v1 at *
          unfold aNet cNet markP at *
          refine realcall_intro Try.func9 (by kernel_rfl) rfl (Nat.le_of_ble_eq_true (by kernel_rfl)) ?_
          simp only [Try.results9, Try.ntmps9]
          repeat' (first | (with_reducible first | refine awp_seq ?_ | refine awp_blockS ?_ | refine awp_blockC ?_ | refine awp_blockR ?_ | refine awp_skip ?_ | refine awp_ret ?_ | refine awp_exit ?_ | refine awp_region ?_ | refine awp_regionD (id := 21) 11 mixed (by decide +kernel) ?_ | refine awp_condM ?_ | refine And.intro ?_ ?_ | refine gM_splitN ?_ ?_ | refine gM_split ?_ ?_ | refine condM_splitDN ?_ ?_ | refine condM_splitD ?_ ?_ | refine condM_splitN ?_ ?_ | refine condM_split ?_ ?_ | refine condM_any ?_ ?_ | refine cw (hA) ?_ | refine cw (cf) ?_ | refine cw (cs) ?_ | refine cw (cc) ?_ | refine cw (cv) ?_ | refine cw (c1) ?_ | refine cw (c2) ?_ | refine cw (c3) ?_ | refine cw (c4) ?_ | refine cw (c5) ?_ | refine cw (c6) ?_ | refine cw (c7) ?_ | refine cw (c8) ?_ | intro _) | (simp [*, errUnless]))
      · rw [arr_bad ho] at c2
        rw [met_bad ho] at c3
        by_cases hn : (netS n).2.2 = 0
        · have e := ow_net (w := w) hn
          rw [e] at c1 c2 c3 ho
          rw [hn] at c1 c4
          clear h hf hs e hn
          generalize wayS n w = S at *
          obtain ⟨s1, s2, s3⟩ := S
          unfold aNet cNet markP at *
          refine realcall_intro Try.func9 (by kernel_rfl) rfl (Nat.le_of_ble_eq_true (by kernel_rfl)) ?_
          simp only [Try.results9, Try.ntmps9]
          repeat' (first | (with_reducible first | refine awp_seq ?_ | refine awp_blockS ?_ | refine awp_blockC ?_ | refine awp_blockR ?_ | refine awp_skip ?_ | refine awp_ret ?_ | refine awp_exit ?_ | refine awp_region ?_ | refine awp_regionD (id := 21) 11 mixed (by decide +kernel) ?_ | refine awp_condM ?_ | refine And.intro ?_ ?_ | refine gM_splitN ?_ ?_ | refine gM_split ?_ ?_ | refine condM_splitDN ?_ ?_ | refine condM_splitD ?_ ?_ | refine condM_splitN ?_ ?_ | refine condM_split ?_ ?_ | refine condM_any ?_ ?_ | refine cw (hA) ?_ | refine cw (cf) ?_ | refine cw (cs) ?_ | refine cw (cc) ?_ | refine cw (cv) ?_ | refine cw (c1) ?_ | refine cw (c2) ?_ | refine cw (c3) ?_ | refine cw (c4) ?_ | refine cw (c5) ?_ | intro _) | (simp [*, ho]))
        · have e := ow_bad (w := w) hn
          rw [e] at c1 c2 c3 ho
          rw [if_pos hn] at c1
          clear h hf hs e c5
          generalize (netS n).2.2 = s3 at *
          unfold aNet cNet markP at *
          refine realcall_intro Try.func9 (by kernel_rfl) rfl (Nat.le_of_ble_eq_true (by kernel_rfl)) ?_
          simp only [Try.results9, Try.ntmps9]
          repeat' (first | (with_reducible first | refine awp_seq ?_ | refine awp_blockS ?_ | refine awp_blockC ?_ | refine awp_blockR ?_ | refine awp_skip ?_ | refine awp_ret ?_ | refine awp_exit ?_ | refine awp_region ?_ | refine awp_regionD (id := 21) 11 mixed (by decide +kernel) ?_ | refine awp_condM ?_ | refine And.intro ?_ ?_ | refine gM_splitN ?_ ?_ | refine gM_split ?_ ?_ | refine condM_splitDN ?_ ?_ | refine condM_splitD ?_ ?_ | refine condM_splitN ?_ ?_ | refine condM_split ?_ ?_ | refine condM_any ?_ ?_ | refine cw (hA) ?_ | refine cw (cf) ?_ | refine cw (cs) ?_ | refine cw (cc) ?_ | refine cw (cv) ?_ | refine cw (c1) ?_ | refine cw (c2) ?_ | refine cw (c3) ?_ | refine cw (c4) ?_ | intro _) | (simp [*, ho, hn]))
    · rw [decide_eq_false hs] at cs
      unfold aNet cNet at *
      refine realcall_intro Try.func9 (by kernel_rfl) rfl (Nat.le_of_ble_eq_true (by kernel_rfl)) ?_
      simp only [Try.results9, Try.ntmps9]
      repeat' (first | (with_reducible first | refine awp_seq ?_ | refine awp_blockS ?_ | refine awp_blockC ?_ | refine awp_blockR ?_ | refine awp_skip ?_ | refine awp_ret ?_ | refine awp_exit ?_ | refine awp_region ?_ | refine awp_regionD (id := 21) 11 mixed (by decide +kernel) ?_ | refine awp_condM ?_ | refine And.intro ?_ ?_ | refine gM_splitN ?_ ?_ | refine gM_split ?_ ?_ | refine condM_splitDN ?_ ?_ | refine condM_splitD ?_ ?_ | refine condM_splitN ?_ ?_ | refine condM_split ?_ ?_ | refine condM_any ?_ ?_ | refine cw (hA) ?_ | refine cw (cf) ?_ | refine cw (cs) ?_ | intro _) | (simp [*]))
end Go.Proofs.Ytmedbghkldmlhaa
