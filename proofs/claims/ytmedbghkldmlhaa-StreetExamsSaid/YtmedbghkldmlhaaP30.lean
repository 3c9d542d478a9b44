/- Contracts of functions for this claim: lemmas alone. -/
import Derived.Test.YtmedbghkldmlhaaP29
import Derived.Test.YtmedbghkldmlhaaP23
import Derived.Test.YtmedbghkldmlhaaP16
set_option linter.unusedSimpArgs false
set_option linter.unusedVariables false
namespace Go.Proofs.Ytmedbghkldmlhaa
open Go Go.Fi

theorem tE_trip (n : Net) (t : Trip) : tE n t = tripE n t := by
  unfold tE tripE errUnless
  cases winB t.frm 0 (n.places.length - 1) <;> cases winB t.to 0 (n.places.length - 1) <;> cases winB t.at_ 0 604800 <;> rfl
theorem otE_net {n : Net} {t : Trip} (h : (netS n).2.2 ≠ 0) : otE n t = (netS n).2.2 := by
  unfold otE; simp only [firstS]; rw [if_neg h]
theorem otE_trip {n : Net} {t : Trip} (h : (netS n).2.2 = 0) : otE n t = tripE n t := by
  unfold otE; rw [tE_trip]; simp only [firstS]; rw [if_pos h]
  split
  · rename_i h; rw [h]
  · rfl
theorem latestS_bad {n : Net} {t : Trip} {c : Int} (h : otE n t = c) (hc : c ≠ 0) : latestS n t = (0, c) := by
  unfold latestS; rw [if_pos (by rw [h]; exact hc), h]
set_option maxHeartbeats 4000000 in
theorem streetLatest_c (hA : RealCall Try.prog 15 [] (.bool true) true) (n : Net) (t : Trip) : RealCall Try.prog 4 [aNet n, .agg (tL t)] (.bool true) true := by
  have cf := few_c n
  cases hf : fewB n with
  | false =>
    rw [hf] at cf
    unfold aNet cNet at *
    refine realcall_intro Try.func4 (by kernel_rfl) rfl (Nat.le_of_ble_eq_true (by kernel_rfl)) ?_
    simp only [Try.results4, Try.ntmps4]
    repeat' (first | (with_reducible first | refine awp_seq ?_ | refine awp_blockS ?_ | refine awp_blockC ?_ | refine awp_blockR ?_ | refine awp_skip ?_ | refine awp_ret ?_ | refine awp_exit ?_ | refine awp_region ?_ | refine awp_regionD (id := 5) 9 mixed (by decide +kernel) ?_ | refine awp_regionS (id := 16) [0, 1, 2, 3, 4, 5, 6, 7, 8, 9, 10, 11, 12] [13, 14] [[], [], [], [], [], [], [], [], [], [], [], [.new 0], []] [[.new 0], []] mixed (by decide +kernel) ?_ | refine awp_regionS (id := 21) [0, 1, 2, 3, 4, 5, 6, 7, 8, 9, 10, 11, 12, 13] [14, 15] [[], [], [], [], [], [], [], [], [], [], [], [], [.new 0], []] [[.new 0], []] mixed (by decide +kernel) ?_ | refine awp_condM ?_ | refine And.intro ?_ ?_ | refine gM_splitN ?_ ?_ | refine gM_split ?_ ?_ | refine condM_splitDN ?_ ?_ | refine condM_splitD ?_ ?_ | refine condM_splitN ?_ ?_ | refine condM_split ?_ ?_ | refine condM_any ?_ ?_ | refine cw (hA) ?_ | refine cw (cf) ?_ | intro _) | (simp [*]))
  | true =>
    rw [hf] at cf
    have h := few_in hf
    have hnp := h.np
    have cc := rCopy_c n h
    have c1 := latestFor_c n h t
    have c2 := rNetErr_c n h
    have c3 : RealCall Try.prog 26 [aNet n, .agg (tL t)] (.int .i64 (tripE n t)) true := rTripErr_c n t (by omega)
    by_cases hE : (netS n).2.2 = 0
    · have ho := otE_trip (t := t) hE
      rw [hE] at c2
      by_cases hT : tripE n t = 0
      · rw [hT] at c3 ho
        obtain ⟨a, b, ok⟩ := trip_ok h ho
        have c4 := rLatestFor_c n ok.ok a b ok.la ok.lb t.at_
        have hl := lat_law n t a b ok ho
        have ce := fun k => estimate_c n h ⟨a, b, k⟩
        have he := estS_at n t a b ok ho
        have ft : t.frm = a ∧ t.to = b := ⟨ok.fa, ok.fb⟩
        have hlo := ok.lo
        have hhi := ok.hi
        clear ok
        obtain ⟨t1, t2, t3⟩ := t
        dsimp only at *
        obtain ⟨rfl, rfl⟩ := ft
        rcases hl with ⟨h1, h2⟩ | ⟨r, h0, hr, h1, h2, h3, h4, h5⟩
        · dsimp only at h1 h2
          rw [h2] at c1
          rw [h1] at c4
          clear ce he h ho hf hE hT h1 h2
          unfold aNet cNet at *
          refine realcall_intro Try.func4 (by kernel_rfl) rfl (Nat.le_of_ble_eq_true (by kernel_rfl)) ?_
          simp only [Try.results4, Try.ntmps4]
          repeat' (first | (with_reducible first | refine awp_seq ?_ | refine awp_blockS ?_ | refine awp_blockC ?_ | refine awp_blockR ?_ | refine awp_skip ?_ | refine awp_ret ?_ | refine awp_exit ?_ | refine awp_region ?_ | refine awp_regionD (id := 5) 9 mixed (by decide +kernel) ?_ | refine awp_regionS (id := 16) [0, 1, 2, 3, 4, 5, 6, 7, 8, 9, 10, 11, 12] [13, 14] [[], [], [], [], [], [], [], [], [], [], [], [.new 0], []] [[.new 0], []] mixed (by decide +kernel) ?_ | refine awp_regionS (id := 21) [0, 1, 2, 3, 4, 5, 6, 7, 8, 9, 10, 11, 12, 13] [14, 15] [[], [], [], [], [], [], [], [], [], [], [], [], [.new 0], []] [[.new 0], []] mixed (by decide +kernel) ?_ | refine awp_condM ?_ | refine And.intro ?_ ?_ | refine gM_splitN ?_ ?_ | refine gM_split ?_ ?_ | refine condM_splitDN ?_ ?_ | refine condM_splitD ?_ ?_ | refine condM_splitN ?_ ?_ | refine condM_split ?_ ?_ | refine condM_any ?_ ?_ | refine cw (hA) ?_ | refine cw (cf) ?_ | refine cw (cc) ?_ | refine cw (c1) ?_ | refine cw (c2) ?_ | refine cw (c3) ?_ | refine cw (c4) ?_ | intro _) | (simp [*]))
        · dsimp only at h1 h2 h3 h4
          rw [h2] at c1
          rw [h1] at c4
          have q1 := ce r
          rw [he r h0 hr (h5 r h0 hr)] at q1
          by_cases hm : r = 604800
          · clear ce he h ho hf hE hT h1 h2 h4 h5
            generalize soonA n a b r = x1 at *
            generalize lateA n a b r = x2 at *
            subst hm
            unfold aNet cNet markP at *
            have h3' : ¬ t3 < x2 := by omega
            refine realcall_intro Try.func4 (by kernel_rfl) rfl (Nat.le_of_ble_eq_true (by kernel_rfl)) ?_
            simp only [Try.results4, Try.ntmps4]
            repeat' (first | (with_reducible first | refine awp_seq ?_ | refine awp_blockS ?_ | refine awp_blockC ?_ | refine awp_blockR ?_ | refine awp_skip ?_ | refine awp_ret ?_ | refine awp_exit ?_ | refine awp_region ?_ | refine awp_regionD (id := 5) 9 mixed (by decide +kernel) ?_ | refine awp_regionS (id := 16) [0, 1, 2, 3, 4, 5, 6, 7, 8, 9, 10, 11, 12] [13, 14] [[], [], [], [], [], [], [], [], [], [], [], [.new 0], []] [[.new 0], []] mixed (by decide +kernel) ?_ | refine awp_regionS (id := 21) [0, 1, 2, 3, 4, 5, 6, 7, 8, 9, 10, 11, 12, 13] [14, 15] [[], [], [], [], [], [], [], [], [], [], [], [], [.new 0], []] [[.new 0], []] mixed (by decide +kernel) ?_ | refine awp_condM ?_ | refine And.intro ?_ ?_ | refine gM_splitN ?_ ?_ | refine gM_split ?_ ?_ | refine condM_splitDN ?_ ?_ | refine condM_splitD ?_ ?_ | refine condM_splitN ?_ ?_ | refine condM_split ?_ ?_ | refine condM_any ?_ ?_ | refine cw (hA) ?_ | refine cw (cf) ?_ | refine cw (cc) ?_ | refine cw (c1) ?_ | refine cw (c2) ?_ | refine cw (c3) ?_ | refine cw (c4) ?_ | refine cw (q1) ?_ | intro _) | (simp [*, h3']))
            all_goals first | omega | skip
          · have q2 := ce (r + 1)
            rw [he (r + 1) (by omega) (by omega) (h5 (r + 1) (by omega) (by omega))] at q2
            have h4' := h4 (by omega)
            clear ce he h ho hf hE hT h1 h2 h4 h5
            generalize soonA n a b r = x1 at *
            generalize lateA n a b r = x2 at *
            generalize soonA n a b (r + 1) = y1 at *
            generalize lateA n a b (r + 1) = y2 at *
            unfold aNet cNet markP at *
            have h3' : ¬ t3 < x2 := by omega
            have hr0 : ¬ r < 0 := by omega
            refine realcall_intro Try.func4 (by kernel_rfl) rfl (Nat.le_of_ble_eq_true (by kernel_rfl)) ?_
            simp only [Try.results4, Try.ntmps4]
            repeat' (first | (with_reducible first | refine awp_seq ?_ | refine awp_blockS ?_ | refine awp_blockC ?_ | refine awp_blockR ?_ | refine awp_skip ?_ | refine awp_ret ?_ | refine awp_exit ?_ | refine awp_region ?_ | refine awp_regionD (id := 5) 9 mixed (by decide +kernel) ?_ | refine awp_regionS (id := 16) [0, 1, 2, 3, 4, 5, 6, 7, 8, 9, 10, 11, 12] [13, 14] [[], [], [], [], [], [], [], [], [], [], [], [.new 0], []] [[.new 0], []] mixed (by decide +kernel) ?_ | refine awp_regionS (id := 21) [0, 1, 2, 3, 4, 5, 6, 7, 8, 9, 10, 11, 12, 13] [14, 15] [[], [], [], [], [], [], [], [], [], [], [], [], [.new 0], []] [[.new 0], []] mixed (by decide +kernel) ?_ | refine awp_condM ?_ | refine And.intro ?_ ?_ | refine gM_splitN ?_ ?_ | refine gM_split ?_ ?_ | refine condM_splitDN ?_ ?_ | refine condM_splitD ?_ ?_ | refine condM_splitN ?_ ?_ | refine condM_split ?_ ?_ | refine condM_any ?_ ?_ | refine cw (hA) ?_ | refine cw (cf) ?_ | refine cw (cc) ?_ | refine cw (c1) ?_ | refine cw (c2) ?_ | refine cw (c3) ?_ | refine cw (c4) ?_ | refine cw (q1) ?_ | refine cw (q2) ?_ | intro _) | (simp [*, h3', h4', hm, hr0]))
            all_goals first
              | exact inI64 (by omega) (by omega)
              | omega
              | skip
      · rw [latestS_bad ho hT] at c1
        clear h hf ho hE
        unfold aNet cNet at *
        refine realcall_intro Try.func4 (by kernel_rfl) rfl (Nat.le_of_ble_eq_true (by kernel_rfl)) ?_
        simp only [Try.results4, Try.ntmps4]
        repeat' (first | (with_reducible first | refine awp_seq ?_ | refine awp_blockS ?_ | refine awp_blockC ?_ | refine awp_blockR ?_ | refine awp_skip ?_ | refine awp_ret ?_ | refine awp_exit ?_ | refine awp_region ?_ | refine awp_regionD (id := 5) 9 mixed (by decide +kernel) ?_ | refine awp_regionS (id := 16) [0, 1, 2, 3, 4, 5, 6, 7, 8, 9, 10, 11, 12] [13, 14] [[], [], [], [], [], [], [], [], [], [], [], [.new 0], []] [[.new 0], []] mixed (by decide +kernel) ?_ | refine awp_regionS (id := 21) [0, 1, 2, 3, 4, 5, 6, 7, 8, 9, 10, 11, 12, 13] [14, 15] [[], [], [], [], [], [], [], [], [], [], [], [], [.new 0], []] [[.new 0], []] mixed (by decide +kernel) ?_ | refine awp_condM ?_ | refine And.intro ?_ ?_ | refine gM_splitN ?_ ?_ | refine gM_split ?_ ?_ | refine condM_splitDN ?_ ?_ | refine condM_splitD ?_ ?_ | refine condM_splitN ?_ ?_ | refine condM_split ?_ ?_ | refine condM_any ?_ ?_ | refine cw (hA) ?_ | refine cw (cf) ?_ | refine cw (cc) ?_ | refine cw (c1) ?_ | refine cw (c2) ?_ | refine cw (c3) ?_ | intro _) | (simp [*, hT]))
    · rw [latestS_bad (otE_net hE) hE] at c1
      clear h hf
      unfold aNet cNet at *
      refine realcall_intro Try.func4 (by kernel_rfl) rfl (Nat.le_of_ble_eq_true (by kernel_rfl)) ?_
      simp only [Try.results4, Try.ntmps4]
      repeat' (first | (with_reducible first | refine awp_seq ?_ | refine awp_blockS ?_ | refine awp_blockC ?_ | refine awp_blockR ?_ | refine awp_skip ?_ | refine awp_ret ?_ | refine awp_exit ?_ | refine awp_region ?_ | refine awp_regionD (id := 5) 9 mixed (by decide +kernel) ?_ | refine awp_regionS (id := 16) [0, 1, 2, 3, 4, 5, 6, 7, 8, 9, 10, 11, 12] [13, 14] [[], [], [], [], [], [], [], [], [], [], [], [.new 0], []] [[.new 0], []] mixed (by decide +kernel) ?_ | refine awp_regionS (id := 21) [0, 1, 2, 3, 4, 5, 6, 7, 8, 9, 10, 11, 12, 13] [14, 15] [[], [], [], [], [], [], [], [], [], [], [], [], [.new 0], []] [[.new 0], []] mixed (by decide +kernel) ?_ | refine awp_condM ?_ | refine And.intro ?_ ?_ | refine gM_splitN ?_ ?_ | refine gM_split ?_ ?_ | refine condM_splitDN ?_ ?_ | refine condM_splitD ?_ ?_ | refine condM_splitN ?_ ?_ | refine condM_split ?_ ?_ | refine condM_any ?_ ?_ | refine cw (hA) ?_ | refine cw (cf) ?_ | refine cw (cc) ?_ | refine cw (c1) ?_ | refine cw (c2) ?_ | refine cw (c3) ?_ | intro _) | (simp [*, hE]))
end Go.Proofs.Ytmedbghkldmlhaa
