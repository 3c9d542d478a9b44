/- Contracts of functions for this claim: lemmas alone. -/
import Derived.Test.YtdgbfbgnbgfmjaaGreatDoorP67
import Derived.Test.YtdgbfbgnbgfmjaaGreatDoorP32
import Derived.Test.YtdgbfbgnbgfmjaaGreatDoorP29
set_option linter.unusedSimpArgs false
set_option linter.unusedVariables false
namespace Go.Proofs.YtdgbfbgnbgfmjaaGreatDoor
open Go Go.Fi
set_option maxRecDepth 20000

/-! ### AccountDecides -/
theorem decS_bad {c : Compl} (h : ¬ decH c = 0) : decS c = (0, 0, decH c) := if_neg h
theorem decS_cases {c : Compl} (h : decH c = 0) : ∃ n a : Int, decS c = (n, a, 0) ∧ ¬ n < 0 ∧ (n = 0 ∧ ¬ c.hi + c.slack < c.paid ∨ 0 < n ∧ a = 2 ∧ n ≤ 1000000000 ∧ c.paid - n = c.hi) := by
  obtain ⟨⟨p1, p2⟩, q1, q2⟩ := decH_zero h
  obtain ⟨s1, s2⟩ := decH_slack h
  unfold decS
  rw [if_pos h]
  by_cases h1 : c.paid - c.hi ≤ 0
  · rw [if_pos h1]; exact ⟨0, 0, rfl, by omega, .inl ⟨rfl, by omega⟩⟩
  · rw [if_neg h1]
    by_cases h2 : c.paid - c.hi ≤ c.slack
    · rw [if_pos h2]; exact ⟨0, 1, rfl, by omega, .inl ⟨rfl, by omega⟩⟩
    · rw [if_neg h2]; exact ⟨c.paid - c.hi, 2, rfl, by omega, .inr ⟨by omega, rfl, by omega, by omega⟩⟩
theorem sameNo1 : RealCall Tryz.prog 32 [.agg [.int .i64 0, .str ⟨#[]⟩, .sl 0 []], .agg [.int .i64 0, .str ⟨#[]⟩, .sl 0 []]] (.bool true) true := sameEntry_c noEntry (by decide)
theorem sameNo2 : RealCall Tryz.prog 32 [.agg [.int .i64 0, .str ⟨#[]⟩, .sl 0 []], .agg [.int .i64 0, .str ByteArray.empty, .sl 0 []]] (.bool true) true := sameEntry_c noEntry (by decide)
set_option maxHeartbeats 16000000 in
theorem decides_main (l : List Acc) (hl : AccsIn l) (hf : RealCall Tryz.prog 25 [.sl l.length (cAccs l)] (.bool true) true) (r : Rule) (c : Compl) (o1 : ¬ 20 < (r.owner.size : Int)) (o2 : ¬ 20 < (r.driver.size : Int)) (o3 : ¬ 20 < (r.office.size : Int)) (o4 : ¬ 20 < (r.cash.size : Int)) (o5 : ¬ 20 < (r.vouch.size : Int)) (o6 : ¬ 20 < (c.note.size : Int)) :
    RealCall Tryz.prog 9 [.sl l.length (cAccs l), .agg (cRule r), .agg (cCompl c)] (.bool true) true := by
  have c0 := awake_c
  have hn : c.note.size < 1000000 := by omega
  have c1 := copyNames_c l (by have := hl.len; omega)
  have c2 := decide_c c hn
  have c3 := rComplaintErr_c c hn
  have c4 := rCheckRule_c l hl r
  have hrule := refund_rule l hl r c
  by_cases hd : decH c = 0
  · obtain ⟨n, a, hD, hn0, hcase⟩ := decS_cases hd
    have c5 := rDecide_c c hd
    rw [hD] at c2 c5
    obtain ⟨⟨p1, p2⟩, q1, q2⟩ := decH_zero hd
    obtain ⟨s1, s2⟩ := decH_slack hd
    rw [hd] at c3
    by_cases hr : ruleS l r = 0
    · rw [hr] at c4
      obtain ⟨_, hs0⟩ := ruleS_zero hr
      have hs := sharesOk hs0
      rcases hcase with ⟨rfl, hB⟩ | ⟨hp, rfl, hp1, hq⟩
      · have hrE : rE c = 12 := by unfold rE; rw [hD]; rfl
        have c6 := refund_dec l hl r c hn hr (by rw [hrE]; decide)
        rw [hrE] at c6
        have c7 := rRefund_none r c hd (by rw [hD])
        have c8 := sameNo1
        have c9 := sameNo2
        clear hrule hd hD hr hs0 hs hrE hn0 hl hn
        obtain ⟨cd, cn, cp, cl, ch, cs⟩ := c
        unfold cRule cCompl at *
        try unfold cEntry at *
        dsimp only at *
        refine realcall_intro Tryz.func9 (by kernel_rfl) rfl (Nat.le_of_ble_eq_true (by kernel_rfl)) ?_
        simp only [Tryz.results9, Tryz.ntmps9]
        repeat' (first | (with_reducible first | refine awp_seq ?_ | refine awp_blockS ?_ | refine awp_blockC ?_ | refine awp_blockR ?_ | refine awp_skip ?_ | refine awp_ret ?_ | refine awp_exit ?_ | refine awp_region ?_ | refine awp_regionS (id := 6) [0, 1, 2, 3, 4, 5, 6, 7, 8] [9, 10] [[], [], [], [], [], [], [], [.new 0], []] [[.new 0], []] mixed (by decide +kernel) ?_ | refine awp_condM ?_ | refine And.intro ?_ ?_ | apply gQ_merge | apply gE_merge | exact EqV_w | exact EqE_w | exact EqV_ptr | exact EqE_ptr | exact EqV_msl | exact EqE_msl | exact EqV_agg | exact EqE_agg | exact EqV_fn | exact EqE_fn | exact EqV_gd | exact EqE_gd | refine gM_splitN ?_ ?_ | refine gM_split ?_ ?_ |  refine condM_splitDN ?_ ?_ | refine condM_splitD ?_ ?_ | refine condM_splitN ?_ ?_ | refine condM_split ?_ ?_ | refine condM_any ?_ ?_ | refine cw (c0) ?_ | refine cw (hf) ?_ | refine cw (c1) ?_ | refine cw (c2) ?_ | refine cw (c3) ?_ | refine cw (c4) ?_ | refine cw (c5) ?_ | refine cw (c6) ?_ | refine cw (c7) ?_ | refine cw (c8) ?_ | refine cw (c9) ?_ | intro _) | (simp [*, o1, o2, o3, o4, o5, o6, hB]) | (refine cw_eq (c0) ?_ ?_; (· (simp [*]; done))) | (refine cw_eq (hf) ?_ ?_; (· (simp [*]; done))) | (refine cw_eq (c1) ?_ ?_; (· (simp [*]; done))) | (refine cw_eq (c2) ?_ ?_; (· (simp [*]; done))) | (refine cw_eq (c3) ?_ ?_; (· (simp [*]; done))) | (refine cw_eq (c4) ?_ ?_; (· (simp [*]; done))) | (refine cw_eq (c5) ?_ ?_; (· (simp [*]; done))) | (refine cw_eq (c6) ?_ ?_; (· (simp [*]; done))) | (refine cw_eq (c7) ?_ ?_; (· (simp [*]; done))) | (refine cw_eq (c8) ?_ ?_; (· (simp [*]; done))) | (refine cw_eq (c9) ?_ ?_; (· (simp [*]; done))))
        all_goals try first | exact inI64 (by omega) (by omega) | omega
      · have hrE : rE c = 0 := by unfold rE; rw [hD, decide_eq_true hp]; rfl
        have c6 := refund_ok l hl r c hn hr hrE n hD hp hp1
        have c7 := rRefund_ok r hs hs0 c hn hd n (by rw [hD]) hp hp1
        have c8 := sameEntry_c ⟨c.date, c.note, negL (fareL r n 0 0 (partsS r n))⟩ (by have := fareL_len r n 0 0 (partsS r n); rw [negL_len]; omega)
        have hB : ¬ c.hi + c.slack < c.hi := by omega
        clear hrule hd hD hr hs0 hs hrE hl hn
        generalize negL (fareL r n 0 0 (partsS r n)) = L at *
        obtain ⟨cd, cn, cp, cl, ch, cs⟩ := c
        unfold cRule cCompl at *
        try unfold cEntry at *
        dsimp only at *
        refine realcall_intro Tryz.func9 (by kernel_rfl) rfl (Nat.le_of_ble_eq_true (by kernel_rfl)) ?_
        simp only [Tryz.results9, Tryz.ntmps9]
        repeat' (first | (with_reducible first | refine awp_seq ?_ | refine awp_blockS ?_ | refine awp_blockC ?_ | refine awp_blockR ?_ | refine awp_skip ?_ | refine awp_ret ?_ | refine awp_exit ?_ | refine awp_region ?_ | refine awp_regionS (id := 6) [0, 1, 2, 3, 4, 5, 6, 7, 8] [9, 10] [[], [], [], [], [], [], [], [.new 0], []] [[.new 0], []] mixed (by decide +kernel) ?_ | refine awp_condM ?_ | refine And.intro ?_ ?_ | apply gQ_merge | apply gE_merge | exact EqV_w | exact EqE_w | exact EqV_ptr | exact EqE_ptr | exact EqV_msl | exact EqE_msl | exact EqV_agg | exact EqE_agg | exact EqV_fn | exact EqE_fn | exact EqV_gd | exact EqE_gd | refine gM_splitN ?_ ?_ | refine gM_split ?_ ?_ |  refine condM_splitDN ?_ ?_ | refine condM_splitD ?_ ?_ | refine condM_splitN ?_ ?_ | refine condM_split ?_ ?_ | refine condM_any ?_ ?_ | refine cw (c0) ?_ | refine cw (hf) ?_ | refine cw (c1) ?_ | refine cw (c2) ?_ | refine cw (c3) ?_ | refine cw (c4) ?_ | refine cw (c5) ?_ | refine cw (c6) ?_ | refine cw (c7) ?_ | refine cw (c8) ?_ | intro _) | (simp [*, o1, o2, o3, o4, o5, o6, hB, hn0, hp, hq]) | (refine cw_eq (c0) ?_ ?_; (· (simp [*]; done))) | (refine cw_eq (hf) ?_ ?_; (· (simp [*]; done))) | (refine cw_eq (c1) ?_ ?_; (· (simp [*]; done))) | (refine cw_eq (c2) ?_ ?_; (· (simp [*]; done))) | (refine cw_eq (c3) ?_ ?_; (· (simp [*]; done))) | (refine cw_eq (c4) ?_ ?_; (· (simp [*]; done))) | (refine cw_eq (c5) ?_ ?_; (· (simp [*]; done))) | (refine cw_eq (c6) ?_ ?_; (· (simp [*]; done))) | (refine cw_eq (c7) ?_ ?_; (· (simp [*]; done))) | (refine cw_eq (c8) ?_ ?_; (· (simp [*]; done))))
        all_goals try first | exact inI64 (by omega) (by omega) | omega
    · have c6 := hrule hr
      have c8 := sameNo1
      have c9 := sameNo2
      generalize ruleS l r = R at *
      rcases hcase with ⟨rfl, hB⟩ | ⟨hp, rfl, hp1, hq⟩
      · clear hrule hd hD hn0 hl hn
        obtain ⟨cd, cn, cp, cl, ch, cs⟩ := c
        unfold cRule cCompl at *
        try unfold cEntry at *
        dsimp only at *
        refine realcall_intro Tryz.func9 (by kernel_rfl) rfl (Nat.le_of_ble_eq_true (by kernel_rfl)) ?_
        simp only [Tryz.results9, Tryz.ntmps9]
        repeat' (first | (with_reducible first | refine awp_seq ?_ | refine awp_blockS ?_ | refine awp_blockC ?_ | refine awp_blockR ?_ | refine awp_skip ?_ | refine awp_ret ?_ | refine awp_exit ?_ | refine awp_region ?_ | refine awp_regionS (id := 6) [0, 1, 2, 3, 4, 5, 6, 7, 8] [9, 10] [[], [], [], [], [], [], [], [.new 0], []] [[.new 0], []] mixed (by decide +kernel) ?_ | refine awp_condM ?_ | refine And.intro ?_ ?_ | apply gQ_merge | apply gE_merge | exact EqV_w | exact EqE_w | exact EqV_ptr | exact EqE_ptr | exact EqV_msl | exact EqE_msl | exact EqV_agg | exact EqE_agg | exact EqV_fn | exact EqE_fn | exact EqV_gd | exact EqE_gd | refine gM_splitN ?_ ?_ | refine gM_split ?_ ?_ |  refine condM_splitDN ?_ ?_ | refine condM_splitD ?_ ?_ | refine condM_splitN ?_ ?_ | refine condM_split ?_ ?_ | refine condM_any ?_ ?_ | refine cw (c0) ?_ | refine cw (hf) ?_ | refine cw (c1) ?_ | refine cw (c2) ?_ | refine cw (c3) ?_ | refine cw (c4) ?_ | refine cw (c5) ?_ | refine cw (c6) ?_ | refine cw (c8) ?_ | refine cw (c9) ?_ | intro _) | (simp [*, o1, o2, o3, o4, o5, o6, hB, hr]) | (refine cw_eq (c0) ?_ ?_; (· (simp [*]; done))) | (refine cw_eq (hf) ?_ ?_; (· (simp [*]; done))) | (refine cw_eq (c1) ?_ ?_; (· (simp [*]; done))) | (refine cw_eq (c2) ?_ ?_; (· (simp [*]; done))) | (refine cw_eq (c3) ?_ ?_; (· (simp [*]; done))) | (refine cw_eq (c4) ?_ ?_; (· (simp [*]; done))) | (refine cw_eq (c5) ?_ ?_; (· (simp [*]; done))) | (refine cw_eq (c6) ?_ ?_; (· (simp [*]; done))) | (refine cw_eq (c8) ?_ ?_; (· (simp [*]; done))) | (refine cw_eq (c9) ?_ ?_; (· (simp [*]; done))))
        all_goals try first | exact inI64 (by omega) (by omega) | omega
      · have hB : ¬ c.hi + c.slack < c.hi := by omega
        clear hrule hd hD hl hn
        obtain ⟨cd, cn, cp, cl, ch, cs⟩ := c
        unfold cRule cCompl at *
        try unfold cEntry at *
        dsimp only at *
        refine realcall_intro Tryz.func9 (by kernel_rfl) rfl (Nat.le_of_ble_eq_true (by kernel_rfl)) ?_
        simp only [Tryz.results9, Tryz.ntmps9]
        repeat' (first | (with_reducible first | refine awp_seq ?_ | refine awp_blockS ?_ | refine awp_blockC ?_ | refine awp_blockR ?_ | refine awp_skip ?_ | refine awp_ret ?_ | refine awp_exit ?_ | refine awp_region ?_ | refine awp_regionS (id := 6) [0, 1, 2, 3, 4, 5, 6, 7, 8] [9, 10] [[], [], [], [], [], [], [], [.new 0], []] [[.new 0], []] mixed (by decide +kernel) ?_ | refine awp_condM ?_ | refine And.intro ?_ ?_ | apply gQ_merge | apply gE_merge | exact EqV_w | exact EqE_w | exact EqV_ptr | exact EqE_ptr | exact EqV_msl | exact EqE_msl | exact EqV_agg | exact EqE_agg | exact EqV_fn | exact EqE_fn | exact EqV_gd | exact EqE_gd | refine gM_splitN ?_ ?_ | refine gM_split ?_ ?_ |  refine condM_splitDN ?_ ?_ | refine condM_splitD ?_ ?_ | refine condM_splitN ?_ ?_ | refine condM_split ?_ ?_ | refine condM_any ?_ ?_ | refine cw (c0) ?_ | refine cw (hf) ?_ | refine cw (c1) ?_ | refine cw (c2) ?_ | refine cw (c3) ?_ | refine cw (c4) ?_ | refine cw (c5) ?_ | refine cw (c6) ?_ | refine cw (c8) ?_ | refine cw (c9) ?_ | intro _) | (simp [*, o1, o2, o3, o4, o5, o6, hB, hn0, hp, hq, hr]) | (refine cw_eq (c0) ?_ ?_; (· (simp [*]; done))) | (refine cw_eq (hf) ?_ ?_; (· (simp [*]; done))) | (refine cw_eq (c1) ?_ ?_; (· (simp [*]; done))) | (refine cw_eq (c2) ?_ ?_; (· (simp [*]; done))) | (refine cw_eq (c3) ?_ ?_; (· (simp [*]; done))) | (refine cw_eq (c4) ?_ ?_; (· (simp [*]; done))) | (refine cw_eq (c5) ?_ ?_; (· (simp [*]; done))) | (refine cw_eq (c6) ?_ ?_; (· (simp [*]; done))) | (refine cw_eq (c8) ?_ ?_; (· (simp [*]; done))) | (refine cw_eq (c9) ?_ ?_; (· (simp [*]; done))))
        all_goals try first | exact inI64 (by omega) (by omega) | omega
  · have c8 := sameNo1
    have c9 := sameNo2
    rw [decS_bad hd] at c2
    by_cases hr : ruleS l r = 0
    · rw [hr] at c4
      have hrE : rE c = decH c := by unfold rE; rw [decS_bad hd]; simp [firstS, hd]
      have c6 := refund_dec l hl r c hn hr (by rw [hrE]; exact hd)
      rw [hrE] at c6
      clear hrule hr hrE hl hn
      generalize decH c = H at *
      unfold cRule cCompl at *
      try unfold cEntry at *
      dsimp only at *
      refine realcall_intro Tryz.func9 (by kernel_rfl) rfl (Nat.le_of_ble_eq_true (by kernel_rfl)) ?_
      simp only [Tryz.results9, Tryz.ntmps9]
      repeat' (first | (with_reducible first | refine awp_seq ?_ | refine awp_blockS ?_ | refine awp_blockC ?_ | refine awp_blockR ?_ | refine awp_skip ?_ | refine awp_ret ?_ | refine awp_exit ?_ | refine awp_region ?_ | refine awp_regionS (id := 6) [0, 1, 2, 3, 4, 5, 6, 7, 8] [9, 10] [[], [], [], [], [], [], [], [.new 0], []] [[.new 0], []] mixed (by decide +kernel) ?_ | refine awp_condM ?_ | refine And.intro ?_ ?_ | apply gQ_merge | apply gE_merge | exact EqV_w | exact EqE_w | exact EqV_ptr | exact EqE_ptr | exact EqV_msl | exact EqE_msl | exact EqV_agg | exact EqE_agg | exact EqV_fn | exact EqE_fn | exact EqV_gd | exact EqE_gd | refine gM_splitN ?_ ?_ | refine gM_split ?_ ?_ |  refine condM_splitDN ?_ ?_ | refine condM_splitD ?_ ?_ | refine condM_splitN ?_ ?_ | refine condM_split ?_ ?_ | refine condM_any ?_ ?_ | refine cw (c0) ?_ | refine cw (hf) ?_ | refine cw (c1) ?_ | refine cw (c2) ?_ | refine cw (c3) ?_ | refine cw (c4) ?_ | refine cw (c6) ?_ | refine cw (c8) ?_ | refine cw (c9) ?_ | intro _) | (simp [*, o1, o2, o3, o4, o5, o6, hd]) | (refine cw_eq (c0) ?_ ?_; (· (simp [*]; done))) | (refine cw_eq (hf) ?_ ?_; (· (simp [*]; done))) | (refine cw_eq (c1) ?_ ?_; (· (simp [*]; done))) | (refine cw_eq (c2) ?_ ?_; (· (simp [*]; done))) | (refine cw_eq (c3) ?_ ?_; (· (simp [*]; done))) | (refine cw_eq (c4) ?_ ?_; (· (simp [*]; done))) | (refine cw_eq (c6) ?_ ?_; (· (simp [*]; done))) | (refine cw_eq (c8) ?_ ?_; (· (simp [*]; done))) | (refine cw_eq (c9) ?_ ?_; (· (simp [*]; done))))
    · have c6 := hrule hr
      clear hrule hl hn
      generalize ruleS l r = R at *
      generalize decH c = H at *
      unfold cRule cCompl at *
      try unfold cEntry at *
      dsimp only at *
      refine realcall_intro Tryz.func9 (by kernel_rfl) rfl (Nat.le_of_ble_eq_true (by kernel_rfl)) ?_
      simp only [Tryz.results9, Tryz.ntmps9]
      repeat' (first | (with_reducible first | refine awp_seq ?_ | refine awp_blockS ?_ | refine awp_blockC ?_ | refine awp_blockR ?_ | refine awp_skip ?_ | refine awp_ret ?_ | refine awp_exit ?_ | refine awp_region ?_ | refine awp_regionS (id := 6) [0, 1, 2, 3, 4, 5, 6, 7, 8] [9, 10] [[], [], [], [], [], [], [], [.new 0], []] [[.new 0], []] mixed (by decide +kernel) ?_ | refine awp_condM ?_ | refine And.intro ?_ ?_ | apply gQ_merge | apply gE_merge | exact EqV_w | exact EqE_w | exact EqV_ptr | exact EqE_ptr | exact EqV_msl | exact EqE_msl | exact EqV_agg | exact EqE_agg | exact EqV_fn | exact EqE_fn | exact EqV_gd | exact EqE_gd | refine gM_splitN ?_ ?_ | refine gM_split ?_ ?_ |  refine condM_splitDN ?_ ?_ | refine condM_splitD ?_ ?_ | refine condM_splitN ?_ ?_ | refine condM_split ?_ ?_ | refine condM_any ?_ ?_ | refine cw (c0) ?_ | refine cw (hf) ?_ | refine cw (c1) ?_ | refine cw (c2) ?_ | refine cw (c3) ?_ | refine cw (c4) ?_ | refine cw (c6) ?_ | refine cw (c8) ?_ | refine cw (c9) ?_ | intro _) | (simp [*, o1, o2, o3, o4, o5, o6, hd, hr]) | (refine cw_eq (c0) ?_ ?_; (· (simp [*]; done))) | (refine cw_eq (hf) ?_ ?_; (· (simp [*]; done))) | (refine cw_eq (c1) ?_ ?_; (· (simp [*]; done))) | (refine cw_eq (c2) ?_ ?_; (· (simp [*]; done))) | (refine cw_eq (c3) ?_ ?_; (· (simp [*]; done))) | (refine cw_eq (c4) ?_ ?_; (· (simp [*]; done))) | (refine cw_eq (c6) ?_ ?_; (· (simp [*]; done))) | (refine cw_eq (c8) ?_ ?_; (· (simp [*]; done))) | (refine cw_eq (c9) ?_ ?_; (· (simp [*]; done))))
theorem accountDecides_c (l : List Acc) (r : Rule) (c : Compl) : RealCall Tryz.prog 9 [.sl l.length (cAccs l), .agg (cRule r), .agg (cCompl c)] (.bool true) true := by
  have c0 := awake_c
  have hf := few_c l
  cases h1 : fewB l with
  | false =>
    rw [h1] at hf
    clear h1
    unfold cRule cCompl
    refine realcall_intro Tryz.func9 (by kernel_rfl) rfl (Nat.le_of_ble_eq_true (by kernel_rfl)) ?_
    simp only [Tryz.results9, Tryz.ntmps9]
    repeat' (first | (with_reducible first | refine awp_seq ?_ | refine awp_blockS ?_ | refine awp_blockC ?_ | refine awp_blockR ?_ | refine awp_skip ?_ | refine awp_ret ?_ | refine awp_exit ?_ | refine awp_region ?_ | refine awp_regionS (id := 6) [0, 1, 2, 3, 4, 5, 6, 7, 8] [9, 10] [[], [], [], [], [], [], [], [.new 0], []] [[.new 0], []] mixed (by decide +kernel) ?_ | refine awp_condM ?_ | refine And.intro ?_ ?_ | apply gQ_merge | apply gE_merge | exact EqV_w | exact EqE_w | exact EqV_ptr | exact EqE_ptr | exact EqV_msl | exact EqE_msl | exact EqV_agg | exact EqE_agg | exact EqV_fn | exact EqE_fn | exact EqV_gd | exact EqE_gd | refine gM_splitN ?_ ?_ | refine gM_split ?_ ?_ |  refine condM_splitDN ?_ ?_ | refine condM_splitD ?_ ?_ | refine condM_splitN ?_ ?_ | refine condM_split ?_ ?_ | refine condM_any ?_ ?_ | refine cw (c0) ?_ | refine cw (hf) ?_ | intro _) | (simp [*]) | (refine cw_eq (c0) ?_ ?_; (· (simp [*]; done))) | (refine cw_eq (hf) ?_ ?_; (· (simp [*]; done))))
  | true =>
    rw [h1] at hf
    have hl := fewB_in h1
    clear h1
    by_cases o1 : 20 < (r.owner.size : Int)
    · clear hl
      unfold cRule cCompl
      refine realcall_intro Tryz.func9 (by kernel_rfl) rfl (Nat.le_of_ble_eq_true (by kernel_rfl)) ?_
      simp only [Tryz.results9, Tryz.ntmps9]
      repeat' (first | (with_reducible first | refine awp_seq ?_ | refine awp_blockS ?_ | refine awp_blockC ?_ | refine awp_blockR ?_ | refine awp_skip ?_ | refine awp_ret ?_ | refine awp_exit ?_ | refine awp_region ?_ | refine awp_regionS (id := 6) [0, 1, 2, 3, 4, 5, 6, 7, 8] [9, 10] [[], [], [], [], [], [], [], [.new 0], []] [[.new 0], []] mixed (by decide +kernel) ?_ | refine awp_condM ?_ | refine And.intro ?_ ?_ | apply gQ_merge | apply gE_merge | exact EqV_w | exact EqE_w | exact EqV_ptr | exact EqE_ptr | exact EqV_msl | exact EqE_msl | exact EqV_agg | exact EqE_agg | exact EqV_fn | exact EqE_fn | exact EqV_gd | exact EqE_gd | refine gM_splitN ?_ ?_ | refine gM_split ?_ ?_ |  refine condM_splitDN ?_ ?_ | refine condM_splitD ?_ ?_ | refine condM_splitN ?_ ?_ | refine condM_split ?_ ?_ | refine condM_any ?_ ?_ | refine cw (c0) ?_ | refine cw (hf) ?_ | intro _) | (simp [*, o1]) | (refine cw_eq (c0) ?_ ?_; (· (simp [*]; done))) | (refine cw_eq (hf) ?_ ?_; (· (simp [*]; done))))
    by_cases o2 : 20 < (r.driver.size : Int)
    · clear hl
      unfold cRule cCompl
      refine realcall_intro Tryz.func9 (by kernel_rfl) rfl (Nat.le_of_ble_eq_true (by kernel_rfl)) ?_
      simp only [Tryz.results9, Tryz.ntmps9]
      repeat' (first | (with_reducible first | refine awp_seq ?_ | refine awp_blockS ?_ | refine awp_blockC ?_ | refine awp_blockR ?_ | refine awp_skip ?_ | refine awp_ret ?_ | refine awp_exit ?_ | refine awp_region ?_ | refine awp_regionS (id := 6) [0, 1, 2, 3, 4, 5, 6, 7, 8] [9, 10] [[], [], [], [], [], [], [], [.new 0], []] [[.new 0], []] mixed (by decide +kernel) ?_ | refine awp_condM ?_ | refine And.intro ?_ ?_ | apply gQ_merge | apply gE_merge | exact EqV_w | exact EqE_w | exact EqV_ptr | exact EqE_ptr | exact EqV_msl | exact EqE_msl | exact EqV_agg | exact EqE_agg | exact EqV_fn | exact EqE_fn | exact EqV_gd | exact EqE_gd | refine gM_splitN ?_ ?_ | refine gM_split ?_ ?_ |  refine condM_splitDN ?_ ?_ | refine condM_splitD ?_ ?_ | refine condM_splitN ?_ ?_ | refine condM_split ?_ ?_ | refine condM_any ?_ ?_ | refine cw (c0) ?_ | refine cw (hf) ?_ | intro _) | (simp [*, o1, o2]) | (refine cw_eq (c0) ?_ ?_; (· (simp [*]; done))) | (refine cw_eq (hf) ?_ ?_; (· (simp [*]; done))))
    by_cases o3 : 20 < (r.office.size : Int)
    · clear hl
      unfold cRule cCompl
      refine realcall_intro Tryz.func9 (by kernel_rfl) rfl (Nat.le_of_ble_eq_true (by kernel_rfl)) ?_
      simp only [Tryz.results9, Tryz.ntmps9]
      repeat' (first | (with_reducible first | refine awp_seq ?_ | refine awp_blockS ?_ | refine awp_blockC ?_ | refine awp_blockR ?_ | refine awp_skip ?_ | refine awp_ret ?_ | refine awp_exit ?_ | refine awp_region ?_ | refine awp_regionS (id := 6) [0, 1, 2, 3, 4, 5, 6, 7, 8] [9, 10] [[], [], [], [], [], [], [], [.new 0], []] [[.new 0], []] mixed (by decide +kernel) ?_ | refine awp_condM ?_ | refine And.intro ?_ ?_ | apply gQ_merge | apply gE_merge | exact EqV_w | exact EqE_w | exact EqV_ptr | exact EqE_ptr | exact EqV_msl | exact EqE_msl | exact EqV_agg | exact EqE_agg | exact EqV_fn | exact EqE_fn | exact EqV_gd | exact EqE_gd | refine gM_splitN ?_ ?_ | refine gM_split ?_ ?_ |  refine condM_splitDN ?_ ?_ | refine condM_splitD ?_ ?_ | refine condM_splitN ?_ ?_ | refine condM_split ?_ ?_ | refine condM_any ?_ ?_ | refine cw (c0) ?_ | refine cw (hf) ?_ | intro _) | (simp [*, o1, o2, o3]) | (refine cw_eq (c0) ?_ ?_; (· (simp [*]; done))) | (refine cw_eq (hf) ?_ ?_; (· (simp [*]; done))))
    by_cases o4 : 20 < (r.cash.size : Int)
    · clear hl
      unfold cRule cCompl
      refine realcall_intro Tryz.func9 (by kernel_rfl) rfl (Nat.le_of_ble_eq_true (by kernel_rfl)) ?_
      simp only [Tryz.results9, Tryz.ntmps9]
      repeat' (first | (with_reducible first | refine awp_seq ?_ | refine awp_blockS ?_ | refine awp_blockC ?_ | refine awp_blockR ?_ | refine awp_skip ?_ | refine awp_ret ?_ | refine awp_exit ?_ | refine awp_region ?_ | refine awp_regionS (id := 6) [0, 1, 2, 3, 4, 5, 6, 7, 8] [9, 10] [[], [], [], [], [], [], [], [.new 0], []] [[.new 0], []] mixed (by decide +kernel) ?_ | refine awp_condM ?_ | refine And.intro ?_ ?_ | apply gQ_merge | apply gE_merge | exact EqV_w | exact EqE_w | exact EqV_ptr | exact EqE_ptr | exact EqV_msl | exact EqE_msl | exact EqV_agg | exact EqE_agg | exact EqV_fn | exact EqE_fn | exact EqV_gd | exact EqE_gd | refine gM_splitN ?_ ?_ | refine gM_split ?_ ?_ |  refine condM_splitDN ?_ ?_ | refine condM_splitD ?_ ?_ | refine condM_splitN ?_ ?_ | refine condM_split ?_ ?_ | refine condM_any ?_ ?_ | refine cw (c0) ?_ | refine cw (hf) ?_ | intro _) | (simp [*, o1, o2, o3, o4]) | (refine cw_eq (c0) ?_ ?_; (· (simp [*]; done))) | (refine cw_eq (hf) ?_ ?_; (· (simp [*]; done))))
    by_cases o5 : 20 < (r.vouch.size : Int)
    · clear hl
      unfold cRule cCompl
      refine realcall_intro Tryz.func9 (by kernel_rfl) rfl (Nat.le_of_ble_eq_true (by kernel_rfl)) ?_
      simp only [Tryz.results9, Tryz.ntmps9]
      repeat' (first | (with_reducible first | refine awp_seq ?_ | refine awp_blockS ?_ | refine awp_blockC ?_ | refine awp_blockR ?_ | refine awp_skip ?_ | refine awp_ret ?_ | refine awp_exit ?_ | refine awp_region ?_ | refine awp_regionS (id := 6) [0, 1, 2, 3, 4, 5, 6, 7, 8] [9, 10] [[], [], [], [], [], [], [], [.new 0], []] [[.new 0], []] mixed (by decide +kernel) ?_ | refine awp_condM ?_ | refine And.intro ?_ ?_ | apply gQ_merge | apply gE_merge | exact EqV_w | exact EqE_w | exact EqV_ptr | exact EqE_ptr | exact EqV_msl | exact EqE_msl | exact EqV_agg | exact EqE_agg | exact EqV_fn | exact EqE_fn | exact EqV_gd | exact EqE_gd | refine gM_splitN ?_ ?_ | refine gM_split ?_ ?_ |  refine condM_splitDN ?_ ?_ | refine condM_splitD ?_ ?_ | refine condM_splitN ?_ ?_ | refine condM_split ?_ ?_ | refine condM_any ?_ ?_ | refine cw (c0) ?_ | refine cw (hf) ?_ | intro _) | (simp [*, o1, o2, o3, o4, o5]) | (refine cw_eq (c0) ?_ ?_; (· (simp [*]; done))) | (refine cw_eq (hf) ?_ ?_; (· (simp [*]; done))))
    by_cases o6 : 20 < (c.note.size : Int)
    · clear hl
      unfold cRule cCompl
      refine realcall_intro Tryz.func9 (by kernel_rfl) rfl (Nat.le_of_ble_eq_true (by kernel_rfl)) ?_
      simp only [Tryz.results9, Tryz.ntmps9]
      repeat' (first | (with_reducible first | refine awp_seq ?_ | refine awp_blockS ?_ | refine awp_blockC ?_ | refine awp_blockR ?_ | refine awp_skip ?_ | refine awp_ret ?_ | refine awp_exit ?_ | refine awp_region ?_ | refine awp_regionS (id := 6) [0, 1, 2, 3, 4, 5, 6, 7, 8] [9, 10] [[], [], [], [], [], [], [], [.new 0], []] [[.new 0], []] mixed (by decide +kernel) ?_ | refine awp_condM ?_ | refine And.intro ?_ ?_ | apply gQ_merge | apply gE_merge | exact EqV_w | exact EqE_w | exact EqV_ptr | exact EqE_ptr | exact EqV_msl | exact EqE_msl | exact EqV_agg | exact EqE_agg | exact EqV_fn | exact EqE_fn | exact EqV_gd | exact EqE_gd | refine gM_splitN ?_ ?_ | refine gM_split ?_ ?_ |  refine condM_splitDN ?_ ?_ | refine condM_splitD ?_ ?_ | refine condM_splitN ?_ ?_ | refine condM_split ?_ ?_ | refine condM_any ?_ ?_ | refine cw (c0) ?_ | refine cw (hf) ?_ | intro _) | (simp [*, o1, o2, o3, o4, o5, o6]) | (refine cw_eq (c0) ?_ ?_; (· (simp [*]; done))) | (refine cw_eq (hf) ?_ ?_; (· (simp [*]; done))))
    exact decides_main l hl hf r c o1 o2 o3 o4 o5 o6
end Go.Proofs.YtdgbfbgnbgfmjaaGreatDoor
