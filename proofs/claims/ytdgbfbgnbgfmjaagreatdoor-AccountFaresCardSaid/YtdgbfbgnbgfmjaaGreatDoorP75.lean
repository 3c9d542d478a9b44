/- Contracts of functions for this claim: lemmas alone. -/
import Derived.Test.YtdgbfbgnbgfmjaaGreatDoorP74
import Derived.Test.YtdgbfbgnbgfmjaaGreatDoorP32
import Derived.Test.YtdgbfbgnbgfmjaaGreatDoorP29
set_option linter.unusedSimpArgs false
set_option linter.unusedVariables false
namespace Go.Proofs.YtdgbfbgnbgfmjaaGreatDoor
open Go Go.Fi
set_option maxRecDepth 20000

/-! ### AccountFares -/
theorem sumW_bd (w : ByteArray → Bool) (L : List Line) (h : ∀ j, j < L.length → -1000000000 ≤ (nth L j).amt ∧ (nth L j).amt ≤ 1000000000) : ∀ k : Nat, k ≤ L.length → -(1000000000 * (k : Int)) ≤ sumW w (L.take k) ∧ sumW w (L.take k) ≤ 1000000000 * (k : Int)
  | 0, _ => by simp
  | k + 1, hk => by
    have ih := sumW_bd w L h k (by omega)
    have := h k (by omega)
    rw [sumW_succ w L k (by omega)]
    split <;> omega
theorem sameZ1 : RealCall Tryz.prog 32 [.agg [.int .i64 0, .str ⟨#[]⟩, .sl 0 []], .agg [.int .i64 0, .str ⟨#[]⟩, .sl 0 []]] (.bool true) true := sameEntry_c noEntry (by decide)
theorem sameZ2 : RealCall Tryz.prog 32 [.agg [.int .i64 0, .str ⟨#[]⟩, .sl 0 []], .agg [.int .i64 0, .str ByteArray.empty, .sl 0 []]] (.bool true) true := sameEntry_c noEntry (by decide)
theorem fareR_len (r : Rule) (t : Trip) : (fareR r t).1.lines.length ≤ 6 := by
  unfold fareR
  by_cases h : fareChk 0 t = 0
  · rw [if_pos h]
    by_cases h2 : (fareLn r t).length = 0
    · rw [if_pos h2]; exact Nat.zero_le _
    · rw [if_neg h2]
      unfold largestS
      split
      · exact Nat.zero_le _
      · exact fareL_len r t.fare t.tip t.voucher (partsS r t.fare)
  · rw [if_neg h]; exact Nat.zero_le _
def w3 (r : Rule) (a : ByteArray) : Bool := decide (a = r.owner) || decide (a = r.driver) || decide (a = r.office)
set_option maxHeartbeats 16000000 in
theorem fares_main (l : List Acc) (hl : AccsIn l) (hf : RealCall Tryz.prog 25 [.sl l.length (cAccs l)] (.bool true) true) (r : Rule) (t : Trip) (o1 : ¬ 20 < (r.owner.size : Int)) (o2 : ¬ 20 < (r.driver.size : Int)) (o3 : ¬ 20 < (r.office.size : Int)) (o4 : ¬ 20 < (r.cash.size : Int)) (o5 : ¬ 20 < (r.vouch.size : Int)) (o6 : ¬ 20 < (t.note.size : Int)) :
    RealCall Tryz.prog 6 [.sl l.length (cAccs l), .agg (cRule r), .agg (cTrip t)] (.bool true) true := by
  have c0 := awake_c
  have hn : t.note.size < 1000000 := by omega
  have c1 := copyNames_c l (by have := hl.len; omega)
  have c2 := checkRule_c l hl r
  have c3 := rCheckRule_c l hl r
  by_cases hr : ruleS l r = 0
  · obtain ⟨hrok, hs0⟩ := ruleS_zero hr
    have hs := sharesOk hs0
    have c5 := rFareEntry_c r t hs hs0 hn
    by_cases hc : fareChk 0 t = 0
    · have c4 := fareEntry_ok l hl r t hn hr hc
      rw [hr] at c2 c3
      by_cases he : (fareR r t).2 = 0
      · obtain ⟨q1, q2, q3⟩ := fareR_right hrok hs he
        rw [he, q2] at c4 c5
        rw [q2] at q1
        obtain ⟨_, _, ⟨f1, f2⟩, ⟨u1, u2⟩, _, _⟩ := fareChk_zero hc
        have c6 := sameEntry_c ⟨t.date, t.note, fareLn r t⟩ (by have := fareL_len r t.fare t.tip t.voucher (partsS r t.fare); unfold fareLn; dsimp only; omega)
        obtain ⟨z1, z2⟩ := entryS_zero q1
        have hz := headE_zero z1
        have hlen : (fareLn r t).length ≤ 12 := hz.2.2.2.2
        have hamt : ∀ j, j < (fareLn r t).length → -1000000000 ≤ (nth (fareLn r t) j).amt ∧ (nth (fareLn r t) j).amt ≤ 1000000000 := fun j hj => (lineE_zero (z2 j hj)).2.2
        have c7 := copyEntry_c ⟨t.date, t.note, fareLn r t⟩ (by dsimp only; omega)
        have c8 := checkEntry_c l hl ⟨t.date, t.note, fareLn r t⟩ ⟨hn, by dsimp only; omega⟩
        unfold entryAllS pairI at c8
        rw [if_pos hrok.accs, q1] at c8
        generalize (entryS l ⟨t.date, t.note, fareLn r t⟩).1 = Z at *
        have kb := keep (sumW_bd (w3 r) (fareLn r t) hamt)
        change sumW (w3 r) (fareLn r t) = _ at q3
        generalize fareLn r t = L at *
        clear hr hrok hs0 hs hc he q1 q2 z1 z2 hz hamt hl hn
        have q4 : -(sumW (w3 r) L) = t.fare + t.tip := by omega
        obtain ⟨td, tn, tf, tt, tv⟩ := t
        obtain ⟨ro, rd, rf, s0, s1, s2, rc, rv⟩ := r
        unfold cRule cTrip cEntry at *
        dsimp only at *
        refine realcall_intro Tryz.func6 (by kernel_rfl) rfl (Nat.le_of_ble_eq_true (by kernel_rfl)) ?_
        simp only [Tryz.results6, Tryz.ntmps6]
        repeat' (first | (with_reducible first | refine awp_seq ?_ | refine awp_blockS ?_ | refine awp_blockC ?_ | refine awp_blockR ?_ | refine awp_skip ?_ | refine awp_ret ?_ | refine awp_exit ?_ | refine awp_region ?_ | refine awp_regionS (id := 5) [0, 1, 2, 3, 4, 5, 6, 7, 8] [9, 10] [[], [], [], [], [], [], [], [.new 0], []] [[.new 0], []] mixed (by decide +kernel) ?_ | refine awp_regionD (id := 7) 6 mixed (by decide +kernel) ?_ | refine awp_regionD (id := 16) 10 mixed (by decide +kernel) ?_ | refine awp_condM ?_ | refine And.intro ?_ ?_ | apply gQ_merge | apply gE_merge | exact EqV_w | exact EqE_w | exact EqV_ptr | exact EqE_ptr | exact EqV_msl | exact EqE_msl | exact EqV_agg | exact EqE_agg | exact EqV_fn | exact EqE_fn | exact EqV_gd | exact EqE_gd | refine gM_splitN ?_ ?_ | refine gM_split ?_ ?_ |  refine condM_splitDN ?_ ?_ | refine condM_splitD ?_ ?_ | refine condM_splitN ?_ ?_ | refine condM_split ?_ ?_ | refine condM_any ?_ ?_ | refine cw (c0) ?_ | refine cw (hf) ?_ | refine cw (c1) ?_ | refine cw (c2) ?_ | refine cw (c3) ?_ | refine cw (c4) ?_ | refine cw (c5) ?_ | refine cw (c6) ?_ | refine cw (c7) ?_ | refine cw (c8) ?_ | intro _) | (simp [*, o1, o2, o3, o4, o5, o6]) | (refine cw_eq (c0) ?_ ?_; (· (simp [*]; done))) | (refine cw_eq (hf) ?_ ?_; (· (simp [*]; done))) | (refine cw_eq (c1) ?_ ?_; (· (simp [*]; done))) | (refine cw_eq (c2) ?_ ?_; (· (simp [*]; done))) | (refine cw_eq (c3) ?_ ?_; (· (simp [*]; done))) | (refine cw_eq (c4) ?_ ?_; (· (simp [*]; done))) | (refine cw_eq (c5) ?_ ?_; (· (simp [*]; done))) | (refine cw_eq (c6) ?_ ?_; (· (simp [*]; done))) | (refine cw_eq (c7) ?_ ?_; (· (simp [*]; done))) | (refine cw_eq (c8) ?_ ?_; (· (simp [*]; done))))
        clear c0 hf c1 c2 c3 c4 c5 c6 c7 c8
        refine awp_for3 (fun (k : Nat) => k ≤ L.length) [4, 5, 10] (fun (k : Nat) => [(14, .w false false (.int .i64 k)), (13, .w false false (.int .i64 (-(sumW (w3 ⟨ro, rd, rf, s0, s1, s2, rc, rv⟩) (L.take k)))))]) [0, 1, 3] (fun (k : Nat) => []) (fun (k : Nat) => L.length - k) (fun (_u : Unit) => True) [5] (fun (_u : Unit) => [(13, .w false false (.int .i64 (-(sumW (w3 ⟨ro, rd, rf, s0, s1, s2, rc, rv⟩) L))))]) [1] (fun (_u : Unit) => []) (0) (Nat.zero_le _) (by simp) (by simp) (fun k hk => ?_) (fun _u hf => ?_)
        · by_cases hlt : k < L.length
          · obtain ⟨b1, b2⟩ := (show ∀ k : Nat, k ≤ L.length → -(1000000000 * (k : Int)) ≤ sumW (w3 ⟨ro, rd, rf, s0, s1, s2, rc, rv⟩) (L.take k) ∧ sumW (w3 ⟨ro, rd, rf, s0, s1, s2, rc, rv⟩) (L.take k) ≤ 1000000000 * (k : Int) from kb) k hk
            obtain ⟨b3, b4⟩ := (show ∀ k : Nat, k ≤ L.length → -(1000000000 * (k : Int)) ≤ sumW (w3 ⟨ro, rd, rf, s0, s1, s2, rc, rv⟩) (L.take k) ∧ sumW (w3 ⟨ro, rd, rf, s0, s1, s2, rc, rv⟩) (L.take k) ≤ 1000000000 * (k : Int) from kb) (k + 1) (by omega)
            have hsu := sumW_succ (w3 ⟨ro, rd, rf, s0, s1, s2, rc, rv⟩) L k hlt
            clear kb q3 q4
            by_cases hw : w3 ⟨ro, rd, rf, s0, s1, s2, rc, rv⟩ (nth L k).acc = true
            · rw [if_pos hw] at hsu
              rw [hsu] at b3 b4
              have ks := keep hsu
              have hneg : ∀ x : Int, -(x + (nth L k).amt) = -x - (nth L k).amt := fun x => by omega
              clear hsu
              generalize sumW (w3 ⟨ro, rd, rf, s0, s1, s2, rc, rv⟩) (L.take k) = S at *
              unfold w3 at hw
              dsimp only at hw
              by_cases h1 : (nth L k).acc = ro
              · clear hw
                repeat' (first | (with_reducible first | refine awp_seq ?_ | refine awp_blockS ?_ | refine awp_blockC ?_ | refine awp_blockR ?_ | refine awp_skip ?_ | refine awp_ret ?_ | refine awp_exit ?_ | refine awp_region ?_ | refine awp_regionS (id := 5) [0, 1, 2, 3, 4, 5, 6, 7, 8] [9, 10] [[], [], [], [], [], [], [], [.new 0], []] [[.new 0], []] mixed (by decide +kernel) ?_ | refine awp_regionD (id := 7) 6 mixed (by decide +kernel) ?_ | refine awp_regionD (id := 16) 10 mixed (by decide +kernel) ?_ | refine awp_condM ?_ | refine And.intro ?_ ?_ | apply gQ_merge | apply gE_merge | exact EqV_w | exact EqE_w | exact EqV_ptr | exact EqE_ptr | exact EqV_msl | exact EqE_msl | exact EqV_agg | exact EqE_agg | exact EqV_fn | exact EqE_fn | exact EqV_gd | exact EqE_gd | refine gM_splitN ?_ ?_ | refine gM_split ?_ ?_ |  refine condM_splitDN ?_ ?_ | refine condM_splitD ?_ ?_ | refine condM_splitN ?_ ?_ | refine condM_split ?_ ?_ | refine condM_any ?_ ?_ | intro _) | (simp [*, hlt, h1]))
                all_goals try first | exact inI64 (by omega) (by omega) | omega
                all_goals (refine loopK_normal _ _ _ _ _ (k + 1) _ ?_ (by first | omega | (dsimp only; omega) | (simp; omega)) ?_; (· omega); (refine le_of ?_ ?_ <;> first | trivial | (simp [*, (show sumW (w3 ⟨ro, rd, rf, s0, s1, s2, rc, rv⟩) (L.take (k + 1)) = _ from ks), hneg]; done)))
              · by_cases h2 : (nth L k).acc = rd
                · clear hw
                  repeat' (first | (with_reducible first | refine awp_seq ?_ | refine awp_blockS ?_ | refine awp_blockC ?_ | refine awp_blockR ?_ | refine awp_skip ?_ | refine awp_ret ?_ | refine awp_exit ?_ | refine awp_region ?_ | refine awp_regionS (id := 5) [0, 1, 2, 3, 4, 5, 6, 7, 8] [9, 10] [[], [], [], [], [], [], [], [.new 0], []] [[.new 0], []] mixed (by decide +kernel) ?_ | refine awp_regionD (id := 7) 6 mixed (by decide +kernel) ?_ | refine awp_regionD (id := 16) 10 mixed (by decide +kernel) ?_ | refine awp_condM ?_ | refine And.intro ?_ ?_ | apply gQ_merge | apply gE_merge | exact EqV_w | exact EqE_w | exact EqV_ptr | exact EqE_ptr | exact EqV_msl | exact EqE_msl | exact EqV_agg | exact EqE_agg | exact EqV_fn | exact EqE_fn | exact EqV_gd | exact EqE_gd | refine gM_splitN ?_ ?_ | refine gM_split ?_ ?_ |  refine condM_splitDN ?_ ?_ | refine condM_splitD ?_ ?_ | refine condM_splitN ?_ ?_ | refine condM_split ?_ ?_ | refine condM_any ?_ ?_ | intro _) | (simp [*, hlt, h1, h2]))
                  all_goals try first | exact inI64 (by omega) (by omega) | omega
                  all_goals (refine loopK_normal _ _ _ _ _ (k + 1) _ ?_ (by first | omega | (dsimp only; omega) | (simp; omega)) ?_; (· omega); (refine le_of ?_ ?_ <;> first | trivial | (simp [*, (show sumW (w3 ⟨ro, rd, rf, s0, s1, s2, rc, rv⟩) (L.take (k + 1)) = _ from ks), hneg]; done)))
                · have h3 : (nth L k).acc = rf := by
                    rw [decide_eq_false h1, decide_eq_false h2, Bool.false_or, Bool.false_or] at hw
                    exact of_decide_eq_true hw
                  clear hw
                  repeat' (first | (with_reducible first | refine awp_seq ?_ | refine awp_blockS ?_ | refine awp_blockC ?_ | refine awp_blockR ?_ | refine awp_skip ?_ | refine awp_ret ?_ | refine awp_exit ?_ | refine awp_region ?_ | refine awp_regionS (id := 5) [0, 1, 2, 3, 4, 5, 6, 7, 8] [9, 10] [[], [], [], [], [], [], [], [.new 0], []] [[.new 0], []] mixed (by decide +kernel) ?_ | refine awp_regionD (id := 7) 6 mixed (by decide +kernel) ?_ | refine awp_regionD (id := 16) 10 mixed (by decide +kernel) ?_ | refine awp_condM ?_ | refine And.intro ?_ ?_ | apply gQ_merge | apply gE_merge | exact EqV_w | exact EqE_w | exact EqV_ptr | exact EqE_ptr | exact EqV_msl | exact EqE_msl | exact EqV_agg | exact EqE_agg | exact EqV_fn | exact EqE_fn | exact EqV_gd | exact EqE_gd | refine gM_splitN ?_ ?_ | refine gM_split ?_ ?_ |  refine condM_splitDN ?_ ?_ | refine condM_splitD ?_ ?_ | refine condM_splitN ?_ ?_ | refine condM_split ?_ ?_ | refine condM_any ?_ ?_ | intro _) | (simp [*, hlt, h1, h2, h3]))
                  all_goals try first | exact inI64 (by omega) (by omega) | omega
                  all_goals (refine loopK_normal _ _ _ _ _ (k + 1) _ ?_ (by first | omega | (dsimp only; omega) | (simp; omega)) ?_; (· omega); (refine le_of ?_ ?_ <;> first | trivial | (simp [*, (show sumW (w3 ⟨ro, rd, rf, s0, s1, s2, rc, rv⟩) (L.take (k + 1)) = _ from ks), hneg]; done)))
            · rw [if_neg hw, Int.add_zero] at hsu
              have ks := keep hsu
              clear hsu b3 b4
              have h1 : ¬ (nth L k).acc = ro := fun h => hw (by unfold w3; dsimp only; rw [decide_eq_true h]; rfl)
              have h2 : ¬ (nth L k).acc = rd := fun h => hw (by unfold w3; dsimp only; rw [decide_eq_true h, Bool.or_true]; rfl)
              have h3 : ¬ (nth L k).acc = rf := fun h => hw (by unfold w3; dsimp only; rw [decide_eq_true h, Bool.or_true])
              clear hw
              generalize sumW (w3 ⟨ro, rd, rf, s0, s1, s2, rc, rv⟩) (L.take k) = S at *
              repeat' (first | (with_reducible first | refine awp_seq ?_ | refine awp_blockS ?_ | refine awp_blockC ?_ | refine awp_blockR ?_ | refine awp_skip ?_ | refine awp_ret ?_ | refine awp_exit ?_ | refine awp_region ?_ | refine awp_regionS (id := 5) [0, 1, 2, 3, 4, 5, 6, 7, 8] [9, 10] [[], [], [], [], [], [], [], [.new 0], []] [[.new 0], []] mixed (by decide +kernel) ?_ | refine awp_regionD (id := 7) 6 mixed (by decide +kernel) ?_ | refine awp_regionD (id := 16) 10 mixed (by decide +kernel) ?_ | refine awp_condM ?_ | refine And.intro ?_ ?_ | apply gQ_merge | apply gE_merge | exact EqV_w | exact EqE_w | exact EqV_ptr | exact EqE_ptr | exact EqV_msl | exact EqE_msl | exact EqV_agg | exact EqE_agg | exact EqV_fn | exact EqE_fn | exact EqV_gd | exact EqE_gd | refine gM_splitN ?_ ?_ | refine gM_split ?_ ?_ |  refine condM_splitDN ?_ ?_ | refine condM_splitD ?_ ?_ | refine condM_splitN ?_ ?_ | refine condM_split ?_ ?_ | refine condM_any ?_ ?_ | intro _) | (simp [*, hlt, h1, h2, h3]))
              all_goals try first | exact inI64 (by omega) (by omega) | omega
              all_goals (refine loopK_normal _ _ _ _ _ (k + 1) _ ?_ (by first | omega | (dsimp only; omega) | (simp; omega)) ?_; (· omega); (refine le_of ?_ ?_ <;> first | trivial | (simp [*, (show sumW (w3 ⟨ro, rd, rf, s0, s1, s2, rc, rv⟩) (L.take (k + 1)) = _ from ks)]; done)))
          · have hke : k = L.length := by omega
            subst hke
            clear kb q3 q4
            repeat' (first | (with_reducible first | refine awp_seq ?_ | refine awp_blockS ?_ | refine awp_blockC ?_ | refine awp_blockR ?_ | refine awp_skip ?_ | refine awp_ret ?_ | refine awp_exit ?_ | refine awp_region ?_ | refine awp_regionS (id := 5) [0, 1, 2, 3, 4, 5, 6, 7, 8] [9, 10] [[], [], [], [], [], [], [], [.new 0], []] [[.new 0], []] mixed (by decide +kernel) ?_ | refine awp_regionD (id := 7) 6 mixed (by decide +kernel) ?_ | refine awp_regionD (id := 16) 10 mixed (by decide +kernel) ?_ | refine awp_condM ?_ | refine And.intro ?_ ?_ | apply gQ_merge | apply gE_merge | exact EqV_w | exact EqE_w | exact EqV_ptr | exact EqE_ptr | exact EqV_msl | exact EqE_msl | exact EqV_agg | exact EqE_agg | exact EqV_fn | exact EqE_fn | exact EqV_gd | exact EqE_gd | refine gM_splitN ?_ ?_ | refine gM_split ?_ ?_ |  refine condM_splitDN ?_ ?_ | refine condM_splitD ?_ ?_ | refine condM_splitN ?_ ?_ | refine condM_split ?_ ?_ | refine condM_any ?_ ?_ | intro _) | (simp [*]))
            all_goals (refine finW_intro () ?_ ?_; (· trivial); (refine le_of ?_ ?_ <;> first | trivial | (simp [*, List.take_length]; done)))
        · obtain ⟨b1, b2⟩ := (show ∀ k : Nat, k ≤ L.length → -(1000000000 * (k : Int)) ≤ sumW (w3 ⟨ro, rd, rf, s0, s1, s2, rc, rv⟩) (L.take k) ∧ sumW (w3 ⟨ro, rd, rf, s0, s1, s2, rc, rv⟩) (L.take k) ≤ 1000000000 * (k : Int) from kb) L.length (Nat.le_refl _)
          rw [List.take_length] at b1 b2
          clear kb q3
          generalize -(sumW (w3 ⟨ro, rd, rf, s0, s1, s2, rc, rv⟩) L) = S at *
          subst q4
          repeat' (first | (with_reducible first | refine awp_seq ?_ | refine awp_blockS ?_ | refine awp_blockC ?_ | refine awp_blockR ?_ | refine awp_skip ?_ | refine awp_ret ?_ | refine awp_exit ?_ | refine awp_region ?_ | refine awp_regionS (id := 5) [0, 1, 2, 3, 4, 5, 6, 7, 8] [9, 10] [[], [], [], [], [], [], [], [.new 0], []] [[.new 0], []] mixed (by decide +kernel) ?_ | refine awp_regionD (id := 7) 6 mixed (by decide +kernel) ?_ | refine awp_regionD (id := 16) 10 mixed (by decide +kernel) ?_ | refine awp_condM ?_ | refine And.intro ?_ ?_ | apply gQ_merge | apply gE_merge | exact EqV_w | exact EqE_w | exact EqV_ptr | exact EqE_ptr | exact EqV_msl | exact EqE_msl | exact EqV_agg | exact EqE_agg | exact EqV_fn | exact EqE_fn | exact EqV_gd | exact EqE_gd | refine gM_splitN ?_ ?_ | refine gM_split ?_ ?_ |  refine condM_splitDN ?_ ?_ | refine condM_splitD ?_ ?_ | refine condM_splitN ?_ ?_ | refine condM_split ?_ ?_ | refine condM_any ?_ ?_ | intro _) | (simp [*]))
          all_goals try first | exact inI64 (by omega) (by omega) | omega
      · have c6 := sameEntry_c (fareR r t).1 (by have := fareR_len r t; omega)
        generalize fareR r t = E at *
        obtain ⟨⟨ed, en, el⟩, e2⟩ := E
        clear hr hrok hs0 hs hc hl hn
        unfold cRule cTrip cEntry at *
        dsimp only at *
        refine realcall_intro Tryz.func6 (by kernel_rfl) rfl (Nat.le_of_ble_eq_true (by kernel_rfl)) ?_
        simp only [Tryz.results6, Tryz.ntmps6]
        repeat' (first | (with_reducible first | refine awp_seq ?_ | refine awp_blockS ?_ | refine awp_blockC ?_ | refine awp_blockR ?_ | refine awp_skip ?_ | refine awp_ret ?_ | refine awp_exit ?_ | refine awp_region ?_ | refine awp_regionS (id := 5) [0, 1, 2, 3, 4, 5, 6, 7, 8] [9, 10] [[], [], [], [], [], [], [], [.new 0], []] [[.new 0], []] mixed (by decide +kernel) ?_ | refine awp_regionD (id := 7) 6 mixed (by decide +kernel) ?_ | refine awp_regionD (id := 16) 10 mixed (by decide +kernel) ?_ | refine awp_condM ?_ | refine And.intro ?_ ?_ | apply gQ_merge | apply gE_merge | exact EqV_w | exact EqE_w | exact EqV_ptr | exact EqE_ptr | exact EqV_msl | exact EqE_msl | exact EqV_agg | exact EqE_agg | exact EqV_fn | exact EqE_fn | exact EqV_gd | exact EqE_gd | refine gM_splitN ?_ ?_ | refine gM_split ?_ ?_ |  refine condM_splitDN ?_ ?_ | refine condM_splitD ?_ ?_ | refine condM_splitN ?_ ?_ | refine condM_split ?_ ?_ | refine condM_any ?_ ?_ | refine cw (c0) ?_ | refine cw (hf) ?_ | refine cw (c1) ?_ | refine cw (c2) ?_ | refine cw (c3) ?_ | refine cw (c4) ?_ | refine cw (c5) ?_ | refine cw (c6) ?_ | intro _) | (simp [*, o1, o2, o3, o4, o5, o6, he]) | (refine cw_eq (c0) ?_ ?_; (· (simp [*]; done))) | (refine cw_eq (hf) ?_ ?_; (· (simp [*]; done))) | (refine cw_eq (c1) ?_ ?_; (· (simp [*]; done))) | (refine cw_eq (c2) ?_ ?_; (· (simp [*]; done))) | (refine cw_eq (c3) ?_ ?_; (· (simp [*]; done))) | (refine cw_eq (c4) ?_ ?_; (· (simp [*]; done))) | (refine cw_eq (c5) ?_ ?_; (· (simp [*]; done))) | (refine cw_eq (c6) ?_ ?_; (· (simp [*]; done))))
    · have c4 := fareEntry_bad l hl r t hn (by rw [hr]; exact hc)
      have hv : fareR r t = (noEntry, fareChk 0 t) := by unfold fareR; rw [if_neg hc]
      rw [hr] at c2 c3 c4
      rw [hv] at c5
      have c6 := sameZ1
      generalize fareChk 0 t = V at *
      clear hr hrok hs0 hs hl hn hv
      unfold cRule cTrip noEntry cEntry at *
      dsimp only at *
      have c5' : RealCall Tryz.prog 42 [.agg [.str r.owner, .str r.driver, .str r.office, .int .i64 r.s0, .int .i64 r.s1, .int .i64 r.s2, .str r.cash, .str r.vouch], .agg [.int .i64 t.date, .str t.note, .int .i64 t.fare, .int .i64 t.tip, .int .i64 t.voucher]] (.tup [.agg [.int .i64 0, .str ⟨#[]⟩, .sl 0 []], .int .i64 V]) true := c5
      clear c5
      refine realcall_intro Tryz.func6 (by kernel_rfl) rfl (Nat.le_of_ble_eq_true (by kernel_rfl)) ?_
      simp only [Tryz.results6, Tryz.ntmps6]
      repeat' (first | (with_reducible first | refine awp_seq ?_ | refine awp_blockS ?_ | refine awp_blockC ?_ | refine awp_blockR ?_ | refine awp_skip ?_ | refine awp_ret ?_ | refine awp_exit ?_ | refine awp_region ?_ | refine awp_regionS (id := 5) [0, 1, 2, 3, 4, 5, 6, 7, 8] [9, 10] [[], [], [], [], [], [], [], [.new 0], []] [[.new 0], []] mixed (by decide +kernel) ?_ | refine awp_regionD (id := 7) 6 mixed (by decide +kernel) ?_ | refine awp_regionD (id := 16) 10 mixed (by decide +kernel) ?_ | refine awp_condM ?_ | refine And.intro ?_ ?_ | apply gQ_merge | apply gE_merge | exact EqV_w | exact EqE_w | exact EqV_ptr | exact EqE_ptr | exact EqV_msl | exact EqE_msl | exact EqV_agg | exact EqE_agg | exact EqV_fn | exact EqE_fn | exact EqV_gd | exact EqE_gd | refine gM_splitN ?_ ?_ | refine gM_split ?_ ?_ |  refine condM_splitDN ?_ ?_ | refine condM_splitD ?_ ?_ | refine condM_splitN ?_ ?_ | refine condM_split ?_ ?_ | refine condM_any ?_ ?_ | refine cw (c0) ?_ | refine cw (hf) ?_ | refine cw (c1) ?_ | refine cw (c2) ?_ | refine cw (c3) ?_ | refine cw (c4) ?_ | refine cw (c5') ?_ | refine cw (c6) ?_ | intro _) | (simp [*, o1, o2, o3, o4, o5, o6, hc]) | (refine cw_eq (c0) ?_ ?_; (· (simp [*]; done))) | (refine cw_eq (hf) ?_ ?_; (· (simp [*]; done))) | (refine cw_eq (c1) ?_ ?_; (· (simp [*]; done))) | (refine cw_eq (c2) ?_ ?_; (· (simp [*]; done))) | (refine cw_eq (c3) ?_ ?_; (· (simp [*]; done))) | (refine cw_eq (c4) ?_ ?_; (· (simp [*]; done))) | (refine cw_eq (c5') ?_ ?_; (· (simp [*]; done))) | (refine cw_eq (c6) ?_ ?_; (· (simp [*]; done))))
  · have c4 := fareEntry_bad l hl r t hn (by rw [fareChk_of, if_neg hr]; exact hr)
    rw [fareChk_of, if_neg hr] at c4
    have c6 := sameZ2
    generalize ruleS l r = R at *
    clear hl hn
    unfold cRule cTrip at *
    refine realcall_intro Tryz.func6 (by kernel_rfl) rfl (Nat.le_of_ble_eq_true (by kernel_rfl)) ?_
    simp only [Tryz.results6, Tryz.ntmps6]
    repeat' (first | (with_reducible first | refine awp_seq ?_ | refine awp_blockS ?_ | refine awp_blockC ?_ | refine awp_blockR ?_ | refine awp_skip ?_ | refine awp_ret ?_ | refine awp_exit ?_ | refine awp_region ?_ | refine awp_regionS (id := 5) [0, 1, 2, 3, 4, 5, 6, 7, 8] [9, 10] [[], [], [], [], [], [], [], [.new 0], []] [[.new 0], []] mixed (by decide +kernel) ?_ | refine awp_regionD (id := 7) 6 mixed (by decide +kernel) ?_ | refine awp_regionD (id := 16) 10 mixed (by decide +kernel) ?_ | refine awp_condM ?_ | refine And.intro ?_ ?_ | apply gQ_merge | apply gE_merge | exact EqV_w | exact EqE_w | exact EqV_ptr | exact EqE_ptr | exact EqV_msl | exact EqE_msl | exact EqV_agg | exact EqE_agg | exact EqV_fn | exact EqE_fn | exact EqV_gd | exact EqE_gd | refine gM_splitN ?_ ?_ | refine gM_split ?_ ?_ |  refine condM_splitDN ?_ ?_ | refine condM_splitD ?_ ?_ | refine condM_splitN ?_ ?_ | refine condM_split ?_ ?_ | refine condM_any ?_ ?_ | refine cw (c0) ?_ | refine cw (hf) ?_ | refine cw (c1) ?_ | refine cw (c2) ?_ | refine cw (c3) ?_ | refine cw (c4) ?_ | refine cw (c6) ?_ | intro _) | (simp [*, o1, o2, o3, o4, o5, o6, hr]) | (refine cw_eq (c0) ?_ ?_; (· (simp [*]; done))) | (refine cw_eq (hf) ?_ ?_; (· (simp [*]; done))) | (refine cw_eq (c1) ?_ ?_; (· (simp [*]; done))) | (refine cw_eq (c2) ?_ ?_; (· (simp [*]; done))) | (refine cw_eq (c3) ?_ ?_; (· (simp [*]; done))) | (refine cw_eq (c4) ?_ ?_; (· (simp [*]; done))) | (refine cw_eq (c6) ?_ ?_; (· (simp [*]; done))))
theorem accountFares_c (l : List Acc) (r : Rule) (t : Trip) : RealCall Tryz.prog 6 [.sl l.length (cAccs l), .agg (cRule r), .agg (cTrip t)] (.bool true) true := by
  have c0 := awake_c
  have hf := few_c l
  cases h1 : fewB l with
  | false =>
    rw [h1] at hf
    clear h1
    unfold cRule cTrip
    refine realcall_intro Tryz.func6 (by kernel_rfl) rfl (Nat.le_of_ble_eq_true (by kernel_rfl)) ?_
    simp only [Tryz.results6, Tryz.ntmps6]
    repeat' (first | (with_reducible first | refine awp_seq ?_ | refine awp_blockS ?_ | refine awp_blockC ?_ | refine awp_blockR ?_ | refine awp_skip ?_ | refine awp_ret ?_ | refine awp_exit ?_ | refine awp_region ?_ | refine awp_regionS (id := 5) [0, 1, 2, 3, 4, 5, 6, 7, 8] [9, 10] [[], [], [], [], [], [], [], [.new 0], []] [[.new 0], []] mixed (by decide +kernel) ?_ | refine awp_regionD (id := 7) 6 mixed (by decide +kernel) ?_ | refine awp_regionD (id := 16) 10 mixed (by decide +kernel) ?_ | refine awp_condM ?_ | refine And.intro ?_ ?_ | apply gQ_merge | apply gE_merge | exact EqV_w | exact EqE_w | exact EqV_ptr | exact EqE_ptr | exact EqV_msl | exact EqE_msl | exact EqV_agg | exact EqE_agg | exact EqV_fn | exact EqE_fn | exact EqV_gd | exact EqE_gd | refine gM_splitN ?_ ?_ | refine gM_split ?_ ?_ |  refine condM_splitDN ?_ ?_ | refine condM_splitD ?_ ?_ | refine condM_splitN ?_ ?_ | refine condM_split ?_ ?_ | refine condM_any ?_ ?_ | refine cw (c0) ?_ | refine cw (hf) ?_ | intro _) | (simp [*]) | (refine cw_eq (c0) ?_ ?_; (· (simp [*]; done))) | (refine cw_eq (hf) ?_ ?_; (· (simp [*]; done))))
  | true =>
    rw [h1] at hf
    have hl := fewB_in h1
    clear h1
    by_cases o1 : 20 < (r.owner.size : Int)
    · clear hl
      unfold cRule cTrip
      refine realcall_intro Tryz.func6 (by kernel_rfl) rfl (Nat.le_of_ble_eq_true (by kernel_rfl)) ?_
      simp only [Tryz.results6, Tryz.ntmps6]
      repeat' (first | (with_reducible first | refine awp_seq ?_ | refine awp_blockS ?_ | refine awp_blockC ?_ | refine awp_blockR ?_ | refine awp_skip ?_ | refine awp_ret ?_ | refine awp_exit ?_ | refine awp_region ?_ | refine awp_regionS (id := 5) [0, 1, 2, 3, 4, 5, 6, 7, 8] [9, 10] [[], [], [], [], [], [], [], [.new 0], []] [[.new 0], []] mixed (by decide +kernel) ?_ | refine awp_regionD (id := 7) 6 mixed (by decide +kernel) ?_ | refine awp_regionD (id := 16) 10 mixed (by decide +kernel) ?_ | refine awp_condM ?_ | refine And.intro ?_ ?_ | apply gQ_merge | apply gE_merge | exact EqV_w | exact EqE_w | exact EqV_ptr | exact EqE_ptr | exact EqV_msl | exact EqE_msl | exact EqV_agg | exact EqE_agg | exact EqV_fn | exact EqE_fn | exact EqV_gd | exact EqE_gd | refine gM_splitN ?_ ?_ | refine gM_split ?_ ?_ |  refine condM_splitDN ?_ ?_ | refine condM_splitD ?_ ?_ | refine condM_splitN ?_ ?_ | refine condM_split ?_ ?_ | refine condM_any ?_ ?_ | refine cw (c0) ?_ | refine cw (hf) ?_ | intro _) | (simp [*, o1]) | (refine cw_eq (c0) ?_ ?_; (· (simp [*]; done))) | (refine cw_eq (hf) ?_ ?_; (· (simp [*]; done))))
    by_cases o2 : 20 < (r.driver.size : Int)
    · clear hl
      unfold cRule cTrip
      refine realcall_intro Tryz.func6 (by kernel_rfl) rfl (Nat.le_of_ble_eq_true (by kernel_rfl)) ?_
      simp only [Tryz.results6, Tryz.ntmps6]
      repeat' (first | (with_reducible first | refine awp_seq ?_ | refine awp_blockS ?_ | refine awp_blockC ?_ | refine awp_blockR ?_ | refine awp_skip ?_ | refine awp_ret ?_ | refine awp_exit ?_ | refine awp_region ?_ | refine awp_regionS (id := 5) [0, 1, 2, 3, 4, 5, 6, 7, 8] [9, 10] [[], [], [], [], [], [], [], [.new 0], []] [[.new 0], []] mixed (by decide +kernel) ?_ | refine awp_regionD (id := 7) 6 mixed (by decide +kernel) ?_ | refine awp_regionD (id := 16) 10 mixed (by decide +kernel) ?_ | refine awp_condM ?_ | refine And.intro ?_ ?_ | apply gQ_merge | apply gE_merge | exact EqV_w | exact EqE_w | exact EqV_ptr | exact EqE_ptr | exact EqV_msl | exact EqE_msl | exact EqV_agg | exact EqE_agg | exact EqV_fn | exact EqE_fn | exact EqV_gd | exact EqE_gd | refine gM_splitN ?_ ?_ | refine gM_split ?_ ?_ |  refine condM_splitDN ?_ ?_ | refine condM_splitD ?_ ?_ | refine condM_splitN ?_ ?_ | refine condM_split ?_ ?_ | refine condM_any ?_ ?_ | refine cw (c0) ?_ | refine cw (hf) ?_ | intro _) | (simp [*, o1, o2]) | (refine cw_eq (c0) ?_ ?_; (· (simp [*]; done))) | (refine cw_eq (hf) ?_ ?_; (· (simp [*]; done))))
    by_cases o3 : 20 < (r.office.size : Int)
    · clear hl
      unfold cRule cTrip
      refine realcall_intro Tryz.func6 (by kernel_rfl) rfl (Nat.le_of_ble_eq_true (by kernel_rfl)) ?_
      simp only [Tryz.results6, Tryz.ntmps6]
      repeat' (first | (with_reducible first | refine awp_seq ?_ | refine awp_blockS ?_ | refine awp_blockC ?_ | refine awp_blockR ?_ | refine awp_skip ?_ | refine awp_ret ?_ | refine awp_exit ?_ | refine awp_region ?_ | refine awp_regionS (id := 5) [0, 1, 2, 3, 4, 5, 6, 7, 8] [9, 10] [[], [], [], [], [], [], [], [.new 0], []] [[.new 0], []] mixed (by decide +kernel) ?_ | refine awp_regionD (id := 7) 6 mixed (by decide +kernel) ?_ | refine awp_regionD (id := 16) 10 mixed (by decide +kernel) ?_ | refine awp_condM ?_ | refine And.intro ?_ ?_ | apply gQ_merge | apply gE_merge | exact EqV_w | exact EqE_w | exact EqV_ptr | exact EqE_ptr | exact EqV_msl | exact EqE_msl | exact EqV_agg | exact EqE_agg | exact EqV_fn | exact EqE_fn | exact EqV_gd | exact EqE_gd | refine gM_splitN ?_ ?_ | refine gM_split ?_ ?_ |  refine condM_splitDN ?_ ?_ | refine condM_splitD ?_ ?_ | refine condM_splitN ?_ ?_ | refine condM_split ?_ ?_ | refine condM_any ?_ ?_ | refine cw (c0) ?_ | refine cw (hf) ?_ | intro _) | (simp [*, o1, o2, o3]) | (refine cw_eq (c0) ?_ ?_; (· (simp [*]; done))) | (refine cw_eq (hf) ?_ ?_; (· (simp [*]; done))))
    by_cases o4 : 20 < (r.cash.size : Int)
    · clear hl
      unfold cRule cTrip
      refine realcall_intro Tryz.func6 (by kernel_rfl) rfl (Nat.le_of_ble_eq_true (by kernel_rfl)) ?_
      simp only [Tryz.results6, Tryz.ntmps6]
      repeat' (first | (with_reducible first | refine awp_seq ?_ | refine awp_blockS ?_ | refine awp_blockC ?_ | refine awp_blockR ?_ | refine awp_skip ?_ | refine awp_ret ?_ | refine awp_exit ?_ | refine awp_region ?_ | refine awp_regionS (id := 5) [0, 1, 2, 3, 4, 5, 6, 7, 8] [9, 10] [[], [], [], [], [], [], [], [.new 0], []] [[.new 0], []] mixed (by decide +kernel) ?_ | refine awp_regionD (id := 7) 6 mixed (by decide +kernel) ?_ | refine awp_regionD (id := 16) 10 mixed (by decide +kernel) ?_ | refine awp_condM ?_ | refine And.intro ?_ ?_ | apply gQ_merge | apply gE_merge | exact EqV_w | exact EqE_w | exact EqV_ptr | exact EqE_ptr | exact EqV_msl | exact EqE_msl | exact EqV_agg | exact EqE_agg | exact EqV_fn | exact EqE_fn | exact EqV_gd | exact EqE_gd | refine gM_splitN ?_ ?_ | refine gM_split ?_ ?_ |  refine condM_splitDN ?_ ?_ | refine condM_splitD ?_ ?_ | refine condM_splitN ?_ ?_ | refine condM_split ?_ ?_ | refine condM_any ?_ ?_ | refine cw (c0) ?_ | refine cw (hf) ?_ | intro _) | (simp [*, o1, o2, o3, o4]) | (refine cw_eq (c0) ?_ ?_; (· (simp [*]; done))) | (refine cw_eq (hf) ?_ ?_; (· (simp [*]; done))))
    by_cases o5 : 20 < (r.vouch.size : Int)
    · clear hl
      unfold cRule cTrip
      refine realcall_intro Tryz.func6 (by kernel_rfl) rfl (Nat.le_of_ble_eq_true (by kernel_rfl)) ?_
      simp only [Tryz.results6, Tryz.ntmps6]
      repeat' (first | (with_reducible first | refine awp_seq ?_ | refine awp_blockS ?_ | refine awp_blockC ?_ | refine awp_blockR ?_ | refine awp_skip ?_ | refine awp_ret ?_ | refine awp_exit ?_ | refine awp_region ?_ | refine awp_regionS (id := 5) [0, 1, 2, 3, 4, 5, 6, 7, 8] [9, 10] [[], [], [], [], [], [], [], [.new 0], []] [[.new 0], []] mixed (by decide +kernel) ?_ | refine awp_regionD (id := 7) 6 mixed (by decide +kernel) ?_ | refine awp_regionD (id := 16) 10 mixed (by decide +kernel) ?_ | refine awp_condM ?_ | refine And.intro ?_ ?_ | apply gQ_merge | apply gE_merge | exact EqV_w | exact EqE_w | exact EqV_ptr | exact EqE_ptr | exact EqV_msl | exact EqE_msl | exact EqV_agg | exact EqE_agg | exact EqV_fn | exact EqE_fn | exact EqV_gd | exact EqE_gd | refine gM_splitN ?_ ?_ | refine gM_split ?_ ?_ |  refine condM_splitDN ?_ ?_ | refine condM_splitD ?_ ?_ | refine condM_splitN ?_ ?_ | refine condM_split ?_ ?_ | refine condM_any ?_ ?_ | refine cw (c0) ?_ | refine cw (hf) ?_ | intro _) | (simp [*, o1, o2, o3, o4, o5]) | (refine cw_eq (c0) ?_ ?_; (· (simp [*]; done))) | (refine cw_eq (hf) ?_ ?_; (· (simp [*]; done))))
    by_cases o6 : 20 < (t.note.size : Int)
    · clear hl
      unfold cRule cTrip
      refine realcall_intro Tryz.func6 (by kernel_rfl) rfl (Nat.le_of_ble_eq_true (by kernel_rfl)) ?_
      simp only [Tryz.results6, Tryz.ntmps6]
      repeat' (first | (with_reducible first | refine awp_seq ?_ | refine awp_blockS ?_ | refine awp_blockC ?_ | refine awp_blockR ?_ | refine awp_skip ?_ | refine awp_ret ?_ | refine awp_exit ?_ | refine awp_region ?_ | refine awp_regionS (id := 5) [0, 1, 2, 3, 4, 5, 6, 7, 8] [9, 10] [[], [], [], [], [], [], [], [.new 0], []] [[.new 0], []] mixed (by decide +kernel) ?_ | refine awp_regionD (id := 7) 6 mixed (by decide +kernel) ?_ | refine awp_regionD (id := 16) 10 mixed (by decide +kernel) ?_ | refine awp_condM ?_ | refine And.intro ?_ ?_ | apply gQ_merge | apply gE_merge | exact EqV_w | exact EqE_w | exact EqV_ptr | exact EqE_ptr | exact EqV_msl | exact EqE_msl | exact EqV_agg | exact EqE_agg | exact EqV_fn | exact EqE_fn | exact EqV_gd | exact EqE_gd | refine gM_splitN ?_ ?_ | refine gM_split ?_ ?_ |  refine condM_splitDN ?_ ?_ | refine condM_splitD ?_ ?_ | refine condM_splitN ?_ ?_ | refine condM_split ?_ ?_ | refine condM_any ?_ ?_ | refine cw (c0) ?_ | refine cw (hf) ?_ | intro _) | (simp [*, o1, o2, o3, o4, o5, o6]) | (refine cw_eq (c0) ?_ ?_; (· (simp [*]; done))) | (refine cw_eq (hf) ?_ ?_; (· (simp [*]; done))))
    exact fares_main l hl hf r t o1 o2 o3 o4 o5 o6
end Go.Proofs.YtdgbfbgnbgfmjaaGreatDoor
