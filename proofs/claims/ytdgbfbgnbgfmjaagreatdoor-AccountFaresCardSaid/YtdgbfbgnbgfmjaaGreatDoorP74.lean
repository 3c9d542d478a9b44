/- Contracts of functions for this claim: lemmas alone. -/
import Derived.Test.YtdgbfbgnbgfmjaaGreatDoorP65
set_option linter.unusedSimpArgs false
set_option linter.unusedVariables false
namespace Go.Proofs.YtdgbfbgnbgfmjaaGreatDoor
open Go Go.Fi
set_option maxRecDepth 20000

/-! ### the entry of any trip -/
theorem fareEntry_bad (l : List Acc) (hl : AccsIn l) (r : Rule) (t : Trip) (hn : t.note.size < 1000000) (h : ¬ fareChk (ruleS l r) t = 0) : RealCall Tryz.prog 39 [.sl l.length (cAccs l), .agg (cRule r), .agg (cTrip t)] (.tup [.agg [.int .i64 0, .str ⟨#[]⟩, .sl 0 []], .int .i64 (fareChk (ruleS l r) t)]) true := by
  have c1 := checkRule_c l hl r
  have c2 := dateErr_c t.date
  have c3 := noteErr_c t.note hn
  have c4 := moneyErr_c [t.fare, t.tip, t.voucher] (show 3 < 100000 by decide)
  have e4 : ints [t.fare, t.tip, t.voucher] = [.int .i64 t.fare, .int .i64 t.tip, .int .i64 t.voucher] := rfl
  rw [e4] at c4
  change RealCall _ _ [.sl 3 _] _ _ at c4
  have c5 := first5_c (ruleS l r) (dateE t.date) (noteE t.note) (moneyE [t.fare, t.tip, t.voucher]) (errUnless (decide (t.voucher ≤ t.fare)) 24)
  change RealCall _ _ _ (.int .i64 (fareChk (ruleS l r) t)) true at c5
  clear e4 hl hn
  generalize fareChk (ruleS l r) t = V at *
  generalize ruleS l r = R at *
  obtain ⟨td, tn, tf, tt, tv⟩ := t
  unfold cTrip cRule at *
  dsimp only at *
  refine realcall_intro Tryz.func39 (by kernel_rfl) rfl (Nat.le_of_ble_eq_true (by kernel_rfl)) ?_
  simp only [Tryz.results39, Tryz.ntmps39]
  repeat' (first | (with_reducible first | refine awp_seq ?_ | refine awp_blockS ?_ | refine awp_blockC ?_ | refine awp_blockR ?_ | refine awp_skip ?_ | refine awp_ret ?_ | refine awp_exit ?_ | refine awp_region ?_ | refine awp_regionD (id := 1) 26 mixed (by decide +kernel) ?_ | refine awp_condM ?_ | refine And.intro ?_ ?_ | apply gQ_merge | apply gE_merge | exact EqV_w | exact EqE_w | exact EqV_ptr | exact EqE_ptr | exact EqV_msl | exact EqE_msl | exact EqV_agg | exact EqE_agg | exact EqV_fn | exact EqE_fn | exact EqV_gd | exact EqE_gd | refine gM_splitN ?_ ?_ | refine gM_split ?_ ?_ |  refine condM_splitDN ?_ ?_ | refine condM_splitD ?_ ?_ | refine condM_splitN ?_ ?_ | refine condM_split ?_ ?_ | refine condM_any ?_ ?_ | refine cw (c1) ?_ | refine cw (c2) ?_ | refine cw (c3) ?_ | refine cw (c4) ?_ | refine cw (c5) ?_ | refine cw (unless_c _ _) ?_ | intro _) | (simp [*, h, repl]) | (refine cw_eq (c1) ?_ ?_; (· (simp [*]; done))) | (refine cw_eq (c2) ?_ ?_; (· (simp [*]; done))) | (refine cw_eq (c3) ?_ ?_; (· (simp [*]; done))) | (refine cw_eq (c4) ?_ ?_; (· (simp [*]; done))) | (refine cw_eq (c5) ?_ ?_; (· (simp [*]; done))) | (refine cw_eq (unless_c _ _) ?_ ?_; (· (simp [*]; done))))
  all_goals rfl
theorem fareEntry_ok (l : List Acc) (hl : AccsIn l) (r : Rule) (t : Trip) (hn : t.note.size < 1000000) (hr : ruleS l r = 0) (h : fareChk 0 t = 0) : RealCall Tryz.prog 39 [.sl l.length (cAccs l), .agg (cRule r), .agg (cTrip t)] (.tup [.agg (cEntry (fareR r t).1), .int .i64 (fareR r t).2]) false := by
  have c1 := checkRule_c l hl r
  rw [hr] at c1
  obtain ⟨_, hs0⟩ := ruleS_zero hr
  have hs := sharesOk hs0
  obtain ⟨td, tn, tf, tt, tv, tl⟩ := fareChk_zero h
  have hlen := fareL_len r t.fare t.tip t.voucher (partsS r t.fare)
  have cl := largest_c ⟨t.date, t.note, fareL r t.fare t.tip t.voucher (partsS r t.fare)⟩ (by dsimp only; omega)
  have c := fareEntry_t l r t c1 hn h tf tt tv (partsS r t.fare) (partsS_len r t.fare) (fun k hk => ⟨parts_pos hs t.fare k hk, by have := parts_le hs tf.1 k hk; have := tf.2; omega⟩) (split_fare hs tf.1 tf.2) _ _ cl
  unfold fareR
  rw [if_pos h]
  unfold fareLn
  by_cases hz : (fareL r t.fare t.tip t.voucher (partsS r t.fare)).length = 0
  · rw [if_pos hz] at c ⊢
    exact c
  · rw [if_neg hz] at c ⊢
    exact c
end Go.Proofs.YtdgbfbgnbgfmjaaGreatDoor
