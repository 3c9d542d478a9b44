/- Contracts of functions for this claim: lemmas alone. -/
import Derived.Test.YtdgbfbgnbgfmjaaP63
set_option linter.unusedSimpArgs false
set_option linter.unusedVariables false
namespace Go.Proofs.Ytdgbfbgnbgfmjaa
open Go Go.Fi
set_option maxRecDepth 20000

/-! ### opposite entries -/
def negK (l : List Line) (k : Nat) : List Line := negL (l.take k) ++ l.drop k
@[simp] theorem negK_zero (l : List Line) : negK l 0 = l := by simp [negK, negL]
@[simp] theorem negK_len (l : List Line) (k : Nat) : (negK l k).length = l.length := by
  simp [negK, negL]; omega
@[simp] theorem lA_frs : ∀ l : List Line, AV.frs.frsL (lA l) = true
  | [] => rfl
  | x :: l => by
    have ih := lA_frs l
    show (AV.frs (.w false false (.str x.acc)) && (AV.frs (.w false false (.int .i64 x.amt)) && AV.frs.frsL (lA l))) = true
    rw [ih]; rfl
@[simp] theorem lA_sh (n : Nat) (l : List Line) : AV.sh.shL n (lA l) = lA l := shL_map n false false _
@[simp] theorem lA_ones : ∀ l : List Line, ones (lA l) = true
  | [] => rfl
  | x :: l => by
    have ih := lA_ones l
    show (AV.one (.w false false (.str x.acc)) && (AV.one (.w false false (.int .i64 x.amt)) && ones (lA l))) = true
    rw [ih]; rfl
end Go.Proofs.Ytdgbfbgnbgfmjaa
namespace Go.Proofs.Ytdgbfbgnbgfmjaa
open Go Go.Fi
set_option maxRecDepth 20000

/-! ### opposite, and refunds -/
end Go.Proofs.Ytdgbfbgnbgfmjaa
namespace Go.Proofs.Ytdgbfbgnbgfmjaa
open Go Go.Fi
set_option maxRecDepth 20000

/-! ### the document's reversed entries and refunds -/
def linesE (ls : List Line) : Int := if 12 < ls.length then 8 else if ls.any greatB = true then 2 else 0
structure RefundL (r : Rule) (n : Int) : Prop where
  len0 : ¬ (fareL r n 0 0 (partsS r n)).length = 0
  err : linesE (fareL r n 0 0 (partsS r n)) = 0
  much : ∀ d s, muchB ⟨d, s, fareL r n 0 0 (partsS r n)⟩ = false
end Go.Proofs.Ytdgbfbgnbgfmjaa
namespace Go.Proofs.Ytdgbfbgnbgfmjaa
open Go Go.Fi
set_option maxRecDepth 20000

/-! ### the entry of any trip -/
theorem fareEntry_bad (l : List Acc) (hl : AccsIn l) (r : Rule) (t : Trip) (hn : t.note.size < 1000000) (h : ¬ fareChk (ruleS l r) t = 0) : RealCall Try.prog 7 [.sl l.length (cAccs l), .agg (cRule r), .agg (cTrip t)] (.tup [.agg [.int .i64 0, .str ⟨#[]⟩, .sl 0 []], .int .i64 (fareChk (ruleS l r) t)]) true := by
  have c1 := checkRule_c l hl r
  have c2 := dateErr_c t.date
  have c3 := noteErr_c t.note hn
  have c4 := moneyErr_c [t.fare, t.tip, t.voucher] (show 3 < 100000 by decide)
  have e4 : ints [t.fare, t.tip, t.voucher] = [.int .i64 t.fare, .int .i64 t.tip, .int .i64 t.voucher] := rfl
  rw [e4] at c4
  change RealCall _ _ [.sl 3 _] _ _ at c4
  have c5 := first5_c (ruleS l r) (dateE t.date) (noteE t.note) (moneyE [t.fare, t.tip, t.voucher]) (errUnless (decide (t.voucher ≤ t.fare)) 24)
  change RealCall _ _ _ (.int .i64 (fareChk (ruleS l r) t)) true at c5
  clear e4 hl hn
  generalize fareChk (ruleS l r) t = V at *
  generalize ruleS l r = R at *
  obtain ⟨td, tn, tf, tt, tv⟩ := t
  unfold cTrip cRule at *
  dsimp only at *
  refine realcall_intro Try.func7 (by kernel_rfl) rfl (Nat.le_of_ble_eq_true (by kernel_rfl)) ?_
  simp only [Try.results7, Try.ntmps7]
  repeat' (first | (with_reducible first | refine awp_seq ?_ | refine awp_blockS ?_ | refine awp_blockC ?_ | refine awp_blockR ?_ | refine awp_skip ?_ | refine awp_ret ?_ | refine awp_exit ?_ | refine awp_region ?_ | refine awp_regionD (id := 1) 26 mixed (by decide +kernel) ?_ | refine awp_condM ?_ | refine And.intro ?_ ?_ | apply gQ_merge | apply gE_merge | exact EqV_w | exact EqE_w | exact EqV_ptr | exact EqE_ptr | exact EqV_msl | exact EqE_msl | exact EqV_agg | exact EqE_agg | exact EqV_fn | exact EqE_fn | exact EqV_gd | exact EqE_gd | refine gM_splitN ?_ ?_ | refine gM_split ?_ ?_ |  refine condM_splitDN ?_ ?_ | refine condM_splitD ?_ ?_ | refine condM_splitN ?_ ?_ | refine condM_split ?_ ?_ | refine condM_any ?_ ?_ | refine cw (c1) ?_ | refine cw (c2) ?_ | refine cw (c3) ?_ | refine cw (c4) ?_ | refine cw (c5) ?_ | refine cw (unless_c _ _) ?_ | intro _) | (simp [*, h, repl]) | (refine cw_eq (c1) ?_ ?_; (· (simp [*]; done))) | (refine cw_eq (c2) ?_ ?_; (· (simp [*]; done))) | (refine cw_eq (c3) ?_ ?_; (· (simp [*]; done))) | (refine cw_eq (c4) ?_ ?_; (· (simp [*]; done))) | (refine cw_eq (c5) ?_ ?_; (· (simp [*]; done))) | (refine cw_eq (unless_c _ _) ?_ ?_; (· (simp [*]; done))))
  all_goals rfl
theorem fareEntry_ok (l : List Acc) (hl : AccsIn l) (r : Rule) (t : Trip) (hn : t.note.size < 1000000) (hr : ruleS l r = 0) (h : fareChk 0 t = 0) : RealCall Try.prog 7 [.sl l.length (cAccs l), .agg (cRule r), .agg (cTrip t)] (.tup [.agg (cEntry (fareR r t).1), .int .i64 (fareR r t).2]) false := by
  have c1 := checkRule_c l hl r
  rw [hr] at c1
  obtain ⟨_, hs0⟩ := ruleS_zero hr
  have hs := sharesOk hs0
  obtain ⟨td, tn, tf, tt, tv, tl⟩ := fareChk_zero h
  have hlen := fareL_len r t.fare t.tip t.voucher (partsS r t.fare)
  have cl := largest_c ⟨t.date, t.note, fareL r t.fare t.tip t.voucher (partsS r t.fare)⟩ (by dsimp only; omega)
  have c := fareEntry_t l r t c1 hn h tf tt tv (partsS r t.fare) (partsS_len r t.fare) (fun k hk => ⟨parts_pos hs t.fare k hk, by have := parts_le hs tf.1 k hk; have := tf.2; omega⟩) (split_fare hs tf.1 tf.2) _ _ cl
  unfold fareR
  rw [if_pos h]
  unfold fareLn
  by_cases hz : (fareL r t.fare t.tip t.voucher (partsS r t.fare)).length = 0
  · rw [if_pos hz] at c ⊢
    exact c
  · rw [if_neg hz] at c ⊢
    exact c
end Go.Proofs.Ytdgbfbgnbgfmjaa

