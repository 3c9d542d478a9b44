/- Contracts of functions for this claim: lemmas alone. -/
import Derived.Test.YtdgbfbgnbgfmjaaGreatDoorP22
set_option linter.unusedSimpArgs false
set_option linter.unusedVariables false
namespace Go.Proofs.YtdgbfbgnbgfmjaaGreatDoor
open Go Go.Fi
set_option maxRecDepth 20000

/-! ### balances -/
def putS (n : ByteArray) : List Line → Int
  | [] => 0
  | y :: r => (if y.acc = n then y.amt else 0) + putS n r
@[simp] theorem putS_nil (n : ByteArray) : putS n [] = 0 := rfl
theorem putS_snoc (n : ByteArray) (y : Line) : ∀ l : List Line, putS n (l ++ [y]) = putS n l + (if y.acc = n then y.amt else 0)
  | [] => by simp [putS]
  | x :: l => by simp only [List.cons_append, putS, putS_snoc n y l]; omega
theorem putS_succ (n : ByteArray) (l : List Line) (k : Nat) (h : k < l.length) : putS n (l.take (k + 1)) = putS n (l.take k) + (if (nth l k).acc = n then (nth l k).amt else 0) := by
  rw [take_succ_nth l k h, putS_snoc]
def hasL (n : ByteArray) (l : List Line) : Bool := l.any fun y => decide (y.acc = n)
@[simp] theorem hasL_nil (n : ByteArray) : hasL n [] = false := rfl
theorem hasL_succ (n : ByteArray) (l : List Line) (k : Nat) (h : k < l.length) : hasL n (l.take (k + 1)) = (hasL n (l.take k) || decide ((nth l k).acc = n)) := by
  rw [take_succ_nth l k h]; simp [hasL]
structure LinesIn (l : List Line) : Prop where
  len : l.length < 100000
  amt : ∀ k, k < l.length → -1000000000 ≤ (nth l k).amt ∧ (nth l k).amt ≤ 1000000000
theorem isResult_c (a : Acc) : RealCall Tryz.prog 132 [.agg (cAcc a)] (.bool (decide (a.kind = 2) || decide (a.kind = 3))) true := by
  obtain ⟨n, k⟩ := a
  unfold cAcc
  dsimp only
  refine realcall_intro Tryz.func132 (by kernel_rfl) rfl (Nat.le_of_ble_eq_true (by kernel_rfl)) ?_
  simp only [Tryz.results132, Tryz.ntmps132]
  repeat' (first | (with_reducible first | refine awp_seq ?_ | refine awp_blockS ?_ | refine awp_blockC ?_ | refine awp_blockR ?_ | refine awp_skip ?_ | refine awp_ret ?_ | refine awp_exit ?_ | refine awp_region ?_ | refine awp_condM ?_ | refine And.intro ?_ ?_ | apply gQ_merge | apply gE_merge | exact EqV_w | exact EqE_w | exact EqV_ptr | exact EqE_ptr | exact EqV_msl | exact EqE_msl | exact EqV_agg | exact EqE_agg | exact EqV_fn | exact EqE_fn | exact EqV_gd | exact EqE_gd | refine gM_splitN ?_ ?_ | refine gM_split ?_ ?_ |  refine condM_splitDN ?_ ?_ | refine condM_splitD ?_ ?_ | refine condM_splitN ?_ ?_ | refine condM_split ?_ ?_ | refine condM_any ?_ ?_ | intro _) | (simp [*]))
theorem put_c (e : Entry) (n : ByteArray) (hl : LinesIn e.lines) : RealCall Tryz.prog 120 [.agg (cEntry e), .str n] (.tup [.int .i64 (putS n e.lines), .bool (hasL n e.lines)]) true := by
  obtain ⟨hlen, hamt⟩ := hl
  obtain ⟨ed, en, el⟩ := e
  unfold cEntry
  dsimp only at *
  have ka := keep hamt
  clear hamt
  refine realcall_intro Tryz.func120 (by kernel_rfl) rfl (Nat.le_of_ble_eq_true (by kernel_rfl)) ?_
  simp only [Tryz.results120, Tryz.ntmps120]
  repeat' (first | (with_reducible first | refine awp_seq ?_ | refine awp_blockS ?_ | refine awp_blockC ?_ | refine awp_blockR ?_ | refine awp_skip ?_ | refine awp_ret ?_ | refine awp_exit ?_ | refine awp_region ?_ | refine awp_condM ?_ | refine And.intro ?_ ?_ | apply gQ_merge | apply gE_merge | exact EqV_w | exact EqE_w | exact EqV_ptr | exact EqE_ptr | exact EqV_msl | exact EqE_msl | exact EqV_agg | exact EqE_agg | exact EqV_fn | exact EqE_fn | exact EqV_gd | exact EqE_gd | refine gM_splitN ?_ ?_ | refine gM_split ?_ ?_ |  refine condM_splitDN ?_ ?_ | refine condM_splitD ?_ ?_ | refine condM_splitN ?_ ?_ | refine condM_split ?_ ?_ | refine condM_any ?_ ?_ | intro _) | (simp [*]))
  refine awp_for3 (fun (k : Nat) => k ≤ el.length ∧ (-(1000000000 * (k : Int)) ≤ putS n (el.take k) ∧ putS n (el.take k) ≤ 1000000000 * (k : Int))) [1, 11, 12] (fun (k : Nat) => [(13, .w false false (.int .i64 k)), (6, .w false false (.int .i64 (putS n (el.take k)))), (7, .w false false (.bool (hasL n (el.take k))))]) [] (fun (k : Nat) => []) (fun (k : Nat) => el.length - k) (fun (_u : Unit) => True) [] (fun (_u : Unit) => [(6, .w false false (.int .i64 (putS n el))), (7, .w false false (.bool (hasL n el)))]) [] (fun (_u : Unit) => []) (0) ⟨Nat.zero_le _, by simp, by simp⟩ (by simp) (by simp) (fun k hk => ?_) (fun _u hf => ?_)
  · obtain ⟨hk, b1, b2⟩ := hk
    by_cases hlt : k < el.length
    · obtain ⟨a1, a2⟩ := (show ∀ k, k < el.length → -1000000000 ≤ (nth el k).amt ∧ (nth el k).amt ≤ 1000000000 from ka) k hlt
      have hs := putS_succ n el k hlt
      have hh := hasL_succ n el k hlt
      generalize hasL n (el.take k) = B at *
      generalize putS n (el.take k) = S at *
      by_cases hq : (nth el k).acc = n
      · rw [if_pos hq] at hs
        rw [decide_eq_true hq, Bool.or_true] at hh
        have ks := keep hs
        have kh := keep hh
        clear hs hh
        repeat' (first | (with_reducible first | refine awp_seq ?_ | refine awp_blockS ?_ | refine awp_blockC ?_ | refine awp_blockR ?_ | refine awp_skip ?_ | refine awp_ret ?_ | refine awp_exit ?_ | refine awp_region ?_ | refine awp_condM ?_ | refine And.intro ?_ ?_ | apply gQ_merge | apply gE_merge | exact EqV_w | exact EqE_w | exact EqV_ptr | exact EqE_ptr | exact EqV_msl | exact EqE_msl | exact EqV_agg | exact EqE_agg | exact EqV_fn | exact EqE_fn | exact EqV_gd | exact EqE_gd | refine gM_splitN ?_ ?_ | refine gM_split ?_ ?_ |  refine condM_splitDN ?_ ?_ | refine condM_splitD ?_ ?_ | refine condM_splitN ?_ ?_ | refine condM_split ?_ ?_ | refine condM_any ?_ ?_ | intro _) | (simp [*, hlt, hq, cLine]))
        all_goals first
          | exact inI64 (by omega) (by omega)
          | omega
          | (refine loopK_normal _ _ _ _ _ (k + 1) _ ?_ (by first | omega | (dsimp only; omega) | (simp; omega)) ?_; (· refine ⟨by omega, ?_, ?_⟩ <;> (rw [show putS n (el.take (k + 1)) = _ from ks]; omega)); (refine le_of ?_ ?_ <;> first | trivial | (simp [*, show putS n (el.take (k + 1)) = _ from ks, show hasL n (el.take (k + 1)) = _ from kh]; done)))
          | skip
      · rw [if_neg hq, Int.add_zero] at hs
        rw [decide_eq_false hq, Bool.or_false] at hh
        have ks := keep hs
        have kh := keep hh
        clear hs hh
        repeat' (first | (with_reducible first | refine awp_seq ?_ | refine awp_blockS ?_ | refine awp_blockC ?_ | refine awp_blockR ?_ | refine awp_skip ?_ | refine awp_ret ?_ | refine awp_exit ?_ | refine awp_region ?_ | refine awp_condM ?_ | refine And.intro ?_ ?_ | apply gQ_merge | apply gE_merge | exact EqV_w | exact EqE_w | exact EqV_ptr | exact EqE_ptr | exact EqV_msl | exact EqE_msl | exact EqV_agg | exact EqE_agg | exact EqV_fn | exact EqE_fn | exact EqV_gd | exact EqE_gd | refine gM_splitN ?_ ?_ | refine gM_split ?_ ?_ |  refine condM_splitDN ?_ ?_ | refine condM_splitD ?_ ?_ | refine condM_splitN ?_ ?_ | refine condM_split ?_ ?_ | refine condM_any ?_ ?_ | intro _) | (simp [*, hlt, hq, cLine]))
        all_goals first
          | exact inI64 (by omega) (by omega)
          | omega
          | (refine loopK_normal _ _ _ _ _ (k + 1) _ ?_ (by first | omega | (dsimp only; omega) | (simp; omega)) ?_; (· refine ⟨by omega, ?_, ?_⟩ <;> (rw [show putS n (el.take (k + 1)) = _ from ks]; omega)); (refine le_of ?_ ?_ <;> first | trivial | (simp [*, show putS n (el.take (k + 1)) = _ from ks, show hasL n (el.take (k + 1)) = _ from kh]; done)))
          | skip
    · have hke : k = el.length := by omega
      subst hke
      rw [List.take_length] at *
      repeat' (first | (with_reducible first | refine awp_seq ?_ | refine awp_blockS ?_ | refine awp_blockC ?_ | refine awp_blockR ?_ | refine awp_skip ?_ | refine awp_ret ?_ | refine awp_exit ?_ | refine awp_region ?_ | refine awp_condM ?_ | refine And.intro ?_ ?_ | apply gQ_merge | apply gE_merge | exact EqV_w | exact EqE_w | exact EqV_ptr | exact EqE_ptr | exact EqV_msl | exact EqE_msl | exact EqV_agg | exact EqE_agg | exact EqV_fn | exact EqE_fn | exact EqV_gd | exact EqE_gd | refine gM_splitN ?_ ?_ | refine gM_split ?_ ?_ |  refine condM_splitDN ?_ ?_ | refine condM_splitD ?_ ?_ | refine condM_splitN ?_ ?_ | refine condM_split ?_ ?_ | refine condM_any ?_ ?_ | intro _) | (simp [*]))
      all_goals (refine finW_intro () ?_ ?_; (· trivial); (refine le_of ?_ ?_ <;> first | trivial | (simp [*, List.take_length]; done)))
  · clear hf
    repeat' (first | (with_reducible first | refine awp_seq ?_ | refine awp_blockS ?_ | refine awp_blockC ?_ | refine awp_blockR ?_ | refine awp_skip ?_ | refine awp_ret ?_ | refine awp_exit ?_ | refine awp_region ?_ | refine awp_condM ?_ | refine And.intro ?_ ?_ | apply gQ_merge | apply gE_merge | exact EqV_w | exact EqE_w | exact EqV_ptr | exact EqE_ptr | exact EqV_msl | exact EqE_msl | exact EqV_agg | exact EqE_agg | exact EqV_fn | exact EqE_fn | exact EqV_gd | exact EqE_gd | refine gM_splitN ?_ ?_ | refine gM_split ?_ ?_ |  refine condM_splitDN ?_ ?_ | refine condM_splitD ?_ ?_ | refine condM_splitN ?_ ?_ | refine condM_split ?_ ?_ | refine condM_any ?_ ?_ | intro _) | (simp [*]))
theorem rPut_c (e : Entry) (n : ByteArray) (hl : LinesIn e.lines) : RealCall Tryz.prog 119 [.agg (cEntry e), .str n] (.int .i64 (putS n e.lines)) true := by
  obtain ⟨hlen, hamt⟩ := hl
  obtain ⟨ed, en, el⟩ := e
  unfold cEntry
  dsimp only at *
  have ka := keep hamt
  clear hamt
  refine realcall_intro Tryz.func119 (by kernel_rfl) rfl (Nat.le_of_ble_eq_true (by kernel_rfl)) ?_
  simp only [Tryz.results119, Tryz.ntmps119]
  repeat' (first | (with_reducible first | refine awp_seq ?_ | refine awp_blockS ?_ | refine awp_blockC ?_ | refine awp_blockR ?_ | refine awp_skip ?_ | refine awp_ret ?_ | refine awp_exit ?_ | refine awp_region ?_ | refine awp_condM ?_ | refine And.intro ?_ ?_ | apply gQ_merge | apply gE_merge | exact EqV_w | exact EqE_w | exact EqV_ptr | exact EqE_ptr | exact EqV_msl | exact EqE_msl | exact EqV_agg | exact EqE_agg | exact EqV_fn | exact EqE_fn | exact EqV_gd | exact EqE_gd | refine gM_splitN ?_ ?_ | refine gM_split ?_ ?_ |  refine condM_splitDN ?_ ?_ | refine condM_splitD ?_ ?_ | refine condM_splitN ?_ ?_ | refine condM_split ?_ ?_ | refine condM_any ?_ ?_ | intro _) | (simp [*]))
  refine awp_for3 (fun (k : Nat) => k ≤ el.length ∧ (-(1000000000 * (k : Int)) ≤ putS n (el.take k) ∧ putS n (el.take k) ≤ 1000000000 * (k : Int))) [1, 2] (fun (k : Nat) => [(6, .w false false (.int .i64 k)), (5, .w false false (.int .i64 (putS n (el.take k))))]) [0] (fun (k : Nat) => []) (fun (k : Nat) => el.length - k) (fun (_u : Unit) => True) [] (fun (_u : Unit) => [(5, .w false false (.int .i64 (putS n el)))]) [] (fun (_u : Unit) => []) (0) ⟨Nat.zero_le _, by simp, by simp⟩ (by simp) (by simp) (fun k hk => ?_) (fun _u hf => ?_)
  · obtain ⟨hk, b1, b2⟩ := hk
    by_cases hlt : k < el.length
    · obtain ⟨a1, a2⟩ := (show ∀ k, k < el.length → -1000000000 ≤ (nth el k).amt ∧ (nth el k).amt ≤ 1000000000 from ka) k hlt
      have hs := putS_succ n el k hlt
      generalize putS n (el.take k) = S at *
      by_cases hq : (nth el k).acc = n
      · rw [if_pos hq] at hs
        have ks := keep hs
        clear hs
        repeat' (first | (with_reducible first | refine awp_seq ?_ | refine awp_blockS ?_ | refine awp_blockC ?_ | refine awp_blockR ?_ | refine awp_skip ?_ | refine awp_ret ?_ | refine awp_exit ?_ | refine awp_region ?_ | refine awp_condM ?_ | refine And.intro ?_ ?_ | apply gQ_merge | apply gE_merge | exact EqV_w | exact EqE_w | exact EqV_ptr | exact EqE_ptr | exact EqV_msl | exact EqE_msl | exact EqV_agg | exact EqE_agg | exact EqV_fn | exact EqE_fn | exact EqV_gd | exact EqE_gd | refine gM_splitN ?_ ?_ | refine gM_split ?_ ?_ |  refine condM_splitDN ?_ ?_ | refine condM_splitD ?_ ?_ | refine condM_splitN ?_ ?_ | refine condM_split ?_ ?_ | refine condM_any ?_ ?_ | intro _) | (simp [*, hlt, hq, cLine]))
        all_goals first
          | exact inI64 (by omega) (by omega)
          | omega
          | (refine loopK_normal _ _ _ _ _ (k + 1) _ ?_ (by first | omega | (dsimp only; omega) | (simp; omega)) ?_; (· refine ⟨by omega, ?_, ?_⟩ <;> (rw [show putS n (el.take (k + 1)) = _ from ks]; omega)); (refine le_of ?_ ?_ <;> first | trivial | (simp [*, show putS n (el.take (k + 1)) = _ from ks]; done)))
          | skip
      · rw [if_neg hq, Int.add_zero] at hs
        have ks := keep hs
        clear hs
        repeat' (first | (with_reducible first | refine awp_seq ?_ | refine awp_blockS ?_ | refine awp_blockC ?_ | refine awp_blockR ?_ | refine awp_skip ?_ | refine awp_ret ?_ | refine awp_exit ?_ | refine awp_region ?_ | refine awp_condM ?_ | refine And.intro ?_ ?_ | apply gQ_merge | apply gE_merge | exact EqV_w | exact EqE_w | exact EqV_ptr | exact EqE_ptr | exact EqV_msl | exact EqE_msl | exact EqV_agg | exact EqE_agg | exact EqV_fn | exact EqE_fn | exact EqV_gd | exact EqE_gd | refine gM_splitN ?_ ?_ | refine gM_split ?_ ?_ |  refine condM_splitDN ?_ ?_ | refine condM_splitD ?_ ?_ | refine condM_splitN ?_ ?_ | refine condM_split ?_ ?_ | refine condM_any ?_ ?_ | intro _) | (simp [*, hlt, hq, cLine]))
        all_goals first
          | exact inI64 (by omega) (by omega)
          | omega
          | (refine loopK_normal _ _ _ _ _ (k + 1) _ ?_ (by first | omega | (dsimp only; omega) | (simp; omega)) ?_; (· refine ⟨by omega, ?_, ?_⟩ <;> (rw [show putS n (el.take (k + 1)) = _ from ks]; omega)); (refine le_of ?_ ?_ <;> first | trivial | (simp [*, show putS n (el.take (k + 1)) = _ from ks]; done)))
          | skip
    · have hke : k = el.length := by omega
      subst hke
      rw [List.take_length] at *
      repeat' (first | (with_reducible first | refine awp_seq ?_ | refine awp_blockS ?_ | refine awp_blockC ?_ | refine awp_blockR ?_ | refine awp_skip ?_ | refine awp_ret ?_ | refine awp_exit ?_ | refine awp_region ?_ | refine awp_condM ?_ | refine And.intro ?_ ?_ | apply gQ_merge | apply gE_merge | exact EqV_w | exact EqE_w | exact EqV_ptr | exact EqE_ptr | exact EqV_msl | exact EqE_msl | exact EqV_agg | exact EqE_agg | exact EqV_fn | exact EqE_fn | exact EqV_gd | exact EqE_gd | refine gM_splitN ?_ ?_ | refine gM_split ?_ ?_ |  refine condM_splitDN ?_ ?_ | refine condM_splitD ?_ ?_ | refine condM_splitN ?_ ?_ | refine condM_split ?_ ?_ | refine condM_any ?_ ?_ | intro _) | (simp [*]))
      all_goals (refine finW_intro () ?_ ?_; (· trivial); (refine le_of ?_ ?_ <;> first | trivial | (simp [*, List.take_length]; done)))
  · clear hf
    repeat' (first | (with_reducible first | refine awp_seq ?_ | refine awp_blockS ?_ | refine awp_blockC ?_ | refine awp_blockR ?_ | refine awp_skip ?_ | refine awp_ret ?_ | refine awp_exit ?_ | refine awp_region ?_ | refine awp_condM ?_ | refine And.intro ?_ ?_ | apply gQ_merge | apply gE_merge | exact EqV_w | exact EqE_w | exact EqV_ptr | exact EqE_ptr | exact EqV_msl | exact EqE_msl | exact EqV_agg | exact EqE_agg | exact EqV_fn | exact EqE_fn | exact EqV_gd | exact EqE_gd | refine gM_splitN ?_ ?_ | refine gM_split ?_ ?_ |  refine condM_splitDN ?_ ?_ | refine condM_splitD ?_ ?_ | refine condM_splitN ?_ ?_ | refine condM_split ?_ ?_ | refine condM_any ?_ ?_ | intro _) | (simp [*]))
theorem rNames_c (e : Entry) (n : ByteArray) (hlen : e.lines.length < 100000) : RealCall Tryz.prog 121 [.agg (cEntry e), .str n] (.bool (hasL n e.lines)) true := by
  obtain ⟨ed, en, el⟩ := e
  unfold cEntry
  dsimp only at *
  generalize hR : hasL n el = R
  have kR : Keep (hasL n el = R) := keep hR
  clear hR
  refine realcall_intro Tryz.func121 (by kernel_rfl) rfl (Nat.le_of_ble_eq_true (by kernel_rfl)) ?_
  simp only [Tryz.results121, Tryz.ntmps121]
  repeat' (first | (with_reducible first | refine awp_seq ?_ | refine awp_blockS ?_ | refine awp_blockC ?_ | refine awp_blockR ?_ | refine awp_skip ?_ | refine awp_ret ?_ | refine awp_exit ?_ | refine awp_region ?_ | refine awp_condM ?_ | refine And.intro ?_ ?_ | apply gQ_merge | apply gE_merge | exact EqV_w | exact EqE_w | exact EqV_ptr | exact EqE_ptr | exact EqV_msl | exact EqE_msl | exact EqV_agg | exact EqE_agg | exact EqV_fn | exact EqE_fn | exact EqV_gd | exact EqE_gd | refine gM_splitN ?_ ?_ | refine gM_split ?_ ?_ |  refine condM_splitDN ?_ ?_ | refine condM_splitD ?_ ?_ | refine condM_splitN ?_ ?_ | refine condM_split ?_ ?_ | refine condM_any ?_ ?_ | intro _) | (simp [*]))
  refine awp_for3 (fun (k : Nat) => k ≤ el.length ∧ hasL n (el.drop k) = R) [1, 2] (fun (k : Nat) => [(5, .w false false (.int .i64 k))]) [0] (fun (k : Nat) => []) (fun (k : Nat) => el.length - k) (fun (_u : Unit) => R = false) [] (fun (_u : Unit) => []) [] (fun (_u : Unit) => []) (0) ⟨Nat.zero_le _, kR⟩ (by simp) (by simp) (fun k hk => ?_) (fun _u hf => ?_)
  · obtain ⟨hk, hj⟩ := hk
    by_cases hlt : k < el.length
    · rw [drop_nth el k hlt] at hj
      unfold hasL at hj
      rw [List.any_cons] at hj
      by_cases hq : (nth el k).acc = n
      · rw [decide_eq_true hq, Bool.true_or] at hj
        subst hj
        repeat' (first | (with_reducible first | refine awp_seq ?_ | refine awp_blockS ?_ | refine awp_blockC ?_ | refine awp_blockR ?_ | refine awp_skip ?_ | refine awp_ret ?_ | refine awp_exit ?_ | refine awp_region ?_ | refine awp_condM ?_ | refine And.intro ?_ ?_ | apply gQ_merge | apply gE_merge | exact EqV_w | exact EqE_w | exact EqV_ptr | exact EqE_ptr | exact EqV_msl | exact EqE_msl | exact EqV_agg | exact EqE_agg | exact EqV_fn | exact EqE_fn | exact EqV_gd | exact EqE_gd | refine gM_splitN ?_ ?_ | refine gM_split ?_ ?_ |  refine condM_splitDN ?_ ?_ | refine condM_splitD ?_ ?_ | refine condM_splitN ?_ ?_ | refine condM_split ?_ ?_ | refine condM_any ?_ ?_ | intro _) | (simp [*, hlt, hq, cLine]))
        all_goals omega
      · rw [decide_eq_false hq, Bool.false_or] at hj
        have kj := keep hj
        clear hj
        repeat' (first | (with_reducible first | refine awp_seq ?_ | refine awp_blockS ?_ | refine awp_blockC ?_ | refine awp_blockR ?_ | refine awp_skip ?_ | refine awp_ret ?_ | refine awp_exit ?_ | refine awp_region ?_ | refine awp_condM ?_ | refine And.intro ?_ ?_ | apply gQ_merge | apply gE_merge | exact EqV_w | exact EqE_w | exact EqV_ptr | exact EqE_ptr | exact EqV_msl | exact EqE_msl | exact EqV_agg | exact EqE_agg | exact EqV_fn | exact EqE_fn | exact EqV_gd | exact EqE_gd | refine gM_splitN ?_ ?_ | refine gM_split ?_ ?_ |  refine condM_splitDN ?_ ?_ | refine condM_splitD ?_ ?_ | refine condM_splitN ?_ ?_ | refine condM_split ?_ ?_ | refine condM_any ?_ ?_ | intro _) | (simp [*, hlt, hq, cLine]))
        all_goals first
          | exact inI64 (by omega) (by omega)
          | omega
          | (refine loopK_normal _ _ _ _ _ (k + 1) _ ?_ (by first | omega | (dsimp only; omega) | (simp; omega)) ?_; (· exact ⟨by omega, kj⟩); (refine le_of ?_ ?_ <;> first | trivial | (simp [*]; done)))
          | skip
    · have hke : k = el.length := by omega
      subst hke
      repeat' (first | (with_reducible first | refine awp_seq ?_ | refine awp_blockS ?_ | refine awp_blockC ?_ | refine awp_blockR ?_ | refine awp_skip ?_ | refine awp_ret ?_ | refine awp_exit ?_ | refine awp_region ?_ | refine awp_condM ?_ | refine And.intro ?_ ?_ | apply gQ_merge | apply gE_merge | exact EqV_w | exact EqE_w | exact EqV_ptr | exact EqE_ptr | exact EqV_msl | exact EqE_msl | exact EqV_agg | exact EqE_agg | exact EqV_fn | exact EqE_fn | exact EqV_gd | exact EqE_gd | refine gM_splitN ?_ ?_ | refine gM_split ?_ ?_ |  refine condM_splitDN ?_ ?_ | refine condM_splitD ?_ ?_ | refine condM_splitN ?_ ?_ | refine condM_split ?_ ?_ | refine condM_any ?_ ?_ | intro _) | (simp [*]))
      all_goals (refine finW_intro () ?_ ?_; (· rw [← hj, List.drop_length]; rfl); (refine le_of ?_ ?_ <;> first | trivial | (simp [*]; done)))
  · subst hf
    repeat' (first | (with_reducible first | refine awp_seq ?_ | refine awp_blockS ?_ | refine awp_blockC ?_ | refine awp_blockR ?_ | refine awp_skip ?_ | refine awp_ret ?_ | refine awp_exit ?_ | refine awp_region ?_ | refine awp_condM ?_ | refine And.intro ?_ ?_ | apply gQ_merge | apply gE_merge | exact EqV_w | exact EqE_w | exact EqV_ptr | exact EqE_ptr | exact EqV_msl | exact EqE_msl | exact EqV_agg | exact EqE_agg | exact EqV_fn | exact EqE_fn | exact EqV_gd | exact EqE_gd | refine gM_splitN ?_ ?_ | refine gM_split ?_ ?_ |  refine condM_splitDN ?_ ?_ | refine condM_splitD ?_ ?_ | refine condM_splitN ?_ ?_ | refine condM_split ?_ ?_ | refine condM_any ?_ ?_ | intro _) | (simp [*]))
end Go.Proofs.YtdgbfbgnbgfmjaaGreatDoor
