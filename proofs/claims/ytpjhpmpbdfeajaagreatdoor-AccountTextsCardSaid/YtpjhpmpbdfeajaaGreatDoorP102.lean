/- Contracts of functions for this claim: lemmas alone. -/
import Derived.Test.YtpjhpmpbdfeajaaGreatDoorP10
import Derived.Test.YtpjhpmpbdfeajaaGreatDoorLv
set_option linter.unusedSimpArgs false
set_option linter.unusedVariables false
namespace Go.Proofs.YtpjhpmpbdfeajaaGreatDoor
open Go Go.Fi
set_option maxRecDepth 20000

/-! ### the reference's cut of a text at a byte -/
theorem byte_eq (s : ByteArray) (k : Nat) (c : UInt8) : decide ((byteAt s k : Int) = (c.toNat : Int)) = decide (s.data.toList.getD k 0 = c) := by
  unfold byteAt
  by_cases h : s.data.toList.getD k 0 = c
  · rw [h]; simp
  · rw [decide_eq_false h, decide_eq_false]
    intro e
    exact h (UInt8.toNat_inj.1 (by omega))
set_option maxHeartbeats 4000000 in
theorem rCut_c (s : ByteArray) (c : UInt8) (hs : s.size < 1000000) : RealCall Tryz.prog 50 [.str s, .int .u8 c.toNat] (.sl (pieces s ⟨#[c]⟩).length (strP (pieces s ⟨#[c]⟩))) true := by
  rw [cut_pieces]
  have e0 : cutFr c s 0 = 0 := rfl
  have e1 : cutCl c s 0 = [] := rfl
  refine realcall_intro Tryz.func50 (by kernel_rfl) rfl (Nat.le_of_ble_eq_true (by kernel_rfl)) ?_
  simp only [Tryz.results50, Tryz.ntmps50]
  repeat' (first | (with_reducible first | refine awp_seq ?_ | refine awp_blockS ?_ | refine awp_blockC ?_ | refine awp_blockR ?_ | refine awp_skip ?_ | refine awp_ret ?_ | refine awp_exit ?_ | refine awp_region ?_ | refine awp_condM ?_ | refine And.intro ?_ ?_ | apply gQ_merge | apply gE_merge | exact EqV_w | exact EqE_w | exact EqV_ptr | exact EqE_ptr | exact EqV_msl | exact EqE_msl | exact EqV_agg | exact EqE_agg | exact EqV_fn | exact EqE_fn | exact EqV_gd | exact EqE_gd | refine gM_splitN ?_ ?_ | refine gM_split ?_ ?_ |  refine condM_splitDN ?_ ?_ | refine condM_splitD ?_ ?_ | refine condM_splitN ?_ ?_ | refine condM_split ?_ ?_ | refine condM_any ?_ ?_ | intro _) | (simp [*, repl]))
  refine awp_for4 1 (fun (k : Nat) => k ≤ s.size) [0, 1] (fun (k : Nat) => [(7, .w false false (.int .i64 k)), (6, .w false false (.int .i64 (cutFr c s k))), (5, .msl 0 (cutCl c s k).length 1 0 (cutCl c s k).length)]) [] (fun (k : Nat) => [(0, stA (cutCl c s k))]) (fun (k : Nat) => s.size - k) (fun (_u : Unit) => True) [0] (fun (_u : Unit) => [(6, .w false false (.int .i64 (cutFr c s s.size))), (5, .msl 0 (cutCl c s s.size).length 1 0 (cutCl c s s.size).length)]) [] (fun (_u : Unit) => [(0, stA (cutCl c s s.size))]) (0) (Nat.zero_le _) (le_gen [] (by simp [e0, e1, stA, strP]) (by simp [e0, e1, stA, strP])) (fun k hk => ?_) (fun _u hf => ?_)
  · clear e0 e1
    by_cases hlt : k < s.size
    · have hltI : (k : Int) < (s.size : Int) := by omega
      have hf := cutFr_le c s k
      have hcl := cutCl_len c s k
      have hfI : (cutFr c s k : Int) ≤ (k : Int) := by omega
      have y1 := cutFr_succ c s k
      have y2 := cutCl_succ c s k
      have hbe := byte_eq s k c
      by_cases hc : s.data.toList.getD k 0 = c
      · rw [if_pos hc] at y1 y2
        rw [decide_eq_true hc] at hbe
        have hb := of_decide_eq_true hbe
        have k1 := keep y1
        have k2 := keep y2
        clear hbe hc y1 y2
        generalize cutFr c s k = f at *
        generalize cutCl c s k = L at *
        repeat' (first | (with_reducible first | refine awp_seq ?_ | refine awp_blockS ?_ | refine awp_blockC ?_ | refine awp_blockR ?_ | refine awp_skip ?_ | refine awp_ret ?_ | refine awp_exit ?_ | refine awp_region ?_ | refine awp_condM ?_ | refine And.intro ?_ ?_ | apply gQ_merge | apply gE_merge | exact EqV_w | exact EqE_w | exact EqV_ptr | exact EqE_ptr | exact EqV_msl | exact EqE_msl | exact EqV_agg | exact EqE_agg | exact EqV_fn | exact EqE_fn | exact EqV_gd | exact EqE_gd | refine gM_splitN ?_ ?_ | refine gM_split ?_ ?_ |  refine condM_splitDN ?_ ?_ | refine condM_splitD ?_ ?_ | refine condM_splitN ?_ ?_ | refine condM_split ?_ ?_ | refine condM_any ?_ ?_ | intro _) | (simp [*, hlt, hltI, hb]))
        all_goals try first | exact inI64 (by omega) (by omega) | omega
        all_goals (refine loopK_normal _ _ _ _ _ (k + 1) _ ?_ (by first | omega | (dsimp only; omega) | (simp; omega)) ?_; (· omega); (refine le_gen [] ?_ ?_ <;> first | trivial | (simp [*, (show cutFr c s (k + 1) = _ from k1), (show cutCl c s (k + 1) = _ from k2)]; done)))
      · rw [if_neg hc] at y1 y2
        rw [decide_eq_false hc] at hbe
        have hb := of_decide_eq_false hbe
        have k1 := keep y1
        have k2 := keep y2
        clear hbe hc y1 y2
        generalize cutFr c s k = f at *
        generalize cutCl c s k = L at *
        repeat' (first | (with_reducible first | refine awp_seq ?_ | refine awp_blockS ?_ | refine awp_blockC ?_ | refine awp_blockR ?_ | refine awp_skip ?_ | refine awp_ret ?_ | refine awp_exit ?_ | refine awp_region ?_ | refine awp_condM ?_ | refine And.intro ?_ ?_ | apply gQ_merge | apply gE_merge | exact EqV_w | exact EqE_w | exact EqV_ptr | exact EqE_ptr | exact EqV_msl | exact EqE_msl | exact EqV_agg | exact EqE_agg | exact EqV_fn | exact EqE_fn | exact EqV_gd | exact EqE_gd | refine gM_splitN ?_ ?_ | refine gM_split ?_ ?_ |  refine condM_splitDN ?_ ?_ | refine condM_splitD ?_ ?_ | refine condM_splitN ?_ ?_ | refine condM_split ?_ ?_ | refine condM_any ?_ ?_ | intro _) | (simp [*, hlt, hltI, hb]))
        all_goals try first | exact inI64 (by omega) (by omega) | omega
        all_goals (refine loopK_normal _ _ _ _ _ (k + 1) _ ?_ (by first | omega | (dsimp only; omega) | (simp; omega)) ?_; (· omega); (refine le_gen [] ?_ ?_ <;> first | trivial | (simp [*, (show cutFr c s (k + 1) = _ from k1), (show cutCl c s (k + 1) = _ from k2)]; done)))
    · have hke : k = s.size := by omega
      subst hke
      repeat' (first | (with_reducible first | refine awp_seq ?_ | refine awp_blockS ?_ | refine awp_blockC ?_ | refine awp_blockR ?_ | refine awp_skip ?_ | refine awp_ret ?_ | refine awp_exit ?_ | refine awp_region ?_ | refine awp_condM ?_ | refine And.intro ?_ ?_ | apply gQ_merge | apply gE_merge | exact EqV_w | exact EqE_w | exact EqV_ptr | exact EqE_ptr | exact EqV_msl | exact EqE_msl | exact EqV_agg | exact EqE_agg | exact EqV_fn | exact EqE_fn | exact EqV_gd | exact EqE_gd | refine gM_splitN ?_ ?_ | refine gM_split ?_ ?_ |  refine condM_splitDN ?_ ?_ | refine condM_splitD ?_ ?_ | refine condM_splitN ?_ ?_ | refine condM_split ?_ ?_ | refine condM_any ?_ ?_ | intro _) | (simp [*]))
      all_goals (refine finW_intro () ?_ ?_; (· trivial); (refine le_gen [] ?_ ?_ <;> first | trivial | (simp [*]; done)))
  · clear e0 e1 hf
    have hf := cutFr_le c s s.size
    have hcl := cutCl_len c s s.size
    generalize cutFr c s s.size = f at *
    generalize cutCl c s s.size = L at *
    have hfI : (f : Int) ≤ (s.size : Int) := by omega
    repeat' (first | (with_reducible first | refine awp_seq ?_ | refine awp_blockS ?_ | refine awp_blockC ?_ | refine awp_blockR ?_ | refine awp_skip ?_ | refine awp_ret ?_ | refine awp_exit ?_ | refine awp_region ?_ | refine awp_condM ?_ | refine And.intro ?_ ?_ | apply gQ_merge | apply gE_merge | exact EqV_w | exact EqE_w | exact EqV_ptr | exact EqE_ptr | exact EqV_msl | exact EqE_msl | exact EqV_agg | exact EqE_agg | exact EqV_fn | exact EqE_fn | exact EqV_gd | exact EqE_gd | refine gM_splitN ?_ ?_ | refine gM_split ?_ ?_ |  refine condM_splitDN ?_ ?_ | refine condM_splitD ?_ ?_ | refine condM_splitN ?_ ?_ | refine condM_split ?_ ?_ | refine condM_any ?_ ?_ | intro _) | (simp [*]))
    all_goals try first | exact inI64 (by omega) (by omega) | omega
end Go.Proofs.YtpjhpmpbdfeajaaGreatDoor

