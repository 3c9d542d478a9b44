/- Contracts of functions for this claim: lemmas alone. -/
import Derived.Test.YtdgbfbgnbgfmjaaGreatDoorP41
set_option linter.unusedSimpArgs false
set_option linter.unusedVariables false
namespace Go.Proofs.YtdgbfbgnbgfmjaaGreatDoor
open Go Go.Fi
set_option maxRecDepth 20000
attribute [-simp] cEntries_drop2

set_option maxHeartbeats 4000000 in
theorem rStatement_c (b : Book) (he : EntsIn b.entries) (n : ByteArray) (lo hi : Int) : RealCall Tryz.prog 53 [.agg (cBook b), .str n, .int .i64 lo, .int .i64 hi] (.sl (stK n lo hi b.entries b.entries.length).length (cRows (stK n lo hi b.entries b.entries.length))) true := by
  have hlen := he.len
  obtain ⟨ba, be, bc⟩ := b
  unfold cBook at *
  dsimp only at *
  refine realcall_intro Tryz.func53 (by kernel_rfl) rfl (Nat.le_of_ble_eq_true (by kernel_rfl)) ?_
  simp only [Tryz.results53, Tryz.ntmps53]
  repeat' (first | (with_reducible first | refine awp_seq ?_ | refine awp_blockS ?_ | refine awp_blockC ?_ | refine awp_blockR ?_ | refine awp_skip ?_ | refine awp_ret ?_ | refine awp_exit ?_ | refine awp_region ?_ | refine awp_condM ?_ | refine And.intro ?_ ?_ | apply gQ_merge | apply gE_merge | exact EqV_w | exact EqE_w | exact EqV_ptr | exact EqE_ptr | exact EqV_msl | exact EqE_msl | exact EqV_agg | exact EqE_agg | exact EqV_fn | exact EqE_fn | exact EqV_gd | exact EqE_gd | refine gM_splitN ?_ ?_ | refine gM_split ?_ ?_ |  refine condM_splitDN ?_ ?_ | refine condM_splitD ?_ ?_ | refine condM_splitN ?_ ?_ | refine condM_split ?_ ?_ | refine condM_any ?_ ?_ | intro _) | (simp [*]))
  refine awp_for4 2 (fun (k : Nat) => k ≤ be.length ∧ (-(100000000000000 * (k : Int)) ≤ runK n be k ∧ runK n be k ≤ 100000000000000 * (k : Int))) [1, 2, 3, 4] (fun (k : Nat) => [(9, .msl 1 ((stK n lo hi be k).length * 3) 3 0 (stK n lo hi be k).length), (10, .w false false (.int .i64 (runK n be k))), (11, .w false false (.int .i64 k))]) [0] (fun (k : Nat) => [(1, rA (stK n lo hi be k))]) (fun (k : Nat) => be.length - k) (fun (_u : Unit) => True) [] (fun (_u : Unit) => [(9, .msl 1 ((stK n lo hi be be.length).length * 3) 3 0 (stK n lo hi be be.length).length)]) [] (fun (_u : Unit) => [(1, rA (stK n lo hi be be.length))]) (0) ⟨Nat.zero_le _, by simp, by simp⟩ (le_gen [] (by simp) (by simp)) (fun k hk => ?_) (fun _u hf => ?_)
  · obtain ⟨hk, b1, b2⟩ := hk
    by_cases hlt : k < be.length
    · have hl := (show ∀ k, k < be.length → LinesIn (nth be k).lines from he.ent) k hlt
      have c1 := rPut_c (nth be k) n hl
      have c2 := rWithin_c (nth be k).date lo hi
      have c3 := rNames_c (nth be k) n hl.len
      obtain ⟨a1, a2⟩ := putS_big n _ hl
      have hr := runK_succ n be k
      have hL := stK_len n lo hi be k
      have hy := stK_yes n lo hi be k
      have hn := stK_no n lo hi be k
      clear he hl
      have kr := keep hr
      cases h2 : winB (nth be k).date lo hi with
      | false =>
        have ks := keep (hn (.inr h2))
        rw [h2] at c2
        clear hy hn h2 hr
        generalize stK n lo hi be k = L at *
        generalize runK n be k = R at *
        generalize putS n (nth be k).lines = p at *
        unfold cEntry at c1 c3
        repeat' (first | (with_reducible first | refine awp_seq ?_ | refine awp_blockS ?_ | refine awp_blockC ?_ | refine awp_blockR ?_ | refine awp_skip ?_ | refine awp_ret ?_ | refine awp_exit ?_ | refine awp_region ?_ | refine awp_condM ?_ | refine And.intro ?_ ?_ | apply gQ_merge | apply gE_merge | exact EqV_w | exact EqE_w | exact EqV_ptr | exact EqE_ptr | exact EqV_msl | exact EqE_msl | exact EqV_agg | exact EqE_agg | exact EqV_fn | exact EqE_fn | exact EqV_gd | exact EqE_gd | refine gM_splitN ?_ ?_ | refine gM_split ?_ ?_ |  refine condM_splitDN ?_ ?_ | refine condM_splitD ?_ ?_ | refine condM_splitN ?_ ?_ | refine condM_split ?_ ?_ | refine condM_any ?_ ?_ | refine cw (c1) ?_ | refine cw (c2) ?_ | refine cw (c3) ?_ | intro _) | (simp [*, hlt, cEntry]) | (refine cw_eq (c1) ?_ ?_; (· (simp [*]; done))) | (refine cw_eq (c2) ?_ ?_; (· (simp [*]; done))) | (refine cw_eq (c3) ?_ ?_; (· (simp [*]; done))))
        all_goals first
          | exact inI64 (by omega) (by omega)
          | omega
          | (refine loopK_normal _ _ _ _ _ (k + 1) _ ?_ (by first | omega | (dsimp only; omega) | (simp; omega)) ?_; (· refine ⟨by omega, ?_, ?_⟩ <;> (rw [show runK n be (k + 1) = _ from kr]; omega)); (refine le_gen [] ?_ ?_ <;> first | trivial | (simp [*, (show stK n lo hi be (k + 1) = _ from ks), (show runK n be (k + 1) = _ from kr), Nat.add_mul]; done)))
          | skip
      | true =>
        rw [h2] at c2
        cases h1 : hasL n (nth be k).lines with
        | false =>
          have ks := keep (hn (.inl h1))
          rw [h1] at c3
          clear hy hn h1 h2 hr
          generalize stK n lo hi be k = L at *
          generalize runK n be k = R at *
          generalize putS n (nth be k).lines = p at *
          unfold cEntry at c1 c3
          repeat' (first | (with_reducible first | refine awp_seq ?_ | refine awp_blockS ?_ | refine awp_blockC ?_ | refine awp_blockR ?_ | refine awp_skip ?_ | refine awp_ret ?_ | refine awp_exit ?_ | refine awp_region ?_ | refine awp_condM ?_ | refine And.intro ?_ ?_ | apply gQ_merge | apply gE_merge | exact EqV_w | exact EqE_w | exact EqV_ptr | exact EqE_ptr | exact EqV_msl | exact EqE_msl | exact EqV_agg | exact EqE_agg | exact EqV_fn | exact EqE_fn | exact EqV_gd | exact EqE_gd | refine gM_splitN ?_ ?_ | refine gM_split ?_ ?_ |  refine condM_splitDN ?_ ?_ | refine condM_splitD ?_ ?_ | refine condM_splitN ?_ ?_ | refine condM_split ?_ ?_ | refine condM_any ?_ ?_ | refine cw (c1) ?_ | refine cw (c2) ?_ | refine cw (c3) ?_ | intro _) | (simp [*, hlt, cEntry]) | (refine cw_eq (c1) ?_ ?_; (· (simp [*]; done))) | (refine cw_eq (c2) ?_ ?_; (· (simp [*]; done))) | (refine cw_eq (c3) ?_ ?_; (· (simp [*]; done))))
          all_goals first
            | exact inI64 (by omega) (by omega)
            | omega
            | (refine loopK_normal _ _ _ _ _ (k + 1) _ ?_ (by first | omega | (dsimp only; omega) | (simp; omega)) ?_; (· refine ⟨by omega, ?_, ?_⟩ <;> (rw [show runK n be (k + 1) = _ from kr]; omega)); (refine le_gen [] ?_ ?_ <;> first | trivial | (simp [*, (show stK n lo hi be (k + 1) = _ from ks), (show runK n be (k + 1) = _ from kr), Nat.add_mul]; done)))
            | skip
        | true =>
          have ks := keep (hy h1 h2)
          rw [hr] at ks
          rw [h1] at c3
          clear hy hn h1 h2 hr
          generalize stK n lo hi be k = L at *
          generalize runK n be k = R at *
          generalize putS n (nth be k).lines = p at *
          unfold cEntry at c1 c3
          repeat' (first | (with_reducible first | refine awp_seq ?_ | refine awp_blockS ?_ | refine awp_blockC ?_ | refine awp_blockR ?_ | refine awp_skip ?_ | refine awp_ret ?_ | refine awp_exit ?_ | refine awp_region ?_ | refine awp_condM ?_ | refine And.intro ?_ ?_ | apply gQ_merge | apply gE_merge | exact EqV_w | exact EqE_w | exact EqV_ptr | exact EqE_ptr | exact EqV_msl | exact EqE_msl | exact EqV_agg | exact EqE_agg | exact EqV_fn | exact EqE_fn | exact EqV_gd | exact EqE_gd | refine gM_splitN ?_ ?_ | refine gM_split ?_ ?_ |  refine condM_splitDN ?_ ?_ | refine condM_splitD ?_ ?_ | refine condM_splitN ?_ ?_ | refine condM_split ?_ ?_ | refine condM_any ?_ ?_ | refine cw (c1) ?_ | refine cw (c2) ?_ | refine cw (c3) ?_ | intro _) | (simp [*, hlt, cEntry]) | (refine cw_eq (c1) ?_ ?_; (· (simp [*]; done))) | (refine cw_eq (c2) ?_ ?_; (· (simp [*]; done))) | (refine cw_eq (c3) ?_ ?_; (· (simp [*]; done))))
          all_goals first
            | exact inI64 (by omega) (by omega)
            | omega
            | (refine loopK_normal _ _ _ _ _ (k + 1) _ ?_ (by first | omega | (dsimp only; omega) | (simp; omega)) ?_; (· refine ⟨by omega, ?_, ?_⟩ <;> (rw [show runK n be (k + 1) = _ from kr]; omega)); (refine le_gen [] ?_ ?_ <;> first | trivial | (simp [*, (show stK n lo hi be (k + 1) = _ from ks), (show runK n be (k + 1) = _ from kr), Nat.add_mul]; done)))
            | skip
    · have hke : k = be.length := by omega
      subst hke
      clear he
      repeat' (first | (with_reducible first | refine awp_seq ?_ | refine awp_blockS ?_ | refine awp_blockC ?_ | refine awp_blockR ?_ | refine awp_skip ?_ | refine awp_ret ?_ | refine awp_exit ?_ | refine awp_region ?_ | refine awp_condM ?_ | refine And.intro ?_ ?_ | apply gQ_merge | apply gE_merge | exact EqV_w | exact EqE_w | exact EqV_ptr | exact EqE_ptr | exact EqV_msl | exact EqE_msl | exact EqV_agg | exact EqE_agg | exact EqV_fn | exact EqE_fn | exact EqV_gd | exact EqE_gd | refine gM_splitN ?_ ?_ | refine gM_split ?_ ?_ |  refine condM_splitDN ?_ ?_ | refine condM_splitD ?_ ?_ | refine condM_splitN ?_ ?_ | refine condM_split ?_ ?_ | refine condM_any ?_ ?_ | intro _) | (simp [*]))
      all_goals (refine finW_intro () ?_ ?_; (· trivial); (refine le_gen [] ?_ ?_ <;> first | trivial | (simp [*]; done)))
  · clear he
    repeat' (first | (with_reducible first | refine awp_seq ?_ | refine awp_blockS ?_ | refine awp_blockC ?_ | refine awp_blockR ?_ | refine awp_skip ?_ | refine awp_ret ?_ | refine awp_exit ?_ | refine awp_region ?_ | refine awp_condM ?_ | refine And.intro ?_ ?_ | apply gQ_merge | apply gE_merge | exact EqV_w | exact EqE_w | exact EqV_ptr | exact EqE_ptr | exact EqV_msl | exact EqE_msl | exact EqV_agg | exact EqE_agg | exact EqV_fn | exact EqE_fn | exact EqV_gd | exact EqE_gd | refine gM_splitN ?_ ?_ | refine gM_split ?_ ?_ |  refine condM_splitDN ?_ ?_ | refine condM_splitD ?_ ?_ | refine condM_splitN ?_ ?_ | refine condM_split ?_ ?_ | refine condM_any ?_ ?_ | intro _) | (simp [*]))
end Go.Proofs.YtdgbfbgnbgfmjaaGreatDoor
