/- Contracts of functions for this claim: lemmas alone. -/
import Derived.Test.YtdgbfbgnbgfmjaaGreatDoorP51
import Derived.Test.YtdgbfbgnbgfmjaaGreatDoorP40
set_option linter.unusedSimpArgs false
set_option linter.unusedVariables false
namespace Go.Proofs.YtdgbfbgnbgfmjaaGreatDoor
open Go Go.Fi
set_option maxRecDepth 20000

theorem sumO_bd (L : List Item) (h : ∀ j, j < L.length → 0 ≤ (nth L j).op ∧ (nth L j).op ≤ 1200000000000) : ∀ k : Nat, k ≤ L.length → 0 ≤ sumO (L.take k) ∧ sumO (L.take k) ≤ 1200000000000 * (k : Int)
  | 0, _ => by simp
  | k + 1, hk => by
    have ih := sumO_bd L h k (by omega)
    have := h k (by omega)
    rw [sumO_succ L k (by omega)]
    omega
set_option maxHeartbeats 4000000 in
theorem accountOpen_c (b : Book) (n : ByteArray) : RealCall Tryz.prog 10 [.agg (cBook b), .str n] (.bool true) true := by
  have c0 := awake_c
  have c1 := smallBook_c b
  cases h1 : bookB b with
  | false =>
    rw [h1] at c1
    clear h1
    unfold cBook at *
    refine realcall_intro Tryz.func10 (by kernel_rfl) rfl (Nat.le_of_ble_eq_true (by kernel_rfl)) ?_
    simp only [Tryz.results10, Tryz.ntmps10]
    repeat' (first | (with_reducible first | refine awp_seq ?_ | refine awp_blockS ?_ | refine awp_blockC ?_ | refine awp_blockR ?_ | refine awp_skip ?_ | refine awp_ret ?_ | refine awp_exit ?_ | refine awp_region ?_ | refine awp_condM ?_ | refine And.intro ?_ ?_ | apply gQ_merge | apply gE_merge | exact EqV_w | exact EqE_w | exact EqV_ptr | exact EqE_ptr | exact EqV_msl | exact EqE_msl | exact EqV_agg | exact EqE_agg | exact EqV_fn | exact EqE_fn | exact EqV_gd | exact EqE_gd | refine gM_splitN ?_ ?_ | refine gM_split ?_ ?_ |  refine condM_splitDN ?_ ?_ | refine condM_splitD ?_ ?_ | refine condM_splitN ?_ ?_ | refine condM_split ?_ ?_ | refine condM_any ?_ ?_ | refine cw (c0) ?_ | refine cw (c1) ?_ | intro _) | (simp [*]) | (refine cw_eq (c0) ?_ ?_; (· (simp [*]; done))) | (refine cw_eq (c1) ?_ ?_; (· (simp [*]; done))))
  | true =>
    rw [h1] at c1
    have hb := bookB_in h1
    clear h1
    by_cases hn : 20 < (n.size : Int)
    · clear hb
      unfold cBook at *
      refine realcall_intro Tryz.func10 (by kernel_rfl) rfl (Nat.le_of_ble_eq_true (by kernel_rfl)) ?_
      simp only [Tryz.results10, Tryz.ntmps10]
      repeat' (first | (with_reducible first | refine awp_seq ?_ | refine awp_blockS ?_ | refine awp_blockC ?_ | refine awp_blockR ?_ | refine awp_skip ?_ | refine awp_ret ?_ | refine awp_exit ?_ | refine awp_region ?_ | refine awp_condM ?_ | refine And.intro ?_ ?_ | apply gQ_merge | apply gE_merge | exact EqV_w | exact EqE_w | exact EqV_ptr | exact EqE_ptr | exact EqV_msl | exact EqE_msl | exact EqV_agg | exact EqE_agg | exact EqV_fn | exact EqE_fn | exact EqV_gd | exact EqE_gd | refine gM_splitN ?_ ?_ | refine gM_split ?_ ?_ |  refine condM_splitDN ?_ ?_ | refine condM_splitD ?_ ?_ | refine condM_splitN ?_ ?_ | refine condM_split ?_ ?_ | refine condM_any ?_ ?_ | refine cw (c0) ?_ | refine cw (c1) ?_ | intro _) | (simp [*, hn]) | (refine cw_eq (c0) ?_ ?_; (· (simp [*]; done))) | (refine cw_eq (c1) ?_ ?_; (· (simp [*]; done))))
    · have c2 := copyBook_c b hb
      have c3 := bookErr_c b hb
      have c4 := rFind_c b.accs (by have := hb.accs.len; omega) n
      have hf := find_has b.accs n
      by_cases hE : openE b n = 0
      · have hz := firstS_zero hE
        have hb0 := hz (bookS b).2 (by simp)
        have hh := unless_zero (hz (errUnless (hasS b.accs n) 6) (by simp)) (by decide)
        have c7 := openItems_ok b hb n hE
        have ht := (bookS_zero hb0).tight
        have hdates : ∀ j, j < b.entries.length → (nth b.entries j).date ≤ 100000 := fun j hj => (headE_zero (entryS_zero ((bookS_zero hb0).ent j hj)).1).2.1
        have c8 := rOpenItems_c b ht n
        have hlen := ht.len
        obtain ⟨q1, _⟩ := enK_bd n b.entries ht b.entries.length (Nat.le_refl _)
        have hql := q1.len
        obtain ⟨g1, g2, _⟩ := grK_bd _ q1.ops _ (Nat.le_refl _)
        have ho0 := q1.lo
        have ho1 := q1.hi
        have hsum := openS_sum n b.entries ht
        have hbr := bal_run n 100000 b.entries b.entries.length (Nat.le_refl _) hdates
        rw [List.take_length] at hbr
        have c9 := sameItems_c (openS n b.entries) (by unfold openS; omega)
        have hLl : (openS n b.entries).length ≤ 1200 := by unfold openS; omega
        have hLo : ∀ j, j < (openS n b.entries).length → 0 ≤ (nth (openS n b.entries) j).op ∧ (nth (openS n b.entries) j).op ≤ 1200000000000 := fun j hj => by
          unfold openS at hj ⊢
          have := g2 j hj
          omega
        have c10 := balanceOf_c b hb n 100000
        have hbal : balE b n 100000 = 0 := by unfold balE; rw [hb0, hh]; rfl
        unfold balOfS at c10
        rw [hbal, if_pos rfl] at c10
        rw [hb0] at c3
        have hF : ¬ findS b.accs n < 0 := by have := of_decide_eq_true (hf.trans hh); omega
        clear g1 g2 q1 hdates
        generalize openS n b.entries = L at *
        generalize (enK n b.entries b.entries.length).2 = ov at *
        rw [← hbr] at hsum
        generalize balS n 100000 b.entries = S at *
        generalize findS b.accs n = F at *
        clear hE hz hb0 hh ht hbal hf hb hbr
        subst hsum
        have kb := keep (sumO_bd L hLo)
        clear hLo
        unfold cBook at *
        refine realcall_intro Tryz.func10 (by kernel_rfl) rfl (Nat.le_of_ble_eq_true (by kernel_rfl)) ?_
        simp only [Tryz.results10, Tryz.ntmps10]
        repeat' (first | (with_reducible first | refine awp_seq ?_ | refine awp_blockS ?_ | refine awp_blockC ?_ | refine awp_blockR ?_ | refine awp_skip ?_ | refine awp_ret ?_ | refine awp_exit ?_ | refine awp_region ?_ | refine awp_condM ?_ | refine And.intro ?_ ?_ | apply gQ_merge | apply gE_merge | exact EqV_w | exact EqE_w | exact EqV_ptr | exact EqE_ptr | exact EqV_msl | exact EqE_msl | exact EqV_agg | exact EqE_agg | exact EqV_fn | exact EqE_fn | exact EqV_gd | exact EqE_gd | refine gM_splitN ?_ ?_ | refine gM_split ?_ ?_ |  refine condM_splitDN ?_ ?_ | refine condM_splitD ?_ ?_ | refine condM_splitN ?_ ?_ | refine condM_split ?_ ?_ | refine condM_any ?_ ?_ | refine cw (c0) ?_ | refine cw (c1) ?_ | refine cw (c2) ?_ | refine cw (c3) ?_ | refine cw (c4) ?_ | refine cw (c7) ?_ | refine cw (c8) ?_ | refine cw (c9) ?_ | intro _) | (simp [*, hn, hF]) | (refine cw_eq (c0) ?_ ?_; (· (simp [*]; done))) | (refine cw_eq (c1) ?_ ?_; (· (simp [*]; done))) | (refine cw_eq (c2) ?_ ?_; (· (simp [*]; done))) | (refine cw_eq (c3) ?_ ?_; (· (simp [*]; done))) | (refine cw_eq (c4) ?_ ?_; (· (simp [*]; done))) | (refine cw_eq (c7) ?_ ?_; (· (simp [*]; done))) | (refine cw_eq (c8) ?_ ?_; (· (simp [*]; done))) | (refine cw_eq (c9) ?_ ?_; (· (simp [*]; done))))
        clear c0 c1 c3 c4 c7 c8 c9
        refine awp_for3 (fun (k : Nat) => k ≤ L.length) [1, 2, 8, 9] (fun (k : Nat) => [(11, .w false false (.int .i64 k)), (10, .w false false (.int .i64 (sumO (L.take k))))]) [0] (fun (k : Nat) => []) (fun (k : Nat) => L.length - k) (fun (_u : Unit) => True) [1, 2, 9] (fun (_u : Unit) => [(10, .w false false (.int .i64 (sumO L)))]) [0] (fun (_u : Unit) => []) (0) (Nat.zero_le _) (by simp) (by simp) (fun k hk => ?_) (fun _u hf => ?_)
        · by_cases hlt : k < L.length
          · have b1 := (show ∀ k : Nat, k ≤ L.length → 0 ≤ sumO (L.take k) ∧ sumO (L.take k) ≤ 1200000000000 * (k : Int) from kb) k hk
            have b2 := (show ∀ k : Nat, k ≤ L.length → 0 ≤ sumO (L.take k) ∧ sumO (L.take k) ≤ 1200000000000 * (k : Int) from kb) (k + 1) (by omega)
            rw [sumO_succ L k hlt] at b2
            have ks := keep (sumO_succ L k hlt)
            clear c2 c10 kb
            generalize sumO (L.take k) = s at *
            repeat' (first | (with_reducible first | refine awp_seq ?_ | refine awp_blockS ?_ | refine awp_blockC ?_ | refine awp_blockR ?_ | refine awp_skip ?_ | refine awp_ret ?_ | refine awp_exit ?_ | refine awp_region ?_ | refine awp_condM ?_ | refine And.intro ?_ ?_ | apply gQ_merge | apply gE_merge | exact EqV_w | exact EqE_w | exact EqV_ptr | exact EqE_ptr | exact EqV_msl | exact EqE_msl | exact EqV_agg | exact EqE_agg | exact EqV_fn | exact EqE_fn | exact EqV_gd | exact EqE_gd | refine gM_splitN ?_ ?_ | refine gM_split ?_ ?_ |  refine condM_splitDN ?_ ?_ | refine condM_splitD ?_ ?_ | refine condM_splitN ?_ ?_ | refine condM_split ?_ ?_ | refine condM_any ?_ ?_ | intro _) | (simp [*, hlt]))
            all_goals try first | exact inI64 (by omega) (by omega) | omega
            all_goals (refine loopK_normal _ _ _ _ _ (k + 1) _ ?_ (by first | omega | (dsimp only; omega) | (simp; omega)) ?_; (· omega); (refine le_of ?_ ?_ <;> first | trivial | (simp [*, (show sumO (L.take (k + 1)) = _ from ks)]; done)))
          · have hke : k = L.length := by omega
            subst hke
            clear c2 c10 kb
            repeat' (first | (with_reducible first | refine awp_seq ?_ | refine awp_blockS ?_ | refine awp_blockC ?_ | refine awp_blockR ?_ | refine awp_skip ?_ | refine awp_ret ?_ | refine awp_exit ?_ | refine awp_region ?_ | refine awp_condM ?_ | refine And.intro ?_ ?_ | apply gQ_merge | apply gE_merge | exact EqV_w | exact EqE_w | exact EqV_ptr | exact EqE_ptr | exact EqV_msl | exact EqE_msl | exact EqV_agg | exact EqE_agg | exact EqV_fn | exact EqE_fn | exact EqV_gd | exact EqE_gd | refine gM_splitN ?_ ?_ | refine gM_split ?_ ?_ |  refine condM_splitDN ?_ ?_ | refine condM_splitD ?_ ?_ | refine condM_splitN ?_ ?_ | refine condM_split ?_ ?_ | refine condM_any ?_ ?_ | intro _) | (simp [*]))
            all_goals (refine finW_intro () ?_ ?_; (· trivial); (refine le_of ?_ ?_ <;> first | trivial | (simp [*, List.take_length]; done)))
        · have b1 := (show ∀ k : Nat, k ≤ L.length → 0 ≤ sumO (L.take k) ∧ sumO (L.take k) ≤ 1200000000000 * (k : Int) from kb) L.length (Nat.le_refl _)
          rw [List.take_length] at b1
          clear kb
          generalize sumO L = s at *
          repeat' (first | (with_reducible first | refine awp_seq ?_ | refine awp_blockS ?_ | refine awp_blockC ?_ | refine awp_blockR ?_ | refine awp_skip ?_ | refine awp_ret ?_ | refine awp_exit ?_ | refine awp_region ?_ | refine awp_condM ?_ | refine And.intro ?_ ?_ | apply gQ_merge | apply gE_merge | exact EqV_w | exact EqE_w | exact EqV_ptr | exact EqE_ptr | exact EqV_msl | exact EqE_msl | exact EqV_agg | exact EqE_agg | exact EqV_fn | exact EqE_fn | exact EqV_gd | exact EqE_gd | refine gM_splitN ?_ ?_ | refine gM_split ?_ ?_ |  refine condM_splitDN ?_ ?_ | refine condM_splitD ?_ ?_ | refine condM_splitN ?_ ?_ | refine condM_split ?_ ?_ | refine condM_any ?_ ?_ | refine cw (c2) ?_ | refine cw (c10) ?_ | intro _) | (simp [*]) | (refine cw_eq (c2) ?_ ?_; (· (simp [*]; done))) | (refine cw_eq (c10) ?_ ?_; (· (simp [*]; done))))
          all_goals try first | exact inI64 (by omega) (by omega) | omega
      · have c7 := openItems_bad b hb n hE
        have hv : openE b n = firstS [(bookS b).2, errUnless (decide (0 ≤ findS b.accs n)) 6] := by rw [hf]; rfl
        generalize openE b n = V at *
        generalize (bookS b).2 = E at *
        generalize findS b.accs n = F at *
        clear hf hb
        unfold cBook at *
        by_cases e0 : E = 0
        · by_cases e1 : F < 0
          · have : V = 6 := by rw [hv]; simp [firstS, e0, show ¬ 0 ≤ F by omega]
            subst this
            clear hv hE
            subst e0
            refine realcall_intro Tryz.func10 (by kernel_rfl) rfl (Nat.le_of_ble_eq_true (by kernel_rfl)) ?_
            simp only [Tryz.results10, Tryz.ntmps10]
            repeat' (first | (with_reducible first | refine awp_seq ?_ | refine awp_blockS ?_ | refine awp_blockC ?_ | refine awp_blockR ?_ | refine awp_skip ?_ | refine awp_ret ?_ | refine awp_exit ?_ | refine awp_region ?_ | refine awp_condM ?_ | refine And.intro ?_ ?_ | apply gQ_merge | apply gE_merge | exact EqV_w | exact EqE_w | exact EqV_ptr | exact EqE_ptr | exact EqV_msl | exact EqE_msl | exact EqV_agg | exact EqE_agg | exact EqV_fn | exact EqE_fn | exact EqV_gd | exact EqE_gd | refine gM_splitN ?_ ?_ | refine gM_split ?_ ?_ |  refine condM_splitDN ?_ ?_ | refine condM_splitD ?_ ?_ | refine condM_splitN ?_ ?_ | refine condM_split ?_ ?_ | refine condM_any ?_ ?_ | refine cw (c0) ?_ | refine cw (c1) ?_ | refine cw (c2) ?_ | refine cw (c3) ?_ | refine cw (c4) ?_ | refine cw (c7) ?_ | intro _) | (simp [*, hn, e1]) | (refine cw_eq (c0) ?_ ?_; (· (simp [*]; done))) | (refine cw_eq (c1) ?_ ?_; (· (simp [*]; done))) | (refine cw_eq (c2) ?_ ?_; (· (simp [*]; done))) | (refine cw_eq (c3) ?_ ?_; (· (simp [*]; done))) | (refine cw_eq (c4) ?_ ?_; (· (simp [*]; done))) | (refine cw_eq (c7) ?_ ?_; (· (simp [*]; done))))
          · exact absurd (by rw [hv]; simp [firstS, e0, show 0 ≤ F by omega]) hE
        · have : V = E := by rw [hv]; simp [firstS, e0]
          subst this
          clear hv hE
          refine realcall_intro Tryz.func10 (by kernel_rfl) rfl (Nat.le_of_ble_eq_true (by kernel_rfl)) ?_
          simp only [Tryz.results10, Tryz.ntmps10]
          repeat' (first | (with_reducible first | refine awp_seq ?_ | refine awp_blockS ?_ | refine awp_blockC ?_ | refine awp_blockR ?_ | refine awp_skip ?_ | refine awp_ret ?_ | refine awp_exit ?_ | refine awp_region ?_ | refine awp_condM ?_ | refine And.intro ?_ ?_ | apply gQ_merge | apply gE_merge | exact EqV_w | exact EqE_w | exact EqV_ptr | exact EqE_ptr | exact EqV_msl | exact EqE_msl | exact EqV_agg | exact EqE_agg | exact EqV_fn | exact EqE_fn | exact EqV_gd | exact EqE_gd | refine gM_splitN ?_ ?_ | refine gM_split ?_ ?_ |  refine condM_splitDN ?_ ?_ | refine condM_splitD ?_ ?_ | refine condM_splitN ?_ ?_ | refine condM_split ?_ ?_ | refine condM_any ?_ ?_ | refine cw (c0) ?_ | refine cw (c1) ?_ | refine cw (c2) ?_ | refine cw (c3) ?_ | refine cw (c4) ?_ | refine cw (c7) ?_ | intro _) | (simp [*, hn, e0]) | (refine cw_eq (c0) ?_ ?_; (· (simp [*]; done))) | (refine cw_eq (c1) ?_ ?_; (· (simp [*]; done))) | (refine cw_eq (c2) ?_ ?_; (· (simp [*]; done))) | (refine cw_eq (c3) ?_ ?_; (· (simp [*]; done))) | (refine cw_eq (c4) ?_ ?_; (· (simp [*]; done))) | (refine cw_eq (c7) ?_ ?_; (· (simp [*]; done))))
end Go.Proofs.YtdgbfbgnbgfmjaaGreatDoor
