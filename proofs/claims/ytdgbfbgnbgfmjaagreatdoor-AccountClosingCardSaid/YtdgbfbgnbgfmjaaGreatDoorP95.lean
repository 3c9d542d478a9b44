/- Contracts of functions for this claim: lemmas alone. -/
import Derived.Test.YtdgbfbgnbgfmjaaGreatDoorP92
set_option linter.unusedSimpArgs false
set_option linter.unusedVariables false
namespace Go.Proofs.YtdgbfbgnbgfmjaaGreatDoor
open Go Go.Fi
set_option maxRecDepth 20000
attribute [-simp] cEntries_drop2

/-! ### AccountClosing -/
theorem sameE1 : RealCall Tryz.prog 32 [.agg [.int .i64 0, .str ⟨#[]⟩, .sl 0 []], .agg [.int .i64 0, .str ⟨#[]⟩, .sl 0 []]] (.bool true) true := sameEntry_c noEntry (by decide)
theorem sameE2 : RealCall Tryz.prog 32 [.agg [.int .i64 0, .str ⟨#[]⟩, .sl 0 []], .agg [.int .i64 0, .str ByteArray.empty, .sl 0 []]] (.bool true) true := sameEntry_c noEntry (by decide)
theorem closeS_bad {b : Book} {m : Int} {n : ByteArray} (h : ¬ (bookS b).2 = 0) : closeS b m n = (noEntry, (bookS b).2) := by
  have : clE b m n = (bookS b).2 := by
    unfold clE
    simp [firstS, h]
  unfold closeS
  rw [if_neg (by rw [this]; exact h), this]
theorem closeS_no {b : Book} {m : Int} {n : ByteArray} (h : ¬ (closeS b m n).2 = 0) : (closeS b m n).1 = noEntry := by
  unfold closeS at h ⊢
  by_cases h1 : clE b m n = 0
  · rw [if_pos h1] at h ⊢
    by_cases h2 : resB (nth b.accs (findS b.accs n).toNat) = true
    · rw [if_pos h2]
    · rw [if_neg h2] at h ⊢
      by_cases h3 : (clAll b m n).length = 0
      · rw [if_pos h3]
      · rw [if_neg h3] at h ⊢
        unfold largestS at h ⊢
        split
        · rfl
        · rename_i h4; rw [if_neg h4] at h; exact absurd rfl h
  · rw [if_neg h1]
theorem clD_in {b : Book} {m : Int} {n : ByteArray} (h : clE b m n = 0) : 0 ≤ clD m ∧ clD m ≤ 100000 := by
  have hm := winB_iff.1 (unless_zero (firstS_zero h (errUnless (winB m 0 3332) 2) (by simp)) (by decide))
  unfold clD
  omega
set_option maxHeartbeats 8000000 in
theorem accountClosing_c (b : Book) (m : Int) (n : ByteArray) : RealCall Tryz.prog 13 [.agg (cBook b), .int .i64 m, .str n] (.bool true) true := by
  have c0 := awake_c
  have c1 := smallBook_c b
  cases h1 : bookB b with
  | false =>
    rw [h1] at c1
    clear h1
    unfold cBook at *
    refine realcall_intro Tryz.func13 (by kernel_rfl) rfl (Nat.le_of_ble_eq_true (by kernel_rfl)) ?_
    simp only [Tryz.results13, Tryz.ntmps13]
    repeat' (first | (with_reducible first | refine awp_seq ?_ | refine awp_blockS ?_ | refine awp_blockC ?_ | refine awp_blockR ?_ | refine awp_skip ?_ | refine awp_ret ?_ | refine awp_exit ?_ | refine awp_region ?_ | refine awp_regionS (id := 14) [0, 1, 2, 3, 4, 5, 6, 7, 8] [9, 10] [[], [], [], [], [], [], [], [.new 0], []] [[.new 0], []] mixed (by decide +kernel) ?_ | refine awp_regionD (id := 21) 16 mixed (by decide +kernel) ?_ | refine awp_condM ?_ | refine And.intro ?_ ?_ | apply gQ_merge | apply gE_merge | exact EqV_w | exact EqE_w | exact EqV_ptr | exact EqE_ptr | exact EqV_msl | exact EqE_msl | exact EqV_agg | exact EqE_agg | exact EqV_fn | exact EqE_fn | exact EqV_gd | exact EqE_gd | refine gM_splitN ?_ ?_ | refine gM_split ?_ ?_ |  refine condM_splitDN ?_ ?_ | refine condM_splitD ?_ ?_ | refine condM_splitN ?_ ?_ | refine condM_split ?_ ?_ | refine condM_any ?_ ?_ | refine cw (c0) ?_ | refine cw (c1) ?_ | intro _) | (simp [*]) | (refine cw_eq (c0) ?_ ?_; (· (simp [*]; done))) | (refine cw_eq (c1) ?_ ?_; (· (simp [*]; done))))
  | true =>
    rw [h1] at c1
    have hb := bookB_in h1
    clear h1
    by_cases hn : 20 < (n.size : Int)
    · clear hb
      unfold cBook at *
      refine realcall_intro Tryz.func13 (by kernel_rfl) rfl (Nat.le_of_ble_eq_true (by kernel_rfl)) ?_
      simp only [Tryz.results13, Tryz.ntmps13]
      repeat' (first | (with_reducible first | refine awp_seq ?_ | refine awp_blockS ?_ | refine awp_blockC ?_ | refine awp_blockR ?_ | refine awp_skip ?_ | refine awp_ret ?_ | refine awp_exit ?_ | refine awp_region ?_ | refine awp_regionS (id := 14) [0, 1, 2, 3, 4, 5, 6, 7, 8] [9, 10] [[], [], [], [], [], [], [], [.new 0], []] [[.new 0], []] mixed (by decide +kernel) ?_ | refine awp_regionD (id := 21) 16 mixed (by decide +kernel) ?_ | refine awp_condM ?_ | refine And.intro ?_ ?_ | apply gQ_merge | apply gE_merge | exact EqV_w | exact EqE_w | exact EqV_ptr | exact EqE_ptr | exact EqV_msl | exact EqE_msl | exact EqV_agg | exact EqE_agg | exact EqV_fn | exact EqE_fn | exact EqV_gd | exact EqE_gd | refine gM_splitN ?_ ?_ | refine gM_split ?_ ?_ |  refine condM_splitDN ?_ ?_ | refine condM_splitD ?_ ?_ | refine condM_splitN ?_ ?_ | refine condM_split ?_ ?_ | refine condM_any ?_ ?_ | refine cw (c0) ?_ | refine cw (c1) ?_ | intro _) | (simp [*, hn]) | (refine cw_eq (c0) ?_ ?_; (· (simp [*]; done))) | (refine cw_eq (c1) ?_ ?_; (· (simp [*]; done))))
    · have c2 := copyBook_c b hb
      have c3 := closingOf_c b hb m n
      have c4 := bookErr_c b hb
      by_cases h0 : (bookS b).2 = 0
      · have c5 := rClosing_c b hb m n h0
        rw [h0] at c4
        by_cases he : (closeS b m n).2 = 0
        · obtain ⟨e1, e2, e3, e4, e5⟩ := closeS_yes he
          have hR := closing_right he
          have hd := clD_in e1
          rw [he] at c3 c5
          have hw : (closeS b m n).1 = ⟨clD m, bs [99, 108, 111, 115, 105, 110, 103], clAll b m n⟩ := by rw [e5]
          have hz := headE_zero (entryS_zero hR).1
          have hx : EntryIn (closeS b m n).1 := ⟨by rw [hw]; exact (by decide : (bs [99, 108, 111, 115, 105, 110, 103]).size < 1000000), by have := hz.2.2.2.2; omega⟩
          have hdate : (closeS b m n).1.date = clD m := by rw [hw]
          have c6 := sameEntry_c (closeS b m n).1 (by have := hx.len; omega)
          have c7 := copyEntry_c (closeS b m n).1 (by have := hx.len; omega)
          by_cases hp : postE b (closeS b m n).1 = 0
          · have c8 := post_ok b hb _ hx h0 hp
            have hpl : b.entries.length < 100 := by
              have := of_decide_eq_true (unless_zero (firstS_zero hp (errUnless (decide ((b.entries.length : Int) < 100)) 16) (by simp)) (by decide))
              omega
            have hy := postS_in hb hx (by omega)
            have hyr := post_right h0 hR hpl
            have c9 := copyBook_c (postS b (closeS b m n).1) hy
            obtain ⟨g, kb, kp⟩ : ∃ g : Nat → Int, Keep (∀ i, i < b.accs.length → RealCall Tryz.prog 44 [.agg (cBook (postS b (closeS b m n).1)), .str (nth b.accs i).name, .int .i64 (clD m)] (.tup [.int .i64 (g i), .int .i64 0]) true) ∧ Keep (∀ i, i < b.accs.length → resB (nth b.accs i) = true → g i = 0) := by
              refine ⟨fun i => balS (nth b.accs i).name (clD m) (postS b (closeS b m n).1).entries, keep fun i hi => ?_, keep fun i hi hr => closing_put he h0 i hi hr⟩
              have := balanceOf_c (postS b (closeS b m n).1) hy (nth b.accs i).name (clD m)
              have hE : balE (postS b (closeS b m n).1) (nth b.accs i).name (clD m) = 0 := by
                unfold balE dateE
                rw [hyr, show hasS (postS b (closeS b m n).1).accs (nth b.accs i).name = true from hasS_nth hi, winB_iff.2 hd]
                rfl
              unfold balOfS at this
              rw [if_pos hE] at this
              exact this
            have hlen := hb.accs.len
            clear h0 he e1 e2 e3 e4 e5 hR hd hz hp hpl hyr hy hb hw
            have hx0 := hx.len
            clear hx
            generalize postS b (closeS b m n).1 = y at *
            generalize (closeS b m n).1 = w at *
            generalize clD m = D at *
            obtain ⟨wd, wn, wl⟩ := w
            dsimp only at hdate
            subst hdate
            obtain ⟨ya, ye, yc⟩ := y
            obtain ⟨ba, be, bc⟩ := b
            unfold cBook cEntry at *
            dsimp only at *
            refine realcall_intro Tryz.func13 (by kernel_rfl) rfl (Nat.le_of_ble_eq_true (by kernel_rfl)) ?_
            simp only [Tryz.results13, Tryz.ntmps13]
            repeat' (first | (with_reducible first | refine awp_seq ?_ | refine awp_blockS ?_ | refine awp_blockC ?_ | refine awp_blockR ?_ | refine awp_skip ?_ | refine awp_ret ?_ | refine awp_exit ?_ | refine awp_region ?_ | refine awp_regionS (id := 14) [0, 1, 2, 3, 4, 5, 6, 7, 8] [9, 10] [[], [], [], [], [], [], [], [.new 0], []] [[.new 0], []] mixed (by decide +kernel) ?_ | refine awp_regionD (id := 21) 16 mixed (by decide +kernel) ?_ | refine awp_condM ?_ | refine And.intro ?_ ?_ | apply gQ_merge | apply gE_merge | exact EqV_w | exact EqE_w | exact EqV_ptr | exact EqE_ptr | exact EqV_msl | exact EqE_msl | exact EqV_agg | exact EqE_agg | exact EqV_fn | exact EqE_fn | exact EqV_gd | exact EqE_gd | refine gM_splitN ?_ ?_ | refine gM_split ?_ ?_ |  refine condM_splitDN ?_ ?_ | refine condM_splitD ?_ ?_ | refine condM_splitN ?_ ?_ | refine condM_split ?_ ?_ | refine condM_any ?_ ?_ | refine cw (c0) ?_ | refine cw (c1) ?_ | refine cw (c2) ?_ | refine cw (c3) ?_ | refine cw (c4) ?_ | refine cw (c5) ?_ | refine cw (c6) ?_ | refine cw (c7) ?_ | refine cw (c8) ?_ | intro _) | (simp [*, hn]) | (refine cw_eq (c0) ?_ ?_; (· (simp [*]; done))) | (refine cw_eq (c1) ?_ ?_; (· (simp [*]; done))) | (refine cw_eq (c2) ?_ ?_; (· (simp [*]; done))) | (refine cw_eq (c3) ?_ ?_; (· (simp [*]; done))) | (refine cw_eq (c4) ?_ ?_; (· (simp [*]; done))) | (refine cw_eq (c5) ?_ ?_; (· (simp [*]; done))) | (refine cw_eq (c6) ?_ ?_; (· (simp [*]; done))) | (refine cw_eq (c7) ?_ ?_; (· (simp [*]; done))) | (refine cw_eq (c8) ?_ ?_; (· (simp [*]; done))))
            clear c0 c1 c2 c3 c4 c5 c6 c7 c8
            refine awp_for3 (fun (k : Nat) => k ≤ ba.length) [3, 10, 11] (fun (k : Nat) => [(13, .w false false (.int .i64 k))]) [0, 2, 3] (fun (k : Nat) => []) (fun (k : Nat) => ba.length - k) (fun (_u : Unit) => True) [] (fun (_u : Unit) => []) [] (fun (_u : Unit) => []) (0) (Nat.zero_le _) (by simp) (by simp) (fun k hk => ?_) (fun _u hf => ?_)
            · by_cases hlt : k < ba.length
              · have cb := (show ∀ i, i < ba.length → RealCall Tryz.prog 44 [.agg [.sl ya.length (cAccs ya), .sl ye.length (cEntries ye), .int .i64 yc], .str (nth ba i).name, .int .i64 wd] (.tup [.int .i64 (g i), .int .i64 0]) true from kb) k hlt
                have hp := (show ∀ i, i < ba.length → resB (nth ba i) = true → g i = 0 from kp) k hlt
                clear kb kp
                unfold resB at hp
                by_cases hk2 : (nth ba k).kind = 2
                · have hg := hp (by rw [hk2]; rfl)
                  rw [hg] at cb
                  clear hp hg
                  repeat' (first | (with_reducible first | refine awp_seq ?_ | refine awp_blockS ?_ | refine awp_blockC ?_ | refine awp_blockR ?_ | refine awp_skip ?_ | refine awp_ret ?_ | refine awp_exit ?_ | refine awp_region ?_ | refine awp_regionS (id := 14) [0, 1, 2, 3, 4, 5, 6, 7, 8] [9, 10] [[], [], [], [], [], [], [], [.new 0], []] [[.new 0], []] mixed (by decide +kernel) ?_ | refine awp_regionD (id := 21) 16 mixed (by decide +kernel) ?_ | refine awp_condM ?_ | refine And.intro ?_ ?_ | apply gQ_merge | apply gE_merge | exact EqV_w | exact EqE_w | exact EqV_ptr | exact EqE_ptr | exact EqV_msl | exact EqE_msl | exact EqV_agg | exact EqE_agg | exact EqV_fn | exact EqE_fn | exact EqV_gd | exact EqE_gd | refine gM_splitN ?_ ?_ | refine gM_split ?_ ?_ |  refine condM_splitDN ?_ ?_ | refine condM_splitD ?_ ?_ | refine condM_splitN ?_ ?_ | refine condM_split ?_ ?_ | refine condM_any ?_ ?_ | refine cw (c9) ?_ | refine cw (cb) ?_ | intro _) | (simp [*, hlt, cAcc, hk2]) | (refine cw_eq (c9) ?_ ?_; (· (simp [*]; done))) | (refine cw_eq (cb) ?_ ?_; (· (simp [*]; done))))
                  all_goals first
                    | exact inI64 (by omega) (by omega)
                    | omega
                    | (refine loopK_normal _ _ _ _ _ (k + 1) _ ?_ (by first | omega | (dsimp only; omega) | (simp; omega)) ?_; (· omega); (refine le_of ?_ ?_ <;> first | trivial | (simp [*]; done)))
                    | skip
                · by_cases hk3 : (nth ba k).kind = 3
                  · have hg := hp (by rw [hk3]; rfl)
                    rw [hg] at cb
                    clear hp hg
                    repeat' (first | (with_reducible first | refine awp_seq ?_ | refine awp_blockS ?_ | refine awp_blockC ?_ | refine awp_blockR ?_ | refine awp_skip ?_ | refine awp_ret ?_ | refine awp_exit ?_ | refine awp_region ?_ | refine awp_regionS (id := 14) [0, 1, 2, 3, 4, 5, 6, 7, 8] [9, 10] [[], [], [], [], [], [], [], [.new 0], []] [[.new 0], []] mixed (by decide +kernel) ?_ | refine awp_regionD (id := 21) 16 mixed (by decide +kernel) ?_ | refine awp_condM ?_ | refine And.intro ?_ ?_ | apply gQ_merge | apply gE_merge | exact EqV_w | exact EqE_w | exact EqV_ptr | exact EqE_ptr | exact EqV_msl | exact EqE_msl | exact EqV_agg | exact EqE_agg | exact EqV_fn | exact EqE_fn | exact EqV_gd | exact EqE_gd | refine gM_splitN ?_ ?_ | refine gM_split ?_ ?_ |  refine condM_splitDN ?_ ?_ | refine condM_splitD ?_ ?_ | refine condM_splitN ?_ ?_ | refine condM_split ?_ ?_ | refine condM_any ?_ ?_ | refine cw (c9) ?_ | refine cw (cb) ?_ | intro _) | (simp [*, hlt, cAcc, hk2, hk3]) | (refine cw_eq (c9) ?_ ?_; (· (simp [*]; done))) | (refine cw_eq (cb) ?_ ?_; (· (simp [*]; done))))
                    all_goals first
                      | exact inI64 (by omega) (by omega)
                      | omega
                      | (refine loopK_normal _ _ _ _ _ (k + 1) _ ?_ (by first | omega | (dsimp only; omega) | (simp; omega)) ?_; (· omega); (refine le_of ?_ ?_ <;> first | trivial | (simp [*]; done)))
                      | skip
                  · clear hp
                    repeat' (first | (with_reducible first | refine awp_seq ?_ | refine awp_blockS ?_ | refine awp_blockC ?_ | refine awp_blockR ?_ | refine awp_skip ?_ | refine awp_ret ?_ | refine awp_exit ?_ | refine awp_region ?_ | refine awp_regionS (id := 14) [0, 1, 2, 3, 4, 5, 6, 7, 8] [9, 10] [[], [], [], [], [], [], [], [.new 0], []] [[.new 0], []] mixed (by decide +kernel) ?_ | refine awp_regionD (id := 21) 16 mixed (by decide +kernel) ?_ | refine awp_condM ?_ | refine And.intro ?_ ?_ | apply gQ_merge | apply gE_merge | exact EqV_w | exact EqE_w | exact EqV_ptr | exact EqE_ptr | exact EqV_msl | exact EqE_msl | exact EqV_agg | exact EqE_agg | exact EqV_fn | exact EqE_fn | exact EqV_gd | exact EqE_gd | refine gM_splitN ?_ ?_ | refine gM_split ?_ ?_ |  refine condM_splitDN ?_ ?_ | refine condM_splitD ?_ ?_ | refine condM_splitN ?_ ?_ | refine condM_split ?_ ?_ | refine condM_any ?_ ?_ | refine cw (c9) ?_ | refine cw (cb) ?_ | intro _) | (simp [*, hlt, cAcc, hk2, hk3]) | (refine cw_eq (c9) ?_ ?_; (· (simp [*]; done))) | (refine cw_eq (cb) ?_ ?_; (· (simp [*]; done))))
                    all_goals first
                      | exact inI64 (by omega) (by omega)
                      | omega
                      | (refine loopK_normal _ _ _ _ _ (k + 1) _ ?_ (by first | omega | (dsimp only; omega) | (simp; omega)) ?_; (· omega); (refine le_of ?_ ?_ <;> first | trivial | (simp [*]; done)))
                      | skip
              · have hke : k = ba.length := by omega
                subst hke
                clear kb kp c9
                repeat' (first | (with_reducible first | refine awp_seq ?_ | refine awp_blockS ?_ | refine awp_blockC ?_ | refine awp_blockR ?_ | refine awp_skip ?_ | refine awp_ret ?_ | refine awp_exit ?_ | refine awp_region ?_ | refine awp_regionS (id := 14) [0, 1, 2, 3, 4, 5, 6, 7, 8] [9, 10] [[], [], [], [], [], [], [], [.new 0], []] [[.new 0], []] mixed (by decide +kernel) ?_ | refine awp_regionD (id := 21) 16 mixed (by decide +kernel) ?_ | refine awp_condM ?_ | refine And.intro ?_ ?_ | apply gQ_merge | apply gE_merge | exact EqV_w | exact EqE_w | exact EqV_ptr | exact EqE_ptr | exact EqV_msl | exact EqE_msl | exact EqV_agg | exact EqE_agg | exact EqV_fn | exact EqE_fn | exact EqV_gd | exact EqE_gd | refine gM_splitN ?_ ?_ | refine gM_split ?_ ?_ |  refine condM_splitDN ?_ ?_ | refine condM_splitD ?_ ?_ | refine condM_splitN ?_ ?_ | refine condM_split ?_ ?_ | refine condM_any ?_ ?_ | intro _) | (simp [*]))
                all_goals (refine finW_intro () ?_ ?_; (· trivial); (refine le_of ?_ ?_ <;> first | trivial | (simp [*]; done)))
            · clear hf kb kp c9
              repeat' (first | (with_reducible first | refine awp_seq ?_ | refine awp_blockS ?_ | refine awp_blockC ?_ | refine awp_blockR ?_ | refine awp_skip ?_ | refine awp_ret ?_ | refine awp_exit ?_ | refine awp_region ?_ | refine awp_regionS (id := 14) [0, 1, 2, 3, 4, 5, 6, 7, 8] [9, 10] [[], [], [], [], [], [], [], [.new 0], []] [[.new 0], []] mixed (by decide +kernel) ?_ | refine awp_regionD (id := 21) 16 mixed (by decide +kernel) ?_ | refine awp_condM ?_ | refine And.intro ?_ ?_ | apply gQ_merge | apply gE_merge | exact EqV_w | exact EqE_w | exact EqV_ptr | exact EqE_ptr | exact EqV_msl | exact EqE_msl | exact EqV_agg | exact EqE_agg | exact EqV_fn | exact EqE_fn | exact EqV_gd | exact EqE_gd | refine gM_splitN ?_ ?_ | refine gM_split ?_ ?_ |  refine condM_splitDN ?_ ?_ | refine condM_splitD ?_ ?_ | refine condM_splitN ?_ ?_ | refine condM_split ?_ ?_ | refine condM_any ?_ ?_ | intro _) | (simp [*]))
          · have c8 := post_bad2 b hb _ hx (by rw [hdate]; omega) (by rw [hdate]; omega) h0 hp
            have hv : postE b (closeS b m n).1 = 22 ∨ postE b (closeS b m n).1 = 16 := by
              unfold postE at hp ⊢
              rw [hR] at hp ⊢
              cases hc1 : decide (b.closed ≤ (closeS b m n).1.date.tdiv 30) with
              | false => left; rfl
              | true =>
                rw [hc1] at hp
                cases hc2 : decide ((b.entries.length : Int) < 100) with
                | false => right; rfl
                | true => rw [hc2] at hp; exact absurd rfl hp
            generalize postE b (closeS b m n).1 = V at *
            clear h0 he e1 e2 e3 e4 e5 hR hd hz hb hw hx hdate hp
            generalize (closeS b m n).1 = w at *
            obtain ⟨wd, wn, wl⟩ := w
            obtain ⟨ba, be, bc⟩ := b
            unfold cBook cEntry at *
            dsimp only at *
            rcases hv with rfl | rfl
            · refine realcall_intro Tryz.func13 (by kernel_rfl) rfl (Nat.le_of_ble_eq_true (by kernel_rfl)) ?_
              simp only [Tryz.results13, Tryz.ntmps13]
              repeat' (first | (with_reducible first | refine awp_seq ?_ | refine awp_blockS ?_ | refine awp_blockC ?_ | refine awp_blockR ?_ | refine awp_skip ?_ | refine awp_ret ?_ | refine awp_exit ?_ | refine awp_region ?_ | refine awp_regionS (id := 14) [0, 1, 2, 3, 4, 5, 6, 7, 8] [9, 10] [[], [], [], [], [], [], [], [.new 0], []] [[.new 0], []] mixed (by decide +kernel) ?_ | refine awp_regionD (id := 21) 16 mixed (by decide +kernel) ?_ | refine awp_condM ?_ | refine And.intro ?_ ?_ | apply gQ_merge | apply gE_merge | exact EqV_w | exact EqE_w | exact EqV_ptr | exact EqE_ptr | exact EqV_msl | exact EqE_msl | exact EqV_agg | exact EqE_agg | exact EqV_fn | exact EqE_fn | exact EqV_gd | exact EqE_gd | refine gM_splitN ?_ ?_ | refine gM_split ?_ ?_ |  refine condM_splitDN ?_ ?_ | refine condM_splitD ?_ ?_ | refine condM_splitN ?_ ?_ | refine condM_split ?_ ?_ | refine condM_any ?_ ?_ | refine cw (c0) ?_ | refine cw (c1) ?_ | refine cw (c2) ?_ | refine cw (c3) ?_ | refine cw (c4) ?_ | refine cw (c5) ?_ | refine cw (c6) ?_ | refine cw (c7) ?_ | refine cw (c8) ?_ | intro _) | (simp [*, hn]) | (refine cw_eq (c0) ?_ ?_; (· (simp [*]; done))) | (refine cw_eq (c1) ?_ ?_; (· (simp [*]; done))) | (refine cw_eq (c2) ?_ ?_; (· (simp [*]; done))) | (refine cw_eq (c3) ?_ ?_; (· (simp [*]; done))) | (refine cw_eq (c4) ?_ ?_; (· (simp [*]; done))) | (refine cw_eq (c5) ?_ ?_; (· (simp [*]; done))) | (refine cw_eq (c6) ?_ ?_; (· (simp [*]; done))) | (refine cw_eq (c7) ?_ ?_; (· (simp [*]; done))) | (refine cw_eq (c8) ?_ ?_; (· (simp [*]; done))))
            · refine realcall_intro Tryz.func13 (by kernel_rfl) rfl (Nat.le_of_ble_eq_true (by kernel_rfl)) ?_
              simp only [Tryz.results13, Tryz.ntmps13]
              repeat' (first | (with_reducible first | refine awp_seq ?_ | refine awp_blockS ?_ | refine awp_blockC ?_ | refine awp_blockR ?_ | refine awp_skip ?_ | refine awp_ret ?_ | refine awp_exit ?_ | refine awp_region ?_ | refine awp_regionS (id := 14) [0, 1, 2, 3, 4, 5, 6, 7, 8] [9, 10] [[], [], [], [], [], [], [], [.new 0], []] [[.new 0], []] mixed (by decide +kernel) ?_ | refine awp_regionD (id := 21) 16 mixed (by decide +kernel) ?_ | refine awp_condM ?_ | refine And.intro ?_ ?_ | apply gQ_merge | apply gE_merge | exact EqV_w | exact EqE_w | exact EqV_ptr | exact EqE_ptr | exact EqV_msl | exact EqE_msl | exact EqV_agg | exact EqE_agg | exact EqV_fn | exact EqE_fn | exact EqV_gd | exact EqE_gd | refine gM_splitN ?_ ?_ | refine gM_split ?_ ?_ |  refine condM_splitDN ?_ ?_ | refine condM_splitD ?_ ?_ | refine condM_splitN ?_ ?_ | refine condM_split ?_ ?_ | refine condM_any ?_ ?_ | refine cw (c0) ?_ | refine cw (c1) ?_ | refine cw (c2) ?_ | refine cw (c3) ?_ | refine cw (c4) ?_ | refine cw (c5) ?_ | refine cw (c6) ?_ | refine cw (c7) ?_ | refine cw (c8) ?_ | intro _) | (simp [*, hn]) | (refine cw_eq (c0) ?_ ?_; (· (simp [*]; done))) | (refine cw_eq (c1) ?_ ?_; (· (simp [*]; done))) | (refine cw_eq (c2) ?_ ?_; (· (simp [*]; done))) | (refine cw_eq (c3) ?_ ?_; (· (simp [*]; done))) | (refine cw_eq (c4) ?_ ?_; (· (simp [*]; done))) | (refine cw_eq (c5) ?_ ?_; (· (simp [*]; done))) | (refine cw_eq (c6) ?_ ?_; (· (simp [*]; done))) | (refine cw_eq (c7) ?_ ?_; (· (simp [*]; done))) | (refine cw_eq (c8) ?_ ?_; (· (simp [*]; done))))
        · have hw := closeS_no he
          rw [hw] at c3 c5
          have c6 := sameE1
          generalize (closeS b m n).2 = V at *
          clear hb h0 hw
          unfold cBook cEntry noEntry at *
          dsimp only at *
          simp only [List.length_nil, show cLines [] = [] from rfl] at c3 c5
          refine realcall_intro Tryz.func13 (by kernel_rfl) rfl (Nat.le_of_ble_eq_true (by kernel_rfl)) ?_
          simp only [Tryz.results13, Tryz.ntmps13]
          repeat' (first | (with_reducible first | refine awp_seq ?_ | refine awp_blockS ?_ | refine awp_blockC ?_ | refine awp_blockR ?_ | refine awp_skip ?_ | refine awp_ret ?_ | refine awp_exit ?_ | refine awp_region ?_ | refine awp_regionS (id := 14) [0, 1, 2, 3, 4, 5, 6, 7, 8] [9, 10] [[], [], [], [], [], [], [], [.new 0], []] [[.new 0], []] mixed (by decide +kernel) ?_ | refine awp_regionD (id := 21) 16 mixed (by decide +kernel) ?_ | refine awp_condM ?_ | refine And.intro ?_ ?_ | apply gQ_merge | apply gE_merge | exact EqV_w | exact EqE_w | exact EqV_ptr | exact EqE_ptr | exact EqV_msl | exact EqE_msl | exact EqV_agg | exact EqE_agg | exact EqV_fn | exact EqE_fn | exact EqV_gd | exact EqE_gd | refine gM_splitN ?_ ?_ | refine gM_split ?_ ?_ |  refine condM_splitDN ?_ ?_ | refine condM_splitD ?_ ?_ | refine condM_splitN ?_ ?_ | refine condM_split ?_ ?_ | refine condM_any ?_ ?_ | refine cw (c0) ?_ | refine cw (c1) ?_ | refine cw (c2) ?_ | refine cw (c3) ?_ | refine cw (c4) ?_ | refine cw (c5) ?_ | refine cw (c6) ?_ | intro _) | (simp [*, hn, he, repl]) | (refine cw_eq (c0) ?_ ?_; (· (simp [*]; done))) | (refine cw_eq (c1) ?_ ?_; (· (simp [*]; done))) | (refine cw_eq (c2) ?_ ?_; (· (simp [*]; done))) | (refine cw_eq (c3) ?_ ?_; (· (simp [*]; done))) | (refine cw_eq (c4) ?_ ?_; (· (simp [*]; done))) | (refine cw_eq (c5) ?_ ?_; (· (simp [*]; done))) | (refine cw_eq (c6) ?_ ?_; (· (simp [*]; done))))
      · rw [closeS_bad h0] at c3
        have c6 := sameE2
        generalize (bookS b).2 = V at *
        clear hb
        unfold cBook cEntry noEntry at *
        dsimp only at *
        simp only [List.length_nil, show cLines [] = [] from rfl] at c3
        refine realcall_intro Tryz.func13 (by kernel_rfl) rfl (Nat.le_of_ble_eq_true (by kernel_rfl)) ?_
        simp only [Tryz.results13, Tryz.ntmps13]
        repeat' (first | (with_reducible first | refine awp_seq ?_ | refine awp_blockS ?_ | refine awp_blockC ?_ | refine awp_blockR ?_ | refine awp_skip ?_ | refine awp_ret ?_ | refine awp_exit ?_ | refine awp_region ?_ | refine awp_regionS (id := 14) [0, 1, 2, 3, 4, 5, 6, 7, 8] [9, 10] [[], [], [], [], [], [], [], [.new 0], []] [[.new 0], []] mixed (by decide +kernel) ?_ | refine awp_regionD (id := 21) 16 mixed (by decide +kernel) ?_ | refine awp_condM ?_ | refine And.intro ?_ ?_ | apply gQ_merge | apply gE_merge | exact EqV_w | exact EqE_w | exact EqV_ptr | exact EqE_ptr | exact EqV_msl | exact EqE_msl | exact EqV_agg | exact EqE_agg | exact EqV_fn | exact EqE_fn | exact EqV_gd | exact EqE_gd | refine gM_splitN ?_ ?_ | refine gM_split ?_ ?_ |  refine condM_splitDN ?_ ?_ | refine condM_splitD ?_ ?_ | refine condM_splitN ?_ ?_ | refine condM_split ?_ ?_ | refine condM_any ?_ ?_ | refine cw (c0) ?_ | refine cw (c1) ?_ | refine cw (c2) ?_ | refine cw (c3) ?_ | refine cw (c4) ?_ | refine cw (c6) ?_ | intro _) | (simp [*, hn, h0, repl]) | (refine cw_eq (c0) ?_ ?_; (· (simp [*]; done))) | (refine cw_eq (c1) ?_ ?_; (· (simp [*]; done))) | (refine cw_eq (c2) ?_ ?_; (· (simp [*]; done))) | (refine cw_eq (c3) ?_ ?_; (· (simp [*]; done))) | (refine cw_eq (c4) ?_ ?_; (· (simp [*]; done))) | (refine cw_eq (c6) ?_ ?_; (· (simp [*]; done))))
end Go.Proofs.YtdgbfbgnbgfmjaaGreatDoor

