/- Contracts of functions for this claim: lemmas alone. -/
import Derived.Test.YtdgbfbgnbgfmjaaGreatDoorP86
import Derived.Test.YtdgbfbgnbgfmjaaGreatDoorP57
set_option linter.unusedSimpArgs false
set_option linter.unusedVariables false
namespace Go.Proofs.YtdgbfbgnbgfmjaaGreatDoor
open Go Go.Fi
set_option maxRecDepth 20000

/-! ### AccountPosts -/
theorem tdiv_in {x : Int} (h1 : -9223372036854775808 ≤ x) (h2 : x ≤ 9223372036854775807) : -9000000000000000000 ≤ x.tdiv 30 ∧ x.tdiv 30 ≤ 9000000000000000000 := by
  rcases Int.le_total 0 x with h | h
  · rw [Int.tdiv_eq_ediv_of_nonneg h]; omega
  · have e : (-x).tdiv 30 = -(x.tdiv 30) := Int.neg_tdiv x 30
    rw [Int.tdiv_eq_ediv_of_nonneg (by omega)] at e
    omega
theorem post_bad2 (b : Book) (hb : BookIn b) (x : Entry) (hx : EntryIn x) (hd1 : -9223372036854775808 ≤ x.date) (hd2 : x.date ≤ 9223372036854775807) (h0 : (bookS b).2 = 0) (h : ¬ postE b x = 0) : RealCall Tryz.prog 70 [.agg (cBook b), .agg (cEntry x)] (.tup [.agg [.sl 0 [], .sl 0 [], .int .i64 0], .int .i64 (postE b x)]) true := by
  have c1 := open_c b hb
  rw [h0] at c1
  obtain ⟨hq1, hq2⟩ := tdiv_in hd1 hd2
  have hal := hb.accs.len
  have hl := hb.len
  have c2 := entry_c b.accs (by omega) x hx
  unfold pairI at c2
  have c5 := first3_c (entryS b.accs x).2 (errUnless (decide (b.closed ≤ x.date.tdiv 30)) 22) (errUnless (decide ((b.entries.length : Int) < 100)) 16)
  change RealCall _ _ _ (.int .i64 (postE b x)) true at c5
  generalize postE b x = X at *
  generalize entryS b.accs x = Y at *
  clear hb h0 hx hd1 hd2
  obtain ⟨ba, be, bc⟩ := b
  obtain ⟨xd, xn, xl⟩ := x
  unfold cBook cEntry at *
  dsimp only at *
  refine realcall_intro Tryz.func70 (by kernel_rfl) rfl (Nat.le_of_ble_eq_true (by kernel_rfl)) ?_
  simp only [Tryz.results70, Tryz.ntmps70]
  repeat' (first | (with_reducible first | refine awp_seq ?_ | refine awp_blockS ?_ | refine awp_blockC ?_ | refine awp_blockR ?_ | refine awp_skip ?_ | refine awp_ret ?_ | refine awp_exit ?_ | refine awp_region ?_ | refine awp_regionD (id := 5) 15 mixed (by decide +kernel) ?_ | refine awp_regionD (id := 10) 8 mixed (by decide +kernel) ?_ | refine awp_condM ?_ | refine And.intro ?_ ?_ | apply gQ_merge | apply gE_merge | exact EqV_w | exact EqE_w | exact EqV_ptr | exact EqE_ptr | exact EqV_msl | exact EqE_msl | exact EqV_agg | exact EqE_agg | exact EqV_fn | exact EqE_fn | exact EqV_gd | exact EqE_gd | refine gM_splitN ?_ ?_ | refine gM_split ?_ ?_ |  refine condM_splitDN ?_ ?_ | refine condM_splitD ?_ ?_ | refine condM_splitN ?_ ?_ | refine condM_split ?_ ?_ | refine condM_any ?_ ?_ | refine cw (c1) ?_ | refine cw (c2) ?_ | refine cw (c5) ?_ | refine cw (unless_c _ _) ?_ | intro _) | (simp [*, h]) | (refine cw_eq (c1) ?_ ?_; (· (simp [*]; done))) | (refine cw_eq (c2) ?_ ?_; (· (simp [*]; done))) | (refine cw_eq (c5) ?_ ?_; (· (simp [*]; done))) | (refine cw_eq (unless_c _ _) ?_ ?_; (· (simp [*]; done))))
  all_goals exact inI64 hq1 hq2
theorem postS_in {b : Book} (hb : BookIn b) {x : Entry} (hx : EntryIn x) (h : b.entries.length < 9000) : BookIn (postS b x) := by
  have hat := postAt_le x.date b.entries
  refine ⟨hb.accs, ?_, fun k hk => ?_⟩
  · unfold postS; dsimp only; rw [insAt_one _ _ _ hat]; omega
  · unfold postS at hk ⊢
    dsimp only at hk ⊢
    have hm : nth (insAt b.entries (postAt x.date b.entries) [x]) k ∈ insAt b.entries (postAt x.date b.entries) [x] := by
      simp only [nth, List.getD_eq_getElem?_getD, List.getElem?_eq_getElem hk, Option.getD_some]
      exact List.getElem_mem hk
    generalize nth (insAt b.entries (postAt x.date b.entries) [x]) k = y at *
    unfold insAt at hm
    simp only [List.mem_append, List.mem_singleton] at hm
    have hent : ∀ y ∈ b.entries, EntryIn y := fun y hy => by
      obtain ⟨j, hj, rfl⟩ := mem_nth hy
      exact hb.ent j hj
    rcases hm with (hm | rfl) | hm
    · exact hent y (List.mem_of_mem_take hm)
    · exact hx
    · exact hent y (List.mem_of_mem_drop hm)
set_option maxHeartbeats 8000000 in
theorem accountPosts_c (b : Book) (x : Entry) (hd1 : -9223372036854775808 ≤ x.date) (hd2 : x.date ≤ 9223372036854775807) : RealCall Tryz.prog 12 [.agg (cBook b), .agg (cEntry x)] (.bool true) true := by
  have c0 := awake_c
  have c1 := smallBook_c b
  have c1' := short_c x
  cases h1 : bookB b with
  | false =>
    rw [h1] at c1
    clear h1 c1'
    unfold cBook cEntry at *
    refine realcall_intro Tryz.func12 (by kernel_rfl) rfl (Nat.le_of_ble_eq_true (by kernel_rfl)) ?_
    simp only [Tryz.results12, Tryz.ntmps12]
    repeat' (first | (with_reducible first | refine awp_seq ?_ | refine awp_blockS ?_ | refine awp_blockC ?_ | refine awp_blockR ?_ | refine awp_skip ?_ | refine awp_ret ?_ | refine awp_exit ?_ | refine awp_region ?_ | refine awp_regionS (id := 6) [0, 1, 2, 3, 4, 5, 6, 7, 8] [9, 10] [[], [], [], [], [], [], [], [.new 0], []] [[.new 0], []] mixed (by decide +kernel) ?_ | refine awp_condM ?_ | refine And.intro ?_ ?_ | apply gQ_merge | apply gE_merge | exact EqV_w | exact EqE_w | exact EqV_ptr | exact EqE_ptr | exact EqV_msl | exact EqE_msl | exact EqV_agg | exact EqE_agg | exact EqV_fn | exact EqE_fn | exact EqV_gd | exact EqE_gd | refine gM_splitN ?_ ?_ | refine gM_split ?_ ?_ |  refine condM_splitDN ?_ ?_ | refine condM_splitD ?_ ?_ | refine condM_splitN ?_ ?_ | refine condM_split ?_ ?_ | refine condM_any ?_ ?_ | refine cw (c0) ?_ | refine cw (c1) ?_ | intro _) | (simp [*]) | (refine cw_eq (c0) ?_ ?_; (· (simp [*]; done))) | (refine cw_eq (c1) ?_ ?_; (· (simp [*]; done))))
  | true =>
    rw [h1] at c1
    have hb := bookB_in h1
    clear h1
    cases h2 : shortB x with
    | false =>
      rw [h2] at c1'
      clear h2 hb
      unfold cBook cEntry at *
      refine realcall_intro Tryz.func12 (by kernel_rfl) rfl (Nat.le_of_ble_eq_true (by kernel_rfl)) ?_
      simp only [Tryz.results12, Tryz.ntmps12]
      repeat' (first | (with_reducible first | refine awp_seq ?_ | refine awp_blockS ?_ | refine awp_blockC ?_ | refine awp_blockR ?_ | refine awp_skip ?_ | refine awp_ret ?_ | refine awp_exit ?_ | refine awp_region ?_ | refine awp_regionS (id := 6) [0, 1, 2, 3, 4, 5, 6, 7, 8] [9, 10] [[], [], [], [], [], [], [], [.new 0], []] [[.new 0], []] mixed (by decide +kernel) ?_ | refine awp_condM ?_ | refine And.intro ?_ ?_ | apply gQ_merge | apply gE_merge | exact EqV_w | exact EqE_w | exact EqV_ptr | exact EqE_ptr | exact EqV_msl | exact EqE_msl | exact EqV_agg | exact EqE_agg | exact EqV_fn | exact EqE_fn | exact EqV_gd | exact EqE_gd | refine gM_splitN ?_ ?_ | refine gM_split ?_ ?_ |  refine condM_splitDN ?_ ?_ | refine condM_splitD ?_ ?_ | refine condM_splitN ?_ ?_ | refine condM_split ?_ ?_ | refine condM_any ?_ ?_ | refine cw (c0) ?_ | refine cw (c1) ?_ | refine cw (c1') ?_ | intro _) | (simp [*]) | (refine cw_eq (c0) ?_ ?_; (· (simp [*]; done))) | (refine cw_eq (c1) ?_ ?_; (· (simp [*]; done))) | (refine cw_eq (c1') ?_ ?_; (· (simp [*]; done))))
    | true =>
      rw [h2] at c1'
      have hx := shortB_in h2
      clear h2
      have c2 := copyBook_c b hb
      have c3 := checkBook_c b hb
      have c4 := rCheckBook_c b hb
      have c5 := copyEntry_c x (by have := hx.len; omega)
      have c9 := sameNo_c
      unfold pairI at c3 c4
      by_cases h0 : (bookS b).2 = 0
      · have c6 := entryErr_c b.accs hb.accs x hx
        unfold entryAllS at c6
        rw [if_pos (bookS_zero h0).accs] at c6
        rw [h0] at c3 c4
        by_cases he : (entryS b.accs x).2 = 0
        · rw [he] at c6
          have hd := headE_zero (entryS_zero he).1
          by_cases hs : x.date.tdiv 30 < b.closed
          · have hE : postE b x = 22 := by unfold postE; rw [he, decide_eq_false (by omega)]; rfl
            have c7 := post_bad2 b hb x hx hd1 hd2 h0 (by rw [hE]; decide)
            rw [hE] at c7
            have c8 := rPost_state b x ⟨hd.1, hd.2.1⟩ hs
            generalize (bookS b).1 = Z at *
            clear hb hx h0 he hd hs hE hd1 hd2
            unfold cBook cEntry at *
            refine realcall_intro Tryz.func12 (by kernel_rfl) rfl (Nat.le_of_ble_eq_true (by kernel_rfl)) ?_
            simp only [Tryz.results12, Tryz.ntmps12]
            repeat' (first | (with_reducible first | refine awp_seq ?_ | refine awp_blockS ?_ | refine awp_blockC ?_ | refine awp_blockR ?_ | refine awp_skip ?_ | refine awp_ret ?_ | refine awp_exit ?_ | refine awp_region ?_ | refine awp_regionS (id := 6) [0, 1, 2, 3, 4, 5, 6, 7, 8] [9, 10] [[], [], [], [], [], [], [], [.new 0], []] [[.new 0], []] mixed (by decide +kernel) ?_ | refine awp_condM ?_ | refine And.intro ?_ ?_ | apply gQ_merge | apply gE_merge | exact EqV_w | exact EqE_w | exact EqV_ptr | exact EqE_ptr | exact EqV_msl | exact EqE_msl | exact EqV_agg | exact EqE_agg | exact EqV_fn | exact EqE_fn | exact EqV_gd | exact EqE_gd | refine gM_splitN ?_ ?_ | refine gM_split ?_ ?_ |  refine condM_splitDN ?_ ?_ | refine condM_splitD ?_ ?_ | refine condM_splitN ?_ ?_ | refine condM_split ?_ ?_ | refine condM_any ?_ ?_ | refine cw (c0) ?_ | refine cw (c1) ?_ | refine cw (c1') ?_ | refine cw (c2) ?_ | refine cw (c3) ?_ | refine cw (c4) ?_ | refine cw (c5) ?_ | refine cw (c6) ?_ | refine cw (c7) ?_ | refine cw (c8) ?_ | refine cw (c9) ?_ | intro _) | (simp [*]) | (refine cw_eq (c0) ?_ ?_; (· (simp [*]; done))) | (refine cw_eq (c1) ?_ ?_; (· (simp [*]; done))) | (refine cw_eq (c1') ?_ ?_; (· (simp [*]; done))) | (refine cw_eq (c2) ?_ ?_; (· (simp [*]; done))) | (refine cw_eq (c3) ?_ ?_; (· (simp [*]; done))) | (refine cw_eq (c4) ?_ ?_; (· (simp [*]; done))) | (refine cw_eq (c5) ?_ ?_; (· (simp [*]; done))) | (refine cw_eq (c6) ?_ ?_; (· (simp [*]; done))) | (refine cw_eq (c7) ?_ ?_; (· (simp [*]; done))) | (refine cw_eq (c8) ?_ ?_; (· (simp [*]; done))) | (refine cw_eq (c9) ?_ ?_; (· (simp [*]; done))))
          · by_cases hf : 100 ≤ (b.entries.length : Int)
            · have hE : postE b x = 16 := by unfold postE; rw [he, decide_eq_true (by omega), decide_eq_false (by omega)]; rfl
              have c7 := post_bad2 b hb x hx hd1 hd2 h0 (by rw [hE]; decide)
              rw [hE] at c7
              have c8 := rPost_full b x ⟨hd.1, hd.2.1⟩ hs hf
              generalize (bookS b).1 = Z at *
              clear hb hx h0 he hd hs hE hd1 hd2 hf
              unfold cBook cEntry at *
              refine realcall_intro Tryz.func12 (by kernel_rfl) rfl (Nat.le_of_ble_eq_true (by kernel_rfl)) ?_
              simp only [Tryz.results12, Tryz.ntmps12]
              repeat' (first | (with_reducible first | refine awp_seq ?_ | refine awp_blockS ?_ | refine awp_blockC ?_ | refine awp_blockR ?_ | refine awp_skip ?_ | refine awp_ret ?_ | refine awp_exit ?_ | refine awp_region ?_ | refine awp_regionS (id := 6) [0, 1, 2, 3, 4, 5, 6, 7, 8] [9, 10] [[], [], [], [], [], [], [], [.new 0], []] [[.new 0], []] mixed (by decide +kernel) ?_ | refine awp_condM ?_ | refine And.intro ?_ ?_ | apply gQ_merge | apply gE_merge | exact EqV_w | exact EqE_w | exact EqV_ptr | exact EqE_ptr | exact EqV_msl | exact EqE_msl | exact EqV_agg | exact EqE_agg | exact EqV_fn | exact EqE_fn | exact EqV_gd | exact EqE_gd | refine gM_splitN ?_ ?_ | refine gM_split ?_ ?_ |  refine condM_splitDN ?_ ?_ | refine condM_splitD ?_ ?_ | refine condM_splitN ?_ ?_ | refine condM_split ?_ ?_ | refine condM_any ?_ ?_ | refine cw (c0) ?_ | refine cw (c1) ?_ | refine cw (c1') ?_ | refine cw (c2) ?_ | refine cw (c3) ?_ | refine cw (c4) ?_ | refine cw (c5) ?_ | refine cw (c6) ?_ | refine cw (c7) ?_ | refine cw (c8) ?_ | refine cw (c9) ?_ | intro _) | (simp [*]) | (refine cw_eq (c0) ?_ ?_; (· (simp [*]; done))) | (refine cw_eq (c1) ?_ ?_; (· (simp [*]; done))) | (refine cw_eq (c1') ?_ ?_; (· (simp [*]; done))) | (refine cw_eq (c2) ?_ ?_; (· (simp [*]; done))) | (refine cw_eq (c3) ?_ ?_; (· (simp [*]; done))) | (refine cw_eq (c4) ?_ ?_; (· (simp [*]; done))) | (refine cw_eq (c5) ?_ ?_; (· (simp [*]; done))) | (refine cw_eq (c6) ?_ ?_; (· (simp [*]; done))) | (refine cw_eq (c7) ?_ ?_; (· (simp [*]; done))) | (refine cw_eq (c8) ?_ ?_; (· (simp [*]; done))) | (refine cw_eq (c9) ?_ ?_; (· (simp [*]; done))))
            · have hE : postE b x = 0 := by unfold postE; rw [he, decide_eq_true (by omega), decide_eq_true (by omega)]; rfl
              have c7 := post_ok b hb x hx h0 hE
              have c8 := rPost_ok b hb x hx ⟨hd.1, hd.2.1⟩ hs hf
              have c10 := same_c (postS b x) (postS_in hb hx (by omega))
              generalize (bookS b).1 = Z at *
              generalize postS b x = bw at *
              clear hb hx h0 he hd hs hE hd1 hd2 hf
              unfold cBook cEntry at *
              refine realcall_intro Tryz.func12 (by kernel_rfl) rfl (Nat.le_of_ble_eq_true (by kernel_rfl)) ?_
              simp only [Tryz.results12, Tryz.ntmps12]
              repeat' (first | (with_reducible first | refine awp_seq ?_ | refine awp_blockS ?_ | refine awp_blockC ?_ | refine awp_blockR ?_ | refine awp_skip ?_ | refine awp_ret ?_ | refine awp_exit ?_ | refine awp_region ?_ | refine awp_regionS (id := 6) [0, 1, 2, 3, 4, 5, 6, 7, 8] [9, 10] [[], [], [], [], [], [], [], [.new 0], []] [[.new 0], []] mixed (by decide +kernel) ?_ | refine awp_condM ?_ | refine And.intro ?_ ?_ | apply gQ_merge | apply gE_merge | exact EqV_w | exact EqE_w | exact EqV_ptr | exact EqE_ptr | exact EqV_msl | exact EqE_msl | exact EqV_agg | exact EqE_agg | exact EqV_fn | exact EqE_fn | exact EqV_gd | exact EqE_gd | refine gM_splitN ?_ ?_ | refine gM_split ?_ ?_ |  refine condM_splitDN ?_ ?_ | refine condM_splitD ?_ ?_ | refine condM_splitN ?_ ?_ | refine condM_split ?_ ?_ | refine condM_any ?_ ?_ | refine cw (c0) ?_ | refine cw (c1) ?_ | refine cw (c1') ?_ | refine cw (c2) ?_ | refine cw (c3) ?_ | refine cw (c4) ?_ | refine cw (c5) ?_ | refine cw (c6) ?_ | refine cw (c7) ?_ | refine cw (c8) ?_ | refine cw (c10) ?_ | intro _) | (simp [*]) | (refine cw_eq (c0) ?_ ?_; (· (simp [*]; done))) | (refine cw_eq (c1) ?_ ?_; (· (simp [*]; done))) | (refine cw_eq (c1') ?_ ?_; (· (simp [*]; done))) | (refine cw_eq (c2) ?_ ?_; (· (simp [*]; done))) | (refine cw_eq (c3) ?_ ?_; (· (simp [*]; done))) | (refine cw_eq (c4) ?_ ?_; (· (simp [*]; done))) | (refine cw_eq (c5) ?_ ?_; (· (simp [*]; done))) | (refine cw_eq (c6) ?_ ?_; (· (simp [*]; done))) | (refine cw_eq (c7) ?_ ?_; (· (simp [*]; done))) | (refine cw_eq (c8) ?_ ?_; (· (simp [*]; done))) | (refine cw_eq (c10) ?_ ?_; (· (simp [*]; done))))
        · have hE : postE b x = (entryS b.accs x).2 := by unfold postE; simp [firstS, he]
          have c7 := post_bad2 b hb x hx hd1 hd2 h0 (by rw [hE]; exact he)
          rw [hE] at c7
          generalize (bookS b).1 = Z at *
          generalize (entryS b.accs x).2 = Y at *
          clear hb hx h0 hE hd1 hd2
          unfold cBook cEntry at *
          refine realcall_intro Tryz.func12 (by kernel_rfl) rfl (Nat.le_of_ble_eq_true (by kernel_rfl)) ?_
          simp only [Tryz.results12, Tryz.ntmps12]
          repeat' (first | (with_reducible first | refine awp_seq ?_ | refine awp_blockS ?_ | refine awp_blockC ?_ | refine awp_blockR ?_ | refine awp_skip ?_ | refine awp_ret ?_ | refine awp_exit ?_ | refine awp_region ?_ | refine awp_regionS (id := 6) [0, 1, 2, 3, 4, 5, 6, 7, 8] [9, 10] [[], [], [], [], [], [], [], [.new 0], []] [[.new 0], []] mixed (by decide +kernel) ?_ | refine awp_condM ?_ | refine And.intro ?_ ?_ | apply gQ_merge | apply gE_merge | exact EqV_w | exact EqE_w | exact EqV_ptr | exact EqE_ptr | exact EqV_msl | exact EqE_msl | exact EqV_agg | exact EqE_agg | exact EqV_fn | exact EqE_fn | exact EqV_gd | exact EqE_gd | refine gM_splitN ?_ ?_ | refine gM_split ?_ ?_ |  refine condM_splitDN ?_ ?_ | refine condM_splitD ?_ ?_ | refine condM_splitN ?_ ?_ | refine condM_split ?_ ?_ | refine condM_any ?_ ?_ | refine cw (c0) ?_ | refine cw (c1) ?_ | refine cw (c1') ?_ | refine cw (c2) ?_ | refine cw (c3) ?_ | refine cw (c4) ?_ | refine cw (c5) ?_ | refine cw (c6) ?_ | refine cw (c7) ?_ | refine cw (c9) ?_ | intro _) | (simp [*, he]) | (refine cw_eq (c0) ?_ ?_; (· (simp [*]; done))) | (refine cw_eq (c1) ?_ ?_; (· (simp [*]; done))) | (refine cw_eq (c1') ?_ ?_; (· (simp [*]; done))) | (refine cw_eq (c2) ?_ ?_; (· (simp [*]; done))) | (refine cw_eq (c3) ?_ ?_; (· (simp [*]; done))) | (refine cw_eq (c4) ?_ ?_; (· (simp [*]; done))) | (refine cw_eq (c5) ?_ ?_; (· (simp [*]; done))) | (refine cw_eq (c6) ?_ ?_; (· (simp [*]; done))) | (refine cw_eq (c7) ?_ ?_; (· (simp [*]; done))) | (refine cw_eq (c9) ?_ ?_; (· (simp [*]; done))))
      · have c7 := post_book b hb x h0
        generalize bookS b = Z at *
        clear hb hx hd1 hd2
        unfold cBook cEntry at *
        refine realcall_intro Tryz.func12 (by kernel_rfl) rfl (Nat.le_of_ble_eq_true (by kernel_rfl)) ?_
        simp only [Tryz.results12, Tryz.ntmps12]
        repeat' (first | (with_reducible first | refine awp_seq ?_ | refine awp_blockS ?_ | refine awp_blockC ?_ | refine awp_blockR ?_ | refine awp_skip ?_ | refine awp_ret ?_ | refine awp_exit ?_ | refine awp_region ?_ | refine awp_regionS (id := 6) [0, 1, 2, 3, 4, 5, 6, 7, 8] [9, 10] [[], [], [], [], [], [], [], [.new 0], []] [[.new 0], []] mixed (by decide +kernel) ?_ | refine awp_condM ?_ | refine And.intro ?_ ?_ | apply gQ_merge | apply gE_merge | exact EqV_w | exact EqE_w | exact EqV_ptr | exact EqE_ptr | exact EqV_msl | exact EqE_msl | exact EqV_agg | exact EqE_agg | exact EqV_fn | exact EqE_fn | exact EqV_gd | exact EqE_gd | refine gM_splitN ?_ ?_ | refine gM_split ?_ ?_ |  refine condM_splitDN ?_ ?_ | refine condM_splitD ?_ ?_ | refine condM_splitN ?_ ?_ | refine condM_split ?_ ?_ | refine condM_any ?_ ?_ | refine cw (c0) ?_ | refine cw (c1) ?_ | refine cw (c1') ?_ | refine cw (c2) ?_ | refine cw (c3) ?_ | refine cw (c4) ?_ | refine cw (c5) ?_ | refine cw (c7) ?_ | refine cw (c9) ?_ | intro _) | (simp [*, h0]) | (refine cw_eq (c0) ?_ ?_; (· (simp [*]; done))) | (refine cw_eq (c1) ?_ ?_; (· (simp [*]; done))) | (refine cw_eq (c1') ?_ ?_; (· (simp [*]; done))) | (refine cw_eq (c2) ?_ ?_; (· (simp [*]; done))) | (refine cw_eq (c3) ?_ ?_; (· (simp [*]; done))) | (refine cw_eq (c4) ?_ ?_; (· (simp [*]; done))) | (refine cw_eq (c5) ?_ ?_; (· (simp [*]; done))) | (refine cw_eq (c7) ?_ ?_; (· (simp [*]; done))) | (refine cw_eq (c9) ?_ ?_; (· (simp [*]; done))))
end Go.Proofs.YtdgbfbgnbgfmjaaGreatDoor

