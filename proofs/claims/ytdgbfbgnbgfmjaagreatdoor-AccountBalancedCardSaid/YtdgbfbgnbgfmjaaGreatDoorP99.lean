/- Contracts of functions for this claim: lemmas alone. -/
import Derived.Test.YtdgbfbgnbgfmjaaGreatDoorP98
set_option linter.unusedSimpArgs false
set_option linter.unusedVariables false
namespace Go.Proofs.YtdgbfbgnbgfmjaaGreatDoor
open Go Go.Fi
set_option maxRecDepth 20000
attribute [-simp] cEntries_drop2

/-! ### AccountBalanced -/
theorem within_big {n : Int} (h : -1200000000000 ≤ n ∧ n ≤ 1200000000000) : winB n (-1000000000000000) 1000000000000000 = true := winB_iff.2 (by omega)
/-- What posting an entry and its opposite one comes to. -/
def PostBoth (b : Book) (x : Entry) (W : List PV) : Prop :=
  (∃ V : Int, V ≠ 0 ∧ RealCall Tryz.prog 70 [.agg (cBook b), .agg (cEntry x)] (.tup [.agg [.sl 0 [], .sl 0 [], .int .i64 0], .int .i64 V]) true) ∨
  (∃ (o : Book) (M : List Line), RealCall Tryz.prog 70 [.agg (cBook b), .agg (cEntry x)] (.tup [.agg (cBook o), .int .i64 0]) true ∧
    RealCall Tryz.prog 67 [.agg (cEntry x), .int .i64 x.date] (.tup [.agg (cEntry ⟨x.date, x.note, M⟩), .int .i64 0]) true ∧
    RealCall Tryz.prog 70 [.agg (cBook o), .agg (cEntry ⟨x.date, x.note, M⟩)] (.tup [.agg [.sl 0 [], .sl 0 [], .int .i64 0], .int .i64 16]) true) ∨
  (∃ (o t : Book) (M : List Line), RealCall Tryz.prog 70 [.agg (cBook b), .agg (cEntry x)] (.tup [.agg (cBook o), .int .i64 0]) true ∧
    RealCall Tryz.prog 67 [.agg (cEntry x), .int .i64 x.date] (.tup [.agg (cEntry ⟨x.date, x.note, M⟩), .int .i64 0]) true ∧
    RealCall Tryz.prog 70 [.agg (cBook o), .agg (cEntry ⟨x.date, x.note, M⟩)] (.tup [.agg (cBook t), .int .i64 0]) true ∧
    RealCall Tryz.prog 46 [.agg (cBook t)] (.tup [.sl b.accs.length W, .int .i64 0]) true)
theorem post_both {b : Book} (hb : BookIn b) {x : Entry} (hx : EntryIn x) (hd1 : -9223372036854775808 ≤ x.date) (hd2 : x.date ≤ 9223372036854775807) (h0 : (bookS b).2 = 0) : PostBoth b x (ints (balL (balF b) b.accs b.accs.length)) := by
  by_cases hp : postE b x = 0
  · refine .inr ?_
    have c7 := post_ok b hb x hx h0 hp
    have hxr : (entryS b.accs x).2 = 0 := firstS_zero hp _ (by simp)
    have hcl : b.closed ≤ x.date.tdiv 30 := of_decide_eq_true (unless_zero (firstS_zero hp (errUnless (decide (b.closed ≤ x.date.tdiv 30)) 22) (by simp)) (by decide))
    have hpl : b.entries.length < 100 := by
      have := of_decide_eq_true (unless_zero (firstS_zero hp (errUnless (decide ((b.entries.length : Int) < 100)) 16) (by simp)) (by decide))
      omega
    have hz := entryS_zero hxr
    have hh := headE_zero hz.1
    have hor := post_right h0 hxr hpl
    have ho := postS_in hb hx (by omega)
    have hy : EntryIn ⟨x.date, x.note, negL x.lines⟩ := ⟨hx.note, by dsimp only; rw [negL_len']; exact hx.len⟩
    have hamt : ∀ j, j < x.lines.length → -1000000000 ≤ (nth x.lines j).amt ∧ (nth x.lines j).amt ≤ 1000000000 := fun j hj => (lineE_zero (hz.2 j hj)).2.2
    have c8 := reversed_ok x x.date (by
      unfold linesQ
      rw [decide_eq_true (show (x.lines.length : Int) ≤ 12 by have := hh.2.2.2.2; omega), show x.lines.any greatB = false from by
        rw [List.any_eq_false]
        intro y hy
        obtain ⟨j, hj, rfl⟩ := mem_nth hy
        unfold greatB smallB
        rw [winB_iff.2 (hamt j hj)]
        decide]
      rfl) (by unfold dateE; rw [winB_iff.2 ⟨hh.1, hh.2.1⟩]; rfl) hh.2.2.2.2 hamt
    have hyr : (entryS (postS b x).accs ⟨x.date, x.note, negL x.lines⟩).2 = 0 := entryS_neg hxr
    by_cases hq : postE (postS b x) ⟨x.date, x.note, negL x.lines⟩ = 0
    · refine .inr ⟨postS b x, postS (postS b x) ⟨x.date, x.note, negL x.lines⟩, negL x.lines, c7, c8, post_ok (postS b x) ho ⟨x.date, x.note, negL x.lines⟩ hy hor hq, ?_⟩
      have hpl2 : (postS b x).entries.length < 100 := by
        have := of_decide_eq_true (unless_zero (firstS_zero hq (errUnless (decide (((postS b x).entries.length : Int) < 100)) 16) (by simp)) (by decide))
        omega
      have htr := post_right hor hyr hpl2
      have hti := postS_in ho hy (by omega)
      have c10 := balances_ok _ hti htr
      have hbf : balF (postS (postS b x) ⟨x.date, x.note, negL x.lines⟩) = balF b := funext fun n => bal_back hh.2.1 n
      rw [hbf] at c10
      exact c10
    · refine .inl ⟨postS b x, negL x.lines, c7, c8, ?_⟩
      have hv : postE (postS b x) ⟨x.date, x.note, negL x.lines⟩ = 16 := by
        unfold postE at hq ⊢
        rw [hyr] at hq ⊢
        rw [decide_eq_true (show (postS b x).closed ≤ (⟨x.date, x.note, negL x.lines⟩ : Entry).date.tdiv 30 from hcl)] at hq ⊢
        cases hc2 : decide (((postS b x).entries.length : Int) < 100) with
        | false => rfl
        | true => rw [hc2] at hq; exact absurd rfl hq
      have c9 := post_bad2 (postS b x) ho ⟨x.date, x.note, negL x.lines⟩ hy hd1 hd2 hor hq
      rw [hv] at c9
      exact c9
  · exact .inl ⟨_, hp, post_bad2 b hb x hx hd1 hd2 h0 hp⟩
set_option maxHeartbeats 8000000 in
theorem accountBalanced_c (b : Book) (x : Entry) (hd1 : -9223372036854775808 ≤ x.date) (hd2 : x.date ≤ 9223372036854775807) (d : Int) : RealCall Tryz.prog 15 [.agg (cBook b), .agg (cEntry x), .int .i64 d] (.bool true) true := by
  have c0 := awake_c
  have c1 := smallBook_c b
  have c1' := short_c x
  cases h1 : bookB b with
  | false =>
    rw [h1] at c1
    clear h1 c1'
    unfold cBook cEntry at *
    refine realcall_intro Tryz.func15 (by kernel_rfl) rfl (Nat.le_of_ble_eq_true (by kernel_rfl)) ?_
    simp only [Tryz.results15, Tryz.ntmps15]
    repeat' (first | (with_reducible first | refine awp_seq ?_ | refine awp_blockS ?_ | refine awp_blockC ?_ | refine awp_blockR ?_ | refine awp_skip ?_ | refine awp_ret ?_ | refine awp_exit ?_ | refine awp_region ?_ | refine awp_regionD (id := 9) 15 mixed (by decide +kernel) ?_ | refine awp_regionS (id := 16) [0, 1, 2, 3, 4, 5, 6, 7, 8] [9, 10] [[], [], [], [], [], [], [], [.new 0], []] [[.new 0], []] mixed (by decide +kernel) ?_ | refine awp_regionS (id := 19) [0, 1, 2, 3, 4, 5, 6, 7, 8] [9, 10] [[], [], [], [], [], [], [], [.new 0], []] [[.new 0], []] mixed (by decide +kernel) ?_ | refine awp_condM ?_ | refine And.intro ?_ ?_ | apply gQ_merge | apply gE_merge | exact EqV_w | exact EqE_w | exact EqV_ptr | exact EqE_ptr | exact EqV_msl | exact EqE_msl | exact EqV_agg | exact EqE_agg | exact EqV_fn | exact EqE_fn | exact EqV_gd | exact EqE_gd | refine gM_splitN ?_ ?_ | refine gM_split ?_ ?_ |  refine condM_splitDN ?_ ?_ | refine condM_splitD ?_ ?_ | refine condM_splitN ?_ ?_ | refine condM_split ?_ ?_ | refine condM_any ?_ ?_ | refine cw (c0) ?_ | refine cw (c1) ?_ | intro _) | (simp [*]) | (refine cw_eq (c0) ?_ ?_; (· (simp [*]; done))) | (refine cw_eq (c1) ?_ ?_; (· (simp [*]; done))))
  | true =>
    rw [h1] at c1
    have hb := bookB_in h1
    clear h1
    cases h2 : shortB x with
    | false =>
      rw [h2] at c1'
      clear h2 hb
      unfold cBook cEntry at *
      refine realcall_intro Tryz.func15 (by kernel_rfl) rfl (Nat.le_of_ble_eq_true (by kernel_rfl)) ?_
      simp only [Tryz.results15, Tryz.ntmps15]
      repeat' (first | (with_reducible first | refine awp_seq ?_ | refine awp_blockS ?_ | refine awp_blockC ?_ | refine awp_blockR ?_ | refine awp_skip ?_ | refine awp_ret ?_ | refine awp_exit ?_ | refine awp_region ?_ | refine awp_regionD (id := 9) 15 mixed (by decide +kernel) ?_ | refine awp_regionS (id := 16) [0, 1, 2, 3, 4, 5, 6, 7, 8] [9, 10] [[], [], [], [], [], [], [], [.new 0], []] [[.new 0], []] mixed (by decide +kernel) ?_ | refine awp_regionS (id := 19) [0, 1, 2, 3, 4, 5, 6, 7, 8] [9, 10] [[], [], [], [], [], [], [], [.new 0], []] [[.new 0], []] mixed (by decide +kernel) ?_ | refine awp_condM ?_ | refine And.intro ?_ ?_ | apply gQ_merge | apply gE_merge | exact EqV_w | exact EqE_w | exact EqV_ptr | exact EqE_ptr | exact EqV_msl | exact EqE_msl | exact EqV_agg | exact EqE_agg | exact EqV_fn | exact EqE_fn | exact EqV_gd | exact EqE_gd | refine gM_splitN ?_ ?_ | refine gM_split ?_ ?_ |  refine condM_splitDN ?_ ?_ | refine condM_splitD ?_ ?_ | refine condM_splitN ?_ ?_ | refine condM_split ?_ ?_ | refine condM_any ?_ ?_ | refine cw (c0) ?_ | refine cw (c1) ?_ | refine cw (c1') ?_ | intro _) | (simp [*]) | (refine cw_eq (c0) ?_ ?_; (· (simp [*]; done))) | (refine cw_eq (c1) ?_ ?_; (· (simp [*]; done))) | (refine cw_eq (c1') ?_ ?_; (· (simp [*]; done))))
    | true =>
      rw [h2] at c1'
      have hx := shortB_in h2
      clear h2
      have c2 := bookErr_c b hb
      by_cases h0 : (bookS b).2 = 0
      · rw [h0] at c2
        have c3 := rDateErr_c d
        by_cases hd : dateE d = 0
        · rw [hd] at c3
          have c4 := copyBook_c b hb
          have c5 := balances_ok b hb h0
          have c6 := copyEntry_c x (by have := hx.len; omega)
          have hlen := hb.accs.len
          have ht := (bookS_zero h0).tight
          obtain ⟨g, kb, kg, hall⟩ : ∃ g : ByteArray → Int, Keep (∀ i, i < b.accs.length → RealCall Tryz.prog 44 [.agg (cBook b), .str (nth b.accs i).name, .int .i64 d] (.tup [.int .i64 (g (nth b.accs i).name), .int .i64 0]) true) ∧ Keep (∀ n, -1200000000000 ≤ g n ∧ g n ≤ 1200000000000) ∧ totK g b.accs b.accs.length = 0 := by
            refine ⟨fun n => balS n d b.entries, keep fun i hi => ?_, keep fun n => ht.small n d, balanced_all h0 d⟩
            have := balanceOf_c b hb (nth b.accs i).name d
            have hE : balE b (nth b.accs i).name d = 0 := by
              unfold balE
              rw [h0, hasS_nth hi, hd]
              rfl
            unfold balOfS at this
            rw [if_pos hE] at this
            exact this
          have kpb := keep (post_both hb hx hd1 hd2 h0)
          have c11 := ints_eq (balL (balF b) b.accs b.accs.length) (by rw [balL_len]; omega)
          rw [balL_len] at c11
          generalize ints (balL (balF b) b.accs b.accs.length) = W at *
          clear hb hx h0 hd ht hd1 hd2
          unfold PostBoth at kpb
          obtain ⟨ba, be, bc⟩ := b
          obtain ⟨xd, xn, xl⟩ := x
          unfold cBook cEntry at *
          dsimp only at *
          refine realcall_intro Tryz.func15 (by kernel_rfl) rfl (Nat.le_of_ble_eq_true (by kernel_rfl)) ?_
          simp only [Tryz.results15, Tryz.ntmps15]
          repeat' (first | (with_reducible first | refine awp_seq ?_ | refine awp_blockS ?_ | refine awp_blockC ?_ | refine awp_blockR ?_ | refine awp_skip ?_ | refine awp_ret ?_ | refine awp_exit ?_ | refine awp_region ?_ | refine awp_regionD (id := 9) 15 mixed (by decide +kernel) ?_ | refine awp_regionS (id := 16) [0, 1, 2, 3, 4, 5, 6, 7, 8] [9, 10] [[], [], [], [], [], [], [], [.new 0], []] [[.new 0], []] mixed (by decide +kernel) ?_ | refine awp_regionS (id := 19) [0, 1, 2, 3, 4, 5, 6, 7, 8] [9, 10] [[], [], [], [], [], [], [], [.new 0], []] [[.new 0], []] mixed (by decide +kernel) ?_ | refine awp_condM ?_ | refine And.intro ?_ ?_ | apply gQ_merge | apply gE_merge | exact EqV_w | exact EqE_w | exact EqV_ptr | exact EqE_ptr | exact EqV_msl | exact EqE_msl | exact EqV_agg | exact EqE_agg | exact EqV_fn | exact EqE_fn | exact EqV_gd | exact EqE_gd | refine gM_splitN ?_ ?_ | refine gM_split ?_ ?_ |  refine condM_splitDN ?_ ?_ | refine condM_splitD ?_ ?_ | refine condM_splitN ?_ ?_ | refine condM_split ?_ ?_ | refine condM_any ?_ ?_ | refine cw (c0) ?_ | refine cw (c1) ?_ | refine cw (c1') ?_ | refine cw (c2) ?_ | refine cw (c3) ?_ | intro _) | (simp [*]) | (refine cw_eq (c0) ?_ ?_; (· (simp [*]; done))) | (refine cw_eq (c1) ?_ ?_; (· (simp [*]; done))) | (refine cw_eq (c1') ?_ ?_; (· (simp [*]; done))) | (refine cw_eq (c2) ?_ ?_; (· (simp [*]; done))) | (refine cw_eq (c3) ?_ ?_; (· (simp [*]; done))))
          clear c0 c1 c1' c2 c3
          refine awp_for3 (fun (k : Nat) => k ≤ ba.length) [2, 3, 4] (fun (k : Nat) => [(8, .w false false (.int .i64 k)), (7, .w false false (.int .i64 (totK g ba k)))]) [0, 1] (fun (k : Nat) => []) (fun (k : Nat) => ba.length - k) (fun (_u : Unit) => True) [3, 4] (fun (_u : Unit) => [(7, .w false false (.int .i64 (totK g ba ba.length)))]) [0, 1] (fun (_u : Unit) => []) (0) (Nat.zero_le _) (by simp) (by simp) (fun k hk => ?_) (fun _u hf => ?_)
          · clear c5 c6 c11 kpb hall
            by_cases hlt : k < ba.length
            · have cb := (show ∀ i, i < ba.length → RealCall Tryz.prog 44 [.agg [.sl ba.length (cAccs ba), .sl be.length (cEntries be), .int .i64 bc], .str (nth ba i).name, .int .i64 d] (.tup [.int .i64 (g (nth ba i).name), .int .i64 0]) true from kb) k hlt
              have hg := (show ∀ n, -1200000000000 ≤ g n ∧ g n ≤ 1200000000000 from kg) (nth ba k).name
              have cw := rWithin_c (g (nth ba k).name) (-1000000000000000) 1000000000000000
              rw [within_big hg] at cw
              have ha := totK_abs g kg ba k
              have ks := keep (totK_succ g ba k)
              clear kb kg
              generalize totK g ba k = T at *
              generalize g (nth ba k).name = G at *
              repeat' (first | (with_reducible first | refine awp_seq ?_ | refine awp_blockS ?_ | refine awp_blockC ?_ | refine awp_blockR ?_ | refine awp_skip ?_ | refine awp_ret ?_ | refine awp_exit ?_ | refine awp_region ?_ | refine awp_regionD (id := 9) 15 mixed (by decide +kernel) ?_ | refine awp_regionS (id := 16) [0, 1, 2, 3, 4, 5, 6, 7, 8] [9, 10] [[], [], [], [], [], [], [], [.new 0], []] [[.new 0], []] mixed (by decide +kernel) ?_ | refine awp_regionS (id := 19) [0, 1, 2, 3, 4, 5, 6, 7, 8] [9, 10] [[], [], [], [], [], [], [], [.new 0], []] [[.new 0], []] mixed (by decide +kernel) ?_ | refine awp_condM ?_ | refine And.intro ?_ ?_ | apply gQ_merge | apply gE_merge | exact EqV_w | exact EqE_w | exact EqV_ptr | exact EqE_ptr | exact EqV_msl | exact EqE_msl | exact EqV_agg | exact EqE_agg | exact EqV_fn | exact EqE_fn | exact EqV_gd | exact EqE_gd | refine gM_splitN ?_ ?_ | refine gM_split ?_ ?_ |  refine condM_splitDN ?_ ?_ | refine condM_splitD ?_ ?_ | refine condM_splitN ?_ ?_ | refine condM_split ?_ ?_ | refine condM_any ?_ ?_ | refine cw (c4) ?_ | refine cw (cb) ?_ | refine cw (cw) ?_ | intro _) | (simp [*, hlt, cAcc]) | (refine cw_eq (c4) ?_ ?_; (· (simp [*]; done))) | (refine cw_eq (cb) ?_ ?_; (· (simp [*]; done))) | (refine cw_eq (cw) ?_ ?_; (· (simp [*]; done))))
              all_goals first
                | exact inI64 (by omega) (by omega)
                | omega
                | (refine loopK_normal _ _ _ _ _ (k + 1) _ ?_ (by first | omega | (dsimp only; omega) | (simp; omega)) ?_; (· omega); (refine le_of ?_ ?_ <;> first | trivial | (simp [*, (show totK g ba (k + 1) = _ from ks)]; done)))
                | skip
            · have hke : k = ba.length := by omega
              subst hke
              clear kb kg c4
              repeat' (first | (with_reducible first | refine awp_seq ?_ | refine awp_blockS ?_ | refine awp_blockC ?_ | refine awp_blockR ?_ | refine awp_skip ?_ | refine awp_ret ?_ | refine awp_exit ?_ | refine awp_region ?_ | refine awp_regionD (id := 9) 15 mixed (by decide +kernel) ?_ | refine awp_regionS (id := 16) [0, 1, 2, 3, 4, 5, 6, 7, 8] [9, 10] [[], [], [], [], [], [], [], [.new 0], []] [[.new 0], []] mixed (by decide +kernel) ?_ | refine awp_regionS (id := 19) [0, 1, 2, 3, 4, 5, 6, 7, 8] [9, 10] [[], [], [], [], [], [], [], [.new 0], []] [[.new 0], []] mixed (by decide +kernel) ?_ | refine awp_condM ?_ | refine And.intro ?_ ?_ | apply gQ_merge | apply gE_merge | exact EqV_w | exact EqE_w | exact EqV_ptr | exact EqE_ptr | exact EqV_msl | exact EqE_msl | exact EqV_agg | exact EqE_agg | exact EqV_fn | exact EqE_fn | exact EqV_gd | exact EqE_gd | refine gM_splitN ?_ ?_ | refine gM_split ?_ ?_ |  refine condM_splitDN ?_ ?_ | refine condM_splitD ?_ ?_ | refine condM_splitN ?_ ?_ | refine condM_split ?_ ?_ | refine condM_any ?_ ?_ | intro _) | (simp [*]))
              all_goals (refine finW_intro () ?_ ?_; (· trivial); (refine le_of ?_ ?_ <;> first | trivial | (simp [*]; done)))
          · clear hf kb kg
            rw [hall]
            clear hall
            rcases kpb with ⟨V, hV, c7⟩ | ⟨o, M, c7, c8, c9⟩ | ⟨o, t, M, c7, c8, c9, c10⟩
            · repeat' (first | (with_reducible first | refine awp_seq ?_ | refine awp_blockS ?_ | refine awp_blockC ?_ | refine awp_blockR ?_ | refine awp_skip ?_ | refine awp_ret ?_ | refine awp_exit ?_ | refine awp_region ?_ | refine awp_regionD (id := 9) 15 mixed (by decide +kernel) ?_ | refine awp_regionS (id := 16) [0, 1, 2, 3, 4, 5, 6, 7, 8] [9, 10] [[], [], [], [], [], [], [], [.new 0], []] [[.new 0], []] mixed (by decide +kernel) ?_ | refine awp_regionS (id := 19) [0, 1, 2, 3, 4, 5, 6, 7, 8] [9, 10] [[], [], [], [], [], [], [], [.new 0], []] [[.new 0], []] mixed (by decide +kernel) ?_ | refine awp_condM ?_ | refine And.intro ?_ ?_ | apply gQ_merge | apply gE_merge | exact EqV_w | exact EqE_w | exact EqV_ptr | exact EqE_ptr | exact EqV_msl | exact EqE_msl | exact EqV_agg | exact EqE_agg | exact EqV_fn | exact EqE_fn | exact EqV_gd | exact EqE_gd | refine gM_splitN ?_ ?_ | refine gM_split ?_ ?_ |  refine condM_splitDN ?_ ?_ | refine condM_splitD ?_ ?_ | refine condM_splitN ?_ ?_ | refine condM_split ?_ ?_ | refine condM_any ?_ ?_ | refine cw (c4) ?_ | refine cw (c5) ?_ | refine cw (c6) ?_ | refine cw (c7) ?_ | intro _) | (simp [*, hV]) | (refine cw_eq (c4) ?_ ?_; (· (simp [*]; done))) | (refine cw_eq (c5) ?_ ?_; (· (simp [*]; done))) | (refine cw_eq (c6) ?_ ?_; (· (simp [*]; done))) | (refine cw_eq (c7) ?_ ?_; (· (simp [*]; done))))
            · obtain ⟨oa, oe, oc⟩ := o
              repeat' (first | (with_reducible first | refine awp_seq ?_ | refine awp_blockS ?_ | refine awp_blockC ?_ | refine awp_blockR ?_ | refine awp_skip ?_ | refine awp_ret ?_ | refine awp_exit ?_ | refine awp_region ?_ | refine awp_regionD (id := 9) 15 mixed (by decide +kernel) ?_ | refine awp_regionS (id := 16) [0, 1, 2, 3, 4, 5, 6, 7, 8] [9, 10] [[], [], [], [], [], [], [], [.new 0], []] [[.new 0], []] mixed (by decide +kernel) ?_ | refine awp_regionS (id := 19) [0, 1, 2, 3, 4, 5, 6, 7, 8] [9, 10] [[], [], [], [], [], [], [], [.new 0], []] [[.new 0], []] mixed (by decide +kernel) ?_ | refine awp_condM ?_ | refine And.intro ?_ ?_ | apply gQ_merge | apply gE_merge | exact EqV_w | exact EqE_w | exact EqV_ptr | exact EqE_ptr | exact EqV_msl | exact EqE_msl | exact EqV_agg | exact EqE_agg | exact EqV_fn | exact EqE_fn | exact EqV_gd | exact EqE_gd | refine gM_splitN ?_ ?_ | refine gM_split ?_ ?_ |  refine condM_splitDN ?_ ?_ | refine condM_splitD ?_ ?_ | refine condM_splitN ?_ ?_ | refine condM_split ?_ ?_ | refine condM_any ?_ ?_ | refine cw (c4) ?_ | refine cw (c5) ?_ | refine cw (c6) ?_ | refine cw (c7) ?_ | refine cw (c8) ?_ | refine cw (c9) ?_ | intro _) | (simp [*]) | (refine cw_eq (c4) ?_ ?_; (· (simp [*]; done))) | (refine cw_eq (c5) ?_ ?_; (· (simp [*]; done))) | (refine cw_eq (c6) ?_ ?_; (· (simp [*]; done))) | (refine cw_eq (c7) ?_ ?_; (· (simp [*]; done))) | (refine cw_eq (c8) ?_ ?_; (· (simp [*]; done))) | (refine cw_eq (c9) ?_ ?_; (· (simp [*]; done))))
            · obtain ⟨oa, oe, oc⟩ := o
              obtain ⟨ta, te, tc⟩ := t
              repeat' (first | (with_reducible first | refine awp_seq ?_ | refine awp_blockS ?_ | refine awp_blockC ?_ | refine awp_blockR ?_ | refine awp_skip ?_ | refine awp_ret ?_ | refine awp_exit ?_ | refine awp_region ?_ | refine awp_regionD (id := 9) 15 mixed (by decide +kernel) ?_ | refine awp_regionS (id := 16) [0, 1, 2, 3, 4, 5, 6, 7, 8] [9, 10] [[], [], [], [], [], [], [], [.new 0], []] [[.new 0], []] mixed (by decide +kernel) ?_ | refine awp_regionS (id := 19) [0, 1, 2, 3, 4, 5, 6, 7, 8] [9, 10] [[], [], [], [], [], [], [], [.new 0], []] [[.new 0], []] mixed (by decide +kernel) ?_ | refine awp_condM ?_ | refine And.intro ?_ ?_ | apply gQ_merge | apply gE_merge | exact EqV_w | exact EqE_w | exact EqV_ptr | exact EqE_ptr | exact EqV_msl | exact EqE_msl | exact EqV_agg | exact EqE_agg | exact EqV_fn | exact EqE_fn | exact EqV_gd | exact EqE_gd | refine gM_splitN ?_ ?_ | refine gM_split ?_ ?_ |  refine condM_splitDN ?_ ?_ | refine condM_splitD ?_ ?_ | refine condM_splitN ?_ ?_ | refine condM_split ?_ ?_ | refine condM_any ?_ ?_ | refine cw (c4) ?_ | refine cw (c5) ?_ | refine cw (c6) ?_ | refine cw (c7) ?_ | refine cw (c8) ?_ | refine cw (c9) ?_ | refine cw (c10) ?_ | refine cw (c11) ?_ | intro _) | (simp [*]) | (refine cw_eq (c4) ?_ ?_; (· (simp [*]; done))) | (refine cw_eq (c5) ?_ ?_; (· (simp [*]; done))) | (refine cw_eq (c6) ?_ ?_; (· (simp [*]; done))) | (refine cw_eq (c7) ?_ ?_; (· (simp [*]; done))) | (refine cw_eq (c8) ?_ ?_; (· (simp [*]; done))) | (refine cw_eq (c9) ?_ ?_; (· (simp [*]; done))) | (refine cw_eq (c10) ?_ ?_; (· (simp [*]; done))) | (refine cw_eq (c11) ?_ ?_; (· (simp [*]; done))))
        · generalize dateE d = V at *
          clear hb hx h0
          unfold cBook cEntry at *
          refine realcall_intro Tryz.func15 (by kernel_rfl) rfl (Nat.le_of_ble_eq_true (by kernel_rfl)) ?_
          simp only [Tryz.results15, Tryz.ntmps15]
          repeat' (first | (with_reducible first | refine awp_seq ?_ | refine awp_blockS ?_ | refine awp_blockC ?_ | refine awp_blockR ?_ | refine awp_skip ?_ | refine awp_ret ?_ | refine awp_exit ?_ | refine awp_region ?_ | refine awp_regionD (id := 9) 15 mixed (by decide +kernel) ?_ | refine awp_regionS (id := 16) [0, 1, 2, 3, 4, 5, 6, 7, 8] [9, 10] [[], [], [], [], [], [], [], [.new 0], []] [[.new 0], []] mixed (by decide +kernel) ?_ | refine awp_regionS (id := 19) [0, 1, 2, 3, 4, 5, 6, 7, 8] [9, 10] [[], [], [], [], [], [], [], [.new 0], []] [[.new 0], []] mixed (by decide +kernel) ?_ | refine awp_condM ?_ | refine And.intro ?_ ?_ | apply gQ_merge | apply gE_merge | exact EqV_w | exact EqE_w | exact EqV_ptr | exact EqE_ptr | exact EqV_msl | exact EqE_msl | exact EqV_agg | exact EqE_agg | exact EqV_fn | exact EqE_fn | exact EqV_gd | exact EqE_gd | refine gM_splitN ?_ ?_ | refine gM_split ?_ ?_ |  refine condM_splitDN ?_ ?_ | refine condM_splitD ?_ ?_ | refine condM_splitN ?_ ?_ | refine condM_split ?_ ?_ | refine condM_any ?_ ?_ | refine cw (c0) ?_ | refine cw (c1) ?_ | refine cw (c1') ?_ | refine cw (c2) ?_ | refine cw (c3) ?_ | intro _) | (simp [*, hd]) | (refine cw_eq (c0) ?_ ?_; (· (simp [*]; done))) | (refine cw_eq (c1) ?_ ?_; (· (simp [*]; done))) | (refine cw_eq (c1') ?_ ?_; (· (simp [*]; done))) | (refine cw_eq (c2) ?_ ?_; (· (simp [*]; done))) | (refine cw_eq (c3) ?_ ?_; (· (simp [*]; done))))
      · generalize (bookS b).2 = V at *
        clear hb hx
        unfold cBook cEntry at *
        refine realcall_intro Tryz.func15 (by kernel_rfl) rfl (Nat.le_of_ble_eq_true (by kernel_rfl)) ?_
        simp only [Tryz.results15, Tryz.ntmps15]
        repeat' (first | (with_reducible first | refine awp_seq ?_ | refine awp_blockS ?_ | refine awp_blockC ?_ | refine awp_blockR ?_ | refine awp_skip ?_ | refine awp_ret ?_ | refine awp_exit ?_ | refine awp_region ?_ | refine awp_regionD (id := 9) 15 mixed (by decide +kernel) ?_ | refine awp_regionS (id := 16) [0, 1, 2, 3, 4, 5, 6, 7, 8] [9, 10] [[], [], [], [], [], [], [], [.new 0], []] [[.new 0], []] mixed (by decide +kernel) ?_ | refine awp_regionS (id := 19) [0, 1, 2, 3, 4, 5, 6, 7, 8] [9, 10] [[], [], [], [], [], [], [], [.new 0], []] [[.new 0], []] mixed (by decide +kernel) ?_ | refine awp_condM ?_ | refine And.intro ?_ ?_ | apply gQ_merge | apply gE_merge | exact EqV_w | exact EqE_w | exact EqV_ptr | exact EqE_ptr | exact EqV_msl | exact EqE_msl | exact EqV_agg | exact EqE_agg | exact EqV_fn | exact EqE_fn | exact EqV_gd | exact EqE_gd | refine gM_splitN ?_ ?_ | refine gM_split ?_ ?_ |  refine condM_splitDN ?_ ?_ | refine condM_splitD ?_ ?_ | refine condM_splitN ?_ ?_ | refine condM_split ?_ ?_ | refine condM_any ?_ ?_ | refine cw (c0) ?_ | refine cw (c1) ?_ | refine cw (c1') ?_ | refine cw (c2) ?_ | intro _) | (simp [*, h0]) | (refine cw_eq (c0) ?_ ?_; (· (simp [*]; done))) | (refine cw_eq (c1) ?_ ?_; (· (simp [*]; done))) | (refine cw_eq (c1') ?_ ?_; (· (simp [*]; done))) | (refine cw_eq (c2) ?_ ?_; (· (simp [*]; done))))
end Go.Proofs.YtdgbfbgnbgfmjaaGreatDoor

