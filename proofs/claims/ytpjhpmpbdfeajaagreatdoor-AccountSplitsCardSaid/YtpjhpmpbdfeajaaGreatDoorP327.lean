/- Contracts of functions for this claim: lemmas alone. -/
import Derived.Test.YtpjhpmpbdfeajaaGreatDoorP324
set_option linter.unusedSimpArgs false
set_option linter.unusedVariables false
namespace Go.Proofs.YtpjhpmpbdfeajaaGreatDoor
open Go Go.Fi
set_option maxRecDepth 20000

/-! ### wide numbers added, subtracted, compared -/
theorem sgZ_neg (z : Int) : sgZ (-z) = -(sgZ z) := by
  unfold sgZ
  by_cases h : z = 0
  · subst h; rfl
  · by_cases h2 : z < 0
    · rw [if_neg (by omega), if_neg (by omega), if_neg h, if_pos h2]; rfl
    · rw [if_neg (by omega), if_pos (by omega), if_neg h, if_neg h2]
theorem sgZ_bd (z : Int) : -1 ≤ sgZ z ∧ sgZ z ≤ 1 := by
  unfold sgZ; split
  · omega
  · split <;> omega
theorem wideNeg_c (z : Int) : RealCall Tryz.prog 44 [.agg (wideP z)] (.agg (wideP (-z))) false := by
  unfold wideP
  rw [sgZ_neg, Int.natAbs_neg]
  have hb := sgZ_bd z
  generalize sgZ z = s at *
  generalize digs z.natAbs = D at *
  refine realcall_intro Tryz.func44 (by kernel_rfl) rfl (Nat.le_of_ble_eq_true (by kernel_rfl)) ?_
  simp only [Tryz.results44, Tryz.ntmps44]
  repeat' (first | (with_reducible first | refine awp_seq ?_ | refine awp_blockS ?_ | refine awp_blockC ?_ | refine awp_blockR ?_ | refine awp_skip ?_ | refine awp_ret ?_ | refine awp_exit ?_ | refine awp_region ?_ | refine awp_condM ?_ | refine And.intro ?_ ?_ | apply gQ_merge | apply gE_merge | exact EqV_w | exact EqE_w | exact EqV_ptr | exact EqE_ptr | exact EqV_msl | exact EqE_msl | exact EqV_agg | exact EqE_agg | exact EqV_fn | exact EqE_fn | exact EqV_gd | exact EqE_gd | refine gM_splitN ?_ ?_ | refine gM_split ?_ ?_ |  refine condM_splitDN ?_ ?_ | refine condM_splitD ?_ ?_ | refine condM_splitN ?_ ?_ | refine condM_split ?_ ?_ | refine condM_any ?_ ?_ | intro _) | (simp [*]))
  all_goals exact inI64 (by omega) (by omega)
theorem wideOf_digs (s : Int) (z : Int) (hs : s = sgZ z ∨ z = 0) (h : (digs z.natAbs).length < 100000) : RealCall Tryz.prog 45 [.int .i64 s, .sl (digs z.natAbs).length (ints (digs z.natAbs))] (.agg (wideP z)) false := by
  have c := wideOf_c s (digs z.natAbs) h
  rw [trim_digs] at c
  unfold wideP
  by_cases hz : z = 0
  · subst hz
    rw [show sgZ 0 = 0 from rfl]
    rw [show digs (0 : Int).natAbs = [] from digs_zero] at *
    exact c
  · rw [if_neg (fun e => hz (by have := digs_eq_nil.1 e; omega))] at c
    rcases hs with rfl | h0
    · exact c
    · exact absurd h0 hz
set_option maxHeartbeats 4000000 in
theorem wideAdd_c (x y : Int) (hx : (digs x.natAbs).length < 9000) (hy : (digs y.natAbs).length < 9000) : RealCall Tryz.prog 43 [.agg (wideP x), .agg (wideP y)] (.agg (wideP (x + y))) false := by
  by_cases x0 : x = 0
  · subst x0
    rw [Int.zero_add]
    unfold wideP
    rw [show sgZ 0 = 0 from rfl]
    generalize sgZ y = s
    generalize digs y.natAbs = D
    generalize digs (0 : Int).natAbs = D2
    refine realcall_intro Tryz.func43 (by kernel_rfl) rfl (Nat.le_of_ble_eq_true (by kernel_rfl)) ?_
    simp only [Tryz.results43, Tryz.ntmps43]
    repeat' (first | (with_reducible first | refine awp_seq ?_ | refine awp_blockS ?_ | refine awp_blockC ?_ | refine awp_blockR ?_ | refine awp_skip ?_ | refine awp_ret ?_ | refine awp_exit ?_ | refine awp_region ?_ | refine awp_regionD (id := 6) 8 mixed (by decide +kernel) ?_ | refine awp_regionD (id := 11) 8 mixed (by decide +kernel) ?_ | refine awp_regionD (id := 12) 8 mixed (by decide +kernel) ?_ | refine awp_condM ?_ | refine And.intro ?_ ?_ | apply gQ_merge | apply gE_merge | exact EqV_w | exact EqE_w | exact EqV_ptr | exact EqE_ptr | exact EqV_msl | exact EqE_msl | exact EqV_agg | exact EqE_agg | exact EqV_fn | exact EqE_fn | exact EqV_gd | exact EqE_gd | refine gM_splitN ?_ ?_ | refine gM_split ?_ ?_ |  refine condM_splitDN ?_ ?_ | refine condM_splitD ?_ ?_ | refine condM_splitN ?_ ?_ | refine condM_split ?_ ?_ | refine condM_any ?_ ?_ | intro _) | (simp [*]))
  · have sx : ¬ sgZ x = 0 := by unfold sgZ; rw [if_neg x0]; split <;> decide
    by_cases y0 : y = 0
    · subst y0
      rw [Int.add_zero]
      unfold wideP
      rw [show sgZ 0 = 0 from rfl]
      generalize sgZ x = s at *
      generalize digs x.natAbs = D
      generalize digs (0 : Int).natAbs = D2
      refine realcall_intro Tryz.func43 (by kernel_rfl) rfl (Nat.le_of_ble_eq_true (by kernel_rfl)) ?_
      simp only [Tryz.results43, Tryz.ntmps43]
      repeat' (first | (with_reducible first | refine awp_seq ?_ | refine awp_blockS ?_ | refine awp_blockC ?_ | refine awp_blockR ?_ | refine awp_skip ?_ | refine awp_ret ?_ | refine awp_exit ?_ | refine awp_region ?_ | refine awp_regionD (id := 6) 8 mixed (by decide +kernel) ?_ | refine awp_regionD (id := 11) 8 mixed (by decide +kernel) ?_ | refine awp_regionD (id := 12) 8 mixed (by decide +kernel) ?_ | refine awp_condM ?_ | refine And.intro ?_ ?_ | apply gQ_merge | apply gE_merge | exact EqV_w | exact EqE_w | exact EqV_ptr | exact EqE_ptr | exact EqV_msl | exact EqE_msl | exact EqV_agg | exact EqE_agg | exact EqV_fn | exact EqE_fn | exact EqV_gd | exact EqE_gd | refine gM_splitN ?_ ?_ | refine gM_split ?_ ?_ |  refine condM_splitDN ?_ ?_ | refine condM_splitD ?_ ?_ | refine condM_splitN ?_ ?_ | refine condM_split ?_ ?_ | refine condM_any ?_ ?_ | intro _) | (simp [*, sx]))
    · have sy : ¬ sgZ y = 0 := by unfold sgZ; rw [if_neg y0]; split <;> decide
      by_cases hs : sgZ x = sgZ y
      · obtain ⟨f1, f2, f3⟩ := addR_facts (okD_digs x.natAbs) (okD_digs y.natAbs)
        rw [valD_digs, valD_digs] at f2
        have c1 := addD_c (digs x.natAbs) (digs y.natAbs) (okD_digs _) (okD_digs _) (by omega) (by omega)
        have hE := (addK_rest (okD_digs x.natAbs) (okD_digs y.natAbs)).2.2.2.1
        have c2 := wideOf_c (sgZ x) (addR (digs x.natAbs) (digs y.natAbs)) (by omega)
        rw [trimD_digs f1, f2] at c2
        have hab : ((x.natAbs : Int) + (y.natAbs : Int)).toNat = (x + y).natAbs ∧ sgZ (x + y) = sgZ x ∧ ¬ (x + y).natAbs = 0 := by
          unfold sgZ at hs ⊢
          rw [if_neg x0, if_neg y0] at hs
          rw [if_neg x0]
          by_cases h1 : x < 0
          · by_cases h2 : y < 0
            · rw [if_neg (by omega), if_pos (by omega), if_pos h1]; omega
            · rw [if_pos h1, if_neg h2] at hs; cases hs
          · by_cases h2 : y < 0
            · rw [if_neg h1, if_pos h2] at hs; cases hs
            · rw [if_neg (by omega), if_neg (by omega), if_neg h1]; omega
        obtain ⟨g1, g2, g3⟩ := hab
        rw [g1, if_neg (fun e => g3 (digs_eq_nil.1 e))] at c2
        unfold wideP
        rw [g2]
        rw [← hs] at sy ⊢
        clear f1 f2 f3 hE g1 g2 g3 hs x0 y0 hx hy
        generalize addR (digs x.natAbs) (digs y.natAbs) = R at *
        generalize sgZ x = s at *
        generalize digs x.natAbs = D1 at *
        generalize digs y.natAbs = D2 at *
        generalize digs (x + y).natAbs = D3 at *
        refine realcall_intro Tryz.func43 (by kernel_rfl) rfl (Nat.le_of_ble_eq_true (by kernel_rfl)) ?_
        simp only [Tryz.results43, Tryz.ntmps43]
        repeat' (first | (with_reducible first | refine awp_seq ?_ | refine awp_blockS ?_ | refine awp_blockC ?_ | refine awp_blockR ?_ | refine awp_skip ?_ | refine awp_ret ?_ | refine awp_exit ?_ | refine awp_region ?_ | refine awp_regionD (id := 6) 8 mixed (by decide +kernel) ?_ | refine awp_regionD (id := 11) 8 mixed (by decide +kernel) ?_ | refine awp_regionD (id := 12) 8 mixed (by decide +kernel) ?_ | refine awp_condM ?_ | refine And.intro ?_ ?_ | apply gQ_merge | apply gE_merge | exact EqV_w | exact EqE_w | exact EqV_ptr | exact EqE_ptr | exact EqV_msl | exact EqE_msl | exact EqV_agg | exact EqE_agg | exact EqV_fn | exact EqE_fn | exact EqV_gd | exact EqE_gd | refine gM_splitN ?_ ?_ | refine gM_split ?_ ?_ |  refine condM_splitDN ?_ ?_ | refine condM_splitD ?_ ?_ | refine condM_splitN ?_ ?_ | refine condM_split ?_ ?_ | refine condM_any ?_ ?_ | refine cw (c1) ?_ | refine cw (c2) ?_ | intro _) | (simp [*, sx, sy]) | (refine cw_eq (c1) ?_ ?_; (· (simp [*]; done))) | (refine cw_eq (c2) ?_ ?_; (· (simp [*]; done))))
      · have c1 := cmpD_c x.natAbs y.natAbs (by omega) (by omega)
        have hsg : (x < 0 ∧ 0 < y) ∨ (0 < x ∧ y < 0) := by
          unfold sgZ at hs
          rw [if_neg x0, if_neg y0] at hs
          by_cases h1 : x < 0
          · by_cases h2 : y < 0
            · rw [if_pos h1, if_pos h2] at hs; exact absurd rfl hs
            · left; omega
          · by_cases h2 : y < 0
            · right; omega
            · rw [if_neg h1, if_neg h2] at hs; exact absurd rfl hs
        rcases Nat.lt_trichotomy x.natAbs y.natAbs with hq | hq | hq
        · rw [show cmpZ x.natAbs y.natAbs = -1 from if_pos hq] at c1
          have c2 := subD_c y.natAbs x.natAbs (by omega) (by omega) (by omega)
          have e1 : y.natAbs - x.natAbs = (x + y).natAbs := by omega
          have e2 : sgZ y = sgZ (x + y) := by
            have q1 : ¬ x + y = 0 := by omega
            unfold sgZ
            rcases hsg with h | h
            · rw [if_neg y0, if_neg (show ¬ y < 0 by omega), if_neg q1, if_neg (show ¬ x + y < 0 by omega)]
            · rw [if_neg y0, if_pos h.2, if_neg q1, if_pos (show x + y < 0 by omega)]
          rw [e1] at c2
          have hl : (digs (x + y).natAbs).length < 100000 := by
            rcases Nat.lt_or_ge (digs y.natAbs).length (digs (x + y).natAbs).length with h | h
            · have := digs_shorter h; omega
            · omega
          have c3 := wideOf_digs (sgZ y) (x + y) (.inl e2) hl
          unfold wideP at *
          rw [← e2] at c3 ⊢
          clear e1 e2 hsg x0 y0 hx hy hq hl
          generalize sgZ x = s1 at *
          generalize sgZ y = s2 at *
          generalize digs x.natAbs = D1 at *
          generalize digs y.natAbs = D2 at *
          generalize digs (x + y).natAbs = D3 at *
          refine realcall_intro Tryz.func43 (by kernel_rfl) rfl (Nat.le_of_ble_eq_true (by kernel_rfl)) ?_
          simp only [Tryz.results43, Tryz.ntmps43]
          repeat' (first | (with_reducible first | refine awp_seq ?_ | refine awp_blockS ?_ | refine awp_blockC ?_ | refine awp_blockR ?_ | refine awp_skip ?_ | refine awp_ret ?_ | refine awp_exit ?_ | refine awp_region ?_ | refine awp_regionD (id := 6) 8 mixed (by decide +kernel) ?_ | refine awp_regionD (id := 11) 8 mixed (by decide +kernel) ?_ | refine awp_regionD (id := 12) 8 mixed (by decide +kernel) ?_ | refine awp_condM ?_ | refine And.intro ?_ ?_ | apply gQ_merge | apply gE_merge | exact EqV_w | exact EqE_w | exact EqV_ptr | exact EqE_ptr | exact EqV_msl | exact EqE_msl | exact EqV_agg | exact EqE_agg | exact EqV_fn | exact EqE_fn | exact EqV_gd | exact EqE_gd | refine gM_splitN ?_ ?_ | refine gM_split ?_ ?_ |  refine condM_splitDN ?_ ?_ | refine condM_splitD ?_ ?_ | refine condM_splitN ?_ ?_ | refine condM_split ?_ ?_ | refine condM_any ?_ ?_ | refine cw (c1) ?_ | refine cw (c2) ?_ | refine cw (c3) ?_ | intro _) | (simp [*, sx, sy, hs]) | (refine cw_eq (c1) ?_ ?_; (· (simp [*]; done))) | (refine cw_eq (c2) ?_ ?_; (· (simp [*]; done))) | (refine cw_eq (c3) ?_ ?_; (· (simp [*]; done))))
        · rw [show cmpZ x.natAbs y.natAbs = 0 by unfold cmpZ; rw [if_neg (by omega), if_neg (by omega)]] at c1
          have e1 : x + y = 0 := by omega
          rw [e1]
          unfold wideP
          rw [show sgZ 0 = 0 from rfl, show digs (0 : Int).natAbs = [] from digs_zero]
          clear e1 hsg x0 y0 hx hy hq
          generalize sgZ x = s1 at *
          generalize sgZ y = s2 at *
          generalize digs x.natAbs = D1 at *
          generalize digs y.natAbs = D2 at *
          refine realcall_intro Tryz.func43 (by kernel_rfl) rfl (Nat.le_of_ble_eq_true (by kernel_rfl)) ?_
          simp only [Tryz.results43, Tryz.ntmps43]
          repeat' (first | (with_reducible first | refine awp_seq ?_ | refine awp_blockS ?_ | refine awp_blockC ?_ | refine awp_blockR ?_ | refine awp_skip ?_ | refine awp_ret ?_ | refine awp_exit ?_ | refine awp_region ?_ | refine awp_regionD (id := 6) 8 mixed (by decide +kernel) ?_ | refine awp_regionD (id := 11) 8 mixed (by decide +kernel) ?_ | refine awp_regionD (id := 12) 8 mixed (by decide +kernel) ?_ | refine awp_condM ?_ | refine And.intro ?_ ?_ | apply gQ_merge | apply gE_merge | exact EqV_w | exact EqE_w | exact EqV_ptr | exact EqE_ptr | exact EqV_msl | exact EqE_msl | exact EqV_agg | exact EqE_agg | exact EqV_fn | exact EqE_fn | exact EqV_gd | exact EqE_gd | refine gM_splitN ?_ ?_ | refine gM_split ?_ ?_ |  refine condM_splitDN ?_ ?_ | refine condM_splitD ?_ ?_ | refine condM_splitN ?_ ?_ | refine condM_split ?_ ?_ | refine condM_any ?_ ?_ | refine cw (c1) ?_ | intro _) | (simp [*, sx, sy, hs]) | (refine cw_eq (c1) ?_ ?_; (· (simp [*]; done))))
          all_goals rfl
        · rw [show cmpZ x.natAbs y.natAbs = 1 by unfold cmpZ; rw [if_neg (by omega), if_pos hq]] at c1
          have c2 := subD_c x.natAbs y.natAbs (by omega) (by omega) (by omega)
          have e1 : x.natAbs - y.natAbs = (x + y).natAbs := by omega
          have e2 : sgZ x = sgZ (x + y) := by
            have q1 : ¬ x + y = 0 := by omega
            unfold sgZ
            rcases hsg with h | h
            · rw [if_neg x0, if_pos h.1, if_neg q1, if_pos (show x + y < 0 by omega)]
            · rw [if_neg x0, if_neg (show ¬ x < 0 by omega), if_neg q1, if_neg (show ¬ x + y < 0 by omega)]
          rw [e1] at c2
          have hl : (digs (x + y).natAbs).length < 100000 := by
            rcases Nat.lt_or_ge (digs x.natAbs).length (digs (x + y).natAbs).length with h | h
            · have := digs_shorter h; omega
            · omega
          have c3 := wideOf_digs (sgZ x) (x + y) (.inl e2) hl
          unfold wideP at *
          rw [← e2] at c3 ⊢
          clear e1 e2 hsg x0 y0 hx hy hq hl
          generalize sgZ x = s1 at *
          generalize sgZ y = s2 at *
          generalize digs x.natAbs = D1 at *
          generalize digs y.natAbs = D2 at *
          generalize digs (x + y).natAbs = D3 at *
          refine realcall_intro Tryz.func43 (by kernel_rfl) rfl (Nat.le_of_ble_eq_true (by kernel_rfl)) ?_
          simp only [Tryz.results43, Tryz.ntmps43]
          repeat' (first | (with_reducible first | refine awp_seq ?_ | refine awp_blockS ?_ | refine awp_blockC ?_ | refine awp_blockR ?_ | refine awp_skip ?_ | refine awp_ret ?_ | refine awp_exit ?_ | refine awp_region ?_ | refine awp_regionD (id := 6) 8 mixed (by decide +kernel) ?_ | refine awp_regionD (id := 11) 8 mixed (by decide +kernel) ?_ | refine awp_regionD (id := 12) 8 mixed (by decide +kernel) ?_ | refine awp_condM ?_ | refine And.intro ?_ ?_ | apply gQ_merge | apply gE_merge | exact EqV_w | exact EqE_w | exact EqV_ptr | exact EqE_ptr | exact EqV_msl | exact EqE_msl | exact EqV_agg | exact EqE_agg | exact EqV_fn | exact EqE_fn | exact EqV_gd | exact EqE_gd | refine gM_splitN ?_ ?_ | refine gM_split ?_ ?_ |  refine condM_splitDN ?_ ?_ | refine condM_splitD ?_ ?_ | refine condM_splitN ?_ ?_ | refine condM_split ?_ ?_ | refine condM_any ?_ ?_ | refine cw (c1) ?_ | refine cw (c2) ?_ | refine cw (c3) ?_ | intro _) | (simp [*, sx, sy, hs]) | (refine cw_eq (c1) ?_ ?_; (· (simp [*]; done))) | (refine cw_eq (c2) ?_ ?_; (· (simp [*]; done))) | (refine cw_eq (c3) ?_ ?_; (· (simp [*]; done))))
theorem wideSub_c (x y : Int) (hx : (digs x.natAbs).length < 9000) (hy : (digs y.natAbs).length < 9000) : RealCall Tryz.prog 11 [.agg (wideP x), .agg (wideP y)] (.agg (wideP (x - y))) false := by
  have c1 := wideNeg_c y
  have c2 := wideAdd_c x (-y) hx (by rw [Int.natAbs_neg]; exact hy)
  rw [← Int.sub_eq_add_neg] at c2
  unfold wideP at *
  refine realcall_intro Tryz.func11 (by kernel_rfl) rfl (Nat.le_of_ble_eq_true (by kernel_rfl)) ?_
  simp only [Tryz.results11, Tryz.ntmps11]
  repeat' (first | (with_reducible first | refine awp_seq ?_ | refine awp_blockS ?_ | refine awp_blockC ?_ | refine awp_blockR ?_ | refine awp_skip ?_ | refine awp_ret ?_ | refine awp_exit ?_ | refine awp_region ?_ | refine awp_regionD (id := 1) 4 mixed (by decide +kernel) ?_ | refine awp_condM ?_ | refine And.intro ?_ ?_ | apply gQ_merge | apply gE_merge | exact EqV_w | exact EqE_w | exact EqV_ptr | exact EqE_ptr | exact EqV_msl | exact EqE_msl | exact EqV_agg | exact EqE_agg | exact EqV_fn | exact EqE_fn | exact EqV_gd | exact EqE_gd | refine gM_splitN ?_ ?_ | refine gM_split ?_ ?_ |  refine condM_splitDN ?_ ?_ | refine condM_splitD ?_ ?_ | refine condM_splitN ?_ ?_ | refine condM_split ?_ ?_ | refine condM_any ?_ ?_ | refine cw (c1) ?_ | refine cw (c2) ?_ | intro _) | (simp [*]) | (refine cw_eq (c1) ?_ ?_; (· (simp [*]; done))) | (refine cw_eq (c2) ?_ ?_; (· (simp [*]; done))))
theorem wideCmp_c (x y : Int) (hx : (digs x.natAbs).length < 9000) (hy : (digs y.natAbs).length < 9000) : RealCall Tryz.prog 14 [.agg (wideP x), .agg (wideP y)] (.int .i64 (sgZ (x - y))) true := by
  have c1 := wideSub_c x y hx hy
  unfold wideP at *
  refine realcall_intro Tryz.func14 (by kernel_rfl) rfl (Nat.le_of_ble_eq_true (by kernel_rfl)) ?_
  simp only [Tryz.results14, Tryz.ntmps14]
  repeat' (first | (with_reducible first | refine awp_seq ?_ | refine awp_blockS ?_ | refine awp_blockC ?_ | refine awp_blockR ?_ | refine awp_skip ?_ | refine awp_ret ?_ | refine awp_exit ?_ | refine awp_region ?_ | refine awp_condM ?_ | refine And.intro ?_ ?_ | apply gQ_merge | apply gE_merge | exact EqV_w | exact EqE_w | exact EqV_ptr | exact EqE_ptr | exact EqV_msl | exact EqE_msl | exact EqV_agg | exact EqE_agg | exact EqV_fn | exact EqE_fn | exact EqV_gd | exact EqE_gd | refine gM_splitN ?_ ?_ | refine gM_split ?_ ?_ |  refine condM_splitDN ?_ ?_ | refine condM_splitD ?_ ?_ | refine condM_splitN ?_ ?_ | refine condM_split ?_ ?_ | refine condM_any ?_ ?_ | refine cw (c1) ?_ | intro _) | (simp [*]) | (refine cw_eq (c1) ?_ ?_; (· (simp [*]; done))))
end Go.Proofs.YtpjhpmpbdfeajaaGreatDoor

