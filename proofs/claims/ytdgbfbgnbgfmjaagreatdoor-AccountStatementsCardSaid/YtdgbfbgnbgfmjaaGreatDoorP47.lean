/- Contracts of functions for this claim: lemmas alone. -/
import Derived.Test.YtdgbfbgnbgfmjaaGreatDoorP46
import Derived.Test.YtdgbfbgnbgfmjaaGreatDoorP40
set_option linter.unusedSimpArgs false
set_option linter.unusedVariables false
namespace Go.Proofs.YtdgbfbgnbgfmjaaGreatDoor
open Go Go.Fi
set_option maxRecDepth 20000

set_option maxHeartbeats 4000000 in
theorem accountStatements_c (b : Book) (n : ByteArray) (lo hi : Int) : RealCall Tryz.prog 8 [.agg (cBook b), .str n, .agg [.int .i64 lo, .int .i64 hi]] (.bool true) true := by
  have c0 := awake_c
  have c1 := smallBook_c b
  cases h1 : bookB b with
  | false =>
    rw [h1] at c1
    clear h1
    unfold cBook at *
    refine realcall_intro Tryz.func8 (by kernel_rfl) rfl (Nat.le_of_ble_eq_true (by kernel_rfl)) ?_
    simp only [Tryz.results8, Tryz.ntmps8]
    repeat' (first | (with_reducible first | refine awp_seq ?_ | refine awp_blockS ?_ | refine awp_blockC ?_ | refine awp_blockR ?_ | refine awp_skip ?_ | refine awp_ret ?_ | refine awp_exit ?_ | refine awp_region ?_ | refine awp_regionD (id := 5) 10 mixed (by decide +kernel) ?_ | refine awp_regionD (id := 20) 11 mixed (by decide +kernel) ?_ | refine awp_condM ?_ | refine And.intro ?_ ?_ | apply gQ_merge | apply gE_merge | exact EqV_w | exact EqE_w | exact EqV_ptr | exact EqE_ptr | exact EqV_msl | exact EqE_msl | exact EqV_agg | exact EqE_agg | exact EqV_fn | exact EqE_fn | exact EqV_gd | exact EqE_gd | refine gM_splitN ?_ ?_ | refine gM_split ?_ ?_ |  refine condM_splitDN ?_ ?_ | refine condM_splitD ?_ ?_ | refine condM_splitN ?_ ?_ | refine condM_split ?_ ?_ | refine condM_any ?_ ?_ | refine cw (c0) ?_ | refine cw (c1) ?_ | intro _) | (simp [*]) | (refine cw_eq (c0) ?_ ?_; (· (simp [*]; done))) | (refine cw_eq (c1) ?_ ?_; (· (simp [*]; done))))
  | true =>
    rw [h1] at c1
    have hb := bookB_in h1
    clear h1
    by_cases hn : 20 < (n.size : Int)
    · clear hb
      unfold cBook at *
      refine realcall_intro Tryz.func8 (by kernel_rfl) rfl (Nat.le_of_ble_eq_true (by kernel_rfl)) ?_
      simp only [Tryz.results8, Tryz.ntmps8]
      repeat' (first | (with_reducible first | refine awp_seq ?_ | refine awp_blockS ?_ | refine awp_blockC ?_ | refine awp_blockR ?_ | refine awp_skip ?_ | refine awp_ret ?_ | refine awp_exit ?_ | refine awp_region ?_ | refine awp_regionD (id := 5) 10 mixed (by decide +kernel) ?_ | refine awp_regionD (id := 20) 11 mixed (by decide +kernel) ?_ | refine awp_condM ?_ | refine And.intro ?_ ?_ | apply gQ_merge | apply gE_merge | exact EqV_w | exact EqE_w | exact EqV_ptr | exact EqE_ptr | exact EqV_msl | exact EqE_msl | exact EqV_agg | exact EqE_agg | exact EqV_fn | exact EqE_fn | exact EqV_gd | exact EqE_gd | refine gM_splitN ?_ ?_ | refine gM_split ?_ ?_ |  refine condM_splitDN ?_ ?_ | refine condM_splitD ?_ ?_ | refine condM_splitN ?_ ?_ | refine condM_split ?_ ?_ | refine condM_any ?_ ?_ | refine cw (c0) ?_ | refine cw (c1) ?_ | intro _) | (simp [*, hn]) | (refine cw_eq (c0) ?_ ?_; (· (simp [*]; done))) | (refine cw_eq (c1) ?_ ?_; (· (simp [*]; done))))
    · have c2 := copyBook_c b hb
      have c3 := bookErr_c b hb
      have c4 := rFind_c b.accs (by have := hb.accs.len; omega) n
      have c5 := rDateErr_c lo
      have c6 := rDateErr_c hi
      have hf := find_has b.accs n
      by_cases hE : stE b n lo hi = 0
      · have hz := firstS_zero hE
        have hb0 := hz (bookS b).2 (by simp)
        have hh := unless_zero (hz (errUnless (hasS b.accs n) 6) (by simp)) (by decide)
        have hd1 := hz (dateE lo) (by simp)
        have hd2 := hz (dateE hi) (by simp)
        have hle := of_decide_eq_true (unless_zero (hz (errUnless (decide (lo ≤ hi)) 9) (by simp)) (by decide))
        have c7 := statement_ok b hb n lo hi hE
        have ht := (bookS_zero hb0).tight.ents
        have c8 := rStatement_c b ht n lo hi
        have c9 := sameRows_c (stK n lo hi b.entries b.entries.length) (by have := stK_len n lo hi b.entries b.entries.length; have := hb.len; omega)
        have c10 := balanceOf_c b hb n hi
        have hs := st_last n lo hi b.entries (bookS_sorted hb0) b.entries.length (Nat.le_refl _)
        rw [List.take_length] at hs
        have hbal : balE b n hi = 0 := by unfold balE; rw [hb0, hh, hd2]; rfl
        unfold balOfS at c10
        rw [hbal, if_pos rfl] at c10
        rw [hb0] at c3
        rw [hd1] at c5
        rw [hd2] at c6
        have hF : ¬ findS b.accs n < 0 := by have := of_decide_eq_true (hf.trans hh); omega
        have hlt : ¬ hi < lo := by omega
        have hL := stK_len n lo hi b.entries b.entries.length
        have hlen := hb.len
        generalize stK n lo hi b.entries b.entries.length = L at *
        generalize balS n hi b.entries = S at *
        generalize findS b.accs n = F at *
        clear hE hz hb0 hh hd1 hd2 hle ht hbal hf hb
        unfold cBook at *
        by_cases h0 : L.length = 0
        · have : L = [] := List.eq_nil_of_length_eq_zero h0
          subst this
          clear hs h0
          refine realcall_intro Tryz.func8 (by kernel_rfl) rfl (Nat.le_of_ble_eq_true (by kernel_rfl)) ?_
          simp only [Tryz.results8, Tryz.ntmps8]
          repeat' (first | (with_reducible first | refine awp_seq ?_ | refine awp_blockS ?_ | refine awp_blockC ?_ | refine awp_blockR ?_ | refine awp_skip ?_ | refine awp_ret ?_ | refine awp_exit ?_ | refine awp_region ?_ | refine awp_regionD (id := 5) 10 mixed (by decide +kernel) ?_ | refine awp_regionD (id := 20) 11 mixed (by decide +kernel) ?_ | refine awp_condM ?_ | refine And.intro ?_ ?_ | apply gQ_merge | apply gE_merge | exact EqV_w | exact EqE_w | exact EqV_ptr | exact EqE_ptr | exact EqV_msl | exact EqE_msl | exact EqV_agg | exact EqE_agg | exact EqV_fn | exact EqE_fn | exact EqV_gd | exact EqE_gd | refine gM_splitN ?_ ?_ | refine gM_split ?_ ?_ |  refine condM_splitDN ?_ ?_ | refine condM_splitD ?_ ?_ | refine condM_splitN ?_ ?_ | refine condM_split ?_ ?_ | refine condM_any ?_ ?_ | refine cw (c0) ?_ | refine cw (c1) ?_ | refine cw (c2) ?_ | refine cw (c3) ?_ | refine cw (c4) ?_ | refine cw (c5) ?_ | refine cw (c6) ?_ | refine cw (c7) ?_ | refine cw (c8) ?_ | refine cw (c9) ?_ | refine cw (c10) ?_ | intro _) | (simp [*, hn, hF, hlt]) | (refine cw_eq (c0) ?_ ?_; (· (simp [*]; done))) | (refine cw_eq (c1) ?_ ?_; (· (simp [*]; done))) | (refine cw_eq (c2) ?_ ?_; (· (simp [*]; done))) | (refine cw_eq (c3) ?_ ?_; (· (simp [*]; done))) | (refine cw_eq (c4) ?_ ?_; (· (simp [*]; done))) | (refine cw_eq (c5) ?_ ?_; (· (simp [*]; done))) | (refine cw_eq (c6) ?_ ?_; (· (simp [*]; done))) | (refine cw_eq (c7) ?_ ?_; (· (simp [*]; done))) | (refine cw_eq (c8) ?_ ?_; (· (simp [*]; done))) | (refine cw_eq (c9) ?_ ?_; (· (simp [*]; done))) | (refine cw_eq (c10) ?_ ?_; (· (simp [*]; done))))
        · have hlast := (hs h0).1
          have hx : ((L.length : Nat) : Int) - 1 = ((L.length - 1 : Nat) : Int) := by omega
          have hlt1 : L.length - 1 < L.length := by omega
          have hne : ¬ ((L.length : Nat) : Int) = 0 := by omega
          have hLi : L.length < 10000 := by omega
          clear hs
          generalize hj : L.length - 1 = j at *
          clear hj
          subst hlast
          refine realcall_intro Tryz.func8 (by kernel_rfl) rfl (Nat.le_of_ble_eq_true (by kernel_rfl)) ?_
          simp only [Tryz.results8, Tryz.ntmps8]
          repeat' (first | (with_reducible first | refine awp_seq ?_ | refine awp_blockS ?_ | refine awp_blockC ?_ | refine awp_blockR ?_ | refine awp_skip ?_ | refine awp_ret ?_ | refine awp_exit ?_ | refine awp_region ?_ | refine awp_regionD (id := 5) 10 mixed (by decide +kernel) ?_ | refine awp_regionD (id := 20) 11 mixed (by decide +kernel) ?_ | refine awp_condM ?_ | refine And.intro ?_ ?_ | apply gQ_merge | apply gE_merge | exact EqV_w | exact EqE_w | exact EqV_ptr | exact EqE_ptr | exact EqV_msl | exact EqE_msl | exact EqV_agg | exact EqE_agg | exact EqV_fn | exact EqE_fn | exact EqV_gd | exact EqE_gd | refine gM_splitN ?_ ?_ | refine gM_split ?_ ?_ |  refine condM_splitDN ?_ ?_ | refine condM_splitD ?_ ?_ | refine condM_splitN ?_ ?_ | refine condM_split ?_ ?_ | refine condM_any ?_ ?_ | refine cw (c0) ?_ | refine cw (c1) ?_ | refine cw (c2) ?_ | refine cw (c3) ?_ | refine cw (c4) ?_ | refine cw (c5) ?_ | refine cw (c6) ?_ | refine cw (c7) ?_ | refine cw (c8) ?_ | refine cw (c9) ?_ | refine cw (c10) ?_ | intro _) | (simp [*, hn, hF, hlt, hx, hlt1, hne]) | (refine cw_eq (c0) ?_ ?_; (· (simp [*]; done))) | (refine cw_eq (c1) ?_ ?_; (· (simp [*]; done))) | (refine cw_eq (c2) ?_ ?_; (· (simp [*]; done))) | (refine cw_eq (c3) ?_ ?_; (· (simp [*]; done))) | (refine cw_eq (c4) ?_ ?_; (· (simp [*]; done))) | (refine cw_eq (c5) ?_ ?_; (· (simp [*]; done))) | (refine cw_eq (c6) ?_ ?_; (· (simp [*]; done))) | (refine cw_eq (c7) ?_ ?_; (· (simp [*]; done))) | (refine cw_eq (c8) ?_ ?_; (· (simp [*]; done))) | (refine cw_eq (c9) ?_ ?_; (· (simp [*]; done))) | (refine cw_eq (c10) ?_ ?_; (· (simp [*]; done))))
          all_goals first
            | exact inI64 (by omega) (by omega)
            | omega
            | skip
      · have c7 := statement_bad b hb n lo hi hE
        have hv : stE b n lo hi = firstS [(bookS b).2, errUnless (decide (0 ≤ findS b.accs n)) 6, dateE lo, dateE hi, errUnless (decide (lo ≤ hi)) 9] := by rw [hf]; rfl
        generalize stE b n lo hi = V at *
        generalize (bookS b).2 = E at *
        generalize findS b.accs n = F at *
        generalize dateE lo = D1 at *
        generalize dateE hi = D2 at *
        clear hf hb
        unfold cBook at *
        by_cases e0 : E = 0
        · by_cases e1 : F < 0
          · have : V = 6 := by rw [hv]; simp [firstS, e0, show ¬ 0 ≤ F by omega]
            subst this
            clear hv hE
            subst e0
            refine realcall_intro Tryz.func8 (by kernel_rfl) rfl (Nat.le_of_ble_eq_true (by kernel_rfl)) ?_
            simp only [Tryz.results8, Tryz.ntmps8]
            repeat' (first | (with_reducible first | refine awp_seq ?_ | refine awp_blockS ?_ | refine awp_blockC ?_ | refine awp_blockR ?_ | refine awp_skip ?_ | refine awp_ret ?_ | refine awp_exit ?_ | refine awp_region ?_ | refine awp_regionD (id := 5) 10 mixed (by decide +kernel) ?_ | refine awp_regionD (id := 20) 11 mixed (by decide +kernel) ?_ | refine awp_condM ?_ | refine And.intro ?_ ?_ | apply gQ_merge | apply gE_merge | exact EqV_w | exact EqE_w | exact EqV_ptr | exact EqE_ptr | exact EqV_msl | exact EqE_msl | exact EqV_agg | exact EqE_agg | exact EqV_fn | exact EqE_fn | exact EqV_gd | exact EqE_gd | refine gM_splitN ?_ ?_ | refine gM_split ?_ ?_ |  refine condM_splitDN ?_ ?_ | refine condM_splitD ?_ ?_ | refine condM_splitN ?_ ?_ | refine condM_split ?_ ?_ | refine condM_any ?_ ?_ | refine cw (c0) ?_ | refine cw (c1) ?_ | refine cw (c2) ?_ | refine cw (c3) ?_ | refine cw (c4) ?_ | refine cw (c5) ?_ | refine cw (c6) ?_ | refine cw (c7) ?_ | intro _) | (simp [*, hn, e1]) | (refine cw_eq (c0) ?_ ?_; (· (simp [*]; done))) | (refine cw_eq (c1) ?_ ?_; (· (simp [*]; done))) | (refine cw_eq (c2) ?_ ?_; (· (simp [*]; done))) | (refine cw_eq (c3) ?_ ?_; (· (simp [*]; done))) | (refine cw_eq (c4) ?_ ?_; (· (simp [*]; done))) | (refine cw_eq (c5) ?_ ?_; (· (simp [*]; done))) | (refine cw_eq (c6) ?_ ?_; (· (simp [*]; done))) | (refine cw_eq (c7) ?_ ?_; (· (simp [*]; done))))
          · by_cases e2 : D1 = 0
            · by_cases e3 : D2 = 0
              · by_cases e4 : hi < lo
                · have : V = 9 := by rw [hv]; simp [firstS, e0, e2, e3, show 0 ≤ F by omega, show ¬ lo ≤ hi by omega]
                  subst this
                  clear hv hE
                  subst e0; subst e2; subst e3
                  refine realcall_intro Tryz.func8 (by kernel_rfl) rfl (Nat.le_of_ble_eq_true (by kernel_rfl)) ?_
                  simp only [Tryz.results8, Tryz.ntmps8]
                  repeat' (first | (with_reducible first | refine awp_seq ?_ | refine awp_blockS ?_ | refine awp_blockC ?_ | refine awp_blockR ?_ | refine awp_skip ?_ | refine awp_ret ?_ | refine awp_exit ?_ | refine awp_region ?_ | refine awp_regionD (id := 5) 10 mixed (by decide +kernel) ?_ | refine awp_regionD (id := 20) 11 mixed (by decide +kernel) ?_ | refine awp_condM ?_ | refine And.intro ?_ ?_ | apply gQ_merge | apply gE_merge | exact EqV_w | exact EqE_w | exact EqV_ptr | exact EqE_ptr | exact EqV_msl | exact EqE_msl | exact EqV_agg | exact EqE_agg | exact EqV_fn | exact EqE_fn | exact EqV_gd | exact EqE_gd | refine gM_splitN ?_ ?_ | refine gM_split ?_ ?_ |  refine condM_splitDN ?_ ?_ | refine condM_splitD ?_ ?_ | refine condM_splitN ?_ ?_ | refine condM_split ?_ ?_ | refine condM_any ?_ ?_ | refine cw (c0) ?_ | refine cw (c1) ?_ | refine cw (c2) ?_ | refine cw (c3) ?_ | refine cw (c4) ?_ | refine cw (c5) ?_ | refine cw (c6) ?_ | refine cw (c7) ?_ | intro _) | (simp [*, hn, e1, e4]) | (refine cw_eq (c0) ?_ ?_; (· (simp [*]; done))) | (refine cw_eq (c1) ?_ ?_; (· (simp [*]; done))) | (refine cw_eq (c2) ?_ ?_; (· (simp [*]; done))) | (refine cw_eq (c3) ?_ ?_; (· (simp [*]; done))) | (refine cw_eq (c4) ?_ ?_; (· (simp [*]; done))) | (refine cw_eq (c5) ?_ ?_; (· (simp [*]; done))) | (refine cw_eq (c6) ?_ ?_; (· (simp [*]; done))) | (refine cw_eq (c7) ?_ ?_; (· (simp [*]; done))))
                · exact absurd (by rw [hv]; simp [firstS, e0, e2, e3, show 0 ≤ F by omega, show lo ≤ hi by omega]) hE
              · have : V = D2 := by rw [hv]; simp [firstS, e0, e2, e3, show 0 ≤ F by omega]
                subst this
                clear hv hE
                subst e0; subst e2
                refine realcall_intro Tryz.func8 (by kernel_rfl) rfl (Nat.le_of_ble_eq_true (by kernel_rfl)) ?_
                simp only [Tryz.results8, Tryz.ntmps8]
                repeat' (first | (with_reducible first | refine awp_seq ?_ | refine awp_blockS ?_ | refine awp_blockC ?_ | refine awp_blockR ?_ | refine awp_skip ?_ | refine awp_ret ?_ | refine awp_exit ?_ | refine awp_region ?_ | refine awp_regionD (id := 5) 10 mixed (by decide +kernel) ?_ | refine awp_regionD (id := 20) 11 mixed (by decide +kernel) ?_ | refine awp_condM ?_ | refine And.intro ?_ ?_ | apply gQ_merge | apply gE_merge | exact EqV_w | exact EqE_w | exact EqV_ptr | exact EqE_ptr | exact EqV_msl | exact EqE_msl | exact EqV_agg | exact EqE_agg | exact EqV_fn | exact EqE_fn | exact EqV_gd | exact EqE_gd | refine gM_splitN ?_ ?_ | refine gM_split ?_ ?_ |  refine condM_splitDN ?_ ?_ | refine condM_splitD ?_ ?_ | refine condM_splitN ?_ ?_ | refine condM_split ?_ ?_ | refine condM_any ?_ ?_ | refine cw (c0) ?_ | refine cw (c1) ?_ | refine cw (c2) ?_ | refine cw (c3) ?_ | refine cw (c4) ?_ | refine cw (c5) ?_ | refine cw (c6) ?_ | refine cw (c7) ?_ | intro _) | (simp [*, hn, e1, e3]) | (refine cw_eq (c0) ?_ ?_; (· (simp [*]; done))) | (refine cw_eq (c1) ?_ ?_; (· (simp [*]; done))) | (refine cw_eq (c2) ?_ ?_; (· (simp [*]; done))) | (refine cw_eq (c3) ?_ ?_; (· (simp [*]; done))) | (refine cw_eq (c4) ?_ ?_; (· (simp [*]; done))) | (refine cw_eq (c5) ?_ ?_; (· (simp [*]; done))) | (refine cw_eq (c6) ?_ ?_; (· (simp [*]; done))) | (refine cw_eq (c7) ?_ ?_; (· (simp [*]; done))))
            · have : V = D1 := by rw [hv]; simp [firstS, e0, e2, show 0 ≤ F by omega]
              subst this
              clear hv hE
              subst e0
              refine realcall_intro Tryz.func8 (by kernel_rfl) rfl (Nat.le_of_ble_eq_true (by kernel_rfl)) ?_
              simp only [Tryz.results8, Tryz.ntmps8]
              repeat' (first | (with_reducible first | refine awp_seq ?_ | refine awp_blockS ?_ | refine awp_blockC ?_ | refine awp_blockR ?_ | refine awp_skip ?_ | refine awp_ret ?_ | refine awp_exit ?_ | refine awp_region ?_ | refine awp_regionD (id := 5) 10 mixed (by decide +kernel) ?_ | refine awp_regionD (id := 20) 11 mixed (by decide +kernel) ?_ | refine awp_condM ?_ | refine And.intro ?_ ?_ | apply gQ_merge | apply gE_merge | exact EqV_w | exact EqE_w | exact EqV_ptr | exact EqE_ptr | exact EqV_msl | exact EqE_msl | exact EqV_agg | exact EqE_agg | exact EqV_fn | exact EqE_fn | exact EqV_gd | exact EqE_gd | refine gM_splitN ?_ ?_ | refine gM_split ?_ ?_ |  refine condM_splitDN ?_ ?_ | refine condM_splitD ?_ ?_ | refine condM_splitN ?_ ?_ | refine condM_split ?_ ?_ | refine condM_any ?_ ?_ | refine cw (c0) ?_ | refine cw (c1) ?_ | refine cw (c2) ?_ | refine cw (c3) ?_ | refine cw (c4) ?_ | refine cw (c5) ?_ | refine cw (c6) ?_ | refine cw (c7) ?_ | intro _) | (simp [*, hn, e1, e2]) | (refine cw_eq (c0) ?_ ?_; (· (simp [*]; done))) | (refine cw_eq (c1) ?_ ?_; (· (simp [*]; done))) | (refine cw_eq (c2) ?_ ?_; (· (simp [*]; done))) | (refine cw_eq (c3) ?_ ?_; (· (simp [*]; done))) | (refine cw_eq (c4) ?_ ?_; (· (simp [*]; done))) | (refine cw_eq (c5) ?_ ?_; (· (simp [*]; done))) | (refine cw_eq (c6) ?_ ?_; (· (simp [*]; done))) | (refine cw_eq (c7) ?_ ?_; (· (simp [*]; done))))
        · have : V = E := by rw [hv]; simp [firstS, e0]
          subst this
          clear hv hE
          refine realcall_intro Tryz.func8 (by kernel_rfl) rfl (Nat.le_of_ble_eq_true (by kernel_rfl)) ?_
          simp only [Tryz.results8, Tryz.ntmps8]
          repeat' (first | (with_reducible first | refine awp_seq ?_ | refine awp_blockS ?_ | refine awp_blockC ?_ | refine awp_blockR ?_ | refine awp_skip ?_ | refine awp_ret ?_ | refine awp_exit ?_ | refine awp_region ?_ | refine awp_regionD (id := 5) 10 mixed (by decide +kernel) ?_ | refine awp_regionD (id := 20) 11 mixed (by decide +kernel) ?_ | refine awp_condM ?_ | refine And.intro ?_ ?_ | apply gQ_merge | apply gE_merge | exact EqV_w | exact EqE_w | exact EqV_ptr | exact EqE_ptr | exact EqV_msl | exact EqE_msl | exact EqV_agg | exact EqE_agg | exact EqV_fn | exact EqE_fn | exact EqV_gd | exact EqE_gd | refine gM_splitN ?_ ?_ | refine gM_split ?_ ?_ |  refine condM_splitDN ?_ ?_ | refine condM_splitD ?_ ?_ | refine condM_splitN ?_ ?_ | refine condM_split ?_ ?_ | refine condM_any ?_ ?_ | refine cw (c0) ?_ | refine cw (c1) ?_ | refine cw (c2) ?_ | refine cw (c3) ?_ | refine cw (c4) ?_ | refine cw (c5) ?_ | refine cw (c6) ?_ | refine cw (c7) ?_ | intro _) | (simp [*, hn, e0]) | (refine cw_eq (c0) ?_ ?_; (· (simp [*]; done))) | (refine cw_eq (c1) ?_ ?_; (· (simp [*]; done))) | (refine cw_eq (c2) ?_ ?_; (· (simp [*]; done))) | (refine cw_eq (c3) ?_ ?_; (· (simp [*]; done))) | (refine cw_eq (c4) ?_ ?_; (· (simp [*]; done))) | (refine cw_eq (c5) ?_ ?_; (· (simp [*]; done))) | (refine cw_eq (c6) ?_ ?_; (· (simp [*]; done))) | (refine cw_eq (c7) ?_ ?_; (· (simp [*]; done))))
end Go.Proofs.YtdgbfbgnbgfmjaaGreatDoor
