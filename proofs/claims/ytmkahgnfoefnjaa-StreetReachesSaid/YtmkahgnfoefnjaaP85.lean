/- Contracts of functions for this claim: lemmas alone. -/
import Derived.Test.YtmkahgnfoefnjaaP83
set_option linter.unusedSimpArgs false
set_option linter.unusedVariables false
namespace Go.Proofs.Ytmkahgnfoefnjaa
open Go Go.Fi
set_option maxRecDepth 20000

section
variable (n : Net) (x y : Int) (hA : RealCall Try.prog 4 [] (.bool true) true) (cf : RealCall Try.prog 5 [aNet n] (.bool true) true) (cc : RealCall Try.prog 7 [aNet n] (aNet n) true)
include hA cf cc
set_option maxHeartbeats 4000000 in
theorem re_net (ne : Int) (he : ne ≠ 0) (c1 : RealCall Try.prog 10 [aNet n] (.int .i64 ne) true) (c2 : RealCall Try.prog 6 [aNet n, .int .i64 x] (.tup [.sl 0 [], .int .i64 ne]) true)
    (c3 : RealCall Try.prog 8 [aNet n] (.tup [.sl 0 [], .int .i64 ne]) true) (c4 : RealCall Try.prog 9 [aNet n, .agg [.int .i64 x, .int .i64 y]] (.tup [.sl 0 [], .int .i64 ne]) true) :
    RealCall Try.prog 3 [aNet n, .agg [.int .i64 x, .int .i64 y]] (.bool true) true := by
  unfold aNet cNet at *
  refine realcall_intro Try.func3 (by kernel_rfl) rfl (Nat.le_of_ble_eq_true (by kernel_rfl)) ?_
  simp only [Try.results3, Try.ntmps3]
  repeat' (first | (with_reducible first | refine awp_seq ?_ | refine awp_blockS ?_ | refine awp_blockC ?_ | refine awp_blockR ?_ | refine awp_skip ?_ | refine awp_ret ?_ | refine awp_exit ?_ | refine awp_region ?_ | refine awp_regionD (id := 5) 10 mixed (by decide +kernel) ?_ | refine awp_regionD (id := 7) 9 mixed (by decide +kernel) ?_ | refine awp_condM ?_ | refine And.intro ?_ ?_ | apply gQ_merge | apply gE_merge | exact EqV_w | exact EqE_w | exact EqV_ptr | exact EqE_ptr | exact EqV_msl | exact EqE_msl | exact EqV_agg | exact EqE_agg | exact EqV_fn | exact EqE_fn | exact EqV_gd | exact EqE_gd | refine gM_splitN ?_ ?_ | refine gM_split ?_ ?_ |  refine condM_splitDN ?_ ?_ | refine condM_splitD ?_ ?_ | refine condM_splitN ?_ ?_ | refine condM_split ?_ ?_ | refine condM_any ?_ ?_ | refine cw (hA) ?_ | refine cw (cf) ?_ | refine cw (cc) ?_ | refine cw (c1) ?_ | refine cw (c2) ?_ | refine cw (c3) ?_ | refine cw (c4) ?_ | intro _) | (simp [*, he]) | (refine cw_eq (hA) ?_ ?_; (· (simp [*]; done))) | (refine cw_eq (cf) ?_ ?_; (· (simp [*]; done))) | (refine cw_eq (cc) ?_ ?_; (· (simp [*]; done))) | (refine cw_eq (c1) ?_ ?_; (· (simp [*]; done))) | (refine cw_eq (c2) ?_ ?_; (· (simp [*]; done))) | (refine cw_eq (c3) ?_ ?_; (· (simp [*]; done))) | (refine cw_eq (c4) ?_ ?_; (· (simp [*]; done))))
  all_goals exact inI64 (by omega) (by omega)
set_option maxHeartbeats 4000000 in
theorem re_x (ex : Int) (he : ex ≠ 0) (m : Nat) (M : List PV) (c1 : RealCall Try.prog 10 [aNet n] (.int .i64 0) true) (c2 : RealCall Try.prog 6 [aNet n, .int .i64 x] (.tup [.sl 0 [], .int .i64 ex]) true)
    (c3 : RealCall Try.prog 8 [aNet n] (.tup [.sl m M, .int .i64 0]) true) (c4 : RealCall Try.prog 9 [aNet n, .agg [.int .i64 x, .int .i64 y]] (.tup [.sl 0 [], .int .i64 ex]) true)
    (c5 : RealCall Try.prog 12 [aNet n] (.sl m M) true) (c6 : RealCall Try.prog 11 [.sl m M, .sl m M] (.bool true) true) (c7 : RealCall Try.prog 13 [aNet n, .int .i64 x] (.int .i64 ex) true) :
    RealCall Try.prog 3 [aNet n, .agg [.int .i64 x, .int .i64 y]] (.bool true) true := by
  unfold aNet cNet at *
  refine realcall_intro Try.func3 (by kernel_rfl) rfl (Nat.le_of_ble_eq_true (by kernel_rfl)) ?_
  simp only [Try.results3, Try.ntmps3]
  repeat' (first | (with_reducible first | refine awp_seq ?_ | refine awp_blockS ?_ | refine awp_blockC ?_ | refine awp_blockR ?_ | refine awp_skip ?_ | refine awp_ret ?_ | refine awp_exit ?_ | refine awp_region ?_ | refine awp_regionD (id := 5) 10 mixed (by decide +kernel) ?_ | refine awp_regionD (id := 7) 9 mixed (by decide +kernel) ?_ | refine awp_condM ?_ | refine And.intro ?_ ?_ | apply gQ_merge | apply gE_merge | exact EqV_w | exact EqE_w | exact EqV_ptr | exact EqE_ptr | exact EqV_msl | exact EqE_msl | exact EqV_agg | exact EqE_agg | exact EqV_fn | exact EqE_fn | exact EqV_gd | exact EqE_gd | refine gM_splitN ?_ ?_ | refine gM_split ?_ ?_ |  refine condM_splitDN ?_ ?_ | refine condM_splitD ?_ ?_ | refine condM_splitN ?_ ?_ | refine condM_split ?_ ?_ | refine condM_any ?_ ?_ | refine cw (hA) ?_ | refine cw (cf) ?_ | refine cw (cc) ?_ | refine cw (c1) ?_ | refine cw (c2) ?_ | refine cw (c3) ?_ | refine cw (c4) ?_ | refine cw (c5) ?_ | refine cw (c6) ?_ | refine cw (c7) ?_ | intro _) | (simp [*, he]) | (refine cw_eq (hA) ?_ ?_; (· (simp [*]; done))) | (refine cw_eq (cf) ?_ ?_; (· (simp [*]; done))) | (refine cw_eq (cc) ?_ ?_; (· (simp [*]; done))) | (refine cw_eq (c1) ?_ ?_; (· (simp [*]; done))) | (refine cw_eq (c2) ?_ ?_; (· (simp [*]; done))) | (refine cw_eq (c3) ?_ ?_; (· (simp [*]; done))) | (refine cw_eq (c4) ?_ ?_; (· (simp [*]; done))) | (refine cw_eq (c5) ?_ ?_; (· (simp [*]; done))) | (refine cw_eq (c6) ?_ ?_; (· (simp [*]; done))) | (refine cw_eq (c7) ?_ ?_; (· (simp [*]; done))))
  all_goals exact inI64 (by omega) (by omega)
set_option maxHeartbeats 4000000 in
theorem re_y (ey : Int) (he : ey ≠ 0) (m l : Nat) (M L : List PV) (c1 : RealCall Try.prog 10 [aNet n] (.int .i64 0) true) (c2 : RealCall Try.prog 6 [aNet n, .int .i64 x] (.tup [.sl l L, .int .i64 0]) true)
    (c3 : RealCall Try.prog 8 [aNet n] (.tup [.sl m M, .int .i64 0]) true) (c4 : RealCall Try.prog 9 [aNet n, .agg [.int .i64 x, .int .i64 y]] (.tup [.sl 0 [], .int .i64 ey]) true)
    (c5 : RealCall Try.prog 12 [aNet n] (.sl m M) true) (c6 : RealCall Try.prog 11 [.sl m M, .sl m M] (.bool true) true) (c7 : RealCall Try.prog 13 [aNet n, .int .i64 x] (.int .i64 0) true)
    (c8 : RealCall Try.prog 14 [aNet n, .int .i64 x] (.sl l L) true) (c9 : RealCall Try.prog 15 [.sl l L, .sl l L] (.bool true) true) (c10 : RealCall Try.prog 13 [aNet n, .int .i64 y] (.int .i64 ey) true) :
    RealCall Try.prog 3 [aNet n, .agg [.int .i64 x, .int .i64 y]] (.bool true) true := by
  unfold aNet cNet at *
  refine realcall_intro Try.func3 (by kernel_rfl) rfl (Nat.le_of_ble_eq_true (by kernel_rfl)) ?_
  simp only [Try.results3, Try.ntmps3]
  repeat' (first | (with_reducible first | refine awp_seq ?_ | refine awp_blockS ?_ | refine awp_blockC ?_ | refine awp_blockR ?_ | refine awp_skip ?_ | refine awp_ret ?_ | refine awp_exit ?_ | refine awp_region ?_ | refine awp_regionD (id := 5) 10 mixed (by decide +kernel) ?_ | refine awp_regionD (id := 7) 9 mixed (by decide +kernel) ?_ | refine awp_condM ?_ | refine And.intro ?_ ?_ | apply gQ_merge | apply gE_merge | exact EqV_w | exact EqE_w | exact EqV_ptr | exact EqE_ptr | exact EqV_msl | exact EqE_msl | exact EqV_agg | exact EqE_agg | exact EqV_fn | exact EqE_fn | exact EqV_gd | exact EqE_gd | refine gM_splitN ?_ ?_ | refine gM_split ?_ ?_ |  refine condM_splitDN ?_ ?_ | refine condM_splitD ?_ ?_ | refine condM_splitN ?_ ?_ | refine condM_split ?_ ?_ | refine condM_any ?_ ?_ | refine cw (hA) ?_ | refine cw (cf) ?_ | refine cw (cc) ?_ | refine cw (c1) ?_ | refine cw (c2) ?_ | refine cw (c3) ?_ | refine cw (c4) ?_ | refine cw (c5) ?_ | refine cw (c6) ?_ | refine cw (c7) ?_ | refine cw (c8) ?_ | refine cw (c9) ?_ | refine cw (c10) ?_ | intro _) | (simp [*, he]) | (refine cw_eq (hA) ?_ ?_; (· (simp [*]; done))) | (refine cw_eq (cf) ?_ ?_; (· (simp [*]; done))) | (refine cw_eq (cc) ?_ ?_; (· (simp [*]; done))) | (refine cw_eq (c1) ?_ ?_; (· (simp [*]; done))) | (refine cw_eq (c2) ?_ ?_; (· (simp [*]; done))) | (refine cw_eq (c3) ?_ ?_; (· (simp [*]; done))) | (refine cw_eq (c4) ?_ ?_; (· (simp [*]; done))) | (refine cw_eq (c5) ?_ ?_; (· (simp [*]; done))) | (refine cw_eq (c6) ?_ ?_; (· (simp [*]; done))) | (refine cw_eq (c7) ?_ ?_; (· (simp [*]; done))) | (refine cw_eq (c8) ?_ ?_; (· (simp [*]; done))) | (refine cw_eq (c9) ?_ ?_; (· (simp [*]; done))) | (refine cw_eq (c10) ?_ ?_; (· (simp [*]; done))))
  all_goals exact inI64 (by omega) (by omega)
set_option maxHeartbeats 4000000 in
theorem re_none (m l : Nat) (M L : List PV) (c1 : RealCall Try.prog 10 [aNet n] (.int .i64 0) true) (c2 : RealCall Try.prog 6 [aNet n, .int .i64 x] (.tup [.sl l L, .int .i64 0]) true)
    (c3 : RealCall Try.prog 8 [aNet n] (.tup [.sl m M, .int .i64 0]) true) (c4 : RealCall Try.prog 9 [aNet n, .agg [.int .i64 x, .int .i64 y]] (.tup [.sl 0 [], .int .i64 12]) true)
    (c5 : RealCall Try.prog 12 [aNet n] (.sl m M) true) (c6 : RealCall Try.prog 11 [.sl m M, .sl m M] (.bool true) true) (c7 : RealCall Try.prog 13 [aNet n, .int .i64 x] (.int .i64 0) true)
    (c8 : RealCall Try.prog 14 [aNet n, .int .i64 x] (.sl l L) true) (c9 : RealCall Try.prog 15 [.sl l L, .sl l L] (.bool true) true) (c10 : RealCall Try.prog 13 [aNet n, .int .i64 y] (.int .i64 0) true)
    (c11 : RealCall Try.prog 16 [.sl l L, .int .i64 y] (.bool false) true) :
    RealCall Try.prog 3 [aNet n, .agg [.int .i64 x, .int .i64 y]] (.bool true) true := by
  unfold aNet cNet at *
  refine realcall_intro Try.func3 (by kernel_rfl) rfl (Nat.le_of_ble_eq_true (by kernel_rfl)) ?_
  simp only [Try.results3, Try.ntmps3]
  repeat' (first | (with_reducible first | refine awp_seq ?_ | refine awp_blockS ?_ | refine awp_blockC ?_ | refine awp_blockR ?_ | refine awp_skip ?_ | refine awp_ret ?_ | refine awp_exit ?_ | refine awp_region ?_ | refine awp_regionD (id := 5) 10 mixed (by decide +kernel) ?_ | refine awp_regionD (id := 7) 9 mixed (by decide +kernel) ?_ | refine awp_condM ?_ | refine And.intro ?_ ?_ | apply gQ_merge | apply gE_merge | exact EqV_w | exact EqE_w | exact EqV_ptr | exact EqE_ptr | exact EqV_msl | exact EqE_msl | exact EqV_agg | exact EqE_agg | exact EqV_fn | exact EqE_fn | exact EqV_gd | exact EqE_gd | refine gM_splitN ?_ ?_ | refine gM_split ?_ ?_ |  refine condM_splitDN ?_ ?_ | refine condM_splitD ?_ ?_ | refine condM_splitN ?_ ?_ | refine condM_split ?_ ?_ | refine condM_any ?_ ?_ | refine cw (hA) ?_ | refine cw (cf) ?_ | refine cw (cc) ?_ | refine cw (c1) ?_ | refine cw (c2) ?_ | refine cw (c3) ?_ | refine cw (c4) ?_ | refine cw (c5) ?_ | refine cw (c6) ?_ | refine cw (c7) ?_ | refine cw (c8) ?_ | refine cw (c9) ?_ | refine cw (c10) ?_ | refine cw (c11) ?_ | intro _) | (simp [*]) | (refine cw_eq (hA) ?_ ?_; (· (simp [*]; done))) | (refine cw_eq (cf) ?_ ?_; (· (simp [*]; done))) | (refine cw_eq (cc) ?_ ?_; (· (simp [*]; done))) | (refine cw_eq (c1) ?_ ?_; (· (simp [*]; done))) | (refine cw_eq (c2) ?_ ?_; (· (simp [*]; done))) | (refine cw_eq (c3) ?_ ?_; (· (simp [*]; done))) | (refine cw_eq (c4) ?_ ?_; (· (simp [*]; done))) | (refine cw_eq (c5) ?_ ?_; (· (simp [*]; done))) | (refine cw_eq (c6) ?_ ?_; (· (simp [*]; done))) | (refine cw_eq (c7) ?_ ?_; (· (simp [*]; done))) | (refine cw_eq (c8) ?_ ?_; (· (simp [*]; done))) | (refine cw_eq (c9) ?_ ?_; (· (simp [*]; done))) | (refine cw_eq (c10) ?_ ?_; (· (simp [*]; done))) | (refine cw_eq (c11) ?_ ?_; (· (simp [*]; done))))
  all_goals exact inI64 (by omega) (by omega)
set_option maxHeartbeats 4000000 in
theorem re_ok (m l k : Nat) (M L K : List PV) (c1 : RealCall Try.prog 10 [aNet n] (.int .i64 0) true) (c2 : RealCall Try.prog 6 [aNet n, .int .i64 x] (.tup [.sl l L, .int .i64 0]) true)
    (c3 : RealCall Try.prog 8 [aNet n] (.tup [.sl m M, .int .i64 0]) true) (c4 : RealCall Try.prog 9 [aNet n, .agg [.int .i64 x, .int .i64 y]] (.tup [.sl k K, .int .i64 0]) true)
    (c5 : RealCall Try.prog 12 [aNet n] (.sl m M) true) (c6 : RealCall Try.prog 11 [.sl m M, .sl m M] (.bool true) true) (c7 : RealCall Try.prog 13 [aNet n, .int .i64 x] (.int .i64 0) true)
    (c8 : RealCall Try.prog 14 [aNet n, .int .i64 x] (.sl l L) true) (c9 : RealCall Try.prog 15 [.sl l L, .sl l L] (.bool true) true) (c10 : RealCall Try.prog 13 [aNet n, .int .i64 y] (.int .i64 0) true)
    (c11 : RealCall Try.prog 16 [.sl l L, .int .i64 y] (.bool true) true) (c12 : RealCall Try.prog 17 [aNet n, .agg [.int .i64 x, .int .i64 y]] (.sl k K) true) (c13 : RealCall Try.prog 15 [.sl k K, .sl k K] (.bool true) true) :
    RealCall Try.prog 3 [aNet n, .agg [.int .i64 x, .int .i64 y]] (.bool true) true := by
  unfold aNet cNet at *
  refine realcall_intro Try.func3 (by kernel_rfl) rfl (Nat.le_of_ble_eq_true (by kernel_rfl)) ?_
  simp only [Try.results3, Try.ntmps3]
  repeat' (first | (with_reducible first | refine awp_seq ?_ | refine awp_blockS ?_ | refine awp_blockC ?_ | refine awp_blockR ?_ | refine awp_skip ?_ | refine awp_ret ?_ | refine awp_exit ?_ | refine awp_region ?_ | refine awp_regionD (id := 5) 10 mixed (by decide +kernel) ?_ | refine awp_regionD (id := 7) 9 mixed (by decide +kernel) ?_ | refine awp_condM ?_ | refine And.intro ?_ ?_ | apply gQ_merge | apply gE_merge | exact EqV_w | exact EqE_w | exact EqV_ptr | exact EqE_ptr | exact EqV_msl | exact EqE_msl | exact EqV_agg | exact EqE_agg | exact EqV_fn | exact EqE_fn | exact EqV_gd | exact EqE_gd | refine gM_splitN ?_ ?_ | refine gM_split ?_ ?_ |  refine condM_splitDN ?_ ?_ | refine condM_splitD ?_ ?_ | refine condM_splitN ?_ ?_ | refine condM_split ?_ ?_ | refine condM_any ?_ ?_ | refine cw (hA) ?_ | refine cw (cf) ?_ | refine cw (cc) ?_ | refine cw (c1) ?_ | refine cw (c2) ?_ | refine cw (c3) ?_ | refine cw (c4) ?_ | refine cw (c5) ?_ | refine cw (c6) ?_ | refine cw (c7) ?_ | refine cw (c8) ?_ | refine cw (c9) ?_ | refine cw (c10) ?_ | refine cw (c11) ?_ | refine cw (c12) ?_ | refine cw (c13) ?_ | intro _) | (simp [*]) | (refine cw_eq (hA) ?_ ?_; (· (simp [*]; done))) | (refine cw_eq (cf) ?_ ?_; (· (simp [*]; done))) | (refine cw_eq (cc) ?_ ?_; (· (simp [*]; done))) | (refine cw_eq (c1) ?_ ?_; (· (simp [*]; done))) | (refine cw_eq (c2) ?_ ?_; (· (simp [*]; done))) | (refine cw_eq (c3) ?_ ?_; (· (simp [*]; done))) | (refine cw_eq (c4) ?_ ?_; (· (simp [*]; done))) | (refine cw_eq (c5) ?_ ?_; (· (simp [*]; done))) | (refine cw_eq (c6) ?_ ?_; (· (simp [*]; done))) | (refine cw_eq (c7) ?_ ?_; (· (simp [*]; done))) | (refine cw_eq (c8) ?_ ?_; (· (simp [*]; done))) | (refine cw_eq (c9) ?_ ?_; (· (simp [*]; done))) | (refine cw_eq (c10) ?_ ?_; (· (simp [*]; done))) | (refine cw_eq (c11) ?_ ?_; (· (simp [*]; done))) | (refine cw_eq (c12) ?_ ?_; (· (simp [*]; done))) | (refine cw_eq (c13) ?_ ?_; (· (simp [*]; done))))
  all_goals exact inI64 (by omega) (by omega)
end
set_option maxHeartbeats 4000000 in
theorem reaches_law (hA : RealCall Try.prog 4 [] (.bool true) true) (n : Net) (x y : Int) : RealCall Try.prog 3 [aNet n, .agg [.int .i64 x, .int .i64 y]] (.bool true) true := by
  have cf := few_c n
  by_cases hf : fewB n = true
  · have h := few_in hf
    rw [hf] at cf
    have cc := rCopy_c n h
    have c1 := rNetErr_c n h
    have hnr := h.nr
    by_cases he : (netS n).2.2 = 0
    · have ok := net_ok h he
      have hnp := ok.np
      rw [he] at c1
      have c3 := islands_ok n h he
      have c5 := rIslands_c n ok
      have hIl := isl_len (mu := mtl n) n.places.length
      have c6 := lists_c (iNN (islI (mtl n) n.places.length)) (by rw [iNN_len]; omega) (fun k hk => by
        have := isl_row (mtl n) n.places.length k (by rwa [iNN_len] at hk)
        omega)
      rw [iNN_len] at c6
      have c7 := rPlaceErr_c n x (by omega)
      by_cases hx : errUnless (winB x 0 (n.places.length - 1)) 6 = 0
      · have w1 := win_of (unless_zero (by decide) hx)
        obtain ⟨a, rfl⟩ : ∃ a : Nat, x = a := ⟨x.toNat, by omega⟩
        have la : a < n.places.length := by omega
        rw [hx] at c7
        have c2 := reaches_ok n h a la (by unfold hE; rw [he, hx]; rfl)
        have c8 := rReaches_c n ok a la
        have hil := idxL_len (reachL n (-1) a) n.places.length
        have c9 := ints_c (idxL (reachL n (-1) a) n.places.length) (by omega)
        have c10 := rPlaceErr_c n y (by omega)
        by_cases hy : errUnless (winB y 0 (n.places.length - 1)) 6 = 0
        · have w2 := win_of (unless_zero (by decide) hy)
          obtain ⟨b, rfl⟩ : ∃ b : Nat, y = b := ⟨y.toNat, by omega⟩
          have lb : b < n.places.length := by omega
          rw [hy] at c10
          have hp : pE n a b = 0 := by unfold pE; rw [he, hx, hy]; rfl
          have pok : PairOk n a b a b := ⟨ok, la, lb, rfl, rfl⟩
          have c11 := has_c (idxL (reachL n (-1) a) n.places.length) (by omega) b
          rw [idxL_has] at c11
          cases hv : nth (reachL n (-1) a) b with
          | false =>
            rw [hv, decide_eq_false (fun h => by cases h.2)] at c11
            exact re_none n a b hA cf cc _ _ _ _ c1 c2 c3 (needed_none n h a b pok hp hv) c5 c6 c7 c8 c9 c10 c11
          | true =>
            rw [hv, decide_eq_true (And.intro lb rfl)] at c11
            have hnl := needL_len n a b n.roads.length
            exact re_ok n a b hA cf cc _ _ _ _ _ _ c1 c2 c3 (needed_ok n h a b pok hp hv) c5 c6 c7 c8 c9 c10 c11 (rNeeded_c n h he a b la lb) (ints_c _ (by omega))
        · have e1 : pE n a y = errUnless (winB y 0 (n.places.length - 1)) 6 := by
            unfold pE; rw [he, hx]; simp [firstS]; omega
          have c4 := needed_bad n h a y (by rw [e1]; exact hy)
          rw [e1] at c4
          exact re_y n a y hA cf cc _ hy _ _ _ _ c1 c2 c3 c4 c5 c6 c7 c8 c9 c10
      · have e1 : pE n x y = errUnless (winB x 0 (n.places.length - 1)) 6 := by
          unfold pE; rw [he]; simp [firstS, hx]
        have e2 : hE n x = errUnless (winB x 0 (n.places.length - 1)) 6 := by
          unfold hE; rw [he]; simp [firstS, hx]
        have c2 := reaches_bad n h x (by rw [e2]; exact hx)
        have c4 := needed_bad n h x y (by rw [e1]; exact hx)
        rw [e1] at c4
        rw [e2] at c2
        exact re_x n x y hA cf cc _ hx _ _ c1 c2 c3 c4 c5 c6 c7
    · have e1 : pE n x y = (netS n).2.2 := by unfold pE; simp [firstS, he]
      have e2 : hE n x = (netS n).2.2 := by unfold hE; simp [firstS, he]
      have c2 := reaches_bad n h x (by rw [e2]; exact he)
      have c4 := needed_bad n h x y (by rw [e1]; exact he)
      rw [e1] at c4
      rw [e2] at c2
      exact re_net n x y hA cf cc _ he c1 c2 (islands_bad n h he) c4
  · have hf : fewB n = false := by simpa using hf
    rw [hf] at cf
    unfold aNet cNet at *
    refine realcall_intro Try.func3 (by kernel_rfl) rfl (Nat.le_of_ble_eq_true (by kernel_rfl)) ?_
    simp only [Try.results3, Try.ntmps3]
    repeat' (first | (with_reducible first | refine awp_seq ?_ | refine awp_blockS ?_ | refine awp_blockC ?_ | refine awp_blockR ?_ | refine awp_skip ?_ | refine awp_ret ?_ | refine awp_exit ?_ | refine awp_region ?_ | refine awp_regionD (id := 5) 10 mixed (by decide +kernel) ?_ | refine awp_regionD (id := 7) 9 mixed (by decide +kernel) ?_ | refine awp_condM ?_ | refine And.intro ?_ ?_ | apply gQ_merge | apply gE_merge | exact EqV_w | exact EqE_w | exact EqV_ptr | exact EqE_ptr | exact EqV_msl | exact EqE_msl | exact EqV_agg | exact EqE_agg | exact EqV_fn | exact EqE_fn | exact EqV_gd | exact EqE_gd | refine gM_splitN ?_ ?_ | refine gM_split ?_ ?_ |  refine condM_splitDN ?_ ?_ | refine condM_splitD ?_ ?_ | refine condM_splitN ?_ ?_ | refine condM_split ?_ ?_ | refine condM_any ?_ ?_ | refine cw (hA) ?_ | refine cw (cf) ?_ | intro _) | (simp [*]) | (refine cw_eq (hA) ?_ ?_; (· (simp [*]; done))) | (refine cw_eq (cf) ?_ ?_; (· (simp [*]; done))))
end Go.Proofs.Ytmkahgnfoefnjaa
