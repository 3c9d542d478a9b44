/- Contracts of functions for this claim: lemmas alone. -/
import Derived.Test.YtmedbghkldmlhaaP66
set_option linter.unusedSimpArgs false
set_option linter.unusedVariables false
namespace Go.Proofs.Ytmedbghkldmlhaa
open Go Go.Fi

theorem examined_bad (n : Net) (h : NetIn n) (pl : List Int) (hl : pl.length < 1000) (more : Int) (he : (netS n).2.2 ≠ 0) : RealCall Try.prog 34 [aNet n, aExam pl more] (quadP (0, 0, false, (netS n).2.2)) true := by
  have co := open_c n h
  have cu := unless_c (decide ((1 : Int) < (pl.length : Int))) 10
  have cv := unless_c (decide ((pl.length : Int) ≤ 200)) 8
  have cf := first3_c (netS n).2.2 (errUnless (decide ((1 : Int) < (pl.length : Int))) 10) (errUnless (decide ((pl.length : Int) ≤ 200)) 8)
  have ef : firstS [(netS n).2.2, errUnless (decide ((1 : Int) < (pl.length : Int))) 10, errUnless (decide ((pl.length : Int) ≤ 200)) 8] = (netS n).2.2 := by rw [first3, if_pos he]
  rw [ef] at cf
  clear ef h
  generalize (netS n).2.2 = ne at *
  generalize errUnless (decide ((1 : Int) < (pl.length : Int))) 10 = e1 at *
  generalize errUnless (decide ((pl.length : Int) ≤ 200)) 8 = e2 at *
  unfold quadP aNet cNet at *
  refine realcall_intro Try.func34 (by kernel_rfl) rfl (Nat.le_of_ble_eq_true (by kernel_rfl)) ?_
  simp only [Try.results34, Try.ntmps34]
  repeat' (first | (with_reducible first | refine awp_seq ?_ | refine awp_blockS ?_ | refine awp_blockC ?_ | refine awp_blockR ?_ | refine awp_skip ?_ | refine awp_ret ?_ | refine awp_exit ?_ | refine awp_region ?_ | refine awp_regionD (id := 2) 13 mixed (by decide +kernel) ?_ | refine awp_regionD (id := 23) 25 mixed (by decide +kernel) ?_ | refine awp_regionD (id := 30) 15 mixed (by decide +kernel) ?_ | refine awp_condM ?_ | refine And.intro ?_ ?_ | refine gM_splitN ?_ ?_ | refine gM_split ?_ ?_ | refine condM_splitDN ?_ ?_ | refine condM_splitD ?_ ?_ | refine condM_splitN ?_ ?_ | refine condM_split ?_ ?_ | refine condM_any ?_ ?_ | refine cw (co) ?_ | refine cw (cu) ?_ | refine cw (cv) ?_ | refine cw (cf) ?_ | intro _) | (simp [*, he]))
  all_goals try omega
set_option maxHeartbeats 8000000 in
set_option maxRecDepth 20000 in
theorem examined_c (n : Net) (hin : NetIn n) (he : (netS n).2.2 = 0) (pl : List Int) (hl : pl.length < 1000) (more : Int) : RealCall Try.prog 34 [aNet n, aExam pl more] (quadP (exS n pl more)) true := by
  have h := net_ok hin he
  have hnp := h.np
  have hnr := h.nr
  have co := open_c n hin
  rw [he] at co
  have cu := unless_c (decide ((1 : Int) < (pl.length : Int))) 10
  have cv := unless_c (decide ((pl.length : Int) ≤ 200)) 8
  have cf := first3_c 0 (errUnless (decide ((1 : Int) < (pl.length : Int))) 10) (errUnless (decide ((pl.length : Int) ≤ 200)) 8)
  have kc := keep (fun i => placeErr_c n i (by omega))
  unfold aNet cNet at kc co
  clear hin he
  generalize hR : exS n pl more = R
  unfold exS at hR
  unfold quadP aNet cNet
  by_cases g1 : pl.length < 2
  · rw [if_pos g1] at hR
    subst hR
    have u1 : errUnless (decide ((1 : Int) < (pl.length : Int))) 10 = 10 := by rw [decide_eq_false (by omega)]; rfl
    rw [u1] at cu cf
    have ef : firstS [0, 10, errUnless (decide ((pl.length : Int) ≤ 200)) 8] = 10 := rfl
    rw [ef] at cf
    generalize errUnless (decide ((pl.length : Int) ≤ 200)) 8 = e2 at *
    clear h ef u1
    refine realcall_intro Try.func34 (by kernel_rfl) rfl (Nat.le_of_ble_eq_true (by kernel_rfl)) ?_
    simp only [Try.results34, Try.ntmps34]
    repeat' (first | (with_reducible first | refine awp_seq ?_ | refine awp_blockS ?_ | refine awp_blockC ?_ | refine awp_blockR ?_ | refine awp_skip ?_ | refine awp_ret ?_ | refine awp_exit ?_ | refine awp_region ?_ | refine awp_regionD (id := 2) 13 mixed (by decide +kernel) ?_ | refine awp_regionD (id := 23) 25 mixed (by decide +kernel) ?_ | refine awp_regionD (id := 30) 15 mixed (by decide +kernel) ?_ | refine awp_condM ?_ | refine And.intro ?_ ?_ | refine gM_splitN ?_ ?_ | refine gM_split ?_ ?_ | refine condM_splitDN ?_ ?_ | refine condM_splitD ?_ ?_ | refine condM_splitN ?_ ?_ | refine condM_split ?_ ?_ | refine condM_any ?_ ?_ | refine cw (co) ?_ | refine cw (cu) ?_ | refine cw (cv) ?_ | refine cw (cf) ?_ | intro _) | (simp [*]))
    all_goals try omega
  rw [if_neg g1] at hR
  have u1 : errUnless (decide ((1 : Int) < (pl.length : Int))) 10 = 0 := by rw [decide_eq_true (by omega)]; rfl
  rw [u1] at cu cf
  clear u1
  by_cases g2 : 200 < pl.length
  · rw [if_pos g2] at hR
    subst hR
    have u2 : errUnless (decide ((pl.length : Int) ≤ 200)) 8 = 8 := by rw [decide_eq_false (by omega)]; rfl
    rw [u2] at cv cf
    have ef : firstS [0, 0, 8] = 8 := rfl
    rw [ef] at cf
    clear h ef u2
    refine realcall_intro Try.func34 (by kernel_rfl) rfl (Nat.le_of_ble_eq_true (by kernel_rfl)) ?_
    simp only [Try.results34, Try.ntmps34]
    repeat' (first | (with_reducible first | refine awp_seq ?_ | refine awp_blockS ?_ | refine awp_blockC ?_ | refine awp_blockR ?_ | refine awp_skip ?_ | refine awp_ret ?_ | refine awp_exit ?_ | refine awp_region ?_ | refine awp_regionD (id := 2) 13 mixed (by decide +kernel) ?_ | refine awp_regionD (id := 23) 25 mixed (by decide +kernel) ?_ | refine awp_regionD (id := 30) 15 mixed (by decide +kernel) ?_ | refine awp_condM ?_ | refine And.intro ?_ ?_ | refine gM_splitN ?_ ?_ | refine gM_split ?_ ?_ | refine condM_splitDN ?_ ?_ | refine condM_splitD ?_ ?_ | refine condM_splitN ?_ ?_ | refine condM_split ?_ ?_ | refine condM_any ?_ ?_ | refine cw (co) ?_ | refine cw (cu) ?_ | refine cw (cv) ?_ | refine cw (cf) ?_ | intro _) | (simp [*]))
    all_goals try omega
  rw [if_neg g2] at hR
  have u2 : errUnless (decide ((pl.length : Int) ≤ 200)) 8 = 0 := by rw [decide_eq_true (by omega)]; rfl
  rw [u2] at cv cf
  have ef : firstS [0, 0, 0] = 0 := rfl
  rw [ef] at cf
  have kR := keep hR
  have kh := keep h
  clear hR h u2 ef
  refine realcall_intro Try.func34 (by kernel_rfl) rfl (Nat.le_of_ble_eq_true (by kernel_rfl)) ?_
  simp only [Try.results34, Try.ntmps34]
  repeat' (first | (with_reducible first | refine awp_seq ?_ | refine awp_blockS ?_ | refine awp_blockC ?_ | refine awp_blockR ?_ | refine awp_skip ?_ | refine awp_ret ?_ | refine awp_exit ?_ | refine awp_region ?_ | refine awp_regionD (id := 2) 13 mixed (by decide +kernel) ?_ | refine awp_regionD (id := 23) 25 mixed (by decide +kernel) ?_ | refine awp_regionD (id := 30) 15 mixed (by decide +kernel) ?_ | refine awp_condM ?_ | refine And.intro ?_ ?_ | refine gM_splitN ?_ ?_ | refine gM_split ?_ ?_ | refine condM_splitDN ?_ ?_ | refine condM_splitD ?_ ?_ | refine condM_splitN ?_ ?_ | refine condM_split ?_ ?_ | refine condM_any ?_ ?_ | refine cw (co) ?_ | refine cw (cu) ?_ | refine cw (cv) ?_ | refine cw (cf) ?_ | intro _) | (simp [*]))
  all_goals try omega
  clear co cu cv cf
  refine awp_for3 (fun (k : Nat) => k ≤ pl.length ∧ placesB n pl k = placesB n pl 0) [2, 3, 4, 6, 41, 42] (fun (k : Nat) => [(43, .w false false (.int .i64 k))]) [0, 1, 2, 3] (fun (k : Nat) => []) (fun (k : Nat) => pl.length - k) (fun (_u : Unit) => placesB n pl 0 = false) [2, 3, 4, 6] (fun (_u : Unit) => []) [0, 1, 2, 3] (fun (_u : Unit) => []) (0) ⟨Nat.zero_le _, rfl⟩ (by simp) (by simp) (fun k hk => ?_) (fun _u hf => ?_)
  · obtain ⟨hk, hj⟩ := hk
    by_cases hlt : k < pl.length
    · unfold placesB at hj
      rw [anyD_step _ _ _ hlt] at hj
      have c1 := kc (nth pl k)
      cases hw : winB (nth pl k) 0 (n.places.length - 1) with
      | true =>
        rw [hw] at c1 hj
        have hj : placesB n pl (k + 1) = placesB n pl 0 := hj
        have kj := keep hj
        clear hj
        repeat' (first | (with_reducible first | refine awp_seq ?_ | refine awp_blockS ?_ | refine awp_blockC ?_ | refine awp_blockR ?_ | refine awp_skip ?_ | refine awp_ret ?_ | refine awp_exit ?_ | refine awp_region ?_ | refine awp_regionD (id := 2) 13 mixed (by decide +kernel) ?_ | refine awp_regionD (id := 23) 25 mixed (by decide +kernel) ?_ | refine awp_regionD (id := 30) 15 mixed (by decide +kernel) ?_ | refine awp_condM ?_ | refine And.intro ?_ ?_ | refine gM_splitN ?_ ?_ | refine gM_split ?_ ?_ | refine condM_splitDN ?_ ?_ | refine condM_splitD ?_ ?_ | refine condM_splitN ?_ ?_ | refine condM_split ?_ ?_ | refine condM_any ?_ ?_ | refine cw (c1) ?_ | intro _) | (simp [*, hlt, errUnless]))
        all_goals first
          | exact inI64 (by omega) (by omega)
          | omega
          | (refine loopK_normal _ _ _ _ _ (k + 1) _ ?_ (by first | omega | (dsimp only; omega) | (simp; omega)) ?_; (· exact ⟨by omega, kj⟩); (refine le_of ?_ ?_ <;> first | trivial | (simp [*]; done)))
          | skip
      | false =>
        rw [hw] at c1 hj
        have hj : true = placesB n pl 0 := hj
        rw [keep_def, if_pos hj.symm] at kR
        subst kR
        clear hj
        repeat' (first | (with_reducible first | refine awp_seq ?_ | refine awp_blockS ?_ | refine awp_blockC ?_ | refine awp_blockR ?_ | refine awp_skip ?_ | refine awp_ret ?_ | refine awp_exit ?_ | refine awp_region ?_ | refine awp_regionD (id := 2) 13 mixed (by decide +kernel) ?_ | refine awp_regionD (id := 23) 25 mixed (by decide +kernel) ?_ | refine awp_regionD (id := 30) 15 mixed (by decide +kernel) ?_ | refine awp_condM ?_ | refine And.intro ?_ ?_ | refine gM_splitN ?_ ?_ | refine gM_split ?_ ?_ | refine condM_splitDN ?_ ?_ | refine condM_splitD ?_ ?_ | refine condM_splitN ?_ ?_ | refine condM_split ?_ ?_ | refine condM_any ?_ ?_ | refine cw (c1) ?_ | intro _) | (simp [*, hlt, errUnless]))
        all_goals try omega
    · have hke : k = pl.length := by omega
      subst hke
      have kj := keep (show placesB n pl 0 = false by rw [← hj]; exact anyD_end _ _)
      clear hj
      repeat' (first | (with_reducible first | refine awp_seq ?_ | refine awp_blockS ?_ | refine awp_blockC ?_ | refine awp_blockR ?_ | refine awp_skip ?_ | refine awp_ret ?_ | refine awp_exit ?_ | refine awp_region ?_ | refine awp_regionD (id := 2) 13 mixed (by decide +kernel) ?_ | refine awp_regionD (id := 23) 25 mixed (by decide +kernel) ?_ | refine awp_regionD (id := 30) 15 mixed (by decide +kernel) ?_ | refine awp_condM ?_ | refine And.intro ?_ ?_ | refine gM_splitN ?_ ?_ | refine gM_split ?_ ?_ | refine condM_splitDN ?_ ?_ | refine condM_splitD ?_ ?_ | refine condM_splitN ?_ ?_ | refine condM_split ?_ ?_ | refine condM_any ?_ ?_ | intro _) | (simp [*]))
      all_goals (refine finW_intro () ?_ ?_; (· exact kj); (refine le_of ?_ ?_ <;> first | trivial | (simp [*]; done)))
  · rw [keep_def, if_neg (by rw [hf]; decide)] at kR
    have hpl := keep (places_ok hf)
    clear hf
    have cw1 := within_c more 0 1000
    cases hm : winB more 0 1000 with
    | false =>
      rw [hm] at cw1
      rw [if_pos hm] at kR
      subst kR
      repeat' (first | (with_reducible first | refine awp_seq ?_ | refine awp_blockS ?_ | refine awp_blockC ?_ | refine awp_blockR ?_ | refine awp_skip ?_ | refine awp_ret ?_ | refine awp_exit ?_ | refine awp_region ?_ | refine awp_regionD (id := 2) 13 mixed (by decide +kernel) ?_ | refine awp_regionD (id := 23) 25 mixed (by decide +kernel) ?_ | refine awp_regionD (id := 30) 15 mixed (by decide +kernel) ?_ | refine awp_condM ?_ | refine And.intro ?_ ?_ | refine gM_splitN ?_ ?_ | refine gM_split ?_ ?_ | refine condM_splitDN ?_ ?_ | refine condM_splitD ?_ ?_ | refine condM_splitN ?_ ?_ | refine condM_split ?_ ?_ | refine condM_any ?_ ?_ | refine cw (cw1) ?_ | intro _) | (simp [*]))
      all_goals try omega
    | true =>
      rw [hm] at cw1
      rw [hm, if_neg (by decide)] at kR
      have kR2 := keep kR
      clear kR
      have wm := win_of hm
      clear hm
      have z2 : ((pl.length : Int) - 1).toNat = pl.length - 1 := by omega
      have hT : List.take (pl.length - 1) (ints pl) = ints (List.take (pl.length - 1) pl) := by simp [ints]
      repeat' (first | (with_reducible first | refine awp_seq ?_ | refine awp_blockS ?_ | refine awp_blockC ?_ | refine awp_blockR ?_ | refine awp_skip ?_ | refine awp_ret ?_ | refine awp_exit ?_ | refine awp_region ?_ | refine awp_regionD (id := 2) 13 mixed (by decide +kernel) ?_ | refine awp_regionD (id := 23) 25 mixed (by decide +kernel) ?_ | refine awp_regionD (id := 30) 15 mixed (by decide +kernel) ?_ | refine awp_condM ?_ | refine And.intro ?_ ?_ | refine gM_splitN ?_ ?_ | refine gM_split ?_ ?_ | refine condM_splitDN ?_ ?_ | refine condM_splitD ?_ ?_ | refine condM_splitN ?_ ?_ | refine condM_split ?_ ?_ | refine condM_any ?_ ?_ | refine cw (cw1) ?_ | intro _) | (simp [*, z2, hT]))
      all_goals first
        | exact inI64 (by omega) (by omega)
        | omega
        | skip
      clear cw1
      have hTl : (List.take (pl.length - 1) pl).length = pl.length - 1 := by rw [List.length_take]; omega
      have hTn : ∀ k, k < pl.length - 1 → nth (List.take (pl.length - 1) pl) k = nth pl k := fun k hk => nth_take pl _ k hk
      have hTn := keep hTn
      clear hT
      generalize List.take (pl.length - 1) pl = TT at *
      refine awp_for3 (fun (k : Nat) => k + 1 ≤ pl.length ∧ holeB n pl k = false) [2, 3, 4, 6, 11, 12, 67, 68] (fun (k : Nat) => [(69, .w false false (.int .i64 k))]) [0, 1, 2, 3] (fun (k : Nat) => [(5, [.w false false (.int .i64 (sumK n pl k)), .w false false (.int .i64 0), .w false false (.bool false)])]) (fun (k : Nat) => pl.length - k) (fun (_u : Unit) => holeB n pl (pl.length - 1) = false) [3, 4, 6, 11, 12] (fun (_u : Unit) => []) [1, 2, 3] (fun (_u : Unit) => [(5, [.w false false (.int .i64 (sumK n pl (pl.length - 1))), .w false false (.int .i64 0), .w false false (.bool false)])]) (0) ⟨by omega, rfl⟩ (by simp) (by simp) (fun k hk => ?_) (fun _u hf => ?_)
      · obtain ⟨hk, hj⟩ := hk
        by_cases hlt : k + 1 < pl.length
        · have hlti : (k : Int) + 1 < (pl.length : Int) := by omega
          have p1 : k < pl.length := by omega
          have p2 : k < pl.length - 1 := by omega
          have q1 : ((k : Int) + 1).toNat = k + 1 := by omega
          have eT := hTn k p2
          have hsb := sumK_bd kh pl k hj
          have hkl : k < 200 := by omega
          have kj := keep hj
          clear hj
          repeat' (first | (with_reducible first | refine awp_seq ?_ | refine awp_blockS ?_ | refine awp_blockC ?_ | refine awp_blockR ?_ | refine awp_skip ?_ | refine awp_ret ?_ | refine awp_exit ?_ | refine awp_region ?_ | refine awp_regionD (id := 2) 13 mixed (by decide +kernel) ?_ | refine awp_regionD (id := 23) 25 mixed (by decide +kernel) ?_ | refine awp_regionD (id := 30) 15 mixed (by decide +kernel) ?_ | refine awp_condM ?_ | refine And.intro ?_ ?_ | refine gM_splitN ?_ ?_ | refine gM_split ?_ ?_ | refine condM_splitDN ?_ ?_ | refine condM_splitD ?_ ?_ | refine condM_splitN ?_ ?_ | refine condM_split ?_ ?_ | refine condM_any ?_ ?_ | intro _) | (simp [*, hlti, p2, p1, eT, hTl]))
          all_goals try omega
          refine awp_for3 (fun (j : Nat) => j ≤ n.roads.length) [2, 3, 4, 6, 11, 12, 13, 14, 67, 68, 69, 75, 76] (fun (j : Nat) => [(15, .w false false (.int .i64 (minK n.roads (nth pl k) (nth pl (k + 1)) j))), (77, .w false false (.int .i64 j))]) [0, 1, 2, 3, 5] (fun (j : Nat) => []) (fun (j : Nat) => n.roads.length - j) (fun (_u : Unit) => True) [2, 3, 4, 6, 11, 12, 67, 68, 69] (fun (_u : Unit) => [(15, .w false false (.int .i64 (minS n (nth pl k) (nth pl (k + 1)))))]) [0, 1, 2, 3, 5] (fun (_u : Unit) => []) (0) (Nat.zero_le _) (by simp) (by simp) (fun j hk => ?_) (fun _u hf => ?_)
          · by_cases hjt : j < n.roads.length
            · have hmet := (kh.road j hjt).met
              have hmb := minK_bd kh (nth pl k) (nth pl (k + 1)) j (by omega)
              have em : minK n.roads (nth pl k) (nth pl (k + 1)) (j + 1) = minStep (nth n.roads j) (nth pl k) (nth pl (k + 1)) (minK n.roads (nth pl k) (nth pl (k + 1)) j) := rfl
              generalize hr : nth n.roads j = r at *
              generalize hb : minK n.roads (nth pl k) (nth pl (k + 1)) j = best at *
              by_cases c1 : r.frm = nth pl k
              · by_cases c2 : r.to = nth pl (k + 1)
                · by_cases c3 : best = -1
                  · rw [min_take c1 c2 (.inl (by omega))] at em
                    have kem := keep em
                    clear em
                    repeat' (first | (with_reducible first | refine awp_seq ?_ | refine awp_blockS ?_ | refine awp_blockC ?_ | refine awp_blockR ?_ | refine awp_skip ?_ | refine awp_ret ?_ | refine awp_exit ?_ | refine awp_region ?_ | refine awp_regionD (id := 2) 13 mixed (by decide +kernel) ?_ | refine awp_regionD (id := 23) 25 mixed (by decide +kernel) ?_ | refine awp_regionD (id := 30) 15 mixed (by decide +kernel) ?_ | refine awp_condM ?_ | refine And.intro ?_ ?_ | refine gM_splitN ?_ ?_ | refine gM_split ?_ ?_ | refine condM_splitDN ?_ ?_ | refine condM_splitD ?_ ?_ | refine condM_splitN ?_ ?_ | refine condM_split ?_ ?_ | refine condM_any ?_ ?_ | intro _) | (simp [*, hjt, hr, cRoad, c1, c2, c3, hlti, q1, p1, hlt]))
                    all_goals first
                      | exact inI64 (by omega) (by omega)
                      | omega
                      | (rw [keep_def] at kem; (refine loopK_normal _ _ _ _ _ (j + 1) _ ?_ (by first | omega | (dsimp only; omega) | (simp; omega)) ?_; (· omega); (refine le_of ?_ ?_ <;> first | trivial | (simp [*, kem]; done))))
                      | skip
                  · by_cases c4 : r.metres < best
                    · rw [min_take c1 c2 (.inr c4)] at em
                      have kem := keep em
                      clear em
                      repeat' (first | (with_reducible first | refine awp_seq ?_ | refine awp_blockS ?_ | refine awp_blockC ?_ | refine awp_blockR ?_ | refine awp_skip ?_ | refine awp_ret ?_ | refine awp_exit ?_ | refine awp_region ?_ | refine awp_regionD (id := 2) 13 mixed (by decide +kernel) ?_ | refine awp_regionD (id := 23) 25 mixed (by decide +kernel) ?_ | refine awp_regionD (id := 30) 15 mixed (by decide +kernel) ?_ | refine awp_condM ?_ | refine And.intro ?_ ?_ | refine gM_splitN ?_ ?_ | refine gM_split ?_ ?_ | refine condM_splitDN ?_ ?_ | refine condM_splitD ?_ ?_ | refine condM_splitN ?_ ?_ | refine condM_split ?_ ?_ | refine condM_any ?_ ?_ | intro _) | (simp [*, hjt, hr, cRoad, c1, c2, c3, c4, hlti, q1, p1, hlt]))
                      all_goals first
                        | exact inI64 (by omega) (by omega)
                        | omega
                        | (rw [keep_def] at kem; (refine loopK_normal _ _ _ _ _ (j + 1) _ ?_ (by first | omega | (dsimp only; omega) | (simp; omega)) ?_; (· omega); (refine le_of ?_ ?_ <;> first | trivial | (simp [*, kem]; done))))
                        | skip
                    · rw [min_keep (fun h => by rcases h.2.2 with h | h <;> omega)] at em
                      have kem := keep em
                      clear em
                      repeat' (first | (with_reducible first | refine awp_seq ?_ | refine awp_blockS ?_ | refine awp_blockC ?_ | refine awp_blockR ?_ | refine awp_skip ?_ | refine awp_ret ?_ | refine awp_exit ?_ | refine awp_region ?_ | refine awp_regionD (id := 2) 13 mixed (by decide +kernel) ?_ | refine awp_regionD (id := 23) 25 mixed (by decide +kernel) ?_ | refine awp_regionD (id := 30) 15 mixed (by decide +kernel) ?_ | refine awp_condM ?_ | refine And.intro ?_ ?_ | refine gM_splitN ?_ ?_ | refine gM_split ?_ ?_ | refine condM_splitDN ?_ ?_ | refine condM_splitD ?_ ?_ | refine condM_splitN ?_ ?_ | refine condM_split ?_ ?_ | refine condM_any ?_ ?_ | intro _) | (simp [*, hjt, hr, cRoad, c1, c2, c3, c4, hlti, q1, p1, hlt]))
                      all_goals first
                        | exact inI64 (by omega) (by omega)
                        | omega
                        | (rw [keep_def] at kem; (refine loopK_normal _ _ _ _ _ (j + 1) _ ?_ (by first | omega | (dsimp only; omega) | (simp; omega)) ?_; (· omega); (refine le_of ?_ ?_ <;> first | trivial | (simp [*, kem]; done))))
                        | skip
                · rw [min_keep (fun h => c2 h.2.1)] at em
                  have kem := keep em
                  clear em
                  repeat' (first | (with_reducible first | refine awp_seq ?_ | refine awp_blockS ?_ | refine awp_blockC ?_ | refine awp_blockR ?_ | refine awp_skip ?_ | refine awp_ret ?_ | refine awp_exit ?_ | refine awp_region ?_ | refine awp_regionD (id := 2) 13 mixed (by decide +kernel) ?_ | refine awp_regionD (id := 23) 25 mixed (by decide +kernel) ?_ | refine awp_regionD (id := 30) 15 mixed (by decide +kernel) ?_ | refine awp_condM ?_ | refine And.intro ?_ ?_ | refine gM_splitN ?_ ?_ | refine gM_split ?_ ?_ | refine condM_splitDN ?_ ?_ | refine condM_splitD ?_ ?_ | refine condM_splitN ?_ ?_ | refine condM_split ?_ ?_ | refine condM_any ?_ ?_ | intro _) | (simp [*, hjt, hr, cRoad, c1, c2, hlti, q1, p1, hlt]))
                  all_goals first
                    | exact inI64 (by omega) (by omega)
                    | omega
                    | (rw [keep_def] at kem; (refine loopK_normal _ _ _ _ _ (j + 1) _ ?_ (by first | omega | (dsimp only; omega) | (simp; omega)) ?_; (· omega); (refine le_of ?_ ?_ <;> first | trivial | (simp [*, kem]; done))))
                    | skip
              · rw [min_keep (fun h => c1 h.1)] at em
                have kem := keep em
                clear em
                repeat' (first | (with_reducible first | refine awp_seq ?_ | refine awp_blockS ?_ | refine awp_blockC ?_ | refine awp_blockR ?_ | refine awp_skip ?_ | refine awp_ret ?_ | refine awp_exit ?_ | refine awp_region ?_ | refine awp_regionD (id := 2) 13 mixed (by decide +kernel) ?_ | refine awp_regionD (id := 23) 25 mixed (by decide +kernel) ?_ | refine awp_regionD (id := 30) 15 mixed (by decide +kernel) ?_ | refine awp_condM ?_ | refine And.intro ?_ ?_ | refine gM_splitN ?_ ?_ | refine gM_split ?_ ?_ | refine condM_splitDN ?_ ?_ | refine condM_splitD ?_ ?_ | refine condM_splitN ?_ ?_ | refine condM_split ?_ ?_ | refine condM_any ?_ ?_ | intro _) | (simp [*, hjt, hr, cRoad, c1, hlti, q1, p1, hlt]))
                all_goals first
                  | exact inI64 (by omega) (by omega)
                  | omega
                  | (rw [keep_def] at kem; (refine loopK_normal _ _ _ _ _ (j + 1) _ ?_ (by first | omega | (dsimp only; omega) | (simp; omega)) ?_; (· omega); (refine le_of ?_ ?_ <;> first | trivial | (simp [*, kem]; done))))
                  | skip
            · have hje : j = n.roads.length := by omega
              subst hje
              have em : minK n.roads (nth pl k) (nth pl (k + 1)) n.roads.length = minS n (nth pl k) (nth pl (k + 1)) := rfl
              repeat' (first | (with_reducible first | refine awp_seq ?_ | refine awp_blockS ?_ | refine awp_blockC ?_ | refine awp_blockR ?_ | refine awp_skip ?_ | refine awp_ret ?_ | refine awp_exit ?_ | refine awp_region ?_ | refine awp_regionD (id := 2) 13 mixed (by decide +kernel) ?_ | refine awp_regionD (id := 23) 25 mixed (by decide +kernel) ?_ | refine awp_regionD (id := 30) 15 mixed (by decide +kernel) ?_ | refine awp_condM ?_ | refine And.intro ?_ ?_ | refine gM_splitN ?_ ?_ | refine gM_split ?_ ?_ | refine condM_splitDN ?_ ?_ | refine condM_splitD ?_ ?_ | refine condM_splitN ?_ ?_ | refine condM_split ?_ ?_ | refine condM_any ?_ ?_ | intro _) | (simp [*]))
              all_goals (refine finW_intro () ?_ ?_; (· trivial); (refine le_of ?_ ?_ <;> first | trivial | (simp [*, em]; done)))
          · have hmb : minS n (nth pl k) (nth pl (k + 1)) = -1 ∨ (0 ≤ minS n (nth pl k) (nth pl (k + 1)) ∧ minS n (nth pl k) (nth pl (k + 1)) ≤ 100000) := minK_bd kh _ _ _ (Nat.le_refl _)
            have es : sumK n pl (k + 1) = sumK n pl k + minS n (nth pl k) (nth pl (k + 1)) := rfl
            have eh : holeB n pl (k + 1) = (holeB n pl k || decide (minS n (nth pl k) (nth pl (k + 1)) = -1)) := rfl
            generalize hms : minS n (nth pl k) (nth pl (k + 1)) = ms at *
            rw [keep_def] at kj
            rw [kj, Bool.false_or] at eh
            by_cases hx : ms = -1
            · rw [decide_eq_true (by omega)] at eh
              have hh := hole_mono eh (pl.length - 1) (by omega)
              rw [keep_def, if_pos hh] at kR2
              subst kR2
              clear eh es hh kj
              repeat' (first | (with_reducible first | refine awp_seq ?_ | refine awp_blockS ?_ | refine awp_blockC ?_ | refine awp_blockR ?_ | refine awp_skip ?_ | refine awp_ret ?_ | refine awp_exit ?_ | refine awp_region ?_ | refine awp_regionD (id := 2) 13 mixed (by decide +kernel) ?_ | refine awp_regionD (id := 23) 25 mixed (by decide +kernel) ?_ | refine awp_regionD (id := 30) 15 mixed (by decide +kernel) ?_ | refine awp_condM ?_ | refine And.intro ?_ ?_ | refine gM_splitN ?_ ?_ | refine gM_split ?_ ?_ | refine condM_splitDN ?_ ?_ | refine condM_splitD ?_ ?_ | refine condM_splitN ?_ ?_ | refine condM_split ?_ ?_ | refine condM_any ?_ ?_ | intro _) | (simp [*, hx]))
              all_goals try omega
            · rw [decide_eq_false (by omega)] at eh
              have kk := keep (And.intro eh es)
              clear eh es kj
              repeat' (first | (with_reducible first | refine awp_seq ?_ | refine awp_blockS ?_ | refine awp_blockC ?_ | refine awp_blockR ?_ | refine awp_skip ?_ | refine awp_ret ?_ | refine awp_exit ?_ | refine awp_region ?_ | refine awp_regionD (id := 2) 13 mixed (by decide +kernel) ?_ | refine awp_regionD (id := 23) 25 mixed (by decide +kernel) ?_ | refine awp_regionD (id := 30) 15 mixed (by decide +kernel) ?_ | refine awp_condM ?_ | refine And.intro ?_ ?_ | refine gM_splitN ?_ ?_ | refine gM_split ?_ ?_ | refine condM_splitDN ?_ ?_ | refine condM_splitD ?_ ?_ | refine condM_splitN ?_ ?_ | refine condM_split ?_ ?_ | refine condM_any ?_ ?_ | intro _) | (simp [*, hx]))
              all_goals first
                | exact inI64 (by omega) (by omega)
                | omega
                | skip
              obtain ⟨eh, es⟩ := kk
              (refine loopK_normal _ _ _ _ _ (k + 1) _ ?_ (by first | omega | (dsimp only; omega) | (simp; omega)) ?_; (· exact ⟨by omega, eh⟩); (refine le_of ?_ ?_ <;> first | trivial | (simp [*, es]; done)))
        · have p2 : ¬ k < pl.length - 1 := by omega
          have hke : pl.length - 1 = k := by omega
          have kj := keep hj
          clear hj
          repeat' (first | (with_reducible first | refine awp_seq ?_ | refine awp_blockS ?_ | refine awp_blockC ?_ | refine awp_blockR ?_ | refine awp_skip ?_ | refine awp_ret ?_ | refine awp_exit ?_ | refine awp_region ?_ | refine awp_regionD (id := 2) 13 mixed (by decide +kernel) ?_ | refine awp_regionD (id := 23) 25 mixed (by decide +kernel) ?_ | refine awp_regionD (id := 30) 15 mixed (by decide +kernel) ?_ | refine awp_condM ?_ | refine And.intro ?_ ?_ | refine gM_splitN ?_ ?_ | refine gM_split ?_ ?_ | refine condM_splitDN ?_ ?_ | refine condM_splitD ?_ ?_ | refine condM_splitN ?_ ?_ | refine condM_split ?_ ?_ | refine condM_any ?_ ?_ | intro _) | (simp [*, p2, hTl]))
          all_goals first
            | omega
            | (refine finW_intro () ?_ ?_; (· first | exact kj | (rw [hke]; exact kj)); (refine le_of ?_ ?_ <;> first | trivial | (simp [*, hke]; done)))
      · rw [keep_def, if_neg (by rw [hf]; decide)] at kR2
        have hsb := sumK_bd kh pl (pl.length - 1) hf
        clear hf
        have p0 := hpl 0 (by omega)
        have p1 := hpl (pl.length - 1) (by omega)
        obtain ⟨a, ha⟩ : ∃ a : Nat, nth pl 0 = a := ⟨(nth pl 0).toNat, by omega⟩
        obtain ⟨b, hb⟩ : ∃ b : Nat, nth pl (pl.length - 1) = b := ⟨(nth pl (pl.length - 1)).toNat, by omega⟩
        have la : a < n.places.length := by omega
        have lb : b < n.places.length := by omega
        have ch : RealCall Try.prog 103 [.agg [.sl n.places.length (strs n.places), .sl n.roads.length (cRoads n.roads)], .int .i64 a] (treeP n (growS fLen n a 0)) true := heights_c n kh a la
        have hi := growS_inv kh (along_len kh) la (Int.le_refl 0) (by omega)
        have hl0 := hi.ll
        have hsm := hi.small kh lb
        rw [ha, hb, Int.toNat_natCast, Int.toNat_natCast] at kR2
        clear hi
        have hl1 : nth (growS fLen n a 0).l b < 6000000 ∧ -1 ≤ nth (growS fLen n a 0).l b := by omega
        have hmb : -(6000000 * 2000) ≤ nth (growS fLen n a 0).l b * (1000 + more) ∧ nth (growS fLen n a 0).l b * (1000 + more) ≤ 6000000 * 2000 := mul_bd 6000000 2000 (by omega) (by omega) (by omega) (by omega)
        rw [Int.mul_comm (nth (growS fLen n a 0).l b) (1000 + more)] at hmb
        have z0 : 0 < pl.length := by omega
        have z1 : pl.length - 1 < pl.length := by omega
        generalize growS fLen n a 0 = G at *
        generalize sumK n pl (pl.length - 1) = S at *
        unfold treeP at ch
        subst kR2
        repeat' (first | (with_reducible first | refine awp_seq ?_ | refine awp_blockS ?_ | refine awp_blockC ?_ | refine awp_blockR ?_ | refine awp_skip ?_ | refine awp_ret ?_ | refine awp_exit ?_ | refine awp_region ?_ | refine awp_regionD (id := 2) 13 mixed (by decide +kernel) ?_ | refine awp_regionD (id := 23) 25 mixed (by decide +kernel) ?_ | refine awp_regionD (id := 30) 15 mixed (by decide +kernel) ?_ | refine awp_condM ?_ | refine And.intro ?_ ?_ | refine gM_splitN ?_ ?_ | refine gM_split ?_ ?_ | refine condM_splitDN ?_ ?_ | refine condM_splitD ?_ ?_ | refine condM_splitN ?_ ?_ | refine condM_split ?_ ?_ | refine condM_any ?_ ?_ | refine cw (ch) ?_ | intro _) | (simp [*, z0, z1, z2, hb, hl0, lb]))
        all_goals first
          | exact inI64 (by omega) (by omega)
          | omega
          | skip
end Go.Proofs.Ytmedbghkldmlhaa
