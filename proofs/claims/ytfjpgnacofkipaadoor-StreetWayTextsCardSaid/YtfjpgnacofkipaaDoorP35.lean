/- Contracts of functions for this claim: lemmas alone. -/
import Derived.Test.YtfjpgnacofkipaaDoorP33
set_option linter.unusedSimpArgs false
set_option linter.unusedVariables false
namespace Go.Proofs.YtfjpgnacofkipaaDoor
open Go Go.Fi

theorem fWay_bad {n : Net} {w : List Int} {k : Nat} (h : winB (nth w k) 0 (n.roads.length - 1) = false) : fWay n w k = some ((k : Int), 0, 6) := if_pos h
theorem fWay_zero {n : Net} {w : List Int} (h : winB (nth w 0) 0 (n.roads.length - 1) = true) : fWay n w 0 = none := by
  unfold fWay; rw [h, if_neg (by decide), if_neg (by simp)]
theorem fWay_join {n : Net} {w : List Int} {k : Nat} (h : winB (nth w k) 0 (n.roads.length - 1) = true) (he : (nth n.roads (nth w k).toNat).frm = (nth n.roads (nth w (k - 1)).toNat).to) : fWay n w k = none := by
  unfold fWay; rw [h, if_neg (by decide), if_neg (by simp [he])]
theorem fWay_open {n : Net} {w : List Int} {k : Nat} (h : winB (nth w k) 0 (n.roads.length - 1) = true) (hk : 0 < k) (he : (nth n.roads (nth w k).toNat).frm ≠ (nth n.roads (nth w (k - 1)).toNat).to) : fWay n w k = some ((k : Int), 0, 23) := by
  unfold fWay; rw [h, if_neg (by decide), if_pos ⟨hk, he⟩]
def okW (n : Net) (w : List Int) (k : Nat) : Prop := ∀ i, i < k → 0 ≤ nth w i ∧ nth w i < n.roads.length
set_option maxHeartbeats 4000000 in
theorem rWayErr_c (n : Net) (h : NetIn n) (w : List Int) (hw : w.length < 1000) : RealCall Tryd.prog 14 [aNet n, .sl w.length (ints w)] (.tup [.int .i64 (wayS n w).1, .int .i64 (wayS n w).2.2]) true := by
  have ci := fun i => rIsRoad_c n i h.nr
  have hnr := h.nr
  generalize hS : wayS n w = S
  unfold aNet cNet at *
  by_cases hl : 200 < w.length
  · have e : S = (0, 0, 8) := by rw [← hS]; exact if_pos hl
    subst e
    clear hS
    refine realcall_intro Tryd.func14 (by kernel_rfl) rfl (Nat.le_of_ble_eq_true (by kernel_rfl)) ?_
    simp only [Tryd.results14, Tryd.ntmps14]
    repeat' (first | (with_reducible first | refine awp_seq ?_ | refine awp_blockS ?_ | refine awp_blockC ?_ | refine awp_blockR ?_ | refine awp_skip ?_ | refine awp_ret ?_ | refine awp_exit ?_ | refine awp_region ?_ | refine awp_regionD (id := 6) 7 mixed (by decide +kernel) ?_ | refine awp_regionD (id := 8) 24 mixed (by decide +kernel) ?_ | refine awp_condM ?_ | refine And.intro ?_ ?_ | refine gE_splitN ?_ ?_ | refine gE_split ?_ ?_ | refine gQ_splitN ?_ ?_ | refine gQ_split ?_ ?_ | refine gM_splitN ?_ ?_ | refine gM_split ?_ ?_ | refine condM_splitDN ?_ ?_ | refine condM_splitD ?_ ?_ | refine condM_splitN ?_ ?_ | refine condM_split ?_ ?_ | refine condM_any ?_ ?_ | intro _) | (simp [*, hl]))
    all_goals try omega
  · have e : fin (scan (fWay n w) w.length 0) (0, 0, 0) = S := by rw [← hS]; exact (if_neg hl).symm
    clear hS
    refine realcall_intro Tryd.func14 (by kernel_rfl) rfl (Nat.le_of_ble_eq_true (by kernel_rfl)) ?_
    simp only [Tryd.results14, Tryd.ntmps14]
    repeat' (first | (with_reducible first | refine awp_seq ?_ | refine awp_blockS ?_ | refine awp_blockC ?_ | refine awp_blockR ?_ | refine awp_skip ?_ | refine awp_ret ?_ | refine awp_exit ?_ | refine awp_region ?_ | refine awp_regionD (id := 6) 7 mixed (by decide +kernel) ?_ | refine awp_regionD (id := 8) 24 mixed (by decide +kernel) ?_ | refine awp_condM ?_ | refine And.intro ?_ ?_ | refine gE_splitN ?_ ?_ | refine gE_split ?_ ?_ | refine gQ_splitN ?_ ?_ | refine gQ_split ?_ ?_ | refine gM_splitN ?_ ?_ | refine gM_split ?_ ?_ | refine condM_splitDN ?_ ?_ | refine condM_splitD ?_ ?_ | refine condM_splitN ?_ ?_ | refine condM_split ?_ ?_ | refine condM_any ?_ ?_ | intro _) | (simp [*, hl]))
    all_goals try omega
    refine awp_for3 (fun (k : Nat) => k ≤ w.length ∧ okW n w k ∧ fin (scan (fWay n w) (w.length - k) k) (0, 0, 0) = S) [1, 2] (fun (k : Nat) => [(6, .w false false (.int .i64 k))]) [0] (fun (k : Nat) => []) (fun (k : Nat) => w.length - k) (fun (_u : Unit) => S = (0, 0, 0)) [] (fun (_u : Unit) => []) [] (fun (_u : Unit) => []) (0) ⟨Nat.zero_le _, fun i hi => absurd hi (Nat.not_lt_zero i), e⟩ (by simp) (by simp) (fun k hk => ?_) (fun _u hf => ?_)
    · obtain ⟨hk, ho, hj⟩ := hk
      by_cases hlt : k < w.length
      · cases hwi : winB (nth w k) 0 (n.roads.length - 1) with
        | false =>
          rw [scan_hit hlt (fWay_bad hwi)] at hj
          have hj : ((k : Int), 0, 6) = S := hj
          subst hj
          have c1 := ci (nth w k)
          rw [hwi] at c1
          clear ci ho e
          repeat' (first | (with_reducible first | refine awp_seq ?_ | refine awp_blockS ?_ | refine awp_blockC ?_ | refine awp_blockR ?_ | refine awp_skip ?_ | refine awp_ret ?_ | refine awp_exit ?_ | refine awp_region ?_ | refine awp_regionD (id := 6) 7 mixed (by decide +kernel) ?_ | refine awp_regionD (id := 8) 24 mixed (by decide +kernel) ?_ | refine awp_condM ?_ | refine And.intro ?_ ?_ | refine gE_splitN ?_ ?_ | refine gE_split ?_ ?_ | refine gQ_splitN ?_ ?_ | refine gQ_split ?_ ?_ | refine gM_splitN ?_ ?_ | refine gM_split ?_ ?_ | refine condM_splitDN ?_ ?_ | refine condM_splitD ?_ ?_ | refine condM_splitN ?_ ?_ | refine condM_split ?_ ?_ | refine condM_any ?_ ?_ | refine cw (c1) ?_ | intro _) | (simp [*, hlt]))
        | true =>
          have c1 := ci (nth w k)
          rw [hwi] at c1
          have hw1 := win_of hwi
          have q1 : (nth w k).toNat < n.roads.length := by omega
          have ho' : okW n w (k + 1) := fun i hi => by
            by_cases he : i = k
            · subst he; omega
            · exact ho i (by omega)
          by_cases hk0 : k = 0
          · subst hk0
            rw [scan_miss hlt (fWay_zero hwi)] at hj
            have kj := keep (And.intro ho' hj)
            clear ci e ho ho' hj hwi
            repeat' (first | (with_reducible first | refine awp_seq ?_ | refine awp_blockS ?_ | refine awp_blockC ?_ | refine awp_blockR ?_ | refine awp_skip ?_ | refine awp_ret ?_ | refine awp_exit ?_ | refine awp_region ?_ | refine awp_regionD (id := 6) 7 mixed (by decide +kernel) ?_ | refine awp_regionD (id := 8) 24 mixed (by decide +kernel) ?_ | refine awp_condM ?_ | refine And.intro ?_ ?_ | refine gE_splitN ?_ ?_ | refine gE_split ?_ ?_ | refine gQ_splitN ?_ ?_ | refine gQ_split ?_ ?_ | refine gM_splitN ?_ ?_ | refine gM_split ?_ ?_ | refine condM_splitDN ?_ ?_ | refine condM_splitD ?_ ?_ | refine condM_splitN ?_ ?_ | refine condM_split ?_ ?_ | refine condM_any ?_ ?_ | refine cw (c1) ?_ | intro _) | (simp [*, hlt, q1]))
            all_goals first
              | exact inI64 (by omega) (by omega)
              | omega
              | (refine loopK_normal _ _ _ _ _ (1 : Nat) _ ?_ (by first | omega | (dsimp only; omega) | (simp; omega)) ?_; (· exact ⟨by omega, kj.1, kj.2⟩); (refine le_of ?_ ?_ <;> first | trivial | (simp [*]; done)))
              | skip
          · have hkp : 0 < k := by omega
            have hk1 : ((k : Int) - 1).toNat = k - 1 := by omega
            have hkm : k - 1 < w.length := by omega
            have hwp := ho (k - 1) (by omega)
            have q2 : (nth w (k - 1)).toNat < n.roads.length := by omega
            by_cases he : (nth n.roads (nth w k).toNat).frm = (nth n.roads (nth w (k - 1)).toNat).to
            · rw [scan_miss hlt (fWay_join hwi he)] at hj
              have kj := keep (And.intro ho' hj)
              clear ci e ho ho' hj hwi
              repeat' (first | (with_reducible first | refine awp_seq ?_ | refine awp_blockS ?_ | refine awp_blockC ?_ | refine awp_blockR ?_ | refine awp_skip ?_ | refine awp_ret ?_ | refine awp_exit ?_ | refine awp_region ?_ | refine awp_regionD (id := 6) 7 mixed (by decide +kernel) ?_ | refine awp_regionD (id := 8) 24 mixed (by decide +kernel) ?_ | refine awp_condM ?_ | refine And.intro ?_ ?_ | refine gE_splitN ?_ ?_ | refine gE_split ?_ ?_ | refine gQ_splitN ?_ ?_ | refine gQ_split ?_ ?_ | refine gM_splitN ?_ ?_ | refine gM_split ?_ ?_ | refine condM_splitDN ?_ ?_ | refine condM_splitD ?_ ?_ | refine condM_splitN ?_ ?_ | refine condM_split ?_ ?_ | refine condM_any ?_ ?_ | refine cw (c1) ?_ | intro _) | (simp [*, hlt, q1, q2, hk1, hkm, hkp, he]))
              all_goals first
                | exact inI64 (by omega) (by omega)
                | omega
                | (refine loopK_normal _ _ _ _ _ (k + 1) _ ?_ (by first | omega | (dsimp only; omega) | (simp; omega)) ?_; (· exact ⟨by omega, kj.1, kj.2⟩); (refine le_of ?_ ?_ <;> first | trivial | (simp [*]; done)))
                | skip
            · rw [scan_hit hlt (fWay_open hwi (by omega) he)] at hj
              have hj : ((k : Int), 0, 23) = S := hj
              subst hj
              clear ci e ho ho' hwi
              repeat' (first | (with_reducible first | refine awp_seq ?_ | refine awp_blockS ?_ | refine awp_blockC ?_ | refine awp_blockR ?_ | refine awp_skip ?_ | refine awp_ret ?_ | refine awp_exit ?_ | refine awp_region ?_ | refine awp_regionD (id := 6) 7 mixed (by decide +kernel) ?_ | refine awp_regionD (id := 8) 24 mixed (by decide +kernel) ?_ | refine awp_condM ?_ | refine And.intro ?_ ?_ | refine gE_splitN ?_ ?_ | refine gE_split ?_ ?_ | refine gQ_splitN ?_ ?_ | refine gQ_split ?_ ?_ | refine gM_splitN ?_ ?_ | refine gM_split ?_ ?_ | refine condM_splitDN ?_ ?_ | refine condM_splitD ?_ ?_ | refine condM_splitN ?_ ?_ | refine condM_split ?_ ?_ | refine condM_any ?_ ?_ | refine cw (c1) ?_ | intro _) | (simp [*, hlt, q1, q2, hk1, hkm, hkp, he]))
              all_goals first
                | exact inI64 (by omega) (by omega)
                | omega
                | skip
      · rw [scan_end _ (by omega)] at hj
        have hke : k = w.length := by omega
        subst hke
        repeat' (first | (with_reducible first | refine awp_seq ?_ | refine awp_blockS ?_ | refine awp_blockC ?_ | refine awp_blockR ?_ | refine awp_skip ?_ | refine awp_ret ?_ | refine awp_exit ?_ | refine awp_region ?_ | refine awp_regionD (id := 6) 7 mixed (by decide +kernel) ?_ | refine awp_regionD (id := 8) 24 mixed (by decide +kernel) ?_ | refine awp_condM ?_ | refine And.intro ?_ ?_ | refine gE_splitN ?_ ?_ | refine gE_split ?_ ?_ | refine gQ_splitN ?_ ?_ | refine gQ_split ?_ ?_ | refine gM_splitN ?_ ?_ | refine gM_split ?_ ?_ | refine condM_splitDN ?_ ?_ | refine condM_splitD ?_ ?_ | refine condM_splitN ?_ ?_ | refine condM_split ?_ ?_ | refine condM_any ?_ ?_ | intro _) | (simp [*]))
        (refine finW_intro () ?_ ?_; (· exact hj.symm); (refine le_of ?_ ?_ <;> first | trivial | (simp [*]; done)))
    · subst hf
      repeat' (first | (with_reducible first | refine awp_seq ?_ | refine awp_blockS ?_ | refine awp_blockC ?_ | refine awp_blockR ?_ | refine awp_skip ?_ | refine awp_ret ?_ | refine awp_exit ?_ | refine awp_region ?_ | refine awp_regionD (id := 6) 7 mixed (by decide +kernel) ?_ | refine awp_regionD (id := 8) 24 mixed (by decide +kernel) ?_ | refine awp_condM ?_ | refine And.intro ?_ ?_ | refine gE_splitN ?_ ?_ | refine gE_split ?_ ?_ | refine gQ_splitN ?_ ?_ | refine gQ_split ?_ ?_ | refine gM_splitN ?_ ?_ | refine gM_split ?_ ?_ | refine condM_splitDN ?_ ?_ | refine condM_splitD ?_ ?_ | refine condM_splitN ?_ ?_ | refine condM_split ?_ ?_ | refine condM_any ?_ ?_ | intro _) | (simp [*]))
set_option maxHeartbeats 4000000 in
theorem wayErr_c (n : Net) (h : NetIn n) (w : List Int) (hw : w.length < 1000) : RealCall Tryd.prog 29 [aNet n, .sl w.length (ints w)] (.tup [.int .i64 (wayS n w).1, .int .i64 (wayS n w).2.2]) true := by
  have ci := fun i => roadErr_c n i h.nr
  have hnr := h.nr
  generalize hS : wayS n w = S
  unfold aNet cNet at *
  by_cases hl : 200 < w.length
  · have e : S = (0, 0, 8) := by rw [← hS]; exact if_pos hl
    subst e
    clear hS
    refine realcall_intro Tryd.func29 (by kernel_rfl) rfl (Nat.le_of_ble_eq_true (by kernel_rfl)) ?_
    simp only [Tryd.results29, Tryd.ntmps29]
    repeat' (first | (with_reducible first | refine awp_seq ?_ | refine awp_blockS ?_ | refine awp_blockC ?_ | refine awp_blockR ?_ | refine awp_skip ?_ | refine awp_ret ?_ | refine awp_exit ?_ | refine awp_region ?_ | refine awp_regionD (id := 9) 23 mixed (by decide +kernel) ?_ | refine awp_condM ?_ | refine And.intro ?_ ?_ | refine gE_splitN ?_ ?_ | refine gE_split ?_ ?_ | refine gQ_splitN ?_ ?_ | refine gQ_split ?_ ?_ | refine gM_splitN ?_ ?_ | refine gM_split ?_ ?_ | refine condM_splitDN ?_ ?_ | refine condM_splitD ?_ ?_ | refine condM_splitN ?_ ?_ | refine condM_split ?_ ?_ | refine condM_any ?_ ?_ | intro _) | (simp [*, hl]))
    all_goals try omega
  · have e : fin (scan (fWay n w) w.length 0) (0, 0, 0) = S := by rw [← hS]; exact (if_neg hl).symm
    clear hS
    refine realcall_intro Tryd.func29 (by kernel_rfl) rfl (Nat.le_of_ble_eq_true (by kernel_rfl)) ?_
    simp only [Tryd.results29, Tryd.ntmps29]
    repeat' (first | (with_reducible first | refine awp_seq ?_ | refine awp_blockS ?_ | refine awp_blockC ?_ | refine awp_blockR ?_ | refine awp_skip ?_ | refine awp_ret ?_ | refine awp_exit ?_ | refine awp_region ?_ | refine awp_regionD (id := 9) 23 mixed (by decide +kernel) ?_ | refine awp_condM ?_ | refine And.intro ?_ ?_ | refine gE_splitN ?_ ?_ | refine gE_split ?_ ?_ | refine gQ_splitN ?_ ?_ | refine gQ_split ?_ ?_ | refine gM_splitN ?_ ?_ | refine gM_split ?_ ?_ | refine condM_splitDN ?_ ?_ | refine condM_splitD ?_ ?_ | refine condM_splitN ?_ ?_ | refine condM_split ?_ ?_ | refine condM_any ?_ ?_ | intro _) | (simp [*, hl]))
    all_goals try omega
    refine awp_for3 (fun (k : Nat) => k ≤ w.length ∧ okW n w k ∧ fin (scan (fWay n w) (w.length - k) k) (0, 0, 0) = S) [1, 2, 12, 13] (fun (k : Nat) => [(14, .w false false (.int .i64 k))]) [0] (fun (k : Nat) => []) (fun (k : Nat) => w.length - k) (fun (_u : Unit) => S = (0, 0, 0)) [] (fun (_u : Unit) => []) [] (fun (_u : Unit) => []) (0) ⟨Nat.zero_le _, fun i hi => absurd hi (Nat.not_lt_zero i), e⟩ (by simp) (by simp) (fun k hk => ?_) (fun _u hf => ?_)
    · obtain ⟨hk, ho, hj⟩ := hk
      by_cases hlt : k < w.length
      · cases hwi : winB (nth w k) 0 (n.roads.length - 1) with
        | false =>
          rw [scan_hit hlt (fWay_bad hwi)] at hj
          have hj : ((k : Int), 0, 6) = S := hj
          subst hj
          have c1 := ci (nth w k)
          rw [hwi] at c1
          clear ci ho e
          repeat' (first | (with_reducible first | refine awp_seq ?_ | refine awp_blockS ?_ | refine awp_blockC ?_ | refine awp_blockR ?_ | refine awp_skip ?_ | refine awp_ret ?_ | refine awp_exit ?_ | refine awp_region ?_ | refine awp_regionD (id := 9) 23 mixed (by decide +kernel) ?_ | refine awp_condM ?_ | refine And.intro ?_ ?_ | refine gE_splitN ?_ ?_ | refine gE_split ?_ ?_ | refine gQ_splitN ?_ ?_ | refine gQ_split ?_ ?_ | refine gM_splitN ?_ ?_ | refine gM_split ?_ ?_ | refine condM_splitDN ?_ ?_ | refine condM_splitD ?_ ?_ | refine condM_splitN ?_ ?_ | refine condM_split ?_ ?_ | refine condM_any ?_ ?_ | refine cw (c1) ?_ | intro _) | (simp [*, hlt, errUnless]))
        | true =>
          have c1 := ci (nth w k)
          rw [hwi] at c1
          have hw1 := win_of hwi
          have q1 : (nth w k).toNat < n.roads.length := by omega
          have ho' : okW n w (k + 1) := fun i hi => by
            by_cases he : i = k
            · subst he; omega
            · exact ho i (by omega)
          by_cases hk0 : k = 0
          · subst hk0
            rw [scan_miss hlt (fWay_zero hwi)] at hj
            have kj := keep (And.intro ho' hj)
            clear ci e ho ho' hj hwi
            repeat' (first | (with_reducible first | refine awp_seq ?_ | refine awp_blockS ?_ | refine awp_blockC ?_ | refine awp_blockR ?_ | refine awp_skip ?_ | refine awp_ret ?_ | refine awp_exit ?_ | refine awp_region ?_ | refine awp_regionD (id := 9) 23 mixed (by decide +kernel) ?_ | refine awp_condM ?_ | refine And.intro ?_ ?_ | refine gE_splitN ?_ ?_ | refine gE_split ?_ ?_ | refine gQ_splitN ?_ ?_ | refine gQ_split ?_ ?_ | refine gM_splitN ?_ ?_ | refine gM_split ?_ ?_ | refine condM_splitDN ?_ ?_ | refine condM_splitD ?_ ?_ | refine condM_splitN ?_ ?_ | refine condM_split ?_ ?_ | refine condM_any ?_ ?_ | refine cw (c1) ?_ | intro _) | (simp [*, hlt, q1, errUnless]))
            all_goals first
              | exact inI64 (by omega) (by omega)
              | omega
              | (refine loopK_normal _ _ _ _ _ (1 : Nat) _ ?_ (by first | omega | (dsimp only; omega) | (simp; omega)) ?_; (· exact ⟨by omega, kj.1, kj.2⟩); (refine le_of ?_ ?_ <;> first | trivial | (simp [*]; done)))
              | skip
          · have hkp : 0 < k := by omega
            have hk1 : ((k : Int) - 1).toNat = k - 1 := by omega
            have hkm : k - 1 < w.length := by omega
            have hwp := ho (k - 1) (by omega)
            have q2 : (nth w (k - 1)).toNat < n.roads.length := by omega
            by_cases he : (nth n.roads (nth w k).toNat).frm = (nth n.roads (nth w (k - 1)).toNat).to
            · rw [scan_miss hlt (fWay_join hwi he)] at hj
              have kj := keep (And.intro ho' hj)
              clear ci e ho ho' hj hwi
              repeat' (first | (with_reducible first | refine awp_seq ?_ | refine awp_blockS ?_ | refine awp_blockC ?_ | refine awp_blockR ?_ | refine awp_skip ?_ | refine awp_ret ?_ | refine awp_exit ?_ | refine awp_region ?_ | refine awp_regionD (id := 9) 23 mixed (by decide +kernel) ?_ | refine awp_condM ?_ | refine And.intro ?_ ?_ | refine gE_splitN ?_ ?_ | refine gE_split ?_ ?_ | refine gQ_splitN ?_ ?_ | refine gQ_split ?_ ?_ | refine gM_splitN ?_ ?_ | refine gM_split ?_ ?_ | refine condM_splitDN ?_ ?_ | refine condM_splitD ?_ ?_ | refine condM_splitN ?_ ?_ | refine condM_split ?_ ?_ | refine condM_any ?_ ?_ | refine cw (c1) ?_ | intro _) | (simp [*, hlt, q1, q2, hk1, hkm, hkp, he, errUnless]))
              all_goals first
                | exact inI64 (by omega) (by omega)
                | omega
                | (refine loopK_normal _ _ _ _ _ (k + 1) _ ?_ (by first | omega | (dsimp only; omega) | (simp; omega)) ?_; (· exact ⟨by omega, kj.1, kj.2⟩); (refine le_of ?_ ?_ <;> first | trivial | (simp [*]; done)))
                | skip
            · rw [scan_hit hlt (fWay_open hwi (by omega) he)] at hj
              have hj : ((k : Int), 0, 23) = S := hj
              subst hj
              clear ci e ho ho' hwi
              repeat' (first | (with_reducible first | refine awp_seq ?_ | refine awp_blockS ?_ | refine awp_blockC ?_ | refine awp_blockR ?_ | refine awp_skip ?_ | refine awp_ret ?_ | refine awp_exit ?_ | refine awp_region ?_ | refine awp_regionD (id := 9) 23 mixed (by decide +kernel) ?_ | refine awp_condM ?_ | refine And.intro ?_ ?_ | refine gE_splitN ?_ ?_ | refine gE_split ?_ ?_ | refine gQ_splitN ?_ ?_ | refine gQ_split ?_ ?_ | refine gM_splitN ?_ ?_ | refine gM_split ?_ ?_ | refine condM_splitDN ?_ ?_ | refine condM_splitD ?_ ?_ | refine condM_splitN ?_ ?_ | refine condM_split ?_ ?_ | refine condM_any ?_ ?_ | refine cw (c1) ?_ | intro _) | (simp [*, hlt, q1, q2, hk1, hkm, hkp, he, errUnless]))
              all_goals first
                | exact inI64 (by omega) (by omega)
                | omega
                | skip
      · rw [scan_end _ (by omega)] at hj
        have hke : k = w.length := by omega
        subst hke
        repeat' (first | (with_reducible first | refine awp_seq ?_ | refine awp_blockS ?_ | refine awp_blockC ?_ | refine awp_blockR ?_ | refine awp_skip ?_ | refine awp_ret ?_ | refine awp_exit ?_ | refine awp_region ?_ | refine awp_regionD (id := 9) 23 mixed (by decide +kernel) ?_ | refine awp_condM ?_ | refine And.intro ?_ ?_ | refine gE_splitN ?_ ?_ | refine gE_split ?_ ?_ | refine gQ_splitN ?_ ?_ | refine gQ_split ?_ ?_ | refine gM_splitN ?_ ?_ | refine gM_split ?_ ?_ | refine condM_splitDN ?_ ?_ | refine condM_splitD ?_ ?_ | refine condM_splitN ?_ ?_ | refine condM_split ?_ ?_ | refine condM_any ?_ ?_ | intro _) | (simp [*]))
        (refine finW_intro () ?_ ?_; (· exact hj.symm); (refine le_of ?_ ?_ <;> first | trivial | (simp [*]; done)))
    · subst hf
      repeat' (first | (with_reducible first | refine awp_seq ?_ | refine awp_blockS ?_ | refine awp_blockC ?_ | refine awp_blockR ?_ | refine awp_skip ?_ | refine awp_ret ?_ | refine awp_exit ?_ | refine awp_region ?_ | refine awp_regionD (id := 9) 23 mixed (by decide +kernel) ?_ | refine awp_condM ?_ | refine And.intro ?_ ?_ | refine gE_splitN ?_ ?_ | refine gE_split ?_ ?_ | refine gQ_splitN ?_ ?_ | refine gQ_split ?_ ?_ | refine gM_splitN ?_ ?_ | refine gM_split ?_ ?_ | refine condM_splitDN ?_ ?_ | refine condM_splitD ?_ ?_ | refine condM_splitN ?_ ?_ | refine condM_split ?_ ?_ | refine condM_any ?_ ?_ | intro _) | (simp [*]))
@[simp] theorem ints_one (l : List Int) : (ints l).all oneP = true := by simp [ints, oneP]
theorem copyInts_c (l : List Int) (h : l.length < 100000) : RealCall Tryd.prog 9 [.sl l.length (ints l)] (.sl l.length (ints l)) true := by
  refine realcall_intro Tryd.func9 (by kernel_rfl) rfl (Nat.le_of_ble_eq_true (by kernel_rfl)) ?_
  simp only [Tryd.results9, Tryd.ntmps9]
  repeat' (first | (with_reducible first | refine awp_seq ?_ | refine awp_blockS ?_ | refine awp_blockC ?_ | refine awp_blockR ?_ | refine awp_skip ?_ | refine awp_ret ?_ | refine awp_exit ?_ | refine awp_region ?_ | refine awp_condM ?_ | refine And.intro ?_ ?_ | refine gE_splitN ?_ ?_ | refine gE_split ?_ ?_ | refine gQ_splitN ?_ ?_ | refine gQ_split ?_ ?_ | refine gM_splitN ?_ ?_ | refine gM_split ?_ ?_ | refine condM_splitDN ?_ ?_ | refine condM_splitD ?_ ?_ | refine condM_splitN ?_ ?_ | refine condM_split ?_ ?_ | refine condM_any ?_ ?_ | intro _) | (simp [*]))
  all_goals try omega
theorem short_c (w : List Int) : RealCall Tryd.prog 6 [.sl w.length (ints w)] (.bool (decide (w.length ≤ 12 ∨ 200 < w.length ∧ w.length ≤ 202))) true := by
  by_cases h1 : w.length ≤ 12
  · rw [decide_eq_true (.inl h1)]
    refine realcall_intro Tryd.func6 (by kernel_rfl) rfl (Nat.le_of_ble_eq_true (by kernel_rfl)) ?_
    simp only [Tryd.results6, Tryd.ntmps6]
    repeat' (first | (with_reducible first | refine awp_seq ?_ | refine awp_blockS ?_ | refine awp_blockC ?_ | refine awp_blockR ?_ | refine awp_skip ?_ | refine awp_ret ?_ | refine awp_exit ?_ | refine awp_region ?_ | refine awp_condM ?_ | refine And.intro ?_ ?_ | refine gE_splitDN ?_ ?_ | refine gE_splitD ?_ ?_ | refine gQ_splitDN ?_ ?_ | refine gQ_splitD ?_ ?_ | refine gM_splitDN ?_ ?_ | refine gM_splitD ?_ ?_ | refine gE_splitN ?_ ?_ | refine gE_split ?_ ?_ | refine gQ_splitN ?_ ?_ | refine gQ_split ?_ ?_ | refine gM_splitN ?_ ?_ | refine gM_split ?_ ?_ | refine condM_splitDN ?_ ?_ | refine condM_splitD ?_ ?_ | refine condM_splitN ?_ ?_ | refine condM_split ?_ ?_ | refine condM_any ?_ ?_ | intro _) | (simp [*, h1]))
    all_goals try omega
  · by_cases h2 : 200 < w.length
    · by_cases h3 : w.length ≤ 202
      · rw [decide_eq_true (.inr ⟨h2, h3⟩)]
        refine realcall_intro Tryd.func6 (by kernel_rfl) rfl (Nat.le_of_ble_eq_true (by kernel_rfl)) ?_
        simp only [Tryd.results6, Tryd.ntmps6]
        repeat' (first | (with_reducible first | refine awp_seq ?_ | refine awp_blockS ?_ | refine awp_blockC ?_ | refine awp_blockR ?_ | refine awp_skip ?_ | refine awp_ret ?_ | refine awp_exit ?_ | refine awp_region ?_ | refine awp_condM ?_ | refine And.intro ?_ ?_ | refine gE_splitDN ?_ ?_ | refine gE_splitD ?_ ?_ | refine gQ_splitDN ?_ ?_ | refine gQ_splitD ?_ ?_ | refine gM_splitDN ?_ ?_ | refine gM_splitD ?_ ?_ | refine gE_splitN ?_ ?_ | refine gE_split ?_ ?_ | refine gQ_splitN ?_ ?_ | refine gQ_split ?_ ?_ | refine gM_splitN ?_ ?_ | refine gM_split ?_ ?_ | refine condM_splitDN ?_ ?_ | refine condM_splitD ?_ ?_ | refine condM_splitN ?_ ?_ | refine condM_split ?_ ?_ | refine condM_any ?_ ?_ | intro _) | (simp [*, h1, h2, h3]))
        all_goals try omega
      · rw [decide_eq_false (by omega)]
        refine realcall_intro Tryd.func6 (by kernel_rfl) rfl (Nat.le_of_ble_eq_true (by kernel_rfl)) ?_
        simp only [Tryd.results6, Tryd.ntmps6]
        repeat' (first | (with_reducible first | refine awp_seq ?_ | refine awp_blockS ?_ | refine awp_blockC ?_ | refine awp_blockR ?_ | refine awp_skip ?_ | refine awp_ret ?_ | refine awp_exit ?_ | refine awp_region ?_ | refine awp_condM ?_ | refine And.intro ?_ ?_ | refine gE_splitDN ?_ ?_ | refine gE_splitD ?_ ?_ | refine gQ_splitDN ?_ ?_ | refine gQ_splitD ?_ ?_ | refine gM_splitDN ?_ ?_ | refine gM_splitD ?_ ?_ | refine gE_splitN ?_ ?_ | refine gE_split ?_ ?_ | refine gQ_splitN ?_ ?_ | refine gQ_split ?_ ?_ | refine gM_splitN ?_ ?_ | refine gM_split ?_ ?_ | refine condM_splitDN ?_ ?_ | refine condM_splitD ?_ ?_ | refine condM_splitN ?_ ?_ | refine condM_split ?_ ?_ | refine condM_any ?_ ?_ | intro _) | (simp [*, h1, h2, h3]))
        all_goals try omega
    · rw [decide_eq_false (by omega)]
      refine realcall_intro Tryd.func6 (by kernel_rfl) rfl (Nat.le_of_ble_eq_true (by kernel_rfl)) ?_
      simp only [Tryd.results6, Tryd.ntmps6]
      repeat' (first | (with_reducible first | refine awp_seq ?_ | refine awp_blockS ?_ | refine awp_blockC ?_ | refine awp_blockR ?_ | refine awp_skip ?_ | refine awp_ret ?_ | refine awp_exit ?_ | refine awp_region ?_ | refine awp_condM ?_ | refine And.intro ?_ ?_ | refine gE_splitDN ?_ ?_ | refine gE_splitD ?_ ?_ | refine gQ_splitDN ?_ ?_ | refine gQ_splitD ?_ ?_ | refine gM_splitDN ?_ ?_ | refine gM_splitD ?_ ?_ | refine gE_splitN ?_ ?_ | refine gE_split ?_ ?_ | refine gQ_splitN ?_ ?_ | refine gQ_split ?_ ?_ | refine gM_splitN ?_ ?_ | refine gM_split ?_ ?_ | refine condM_splitDN ?_ ?_ | refine condM_splitD ?_ ?_ | refine condM_splitN ?_ ?_ | refine condM_split ?_ ?_ | refine condM_any ?_ ?_ | intro _) | (simp [*, h1, h2]))
      all_goals try omega
end Go.Proofs.YtfjpgnacofkipaaDoor
namespace Go.Proofs.YtfjpgnacofkipaaDoor
open Go Go.Fi

/-- ways are walked: what one arrives with, and how long they are -/
def owE (n : Net) (w : List Int) : Int := if (netS n).2.2 ≠ 0 then (netS n).2.2 else (wayS n w).2.2
theorem openWay_c (n : Net) (h : NetIn n) (w : List Int) (hw : w.length < 1000) : RealCall Tryd.prog 21 [aNet n, .sl w.length (ints w)] (.tup [aNet n, .int .i64 (owE n w)]) false := by
  have co := open_c n h
  have cw1 := wayErr_c n h w hw
  unfold owE
  unfold aNet cNet at *
  by_cases he : (netS n).2.2 = 0
  · rw [if_neg (by simp [he])]
    rw [he] at co
    refine realcall_intro Tryd.func21 (by kernel_rfl) rfl (Nat.le_of_ble_eq_true (by kernel_rfl)) ?_
    simp only [Tryd.results21, Tryd.ntmps21]
    repeat' (first | (with_reducible first | refine awp_seq ?_ | refine awp_blockS ?_ | refine awp_blockC ?_ | refine awp_blockR ?_ | refine awp_skip ?_ | refine awp_ret ?_ | refine awp_exit ?_ | refine awp_region ?_ | refine awp_condM ?_ | refine And.intro ?_ ?_ | refine gE_splitN ?_ ?_ | refine gE_split ?_ ?_ | refine gQ_splitN ?_ ?_ | refine gQ_split ?_ ?_ | refine gM_splitN ?_ ?_ | refine gM_split ?_ ?_ | refine condM_splitDN ?_ ?_ | refine condM_splitD ?_ ?_ | refine condM_splitN ?_ ?_ | refine condM_split ?_ ?_ | refine condM_any ?_ ?_ | refine cw (co) ?_ | refine cw (cw1) ?_ | intro _) | (simp [*]))
  · rw [if_pos he]
    refine realcall_intro Tryd.func21 (by kernel_rfl) rfl (Nat.le_of_ble_eq_true (by kernel_rfl)) ?_
    simp only [Tryd.results21, Tryd.ntmps21]
    repeat' (first | (with_reducible first | refine awp_seq ?_ | refine awp_blockS ?_ | refine awp_blockC ?_ | refine awp_blockR ?_ | refine awp_skip ?_ | refine awp_ret ?_ | refine awp_exit ?_ | refine awp_region ?_ | refine awp_condM ?_ | refine And.intro ?_ ?_ | refine gE_splitN ?_ ?_ | refine gE_split ?_ ?_ | refine gQ_splitN ?_ ?_ | refine gQ_split ?_ ?_ | refine gM_splitN ?_ ?_ | refine gM_split ?_ ?_ | refine condM_splitDN ?_ ?_ | refine condM_splitD ?_ ?_ | refine condM_splitN ?_ ?_ | refine condM_split ?_ ?_ | refine condM_any ?_ ?_ | refine cw (co) ?_ | refine cw (cw1) ?_ | intro _) | (simp [*, he]))
end Go.Proofs.YtfjpgnacofkipaaDoor

