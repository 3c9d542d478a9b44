/- Contracts of functions for this claim: lemmas alone. -/
import Derived.Test.YtmedbghkldmlhaaP36
set_option linter.unusedSimpArgs false
set_option linter.unusedVariables false
namespace Go.Proofs.Ytmedbghkldmlhaa
open Go Go.Fi

theorem metS_drop (n : Net) (w : List Int) (k : Nat) (h : k < w.length) : metS n (w.drop k) = (nth n.roads (nth w k).toNat).metres + metS n (w.drop (k + 1)) := by
  rw [drop_nth w k h]; rfl
set_option maxHeartbeats 4000000 in
theorem rMetresOf_c (n : Net) (h : NetOk n) (w : List Int) (hw : WayOk n w) (hl : w.length ≤ 200) :
    RealCall Try.prog 46 [aNet n, .sl w.length (ints w)] (.int .i64 (metS n w)) true := by
  have hnr := h.nr
  generalize hR : metS n w = R
  have kh := keep (And.intro h hw.idx)
  clear h hw
  unfold aNet cNet
  refine realcall_intro Try.func46 (by kernel_rfl) rfl (Nat.le_of_ble_eq_true (by kernel_rfl)) ?_
  simp only [Try.results46, Try.ntmps46]
  repeat' (first | (with_reducible first | refine awp_seq ?_ | refine awp_blockS ?_ | refine awp_blockC ?_ | refine awp_blockR ?_ | refine awp_skip ?_ | refine awp_ret ?_ | refine awp_exit ?_ | refine awp_region ?_ | refine awp_regionD (id := 5) 11 mixed (by decide +kernel) ?_ | refine awp_condM ?_ | refine And.intro ?_ ?_ | refine gM_splitN ?_ ?_ | refine gM_split ?_ ?_ | refine condM_splitDN ?_ ?_ | refine condM_splitD ?_ ?_ | refine condM_splitN ?_ ?_ | refine condM_split ?_ ?_ | refine condM_any ?_ ?_ | intro _) | (simp [*]))
  refine awp_for3 (fun (x : Nat × Int) => x.1 ≤ w.length ∧ 0 ≤ x.2 ∧ x.2 ≤ 100000 * x.1 ∧ x.2 + metS n (w.drop x.1) = R) [1, 2] (fun (x : Nat × Int) => [(5, .w false false (.int .i64 x.2)), (6, .w false false (.int .i64 x.1))]) [0] (fun (x : Nat × Int) => []) (fun (x : Nat × Int) => w.length - x.1) (fun (_u : Unit) => True) [] (fun (_u : Unit) => [(5, .w false false (.int .i64 R))]) [] (fun (_u : Unit) => []) (((0 : Nat), (0 : Int))) ⟨Nat.zero_le _, Int.le_refl _, by simp, by simpa using hR⟩ (by simp) (by simp) (fun x hk => ?_) (fun _u hf => ?_)
  · obtain ⟨k, v⟩ := x
    obtain ⟨hk, hv0, hv1, hj⟩ := hk
    dsimp only at hk hv0 hv1 hj ⊢
    by_cases hlt : k < w.length
    · rw [metS_drop _ _ _ hlt] at hj
      have hx := kh.2 k hlt
      have q1 : (nth w k).toNat < n.roads.length := by omega
      have hr := (kh.1.road _ q1).met
      clear hR
      have kj : Keep (v + (nth n.roads (nth w k).toNat).metres + metS n (w.drop (k + 1)) = R) := by rw [← hj, keep_def]; omega
      clear hj
      repeat' (first | (with_reducible first | refine awp_seq ?_ | refine awp_blockS ?_ | refine awp_blockC ?_ | refine awp_blockR ?_ | refine awp_skip ?_ | refine awp_ret ?_ | refine awp_exit ?_ | refine awp_region ?_ | refine awp_regionD (id := 5) 11 mixed (by decide +kernel) ?_ | refine awp_condM ?_ | refine And.intro ?_ ?_ | refine gM_splitN ?_ ?_ | refine gM_split ?_ ?_ | refine condM_splitDN ?_ ?_ | refine condM_splitD ?_ ?_ | refine condM_splitN ?_ ?_ | refine condM_split ?_ ?_ | refine condM_any ?_ ?_ | intro _) | (simp [*, hlt, q1]))
      all_goals first
        | exact inI64 (by omega) (by omega)
        | omega
        | (refine loopK_normal _ _ _ _ _ (k + 1, v + (nth n.roads (nth w k).toNat).metres) _ ?_ (by first | omega | (dsimp only; omega) | (simp; omega)) ?_; (· exact ⟨by dsimp only; omega, by dsimp only; omega, by dsimp only; omega, kj⟩); (refine le_of ?_ ?_ <;> first | trivial | (simp [*]; done)))
        | skip
    · have hke : k = w.length := by omega
      subst hke
      rw [List.drop_length] at hj
      have hj : v + 0 = R := hj
      rw [Int.add_zero] at hj
      subst hj
      repeat' (first | (with_reducible first | refine awp_seq ?_ | refine awp_blockS ?_ | refine awp_blockC ?_ | refine awp_blockR ?_ | refine awp_skip ?_ | refine awp_ret ?_ | refine awp_exit ?_ | refine awp_region ?_ | refine awp_regionD (id := 5) 11 mixed (by decide +kernel) ?_ | refine awp_condM ?_ | refine And.intro ?_ ?_ | refine gM_splitN ?_ ?_ | refine gM_split ?_ ?_ | refine condM_splitDN ?_ ?_ | refine condM_splitD ?_ ?_ | refine condM_splitN ?_ ?_ | refine condM_split ?_ ?_ | refine condM_any ?_ ?_ | intro _) | (simp [*]))
      (refine finW_intro () ?_ ?_; (· trivial); (refine le_of ?_ ?_ <;> first | trivial | (simp [*]; done)))
  · repeat' (first | (with_reducible first | refine awp_seq ?_ | refine awp_blockS ?_ | refine awp_blockC ?_ | refine awp_blockR ?_ | refine awp_skip ?_ | refine awp_ret ?_ | refine awp_exit ?_ | refine awp_region ?_ | refine awp_regionD (id := 5) 11 mixed (by decide +kernel) ?_ | refine awp_condM ?_ | refine And.intro ?_ ?_ | refine gM_splitN ?_ ?_ | refine gM_split ?_ ?_ | refine condM_splitDN ?_ ?_ | refine condM_splitD ?_ ?_ | refine condM_splitN ?_ ?_ | refine condM_split ?_ ?_ | refine condM_any ?_ ?_ | intro _) | (simp [*]))
set_option maxHeartbeats 4000000 in
theorem metresOf_c (n : Net) (h : NetIn n) (w : List Int) (hl : w.length < 1000) :
    RealCall Try.prog 45 [aNet n, .sl w.length (ints w)] (.tup [.int .i64 (metE n w).1, .int .i64 (metE n w).2]) true := by
  have co := openWay_c n h w hl
  unfold metE owE at *
  by_cases he : (netS n).2.2 = 0
  · have hok := net_ok h he
    rw [if_neg (by simp [he])] at co ⊢
    by_cases hwe : (wayS n w).2.2 = 0
    · have hwo := way_ok hwe
      have hl := way_len hwe
      rw [if_neg (by simp [hwe])]
      rw [hwe] at co
      have hnr := hok.nr
      generalize hR : metS n w = R
      have kh := keep (And.intro hok hwo.idx)
      clear h hok hwo hwe he
      unfold aNet cNet at *
      refine realcall_intro Try.func45 (by kernel_rfl) rfl (Nat.le_of_ble_eq_true (by kernel_rfl)) ?_
      simp only [Try.results45, Try.ntmps45]
      repeat' (first | (with_reducible first | refine awp_seq ?_ | refine awp_blockS ?_ | refine awp_blockC ?_ | refine awp_blockR ?_ | refine awp_skip ?_ | refine awp_ret ?_ | refine awp_exit ?_ | refine awp_region ?_ | refine awp_condM ?_ | refine And.intro ?_ ?_ | refine gM_splitN ?_ ?_ | refine gM_split ?_ ?_ | refine condM_splitDN ?_ ?_ | refine condM_splitD ?_ ?_ | refine condM_splitN ?_ ?_ | refine condM_split ?_ ?_ | refine condM_any ?_ ?_ | refine cw (co) ?_ | intro _) | (simp [*]))
      all_goals try omega
      refine awp_for3 (fun (x : Nat × Int) => x.1 ≤ w.length ∧ 0 ≤ x.2 ∧ x.2 ≤ 100000 * x.1 ∧ x.2 + metS n (w.drop x.1) = R) [6, 20, 21] (fun (x : Nat × Int) => [(8, .w false false (.int .i64 x.2)), (22, .w false false (.int .i64 x.1))]) [1] (fun (x : Nat × Int) => []) (fun (x : Nat × Int) => w.length - x.1) (fun (_u : Unit) => True) [] (fun (_u : Unit) => [(8, .w false false (.int .i64 R))]) [] (fun (_u : Unit) => []) (((0 : Nat), (0 : Int))) ⟨Nat.zero_le _, Int.le_refl _, by simp, by simpa using hR⟩ (by simp) (by simp) (fun x hk => ?_) (fun _u hf => ?_)
      · obtain ⟨k, v⟩ := x
        obtain ⟨hk, hv0, hv1, hj⟩ := hk
        dsimp only at hk hv0 hv1 hj ⊢
        by_cases hlt : k < w.length
        · rw [metS_drop _ _ _ hlt] at hj
          have hx := kh.2 k hlt
          have q1 : (nth w k).toNat < n.roads.length := by omega
          have hr := (kh.1.road _ q1).met
          clear hR
          have kj : Keep (v + (nth n.roads (nth w k).toNat).metres + metS n (w.drop (k + 1)) = R) := by rw [← hj, keep_def]; omega
          clear hj
          repeat' (first | (with_reducible first | refine awp_seq ?_ | refine awp_blockS ?_ | refine awp_blockC ?_ | refine awp_blockR ?_ | refine awp_skip ?_ | refine awp_ret ?_ | refine awp_exit ?_ | refine awp_region ?_ | refine awp_condM ?_ | refine And.intro ?_ ?_ | refine gM_splitN ?_ ?_ | refine gM_split ?_ ?_ | refine condM_splitDN ?_ ?_ | refine condM_splitD ?_ ?_ | refine condM_splitN ?_ ?_ | refine condM_split ?_ ?_ | refine condM_any ?_ ?_ | intro _) | (simp [*, hlt, q1]))
          all_goals first
            | exact inI64 (by omega) (by omega)
            | omega
            | (refine loopK_normal _ _ _ _ _ (k + 1, v + (nth n.roads (nth w k).toNat).metres) _ ?_ (by first | omega | (dsimp only; omega) | (simp; omega)) ?_; (· exact ⟨by dsimp only; omega, by dsimp only; omega, by dsimp only; omega, kj⟩); (refine le_of ?_ ?_ <;> first | trivial | (simp [*]; done)))
            | skip
        · have hke : k = w.length := by omega
          subst hke
          rw [List.drop_length] at hj
          have hj : v + 0 = R := hj
          rw [Int.add_zero] at hj
          subst hj
          repeat' (first | (with_reducible first | refine awp_seq ?_ | refine awp_blockS ?_ | refine awp_blockC ?_ | refine awp_blockR ?_ | refine awp_skip ?_ | refine awp_ret ?_ | refine awp_exit ?_ | refine awp_region ?_ | refine awp_condM ?_ | refine And.intro ?_ ?_ | refine gM_splitN ?_ ?_ | refine gM_split ?_ ?_ | refine condM_splitDN ?_ ?_ | refine condM_splitD ?_ ?_ | refine condM_splitN ?_ ?_ | refine condM_split ?_ ?_ | refine condM_any ?_ ?_ | intro _) | (simp [*]))
          (refine finW_intro () ?_ ?_; (· trivial); (refine le_of ?_ ?_ <;> first | trivial | (simp [*]; done)))
      · repeat' (first | (with_reducible first | refine awp_seq ?_ | refine awp_blockS ?_ | refine awp_blockC ?_ | refine awp_blockR ?_ | refine awp_skip ?_ | refine awp_ret ?_ | refine awp_exit ?_ | refine awp_region ?_ | refine awp_condM ?_ | refine And.intro ?_ ?_ | refine gM_splitN ?_ ?_ | refine gM_split ?_ ?_ | refine condM_splitDN ?_ ?_ | refine condM_splitD ?_ ?_ | refine condM_splitN ?_ ?_ | refine condM_split ?_ ?_ | refine condM_any ?_ ?_ | intro _) | (simp [*]))
    · rw [if_pos hwe]
      unfold aNet cNet at *
      clear hok h
      refine realcall_intro Try.func45 (by kernel_rfl) rfl (Nat.le_of_ble_eq_true (by kernel_rfl)) ?_
      simp only [Try.results45, Try.ntmps45]
      repeat' (first | (with_reducible first | refine awp_seq ?_ | refine awp_blockS ?_ | refine awp_blockC ?_ | refine awp_blockR ?_ | refine awp_skip ?_ | refine awp_ret ?_ | refine awp_exit ?_ | refine awp_region ?_ | refine awp_condM ?_ | refine And.intro ?_ ?_ | refine gM_splitN ?_ ?_ | refine gM_split ?_ ?_ | refine condM_splitDN ?_ ?_ | refine condM_splitD ?_ ?_ | refine condM_splitN ?_ ?_ | refine condM_split ?_ ?_ | refine condM_any ?_ ?_ | refine cw (co) ?_ | intro _) | (simp [*, hwe]))
  · rw [if_pos he] at co ⊢
    unfold aNet cNet at *
    clear h
    refine realcall_intro Try.func45 (by kernel_rfl) rfl (Nat.le_of_ble_eq_true (by kernel_rfl)) ?_
    simp only [Try.results45, Try.ntmps45]
    repeat' (first | (with_reducible first | refine awp_seq ?_ | refine awp_blockS ?_ | refine awp_blockC ?_ | refine awp_blockR ?_ | refine awp_skip ?_ | refine awp_ret ?_ | refine awp_exit ?_ | refine awp_region ?_ | refine awp_condM ?_ | refine And.intro ?_ ?_ | refine gM_splitN ?_ ?_ | refine gM_split ?_ ?_ | refine condM_splitDN ?_ ?_ | refine condM_splitD ?_ ?_ | refine condM_splitN ?_ ?_ | refine condM_split ?_ ?_ | refine condM_any ?_ ?_ | refine cw (co) ?_ | intro _) | (simp [*, he]))
end Go.Proofs.Ytmedbghkldmlhaa
