/- Contracts of functions for this claim: lemmas alone. -/
import Derived.Test.YtfpamehamllndaaGreatDoorP21
set_option linter.unusedSimpArgs false
set_option linter.unusedVariables false
namespace Go.Proofs.YtfpamehamllndaaGreatDoor
open Go Go.Fi

/-- texts, and networks, that are the same are told the same -/
theorem texts_c (l : List ByteArray) (h : l.length < 100000) : RealCall Tryz.prog 31 [.sl l.length (strs l), .sl l.length (strs l)] (.bool true) true := by
  refine realcall_intro Tryz.func31 (by kernel_rfl) rfl (Nat.le_of_ble_eq_true (by kernel_rfl)) ?_
  simp only [Tryz.results31, Tryz.ntmps31]
  repeat' (first | (with_reducible first | refine awp_seq ?_ | refine awp_skip ?_ | refine awp_region ?_ | refine awp_condM ?_ | intro _) | (simp [*]))
  refine awp_for3 (fun (k : Nat) => k ≤ l.length) [0, 1] (fun (k : Nat) => [(5, .w false false (.int .i64 k))]) [] (fun (k : Nat) => []) (fun (k : Nat) => l.length - k) (fun (_u : Unit) => True) [] (fun (_u : Unit) => []) [] (fun (_u : Unit) => []) (0) (Nat.zero_le _) (by simp) (by simp) (fun k hk => ?_) (fun _u hf => ?_)
  · by_cases hlt : k < l.length
    · repeat' (first | (with_reducible first | refine awp_seq ?_ | refine awp_blockS ?_ | refine awp_skip ?_ | refine awp_region ?_ | refine awp_regionD (id := 6) 9 mixed (by decide +kernel) ?_ | refine awp_condM ?_ | refine And.intro ?_ ?_ | intro _) | (simp [*, hlt]))
      all_goals first
        | exact inI64 (by omega) (by omega)
        | omega
        | (refine loopK_normal _ _ _ _ _ (k + 1) _ ?_ (by first | omega | (dsimp only; omega) | (simp; omega)) ?_; (· omega); (refine le_of ?_ ?_ <;> first | trivial | (simp [*]; done)))
        | skip
    · have hke : k = l.length := by omega
      subst hke
      repeat' (first | (with_reducible first | refine awp_seq ?_ | refine awp_exit ?_ | refine awp_region ?_ | refine awp_condM ?_ | intro _) | (simp [*]))
      (refine finW_intro () ?_ ?_; (· trivial); (refine le_of ?_ ?_ <;> first | trivial | (simp [*]; done)))
  · repeat' (first | (with_reducible first | refine awp_seq ?_ | refine awp_ret ?_ | refine awp_region ?_ | intro _) | (simp [*]))
set_option maxHeartbeats 4000000 in
theorem same_c (n : Net) (h : NetIn n) : RealCall Tryz.prog 10 [aNet n, aNet n] (.bool true) true := by
  have ct := texts_c n.places (by have := h.np; omega)
  have hnr := h.nr
  have hrp := keep h.rp
  clear h
  unfold aNet cNet
  refine realcall_intro Tryz.func10 (by kernel_rfl) rfl (Nat.le_of_ble_eq_true (by kernel_rfl)) ?_
  simp only [Tryz.results10, Tryz.ntmps10]
  repeat' (first | (with_reducible first | refine awp_seq ?_ | refine awp_skip ?_ | refine awp_region ?_ | refine awp_condM ?_ | refine And.intro ?_ ?_ | refine cw (ct) ?_ | intro _) | (simp [*]))
  refine awp_for3 (fun (k : Nat) => k ≤ n.roads.length) [2, 3] (fun (k : Nat) => [(5, .w false false (.int .i64 k))]) [1, 0] (fun (k : Nat) => []) (fun (k : Nat) => n.roads.length - k) (fun (_u : Unit) => True) [] (fun (_u : Unit) => []) [] (fun (_u : Unit) => []) (0) (Nat.zero_le _) (by simp) (by simp) (fun k hk => ?_) (fun _u hf => ?_)
  · by_cases hlt : k < n.roads.length
    · have hp := hrp k hlt
      generalize hr : nth n.roads k = r at *
      repeat' (first | (with_reducible first | refine awp_seq ?_ | refine awp_blockS ?_ | refine awp_skip ?_ | refine awp_region ?_ | refine awp_regionS (id := 6) [0, 1, 2, 3, 4, 5, 6, 7, 8, 9, 10, 11] [12, 13] [[], [], [], [], [], [.new 0], [.new 0], [.new 0], [.new 0], [.new 0], [], []] [[.new 0], [.new 1]] mixed (by decide +kernel) ?_ | refine awp_condM ?_ | refine And.intro ?_ ?_ | intro _) | (simp [*, hlt, hr, cRoad]))
      all_goals try omega
      refine awp_for3 (fun (j : Nat) => j ≤ r.pts.length) [2, 3, 5, 6, 7] (fun (j : Nat) => [(8, .w false false (.int .i64 j))]) [3, 2, 1, 0] (fun (j : Nat) => []) (fun (j : Nat) => r.pts.length - j) (fun (_u : Unit) => True) [2, 3, 5] (fun (_u : Unit) => []) [1, 0] (fun (_u : Unit) => []) (0) (Nat.zero_le _) (by simp) (by simp) (fun j hk => ?_) (fun _u hf => ?_)
      · by_cases hj : j < r.pts.length
        · repeat' (first | (with_reducible first | refine awp_seq ?_ | refine awp_blockS ?_ | refine awp_skip ?_ | refine awp_region ?_ | refine awp_regionD (id := 12) 11 mixed (by decide +kernel) ?_ | refine awp_condM ?_ | refine And.intro ?_ ?_ | intro _) | (simp [*, hj]))
          all_goals first
            | exact inI64 (by omega) (by omega)
            | omega
            | (refine loopK_normal _ _ _ _ _ (j + 1) _ ?_ (by first | omega | (dsimp only; omega) | (simp; omega)) ?_; (· omega); (refine le_of ?_ ?_ <;> first | trivial | (simp [*]; done)))
            | skip
        · have hje : j = r.pts.length := by omega
          subst hje
          repeat' (first | (with_reducible first | refine awp_seq ?_ | refine awp_exit ?_ | refine awp_region ?_ | refine awp_condM ?_ | intro _) | (simp [*]))
          (refine finW_intro () ?_ ?_; (· trivial); (refine le_of ?_ ?_ <;> first | trivial | (simp [*]; done)))
      · repeat' (first | (with_reducible first | refine awp_region ?_ | refine And.intro ?_ ?_ | intro _) | (simp [*]))
        all_goals first
          | exact inI64 (by omega) (by omega)
          | (refine loopK_normal _ _ _ _ _ (k + 1) _ ?_ (by first | omega | (dsimp only; omega) | (simp; omega)) ?_; (· omega); (refine le_of ?_ ?_ <;> first | trivial | (simp [*]; done)))
          | skip
    · have hke : k = n.roads.length := by omega
      subst hke
      repeat' (first | (with_reducible first | refine awp_seq ?_ | refine awp_exit ?_ | refine awp_region ?_ | refine awp_condM ?_ | intro _) | (simp [*]))
      (refine finW_intro () ?_ ?_; (· trivial); (refine le_of ?_ ?_ <;> first | trivial | (simp [*]; done)))
  · repeat' (first | (with_reducible first | refine awp_seq ?_ | refine awp_ret ?_ | refine awp_region ?_ | intro _) | (simp [*]))
end Go.Proofs.YtfpamehamllndaaGreatDoor

