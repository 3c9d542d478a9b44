/- Contracts of functions for this claim: lemmas alone. -/
import Derived.Test.YtdgbfbgnbgfmjaaGreatDoorP19
set_option linter.unusedSimpArgs false
set_option linter.unusedVariables false
namespace Go.Proofs.YtdgbfbgnbgfmjaaGreatDoor
open Go Go.Fi
set_option maxRecDepth 20000

/-! ### any rule -/
def hasAll (l : List Acc) (r : Rule) : Prop := ∀ k, k < 5 → hasS l (nth (five r) k) = true
def apart (r : Rule) : Prop := ∀ k, k < 5 → Lib.containsS ((five r).take k) (nth (five r) k) = false
open Classical in
noncomputable def ruleS (l : List Acc) (r : Rule) : Int := if (accsS l).2 = 0 then (if hasAll l r then (if apart r then shareE (sharesOf r) else 26) else 6) else (accsS l).2
theorem ruleS_bad {l : List Acc} (r : Rule) (h : ¬ (accsS l).2 = 0) : ruleS l r = (accsS l).2 := if_neg h
theorem ruleS_miss {l : List Acc} {r : Rule} (h : (accsS l).2 = 0) (k : Nat) (hk : k < 5) (h1 : hasS l (nth (five r) k) = false) : ruleS l r = 6 := by
  unfold ruleS
  rw [if_pos h, if_neg (fun hh => by rw [hh k hk] at h1; cases h1)]
theorem ruleS_dup {l : List Acc} {r : Rule} (h : (accsS l).2 = 0) (ha : hasAll l r) (k : Nat) (hk : k < 5) (h1 : Lib.containsS ((five r).take k) (nth (five r) k) = true) : ruleS l r = 26 := by
  unfold ruleS
  rw [if_pos h, if_pos ha, if_neg (fun hh => by rw [hh k hk] at h1; cases h1)]
theorem ruleS_ok {l : List Acc} {r : Rule} (h : (accsS l).2 = 0) (ha : hasAll l r) (hb : apart r) : ruleS l r = shareE (sharesOf r) := by
  unfold ruleS
  rw [if_pos h, if_pos ha, if_pos hb]
theorem ruleS_zero {l : List Acc} {r : Rule} (h : ruleS l r = 0) : RuleOk l r ∧ shareE (sharesOf r) = 0 := by
  unfold ruleS at h
  split at h
  · rename_i h1
    split at h
    · rename_i h2
      split at h
      · rename_i h3; exact ⟨⟨h1, h2, h3⟩, h⟩
      · cases h
    · cases h
  · rename_i h1; exact absurd h h1
set_option maxHeartbeats 4000000 in
theorem checkRule_c (l : List Acc) (hl : AccsIn l) (r : Rule) : RealCall Tryz.prog 41 [.sl l.length (cAccs l), .agg (cRule r)] (.int .i64 (ruleS l r)) true := by
  have c1 := accountsErr_c l hl
  have hlen := hl.len
  clear hl
  by_cases h0 : (accsS l).2 = 0
  · rw [h0] at c1
    have q6 := fun k hk h1 => ruleS_miss (r := r) h0 k hk h1
    have q26 := fun ha k hk h1 => ruleS_dup (r := r) h0 ha k hk h1
    have q0 := fun ha hb => ruleS_ok (r := r) h0 ha hb
    have c3 := shareErr_c (sharesOf r) (show 3 < 100000 by decide)
    have e3 : ints (sharesOf r) = [.int .i64 r.s0, .int .i64 r.s1, .int .i64 r.s2] := rfl
    have e4 : (sharesOf r).length = 3 := rfl
    rw [e3, e4] at c3
    generalize shareE (sharesOf r) = E at *
    generalize ruleS l r = R at *
    clear e3 e4 h0
    have k6 := keep q6
    have k26 := keep q26
    have k0 := keep q0
    clear q6 q26 q0
    unfold cRule
    refine realcall_intro Tryz.func41 (by kernel_rfl) rfl (Nat.le_of_ble_eq_true (by kernel_rfl)) ?_
    simp only [Tryz.results41, Tryz.ntmps41]
    repeat' (first | (with_reducible first | refine awp_seq ?_ | refine awp_blockS ?_ | refine awp_blockC ?_ | refine awp_blockR ?_ | refine awp_skip ?_ | refine awp_ret ?_ | refine awp_exit ?_ | refine awp_region ?_ | refine awp_condM ?_ | refine And.intro ?_ ?_ | apply gQ_merge | apply gE_merge | exact EqV_w | exact EqE_w | exact EqV_ptr | exact EqE_ptr | exact EqV_msl | exact EqE_msl | exact EqV_agg | exact EqE_agg | exact EqV_fn | exact EqE_fn | exact EqV_gd | exact EqE_gd | refine gM_splitN ?_ ?_ | refine gM_split ?_ ?_ |  refine condM_splitDN ?_ ?_ | refine condM_splitD ?_ ?_ | refine condM_splitN ?_ ?_ | refine condM_split ?_ ?_ | refine condM_any ?_ ?_ | refine cw (c1) ?_ | intro _) | (simp [*, repl]) | (refine cw_eq (c1) ?_ ?_; (· (simp [*]; done))))
    refine awp_for3 (fun (k : Nat) => k ≤ 5 ∧ (∀ j, j < k → hasS l (nth (five r) j) = true)) [0, 3, 6, 27] (fun (k : Nat) => [(28, .w false false (.int .i64 k))]) [0, 1] (fun (k : Nat) => []) (fun (k : Nat) => 5 - k) (fun (_u : Unit) => hasAll l r) [3, 6] (fun (_u : Unit) => []) [0, 1] (fun (_u : Unit) => []) (0) ⟨Nat.zero_le _, fun j hj => absurd hj (Nat.not_lt_zero _)⟩ (by simp) (by simp) (fun k hk => ?_) (fun _u hf => ?_)
    · obtain ⟨hk, hj⟩ := hk
      have kj := keep hj
      clear hj
      by_cases hlt : k < 5
      · have c2 := has_c l (by omega) (nth (five r) k)
        have hg := five_get r k hlt
        cases hb : hasS l (nth (five r) k) with
        | true =>
          rw [hb] at c2
          have kj2 : Keep (∀ j, j < k + 1 → hasS l (nth (five r) j) = true) := keep (fun j hj => by
            rcases Nat.lt_or_eq_of_le (Nat.le_of_lt_succ hj) with h | h
            · exact (show ∀ j, j < k → hasS l (nth (five r) j) = true from kj) j h
            · rw [h]; exact hb)
          clear hb k6 k26 k0
          repeat' (first | (with_reducible first | refine awp_idx1 (j := k) (cs := [.w false false (.str r.owner), .w false false (.str r.driver), .w false false (.str r.office), .w false false (.str r.cash), .w false false (.str r.vouch)]) (k := 5) (e := 9) (d2 := 30) (x := 27) (i := 28) (ow := false) (fl := false) rfl Tryz.underlying177 (by simp) (by simp) (by simp) (by simp) hlt (by simpa using hlt) (by decide) ?_ | refine awp_seq ?_ | refine awp_blockS ?_ | refine awp_blockC ?_ | refine awp_blockR ?_ | refine awp_skip ?_ | refine awp_ret ?_ | refine awp_exit ?_ | refine awp_region ?_ | refine awp_condM ?_ | refine And.intro ?_ ?_ | apply gQ_merge | apply gE_merge | exact EqV_w | exact EqE_w | exact EqV_ptr | exact EqE_ptr | exact EqV_msl | exact EqE_msl | exact EqV_agg | exact EqE_agg | exact EqV_fn | exact EqE_fn | exact EqV_gd | exact EqE_gd | refine gM_splitN ?_ ?_ | refine gM_split ?_ ?_ |  refine condM_splitDN ?_ ?_ | refine condM_splitD ?_ ?_ | refine condM_splitN ?_ ?_ | refine condM_split ?_ ?_ | refine condM_any ?_ ?_ | refine cw (c2) ?_ | intro _) | (simp [*, hlt, hg]) | (refine cw_eq (c2) ?_ ?_; (· (simp [*]; done))))
          all_goals try first | exact inI64 (by omega) (by omega) | omega
          all_goals (refine loopK_normal _ _ _ _ _ (k + 1) _ ?_ (by first | omega | (dsimp only; omega) | (simp; omega)) ?_; (· exact ⟨by omega, kj2⟩); (refine le_of ?_ ?_ <;> first | trivial | (simp [*]; done)))
        | false =>
          rw [hb] at c2
          have hR := (show ∀ k, k < 5 → hasS l (nth (five r) k) = false → R = 6 from k6) k hlt hb
          subst hR
          clear hb k6 k26 k0
          repeat' (first | (with_reducible first | refine awp_idx1 (j := k) (cs := [.w false false (.str r.owner), .w false false (.str r.driver), .w false false (.str r.office), .w false false (.str r.cash), .w false false (.str r.vouch)]) (k := 5) (e := 9) (d2 := 30) (x := 27) (i := 28) (ow := false) (fl := false) rfl Tryz.underlying177 (by simp) (by simp) (by simp) (by simp) hlt (by simpa using hlt) (by decide) ?_ | refine awp_seq ?_ | refine awp_blockS ?_ | refine awp_blockC ?_ | refine awp_blockR ?_ | refine awp_skip ?_ | refine awp_ret ?_ | refine awp_exit ?_ | refine awp_region ?_ | refine awp_condM ?_ | refine And.intro ?_ ?_ | apply gQ_merge | apply gE_merge | exact EqV_w | exact EqE_w | exact EqV_ptr | exact EqE_ptr | exact EqV_msl | exact EqE_msl | exact EqV_agg | exact EqE_agg | exact EqV_fn | exact EqE_fn | exact EqV_gd | exact EqE_gd | refine gM_splitN ?_ ?_ | refine gM_split ?_ ?_ |  refine condM_splitDN ?_ ?_ | refine condM_splitD ?_ ?_ | refine condM_splitN ?_ ?_ | refine condM_split ?_ ?_ | refine condM_any ?_ ?_ | refine cw (c2) ?_ | intro _) | (simp [*, hlt, hg]) | (refine cw_eq (c2) ?_ ?_; (· (simp [*]; done))))
          all_goals try first | exact inI64 (by omega) (by omega) | omega
      · have hke : k = 5 := by omega
        subst hke
        clear k6 k26 k0
        repeat' (first | (with_reducible first | refine awp_seq ?_ | refine awp_blockS ?_ | refine awp_blockC ?_ | refine awp_blockR ?_ | refine awp_skip ?_ | refine awp_ret ?_ | refine awp_exit ?_ | refine awp_region ?_ | refine awp_condM ?_ | refine And.intro ?_ ?_ | apply gQ_merge | apply gE_merge | exact EqV_w | exact EqE_w | exact EqV_ptr | exact EqE_ptr | exact EqV_msl | exact EqE_msl | exact EqV_agg | exact EqE_agg | exact EqV_fn | exact EqE_fn | exact EqV_gd | exact EqE_gd | refine gM_splitN ?_ ?_ | refine gM_split ?_ ?_ |  refine condM_splitDN ?_ ?_ | refine condM_splitD ?_ ?_ | refine condM_splitN ?_ ?_ | refine condM_split ?_ ?_ | refine condM_any ?_ ?_ | intro _) | (simp [*]))
        all_goals (refine finW_intro () ?_ ?_; (· exact kj); (refine le_of ?_ ?_ <;> first | trivial | (simp [*]; done)))
    have kf := keep hf
    clear hf k6
    repeat' (first | (with_reducible first | refine awp_seq ?_ | refine awp_blockS ?_ | refine awp_blockC ?_ | refine awp_blockR ?_ | refine awp_skip ?_ | refine awp_ret ?_ | refine awp_exit ?_ | refine awp_region ?_ | refine awp_condM ?_ | refine And.intro ?_ ?_ | apply gQ_merge | apply gE_merge | exact EqV_w | exact EqE_w | exact EqV_ptr | exact EqE_ptr | exact EqV_msl | exact EqE_msl | exact EqV_agg | exact EqE_agg | exact EqV_fn | exact EqE_fn | exact EqV_gd | exact EqE_gd | refine gM_splitN ?_ ?_ | refine gM_split ?_ ?_ |  refine condM_splitDN ?_ ?_ | refine condM_splitD ?_ ?_ | refine condM_splitN ?_ ?_ | refine condM_split ?_ ?_ | refine condM_any ?_ ?_ | intro _) | (simp [*]))
    refine awp_for4 2 (fun (k : Nat) => k ≤ 5 ∧ (∀ j, j < k → Lib.containsS ((five r).take j) (nth (five r) j) = false)) [36] (fun (k : Nat) => [(37, .w false false (.int .i64 k)), (3, .w false false (.ip [.str r.owner, .str r.driver, .str r.office, .int .i64 r.s0, .int .i64 r.s1, .int .i64 r.s2, .str r.cash, .str r.vouch] 0)), (6, .w false false (.ip (strP (five r)) 0))]) [] (fun (k : Nat) => []) (fun (k : Nat) => 5 - k) (fun (_u : Unit) => apart r) [] (fun (_u : Unit) => [(3, .w false false (.ip [.str r.owner, .str r.driver, .str r.office, .int .i64 r.s0, .int .i64 r.s1, .int .i64 r.s2, .str r.cash, .str r.vouch] 0))]) [] (fun (_u : Unit) => []) (0) ⟨Nat.zero_le _, fun j hj => absurd hj (Nat.not_lt_zero _)⟩ (le_gen [0, 1] (by simp [five_strP]) (by simp [five_strP])) (fun k hk => ?_) (fun _u hf => ?_)
    · obtain ⟨hk, hj⟩ := hk
      have kj := keep hj
      clear hj
      by_cases hlt : k < 5
      · have c2 := contT_c ((five r).take k) (nth (five r) k) (by rw [List.length_take]; omega)
        rw [take_len _ _ (show k ≤ (five r).length from hk)] at c2
        have hg := five_get r k hlt
        cases hb : Lib.containsS ((five r).take k) (nth (five r) k) with
        | false =>
          rw [hb] at c2
          have kj2 : Keep (∀ j, j < k + 1 → Lib.containsS ((five r).take j) (nth (five r) j) = false) := keep (fun j hj => by
            rcases Nat.lt_or_eq_of_le (Nat.le_of_lt_succ hj) with h | h
            · exact (show ∀ j, j < k → Lib.containsS ((five r).take j) (nth (five r) j) = false from kj) j h
            · rw [h]; exact hb)
          clear hb k26 k0 kf kj
          repeat' (first | (with_reducible first | refine awp_idx (j := k) (cs := [.w false false (.str r.owner), .w false false (.str r.driver), .w false false (.str r.office), .w false false (.str r.cash), .w false false (.str r.vouch)]) (k := 5) (e := 9) (d1 := 39) (d2 := 40) (x := 36) (i := 37) (t := 37) (ow := false) (fl := false) rfl Tryz.underlying177 (by simp) (by simp) (by simp) (by simp) (by decide) (by decide) hlt (by simpa using hlt) (by decide) (by decide) ?_ | refine awp_seq ?_ | refine awp_blockS ?_ | refine awp_blockC ?_ | refine awp_blockR ?_ | refine awp_skip ?_ | refine awp_ret ?_ | refine awp_exit ?_ | refine awp_region ?_ | refine awp_condM ?_ | refine And.intro ?_ ?_ | apply gQ_merge | apply gE_merge | exact EqV_w | exact EqE_w | exact EqV_ptr | exact EqE_ptr | exact EqV_msl | exact EqE_msl | exact EqV_agg | exact EqE_agg | exact EqV_fn | exact EqE_fn | exact EqV_gd | exact EqE_gd | refine gM_splitN ?_ ?_ | refine gM_split ?_ ?_ |  refine condM_splitDN ?_ ?_ | refine condM_splitD ?_ ?_ | refine condM_splitN ?_ ?_ | refine condM_split ?_ ?_ | refine condM_any ?_ ?_ | refine cw (c2) ?_ | intro _) | (simp [*, hlt, hg]) | (refine cw_eq (c2) ?_ ?_; (· (simp [*]; done))))
          all_goals try first | exact inI64 (by omega) (by omega) | omega | (show 5 ≤ 5; omega)
          all_goals (refine loopK_normal _ _ _ _ _ (k + 1) _ ?_ (by first | omega | (dsimp only; omega) | (simp; omega)) ?_; (· exact ⟨by omega, kj2⟩); (refine le_of ?_ ?_ <;> first | trivial | (simp [*]; done)))
        | true =>
          rw [hb] at c2
          have hR := (show hasAll l r → ∀ k, k < 5 → Lib.containsS ((five r).take k) (nth (five r) k) = true → R = 26 from k26) kf k hlt hb
          subst hR
          clear hb k26 k0 kf kj
          repeat' (first | (with_reducible first | refine awp_idx (j := k) (cs := [.w false false (.str r.owner), .w false false (.str r.driver), .w false false (.str r.office), .w false false (.str r.cash), .w false false (.str r.vouch)]) (k := 5) (e := 9) (d1 := 39) (d2 := 40) (x := 36) (i := 37) (t := 37) (ow := false) (fl := false) rfl Tryz.underlying177 (by simp) (by simp) (by simp) (by simp) (by decide) (by decide) hlt (by simpa using hlt) (by decide) (by decide) ?_ | refine awp_seq ?_ | refine awp_blockS ?_ | refine awp_blockC ?_ | refine awp_blockR ?_ | refine awp_skip ?_ | refine awp_ret ?_ | refine awp_exit ?_ | refine awp_region ?_ | refine awp_condM ?_ | refine And.intro ?_ ?_ | apply gQ_merge | apply gE_merge | exact EqV_w | exact EqE_w | exact EqV_ptr | exact EqE_ptr | exact EqV_msl | exact EqE_msl | exact EqV_agg | exact EqE_agg | exact EqV_fn | exact EqE_fn | exact EqV_gd | exact EqE_gd | refine gM_splitN ?_ ?_ | refine gM_split ?_ ?_ |  refine condM_splitDN ?_ ?_ | refine condM_splitD ?_ ?_ | refine condM_splitN ?_ ?_ | refine condM_split ?_ ?_ | refine condM_any ?_ ?_ | refine cw (c2) ?_ | intro _) | (simp [*, hlt, hg]) | (refine cw_eq (c2) ?_ ?_; (· (simp [*]; done))))
          all_goals try first | exact inI64 (by omega) (by omega) | omega | (show 5 ≤ 5; omega)
      · have hke : k = 5 := by omega
        subst hke
        clear k26 k0 kf
        repeat' (first | (with_reducible first | refine awp_seq ?_ | refine awp_blockS ?_ | refine awp_blockC ?_ | refine awp_blockR ?_ | refine awp_skip ?_ | refine awp_ret ?_ | refine awp_exit ?_ | refine awp_region ?_ | refine awp_condM ?_ | refine And.intro ?_ ?_ | apply gQ_merge | apply gE_merge | exact EqV_w | exact EqE_w | exact EqV_ptr | exact EqE_ptr | exact EqV_msl | exact EqE_msl | exact EqV_agg | exact EqE_agg | exact EqV_fn | exact EqE_fn | exact EqV_gd | exact EqE_gd | refine gM_splitN ?_ ?_ | refine gM_split ?_ ?_ |  refine condM_splitDN ?_ ?_ | refine condM_splitD ?_ ?_ | refine condM_splitN ?_ ?_ | refine condM_split ?_ ?_ | refine condM_any ?_ ?_ | intro _) | (simp [*]))
        all_goals (refine finW_intro () ?_ ?_; (· exact kj); (refine le_of ?_ ?_ <;> first | trivial | (simp [*]; done)))
    · have hR := (show hasAll l r → apart r → R = E from k0) kf hf
      subst hR
      clear hf kf k26 k0
      repeat' (first | (with_reducible first | refine awp_seq ?_ | refine awp_blockS ?_ | refine awp_blockC ?_ | refine awp_blockR ?_ | refine awp_skip ?_ | refine awp_ret ?_ | refine awp_exit ?_ | refine awp_region ?_ | refine awp_condM ?_ | refine And.intro ?_ ?_ | apply gQ_merge | apply gE_merge | exact EqV_w | exact EqE_w | exact EqV_ptr | exact EqE_ptr | exact EqV_msl | exact EqE_msl | exact EqV_agg | exact EqE_agg | exact EqV_fn | exact EqE_fn | exact EqV_gd | exact EqE_gd | refine gM_splitN ?_ ?_ | refine gM_split ?_ ?_ |  refine condM_splitDN ?_ ?_ | refine condM_splitD ?_ ?_ | refine condM_splitN ?_ ?_ | refine condM_split ?_ ?_ | refine condM_any ?_ ?_ | refine cw (c3) ?_ | intro _) | (simp [*]) | (refine cw_eq (c3) ?_ ?_; (· (simp [*]; done))))
  · rw [ruleS_bad r h0]
    generalize (accsS l).2 = E at *
    unfold cRule
    refine realcall_intro Tryz.func41 (by kernel_rfl) rfl (Nat.le_of_ble_eq_true (by kernel_rfl)) ?_
    simp only [Tryz.results41, Tryz.ntmps41]
    repeat' (first | (with_reducible first | refine awp_seq ?_ | refine awp_blockS ?_ | refine awp_blockC ?_ | refine awp_blockR ?_ | refine awp_skip ?_ | refine awp_ret ?_ | refine awp_exit ?_ | refine awp_region ?_ | refine awp_condM ?_ | refine And.intro ?_ ?_ | apply gQ_merge | apply gE_merge | exact EqV_w | exact EqE_w | exact EqV_ptr | exact EqE_ptr | exact EqV_msl | exact EqE_msl | exact EqV_agg | exact EqE_agg | exact EqV_fn | exact EqE_fn | exact EqV_gd | exact EqE_gd | refine gM_splitN ?_ ?_ | refine gM_split ?_ ?_ |  refine condM_splitDN ?_ ?_ | refine condM_splitD ?_ ?_ | refine condM_splitN ?_ ?_ | refine condM_split ?_ ?_ | refine condM_any ?_ ?_ | refine cw (c1) ?_ | intro _) | (simp [*, h0]) | (refine cw_eq (c1) ?_ ?_; (· (simp [*]; done))))
end Go.Proofs.YtdgbfbgnbgfmjaaGreatDoor
