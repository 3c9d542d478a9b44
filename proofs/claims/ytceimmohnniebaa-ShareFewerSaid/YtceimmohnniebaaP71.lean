/- Contracts of functions for this claim: lemmas alone. -/
import Derived.Test.YtceimmohnniebaaP67
import Derived.Test.YtceimmohnniebaaP33
set_option linter.unusedSimpArgs false
set_option linter.unusedVariables false
namespace Go.Proofs.Ytceimmohnniebaa
open Go Go.Fi
set_option maxRecDepth 20000

/-! ### the first places that are short -/
abbrev Sh := Option (Nat × Nat × Nat)
def orE (a b : Sh) : Sh := match a with | some x => some x | none => b
@[simp] theorem orE_none (b : Sh) : orE none b = b := rfl
def shJ (M : Grid) (i k : Nat) : Nat → Nat → Sh
  | 0, _ => none
  | f + 1, j => if cl M i k + cl M k j < cl M i j then some (i, k, j) else shJ M i k f (j + 1)
def shK (M : Grid) (n i : Nat) : Nat → Nat → Sh
  | 0, _ => none
  | f + 1, k => orE (shJ M i k n 0) (shK M n i f (k + 1))
def shI (M : Grid) (n : Nat) : Nat → Nat → Sh
  | 0, _ => none
  | f + 1, i => orE (shK M n i n 0) (shI M n f (i + 1))
def shortS (M : Grid) : Sh := shI M M.length M.length 0
theorem shJ_at {M : Grid} {i k j n : Nat} (h : j < n) : shJ M i k (n - j) j = if cl M i k + cl M k j < cl M i j then some (i, k, j) else shJ M i k (n - (j + 1)) (j + 1) := by
  rw [show n - j = (n - (j + 1)) + 1 by omega]; rfl
theorem shK_at {M : Grid} {i k n : Nat} (h : k < n) : shK M n i (n - k) k = orE (shJ M i k n 0) (shK M n i (n - (k + 1)) (k + 1)) := by
  rw [show n - k = (n - (k + 1)) + 1 by omega]; rfl
theorem shI_at {M : Grid} {i n : Nat} (h : i < n) : shI M n (n - i) i = orE (shK M n i n 0) (shI M n (n - (i + 1)) (i + 1)) := by
  rw [show n - i = (n - (i + 1)) + 1 by omega]; rfl
theorem orE_assoc (a b c : Sh) : orE (orE a b) c = orE a (orE b c) := by cases a <;> rfl
theorem orE_eq_none {a b : Sh} : orE a b = none ↔ a = none ∧ b = none := by cases a <;> simp [orE]
theorem shJ_none {M : Grid} {i k : Nat} : ∀ (f j : Nat), shJ M i k f j = none ↔ ∀ x, j ≤ x → x < j + f → cl M i x ≤ cl M i k + cl M k x
  | 0, j => by simp [shJ]; intros; omega
  | f + 1, j => by
    unfold shJ
    by_cases h : cl M i k + cl M k j < cl M i j
    · rw [if_pos h]
      constructor
      · intro h; cases h
      · intro hh; have := hh j (Nat.le_refl _) (by omega); omega
    · rw [if_neg h, shJ_none f (j + 1)]
      constructor
      · intro hh x h1 h2
        rcases Nat.eq_or_lt_of_le h1 with rfl | h3
        · omega
        · exact hh x h3 (by omega)
      · intro hh x h1 h2; exact hh x (by omega) (by omega)
theorem shK_none {M : Grid} {n i : Nat} : ∀ (f k : Nat), shK M n i f k = none ↔ ∀ y, k ≤ y → y < k + f → shJ M i y n 0 = none
  | 0, k => by simp [shK]; intros; omega
  | f + 1, k => by
    unfold shK
    rw [orE_eq_none, shK_none f (k + 1)]
    constructor
    · rintro ⟨h1, h2⟩ y h3 h4
      rcases Nat.eq_or_lt_of_le h3 with rfl | h5
      · exact h1
      · exact h2 y h5 (by omega)
    · intro h; exact ⟨h k (Nat.le_refl _) (by omega), fun y h1 h2 => h y (by omega) (by omega)⟩
theorem shI_none {M : Grid} {n : Nat} : ∀ (f i : Nat), shI M n f i = none ↔ ∀ y, i ≤ y → y < i + f → shK M n y n 0 = none
  | 0, k => by simp [shI]; intros; omega
  | f + 1, k => by
    unfold shI
    rw [orE_eq_none, shI_none f (k + 1)]
    constructor
    · rintro ⟨h1, h2⟩ y h3 h4
      rcases Nat.eq_or_lt_of_le h3 with rfl | h5
      · exact h1
      · exact h2 y h5 (by omega)
    · intro h; exact ⟨h k (Nat.le_refl _) (by omega), fun y h1 h2 => h y (by omega) (by omega)⟩
theorem shortS_none {n : Nat} {M : Grid} (h : Sq n M) (ht : Tri n M) : shortS M = none := by
  unfold shortS
  rw [h.len, shI_none]
  intro i _ hi
  rw [shK_none]
  intro k _ hk
  rw [shJ_none]
  intro j _ hj
  exact ht i k j (by omega) (by omega) (by omega)
def shV : Sh → Int × Int × Int
  | none => (0, 0, 0)
  | some (i, k, j) => ((i : Int), (k : Int), (j : Int))
@[simp] theorem shV_none : shV none = (0, 0, 0) := rfl
@[simp] theorem shV_some (i k j : Nat) : shV (some (i, k, j)) = ((i : Int), (k : Int), (j : Int)) := rfl
def shP (R : Sh) (x : PV) : PV := .tup [.agg [.int .i64 (shV R).1, .int .i64 (shV R).2.1, .int .i64 (shV R).2.2], x]
set_option maxHeartbeats 16000000 in
theorem rFirstShort_c (m : Grid) (h : MapOk m) : RealCall Try.prog 59 [aMap m] (shP (shortS m) (.bool (shortS m).isSome)) true := by
  have hl1 := h.l1
  have kq := keep h
  clear h
  generalize hR : shortS m = R
  have kR : Keep (shI m m.length (m.length - 0) 0 = R) := hR
  clear hR
  unfold aMap shP
  refine realcall_intro Try.func59 (by kernel_rfl) rfl (Nat.le_of_ble_eq_true (by kernel_rfl)) ?_
  simp only [Try.results59, Try.ntmps59]
  repeat' (first | (with_reducible first | refine awp_seq ?_ | refine awp_blockS ?_ | refine awp_blockC ?_ | refine awp_blockR ?_ | refine awp_skip ?_ | refine awp_ret ?_ | refine awp_exit ?_ | refine awp_region ?_ | refine awp_regionD (id := 11) 26 mixed (by decide +kernel) ?_ | refine awp_condM ?_ | refine And.intro ?_ ?_ | apply gQ_merge | apply gE_merge | exact EqV_w | exact EqE_w | exact EqV_ptr | exact EqE_ptr | exact EqV_msl | exact EqE_msl | exact EqV_agg | exact EqE_agg | exact EqV_fn | exact EqE_fn | exact EqV_gd | exact EqE_gd | refine gM_splitN ?_ ?_ | refine gM_split ?_ ?_ |  refine condM_splitDN ?_ ?_ | refine condM_splitD ?_ ?_ | refine condM_splitN ?_ ?_ | refine condM_split ?_ ?_ | refine condM_any ?_ ?_ | intro _) | (simp [*]))
  all_goals try first | exact inI64 (by omega) (by omega) | omega
  refine awp_for3 (fun (i : Nat) => i ≤ m.length ∧ shI m m.length (m.length - i) i = R) [1, 2, 4] (fun (i : Nat) => [(5, .w false false (.int .i64 i))]) [0, 1] (fun (i : Nat) => []) (fun (i : Nat) => m.length - i) (fun (_u : Unit) => R = none) [2] (fun (_u : Unit) => []) [1] (fun (_u : Unit) => []) (0) ⟨Nat.zero_le _, kR⟩ (by simp) (by simp) (fun i hk => ?_) (fun _u hf => ?_)
  · obtain ⟨hi, hv⟩ := hk
    by_cases hlt : i < m.length
    · have hlI : (i : Int) < (m.length : Int) := by omega
      rw [shI_at hlt] at hv
      have kv : Keep (orE (shK m m.length i (m.length - 0) 0) (shI m m.length (m.length - (i + 1)) (i + 1)) = R) := hv
      clear hv
      repeat' (first | (with_reducible first | refine awp_seq ?_ | refine awp_blockS ?_ | refine awp_blockC ?_ | refine awp_blockR ?_ | refine awp_skip ?_ | refine awp_ret ?_ | refine awp_exit ?_ | refine awp_region ?_ | refine awp_regionD (id := 11) 26 mixed (by decide +kernel) ?_ | refine awp_condM ?_ | refine And.intro ?_ ?_ | apply gQ_merge | apply gE_merge | exact EqV_w | exact EqE_w | exact EqV_ptr | exact EqE_ptr | exact EqV_msl | exact EqE_msl | exact EqV_agg | exact EqE_agg | exact EqV_fn | exact EqE_fn | exact EqV_gd | exact EqE_gd | refine gM_splitN ?_ ?_ | refine gM_split ?_ ?_ |  refine condM_splitDN ?_ ?_ | refine condM_splitD ?_ ?_ | refine condM_splitN ?_ ?_ | refine condM_split ?_ ?_ | refine condM_any ?_ ?_ | intro _) | (simp [*, hlt, hlI]))
      refine awp_for3 (fun (k : Nat) => k ≤ m.length ∧ orE (shK m m.length i (m.length - k) k) (shI m m.length (m.length - (i + 1)) (i + 1)) = R) [1, 2, 4, 5] (fun (k : Nat) => [(6, .w false false (.int .i64 k))]) [0, 1] (fun (k : Nat) => []) (fun (k : Nat) => m.length - k) (fun (_u : Unit) => shI m m.length (m.length - (i + 1)) (i + 1) = R) [1, 2, 4, 5] (fun (_u : Unit) => []) [0, 1] (fun (_u : Unit) => []) (0) ⟨Nat.zero_le _, kv⟩ (by simp) (by simp) (fun k hk => ?_) (fun _u hf => ?_)
      · obtain ⟨hk, hv⟩ := hk
        by_cases hlt2 : k < m.length
        · have hlI2 : (k : Int) < (m.length : Int) := by omega
          rw [shK_at hlt2, orE_assoc] at hv
          have kv2 : Keep (orE (shJ m i k (m.length - 0) 0) (orE (shK m m.length i (m.length - (k + 1)) (k + 1)) (shI m m.length (m.length - (i + 1)) (i + 1))) = R) := hv
          clear hv
          repeat' (first | (with_reducible first | refine awp_seq ?_ | refine awp_blockS ?_ | refine awp_blockC ?_ | refine awp_blockR ?_ | refine awp_skip ?_ | refine awp_ret ?_ | refine awp_exit ?_ | refine awp_region ?_ | refine awp_regionD (id := 11) 26 mixed (by decide +kernel) ?_ | refine awp_condM ?_ | refine And.intro ?_ ?_ | apply gQ_merge | apply gE_merge | exact EqV_w | exact EqE_w | exact EqV_ptr | exact EqE_ptr | exact EqV_msl | exact EqE_msl | exact EqV_agg | exact EqE_agg | exact EqV_fn | exact EqE_fn | exact EqV_gd | exact EqE_gd | refine gM_splitN ?_ ?_ | refine gM_split ?_ ?_ |  refine condM_splitDN ?_ ?_ | refine condM_splitD ?_ ?_ | refine condM_splitN ?_ ?_ | refine condM_split ?_ ?_ | refine condM_any ?_ ?_ | intro _) | (simp [*, hlt2, hlI2]))
          refine awp_for3 (fun (j : Nat) => j ≤ m.length ∧ orE (shJ m i k (m.length - j) j) (orE (shK m m.length i (m.length - (k + 1)) (k + 1)) (shI m m.length (m.length - (i + 1)) (i + 1))) = R) [1, 2, 4, 5, 6] (fun (j : Nat) => [(7, .w false false (.int .i64 j))]) [0, 1] (fun (j : Nat) => []) (fun (j : Nat) => m.length - j) (fun (_u : Unit) => orE (shK m m.length i (m.length - (k + 1)) (k + 1)) (shI m m.length (m.length - (i + 1)) (i + 1)) = R) [1, 2, 4, 5, 6] (fun (_u : Unit) => []) [0, 1] (fun (_u : Unit) => []) (0) ⟨Nat.zero_le _, kv2⟩ (by simp) (by simp) (fun j hk => ?_) (fun _u hf => ?_)
          · obtain ⟨hj, hv⟩ := hk
            by_cases hlt3 : j < m.length
            · have hlI3 : (j : Int) < (m.length : Int) := by omega
              rw [shJ_at hlt3] at hv
              have b1 := kq.cell i k hlt hlt2
              have b2 := kq.cell k j hlt2 hlt3
              have l1 := kq.sq i hlt
              have l2 := kq.sq k hlt2
              unfold cl at hv
              by_cases hc : nth (nth m i) k + nth (nth m k) j < nth (nth m i) j
              · rw [if_pos hc] at hv
                have hv : some (i, k, j) = R := hv
                subst hv
                clear kv kv2 kR
                repeat' (first | (with_reducible first | refine awp_seq ?_ | refine awp_blockS ?_ | refine awp_blockC ?_ | refine awp_blockR ?_ | refine awp_skip ?_ | refine awp_ret ?_ | refine awp_exit ?_ | refine awp_region ?_ | refine awp_regionD (id := 11) 26 mixed (by decide +kernel) ?_ | refine awp_condM ?_ | refine And.intro ?_ ?_ | apply gQ_merge | apply gE_merge | exact EqV_w | exact EqE_w | exact EqV_ptr | exact EqE_ptr | exact EqV_msl | exact EqE_msl | exact EqV_agg | exact EqE_agg | exact EqV_fn | exact EqE_fn | exact EqV_gd | exact EqE_gd | refine gM_splitN ?_ ?_ | refine gM_split ?_ ?_ |  refine condM_splitDN ?_ ?_ | refine condM_splitD ?_ ?_ | refine condM_splitN ?_ ?_ | refine condM_split ?_ ?_ | refine condM_any ?_ ?_ | intro _) | (simp [*, hlt, hlI, hlt2, hlI2, hlt3, hlI3, l1, l2, hc]))
                all_goals try first | exact inI64 (by omega) (by omega) | omega
              · rw [if_neg hc] at hv
                have kv3 := keep hv
                clear hv
                repeat' (first | (with_reducible first | refine awp_seq ?_ | refine awp_blockS ?_ | refine awp_blockC ?_ | refine awp_blockR ?_ | refine awp_skip ?_ | refine awp_ret ?_ | refine awp_exit ?_ | refine awp_region ?_ | refine awp_regionD (id := 11) 26 mixed (by decide +kernel) ?_ | refine awp_condM ?_ | refine And.intro ?_ ?_ | apply gQ_merge | apply gE_merge | exact EqV_w | exact EqE_w | exact EqV_ptr | exact EqE_ptr | exact EqV_msl | exact EqE_msl | exact EqV_agg | exact EqE_agg | exact EqV_fn | exact EqE_fn | exact EqV_gd | exact EqE_gd | refine gM_splitN ?_ ?_ | refine gM_split ?_ ?_ |  refine condM_splitDN ?_ ?_ | refine condM_splitD ?_ ?_ | refine condM_splitN ?_ ?_ | refine condM_split ?_ ?_ | refine condM_any ?_ ?_ | intro _) | (simp [*, hlt, hlI, hlt2, hlI2, hlt3, hlI3, l1, l2, hc]))
                all_goals try first | exact inI64 (by omega) (by omega) | omega
                all_goals (refine loopK_normal _ _ _ _ _ (j + 1) _ ?_ (by first | omega | (dsimp only; omega) | (simp; omega)) ?_; (· exact ⟨by omega, kv3⟩); (refine le_of ?_ ?_ <;> first | trivial | (simp [*]; done)))
            · have hke : j = m.length := by omega
              subst hke
              rw [Nat.sub_self] at hv
              have kv3 := keep hv
              clear hv
              repeat' (first | (with_reducible first | refine awp_seq ?_ | refine awp_blockS ?_ | refine awp_blockC ?_ | refine awp_blockR ?_ | refine awp_skip ?_ | refine awp_ret ?_ | refine awp_exit ?_ | refine awp_region ?_ | refine awp_regionD (id := 11) 26 mixed (by decide +kernel) ?_ | refine awp_condM ?_ | refine And.intro ?_ ?_ | apply gQ_merge | apply gE_merge | exact EqV_w | exact EqE_w | exact EqV_ptr | exact EqE_ptr | exact EqV_msl | exact EqE_msl | exact EqV_agg | exact EqE_agg | exact EqV_fn | exact EqE_fn | exact EqV_gd | exact EqE_gd | refine gM_splitN ?_ ?_ | refine gM_split ?_ ?_ |  refine condM_splitDN ?_ ?_ | refine condM_splitD ?_ ?_ | refine condM_splitN ?_ ?_ | refine condM_split ?_ ?_ | refine condM_any ?_ ?_ | intro _) | (simp [*]))
              all_goals (refine finW_intro () ?_ ?_; (· exact kv3); (refine le_of ?_ ?_ <;> first | trivial | (simp [*]; done)))
          · have kf := keep hf
            clear hf
            repeat' (first | (with_reducible first | refine awp_seq ?_ | refine awp_blockS ?_ | refine awp_blockC ?_ | refine awp_blockR ?_ | refine awp_skip ?_ | refine awp_ret ?_ | refine awp_exit ?_ | refine awp_region ?_ | refine awp_regionD (id := 11) 26 mixed (by decide +kernel) ?_ | refine awp_condM ?_ | refine And.intro ?_ ?_ | apply gQ_merge | apply gE_merge | exact EqV_w | exact EqE_w | exact EqV_ptr | exact EqE_ptr | exact EqV_msl | exact EqE_msl | exact EqV_agg | exact EqE_agg | exact EqV_fn | exact EqE_fn | exact EqV_gd | exact EqE_gd | refine gM_splitN ?_ ?_ | refine gM_split ?_ ?_ |  refine condM_splitDN ?_ ?_ | refine condM_splitD ?_ ?_ | refine condM_splitN ?_ ?_ | refine condM_split ?_ ?_ | refine condM_any ?_ ?_ | intro _) | (simp [*]))
            all_goals try first | exact inI64 (by omega) (by omega) | omega
            all_goals (refine loopK_normal _ _ _ _ _ (k + 1) _ ?_ (by first | omega | (dsimp only; omega) | (simp; omega)) ?_; (· exact ⟨by omega, kf⟩); (refine le_of ?_ ?_ <;> first | trivial | (simp [*]; done)))
        · have hke : k = m.length := by omega
          subst hke
          rw [Nat.sub_self] at hv
          have kv3 := keep hv
          clear hv
          repeat' (first | (with_reducible first | refine awp_seq ?_ | refine awp_blockS ?_ | refine awp_blockC ?_ | refine awp_blockR ?_ | refine awp_skip ?_ | refine awp_ret ?_ | refine awp_exit ?_ | refine awp_region ?_ | refine awp_regionD (id := 11) 26 mixed (by decide +kernel) ?_ | refine awp_condM ?_ | refine And.intro ?_ ?_ | apply gQ_merge | apply gE_merge | exact EqV_w | exact EqE_w | exact EqV_ptr | exact EqE_ptr | exact EqV_msl | exact EqE_msl | exact EqV_agg | exact EqE_agg | exact EqV_fn | exact EqE_fn | exact EqV_gd | exact EqE_gd | refine gM_splitN ?_ ?_ | refine gM_split ?_ ?_ |  refine condM_splitDN ?_ ?_ | refine condM_splitD ?_ ?_ | refine condM_splitN ?_ ?_ | refine condM_split ?_ ?_ | refine condM_any ?_ ?_ | intro _) | (simp [*]))
          all_goals (refine finW_intro () ?_ ?_; (· exact kv3); (refine le_of ?_ ?_ <;> first | trivial | (simp [*]; done)))
      · have kf := keep hf
        clear hf
        repeat' (first | (with_reducible first | refine awp_seq ?_ | refine awp_blockS ?_ | refine awp_blockC ?_ | refine awp_blockR ?_ | refine awp_skip ?_ | refine awp_ret ?_ | refine awp_exit ?_ | refine awp_region ?_ | refine awp_regionD (id := 11) 26 mixed (by decide +kernel) ?_ | refine awp_condM ?_ | refine And.intro ?_ ?_ | apply gQ_merge | apply gE_merge | exact EqV_w | exact EqE_w | exact EqV_ptr | exact EqE_ptr | exact EqV_msl | exact EqE_msl | exact EqV_agg | exact EqE_agg | exact EqV_fn | exact EqE_fn | exact EqV_gd | exact EqE_gd | refine gM_splitN ?_ ?_ | refine gM_split ?_ ?_ |  refine condM_splitDN ?_ ?_ | refine condM_splitD ?_ ?_ | refine condM_splitN ?_ ?_ | refine condM_split ?_ ?_ | refine condM_any ?_ ?_ | intro _) | (simp [*]))
        all_goals try first | exact inI64 (by omega) (by omega) | omega
        all_goals (refine loopK_normal _ _ _ _ _ (i + 1) _ ?_ (by first | omega | (dsimp only; omega) | (simp; omega)) ?_; (· exact ⟨by omega, kf⟩); (refine le_of ?_ ?_ <;> first | trivial | (simp [*]; done)))
    · have hke : i = m.length := by omega
      subst hke
      rw [Nat.sub_self] at hv
      have kv3 : Keep (R = none) := hv.symm
      clear hv
      repeat' (first | (with_reducible first | refine awp_seq ?_ | refine awp_blockS ?_ | refine awp_blockC ?_ | refine awp_blockR ?_ | refine awp_skip ?_ | refine awp_ret ?_ | refine awp_exit ?_ | refine awp_region ?_ | refine awp_regionD (id := 11) 26 mixed (by decide +kernel) ?_ | refine awp_condM ?_ | refine And.intro ?_ ?_ | apply gQ_merge | apply gE_merge | exact EqV_w | exact EqE_w | exact EqV_ptr | exact EqE_ptr | exact EqV_msl | exact EqE_msl | exact EqV_agg | exact EqE_agg | exact EqV_fn | exact EqE_fn | exact EqV_gd | exact EqE_gd | refine gM_splitN ?_ ?_ | refine gM_split ?_ ?_ |  refine condM_splitDN ?_ ?_ | refine condM_splitD ?_ ?_ | refine condM_splitN ?_ ?_ | refine condM_split ?_ ?_ | refine condM_any ?_ ?_ | intro _) | (simp [*]))
      all_goals (refine finW_intro () ?_ ?_; (· exact kv3); (refine le_of ?_ ?_ <;> first | trivial | (simp [*]; done)))
  · subst hf
    clear kR
    repeat' (first | (with_reducible first | refine awp_seq ?_ | refine awp_blockS ?_ | refine awp_blockC ?_ | refine awp_blockR ?_ | refine awp_skip ?_ | refine awp_ret ?_ | refine awp_exit ?_ | refine awp_region ?_ | refine awp_regionD (id := 11) 26 mixed (by decide +kernel) ?_ | refine awp_condM ?_ | refine And.intro ?_ ?_ | apply gQ_merge | apply gE_merge | exact EqV_w | exact EqE_w | exact EqV_ptr | exact EqE_ptr | exact EqV_msl | exact EqE_msl | exact EqV_agg | exact EqE_agg | exact EqV_fn | exact EqE_fn | exact EqV_gd | exact EqE_gd | refine gM_splitN ?_ ?_ | refine gM_split ?_ ?_ |  refine condM_splitDN ?_ ?_ | refine condM_splitD ?_ ?_ | refine condM_splitN ?_ ?_ | refine condM_split ?_ ?_ | refine condM_any ?_ ?_ | intro _) | (simp [*]))
set_option maxHeartbeats 16000000 in
theorem firstShort_c (m : Grid) (h : MapOk m) : RealCall Try.prog 56 [aMap m] (shP (shortS m) (.int .i64 (errUnless (shortS m).isSome 12))) true := by
  have hm : GridIn m := ⟨by have := h.l1; omega, fun k hk => by rw [h.sq k hk]; have := h.l1; omega⟩
  have c1 := mapErr_c m hm
  rw [mapS_ok.2 h] at c1
  have hl1 := h.l1
  have kq := keep h
  clear h hm
  generalize hR : shortS m = R
  have kR : Keep (shI m m.length (m.length - 0) 0 = R) := hR
  clear hR
  unfold aMap shP at *
  refine realcall_intro Try.func56 (by kernel_rfl) rfl (Nat.le_of_ble_eq_true (by kernel_rfl)) ?_
  simp only [Try.results56, Try.ntmps56]
  repeat' (first | (with_reducible first | refine awp_seq ?_ | refine awp_blockS ?_ | refine awp_blockC ?_ | refine awp_blockR ?_ | refine awp_skip ?_ | refine awp_ret ?_ | refine awp_exit ?_ | refine awp_region ?_ | refine awp_condM ?_ | refine And.intro ?_ ?_ | apply gQ_merge | apply gE_merge | exact EqV_w | exact EqE_w | exact EqV_ptr | exact EqE_ptr | exact EqV_msl | exact EqE_msl | exact EqV_agg | exact EqE_agg | exact EqV_fn | exact EqE_fn | exact EqV_gd | exact EqE_gd | refine gM_splitN ?_ ?_ | refine gM_split ?_ ?_ |  refine condM_splitDN ?_ ?_ | refine condM_splitD ?_ ?_ | refine condM_splitN ?_ ?_ | refine condM_split ?_ ?_ | refine condM_any ?_ ?_ | refine cw (c1) ?_ | intro _) | (simp [*]) | (refine cw_eq (c1) ?_ ?_; (· (simp [*]; done))))
  all_goals try first | exact inI64 (by omega) (by omega) | omega
  refine awp_for3 (fun (i : Nat) => i ≤ m.length ∧ shI m m.length (m.length - i) i = R) [1, 2, 18, 19] (fun (i : Nat) => [(20, .w false false (.int .i64 i))]) [0, 1] (fun (i : Nat) => []) (fun (i : Nat) => m.length - i) (fun (_u : Unit) => R = none) [2] (fun (_u : Unit) => []) [1] (fun (_u : Unit) => []) (0) ⟨Nat.zero_le _, kR⟩ (by simp) (by simp) (fun i hk => ?_) (fun _u hf => ?_)
  · obtain ⟨hi, hv⟩ := hk
    by_cases hlt : i < m.length
    · have hlI : (i : Int) < (m.length : Int) := by omega
      rw [shI_at hlt] at hv
      have kv : Keep (orE (shK m m.length i (m.length - 0) 0) (shI m m.length (m.length - (i + 1)) (i + 1)) = R) := hv
      clear hv
      have l1 := kq.sq i hlt
      repeat' (first | (with_reducible first | refine awp_seq ?_ | refine awp_blockS ?_ | refine awp_blockC ?_ | refine awp_blockR ?_ | refine awp_skip ?_ | refine awp_ret ?_ | refine awp_exit ?_ | refine awp_region ?_ | refine awp_condM ?_ | refine And.intro ?_ ?_ | apply gQ_merge | apply gE_merge | exact EqV_w | exact EqE_w | exact EqV_ptr | exact EqE_ptr | exact EqV_msl | exact EqE_msl | exact EqV_agg | exact EqE_agg | exact EqV_fn | exact EqE_fn | exact EqV_gd | exact EqE_gd | refine gM_splitN ?_ ?_ | refine gM_split ?_ ?_ |  refine condM_splitDN ?_ ?_ | refine condM_splitD ?_ ?_ | refine condM_splitN ?_ ?_ | refine condM_split ?_ ?_ | refine condM_any ?_ ?_ | intro _) | (simp [*, hlt, hlI, l1]))
      refine awp_for3 (fun (k : Nat) => k ≤ m.length ∧ orE (shK m m.length i (m.length - k) k) (shI m m.length (m.length - (i + 1)) (i + 1)) = R) [1, 2, 5, 6, 18, 19, 20, 25, 26] (fun (k : Nat) => [(27, .w false false (.int .i64 k))]) [0, 1] (fun (k : Nat) => []) (fun (k : Nat) => m.length - k) (fun (_u : Unit) => shI m m.length (m.length - (i + 1)) (i + 1) = R) [1, 2, 18, 19, 20] (fun (_u : Unit) => []) [0, 1] (fun (_u : Unit) => []) (0) ⟨Nat.zero_le _, kv⟩ (by simp) (by simp) (fun k hk => ?_) (fun _u hf => ?_)
      · obtain ⟨hk, hv⟩ := hk
        by_cases hlt2 : k < m.length
        · have hlI2 : (k : Int) < (m.length : Int) := by omega
          rw [shK_at hlt2, orE_assoc] at hv
          have kv2 : Keep (orE (shJ m i k (m.length - 0) 0) (orE (shK m m.length i (m.length - (k + 1)) (k + 1)) (shI m m.length (m.length - (i + 1)) (i + 1))) = R) := hv
          clear hv
          repeat' (first | (with_reducible first | refine awp_seq ?_ | refine awp_blockS ?_ | refine awp_blockC ?_ | refine awp_blockR ?_ | refine awp_skip ?_ | refine awp_ret ?_ | refine awp_exit ?_ | refine awp_region ?_ | refine awp_condM ?_ | refine And.intro ?_ ?_ | apply gQ_merge | apply gE_merge | exact EqV_w | exact EqE_w | exact EqV_ptr | exact EqE_ptr | exact EqV_msl | exact EqE_msl | exact EqV_agg | exact EqE_agg | exact EqV_fn | exact EqE_fn | exact EqV_gd | exact EqE_gd | refine gM_splitN ?_ ?_ | refine gM_split ?_ ?_ |  refine condM_splitDN ?_ ?_ | refine condM_splitD ?_ ?_ | refine condM_splitN ?_ ?_ | refine condM_split ?_ ?_ | refine condM_any ?_ ?_ | intro _) | (simp [*, hlt, hlt2, hlI2, l1]))
          refine awp_for3 (fun (j : Nat) => j ≤ m.length ∧ orE (shJ m i k (m.length - j) j) (orE (shK m m.length i (m.length - (k + 1)) (k + 1)) (shI m m.length (m.length - (i + 1)) (i + 1))) = R) [1, 2, 5, 6, 7, 8, 18, 19, 20, 25, 26, 27, 32, 33] (fun (j : Nat) => [(34, .w false false (.int .i64 j))]) [0, 1] (fun (j : Nat) => []) (fun (j : Nat) => m.length - j) (fun (_u : Unit) => orE (shK m m.length i (m.length - (k + 1)) (k + 1)) (shI m m.length (m.length - (i + 1)) (i + 1)) = R) [1, 2, 5, 6, 18, 19, 20, 25, 26, 27] (fun (_u : Unit) => []) [0, 1] (fun (_u : Unit) => []) (0) ⟨Nat.zero_le _, kv2⟩ (by simp) (by simp) (fun j hk => ?_) (fun _u hf => ?_)
          · obtain ⟨hj, hv⟩ := hk
            by_cases hlt3 : j < m.length
            · have hlI3 : (j : Int) < (m.length : Int) := by omega
              rw [shJ_at hlt3] at hv
              have b1 := kq.cell i k hlt hlt2
              have b2 := kq.cell k j hlt2 hlt3
              have l2 := kq.sq k hlt2
              unfold cl at hv
              by_cases hc : nth (nth m i) k + nth (nth m k) j < nth (nth m i) j
              · rw [if_pos hc] at hv
                have hv : some (i, k, j) = R := hv
                subst hv
                clear kv kv2 kR
                repeat' (first | (with_reducible first | refine awp_seq ?_ | refine awp_blockS ?_ | refine awp_blockC ?_ | refine awp_blockR ?_ | refine awp_skip ?_ | refine awp_ret ?_ | refine awp_exit ?_ | refine awp_region ?_ | refine awp_condM ?_ | refine And.intro ?_ ?_ | apply gQ_merge | apply gE_merge | exact EqV_w | exact EqE_w | exact EqV_ptr | exact EqE_ptr | exact EqV_msl | exact EqE_msl | exact EqV_agg | exact EqE_agg | exact EqV_fn | exact EqE_fn | exact EqV_gd | exact EqE_gd | refine gM_splitN ?_ ?_ | refine gM_split ?_ ?_ |  refine condM_splitDN ?_ ?_ | refine condM_splitD ?_ ?_ | refine condM_splitN ?_ ?_ | refine condM_split ?_ ?_ | refine condM_any ?_ ?_ | intro _) | (simp [*, hlt, hlI, hlt2, hlI2, hlt3, hlI3, l1, l2, hc]))
                all_goals try first | exact inI64 (by omega) (by omega) | omega
              · rw [if_neg hc] at hv
                have kv3 := keep hv
                clear hv
                repeat' (first | (with_reducible first | refine awp_seq ?_ | refine awp_blockS ?_ | refine awp_blockC ?_ | refine awp_blockR ?_ | refine awp_skip ?_ | refine awp_ret ?_ | refine awp_exit ?_ | refine awp_region ?_ | refine awp_condM ?_ | refine And.intro ?_ ?_ | apply gQ_merge | apply gE_merge | exact EqV_w | exact EqE_w | exact EqV_ptr | exact EqE_ptr | exact EqV_msl | exact EqE_msl | exact EqV_agg | exact EqE_agg | exact EqV_fn | exact EqE_fn | exact EqV_gd | exact EqE_gd | refine gM_splitN ?_ ?_ | refine gM_split ?_ ?_ |  refine condM_splitDN ?_ ?_ | refine condM_splitD ?_ ?_ | refine condM_splitN ?_ ?_ | refine condM_split ?_ ?_ | refine condM_any ?_ ?_ | intro _) | (simp [*, hlt, hlI, hlt2, hlI2, hlt3, hlI3, l1, l2, hc]))
                all_goals try first | exact inI64 (by omega) (by omega) | omega
                all_goals (refine loopK_normal _ _ _ _ _ (j + 1) _ ?_ (by first | omega | (dsimp only; omega) | (simp; omega)) ?_; (· exact ⟨by omega, kv3⟩); (refine le_of ?_ ?_ <;> first | trivial | (simp [*]; done)))
            · have hke : j = m.length := by omega
              subst hke
              rw [Nat.sub_self] at hv
              have kv3 := keep hv
              clear hv
              repeat' (first | (with_reducible first | refine awp_seq ?_ | refine awp_blockS ?_ | refine awp_blockC ?_ | refine awp_blockR ?_ | refine awp_skip ?_ | refine awp_ret ?_ | refine awp_exit ?_ | refine awp_region ?_ | refine awp_condM ?_ | refine And.intro ?_ ?_ | apply gQ_merge | apply gE_merge | exact EqV_w | exact EqE_w | exact EqV_ptr | exact EqE_ptr | exact EqV_msl | exact EqE_msl | exact EqV_agg | exact EqE_agg | exact EqV_fn | exact EqE_fn | exact EqV_gd | exact EqE_gd | refine gM_splitN ?_ ?_ | refine gM_split ?_ ?_ |  refine condM_splitDN ?_ ?_ | refine condM_splitD ?_ ?_ | refine condM_splitN ?_ ?_ | refine condM_split ?_ ?_ | refine condM_any ?_ ?_ | intro _) | (simp [*, l1]))
              all_goals (refine finW_intro () ?_ ?_; (· exact kv3); (refine le_of ?_ ?_ <;> first | trivial | (simp [*]; done)))
          · have kf := keep hf
            clear hf
            repeat' (first | (with_reducible first | refine awp_seq ?_ | refine awp_blockS ?_ | refine awp_blockC ?_ | refine awp_blockR ?_ | refine awp_skip ?_ | refine awp_ret ?_ | refine awp_exit ?_ | refine awp_region ?_ | refine awp_condM ?_ | refine And.intro ?_ ?_ | apply gQ_merge | apply gE_merge | exact EqV_w | exact EqE_w | exact EqV_ptr | exact EqE_ptr | exact EqV_msl | exact EqE_msl | exact EqV_agg | exact EqE_agg | exact EqV_fn | exact EqE_fn | exact EqV_gd | exact EqE_gd | refine gM_splitN ?_ ?_ | refine gM_split ?_ ?_ |  refine condM_splitDN ?_ ?_ | refine condM_splitD ?_ ?_ | refine condM_splitN ?_ ?_ | refine condM_split ?_ ?_ | refine condM_any ?_ ?_ | intro _) | (simp [*]))
            all_goals try first | exact inI64 (by omega) (by omega) | omega
            all_goals (refine loopK_normal _ _ _ _ _ (k + 1) _ ?_ (by first | omega | (dsimp only; omega) | (simp; omega)) ?_; (· exact ⟨by omega, kf⟩); (refine le_of ?_ ?_ <;> first | trivial | (simp [*]; done)))
        · have hke : k = m.length := by omega
          subst hke
          rw [Nat.sub_self] at hv
          have kv3 := keep hv
          clear hv
          repeat' (first | (with_reducible first | refine awp_seq ?_ | refine awp_blockS ?_ | refine awp_blockC ?_ | refine awp_blockR ?_ | refine awp_skip ?_ | refine awp_ret ?_ | refine awp_exit ?_ | refine awp_region ?_ | refine awp_condM ?_ | refine And.intro ?_ ?_ | apply gQ_merge | apply gE_merge | exact EqV_w | exact EqE_w | exact EqV_ptr | exact EqE_ptr | exact EqV_msl | exact EqE_msl | exact EqV_agg | exact EqE_agg | exact EqV_fn | exact EqE_fn | exact EqV_gd | exact EqE_gd | refine gM_splitN ?_ ?_ | refine gM_split ?_ ?_ |  refine condM_splitDN ?_ ?_ | refine condM_splitD ?_ ?_ | refine condM_splitN ?_ ?_ | refine condM_split ?_ ?_ | refine condM_any ?_ ?_ | intro _) | (simp [*, l1]))
          all_goals (refine finW_intro () ?_ ?_; (· exact kv3); (refine le_of ?_ ?_ <;> first | trivial | (simp [*]; done)))
      · have kf := keep hf
        clear hf
        repeat' (first | (with_reducible first | refine awp_seq ?_ | refine awp_blockS ?_ | refine awp_blockC ?_ | refine awp_blockR ?_ | refine awp_skip ?_ | refine awp_ret ?_ | refine awp_exit ?_ | refine awp_region ?_ | refine awp_condM ?_ | refine And.intro ?_ ?_ | apply gQ_merge | apply gE_merge | exact EqV_w | exact EqE_w | exact EqV_ptr | exact EqE_ptr | exact EqV_msl | exact EqE_msl | exact EqV_agg | exact EqE_agg | exact EqV_fn | exact EqE_fn | exact EqV_gd | exact EqE_gd | refine gM_splitN ?_ ?_ | refine gM_split ?_ ?_ |  refine condM_splitDN ?_ ?_ | refine condM_splitD ?_ ?_ | refine condM_splitN ?_ ?_ | refine condM_split ?_ ?_ | refine condM_any ?_ ?_ | intro _) | (simp [*]))
        all_goals try first | exact inI64 (by omega) (by omega) | omega
        all_goals (refine loopK_normal _ _ _ _ _ (i + 1) _ ?_ (by first | omega | (dsimp only; omega) | (simp; omega)) ?_; (· exact ⟨by omega, kf⟩); (refine le_of ?_ ?_ <;> first | trivial | (simp [*]; done)))
    · have hke : i = m.length := by omega
      subst hke
      rw [Nat.sub_self] at hv
      have kv3 : Keep (R = none) := hv.symm
      clear hv
      repeat' (first | (with_reducible first | refine awp_seq ?_ | refine awp_blockS ?_ | refine awp_blockC ?_ | refine awp_blockR ?_ | refine awp_skip ?_ | refine awp_ret ?_ | refine awp_exit ?_ | refine awp_region ?_ | refine awp_condM ?_ | refine And.intro ?_ ?_ | apply gQ_merge | apply gE_merge | exact EqV_w | exact EqE_w | exact EqV_ptr | exact EqE_ptr | exact EqV_msl | exact EqE_msl | exact EqV_agg | exact EqE_agg | exact EqV_fn | exact EqE_fn | exact EqV_gd | exact EqE_gd | refine gM_splitN ?_ ?_ | refine gM_split ?_ ?_ |  refine condM_splitDN ?_ ?_ | refine condM_splitD ?_ ?_ | refine condM_splitN ?_ ?_ | refine condM_split ?_ ?_ | refine condM_any ?_ ?_ | intro _) | (simp [*]))
      all_goals (refine finW_intro () ?_ ?_; (· exact kv3); (refine le_of ?_ ?_ <;> first | trivial | (simp [*]; done)))
  · subst hf
    clear kR
    repeat' (first | (with_reducible first | refine awp_seq ?_ | refine awp_blockS ?_ | refine awp_blockC ?_ | refine awp_blockR ?_ | refine awp_skip ?_ | refine awp_ret ?_ | refine awp_exit ?_ | refine awp_region ?_ | refine awp_condM ?_ | refine And.intro ?_ ?_ | apply gQ_merge | apply gE_merge | exact EqV_w | exact EqE_w | exact EqV_ptr | exact EqE_ptr | exact EqV_msl | exact EqE_msl | exact EqV_agg | exact EqE_agg | exact EqV_fn | exact EqE_fn | exact EqV_gd | exact EqE_gd | refine gM_splitN ?_ ?_ | refine gM_split ?_ ?_ |  refine condM_splitDN ?_ ?_ | refine condM_splitD ?_ ?_ | refine condM_splitN ?_ ?_ | refine condM_split ?_ ?_ | refine condM_any ?_ ?_ | intro _) | (simp [*]))
end Go.Proofs.Ytceimmohnniebaa
namespace Go.Proofs.Ytceimmohnniebaa
open Go Go.Fi
set_option maxRecDepth 20000

theorem closed_bad (m : Grid) (hm : GridIn m) (h : ¬ (mapS m).2.2 = 0) : RealCall Try.prog 57 [aMap m] (.tup [.agg [.sl 0 []], .int .i64 (mapS m).2.2]) true := by
  have c1 := mapErr_c m hm
  clear hm
  generalize (mapS m).2.2 = e at *
  unfold aMap at *
  refine realcall_intro Try.func57 (by kernel_rfl) rfl (Nat.le_of_ble_eq_true (by kernel_rfl)) ?_
  simp only [Try.results57, Try.ntmps57]
  repeat' (first | (with_reducible first | refine awp_seq ?_ | refine awp_blockS ?_ | refine awp_blockC ?_ | refine awp_blockR ?_ | refine awp_skip ?_ | refine awp_ret ?_ | refine awp_exit ?_ | refine awp_region ?_ | refine awp_regionD (id := 8) 5 mixed (by decide +kernel) ?_ | refine awp_regionD (id := 19) 21 mixed (by decide +kernel) ?_ | refine awp_condM ?_ | refine And.intro ?_ ?_ | apply gQ_merge | apply gE_merge | exact EqV_w | exact EqE_w | exact EqV_ptr | exact EqE_ptr | exact EqV_msl | exact EqE_msl | exact EqV_agg | exact EqE_agg | exact EqV_fn | exact EqE_fn | exact EqV_gd | exact EqE_gd | refine gM_splitN ?_ ?_ | refine gM_split ?_ ?_ |  refine condM_splitDN ?_ ?_ | refine condM_splitD ?_ ?_ | refine condM_splitN ?_ ?_ | refine condM_split ?_ ?_ | refine condM_any ?_ ?_ | refine cw (c1) ?_ | intro _) | (simp [*, h]) | (refine cw_eq (c1) ?_ ?_; (· (simp [*]; done))))
theorem firstShort_bad (m : Grid) (hm : GridIn m) (h : ¬ (mapS m).2.2 = 0) : RealCall Try.prog 56 [aMap m] (.tup [.agg [.int .i64 0, .int .i64 0, .int .i64 0], .int .i64 (mapS m).2.2]) true := by
  have c1 := mapErr_c m hm
  clear hm
  generalize (mapS m).2.2 = e at *
  unfold aMap at *
  refine realcall_intro Try.func56 (by kernel_rfl) rfl (Nat.le_of_ble_eq_true (by kernel_rfl)) ?_
  simp only [Try.results56, Try.ntmps56]
  repeat' (first | (with_reducible first | refine awp_seq ?_ | refine awp_blockS ?_ | refine awp_blockC ?_ | refine awp_blockR ?_ | refine awp_skip ?_ | refine awp_ret ?_ | refine awp_exit ?_ | refine awp_region ?_ | refine awp_condM ?_ | refine And.intro ?_ ?_ | apply gQ_merge | apply gE_merge | exact EqV_w | exact EqE_w | exact EqV_ptr | exact EqE_ptr | exact EqV_msl | exact EqE_msl | exact EqV_agg | exact EqE_agg | exact EqV_fn | exact EqE_fn | exact EqV_gd | exact EqE_gd | refine gM_splitN ?_ ?_ | refine gM_split ?_ ?_ |  refine condM_splitDN ?_ ?_ | refine condM_splitD ?_ ?_ | refine condM_splitN ?_ ?_ | refine condM_split ?_ ?_ | refine condM_any ?_ ?_ | refine cw (c1) ?_ | intro _) | (simp [*, h]) | (refine cw_eq (c1) ?_ ?_; (· (simp [*]; done))))
set_option maxHeartbeats 16000000 in
theorem shareMaps_c (m : Grid) : RealCall Try.prog 12 [aMap m] (.bool true) true := by
  have c0 := awake_c
  have c1 := few_c m
  cases hf : fewB m with
  | false =>
    rw [hf] at c1
    unfold aMap at *
    refine realcall_intro Try.func12 (by kernel_rfl) rfl (Nat.le_of_ble_eq_true (by kernel_rfl)) ?_
    simp only [Try.results12, Try.ntmps12]
    repeat' (first | (with_reducible first | refine awp_seq ?_ | refine awp_blockS ?_ | refine awp_blockC ?_ | refine awp_blockR ?_ | refine awp_skip ?_ | refine awp_ret ?_ | refine awp_exit ?_ | refine awp_region ?_ | refine awp_regionD (id := 16) 11 mixed (by decide +kernel) ?_ | refine awp_condM ?_ | refine And.intro ?_ ?_ | apply gQ_merge | apply gE_merge | exact EqV_w | exact EqE_w | exact EqV_ptr | exact EqE_ptr | exact EqV_msl | exact EqE_msl | exact EqV_agg | exact EqE_agg | exact EqV_fn | exact EqE_fn | exact EqV_gd | exact EqE_gd | refine gM_splitN ?_ ?_ | refine gM_split ?_ ?_ |  refine condM_splitDN ?_ ?_ | refine condM_splitD ?_ ?_ | refine condM_splitN ?_ ?_ | refine condM_split ?_ ?_ | refine condM_any ?_ ?_ | refine cw (c0) ?_ | refine cw (c1) ?_ | intro _) | (simp [*]) | (refine cw_eq (c0) ?_ ?_; (· (simp [*]; done))) | (refine cw_eq (c1) ?_ ?_; (· (simp [*]; done))))
  | true =>
    rw [hf] at c1
    have hm := few_in hf
    have c2 := copyMap_c m hm
    have c3 := checkMap_c m hm
    have c4 := rCheckMap_c m hm
    by_cases h : (mapS m).2.2 = 0
    · have ok := mapS_ok.1 h
      have c5 := firstShort_c m ok
      have c6 := closed_c m ok
      have c7 := rFirstShort_c m ok
      have c8 := rClosed_c m ok
      have hsq := closed_sq ok.sq_
      have c9 := lists_c (closedS m) (closedS m) (by have := hsq.len; have := ok.l1; omega) (fun k hk => by
        have e := hsq.len
        have := hsq.row k (by omega)
        have := ok.l1
        omega)
      rw [decide_eq_true rfl, hsq.len] at c9
      rw [mapS_zero h] at c3 c4
      clear hm hf h ok hsq
      unfold pairP shP at *
      generalize closedS m = C at *
      cases hR : shortS m with
      | none =>
        rw [hR] at c5 c7
        clear hR
        unfold aMap at *
        refine realcall_intro Try.func12 (by kernel_rfl) rfl (Nat.le_of_ble_eq_true (by kernel_rfl)) ?_
        simp only [Try.results12, Try.ntmps12]
        repeat' (first | (with_reducible first | refine awp_seq ?_ | refine awp_blockS ?_ | refine awp_blockC ?_ | refine awp_blockR ?_ | refine awp_skip ?_ | refine awp_ret ?_ | refine awp_exit ?_ | refine awp_region ?_ | refine awp_regionD (id := 16) 11 mixed (by decide +kernel) ?_ | refine awp_condM ?_ | refine And.intro ?_ ?_ | apply gQ_merge | apply gE_merge | exact EqV_w | exact EqE_w | exact EqV_ptr | exact EqE_ptr | exact EqV_msl | exact EqE_msl | exact EqV_agg | exact EqE_agg | exact EqV_fn | exact EqE_fn | exact EqV_gd | exact EqE_gd | refine gM_splitN ?_ ?_ | refine gM_split ?_ ?_ |  refine condM_splitDN ?_ ?_ | refine condM_splitD ?_ ?_ | refine condM_splitN ?_ ?_ | refine condM_split ?_ ?_ | refine condM_any ?_ ?_ | refine cw (c0) ?_ | refine cw (c1) ?_ | refine cw (c2) ?_ | refine cw (c3) ?_ | refine cw (c4) ?_ | refine cw (c5) ?_ | refine cw (c6) ?_ | refine cw (c7) ?_ | refine cw (c8) ?_ | refine cw (c9) ?_ | intro _) | (simp [*]) | (refine cw_eq (c0) ?_ ?_; (· (simp [*]; done))) | (refine cw_eq (c1) ?_ ?_; (· (simp [*]; done))) | (refine cw_eq (c2) ?_ ?_; (· (simp [*]; done))) | (refine cw_eq (c3) ?_ ?_; (· (simp [*]; done))) | (refine cw_eq (c4) ?_ ?_; (· (simp [*]; done))) | (refine cw_eq (c5) ?_ ?_; (· (simp [*]; done))) | (refine cw_eq (c6) ?_ ?_; (· (simp [*]; done))) | (refine cw_eq (c7) ?_ ?_; (· (simp [*]; done))) | (refine cw_eq (c8) ?_ ?_; (· (simp [*]; done))) | (refine cw_eq (c9) ?_ ?_; (· (simp [*]; done))))
      | some x =>
        obtain ⟨i, k, j⟩ := x
        rw [hR] at c5 c7
        clear hR
        unfold aMap at *
        refine realcall_intro Try.func12 (by kernel_rfl) rfl (Nat.le_of_ble_eq_true (by kernel_rfl)) ?_
        simp only [Try.results12, Try.ntmps12]
        repeat' (first | (with_reducible first | refine awp_seq ?_ | refine awp_blockS ?_ | refine awp_blockC ?_ | refine awp_blockR ?_ | refine awp_skip ?_ | refine awp_ret ?_ | refine awp_exit ?_ | refine awp_region ?_ | refine awp_regionD (id := 16) 11 mixed (by decide +kernel) ?_ | refine awp_condM ?_ | refine And.intro ?_ ?_ | apply gQ_merge | apply gE_merge | exact EqV_w | exact EqE_w | exact EqV_ptr | exact EqE_ptr | exact EqV_msl | exact EqE_msl | exact EqV_agg | exact EqE_agg | exact EqV_fn | exact EqE_fn | exact EqV_gd | exact EqE_gd | refine gM_splitN ?_ ?_ | refine gM_split ?_ ?_ |  refine condM_splitDN ?_ ?_ | refine condM_splitD ?_ ?_ | refine condM_splitN ?_ ?_ | refine condM_split ?_ ?_ | refine condM_any ?_ ?_ | refine cw (c0) ?_ | refine cw (c1) ?_ | refine cw (c2) ?_ | refine cw (c3) ?_ | refine cw (c4) ?_ | refine cw (c5) ?_ | refine cw (c6) ?_ | refine cw (c7) ?_ | refine cw (c8) ?_ | refine cw (c9) ?_ | intro _) | (simp [*]) | (refine cw_eq (c0) ?_ ?_; (· (simp [*]; done))) | (refine cw_eq (c1) ?_ ?_; (· (simp [*]; done))) | (refine cw_eq (c2) ?_ ?_; (· (simp [*]; done))) | (refine cw_eq (c3) ?_ ?_; (· (simp [*]; done))) | (refine cw_eq (c4) ?_ ?_; (· (simp [*]; done))) | (refine cw_eq (c5) ?_ ?_; (· (simp [*]; done))) | (refine cw_eq (c6) ?_ ?_; (· (simp [*]; done))) | (refine cw_eq (c7) ?_ ?_; (· (simp [*]; done))) | (refine cw_eq (c8) ?_ ?_; (· (simp [*]; done))) | (refine cw_eq (c9) ?_ ?_; (· (simp [*]; done))))
    · have c5 := firstShort_bad m hm h
      have c6 := closed_bad m hm h
      unfold pairP at *
      generalize mapS m = X at *
      clear hm hf
      unfold aMap at *
      refine realcall_intro Try.func12 (by kernel_rfl) rfl (Nat.le_of_ble_eq_true (by kernel_rfl)) ?_
      simp only [Try.results12, Try.ntmps12]
      repeat' (first | (with_reducible first | refine awp_seq ?_ | refine awp_blockS ?_ | refine awp_blockC ?_ | refine awp_blockR ?_ | refine awp_skip ?_ | refine awp_ret ?_ | refine awp_exit ?_ | refine awp_region ?_ | refine awp_regionD (id := 16) 11 mixed (by decide +kernel) ?_ | refine awp_condM ?_ | refine And.intro ?_ ?_ | apply gQ_merge | apply gE_merge | exact EqV_w | exact EqE_w | exact EqV_ptr | exact EqE_ptr | exact EqV_msl | exact EqE_msl | exact EqV_agg | exact EqE_agg | exact EqV_fn | exact EqE_fn | exact EqV_gd | exact EqE_gd | refine gM_splitN ?_ ?_ | refine gM_split ?_ ?_ |  refine condM_splitDN ?_ ?_ | refine condM_splitD ?_ ?_ | refine condM_splitN ?_ ?_ | refine condM_split ?_ ?_ | refine condM_any ?_ ?_ | refine cw (c0) ?_ | refine cw (c1) ?_ | refine cw (c2) ?_ | refine cw (c3) ?_ | refine cw (c4) ?_ | refine cw (c5) ?_ | refine cw (c6) ?_ | intro _) | (simp [*, h]) | (refine cw_eq (c0) ?_ ?_; (· (simp [*]; done))) | (refine cw_eq (c1) ?_ ?_; (· (simp [*]; done))) | (refine cw_eq (c2) ?_ ?_; (· (simp [*]; done))) | (refine cw_eq (c3) ?_ ?_; (· (simp [*]; done))) | (refine cw_eq (c4) ?_ ?_; (· (simp [*]; done))) | (refine cw_eq (c5) ?_ ?_; (· (simp [*]; done))) | (refine cw_eq (c6) ?_ ?_; (· (simp [*]; done))))
end Go.Proofs.Ytceimmohnniebaa
